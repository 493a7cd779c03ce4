/- Part 6 of the proof: what it says holds of the given program; no condition. -/
import Derived.Test.YtiodboehkcmdnaaGreatProg
import Derived.KernelRfl
import Derived.Test.YtiodboehkcmdnaaGreatRE
set_option linter.all false
set_option exponentiation.threshold 3000
namespace Fth
open Go Go.Proofs Sh
set_option maxRecDepth 100000
set_option maxHeartbeats 8000000
def JL.At(c:Col)(a:World)(f:AI→AI→Option Bool):Prop:=
 ∀{d e g h l},f d g=some l→BD.rep c.F a e d→BD.rep c.F a h g→
  Calls PG 23 #[Ag e,Ag h] a fun m n=>∃o,m=.returned (.bool l)∧AT [] c a o n
def JL.Spec(f:AI→AI→Option Bool):Prop:=
 ∀a c,JL.At a c f
theorem Td(ac:Nat)(ai:Col)(bj:World)(aj:∀b,ai b<10):JL.At ai bj (JL ac):=by
 intro c cl d cm ak a bk bl
 rw [JL] at a
 obtain ⟨av,aw,rfl,al⟩:=E1 (CD bk)
 obtain ⟨ax,ay,rfl,am⟩:=E1 (CD bl)
 refine Az Tryz.func23 rfl Tryz.ntmps23 rfl fun B an n=>Sr<|Ef<|Bb ai 20 rfl rfl fun bm cq az a0 y=>Ef<|Bb bm 21 rfl rfl fun a1 a2 a3 a4 p=>Va (.bool false)<|AA<|Aa<|Am (fun ao ap=>∃ad ae aq,ao=Env.puts ad [(2,Pt az 0),(3,Pt a3 0),(43,.bool aq)]∧HR ac c d aq=some ak∧AT [] a1 a2 ae ap) ?_ ?_
 refine AL<|have a5:=Bs a0 p;Vx (Lx Du rfl rfl (Bw a5))<|have a6:=K2 Kd.cpx al y p;Bi a fun bn bo a=>Ca (Cg [Ag [I c.type_,Cx c.num,.bool c.bool,Sl av c.list aw]] rfl) (Mr ac a1 a2 bo (BE (x:=c) a6)) ?_
 rintro _ bp ⟨a7,rfl,o⟩
 refine Vr (.bool (!bn))<|Vm<|Bo a (fun q a=>?_) fun q a=>?_
 refine Pg q<|Pg q<|Pg q<|Vp q<|Vm<|Pg rfl<|Pg rfl<|Pg rfl<|Pg rfl<|Pg rfl<|Vr (.bool true)<|Vm<|Pg rfl<|Pg rfl<|Pg rfl<|Pg rfl<|Pg rfl<|Vr (.bool true)<|Vm<|Pg rfl<|Pg rfl<|Pg rfl<|Pg rfl<|Pg rfl<|Vr (.bool true)<|Vm<|Pg rfl<|Pg rfl<|Pg rfl<|Pg rfl<|Pg rfl<|Pg rfl<|Pg rfl<|Vr (.bool true)<|AA<|⟨_,a7,true,Pu,a,(Mo [] o)⟩
 refine have a8:=Bs a4 o;Gx q (Lx Du rfl rfl (Bw a8))<|have a9:=K3 Kd.cpx am y p o;Bi a fun bq br a=>CC (.guard (t:=false) (b:=false) rfl rfl rfl rfl (Cb q)) rfl rfl (Cg [Ag [I d.type_,Cx d.num,.bool d.bool,Sl ax d.list ay]] rfl)<|Calls.mono (Mr ac a7 bp br (BE (x:=d) a9)) ?_
 rintro _ cr ⟨af,rfl,r⟩
 refine ⟨_,rfl,?_⟩
 refine Gr q (.bool (!bq))<|Vp q<|Vm<|Bo a (fun g a=>?_) fun g a=>?_
 refine Pg g<|Pg g<|Pg g<|Pg g<|Pg g<|Vp g<|Vm<|Pg rfl<|Pg rfl<|Pg rfl<|Pg rfl<|Pg rfl<|Vr (.bool true)<|Vm<|Pg rfl<|Pg rfl<|Pg rfl<|Pg rfl<|Pg rfl<|Vr (.bool true)<|Vm<|Pg rfl<|Pg rfl<|Pg rfl<|Pg rfl<|Pg rfl<|Pg rfl<|Pg rfl<|Vr (.bool true)<|AA<|⟨_,af,true,Pu,a,(Tn (Mo [] o) r)⟩
 refine Gx g (Fz Kb rfl)<|have ag:=Y2 a5 o r;Gx g (Ld EZ rfl (Bc ag rfl))<|Gx g (Fz Kb rfl)<|have ah:=Bs a8 r;Gx g (Ld EZ rfl (Bc ah rfl))<|Gr g (.bool (c.type_ != d.type_))<|Vp g<|Vm<|Bo a (fun h a=>?_) fun h a=>?_
 refine Pg h<|Pg h<|Pg h<|Pg h<|Pg h<|Vp h<|Vm<|Pg rfl<|Pg rfl<|Pg rfl<|Pg rfl<|Pg rfl<|Vr (.bool true)<|Vm<|Pg rfl<|Pg rfl<|Pg rfl<|Pg rfl<|Pg rfl<|Pg rfl<|Pg rfl<|Vr (.bool true)<|AA<|⟨_,af,true,Pu,a,(Tn (Mo [] o) r)⟩
 refine Gx h (Fd ID rfl)<|Gx h (Ld IL rfl (Bc ag rfl))<|Gx h (Fd ID rfl)<|Gx h (Ld IL rfl (Bc ah rfl))<|Gx h (v:=.bool (cne c.num d.num)) (Run.cne rfl rfl)<|Vp h<|Vm<|Bo a (fun l a=>?_) fun l a=>?_
 refine Pg l<|Pg l<|Pg l<|Pg l<|Pg l<|Vp l<|Vm<|Pg rfl<|Pg rfl<|Pg rfl<|Pg rfl<|Pg rfl<|Pg rfl<|Pg rfl<|Vr (.bool true)<|AA<|⟨_,af,true,Pu,a,(Tn (Mo [] o) r)⟩
 refine Gx l (Fd K7 rfl)<|Gx l (Ld Oj rfl (Bc ag rfl))<|Gx l (Fd K7 rfl)<|Gx l (Ld Oj rfl (Bc ah rfl))<|Gx l (v:=.bool (!(c.bool==d.bool))) (Run.boolNe AAd rfl rfl)<|Vp l<|Vm<|Bo a (fun e a=>?_) fun e a=>?_
 refine Pg e<|Pg e<|Pg e<|Pg e<|Pg e<|Pg e<|Pg e<|Vp e<|AA<|⟨_,af,true,Pu,a,(Tn (Mo [] o) r)⟩
 refine Gx e (Fd FZ rfl)<|Gx e (Ld Jn rfl (Bc ag rfl))<|have bt:=K2 Kd.cpx a6 o r; ?_
 obtain ⟨ct,cu,bu⟩:=AR bt
 refine Gx e (v:=I (c.list.length:Int)) (Ll JN bu)<|Gx e (Fd FZ rfl)<|Gx e (Ld Jn rfl (Bc ah rfl))<|have bv:=Ss Kd.cpx a9 r; ?_
 obtain ⟨cv,cw,bw⟩:=AR bv
 refine Gx e (v:=I (d.list.length:Int)) (Ll JN bw)<|Gr e (.bool ((c.list.length:Int) != (d.list.length:Int)))<|Vp e<|AA<|⟨_,af,((c.list.length:Int) != (d.list.length:Int)),Pu,a,(Tn (Mo [] o) r)⟩
 rintro _ ap ⟨ad,ae,aq,rfl,a,z⟩
 rw [HR] at a
 refine Cn a (fun bx a=>?_) fun bx a=>?_
 refine Sr<|Va (.bool false)<|AA<|AY ?_
 obtain rfl:=AO a
 refine O1 B an rfl (.tmp rfl)<|⟨ae,rfl,Ho (T2 (Mo [] y) p z) aj⟩
 refine WC.skip<|Aa<|Sr<|Va (I 0)<|AA<|Ad<|Bh (fun u ao ba=>∃ad w m,ao=Env.puts ad [(2,Pt az 0),(3,Pt a3 0),(5,I m)]∧JK c d u m=some ak∧AT [] ae ap w ba) ac ?_ ?_
 exact ⟨_,ae,0,Pu,a,Rf⟩
 rintro u _ ba ⟨ad,w,m,rfl,a,aa⟩
 rcases u with _|u
 exact A3 a
 refine have a:KZ c d (JK c d u) m=some ak:=a; ?_
 obtain ⟨cx,bb⟩:∃s,s=JK c d u:=⟨_,rfl⟩
 rw [←bb,KZ] at a
 refine Aa<|Sr<|Vm<|Vx (Fd FZ rfl)<|have bc:=Y3 a0 p z aa;Vx (Ld Jn rfl (Bc bc rfl))<|have bd:=K4 Kd.cpx al y p z aa; ?_
 obtain ⟨cy,cz,bz⟩:=AR bd
 refine Vx (v:=I (c.list.length:Int)) (Ll JN bz)<|Vr (.bool (decide (m< (c.list.length:Int))))<|AA<|Cn a (fun b0 a=>?_) fun b0 a=>?_
 refine WC.skip<|Aa<|Ad<|Aa<|CL E0 (qs 0 11 .nil) [] [] w (by kernel_rfl) fun be ab=>Qx n rfl (fun _ _=>Fd FZ rfl)<|have b1:=Bs bc ab;Qx n rfl (fun _ ⟨_,f⟩=>Ld Jn rfl (Bc (Bs b1 f) rfl))<|Qx n rfl (v:=I m) (fun _ _=>Mv rfl)<|Bi a fun bf b2 a=>have b3:=Ss Kd.cpx bd ab; ?_
 obtain ⟨b4,b5,c0,bg,b6,b7,b8,b9,ar⟩:=BK (κ:=Kd.cpx) b3 b2
 replace ar:A1 w be b4 (b5+m.toNat*1) bg:=ar
 obtain rfl:=(show bg=[Cx bf] from b9)
 refine Qx n rfl (fun _ _=>Ix JN b6 rfl b7 b8)<|Qx n rfl (fun _ ⟨_,f⟩=>Ld IL rfl (A1.cell0 (Es ar f) rfl))<|Qx n rfl (fun _ _=>Fd FZ rfl)<|have ca:=Y3 a4 z aa ab;Qx n rfl (fun _ ⟨_,f⟩=>Ld Jn rfl (Bc (Bs ca f) rfl))<|Qx n rfl (v:=I m) (fun _ _=>Mv rfl)<|Bi a fun bh cb a=>have cc:=Ss Kd.cpx (K4 Kd.cpx am y p z aa) ab; ?_
 obtain ⟨cd,cf,c1,bi,cg,ch,ci,cj,au⟩:=BK (κ:=Kd.cpx) cc cb
 replace au:A1 w be cd (cf+m.toNat*1) bi:=au
 obtain rfl:=(show bi=[Cx bh] from cj)
 refine Qx n rfl (fun _ _=>Ix JN cg rfl ch ci)<|Qx n rfl (fun _ ⟨_,f⟩=>Ld IL rfl (A1.cell0 (Es au f) rfl))<|Qx n rfl (v:=.bool (cne bf bh)) (fun _ _=>(Run.cne rfl rfl))<|Dv<|Cn a (fun ck a=>?_) fun ck a=>?_
 refine Sr<|Va (.bool false)<|AA<|AY ?_
 obtain rfl:=AO a
 refine O1 B an rfl (.tmp rfl)<|⟨w,rfl,Ho (T4 (Mo [] y) p z aa ab) aj⟩
 refine WC.skip<|AL<|Vm<|Vr (I (Wr (m+1)))<|Va (I (Wr (m+1)))<|AA<|⟨u,Nat.lt_succ_self u,_,w,(Wr (m+1)),Pu,(bb▸a),(Tn (Mo [] aa) ab)⟩
 refine BZ<|Sr<|Va (.bool true)<|AA<|AY ?_
 obtain rfl:=AO a
 refine O1 B an rfl (.tmp rfl)<|⟨w,rfl,Ho (T3 (Mo [] y) p z aa) aj⟩
theorem UU(c:Nat):JL.Spec (JL c):=lk0 (Td c)
def Gw.At(c:Col)(a:World)(f:AI→AI→Option Bool):Prop:=
 ∀{d e g h l},f d g=some l→BD.rep c.F a e d→BD.rep c.F a h g→
  Calls PG 22 #[Ag e,Ag h] a fun m n=>∃o,m=.returned (.bool l)∧AT [] c a o n
def Gw.Spec(f:AI→AI→Option Bool):Prop:=
 ∀a c,Gw.At a c f
theorem SE(u:Nat)(w:Col)(ar:World)(aj:∀b,w b<10):Gw.At w ar (Gw u):=by
 intro d bf c bg ak a au av
 rw [Gw] at a
 obtain ⟨al,am,rfl,y⟩:=E1 (CD au)
 obtain ⟨an,ao,rfl,z⟩:=E1 (CD av)
 refine Az Tryz.func22 rfl Tryz.ntmps22 rfl fun B ap bj=>Sr<|Ef<|Bb w 20 rfl rfl fun aw bk ax aa q=>Ef<|Bb aw 21 rfl rfl fun ab ay az ac l=>Va (.bool false)<|AA<|Aa<|Am (fun ad s=>∃r g ae,ad=Env.puts r [(2,Pt ax 0),(3,Pt az 0),(12,.bool ae)]∧Jk u d c ae=some ak∧AT [] ab ay g s) ?_ ?_
 refine AL<|Vx (Fz Kb rfl)<|have a0:=Bs aa l;Vx (Ld EZ rfl (Bc a0 rfl))<|Vr (.bool (d.type_==0))<|Vm<|Bo a (fun m a=>?_) fun m a=>?_
 refine Gx m (Fz Kb rfl)<|Gx m (Ld EZ rfl (Bc ac rfl))<|Gr m (.bool (c.type_==0))<|Vp m<|AA<|⟨_,ab,(c.type_==0),Pu,a,Rf⟩
 refine Pg m<|Pg m<|Pg m<|Vp m<|AA<|⟨_,ab,false,Pu,a,Rf⟩
 rintro _ s ⟨r,g,ae,rfl,a,h⟩
 rw [Jk] at a
 refine Cn a (fun a1 a=>?_) fun a1 a=>?_
 refine Am (fun ad aq=>∃r af ag,ad=Env.puts r [(4,.bool ag)]∧Hp ag=some ak∧AT [] g s af aq) ?_ ?_
 refine AL<|Vx (Fd ID rfl)<|have ah:=Y2 aa l h;Vx (Ld IL rfl (Bc ah rfl))<|Vx (v:=.bool (ceq d.num ((0,0):Nat×Nat))) (Run.ceq rfl rfl)<|Vm<|Bo a (fun n a=>?_) fun n a=>?_
 refine Gx n (Fd ID rfl)<|have ai:=Bs ac h;Gx n (Ld IL rfl (Bc ai rfl))<|Gx n (v:=.bool (ceq c.num ((0,0):Nat×Nat))) (Run.ceq rfl rfl)<|Vp n<|Vm<|Bo a (fun o a=>?_) fun o a=>?_
 refine Gx o (Fd K7 rfl)<|Gx o (Ld Oj rfl (Bc ah rfl))<|Gr o (.bool (!d.bool))<|Vp o<|Vm<|Bo a (fun p a=>?_) fun p a=>?_
 refine Gx p (Fd K7 rfl)<|Gx p (Ld Oj rfl (Bc ai rfl))<|Gr p (.bool (!c.bool))<|Vp p<|Vm<|Bo a (fun e a=>?_) fun e a=>?_
 refine Gx e (Fd FZ rfl)<|Gx e (Ld Jn rfl (Bc ah rfl))<|have a2:=K3 Kd.cpx y q l h; ?_
 obtain ⟨bl,bm,a3⟩:=AR a2
 refine Gx e (v:=I (d.list.length:Int)) (Ll JN a3)<|Gr e (.bool ((d.list.length:Int)==0))<|Vp e<|Vm<|Bo a (fun f a=>?_) fun f a=>?_
 refine Gx f (Fd FZ rfl)<|Gx f (Ld Jn rfl (Bc ai rfl))<|have a4:=K3 Kd.cpx z q l h; ?_
 obtain ⟨bn,bo,a5⟩:=AR a4
 refine Gx f (v:=I (c.list.length:Int)) (Ll JN a5)<|Gr f (.bool ((c.list.length:Int)==0))<|Vp f<|Va (.bool ((c.list.length:Int)==0))<|AA<|⟨_,g,((c.list.length:Int)==0),Pu,a,Rf⟩
 refine Pg f<|Pg f<|Pg f<|Pg f<|Vp f<|Va (.bool false)<|AA<|⟨_,g,false,Pu,a,Rf⟩
 refine Pg e<|Pg e<|Pg e<|Pg e<|Vp e<|Vm<|Pg rfl<|Pg rfl<|Pg rfl<|Pg rfl<|Vr (.bool false)<|Va (.bool false)<|AA<|⟨_,g,false,Pu,a,Rf⟩
 refine Pg p<|Pg p<|Pg p<|Vp p<|Vm<|Pg rfl<|Pg rfl<|Pg rfl<|Pg rfl<|Vr (.bool false)<|Vm<|Pg rfl<|Pg rfl<|Pg rfl<|Pg rfl<|Vr (.bool false)<|Va (.bool false)<|AA<|⟨_,g,false,Pu,a,Rf⟩
 refine Pg o<|Pg o<|Pg o<|Vp o<|Vm<|Pg rfl<|Pg rfl<|Pg rfl<|Vr (.bool false)<|Vm<|Pg rfl<|Pg rfl<|Pg rfl<|Pg rfl<|Vr (.bool false)<|Vm<|Pg rfl<|Pg rfl<|Pg rfl<|Pg rfl<|Vr (.bool false)<|Va (.bool false)<|AA<|⟨_,g,false,Pu,a,Rf⟩
 refine Pg n<|Pg n<|Pg n<|Vp n<|Vm<|Pg rfl<|Pg rfl<|Pg rfl<|Vr (.bool false)<|Vm<|Pg rfl<|Pg rfl<|Pg rfl<|Vr (.bool false)<|Vm<|Pg rfl<|Pg rfl<|Pg rfl<|Pg rfl<|Vr (.bool false)<|Vm<|Pg rfl<|Pg rfl<|Pg rfl<|Pg rfl<|Vr (.bool false)<|Va (.bool false)<|AA<|⟨_,g,false,Pu,a,Rf⟩
 rintro _ aq ⟨r,af,ag,rfl,a,a6⟩
 rw [Hp] at a
 refine AY ?_
 obtain rfl:=AO a
 refine O1 B ap rfl (.tmp rfl)<|⟨af,rfl,Ho (T3 (Mo [] q) l h a6) aj⟩
 refine WC.skip<|Sr<|have a7:=Y2 aa l h;Vx (Lx Du rfl rfl (Bw a7))<|have a8:=Bs ac h;Vx (Lx Du rfl rfl (Bw a8))<|have a9:=K3 Kd.cpx y q l h;have ba:=K3 Kd.cpx z q l h;Bi a fun bb bc a=>Ca (Cg [Ag [I d.type_,Cx d.num,.bool d.bool,Sl al d.list am],Ag [I c.type_,Cx c.num,.bool c.bool,Sl an c.list ao]] rfl) (UU u g s bc (BE (x:=d) a9) (BE (x:=c) ba)) ?_
 rintro _ bp ⟨bd,rfl,be⟩
 refine Va (.bool bb)<|AA<|AY ?_
 obtain rfl:=AO a
 refine O1 B ap rfl (.tmp rfl)<|⟨bd,rfl,Ho (T3 (Mo [] q) l h be) aj⟩
theorem Te(c:Nat):Gw.Spec (Gw c):=lk0 (SE c)
def ref06_within.At(c:Col)(a:World)(f:AB→Option (List Bts)):Prop:=
 ∀{d e g},f d=some g→AJ.rep c.F a e d→
  Calls PG 42 #[Ag e] a fun n h=>∃l m,n=.returned m∧AT [] c a l h∧Slc BY l.F h m g
def ref06_within.Spec(f:AB→Option (List Bts)):Prop:=
 ∀a c,ref06_within.At a c f
structure BA.Good(a:BA):Prop where
 ref06_within:ref06_within.Spec a.ref06_within
theorem RA(g:BA)(z:Nat)(bk:BA.Good g)(ak:Col)(bl:World)(bm:∀b,ak b<10):ref06_within.At ak bl (Jl g z):=by
 intro c cv aa a bn
 rw [Jl] at a
 obtain ⟨cx,cy,rfl,aq⟩:=E1 (Ak bn)
 refine Az Tryz.func42 rfl Tryz.ntmps42 rfl fun B bo cz=>Sr<|Ef<|Bb ak 20 rfl rfl fun al bp am ab ar=>Va (.slice none 0 0)<|AA<|Sr<|Va (.slice none 0 0)<|AA<|Am (fun p ac=>∃h n l ad ae,p=Env.puts h [(1,Pt am 0),(3,Sl ad l ae)]∧Iz g z c l=some aa∧AT [22] al bp n ac∧Own BY 9 n ac 22 (Sl ad l ae) l) ?_ ?_
 refine Sr<|Vx (Fd EB rfl)<|Vx (Ld B1 rfl (Bc ab rfl))<|Vx (v:=.bool (!(c.name==([]:Bts)))) (Run.strNe rfl rfl)<|AA<|Cn a (fun bq a=>?_) fun bq a=>?_
 refine AL<|Vm<|Vx (Fd EB rfl)<|Vx (Ld B1 rfl (Bc ab rfl))<|Ef<|Ba (cs:=[Sb c.name]) al 21 [[Sb c.name]] EE Mm rfl rfl (.cons rfl rfl rfl .nil) rfl fun au av br bt bu=>have bv:Own BY 9 au av 21 (.slice (some ⟨br,0,none⟩) 1 1) ([c.name]:List Bts):=Own.lit (css:=[[Sb c.name]]) bt rfl rfl rfl (AQ rfl As) (Av rfl B4) rfl;Bi a fun c0 aw a=>Ef<|Ay (κ:=BY) rfl rfl (Own.nil:Own BY 9 au av 22 _ _) dcd No (BF bv) (B3 aw) (B5 aw) fun c1 bw c2 ax bx=>?_
 obtain ⟨ay,az,rfl⟩:=Own.len ax
 refine Va (Sl ay ((([]:List Bts)++([c.name]:List Bts))) az)<|AA<|⟨_,bw,(([]:List Bts)++([c.name]:List Bts)),ay,az,Pu,a,(Tn (Mo [22] bu) bx),ax⟩
 refine WC.skip<|⟨_,al,([]:List Bts),none,0,Pu,a,(AT.refl [22] _ _),Own.nil⟩
 rintro _ ac ⟨h,n,l,ad,ae,rfl,a,af,a0⟩
 rw [Iz] at a
 refine Am (fun p ag=>∃h q o ah ai,p=Env.puts h [(1,Pt am 0),(3,Sl ah o ai)]∧J9 g z c o=some aa∧AT [22] n ac q ag∧Own BY 9 q ag 22 (Sl ah o ai) o) ?_ ?_
 refine Sr<|Vx (Fd MG rfl)<|have a1:=Bs ab af;Vx (Ld B1 rfl (Bc a1 rfl))<|Vx (v:=.bool (!(c.tail==([]:Bts)))) (Run.strNe rfl rfl)<|AA<|Cn a (fun bz a=>?_) fun bz a=>?_
 refine AL<|Vm<|Vx (Fd MG rfl)<|Vx (Ld B1 rfl (Bc a1 rfl))<|Ef<|Ba (cs:=[Sb c.tail]) n 23 [[Sb c.tail]] EE Mm rfl rfl (.cons rfl rfl rfl .nil) rfl fun b0 b1 b2 b3 a2=>have b4:Own BY 9 b0 b1 23 (.slice (some ⟨b2,0,none⟩) 1 1) ([c.tail]:List Bts):=Own.lit (css:=[[Sb c.tail]]) b3 rfl rfl rfl (AQ rfl As) (Av rfl B4) rfl;have b5:=Os a0 a2;Bi a fun c3 a3 a=>Ef<|Ay (κ:=BY) rfl rfl b5 dcd No (BF b4) (B3 a3) (B5 a3) fun c4 b6 c5 a4 b7=>?_
 obtain ⟨a5,a6,rfl⟩:=Own.len a4
 refine Va (Sl a5 ((l++([c.tail]:List Bts))) a6)<|AA<|⟨_,b6,(l++([c.tail]:List Bts)),a5,a6,Pu,a,(Tn (Mo [22] a2) b7),a4⟩
 refine WC.skip<|⟨_,n,l,ad,ae,Pu,a,(AT.refl [22] _ _),a0⟩
 rintro _ ag ⟨h,q,o,ah,ai,rfl,a,an,b8⟩
 rw [J9] at a
 refine Aa<|Sr<|Va (I 0)<|AA<|Ad<|Bh (fun m p r=>∃h u e w y f,p=Env.puts h [(1,Pt am 0),(3,Sl w e y),(4,I f)]∧Gy g c m e f=some aa∧AT [22] q ag u r∧Own BY 9 u r 22 (Sl w e y) e) z ?_ ?_
 exact ⟨_,q,o,ah,ai,0,Pu,a,(AT.refl [22] _ _),b8⟩
 rintro m _ r ⟨h,u,e,w,y,f,rfl,a,aj,a7⟩
 rcases m with _|m
 exact A3 a
 refine have a:HG g c (Gy g c m) e f=some aa:=a; ?_
 obtain ⟨c6,a8⟩:∃s,s=Gy g c m:=⟨_,rfl⟩
 rw [←a8,HG] at a
 refine Aa<|Sr<|Vm<|Vx (Fd Bl rfl)<|have a9:=Y3 ab af an aj;Vx (Ld EC rfl (Bc a9 rfl))<|have ba:=K4 AJ aq ar af an aj; ?_
 obtain ⟨c7,c8,b9⟩:=AR ba
 refine Vx (v:=I (c.args.length:Int)) (Ll Cp b9)<|Vr (.bool (decide (f< (c.args.length:Int))))<|AA<|Cn a (fun ca a=>?_) fun ca a=>?_
 refine WC.skip<|Aa<|Ad<|Sr<|Vx (Fd Bl rfl)<|Vx (Ld EC rfl (Bc a9 rfl))<|Vm<|Bi a fun d cb a=>?_
 obtain ⟨cc,cd,c9,cf,cg,ch,ci,cj,ao⟩:=BK (κ:=AJ) ba cb
 replace ao:A1 u r cc (cd+f.toNat*7) cf:=ao
 obtain ⟨bc,bd,rfl,bb⟩:=E1 (Ak cj)
 refine Vx (Ix Cp cg rfl ch ci)<|Vx (Lx A8 rfl rfl (A1.part0 ao [I d.op,Sb d.name,Sb d.tail,I d.type_,Cx d.num,Sl bc d.args bd,I d.at_] rfl))<|Bi a fun ap ck a=>Ca (Cg [Ag [I d.op,Sb d.name,Sb d.tail,I d.type_,Cx d.num,Sl bc d.args bd,I d.at_]] rfl) (bk.ref06_within u r ck (Ab (x:=d) bb)) ?_
 rintro _ db ⟨dc,de,rfl,be,bf⟩
 obtain ⟨cl,cm,rfl⟩:=AR bf
 refine Va (Sl cl ap cm)<|AA<|AL<|Vm<|Vm<|have cn:=Os a7 be;Bi a fun df bg a=>Ef<|Ay (κ:=BY) rfl rfl cn dcd No (Cc bf) (B3 bg) (B5 bg) fun dg co dh bh cq=>?_
 obtain ⟨bi,bj,rfl⟩:=Own.len bh
 refine Va (Sl bi ((e++ap)) bj)<|AA<|AL<|Vm<|Vr (I (Wr (f+1)))<|Va (I (Wr (f+1)))<|AA<|⟨m,Nat.lt_succ_self m,_,co,(e++ap),bi,bj,(Wr (f+1)),Pu,(a8▸a),(T2 (Mo [22] aj) be cq),bh⟩
 refine BZ<|Sr<|Vm<|Va (Sl w e y)<|AA<|AY ?_
 obtain ⟨cr,ct,cu⟩:=Own.freeze (S:=[22]) a7 dcd dcd
 obtain rfl:=AO a
 refine O1 B bo rfl (.tmp rfl)<|⟨cr,Sl w e y,rfl,Ho (T4 (Mo [22] ar) af an aj ct) bm,cu⟩
theorem RB(a:BA)(d:Nat)(f:BA.Good a):ref06_within.Spec (Jl a d):=lk0 (RA a d f)
theorem BA.good:∀a,BA.Good (BA.at a)
 |0=>⟨by intro c d;intros;(try intro _);intros;exact A3 (by assumption)⟩
 |n+1=>⟨RB _ n (BA.good n)⟩
theorem SF(a:Nat):ref06_within.Spec (ref06_within a):=(BA.good a).ref06_within
def Gh.At(c:Col)(a:World)(f:(List Bts)→Option (List Bts)):Prop:=
 ∀{d v0 e},f d=some e→Slc BY c.F a v0 d→
  Calls PG 43 #[v0] a fun m g=>∃h l,m=.returned l∧AT [] c a h g∧Slc BY h.F g l e
def Gh.Spec(f:(List Bts)→Option (List Bts)):Prop:=
 ∀a c,Gh.At a c f
theorem RC(r:Nat)(ao:Col)(bd:World)(b5:∀b,ao b<10):Gh.At ao bd (Gh r):=by
 intro n v0 ae a be
 rw [Gh] at a
 obtain ⟨ai,aj,rfl⟩:=AR be
 refine Az Tryz.func43 rfl Tryz.ntmps43 rfl fun B b6 c=>Sr<|Va (.slice none 0 0)<|AA<|Sr<|Va (.slice none 0 0)<|AA<|Aa<|Sr<|Va (I 0)<|AA<|Ad<|Bh (fun u z af=>∃o ak l aa ab g,z=Env.puts o [(0,Sl ai n aj),(3,Sl aa l ab),(4,I g)]∧CZ r n u l g=some ae∧AT [21] ao bd ak af∧Own BY 9 ak af 21 (Sl aa l ab) l) r ?_ ?_
 exact ⟨_,ao,([]:List Bts),none,0,0,Pu,a,(AT.refl [21] _ _),Own.nil⟩
 rintro u _ af ⟨o,ak,l,aa,ab,g,rfl,a,a4,ap⟩
 rcases u with _|u
 exact A3 a
 refine have a:HI r n (CZ r n u) l g=some ae:=a; ?_
 obtain ⟨ag,bf⟩:∃s,s=CZ r n u:=⟨_,rfl⟩
 rw [←bf,HI] at a
 refine Aa<|Sr<|Vm<|Vm<|have bg:=Ss BY be a4; ?_
 obtain ⟨dw,dx,b7⟩:=AR bg
 refine Vx (v:=I (n.length:Int)) (Ll EE b7)<|Vr (.bool (decide (g< (n.length:Int))))<|AA<|Cn a (fun b8 a=>?_) fun b8 a=>?_
 refine WC.skip<|Am (fun z a5=>∃o aq ah ar au,z=Env.puts o [(0,Sl ai n aj),(3,Sl ar ah au),(4,I g)]∧I0 g ag ah=some ae∧AT [21] ak af aq a5∧Own BY 9 aq a5 21 (Sl ar ah au) ah) ?_ ?_
 refine Ad<|Aa<|Sr<|Vm<|Vm<|Vm<|Bi a fun f b9 a=>?_
 obtain ⟨ca,cb,dy,bh,av,aw,ax,cc,ay⟩:=BK (κ:=BY) bg b9
 replace ay:A1 ak af ca (cb+g.toNat*1) bh:=ay
 obtain rfl:=(show bh=[Sb f] from cc)
 refine Vx (Ix EE av rfl aw ax)<|Vx (Ld B1 rfl (A1.cell0 ay rfl)) ?_
 obtain ⟨cd,dz,cf,cg⟩:=Own.lend ap dcd
 refine Bi a fun d0 ch a=>Ca (Cg [Sl aa l ab,Sb f] rfl) (MV r cd af ch cf) ?_
 rintro _ d1 ⟨d2,rfl,ci⟩
 obtain ⟨bi,al⟩:=cg [] _ _ ci dcd
 refine AA<|Cn a (fun cj a=>?_) fun cj a=>?_
 refine BZ<|have ck:=Os ap al;⟨_,bi,l,aa,ab,Pu,a,(Mo [21] al),ck⟩
 refine WC.skip<|Sr<|Vm<|have bj:=Os ap al; ?_
 obtain ⟨d3,d4,cl⟩:=Own.len bj
 refine Vx (v:=I (l.length:Int)) (Ll EE cl)<|Va (I (l.length:Int))<|AA<|Sr<|Vm<|Vm<|Vm<|Vx (Ix EE av rfl aw ax)<|have a6:=Es ay al;Vx (Ld B1 rfl (A1.cell0 a6 rfl))<|Ef<|Ba (cs:=[Sb f]) bi 20 [[Sb f]] EE Mm rfl rfl (.cons rfl rfl rfl .nil) rfl fun cm cn co cq az=>have cr:Own BY 9 cm cn 20 (.slice (some ⟨co,0,none⟩) 1 1) ([f]:List Bts):=Own.lit (css:=[[Sb f]]) cq rfl rfl rfl (AQ rfl As) (Av rfl B4) rfl;have ct:=Os bj az;Bi a fun d5 bk a=>Ef<|Ay (κ:=BY) rfl rfl ct dcd No (BF cr) (B3 bk) (B5 bk) fun d6 bl cu bm a7=>?_
 obtain ⟨bn,bo,rfl⟩:=Own.len bm
 refine Va (Sl bn ((l++([f]:List Bts))) bo)<|AA<|Aa<|Ad<|Bh (fun w z a0=>∃o y m p q d,z=Env.puts o [(0,Sl ai n aj),(3,Sl p m q),(4,I g),(5,I d)]∧F0 g ag f w m d=some ae∧AT [21] bl cu y a0∧Own BY 9 y a0 21 (Sl p m q) m) r ?_ ?_
 exact ⟨_,bl,(l++([f]:List Bts)),bn,bo,(l.length:Int),Pu,a,(AT.refl [21] _ _),bm⟩
 rintro w _ a0 ⟨o,y,m,p,q,d,rfl,a,a1,a8⟩
 rcases w with _|w
 exact A3 a
 refine have a:HH g ag f (F0 g ag f w) m d=some ae:=a; ?_
 obtain ⟨cv,bp⟩:∃s,s=F0 g ag f w:=⟨_,rfl⟩
 rw [←bp,HH] at a
 refine Aa<|Am (fun z am=>∃o ac a9,z=Env.puts o [(0,Sl ai n aj),(3,Sl p m q),(4,I g),(5,I d),(40,.bool a9)]∧H9 g ag f m d cv a9=some ae∧AT [] y a0 ac am) ?_ ?_
 refine CL E0 (qs 0 14 .nil) [] [] y (by kernel_rfl) fun cw a2=>Qx c rfl (v:=I d) (fun _ _=>Mv rfl)<|Qx c rfl (v:=.bool (decide (d>0))) (fun _ _=>rfl)<|Qx c rfl (v:=.bool (decide (d>0))) (fun _ _=>Mv rfl)<|Bo a (fun e a=>?_) fun e a=>?_
 refine Qg c rfl e (v:=Sl p m q) (fun _ _=>Mv rfl)<|Qg c rfl e (v:=I d) (fun _ _=>Mv rfl)<|Qg c rfl e (v:=I (Wr (d - 1))) (fun _ _=>rfl)<|Bi a fun ad cx a=>have cy:=Os a8 a2; ?_
 obtain ⟨cz,d7,bq,c0,c1,c2,c3,ba⟩:=Ph (κ:=BY) cy cx
 replace ba:Mz 21 y cw cz (0+((Wr (d - 1))).toNat*1) bq:=ba
 obtain rfl:=(show bq=[Sb ad] from c3)
 refine Qg c rfl e (fun _ _=>Ix EE c0 rfl c1 c2)<|Qg c rfl e (fun _ ⟨_,h⟩=>Ld B1 rfl (Mz.cell0 (Mz.step ba h dcd) rfl))<|Qg c rfl e (v:=Sl ai n aj) (fun _ _=>Mv rfl)<|Qg c rfl e (v:=I g) (fun _ _=>Mv rfl)<|Qg c rfl e (fun _ _=>Ix EE av rfl aw ax)<|have c4:=Es (Es (Es (Es a6 az) a7) a1) a2;Qg c rfl e (fun _ ⟨_,h⟩=>Ld B1 rfl (A1.cell0 (Es c4 h) rfl))<|Qg c rfl e (v:=.bool (!(Op.bytesLess ad f||ad==f))) (fun _ _=>Run.strGt rfl rfl)<|Qx c rfl (v:=.bool (!(Op.bytesLess ad f||ad==f))) (fun _ _=>(Pk e))<|Dv<|⟨_,y,(!(Op.bytesLess ad f||ad==f)),Pu,a,(Mo [] a2)⟩
 refine Qp c rfl e<|Qp c rfl e<|Qp c rfl e<|Qp c rfl e<|Qp c rfl e<|Qp c rfl e<|Qp c rfl e<|Qp c rfl e<|Qp c rfl e<|Qp c rfl e<|Qx c rfl (v:=.bool false) (fun _ _=>(Pk e))<|Dv<|⟨_,y,false,Pu,a,(Mo [] a2)⟩
 rintro _ am ⟨o,ac,a9,rfl,a,an⟩
 rw [H9] at a
 refine Cn a (fun c5 a=>?_) fun c5 a=>?_
 refine WC.skip<|Ad<|Sr<|Vm<|Vm<|Vm<|Vm<|Vr (I (Wr (d - 1)))<|Bi a fun a3 c6 a=>have bb:=Os a8 an; ?_
 obtain ⟨c7,d8,br,c8,c9,da,db,bc⟩:=Ph (κ:=BY) bb c6
 replace bc:Mz 21 ac am c7 (0+((Wr (d - 1))).toNat*1) br:=bc
 obtain rfl:=(show br=[Sb a3] from db)
 refine Vx (Ix EE c8 rfl c9 da)<|Vx (Ld B1 rfl (Mz.cell0 bc rfl))<|Bi a fun dc de a=>?_
 obtain ⟨df,d9,bt,bu,bv,bw,dg,bx⟩:=Ph (κ:=BY) bb de
 replace bx:Mz 21 ac am df (0+d.toNat*1) bt:=bx
 obtain rfl:=(show bt=[Sb dc] from dg)
 refine Vx (Ix EE bu rfl bv bw)<|Eu<|P6 (κ:=BY) (cs:=[Sb a3]) bb bu dcd Sp rfl rfl bv bw rfl rfl rfl fun ea dh di=>AA<|AL<|Vm<|Vr (I (Wr (d - 1)))<|Va (I (Wr (d - 1)))<|AA<|⟨w,Nat.lt_succ_self w,_,ac,(m.set d.toNat a3),p,q,(Wr (d - 1)),OZ (.cons rfl (.cons (show (.slice p m.length q:Value)=.slice p ((m.set d.toNat a3)).length q by simp only [List.length_set]) (.cons rfl (.cons rfl .nil)))),(bp▸a),(T2 (Mo [21] a1) an di),(by simpa only [Sl,List.length_set] using dh)⟩
 refine BZ<|AL<|Vm<|Vm<|Vm<|Vm<|Vx (Ix EE av rfl aw ax)<|have dj:=Es (Es (Es (Es a6 az) a7) a1) an;Vx (Ld B1 rfl (A1.cell0 dj rfl))<|Bi a fun dk dl a=>have bz:=Os a8 an; ?_
 obtain ⟨dm,eb,b0,b1,b2,b3,dn,b4⟩:=Ph (κ:=BY) bz dl
 replace b4:Mz 21 ac am dm (0+d.toNat*1) b0:=b4
 obtain rfl:=(show b0=[Sb dk] from dn)
 refine Vx (Ix EE b1 rfl b2 b3)<|Eu<|P6 (κ:=BY) (cs:=[Sb f]) bz b1 dcd Sp rfl rfl b2 b3 rfl rfl rfl fun ec dp dq=>AA<|⟨_,ac,(m.set d.toNat f),p,q,OZ (.cons rfl (.cons (show (.slice p m.length q:Value)=.slice p ((m.set d.toNat f)).length q by simp only [List.length_set]) (.cons rfl .nil))),a,(Tn (T4 (Mo [21] al) az a7 a1 an) dq),(by simpa only [Sl,List.length_set] using dp)⟩
 rintro _ a5 ⟨o,aq,ah,ar,au,rfl,a,dr,ds⟩
 rw [I0] at a
 refine AL<|Vm<|Vr (I (Wr (g+1)))<|Va (I (Wr (g+1)))<|AA<|⟨u,Nat.lt_succ_self u,_,aq,ah,ar,au,(Wr (g+1)),Pu,(bf▸a),(Tn (Mo [21] a4) dr),ds⟩
 refine BZ<|Sr<|Vm<|Va (Sl aa l ab)<|AA<|AY ?_
 obtain ⟨dt,du,dv⟩:=Own.freeze (S:=[21]) ap dcd dcd
 obtain rfl:=AO a
 refine O1 B b6 rfl (.tmp rfl)<|⟨dt,Sl aa l ab,rfl,Ho (Tn (Mo [21] a4) du) b5,dv⟩
theorem SG(c:Nat):Gh.Spec (Gh c):=lk0 (RC c)
def Gz.At(c:Col)(a:World)(f:AE→Option (List Bts)):Prop:=
 ∀{d e g},f d=some g→AH.rep c.F a e d→
  Calls PG 21 #[Ag e] a fun n h=>∃l m,n=.returned m∧AT [] c a l h∧Slc BY l.F h m g
def Gz.Spec(f:AE→Option (List Bts)):Prop:=
 ∀a c,Gz.At a c f
theorem SH(f:Nat)(r:Col)(a4:World)(a5:∀b,r b<10):Gz.At r a4 (Gz f):=by
 intro a cf ab c a6
 rw [Gz] at c
 obtain ⟨cg,ch,rfl,ac,ad⟩:=DE a6
 obtain ⟨ci,cj,rfl⟩:=AR ac
 obtain ⟨ae,af,rfl⟩:=AR ad
 refine Az Tryz.func21 rfl Tryz.ntmps21 rfl fun B a7 ck=>Sr<|Ef<|Bb r 20 rfl rfl fun a8 cl a9 ag u=>Va (.slice none 0 0)<|AA<|Sr<|Vx (Fz Li rfl)<|Vx (Ld B1 rfl (Bc ag rfl))<|Ef<|Ba (cs:=[Sb a.name]) a8 21 [[Sb a.name]] EE Mm rfl rfl (.cons rfl rfl rfl .nil) rfl fun w ah y ba o=>have bb:Own BY 9 w ah 21 (.slice (some ⟨y,0,none⟩) 1 1) ([a.name]:List Bts):=Own.lit (css:=[[Sb a.name]]) ba rfl rfl rfl (AQ rfl As) (Av rfl B4) rfl;Va (Sl (some ⟨y,0,none⟩) (([a.name]:List Bts)) 1)<|AA<|Aa<|Sr<|Va (I 0)<|AA<|Ad<|Bh (fun g bc m=>∃ai h d p q e,bc=Env.puts ai [(1,Pt a9 0),(3,Sl p d q),(4,I e)]∧Hq f a g d e=some ab∧AT [21] w ah h m∧Own BY 9 h m 21 (Sl p d q) d) f ?_ ?_
 exact ⟨_,w,([a.name]:List Bts),(some ⟨y,0,none⟩),1,0,Pu,c,(AT.refl [21] _ _),bb⟩
 rintro g _ m ⟨ai,h,d,p,q,e,rfl,c,n,aj⟩
 rcases g with _|g
 exact A3 c
 refine have c:IA f a (Hq f a g) d e=some ab:=c; ?_
 obtain ⟨cm,ak⟩:∃s,s=Hq f a g:=⟨_,rfl⟩
 rw [←ak,IA] at c
 refine Aa<|Sr<|Vm<|Vx (Fd Eh rfl)<|have z:=Y2 ag o n;Vx (Ld E4 rfl (Bc z rfl))<|have al:=K3 AS ac u o n; ?_
 obtain ⟨cn,co,bd⟩:=AR al
 refine Vx (v:=I (a.params.length:Int)) (Ll ED bd)<|Vr (.bool (decide (e< (a.params.length:Int))))<|AA<|Cn c (fun be c=>?_) fun be c=>?_
 refine WC.skip<|Aa<|Ad<|AL<|Vm<|Vx (Fd Eh rfl)<|Vx (Ld E4 rfl (Bc z rfl))<|Vm<|Bi c fun l bf c=>?_
 obtain ⟨bg,bh,cq,bi,bj,bk,bl,bm,aa⟩:=BK (κ:=AS) al bf
 replace aa:A1 h m bg (bh+e.toNat*3) bi:=aa
 obtain rfl:=Fv bm
 refine Vx (Ix ED bj rfl bk bl)<|Vx (Fz Lj rfl)<|Vx (Ld B1 rfl (A1.cell0 aa rfl))<|Ef<|Ba (cs:=[Sb l.name]) h 22 [[Sb l.name]] EE Mm rfl rfl (.cons rfl rfl rfl .nil) rfl fun bn bo bp bq am=>have br:Own BY 9 bn bo 22 (.slice (some ⟨bp,0,none⟩) 1 1) ([l.name]:List Bts):=Own.lit (css:=[[Sb l.name]]) bq rfl rfl rfl (AQ rfl As) (Av rfl B4) rfl;have bt:=Os aj am;Bi c fun cr an c=>Ef<|Ay (κ:=BY) rfl rfl bt dcd No (BF br) (B3 an) (B5 an) fun ct bu cu ao bv=>?_
 obtain ⟨ap,aq,rfl⟩:=Own.len ao
 refine Va (Sl ap ((d++([l.name]:List Bts))) aq)<|AA<|AL<|Vm<|Vr (I (Wr (e+1)))<|Va (I (Wr (e+1)))<|AA<|⟨g,Nat.lt_succ_self g,_,bu,(d++([l.name]:List Bts)),ap,aq,(Wr (e+1)),Pu,(ak▸c),(T2 (Mo [21] n) am bv),ao⟩
 refine BZ<|Sr<|Vx (Fd G8 rfl)<|Vx (Lx A8 rfl rfl (Bk.part z 3 [I a.body.op,Sb a.body.name,Sb a.body.tail,I a.body.type_,Cx a.body.num,Sl ae a.body.args af,I a.body.at_] rfl))<|have bw:=K3 AJ ad u o n;Bi c fun ar bx c=>Ca (Cg [Ag [I a.body.op,Sb a.body.name,Sb a.body.tail,I a.body.type_,Cx a.body.num,Sl ae a.body.args af,I a.body.at_]] rfl) (SF f h m bx (Ab (x:=(AB.mk a.body.op a.body.name a.body.tail a.body.type_ a.body.num a.body.args a.body.at_)) bw)) ?_
 rintro _ bz ⟨cv,cw,rfl,au,av⟩
 obtain ⟨aw,ax,rfl⟩:=AR av
 refine Va (Sl aw ar ax)<|AA<|Sr<|Vm<|Vm<|have b0:=Os aj au; ?_
 obtain ⟨b1,ay,b2⟩:=Own.freeze (S:=[21]) b0 dcd dcd
 refine have b3:=Ss BY av ay;Bi c fun b4 b5 c=>Ca (Cg [Sl p d q,Sl aw ar ax] rfl) (Pd b1 bz b5 b2 b3) ?_
 rintro _ b6 ⟨b7,cx,rfl,b8,az⟩
 obtain ⟨b9,ca,rfl⟩:=AR az
 refine Bi c fun a0 cb c=>Ca (Cg [Sl b9 b4 ca] rfl) (SG f b7 b6 cb az) ?_
 rintro _ cy ⟨cc,cz,rfl,cd,a1⟩
 obtain ⟨a2,a3,rfl⟩:=AR a1
 refine Va (Sl a2 a0 a3)<|AA<|AY ?_
 obtain rfl:=AO c
 refine O1 B a7 rfl (.tmp rfl)<|⟨cc,Sl a2 a0 a3,rfl,Ho (T2 (T4 (Mo [21] u) o n au ay) b8 cd) a5,a1⟩
theorem Tf(c:Nat):Gz.Spec (Gz c):=lk0 (SH c)
def CG.At(c:Col)(a:World)(f:Ea→Int→Option Bool):Prop:=
 ∀{d e g h},f d g=some h→NZ.rep c.F a e d→
  Calls PG 7 #[Ag e,I g] a fun l m=>∃n,l=.returned (.bool h)∧AT [] c a n m
def CG.Spec(f:Ea→Int→Option Bool):Prop:=
 ∀a c,CG.At a c f
end Fth
namespace Fth
open Go Go.Proofs Sh
set_option maxRecDepth 100000
set_option maxHeartbeats 8000000
theorem PT(ay:Nat)(ei:Col)(i7:World)(cc:∀b,ei b<10):CG.At ei i7 (CG ay):=by
 intro a2 sh a0 d2 c i8
 rw [CG] at c
 obtain ⟨fx,fy,rfl,fw⟩:=E1 (P8 i8)
 refine Az Tryz.func7 rfl Tryz.ntmps7 rfl fun B cd an=>Sr<|Ef<|Bb ei 20 rfl rfl fun i9 ja ej jb b7=>Va (.bool false)<|AA<|Aa<|Sr<|Bi c fun jc jd c=>Ca (Cg [] rfl) (TT ay i9 ja jd) ?_
 rintro _ je ⟨fz,rfl,bi⟩
 refine Vr (.bool (!jc))<|AA<|Cn c (fun jf c=>?_) fun jf c=>?_
 refine Sr<|Va (.bool false)<|AA<|AY ?_
 obtain rfl:=AO c
 refine O1 B cd rfl (.tmp rfl)<|⟨fz,rfl,Ho (Tn (Mo [] b7) bi) cc⟩
 refine WC.skip<|Sr<|have f0:=Bs jb bi;Vx (Lx AAM rfl rfl (Bw f0))<|have jg:=K2 Kd.u8 fw b7 bi;Bi c fun n jh c=>Ca (Cg [Ag [Sl fx a2.text fy,Sb a2.name,Sb a2.args]] rfl) (NB ay fz je jh (P7 (x:=a2) jg)) ?_
 rintro _ sj ⟨ji,sk,sl,rfl,cf,jj,f1⟩
 obtain ⟨bj,bk,rfl,f2⟩:=E1 (BN jj)
 obtain ⟨bl,bm,rfl⟩:=AR f1
 refine Vm<|Vr (Ag [Sl bj n.1.funcs bk])<|Vr (Sl bl n.2.1 bm)<|Vr (.bool n.2.2)<|Ef<|AX ji 21 DV rfl fun jk sn ek jl bn=>have jm:=Ss AH f2 bn;Eu<|St EY jl rfl rfl rfl rfl fun jn d3 bo=>Va (Sl bl n.2.1 bm)<|Va (.bool n.2.2)<|AA<|Sr<|Vx (Lx Gi rfl rfl (Bw d3))<|Vx (Fd Vw rfl)<|have f3:=Y3 f0 cf bn bo;Vx (Ld B1 rfl (Bc f3 rfl))<|have az:=Ss AH jm bo;Bi c fun a jo c=>Ca (Cg [Ag [Sl bj n.1.funcs bk],Sb a2.name] rfl) (NR ay jk jn jo (BI (x:=n.1) az)) ?_
 rintro _ so ⟨jp,sp,rfl,ak,jq⟩
 obtain ⟨sq,sr,rfl,f4,f5⟩:=DE jq
 obtain ⟨s,u,rfl⟩:=AR f4
 obtain ⟨ae,af,rfl⟩:=AR f5
 refine Vm<|Vr (Ag [Sb a.1.name,Sl s a.1.params u,I a.1.type_,I a.1.body.op,Sb a.1.body.name,Sb a.1.body.tail,I a.1.body.type_,Cx a.1.body.num,Sl ae a.1.body.args af,I a.1.body.at_,I a.1.at_])<|Vr (.bool a.2)<|Ef<|AX jp 22 Fs rfl fun d4 ss jr js ag=>have f6:=Ss AS f4 ag;have f7:=Ss AJ f5 ag;Eu<|St Ks js rfl rfl rfl rfl fun f8 f9 ad=>Va (.bool a.2)<|AA<|Aa<|Am (fun bp ga=>∃a3 d5 el,bp=Env.puts a3 [(1,I a0),(2,Pt ej 0),(5,Pt ek 0),(6,Sl bl n.2.1 bm),(8,Pt jr 0),(47,.bool el)]∧EJ ay a2 a0 n a el=some d2∧AT [] d4 f8 d5 ga) ?_ ?_
 refine AL<|Vm<|Vr (.bool (!n.2.2))<|Vm<|Bo c (fun bq c=>?_) fun bq c=>?_
 refine Pg bq<|Pg bq<|Vp bq<|Vm<|Pg rfl<|Pg rfl<|Pg rfl<|Pg rfl<|Vr (.bool true)<|Vm<|Pg rfl<|Pg rfl<|Pg rfl<|Vr (.bool true)<|AA<|⟨_,d4,true,Pu,c,Rf⟩
 refine Gm bq<|Gr bq (.bool (!a.2))<|Vp bq<|Vm<|Bo c (fun a4 c=>?_) fun a4 c=>?_
 refine Pg a4<|Pg a4<|Pg a4<|Pg a4<|Vp a4<|Vm<|Pg rfl<|Pg rfl<|Pg rfl<|Vr (.bool true)<|AA<|⟨_,d4,true,Pu,c,Rf⟩
 refine have jt:=Y3 d3 ak ag ad;Gx a4 (Lx Gi rfl rfl (Bw jt))<|have ju:=K3 AH az ak ag ad;Bi c fun d6 jv c=>CC (.guard (t:=false) (b:=false) rfl rfl rfl rfl (Cb a4)) rfl rfl (Cg [Ag [Sl bj n.1.funcs bk]] rfl)<|Calls.mono (O8 ay d4 f8 jv (BI (x:=n.1) ju)) ?_
 rintro _ jw ⟨gb,st,rfl,cg,jx⟩
 obtain rfl:=Aq jx
 refine ⟨_,rfl,?_⟩
 refine Gx a4 (v:=I d6.why) (Ju (cs:=[I d6.why,I d6.at_]) Sm rfl rfl)<|Gr a4 (.bool (d6.why != 0))<|Vp a4<|Vm<|Bo c (fun a8 c=>?_) fun a8 c=>?_
 refine Pg a8<|Pg a8<|Pg a8<|Vp a8<|AA<|⟨_,gb,true,Pu,c,(Mo [] cg)⟩
 refine have jy:=Bs f9 cg;Gx a8 (Lx Kq rfl rfl (Bw jy))<|have jz:=K2 AS f6 ad cg;have j0:=K2 AJ f7 ad cg;Bi c fun j1 j2 c=>CC (.guard (t:=false) (b:=false) rfl rfl rfl rfl (Cb a8)) rfl rfl (Cg [Ag [Sb a.1.name,Sl s a.1.params u,I a.1.type_,I a.1.body.op,Sb a.1.body.name,Sb a.1.body.tail,I a.1.body.type_,Cx a.1.body.num,Sl ae a.1.body.args af,I a.1.body.at_,I a.1.at_]] rfl)<|Calls.mono (Tf ay gb jw j2 (Fb (x:=a.1) jz j0)) ?_
 rintro _ j3 ⟨j4,su,rfl,j5,gc⟩
 obtain ⟨j6,j7,rfl⟩:=AR gc
 refine ⟨_,rfl,?_⟩
 refine Bi c fun j8 j9 c=>CC (.guard (t:=false) (b:=false) rfl rfl rfl rfl (Cb a8)) rfl rfl (Cg [Sl j6 j1 j7,Sb ([122,122]:Bts)] rfl)<|Calls.mono (MV ay j4 j3 j9 gc) ?_
 rintro _ sv ⟨ka,rfl,kb⟩
 refine ⟨_,rfl,?_⟩
 refine Vp a8<|AA<|⟨_,ka,j8,Pu,c,(T2 (Mo [] cg) j5 kb)⟩
 rintro _ ga ⟨a3,d5,el,rfl,c,ai⟩
 rw [EJ] at c
 refine Cn c (fun kc c=>?_) fun kc c=>?_
 refine Sr<|Va (.bool true)<|AA<|AY ?_
 obtain rfl:=AO c
 refine O1 B cd rfl (.tmp rfl)<|⟨d5,rfl,Ho (T4 (T4 (Mo [21,22] b7) bi cf bn bo) ak ag ad ai) cc⟩
 refine WC.skip<|Sr<|have gd:=Bs f9 ai;Vx (Lx Kq rfl rfl (Bw gd))<|Ef<|AX d5 23 Fs rfl fun kd sw ge ke al=>have a9:=K3 AS f6 ad ai al;have ch:=K3 AJ f7 ad ai al;Eu<|St Ks ke rfl rfl rfl rfl fun sx kf y=>AA<|Sr<|Vx (Fz Li rfl)<|Eu<|St Sp kf rfl rfl rfl rfl fun sy ci z=>AA<|Sr<|Vx (Fd Mg rfl)<|have b8:=Y3 gd al y z;Vx (Ld EZ rfl (Bc b8 rfl))<|Vx (v:=Ag [I 5,Sb ([]:Bts),Sb ([]:Bts),I a.1.type_,Cx (((0,0):Nat×Nat)),.slice none 0 0,I 0]) (Bp CB Jp rfl (.cons rfl rfl rfl (.cons rfl rfl rfl .nil)))<|Ef<|AX kd 24 CB rfl fun b9 sz s0 kg q=>Eu<|St DB kg rfl rfl rfl rfl fun kh d7 r=>AA<|Sr<|Va (I 2)<|AA<|Am (fun bp cj=>∃a3 ck a5 e f g h l d aa ab m,bp=Env.puts a3 [(2,Pt ej 0),(5,Pt ek 0),(6,Sl bl n.2.1 bm),(10,Pt ge 0),(12,I a5)]∧CO ay a2 n a a5 e f g h l d m=some d2∧AT [23] b9 kh ck cj∧Own AJ 56 ck cj 25 (Sl aa d ab) d∧Bk ck cj 23 ge [Sb ([122,122]:Bts),Sl s a.1.params u,I a.1.type_,I e,Sb f,Sb g,I h,Cx l,Sl aa d ab,I m,I a.1.at_] 58) ?_ ?_
 refine Sr<|Vm<|Bi c fun s1 ki c=>Vx (v:=I (a0.tmod 5)) (Run.rem rfl rfl (SI ki))<|Vr (I (Wr ((a0.tmod 5)+5)))<|Bi c fun s2 kj c=>Vx (v:=I ((IntKind.i64.wrap ((a0.tmod 5)+5)).tmod 5)) (Run.rem rfl rfl (SI kj))<|AA<|Ad<|Sr<|Vr (.bool (((IntKind.i64.wrap ((a0.tmod 5)+5)).tmod 5)==0))<|Va (.bool (((IntKind.i64.wrap ((a0.tmod 5)+5)).tmod 5)==0))<|AA<|Cn c (fun kk c=>?_) fun kk c=>?_
 refine AL<|Vx (v:=Ag [I 2,Sb ([]:Bts),Sb ([]:Bts),I 0,Cx (((0,0):Nat×Nat)),.slice none 0 0,I 0]) (Bp CB Jp rfl (.cons rfl rfl rfl .nil))<|Vx (Fd G8 rfl)<|have kl:=Y2 b8 q r;Vx (Lx A8 rfl rfl (Bk.part kl 3 [I a.1.body.op,Sb a.1.body.name,Sb a.1.body.tail,I a.1.body.type_,Cx a.1.body.num,Sl ae a.1.body.args af,I a.1.body.at_] rfl))<|Vx (Lx A8 rfl rfl (Bw d7))<|Ef<|Ba (cs:=[I 2,Sb ([]:Bts),Sb ([]:Bts),I 0,Cx (((0,0):Nat×Nat)),.slice none 0 0,I 0,I a.1.body.op,Sb a.1.body.name,Sb a.1.body.tail,I a.1.body.type_,Cx a.1.body.num,Sl ae a.1.body.args af,I a.1.body.at_,I 5,Sb ([]:Bts),Sb ([]:Bts),I a.1.type_,Cx (((0,0):Nat×Nat)),.slice none 0 0,I 0]) b9 25 [[I 2,Sb ([]:Bts),Sb ([]:Bts),I 0,Cx (((0,0):Nat×Nat)),.slice none 0 0,I 0],[I a.1.body.op,Sb a.1.body.name,Sb a.1.body.tail,I a.1.body.type_,Cx a.1.body.num,Sl ae a.1.body.args af,I a.1.body.at_],[I 5,Sb ([]:Bts),Sb ([]:Bts),I a.1.type_,Cx (((0,0):Nat×Nat)),.slice none 0 0,I 0]] Cp CB rfl rfl (.cons rfl rfl rfl (.cons rfl rfl rfl (.cons rfl rfl rfl .nil))) rfl fun gf km cl kn em=>have ko:=Ss AJ (K4 AJ ch y z q r) em;have gg:Own AJ 56 gf km 25 (.slice (some ⟨cl,0,none⟩) 3 3) ([(AB.mk 2 ([]:Bts) ([]:Bts) 0 ((0,0):Nat×Nat) [] 0),(AB.mk a.1.body.op a.1.body.name a.1.body.tail a.1.body.type_ a.1.body.num a.1.body.args a.1.body.at_),(AB.mk 5 ([]:Bts) ([]:Bts) a.1.type_ ((0,0):Nat×Nat) [] 0)]:List AB):=Own.lit (css:=[[I 2,Sb ([]:Bts),Sb ([]:Bts),I 0,Cx (((0,0):Nat×Nat)),.slice none 0 0,I 0],[I a.1.body.op,Sb a.1.body.name,Sb a.1.body.tail,I a.1.body.type_,Cx a.1.body.num,Sl ae a.1.body.args af,I a.1.body.at_],[I 5,Sb ([]:Bts),Sb ([]:Bts),I a.1.type_,Cx (((0,0):Nat×Nat)),.slice none 0 0,I 0]]) kn rfl rfl rfl (AQ (Ab (x:=(AB.mk 2 ([]:Bts) ([]:Bts) 0 ((0,0):Nat×Nat) [] 0)) Bz) (AQ (Ab (x:=(AB.mk a.1.body.op a.1.body.name a.1.body.tail a.1.body.type_ a.1.body.num a.1.body.args a.1.body.at_)) ko) (AQ (Ab (x:=(AB.mk 5 ([]:Bts) ([]:Bts) a.1.type_ ((0,0):Nat×Nat) [] 0)) Bz) As))) (Av rfl (Av rfl (Av rfl B4))) rfl;Vx (v:=Ag [I 19,Sb ([]:Bts),Sb ([]:Bts),I 0,Cx (((0,0):Nat×Nat)),Sl (some ⟨cl,0,none⟩) (([(AB.mk 2 ([]:Bts) ([]:Bts) 0 ((0,0):Nat×Nat) [] 0),(AB.mk a.1.body.op a.1.body.name a.1.body.tail a.1.body.type_ a.1.body.num a.1.body.args a.1.body.at_),(AB.mk 5 ([]:Bts) ([]:Bts) a.1.type_ ((0,0):Nat×Nat) [] 0)]:List AB)) 3,I 0]) (Bp CB Jp rfl (.cons rfl rfl rfl (.cons rfl rfl rfl .nil)))<|Vx (Fd G8 rfl)<|have kp:=Y3 ci q r em;Eu<|A9 (vs:=[I 19,Sb ([]:Bts),Sb ([]:Bts),I 0,Cx (((0,0):Nat×Nat)),Sl (some ⟨cl,0,none⟩) (([(AB.mk 2 ([]:Bts) ([]:Bts) 0 ((0,0):Nat×Nat) [] 0),(AB.mk a.1.body.op a.1.body.name a.1.body.tail a.1.body.type_ a.1.body.num a.1.body.args a.1.body.at_),(AB.mk 5 ([]:Bts) ([]:Bts) a.1.type_ ((0,0):Nat×Nat) [] 0)]:List AB)) 3,I 0]) (cs':=[Sb ([122,122]:Bts),Sl s a.1.params u,I a.1.type_,I 19,Sb ([]:Bts),Sb ([]:Bts),I 0,Cx (((0,0):Nat×Nat)),Sl (some ⟨cl,0,none⟩) (([(AB.mk 2 ([]:Bts) ([]:Bts) 0 ((0,0):Nat×Nat) [] 0),(AB.mk a.1.body.op a.1.body.name a.1.body.tail a.1.body.type_ a.1.body.num a.1.body.args a.1.body.at_),(AB.mk 5 ([]:Bts) ([]:Bts) a.1.type_ ((0,0):Nat×Nat) [] 0)]:List AB)) 3,I 0,I a.1.at_]) DB rfl rfl rfl rfl (AP rfl (AP rfl (AP rfl (AP rfl (AP rfl (AP (Own.one gg) (AP rfl BO))))))) kp dcd rfl rfl fun s3 kq gh=>AA<|have kr:=Os gg gh;⟨_,gf,2,19,([]:Bts),([]:Bts),0,((0,0):Nat×Nat),([(AB.mk 2 ([]:Bts) ([]:Bts) 0 ((0,0):Nat×Nat) [] 0),(AB.mk a.1.body.op a.1.body.name a.1.body.tail a.1.body.type_ a.1.body.num a.1.body.args a.1.body.at_),(AB.mk 5 ([]:Bts) ([]:Bts) a.1.type_ ((0,0):Nat×Nat) [] 0)]:List AB),(some ⟨cl,0,none⟩),3,0,Pu,c,(Tn (Mo [23] em) gh),kr,kq⟩
 refine Sr<|Vr (.bool (((IntKind.i64.wrap ((a0.tmod 5)+5)).tmod 5)==1))<|Va (.bool (((IntKind.i64.wrap ((a0.tmod 5)+5)).tmod 5)==1))<|AA<|Cn c (fun ks c=>?_) fun ks c=>?_
 refine AL<|Vx (v:=Ag [I 3,Sb ([]:Bts),Sb ([]:Bts),I 0,Cx (((0,0):Nat×Nat)),.slice none 0 0,I 0]) (Bp CB Jp rfl (.cons rfl rfl rfl .nil))<|Vx (Lx A8 rfl rfl (Bw d7))<|Vx (Fd G8 rfl)<|have kt:=Y2 b8 q r;Vx (Lx A8 rfl rfl (Bk.part kt 3 [I a.1.body.op,Sb a.1.body.name,Sb a.1.body.tail,I a.1.body.type_,Cx a.1.body.num,Sl ae a.1.body.args af,I a.1.body.at_] rfl))<|Ef<|Ba (cs:=[I 3,Sb ([]:Bts),Sb ([]:Bts),I 0,Cx (((0,0):Nat×Nat)),.slice none 0 0,I 0,I 5,Sb ([]:Bts),Sb ([]:Bts),I a.1.type_,Cx (((0,0):Nat×Nat)),.slice none 0 0,I 0,I a.1.body.op,Sb a.1.body.name,Sb a.1.body.tail,I a.1.body.type_,Cx a.1.body.num,Sl ae a.1.body.args af,I a.1.body.at_]) b9 25 [[I 3,Sb ([]:Bts),Sb ([]:Bts),I 0,Cx (((0,0):Nat×Nat)),.slice none 0 0,I 0],[I 5,Sb ([]:Bts),Sb ([]:Bts),I a.1.type_,Cx (((0,0):Nat×Nat)),.slice none 0 0,I 0],[I a.1.body.op,Sb a.1.body.name,Sb a.1.body.tail,I a.1.body.type_,Cx a.1.body.num,Sl ae a.1.body.args af,I a.1.body.at_]] Cp CB rfl rfl (.cons rfl rfl rfl (.cons rfl rfl rfl (.cons rfl rfl rfl .nil))) rfl fun gi ku cm kv en=>have kw:=Ss AJ (K4 AJ ch y z q r) en;have gj:Own AJ 56 gi ku 25 (.slice (some ⟨cm,0,none⟩) 3 3) ([(AB.mk 3 ([]:Bts) ([]:Bts) 0 ((0,0):Nat×Nat) [] 0),(AB.mk 5 ([]:Bts) ([]:Bts) a.1.type_ ((0,0):Nat×Nat) [] 0),(AB.mk a.1.body.op a.1.body.name a.1.body.tail a.1.body.type_ a.1.body.num a.1.body.args a.1.body.at_)]:List AB):=Own.lit (css:=[[I 3,Sb ([]:Bts),Sb ([]:Bts),I 0,Cx (((0,0):Nat×Nat)),.slice none 0 0,I 0],[I 5,Sb ([]:Bts),Sb ([]:Bts),I a.1.type_,Cx (((0,0):Nat×Nat)),.slice none 0 0,I 0],[I a.1.body.op,Sb a.1.body.name,Sb a.1.body.tail,I a.1.body.type_,Cx a.1.body.num,Sl ae a.1.body.args af,I a.1.body.at_]]) kv rfl rfl rfl (AQ (Ab (x:=(AB.mk 3 ([]:Bts) ([]:Bts) 0 ((0,0):Nat×Nat) [] 0)) Bz) (AQ (Ab (x:=(AB.mk 5 ([]:Bts) ([]:Bts) a.1.type_ ((0,0):Nat×Nat) [] 0)) Bz) (AQ (Ab (x:=(AB.mk a.1.body.op a.1.body.name a.1.body.tail a.1.body.type_ a.1.body.num a.1.body.args a.1.body.at_)) kw) As))) (Av rfl (Av rfl (Av rfl B4))) rfl;Vx (v:=Ag [I 19,Sb ([]:Bts),Sb ([]:Bts),I 0,Cx (((0,0):Nat×Nat)),Sl (some ⟨cm,0,none⟩) (([(AB.mk 3 ([]:Bts) ([]:Bts) 0 ((0,0):Nat×Nat) [] 0),(AB.mk 5 ([]:Bts) ([]:Bts) a.1.type_ ((0,0):Nat×Nat) [] 0),(AB.mk a.1.body.op a.1.body.name a.1.body.tail a.1.body.type_ a.1.body.num a.1.body.args a.1.body.at_)]:List AB)) 3,I 0]) (Bp CB Jp rfl (.cons rfl rfl rfl (.cons rfl rfl rfl .nil)))<|Vx (Fd G8 rfl)<|have kx:=Y3 ci q r en;Eu<|A9 (vs:=[I 19,Sb ([]:Bts),Sb ([]:Bts),I 0,Cx (((0,0):Nat×Nat)),Sl (some ⟨cm,0,none⟩) (([(AB.mk 3 ([]:Bts) ([]:Bts) 0 ((0,0):Nat×Nat) [] 0),(AB.mk 5 ([]:Bts) ([]:Bts) a.1.type_ ((0,0):Nat×Nat) [] 0),(AB.mk a.1.body.op a.1.body.name a.1.body.tail a.1.body.type_ a.1.body.num a.1.body.args a.1.body.at_)]:List AB)) 3,I 0]) (cs':=[Sb ([122,122]:Bts),Sl s a.1.params u,I a.1.type_,I 19,Sb ([]:Bts),Sb ([]:Bts),I 0,Cx (((0,0):Nat×Nat)),Sl (some ⟨cm,0,none⟩) (([(AB.mk 3 ([]:Bts) ([]:Bts) 0 ((0,0):Nat×Nat) [] 0),(AB.mk 5 ([]:Bts) ([]:Bts) a.1.type_ ((0,0):Nat×Nat) [] 0),(AB.mk a.1.body.op a.1.body.name a.1.body.tail a.1.body.type_ a.1.body.num a.1.body.args a.1.body.at_)]:List AB)) 3,I 0,I a.1.at_]) DB rfl rfl rfl rfl (AP rfl (AP rfl (AP rfl (AP rfl (AP rfl (AP (Own.one gj) (AP rfl BO))))))) kx dcd rfl rfl fun s4 ky gk=>AA<|have kz:=Os gj gk;⟨_,gi,2,19,([]:Bts),([]:Bts),0,((0,0):Nat×Nat),([(AB.mk 3 ([]:Bts) ([]:Bts) 0 ((0,0):Nat×Nat) [] 0),(AB.mk 5 ([]:Bts) ([]:Bts) a.1.type_ ((0,0):Nat×Nat) [] 0),(AB.mk a.1.body.op a.1.body.name a.1.body.tail a.1.body.type_ a.1.body.num a.1.body.args a.1.body.at_)]:List AB),(some ⟨cm,0,none⟩),3,0,Pu,c,(Tn (Mo [23] en) gk),kz,ky⟩
 refine Sr<|Vr (.bool (((IntKind.i64.wrap ((a0.tmod 5)+5)).tmod 5)==2))<|Va (.bool (((IntKind.i64.wrap ((a0.tmod 5)+5)).tmod 5)==2))<|AA<|Cn c (fun k0 c=>?_) fun k0 c=>?_
 refine AL<|Vx (v:=Ag [I 1,Sb ([]:Bts),Sb ([]:Bts),I 0,Cx (((4607182418800017408,0):Nat×Nat)),.slice none 0 0,I 0]) (Bp CB Jp rfl (.cons rfl rfl rfl (.cons rfl rfl rfl .nil)))<|Vx (Fd G8 rfl)<|have k1:=Y2 b8 q r;Vx (Lx A8 rfl rfl (Bk.part k1 3 [I a.1.body.op,Sb a.1.body.name,Sb a.1.body.tail,I a.1.body.type_,Cx a.1.body.num,Sl ae a.1.body.args af,I a.1.body.at_] rfl))<|Ef<|Ba (cs:=[I 1,Sb ([]:Bts),Sb ([]:Bts),I 0,Cx (((4607182418800017408,0):Nat×Nat)),.slice none 0 0,I 0,I a.1.body.op,Sb a.1.body.name,Sb a.1.body.tail,I a.1.body.type_,Cx a.1.body.num,Sl ae a.1.body.args af,I a.1.body.at_]) b9 25 [[I 1,Sb ([]:Bts),Sb ([]:Bts),I 0,Cx (((4607182418800017408,0):Nat×Nat)),.slice none 0 0,I 0],[I a.1.body.op,Sb a.1.body.name,Sb a.1.body.tail,I a.1.body.type_,Cx a.1.body.num,Sl ae a.1.body.args af,I a.1.body.at_]] Cp CB rfl rfl (.cons rfl rfl rfl (.cons rfl rfl rfl .nil)) rfl fun gl k2 cn k3 eo=>have k4:=Ss AJ (K4 AJ ch y z q r) eo;have gm:Own AJ 56 gl k2 25 (.slice (some ⟨cn,0,none⟩) 2 2) ([(AB.mk 1 ([]:Bts) ([]:Bts) 0 ((4607182418800017408,0):Nat×Nat) [] 0),(AB.mk a.1.body.op a.1.body.name a.1.body.tail a.1.body.type_ a.1.body.num a.1.body.args a.1.body.at_)]:List AB):=Own.lit (css:=[[I 1,Sb ([]:Bts),Sb ([]:Bts),I 0,Cx (((4607182418800017408,0):Nat×Nat)),.slice none 0 0,I 0],[I a.1.body.op,Sb a.1.body.name,Sb a.1.body.tail,I a.1.body.type_,Cx a.1.body.num,Sl ae a.1.body.args af,I a.1.body.at_]]) k3 rfl rfl rfl (AQ (Ab (x:=(AB.mk 1 ([]:Bts) ([]:Bts) 0 ((4607182418800017408,0):Nat×Nat) [] 0)) Bz) (AQ (Ab (x:=(AB.mk a.1.body.op a.1.body.name a.1.body.tail a.1.body.type_ a.1.body.num a.1.body.args a.1.body.at_)) k4) As)) (Av rfl (Av rfl B4)) rfl;Vx (v:=Ag [I 22,Sb ([122,122]:Bts),Sb ([]:Bts),I 1,Cx (((0,0):Nat×Nat)),Sl (some ⟨cn,0,none⟩) (([(AB.mk 1 ([]:Bts) ([]:Bts) 0 ((4607182418800017408,0):Nat×Nat) [] 0),(AB.mk a.1.body.op a.1.body.name a.1.body.tail a.1.body.type_ a.1.body.num a.1.body.args a.1.body.at_)]:List AB)) 2,I 0]) (Bp CB Jp rfl (.cons rfl rfl rfl (.cons rfl rfl rfl (.cons rfl rfl rfl (.cons rfl rfl rfl .nil)))))<|Vx (Fd G8 rfl)<|have k5:=Y3 ci q r eo;Eu<|A9 (vs:=[I 22,Sb ([122,122]:Bts),Sb ([]:Bts),I 1,Cx (((0,0):Nat×Nat)),Sl (some ⟨cn,0,none⟩) (([(AB.mk 1 ([]:Bts) ([]:Bts) 0 ((4607182418800017408,0):Nat×Nat) [] 0),(AB.mk a.1.body.op a.1.body.name a.1.body.tail a.1.body.type_ a.1.body.num a.1.body.args a.1.body.at_)]:List AB)) 2,I 0]) (cs':=[Sb ([122,122]:Bts),Sl s a.1.params u,I a.1.type_,I 22,Sb ([122,122]:Bts),Sb ([]:Bts),I 1,Cx (((0,0):Nat×Nat)),Sl (some ⟨cn,0,none⟩) (([(AB.mk 1 ([]:Bts) ([]:Bts) 0 ((4607182418800017408,0):Nat×Nat) [] 0),(AB.mk a.1.body.op a.1.body.name a.1.body.tail a.1.body.type_ a.1.body.num a.1.body.args a.1.body.at_)]:List AB)) 2,I 0,I a.1.at_]) DB rfl rfl rfl rfl (AP rfl (AP rfl (AP rfl (AP rfl (AP rfl (AP (Own.one gm) (AP rfl BO))))))) k5 dcd rfl rfl fun s5 k6 gn=>AA<|have k7:=Os gm gn;⟨_,gl,2,22,([122,122]:Bts),([]:Bts),1,((0,0):Nat×Nat),([(AB.mk 1 ([]:Bts) ([]:Bts) 0 ((4607182418800017408,0):Nat×Nat) [] 0),(AB.mk a.1.body.op a.1.body.name a.1.body.tail a.1.body.type_ a.1.body.num a.1.body.args a.1.body.at_)]:List AB),(some ⟨cn,0,none⟩),2,0,Pu,c,(Tn (Mo [23] eo) gn),k7,k6⟩
 refine Sr<|Vr (.bool (((IntKind.i64.wrap ((a0.tmod 5)+5)).tmod 5)==3))<|Va (.bool (((IntKind.i64.wrap ((a0.tmod 5)+5)).tmod 5)==3))<|AA<|Cn c (fun k8 c=>?_) fun k8 c=>?_
 refine Sr<|Vx (Fd Mg rfl)<|have go:=Y2 b8 q r;Vx (Ld EZ rfl (Bc go rfl))<|Vx (Lx A8 rfl rfl (Bw d7))<|Vx (Fd G8 rfl)<|Vx (Lx A8 rfl rfl (Bk.part go 3 [I a.1.body.op,Sb a.1.body.name,Sb a.1.body.tail,I a.1.body.type_,Cx a.1.body.num,Sl ae a.1.body.args af,I a.1.body.at_] rfl))<|Ef<|Ba (cs:=[I 5,Sb ([]:Bts),Sb ([]:Bts),I a.1.type_,Cx (((0,0):Nat×Nat)),.slice none 0 0,I 0,I a.1.body.op,Sb a.1.body.name,Sb a.1.body.tail,I a.1.body.type_,Cx a.1.body.num,Sl ae a.1.body.args af,I a.1.body.at_]) b9 25 [[I 5,Sb ([]:Bts),Sb ([]:Bts),I a.1.type_,Cx (((0,0):Nat×Nat)),.slice none 0 0,I 0],[I a.1.body.op,Sb a.1.body.name,Sb a.1.body.tail,I a.1.body.type_,Cx a.1.body.num,Sl ae a.1.body.args af,I a.1.body.at_]] Cp CB rfl rfl (.cons rfl rfl rfl (.cons rfl rfl rfl .nil)) rfl fun gp k9 co la ep=>have lb:=Ss AJ (K4 AJ ch y z q r) ep;have gq:Own AJ 56 gp k9 25 (.slice (some ⟨co,0,none⟩) 2 2) ([(AB.mk 5 ([]:Bts) ([]:Bts) a.1.type_ ((0,0):Nat×Nat) [] 0),(AB.mk a.1.body.op a.1.body.name a.1.body.tail a.1.body.type_ a.1.body.num a.1.body.args a.1.body.at_)]:List AB):=Own.lit (css:=[[I 5,Sb ([]:Bts),Sb ([]:Bts),I a.1.type_,Cx (((0,0):Nat×Nat)),.slice none 0 0,I 0],[I a.1.body.op,Sb a.1.body.name,Sb a.1.body.tail,I a.1.body.type_,Cx a.1.body.num,Sl ae a.1.body.args af,I a.1.body.at_]]) la rfl rfl rfl (AQ (Ab (x:=(AB.mk 5 ([]:Bts) ([]:Bts) a.1.type_ ((0,0):Nat×Nat) [] 0)) Bz) (AQ (Ab (x:=(AB.mk a.1.body.op a.1.body.name a.1.body.tail a.1.body.type_ a.1.body.num a.1.body.args a.1.body.at_)) lb) As)) (Av rfl (Av rfl B4)) rfl;Vx (v:=Ag [I 21,Sb ([122,122]:Bts),Sb ([]:Bts),I a.1.type_,Cx (((0,0):Nat×Nat)),Sl (some ⟨co,0,none⟩) (([(AB.mk 5 ([]:Bts) ([]:Bts) a.1.type_ ((0,0):Nat×Nat) [] 0),(AB.mk a.1.body.op a.1.body.name a.1.body.tail a.1.body.type_ a.1.body.num a.1.body.args a.1.body.at_)]:List AB)) 2,I 0]) (Bp CB Jp rfl (.cons rfl rfl rfl (.cons rfl rfl rfl (.cons rfl rfl rfl (.cons rfl rfl rfl .nil)))))<|Vx (Fd G8 rfl)<|have lc:=Y3 ci q r ep;Eu<|A9 (vs:=[I 21,Sb ([122,122]:Bts),Sb ([]:Bts),I a.1.type_,Cx (((0,0):Nat×Nat)),Sl (some ⟨co,0,none⟩) (([(AB.mk 5 ([]:Bts) ([]:Bts) a.1.type_ ((0,0):Nat×Nat) [] 0),(AB.mk a.1.body.op a.1.body.name a.1.body.tail a.1.body.type_ a.1.body.num a.1.body.args a.1.body.at_)]:List AB)) 2,I 0]) (cs':=[Sb ([122,122]:Bts),Sl s a.1.params u,I a.1.type_,I 21,Sb ([122,122]:Bts),Sb ([]:Bts),I a.1.type_,Cx (((0,0):Nat×Nat)),Sl (some ⟨co,0,none⟩) (([(AB.mk 5 ([]:Bts) ([]:Bts) a.1.type_ ((0,0):Nat×Nat) [] 0),(AB.mk a.1.body.op a.1.body.name a.1.body.tail a.1.body.type_ a.1.body.num a.1.body.args a.1.body.at_)]:List AB)) 2,I 0,I a.1.at_]) DB rfl rfl rfl rfl (AP rfl (AP rfl (AP rfl (AP rfl (AP rfl (AP (Own.one gq) (AP rfl BO))))))) lc dcd rfl rfl fun s6 ld gr=>AA<|AL<|Va (I 1)<|AA<|have le:=Os gq gr;⟨_,gp,1,21,([122,122]:Bts),([]:Bts),a.1.type_,((0,0):Nat×Nat),([(AB.mk 5 ([]:Bts) ([]:Bts) a.1.type_ ((0,0):Nat×Nat) [] 0),(AB.mk a.1.body.op a.1.body.name a.1.body.tail a.1.body.type_ a.1.body.num a.1.body.args a.1.body.at_)]:List AB),(some ⟨co,0,none⟩),2,0,Pu,c,(Tn (Mo [23] ep) gr),le,ld⟩
 refine AL<|Vx (v:=Ag [I 4,Sb ([]:Bts),Sb ([]:Bts),I 0,Cx (((0,0):Nat×Nat)),.slice none 0 0,I 0]) (Bp CB Jp rfl (.cons rfl rfl rfl .nil))<|Vx (Fd G8 rfl)<|have lf:=Y2 b8 q r;Vx (Lx A8 rfl rfl (Bk.part lf 3 [I a.1.body.op,Sb a.1.body.name,Sb a.1.body.tail,I a.1.body.type_,Cx a.1.body.num,Sl ae a.1.body.args af,I a.1.body.at_] rfl))<|Vx (Lx A8 rfl rfl (Bw d7))<|Ef<|Ba (cs:=[I 4,Sb ([]:Bts),Sb ([]:Bts),I 0,Cx (((0,0):Nat×Nat)),.slice none 0 0,I 0,I a.1.body.op,Sb a.1.body.name,Sb a.1.body.tail,I a.1.body.type_,Cx a.1.body.num,Sl ae a.1.body.args af,I a.1.body.at_,I 5,Sb ([]:Bts),Sb ([]:Bts),I a.1.type_,Cx (((0,0):Nat×Nat)),.slice none 0 0,I 0]) b9 25 [[I 4,Sb ([]:Bts),Sb ([]:Bts),I 0,Cx (((0,0):Nat×Nat)),.slice none 0 0,I 0],[I a.1.body.op,Sb a.1.body.name,Sb a.1.body.tail,I a.1.body.type_,Cx a.1.body.num,Sl ae a.1.body.args af,I a.1.body.at_],[I 5,Sb ([]:Bts),Sb ([]:Bts),I a.1.type_,Cx (((0,0):Nat×Nat)),.slice none 0 0,I 0]] Cp CB rfl rfl (.cons rfl rfl rfl (.cons rfl rfl rfl (.cons rfl rfl rfl .nil))) rfl fun gs lg cq lh eq=>have li:=Ss AJ (K4 AJ ch y z q r) eq;have gt:Own AJ 56 gs lg 25 (.slice (some ⟨cq,0,none⟩) 3 3) ([(AB.mk 4 ([]:Bts) ([]:Bts) 0 ((0,0):Nat×Nat) [] 0),(AB.mk a.1.body.op a.1.body.name a.1.body.tail a.1.body.type_ a.1.body.num a.1.body.args a.1.body.at_),(AB.mk 5 ([]:Bts) ([]:Bts) a.1.type_ ((0,0):Nat×Nat) [] 0)]:List AB):=Own.lit (css:=[[I 4,Sb ([]:Bts),Sb ([]:Bts),I 0,Cx (((0,0):Nat×Nat)),.slice none 0 0,I 0],[I a.1.body.op,Sb a.1.body.name,Sb a.1.body.tail,I a.1.body.type_,Cx a.1.body.num,Sl ae a.1.body.args af,I a.1.body.at_],[I 5,Sb ([]:Bts),Sb ([]:Bts),I a.1.type_,Cx (((0,0):Nat×Nat)),.slice none 0 0,I 0]]) lh rfl rfl rfl (AQ (Ab (x:=(AB.mk 4 ([]:Bts) ([]:Bts) 0 ((0,0):Nat×Nat) [] 0)) Bz) (AQ (Ab (x:=(AB.mk a.1.body.op a.1.body.name a.1.body.tail a.1.body.type_ a.1.body.num a.1.body.args a.1.body.at_)) li) (AQ (Ab (x:=(AB.mk 5 ([]:Bts) ([]:Bts) a.1.type_ ((0,0):Nat×Nat) [] 0)) Bz) As))) (Av rfl (Av rfl (Av rfl B4))) rfl;Vx (v:=Ag [I 20,Sb ([122,122]:Bts),Sb ([122,122]:Bts),I 0,Cx (((0,0):Nat×Nat)),Sl (some ⟨cq,0,none⟩) (([(AB.mk 4 ([]:Bts) ([]:Bts) 0 ((0,0):Nat×Nat) [] 0),(AB.mk a.1.body.op a.1.body.name a.1.body.tail a.1.body.type_ a.1.body.num a.1.body.args a.1.body.at_),(AB.mk 5 ([]:Bts) ([]:Bts) a.1.type_ ((0,0):Nat×Nat) [] 0)]:List AB)) 3,I 0]) (Bp CB Jp rfl (.cons rfl rfl rfl (.cons rfl rfl rfl (.cons rfl rfl rfl (.cons rfl rfl rfl .nil)))))<|Vx (Fd G8 rfl)<|have lj:=Y3 ci q r eq;Eu<|A9 (vs:=[I 20,Sb ([122,122]:Bts),Sb ([122,122]:Bts),I 0,Cx (((0,0):Nat×Nat)),Sl (some ⟨cq,0,none⟩) (([(AB.mk 4 ([]:Bts) ([]:Bts) 0 ((0,0):Nat×Nat) [] 0),(AB.mk a.1.body.op a.1.body.name a.1.body.tail a.1.body.type_ a.1.body.num a.1.body.args a.1.body.at_),(AB.mk 5 ([]:Bts) ([]:Bts) a.1.type_ ((0,0):Nat×Nat) [] 0)]:List AB)) 3,I 0]) (cs':=[Sb ([122,122]:Bts),Sl s a.1.params u,I a.1.type_,I 20,Sb ([122,122]:Bts),Sb ([122,122]:Bts),I 0,Cx (((0,0):Nat×Nat)),Sl (some ⟨cq,0,none⟩) (([(AB.mk 4 ([]:Bts) ([]:Bts) 0 ((0,0):Nat×Nat) [] 0),(AB.mk a.1.body.op a.1.body.name a.1.body.tail a.1.body.type_ a.1.body.num a.1.body.args a.1.body.at_),(AB.mk 5 ([]:Bts) ([]:Bts) a.1.type_ ((0,0):Nat×Nat) [] 0)]:List AB)) 3,I 0,I a.1.at_]) DB rfl rfl rfl rfl (AP rfl (AP rfl (AP rfl (AP rfl (AP rfl (AP (Own.one gt) (AP rfl BO))))))) lj dcd rfl rfl fun s7 lk gu=>AA<|have ll:=Os gt gu;⟨_,gs,2,20,([122,122]:Bts),([122,122]:Bts),0,((0,0):Nat×Nat),([(AB.mk 4 ([]:Bts) ([]:Bts) 0 ((0,0):Nat×Nat) [] 0),(AB.mk a.1.body.op a.1.body.name a.1.body.tail a.1.body.type_ a.1.body.num a.1.body.args a.1.body.at_),(AB.mk 5 ([]:Bts) ([]:Bts) a.1.type_ ((0,0):Nat×Nat) [] 0)]:List AB),(some ⟨cq,0,none⟩),3,0,Pu,c,(Tn (Mo [23] eq) gu),ll,lk⟩
 rintro _ cj ⟨a3,ck,a5,e,f,g,h,l,d,aa,ab,m,rfl,c,ac,lm,ln⟩
 rw [CO] at c
 refine Am (fun bp cr=>∃a3 d8 er a6 br bt,bp=Env.puts a3 [(2,Pt ej 0),(5,Pt ek 0),(6,Sl bl n.2.1 bm),(12,I a5),(13,Pt er 0)]∧F5 ay a2 n a5 a6=some d2∧AT [25,30,32] ck cj d8 cr∧Own AH 58 d8 cr 30 (Sl br a6 bt) a6∧Bk d8 cr 32 er [Sl br a6 bt] 28) ?_ ?_
 obtain ⟨d9,w,ba⟩:=Own.freeze (S:=[25]) lm dcd dcd
 refine CL E0 (.q 1 (.q 2 (.q 4 (.three 0 5 8 (.three 3 5 8 (.two 5 8 (.two 6 8 (.q 7 (.one 8 (.one 9 .nil))) (.one 6 (.q 7 (.one 9 .nil)))) (.one 5 (.one 6 (.q 7 (.one 9 .nil))))) (.two 3 8 (.two 6 8 (.q 7 (.one 8 (.one 9 .nil))) (.one 6 (.q 7 (.one 9 .nil)))) (.one 3 (.one 6 (.q 7 (.one 9 .nil))))) (.two 3 5 (.one 5 (.one 6 (.q 7 (.one 9 .nil)))) (.one 3 (.one 6 (.q 7 (.one 9 .nil)))))) (.two 0 8 (.two 3 8 (.two 6 8 (.q 7 (.one 8 (.one 9 .nil))) (.one 6 (.q 7 (.one 9 .nil)))) (.one 3 (.one 6 (.q 7 (.one 9 .nil))))) (.one 0 (.one 3 (.one 6 (.q 7 (.one 9 .nil)))))) (.two 0 5 (.two 3 5 (.one 5 (.one 6 (.q 7 (.one 9 .nil)))) (.one 3 (.one 6 (.q 7 (.one 9 .nil))))) (.one 0 (.one 3 (.one 6 (.q 7 (.one 9 .nil)))))))))) [9] [30] d9 (by kernel_rfl) fun s8 p=>Qx an rfl (fun _ _=>Fz EA rfl)<|have lo:=Y4 (Y4 (Y4 d3 ak ag ad ai) al y z q) r ac w p;Qx an rfl (fun _ ⟨_,am⟩=>Ld GO rfl (Bc (Bs lo am) rfl))<|have lp:=Y2 ln w p;Qx an rfl (fun _ ⟨_,am⟩=>Lx Kq rfl rfl (Bw (Bs lp am)))<|P5 rfl rfl rfl ?_ ?_ ?_
 refine Aw rfl (.none rfl) rfl rfl<|Ba (cs:=[]) d9 30 [] Da Fs rfl rfl .nil rfl fun es lq lr ls o=>have ct:Own AH 58 es lq 30 (.slice (some ⟨lr,0,none⟩) 0 0) ([]:List AE):=Own.lit (css:=[]) ls rfl rfl rfl As B4 rfl;⟨⟨_,(Mo [30] o)⟩,?_⟩
 refine P5 rfl rfl rfl ?_ ?_ ?_
 refine have lt:=Ss AH (K4 AH (K4 AH (K4 AH az ak ag ad ai) al y z q) r ac w p) o;Bi c fun s9 gv c=>Aw rfl (.none rfl) rfl rfl<|Ay (κ:=AH) rfl rfl ct dcd HK (Cc lt) (B3 gv) (B5 gv) fun ta gw tb ea ax=>?_
 obtain ⟨tc,td,rfl⟩:=Own.len ea
 refine ⟨⟨_,(Tn (Mo [30] o) ax)⟩,?_⟩
 refine KF rfl rfl ?_ ?_
 refine Aw rfl (.none rfl) rfl rfl<|Ba (cs:=[Sb ([122,122]:Bts),Sl s a.1.params u,I a.1.type_,I e,Sb f,Sb g,I h,Cx l,Sl aa d ab,I m,I a.1.at_]) gw 31 [[Sb ([122,122]:Bts),Sl s a.1.params u,I a.1.type_,I e,Sb f,Sb g,I h,Cx l,Sl aa d ab,I m,I a.1.at_]] Da Fs rfl rfl (.cons rfl rfl rfl .nil) rfl fun gx lu lv lw a7=>have lx:=K2 AS (K4 AS (K4 AS a9 y z q r) ac w p o) ax a7;have ly:=K4 AJ ba p o ax a7;have gy:Own AH 58 gx lu 31 (.slice (some ⟨lv,0,none⟩) 1 1) ([(AE.mk ([122,122]:Bts) a.1.params a.1.type_ (AB.mk e f g h l d m) a.1.at_)]:List AE):=Own.lit (css:=[[Sb ([122,122]:Bts),Sl s a.1.params u,I a.1.type_,I e,Sb f,Sb g,I h,Cx l,Sl aa d ab,I m,I a.1.at_]]) lw rfl rfl rfl (AQ (Fb (x:=(AE.mk ([122,122]:Bts) a.1.params a.1.type_ (AB.mk e f g h l d m) a.1.at_)) lx ly) As) (Av rfl B4) rfl;⟨⟨_,(T2 (Mo [30] o) ax a7)⟩,?_⟩
 refine KF rfl rfl ?_ ?_
 refine have lz:=Os ea a7;Bi c fun te gz c=>Aw rfl (.none rfl) rfl rfl<|Ay (κ:=AH) rfl rfl lz dcd HK (BF gy) (B3 gz) (B5 gz) fun tf l0 tg g0 et=>?_
 obtain ⟨cu,cv,rfl⟩:=Own.len g0
 refine ⟨⟨_,(T3 (Mo [30] o) ax a7 et)⟩,?_⟩
 refine Qx an rfl (v:=Ag [Sl cu (((([]:List AE)++n.1.funcs)++([(AE.mk ([122,122]:Bts) a.1.params a.1.type_ (AB.mk e f g h l d m) a.1.at_)]:List AE))) cv]) (fun _ _=>CE (cs:=[Sl cu (((([]:List AE)++n.1.funcs)++([(AE.mk ([122,122]:Bts) a.1.params a.1.type_ (AB.mk e f g h l d m) a.1.at_)]:List AE))) cv]) [.slice none 0 0] DV KG rfl (.cons rfl rfl rfl .nil) rfl rfl)<|BB rfl<|Aw rfl (.none rfl) rfl rfl<|AX l0 32 DV rfl fun l1 th l2 l3 eu=>⟨⟨_,(T4 (Mo [30] o) ax a7 et eu)⟩,?_⟩
 refine Cq dcd<|WY.one<|have g1:=Os g0 eu;BC rfl (.none rfl) rfl<|A9 (vs:=[Sl cu (((([]:List AE)++n.1.funcs)++([(AE.mk ([122,122]:Bts) a.1.params a.1.type_ (AB.mk e f g h l d m) a.1.at_)]:List AE))) cv]) (cs':=[Sl cu (((([]:List AE)++n.1.funcs)++([(AE.mk ([122,122]:Bts) a.1.params a.1.type_ (AB.mk e f g h l d m) a.1.at_)]:List AE))) cv]) EY rfl rfl rfl rfl (AP (Own.one g1) BO) l3 dcd rfl rfl fun ti l4 g2=>WY.nil<|have l5:=Os g1 g2;⟨_,l1,l2,((([]:List AE)++n.1.funcs)++([(AE.mk ([122,122]:Bts) a.1.params a.1.type_ (AB.mk e f g h l d m) a.1.at_)]:List AE)),cu,cv,Pu,c,(T3 (T4 (Mo [25,30,32] w) p o ax a7) et eu g2),l5,l4⟩
 refine Aw rfl (.none rfl) rfl rfl<|AX gx 32 DV rfl fun tj tk l6 l7 cw=>⟨⟨_,(T3 (Mo [30] o) ax a7 cw)⟩,?_⟩
 refine BB rfl<|have l8:=Os (Os ea a7) cw;have l9:=Os gy cw;Bi c fun tl g3 c=>Aw rfl (.none rfl) rfl rfl<|Ay (κ:=AH) rfl rfl l8 dcd HK (BF l9) (B3 g3) (B5 g3) fun tm ma tn ew ex=>?_
 obtain ⟨cx,cy,rfl⟩:=Own.len ew
 refine ⟨⟨_,(T4 (Mo [30] o) ax a7 cw ex)⟩,?_⟩
 refine Qx an rfl (v:=Ag [Sl cx (((([]:List AE)++n.1.funcs)++([(AE.mk ([122,122]:Bts) a.1.params a.1.type_ (AB.mk e f g h l d m) a.1.at_)]:List AE))) cy]) (fun _ _=>CE (cs:=[Sl cx (((([]:List AE)++n.1.funcs)++([(AE.mk ([122,122]:Bts) a.1.params a.1.type_ (AB.mk e f g h l d m) a.1.at_)]:List AE))) cy]) [.slice none 0 0] DV KG rfl (.cons rfl rfl rfl .nil) rfl rfl)<|Cq dcd<|WY.one<|have mb:=Bs l7 ex;BC rfl (.none rfl) rfl<|A9 (vs:=[Sl cx (((([]:List AE)++n.1.funcs)++([(AE.mk ([122,122]:Bts) a.1.params a.1.type_ (AB.mk e f g h l d m) a.1.at_)]:List AE))) cy]) (cs':=[Sl cx (((([]:List AE)++n.1.funcs)++([(AE.mk ([122,122]:Bts) a.1.params a.1.type_ (AB.mk e f g h l d m) a.1.at_)]:List AE))) cy]) EY rfl rfl rfl rfl (AP (Own.one ew) BO) mb dcd rfl rfl fun to mc g4=>WY.nil<|have md:=Os ew g4;⟨_,ma,l6,((([]:List AE)++n.1.funcs)++([(AE.mk ([122,122]:Bts) a.1.params a.1.type_ (AB.mk e f g h l d m) a.1.at_)]:List AE)),cx,cy,Pu,c,(T3 (T4 (Mo [25,30,32] w) p o ax a7) cw ex g4),md,mc⟩
 refine Aw rfl (.none rfl) rfl rfl<|AX gw 32 DV rfl fun me tp mf mg bu=>⟨⟨_,(T2 (Mo [30] o) ax bu)⟩,?_⟩
 refine BB rfl<|Aw rfl (.none rfl) rfl rfl<|Ba (cs:=[Sb ([122,122]:Bts),Sl s a.1.params u,I a.1.type_,I e,Sb f,Sb g,I h,Cx l,Sl aa d ab,I m,I a.1.at_]) me 31 [[Sb ([122,122]:Bts),Sl s a.1.params u,I a.1.type_,I e,Sb f,Sb g,I h,Cx l,Sl aa d ab,I m,I a.1.at_]] Da Fs rfl rfl (.cons rfl rfl rfl .nil) rfl fun mh mi mj mk bv=>have ml:=K3 AS (K4 AS (K4 AS a9 y z q r) ac w p o) ax bu bv;have mm:=Ss AJ (K4 AJ ba p o ax bu) bv;have mn:Own AH 58 mh mi 31 (.slice (some ⟨mj,0,none⟩) 1 1) ([(AE.mk ([122,122]:Bts) a.1.params a.1.type_ (AB.mk e f g h l d m) a.1.at_)]:List AE):=Own.lit (css:=[[Sb ([122,122]:Bts),Sl s a.1.params u,I a.1.type_,I e,Sb f,Sb g,I h,Cx l,Sl aa d ab,I m,I a.1.at_]]) mk rfl rfl rfl (AQ (Fb (x:=(AE.mk ([122,122]:Bts) a.1.params a.1.type_ (AB.mk e f g h l d m) a.1.at_)) ml mm) As) (Av rfl B4) rfl;⟨⟨_,(T3 (Mo [30] o) ax bu bv)⟩,?_⟩
 refine BB rfl<|have mo:=Os (Os ea bu) bv;Bi c fun tq g5 c=>Aw rfl (.none rfl) rfl rfl<|Ay (κ:=AH) rfl rfl mo dcd HK (BF mn) (B3 g5) (B5 g5) fun tr mp ts ey ez=>?_
 obtain ⟨cz,c0,rfl⟩:=Own.len ey
 refine ⟨⟨_,(T4 (Mo [30] o) ax bu bv ez)⟩,?_⟩
 refine Qx an rfl (v:=Ag [Sl cz (((([]:List AE)++n.1.funcs)++([(AE.mk ([122,122]:Bts) a.1.params a.1.type_ (AB.mk e f g h l d m) a.1.at_)]:List AE))) c0]) (fun _ _=>CE (cs:=[Sl cz (((([]:List AE)++n.1.funcs)++([(AE.mk ([122,122]:Bts) a.1.params a.1.type_ (AB.mk e f g h l d m) a.1.at_)]:List AE))) c0]) [.slice none 0 0] DV KG rfl (.cons rfl rfl rfl .nil) rfl rfl)<|Cq dcd<|WY.one<|have mq:=Y2 mg bv ez;BC rfl (.none rfl) rfl<|A9 (vs:=[Sl cz (((([]:List AE)++n.1.funcs)++([(AE.mk ([122,122]:Bts) a.1.params a.1.type_ (AB.mk e f g h l d m) a.1.at_)]:List AE))) c0]) (cs':=[Sl cz (((([]:List AE)++n.1.funcs)++([(AE.mk ([122,122]:Bts) a.1.params a.1.type_ (AB.mk e f g h l d m) a.1.at_)]:List AE))) c0]) EY rfl rfl rfl rfl (AP (Own.one ey) BO) mq dcd rfl rfl fun tt mr g6=>WY.nil<|have ms:=Os ey g6;⟨_,mp,mf,((([]:List AE)++n.1.funcs)++([(AE.mk ([122,122]:Bts) a.1.params a.1.type_ (AB.mk e f g h l d m) a.1.at_)]:List AE)),cz,c0,Pu,c,(T3 (T4 (Mo [25,30,32] w) p o ax bu) bv ez g6),ms,mr⟩
 refine Aw rfl (.none rfl) rfl rfl<|Ba (cs:=[Sb ([122,122]:Bts),Sl s a.1.params u,I a.1.type_,I e,Sb f,Sb g,I h,Cx l,Sl aa d ab,I m,I a.1.at_]) es 31 [[Sb ([122,122]:Bts),Sl s a.1.params u,I a.1.type_,I e,Sb f,Sb g,I h,Cx l,Sl aa d ab,I m,I a.1.at_]] Da Fs rfl rfl (.cons rfl rfl rfl .nil) rfl fun g7 mt mu mv ao=>have mw:=Ss AS (K4 AS (K4 AS a9 y z q r) ac w p o) ao;have mx:=K3 AJ ba p o ao;have e0:Own AH 58 g7 mt 31 (.slice (some ⟨mu,0,none⟩) 1 1) ([(AE.mk ([122,122]:Bts) a.1.params a.1.type_ (AB.mk e f g h l d m) a.1.at_)]:List AE):=Own.lit (css:=[[Sb ([122,122]:Bts),Sl s a.1.params u,I a.1.type_,I e,Sb f,Sb g,I h,Cx l,Sl aa d ab,I m,I a.1.at_]]) mv rfl rfl rfl (AQ (Fb (x:=(AE.mk ([122,122]:Bts) a.1.params a.1.type_ (AB.mk e f g h l d m) a.1.at_)) mw mx) As) (Av rfl B4) rfl;⟨⟨_,(Tn (Mo [30] o) ao)⟩,?_⟩
 refine KF rfl rfl ?_ ?_
 refine have my:=Os ct ao;have mz:=K2 AH (K4 AH (K4 AH (K4 AH az ak ag ad ai) al y z q) r ac w p) o ao;Bi c fun tu g8 c=>Aw rfl (.none rfl) rfl rfl<|Ay (κ:=AH) rfl rfl my dcd HK (Cc mz) (B3 g8) (B5 g8) fun tw m0 tx e1 bb=>?_
 obtain ⟨ty,tz,rfl⟩:=Own.len e1
 refine ⟨⟨_,(T2 (Mo [30] o) ao bb)⟩,?_⟩
 refine KF rfl rfl ?_ ?_
 refine have m1:=Os e0 bb;Bi c fun t0 g9 c=>Aw rfl (.none rfl) rfl rfl<|Ay (κ:=AH) rfl rfl e1 dcd HK (BF m1) (B3 g9) (B5 g9) fun t1 m2 t2 ha e2=>?_
 obtain ⟨c1,c2,rfl⟩:=Own.len ha
 refine ⟨⟨_,(T3 (Mo [30] o) ao bb e2)⟩,?_⟩
 refine Qx an rfl (v:=Ag [Sl c1 (((([]:List AE)++n.1.funcs)++([(AE.mk ([122,122]:Bts) a.1.params a.1.type_ (AB.mk e f g h l d m) a.1.at_)]:List AE))) c2]) (fun _ _=>CE (cs:=[Sl c1 (((([]:List AE)++n.1.funcs)++([(AE.mk ([122,122]:Bts) a.1.params a.1.type_ (AB.mk e f g h l d m) a.1.at_)]:List AE))) c2]) [.slice none 0 0] DV KG rfl (.cons rfl rfl rfl .nil) rfl rfl)<|BB rfl<|Aw rfl (.none rfl) rfl rfl<|AX m2 32 DV rfl fun m3 t3 m4 m5 e3=>⟨⟨_,(T4 (Mo [30] o) ao bb e2 e3)⟩,?_⟩
 refine Cq dcd<|WY.one<|have hb:=Os ha e3;BC rfl (.none rfl) rfl<|A9 (vs:=[Sl c1 (((([]:List AE)++n.1.funcs)++([(AE.mk ([122,122]:Bts) a.1.params a.1.type_ (AB.mk e f g h l d m) a.1.at_)]:List AE))) c2]) (cs':=[Sl c1 (((([]:List AE)++n.1.funcs)++([(AE.mk ([122,122]:Bts) a.1.params a.1.type_ (AB.mk e f g h l d m) a.1.at_)]:List AE))) c2]) EY rfl rfl rfl rfl (AP (Own.one hb) BO) m5 dcd rfl rfl fun t4 m6 hc=>WY.nil<|have m7:=Os hb hc;⟨_,m3,m4,((([]:List AE)++n.1.funcs)++([(AE.mk ([122,122]:Bts) a.1.params a.1.type_ (AB.mk e f g h l d m) a.1.at_)]:List AE)),c1,c2,Pu,c,(T3 (T4 (Mo [25,30,32] w) p o ao bb) e2 e3 hc),m7,m6⟩
 refine Aw rfl (.none rfl) rfl rfl<|AX m0 32 DV rfl fun t5 t6 m8 m9 c3=>⟨⟨_,(T3 (Mo [30] o) ao bb c3)⟩,?_⟩
 refine BB rfl<|have na:=Os e1 c3;have nb:=Os (Os e0 bb) c3;Bi c fun t7 hd c=>Aw rfl (.none rfl) rfl rfl<|Ay (κ:=AH) rfl rfl na dcd HK (BF nb) (B3 hd) (B5 hd) fun t8 nc t9 e4 e5=>?_
 obtain ⟨c4,c5,rfl⟩:=Own.len e4
 refine ⟨⟨_,(T4 (Mo [30] o) ao bb c3 e5)⟩,?_⟩
 refine Qx an rfl (v:=Ag [Sl c4 (((([]:List AE)++n.1.funcs)++([(AE.mk ([122,122]:Bts) a.1.params a.1.type_ (AB.mk e f g h l d m) a.1.at_)]:List AE))) c5]) (fun _ _=>CE (cs:=[Sl c4 (((([]:List AE)++n.1.funcs)++([(AE.mk ([122,122]:Bts) a.1.params a.1.type_ (AB.mk e f g h l d m) a.1.at_)]:List AE))) c5]) [.slice none 0 0] DV KG rfl (.cons rfl rfl rfl .nil) rfl rfl)<|Cq dcd<|WY.one<|have nd:=Bs m9 e5;BC rfl (.none rfl) rfl<|A9 (vs:=[Sl c4 (((([]:List AE)++n.1.funcs)++([(AE.mk ([122,122]:Bts) a.1.params a.1.type_ (AB.mk e f g h l d m) a.1.at_)]:List AE))) c5]) (cs':=[Sl c4 (((([]:List AE)++n.1.funcs)++([(AE.mk ([122,122]:Bts) a.1.params a.1.type_ (AB.mk e f g h l d m) a.1.at_)]:List AE))) c5]) EY rfl rfl rfl rfl (AP (Own.one e4) BO) nd dcd rfl rfl fun ua ne he=>WY.nil<|have nf:=Os e4 he;⟨_,nc,m8,((([]:List AE)++n.1.funcs)++([(AE.mk ([122,122]:Bts) a.1.params a.1.type_ (AB.mk e f g h l d m) a.1.at_)]:List AE)),c4,c5,Pu,c,(T3 (T4 (Mo [25,30,32] w) p o ao bb) c3 e5 he),nf,ne⟩
 refine Aw rfl (.none rfl) rfl rfl<|AX g7 32 DV rfl fun ub uc ng nh bw=>⟨⟨_,(T2 (Mo [30] o) ao bw)⟩,?_⟩
 refine BB rfl<|have ni:=Os (Os ct ao) bw;have nj:=K3 AH (K4 AH (K4 AH (K4 AH az ak ag ad ai) al y z q) r ac w p) o ao bw;Bi c fun ud hf c=>Aw rfl (.none rfl) rfl rfl<|Ay (κ:=AH) rfl rfl ni dcd HK (Cc nj) (B3 hf) (B5 hf) fun ue uf ug hg c6=>?_
 obtain ⟨uh,ui,rfl⟩:=Own.len hg
 refine ⟨⟨_,(T3 (Mo [30] o) ao bw c6)⟩,?_⟩
 refine BB rfl<|have nk:=Os (Os e0 bw) c6;Bi c fun uj hh c=>Aw rfl (.none rfl) rfl rfl<|Ay (κ:=AH) rfl rfl hg dcd HK (BF nk) (B3 hh) (B5 hh) fun uk nl ul e6 e7=>?_
 obtain ⟨c7,c8,rfl⟩:=Own.len e6
 refine ⟨⟨_,(T4 (Mo [30] o) ao bw c6 e7)⟩,?_⟩
 refine Qx an rfl (v:=Ag [Sl c7 (((([]:List AE)++n.1.funcs)++([(AE.mk ([122,122]:Bts) a.1.params a.1.type_ (AB.mk e f g h l d m) a.1.at_)]:List AE))) c8]) (fun _ _=>CE (cs:=[Sl c7 (((([]:List AE)++n.1.funcs)++([(AE.mk ([122,122]:Bts) a.1.params a.1.type_ (AB.mk e f g h l d m) a.1.at_)]:List AE))) c8]) [.slice none 0 0] DV KG rfl (.cons rfl rfl rfl .nil) rfl rfl)<|Cq dcd<|WY.one<|have nm:=Y2 nh c6 e7;BC rfl (.none rfl) rfl<|A9 (vs:=[Sl c7 (((([]:List AE)++n.1.funcs)++([(AE.mk ([122,122]:Bts) a.1.params a.1.type_ (AB.mk e f g h l d m) a.1.at_)]:List AE))) c8]) (cs':=[Sl c7 (((([]:List AE)++n.1.funcs)++([(AE.mk ([122,122]:Bts) a.1.params a.1.type_ (AB.mk e f g h l d m) a.1.at_)]:List AE))) c8]) EY rfl rfl rfl rfl (AP (Own.one e6) BO) nm dcd rfl rfl fun um np hi=>WY.nil<|have nq:=Os e6 hi;⟨_,nl,ng,((([]:List AE)++n.1.funcs)++([(AE.mk ([122,122]:Bts) a.1.params a.1.type_ (AB.mk e f g h l d m) a.1.at_)]:List AE)),c7,c8,Pu,c,(T3 (T4 (Mo [25,30,32] w) p o ao bw) c6 e7 hi),nq,np⟩
 refine Aw rfl (.none rfl) rfl rfl<|AX es 32 DV rfl fun nr un hj hk ar=>⟨⟨_,(Tn (Mo [30] o) ar)⟩,?_⟩
 refine KF rfl rfl ?_ ?_
 refine have ns:=Os ct ar;have nt:=K2 AH (K4 AH (K4 AH (K4 AH az ak ag ad ai) al y z q) r ac w p) o ar;Bi c fun uo hl c=>Aw rfl (.none rfl) rfl rfl<|Ay (κ:=AH) rfl rfl ns dcd HK (Cc nt) (B3 hl) (B5 hl) fun up nu uq hm bx=>?_
 obtain ⟨ur,us,rfl⟩:=Own.len hm
 refine ⟨⟨_,(T2 (Mo [30] o) ar bx)⟩,?_⟩
 refine BB rfl<|Aw rfl (.none rfl) rfl rfl<|Ba (cs:=[Sb ([122,122]:Bts),Sl s a.1.params u,I a.1.type_,I e,Sb f,Sb g,I h,Cx l,Sl aa d ab,I m,I a.1.at_]) nu 31 [[Sb ([122,122]:Bts),Sl s a.1.params u,I a.1.type_,I e,Sb f,Sb g,I h,Cx l,Sl aa d ab,I m,I a.1.at_]] Da Fs rfl rfl (.cons rfl rfl rfl .nil) rfl fun nv nw nx ny bz=>have n0:=K3 AS (K4 AS (K4 AS a9 y z q r) ac w p o) ar bx bz;have n1:=Ss AJ (K4 AJ ba p o ar bx) bz;have n2:Own AH 58 nv nw 31 (.slice (some ⟨nx,0,none⟩) 1 1) ([(AE.mk ([122,122]:Bts) a.1.params a.1.type_ (AB.mk e f g h l d m) a.1.at_)]:List AE):=Own.lit (css:=[[Sb ([122,122]:Bts),Sl s a.1.params u,I a.1.type_,I e,Sb f,Sb g,I h,Cx l,Sl aa d ab,I m,I a.1.at_]]) ny rfl rfl rfl (AQ (Fb (x:=(AE.mk ([122,122]:Bts) a.1.params a.1.type_ (AB.mk e f g h l d m) a.1.at_)) n0 n1) As) (Av rfl B4) rfl;⟨⟨_,(T3 (Mo [30] o) ar bx bz)⟩,?_⟩
 refine BB rfl<|have n4:=Os hm bz;Bi c fun ut hn c=>Aw rfl (.none rfl) rfl rfl<|Ay (κ:=AH) rfl rfl n4 dcd HK (BF n2) (B3 hn) (B5 hn) fun uu n5 uv e8 e9=>?_
 obtain ⟨c9,da,rfl⟩:=Own.len e8
 refine ⟨⟨_,(T4 (Mo [30] o) ar bx bz e9)⟩,?_⟩
 refine Qx an rfl (v:=Ag [Sl c9 (((([]:List AE)++n.1.funcs)++([(AE.mk ([122,122]:Bts) a.1.params a.1.type_ (AB.mk e f g h l d m) a.1.at_)]:List AE))) da]) (fun _ _=>CE (cs:=[Sl c9 (((([]:List AE)++n.1.funcs)++([(AE.mk ([122,122]:Bts) a.1.params a.1.type_ (AB.mk e f g h l d m) a.1.at_)]:List AE))) da]) [.slice none 0 0] DV KG rfl (.cons rfl rfl rfl .nil) rfl rfl)<|Cq dcd<|WY.one<|have n6:=Y3 hk bx bz e9;BC rfl (.none rfl) rfl<|A9 (vs:=[Sl c9 (((([]:List AE)++n.1.funcs)++([(AE.mk ([122,122]:Bts) a.1.params a.1.type_ (AB.mk e f g h l d m) a.1.at_)]:List AE))) da]) (cs':=[Sl c9 (((([]:List AE)++n.1.funcs)++([(AE.mk ([122,122]:Bts) a.1.params a.1.type_ (AB.mk e f g h l d m) a.1.at_)]:List AE))) da]) EY rfl rfl rfl rfl (AP (Own.one e8) BO) n6 dcd rfl rfl fun uw n7 ho=>WY.nil<|have n8:=Os e8 ho;⟨_,n5,hj,((([]:List AE)++n.1.funcs)++([(AE.mk ([122,122]:Bts) a.1.params a.1.type_ (AB.mk e f g h l d m) a.1.at_)]:List AE)),c9,da,Pu,c,(T3 (T4 (Mo [25,30,32] w) p o ar bx) bz e9 ho),n8,n7⟩
 refine Aw rfl (.none rfl) rfl rfl<|Ba (cs:=[Sb ([122,122]:Bts),Sl s a.1.params u,I a.1.type_,I e,Sb f,Sb g,I h,Cx l,Sl aa d ab,I m,I a.1.at_]) nr 31 [[Sb ([122,122]:Bts),Sl s a.1.params u,I a.1.type_,I e,Sb f,Sb g,I h,Cx l,Sl aa d ab,I m,I a.1.at_]] Da Fs rfl rfl (.cons rfl rfl rfl .nil) rfl fun oa ob oc od bc=>have oe:=K2 AS (K4 AS (K4 AS a9 y z q r) ac w p o) ar bc;have og:=K4 AJ ba p o ar bc;have oh:Own AH 58 oa ob 31 (.slice (some ⟨oc,0,none⟩) 1 1) ([(AE.mk ([122,122]:Bts) a.1.params a.1.type_ (AB.mk e f g h l d m) a.1.at_)]:List AE):=Own.lit (css:=[[Sb ([122,122]:Bts),Sl s a.1.params u,I a.1.type_,I e,Sb f,Sb g,I h,Cx l,Sl aa d ab,I m,I a.1.at_]]) od rfl rfl rfl (AQ (Fb (x:=(AE.mk ([122,122]:Bts) a.1.params a.1.type_ (AB.mk e f g h l d m) a.1.at_)) oe og) As) (Av rfl B4) rfl;⟨⟨_,(T2 (Mo [30] o) ar bc)⟩,?_⟩
 refine BB rfl<|have oi:=Os (Os ct ar) bc;have oj:=K3 AH (K4 AH (K4 AH (K4 AH az ak ag ad ai) al y z q) r ac w p) o ar bc;Bi c fun ux hp c=>Aw rfl (.none rfl) rfl rfl<|Ay (κ:=AH) rfl rfl oi dcd HK (Cc oj) (B3 hp) (B5 hp) fun uy uz u0 hq db=>?_
 obtain ⟨u2,u3,rfl⟩:=Own.len hq
 refine ⟨⟨_,(T3 (Mo [30] o) ar bc db)⟩,?_⟩
 refine BB rfl<|have ok:=Os oh db;Bi c fun u4 hr c=>Aw rfl (.none rfl) rfl rfl<|Ay (κ:=AH) rfl rfl hq dcd HK (BF ok) (B3 hr) (B5 hr) fun u5 ol u6 fa fb=>?_
 obtain ⟨dc,de,rfl⟩:=Own.len fa
 refine ⟨⟨_,(T4 (Mo [30] o) ar bc db fb)⟩,?_⟩
 refine Qx an rfl (v:=Ag [Sl dc (((([]:List AE)++n.1.funcs)++([(AE.mk ([122,122]:Bts) a.1.params a.1.type_ (AB.mk e f g h l d m) a.1.at_)]:List AE))) de]) (fun _ _=>CE (cs:=[Sl dc (((([]:List AE)++n.1.funcs)++([(AE.mk ([122,122]:Bts) a.1.params a.1.type_ (AB.mk e f g h l d m) a.1.at_)]:List AE))) de]) [.slice none 0 0] DV KG rfl (.cons rfl rfl rfl .nil) rfl rfl)<|Cq dcd<|WY.one<|have om:=Y3 hk bc db fb;BC rfl (.none rfl) rfl<|A9 (vs:=[Sl dc (((([]:List AE)++n.1.funcs)++([(AE.mk ([122,122]:Bts) a.1.params a.1.type_ (AB.mk e f g h l d m) a.1.at_)]:List AE))) de]) (cs':=[Sl dc (((([]:List AE)++n.1.funcs)++([(AE.mk ([122,122]:Bts) a.1.params a.1.type_ (AB.mk e f g h l d m) a.1.at_)]:List AE))) de]) EY rfl rfl rfl rfl (AP (Own.one fa) BO) om dcd rfl rfl fun u7 oo hs=>WY.nil<|have op:=Os fa hs;⟨_,ol,hj,((([]:List AE)++n.1.funcs)++([(AE.mk ([122,122]:Bts) a.1.params a.1.type_ (AB.mk e f g h l d m) a.1.at_)]:List AE)),dc,de,Pu,c,(T3 (T4 (Mo [25,30,32] w) p o ar bc) db fb hs),op,oo⟩
 refine Aw rfl (.none rfl) rfl rfl<|Ba (cs:=[Sb ([122,122]:Bts),Sl s a.1.params u,I a.1.type_,I e,Sb f,Sb g,I h,Cx l,Sl aa d ab,I m,I a.1.at_]) d9 31 [[Sb ([122,122]:Bts),Sl s a.1.params u,I a.1.type_,I e,Sb f,Sb g,I h,Cx l,Sl aa d ab,I m,I a.1.at_]] Da Fs rfl rfl (.cons rfl rfl rfl .nil) rfl fun fc oq os ot aj=>have ou:=K4 AS (K4 AS a9 y z q r) ac w p aj;have ov:=K2 AJ ba p aj;have eb:Own AH 58 fc oq 31 (.slice (some ⟨os,0,none⟩) 1 1) ([(AE.mk ([122,122]:Bts) a.1.params a.1.type_ (AB.mk e f g h l d m) a.1.at_)]:List AE):=Own.lit (css:=[[Sb ([122,122]:Bts),Sl s a.1.params u,I a.1.type_,I e,Sb f,Sb g,I h,Cx l,Sl aa d ab,I m,I a.1.at_]]) ot rfl rfl rfl (AQ (Fb (x:=(AE.mk ([122,122]:Bts) a.1.params a.1.type_ (AB.mk e f g h l d m) a.1.at_)) ou ov) As) (Av rfl B4) rfl;⟨⟨_,(Mo [30] aj)⟩,?_⟩
 refine KF rfl rfl ?_ ?_
 refine Aw rfl (.none rfl) rfl rfl<|Ba (cs:=[]) fc 30 [] Da Fs rfl rfl .nil rfl fun ht ow ox oy au=>have hu:Own AH 58 ht ow 30 (.slice (some ⟨ox,0,none⟩) 0 0) ([]:List AE):=Own.lit (css:=[]) oy rfl rfl rfl As B4 rfl;⟨⟨_,(Tn (Mo [30] aj) au)⟩,?_⟩
 refine KF rfl rfl ?_ ?_
 refine have oz:=K2 AH (K4 AH (K4 AH (K4 AH az ak ag ad ai) al y z q) r ac w p) aj au;Bi c fun u8 hw c=>Aw rfl (.none rfl) rfl rfl<|Ay (κ:=AH) rfl rfl hu dcd HK (Cc oz) (B3 hw) (B5 hw) fun va o0 vb fd bd=>?_
 obtain ⟨vc,vd,rfl⟩:=Own.len fd
 refine ⟨⟨_,(T2 (Mo [30] aj) au bd)⟩,?_⟩
 refine KF rfl rfl ?_ ?_
 refine have o1:=Os (Os eb au) bd;Bi c fun ve hx c=>Aw rfl (.none rfl) rfl rfl<|Ay (κ:=AH) rfl rfl fd dcd HK (BF o1) (B3 hx) (B5 hx) fun vf o2 vg hy fe=>?_
 obtain ⟨df,dg,rfl⟩:=Own.len hy
 refine ⟨⟨_,(T3 (Mo [30] aj) au bd fe)⟩,?_⟩
 refine Qx an rfl (v:=Ag [Sl df (((([]:List AE)++n.1.funcs)++([(AE.mk ([122,122]:Bts) a.1.params a.1.type_ (AB.mk e f g h l d m) a.1.at_)]:List AE))) dg]) (fun _ _=>CE (cs:=[Sl df (((([]:List AE)++n.1.funcs)++([(AE.mk ([122,122]:Bts) a.1.params a.1.type_ (AB.mk e f g h l d m) a.1.at_)]:List AE))) dg]) [.slice none 0 0] DV KG rfl (.cons rfl rfl rfl .nil) rfl rfl)<|BB rfl<|Aw rfl (.none rfl) rfl rfl<|AX o2 32 DV rfl fun o6 vh o7 o8 ff=>⟨⟨_,(T4 (Mo [30] aj) au bd fe ff)⟩,?_⟩
 refine Cq dcd<|WY.one<|have hz:=Os hy ff;BC rfl (.none rfl) rfl<|A9 (vs:=[Sl df (((([]:List AE)++n.1.funcs)++([(AE.mk ([122,122]:Bts) a.1.params a.1.type_ (AB.mk e f g h l d m) a.1.at_)]:List AE))) dg]) (cs':=[Sl df (((([]:List AE)++n.1.funcs)++([(AE.mk ([122,122]:Bts) a.1.params a.1.type_ (AB.mk e f g h l d m) a.1.at_)]:List AE))) dg]) EY rfl rfl rfl rfl (AP (Own.one hz) BO) o8 dcd rfl rfl fun vi pa h0=>WY.nil<|have pb:=Os hz h0;⟨_,o6,o7,((([]:List AE)++n.1.funcs)++([(AE.mk ([122,122]:Bts) a.1.params a.1.type_ (AB.mk e f g h l d m) a.1.at_)]:List AE)),df,dg,Pu,c,(T3 (T4 (Mo [25,30,32] w) p aj au bd) fe ff h0),pb,pa⟩
 refine Aw rfl (.none rfl) rfl rfl<|AX o0 32 DV rfl fun vj vk pc pd dh=>⟨⟨_,(T3 (Mo [30] aj) au bd dh)⟩,?_⟩
 refine BB rfl<|have pe:=Os fd dh;have pf:=Os (Os (Os eb au) bd) dh;Bi c fun vl h1 c=>Aw rfl (.none rfl) rfl rfl<|Ay (κ:=AH) rfl rfl pe dcd HK (BF pf) (B3 h1) (B5 h1) fun vm pg vn fg fh=>?_
 obtain ⟨di,dj,rfl⟩:=Own.len fg
 refine ⟨⟨_,(T4 (Mo [30] aj) au bd dh fh)⟩,?_⟩
 refine Qx an rfl (v:=Ag [Sl di (((([]:List AE)++n.1.funcs)++([(AE.mk ([122,122]:Bts) a.1.params a.1.type_ (AB.mk e f g h l d m) a.1.at_)]:List AE))) dj]) (fun _ _=>CE (cs:=[Sl di (((([]:List AE)++n.1.funcs)++([(AE.mk ([122,122]:Bts) a.1.params a.1.type_ (AB.mk e f g h l d m) a.1.at_)]:List AE))) dj]) [.slice none 0 0] DV KG rfl (.cons rfl rfl rfl .nil) rfl rfl)<|Cq dcd<|WY.one<|have ph:=Bs pd fh;BC rfl (.none rfl) rfl<|A9 (vs:=[Sl di (((([]:List AE)++n.1.funcs)++([(AE.mk ([122,122]:Bts) a.1.params a.1.type_ (AB.mk e f g h l d m) a.1.at_)]:List AE))) dj]) (cs':=[Sl di (((([]:List AE)++n.1.funcs)++([(AE.mk ([122,122]:Bts) a.1.params a.1.type_ (AB.mk e f g h l d m) a.1.at_)]:List AE))) dj]) EY rfl rfl rfl rfl (AP (Own.one fg) BO) ph dcd rfl rfl fun vo pi h2=>WY.nil<|have pj:=Os fg h2;⟨_,pg,pc,((([]:List AE)++n.1.funcs)++([(AE.mk ([122,122]:Bts) a.1.params a.1.type_ (AB.mk e f g h l d m) a.1.at_)]:List AE)),di,dj,Pu,c,(T3 (T4 (Mo [25,30,32] w) p aj au bd) dh fh h2),pj,pi⟩
 refine Aw rfl (.none rfl) rfl rfl<|AX ht 32 DV rfl fun vp vq pk pl b0=>⟨⟨_,(T2 (Mo [30] aj) au b0)⟩,?_⟩
 refine BB rfl<|have pm:=Os hu b0;have pn:=K3 AH (K4 AH (K4 AH (K4 AH az ak ag ad ai) al y z q) r ac w p) aj au b0;Bi c fun vr h3 c=>Aw rfl (.none rfl) rfl rfl<|Ay (κ:=AH) rfl rfl pm dcd HK (Cc pn) (B3 h3) (B5 h3) fun vt vu vv h4 dk=>?_
 obtain ⟨vw,vx,rfl⟩:=Own.len h4
 refine ⟨⟨_,(T3 (Mo [30] aj) au b0 dk)⟩,?_⟩
 refine BB rfl<|have po:=Os (Os (Os eb au) b0) dk;Bi c fun vy h5 c=>Aw rfl (.none rfl) rfl rfl<|Ay (κ:=AH) rfl rfl h4 dcd HK (BF po) (B3 h5) (B5 h5) fun vz pp v1 fi fj=>?_
 obtain ⟨dl,dm,rfl⟩:=Own.len fi
 refine ⟨⟨_,(T4 (Mo [30] aj) au b0 dk fj)⟩,?_⟩
 refine Qx an rfl (v:=Ag [Sl dl (((([]:List AE)++n.1.funcs)++([(AE.mk ([122,122]:Bts) a.1.params a.1.type_ (AB.mk e f g h l d m) a.1.at_)]:List AE))) dm]) (fun _ _=>CE (cs:=[Sl dl (((([]:List AE)++n.1.funcs)++([(AE.mk ([122,122]:Bts) a.1.params a.1.type_ (AB.mk e f g h l d m) a.1.at_)]:List AE))) dm]) [.slice none 0 0] DV KG rfl (.cons rfl rfl rfl .nil) rfl rfl)<|Cq dcd<|WY.one<|have pq:=Y2 pl dk fj;BC rfl (.none rfl) rfl<|A9 (vs:=[Sl dl (((([]:List AE)++n.1.funcs)++([(AE.mk ([122,122]:Bts) a.1.params a.1.type_ (AB.mk e f g h l d m) a.1.at_)]:List AE))) dm]) (cs':=[Sl dl (((([]:List AE)++n.1.funcs)++([(AE.mk ([122,122]:Bts) a.1.params a.1.type_ (AB.mk e f g h l d m) a.1.at_)]:List AE))) dm]) EY rfl rfl rfl rfl (AP (Own.one fi) BO) pq dcd rfl rfl fun v2 pr h6=>WY.nil<|have ps:=Os fi h6;⟨_,pp,pk,((([]:List AE)++n.1.funcs)++([(AE.mk ([122,122]:Bts) a.1.params a.1.type_ (AB.mk e f g h l d m) a.1.at_)]:List AE)),dl,dm,Pu,c,(T3 (T4 (Mo [25,30,32] w) p aj au b0) dk fj h6),ps,pr⟩
 refine Aw rfl (.none rfl) rfl rfl<|AX fc 32 DV rfl fun pt v3 pu pv b1=>⟨⟨_,(Tn (Mo [30] aj) b1)⟩,?_⟩
 refine BB rfl<|Aw rfl (.none rfl) rfl rfl<|Ba (cs:=[]) pt 30 [] Da Fs rfl rfl .nil rfl fun pw px py pz b2=>have p0:Own AH 58 pw px 30 (.slice (some ⟨py,0,none⟩) 0 0) ([]:List AE):=Own.lit (css:=[]) pz rfl rfl rfl As B4 rfl;⟨⟨_,(T2 (Mo [30] aj) b1 b2)⟩,?_⟩
 refine BB rfl<|have p1:=K3 AH (K4 AH (K4 AH (K4 AH az ak ag ad ai) al y z q) r ac w p) aj b1 b2;Bi c fun v4 h7 c=>Aw rfl (.none rfl) rfl rfl<|Ay (κ:=AH) rfl rfl p0 dcd HK (Cc p1) (B3 h7) (B5 h7) fun v5 v6 v7 h8 dn=>?_
 obtain ⟨v8,v9,rfl⟩:=Own.len h8
 refine ⟨⟨_,(T3 (Mo [30] aj) b1 b2 dn)⟩,?_⟩
 refine BB rfl<|have p2:=Os (Os (Os eb b1) b2) dn;Bi c fun wa h9 c=>Aw rfl (.none rfl) rfl rfl<|Ay (κ:=AH) rfl rfl h8 dcd HK (BF p2) (B3 h9) (B5 h9) fun wb p3 wc fk fl=>?_
 obtain ⟨dp,dq,rfl⟩:=Own.len fk
 refine ⟨⟨_,(T4 (Mo [30] aj) b1 b2 dn fl)⟩,?_⟩
 refine Qx an rfl (v:=Ag [Sl dp (((([]:List AE)++n.1.funcs)++([(AE.mk ([122,122]:Bts) a.1.params a.1.type_ (AB.mk e f g h l d m) a.1.at_)]:List AE))) dq]) (fun _ _=>CE (cs:=[Sl dp (((([]:List AE)++n.1.funcs)++([(AE.mk ([122,122]:Bts) a.1.params a.1.type_ (AB.mk e f g h l d m) a.1.at_)]:List AE))) dq]) [.slice none 0 0] DV KG rfl (.cons rfl rfl rfl .nil) rfl rfl)<|Cq dcd<|WY.one<|have p4:=Y3 pv b2 dn fl;BC rfl (.none rfl) rfl<|A9 (vs:=[Sl dp (((([]:List AE)++n.1.funcs)++([(AE.mk ([122,122]:Bts) a.1.params a.1.type_ (AB.mk e f g h l d m) a.1.at_)]:List AE))) dq]) (cs':=[Sl dp (((([]:List AE)++n.1.funcs)++([(AE.mk ([122,122]:Bts) a.1.params a.1.type_ (AB.mk e f g h l d m) a.1.at_)]:List AE))) dq]) EY rfl rfl rfl rfl (AP (Own.one fk) BO) p4 dcd rfl rfl fun wd p5 ia=>WY.nil<|have p6:=Os fk ia;⟨_,p3,pu,((([]:List AE)++n.1.funcs)++([(AE.mk ([122,122]:Bts) a.1.params a.1.type_ (AB.mk e f g h l d m) a.1.at_)]:List AE)),dp,dq,Pu,c,(T3 (T4 (Mo [25,30,32] w) p aj b1 b2) dn fl ia),p6,p5⟩
 refine Aw rfl (.none rfl) rfl rfl<|AX d9 32 DV rfl fun ib we fm fn ah=>⟨⟨_,(Mo [30] ah)⟩,?_⟩
 refine KF rfl rfl ?_ ?_
 refine Aw rfl (.none rfl) rfl rfl<|Ba (cs:=[]) ib 30 [] Da Fs rfl rfl .nil rfl fun ic p7 p8 p9 av=>have id:Own AH 58 ic p7 30 (.slice (some ⟨p8,0,none⟩) 0 0) ([]:List AE):=Own.lit (css:=[]) p9 rfl rfl rfl As B4 rfl;⟨⟨_,(Tn (Mo [30] ah) av)⟩,?_⟩
 refine KF rfl rfl ?_ ?_
 refine have qa:=K2 AH (K4 AH (K4 AH (K4 AH az ak ag ad ai) al y z q) r ac w p) ah av;Bi c fun wf ie c=>Aw rfl (.none rfl) rfl rfl<|Ay (κ:=AH) rfl rfl id dcd HK (Cc qa) (B3 ie) (B5 ie) fun wg qb wh ig b3=>?_
 obtain ⟨wi,wj,rfl⟩:=Own.len ig
 refine ⟨⟨_,(T2 (Mo [30] ah) av b3)⟩,?_⟩
 refine BB rfl<|Aw rfl (.none rfl) rfl rfl<|Ba (cs:=[Sb ([122,122]:Bts),Sl s a.1.params u,I a.1.type_,I e,Sb f,Sb g,I h,Cx l,Sl aa d ab,I m,I a.1.at_]) qb 31 [[Sb ([122,122]:Bts),Sl s a.1.params u,I a.1.type_,I e,Sb f,Sb g,I h,Cx l,Sl aa d ab,I m,I a.1.at_]] Da Fs rfl rfl (.cons rfl rfl rfl .nil) rfl fun qc qd qe qf b4=>have qg:=K3 AS (K4 AS (K4 AS a9 y z q r) ac w p ah) av b3 b4;have qh:=Ss AJ (K4 AJ ba p ah av b3) b4;have qi:Own AH 58 qc qd 31 (.slice (some ⟨qe,0,none⟩) 1 1) ([(AE.mk ([122,122]:Bts) a.1.params a.1.type_ (AB.mk e f g h l d m) a.1.at_)]:List AE):=Own.lit (css:=[[Sb ([122,122]:Bts),Sl s a.1.params u,I a.1.type_,I e,Sb f,Sb g,I h,Cx l,Sl aa d ab,I m,I a.1.at_]]) qf rfl rfl rfl (AQ (Fb (x:=(AE.mk ([122,122]:Bts) a.1.params a.1.type_ (AB.mk e f g h l d m) a.1.at_)) qg qh) As) (Av rfl B4) rfl;⟨⟨_,(T3 (Mo [30] ah) av b3 b4)⟩,?_⟩
 refine BB rfl<|have qj:=Os ig b4;Bi c fun wk ih c=>Aw rfl (.none rfl) rfl rfl<|Ay (κ:=AH) rfl rfl qj dcd HK (BF qi) (B3 ih) (B5 ih) fun wl qk wm fo fp=>?_
 obtain ⟨dr,ds,rfl⟩:=Own.len fo
 refine ⟨⟨_,(T4 (Mo [30] ah) av b3 b4 fp)⟩,?_⟩
 refine Qx an rfl (v:=Ag [Sl dr (((([]:List AE)++n.1.funcs)++([(AE.mk ([122,122]:Bts) a.1.params a.1.type_ (AB.mk e f g h l d m) a.1.at_)]:List AE))) ds]) (fun _ _=>CE (cs:=[Sl dr (((([]:List AE)++n.1.funcs)++([(AE.mk ([122,122]:Bts) a.1.params a.1.type_ (AB.mk e f g h l d m) a.1.at_)]:List AE))) ds]) [.slice none 0 0] DV KG rfl (.cons rfl rfl rfl .nil) rfl rfl)<|Cq dcd<|WY.one<|have ql:=Y4 fn av b3 b4 fp;BC rfl (.none rfl) rfl<|A9 (vs:=[Sl dr (((([]:List AE)++n.1.funcs)++([(AE.mk ([122,122]:Bts) a.1.params a.1.type_ (AB.mk e f g h l d m) a.1.at_)]:List AE))) ds]) (cs':=[Sl dr (((([]:List AE)++n.1.funcs)++([(AE.mk ([122,122]:Bts) a.1.params a.1.type_ (AB.mk e f g h l d m) a.1.at_)]:List AE))) ds]) EY rfl rfl rfl rfl (AP (Own.one fo) BO) ql dcd rfl rfl fun wn qm ii=>WY.nil<|have qn:=Os fo ii;⟨_,qk,fm,((([]:List AE)++n.1.funcs)++([(AE.mk ([122,122]:Bts) a.1.params a.1.type_ (AB.mk e f g h l d m) a.1.at_)]:List AE)),dr,ds,Pu,c,(T3 (T4 (Mo [25,30,32] w) p ah av b3) b4 fp ii),qn,qm⟩
 refine Aw rfl (.none rfl) rfl rfl<|Ba (cs:=[Sb ([122,122]:Bts),Sl s a.1.params u,I a.1.type_,I e,Sb f,Sb g,I h,Cx l,Sl aa d ab,I m,I a.1.at_]) ic 31 [[Sb ([122,122]:Bts),Sl s a.1.params u,I a.1.type_,I e,Sb f,Sb g,I h,Cx l,Sl aa d ab,I m,I a.1.at_]] Da Fs rfl rfl (.cons rfl rfl rfl .nil) rfl fun qo qp qq qr be=>have qs:=K2 AS (K4 AS (K4 AS a9 y z q r) ac w p ah) av be;have qt:=K4 AJ ba p ah av be;have qu:Own AH 58 qo qp 31 (.slice (some ⟨qq,0,none⟩) 1 1) ([(AE.mk ([122,122]:Bts) a.1.params a.1.type_ (AB.mk e f g h l d m) a.1.at_)]:List AE):=Own.lit (css:=[[Sb ([122,122]:Bts),Sl s a.1.params u,I a.1.type_,I e,Sb f,Sb g,I h,Cx l,Sl aa d ab,I m,I a.1.at_]]) qr rfl rfl rfl (AQ (Fb (x:=(AE.mk ([122,122]:Bts) a.1.params a.1.type_ (AB.mk e f g h l d m) a.1.at_)) qs qt) As) (Av rfl B4) rfl;⟨⟨_,(T2 (Mo [30] ah) av be)⟩,?_⟩
 refine BB rfl<|have qv:=Os id be;have qw:=K3 AH (K4 AH (K4 AH (K4 AH az ak ag ad ai) al y z q) r ac w p) ah av be;Bi c fun wo ij c=>Aw rfl (.none rfl) rfl rfl<|Ay (κ:=AH) rfl rfl qv dcd HK (Cc qw) (B3 ij) (B5 ij) fun wp wq wr ik dt=>?_
 obtain ⟨ws,wt,rfl⟩:=Own.len ik
 refine ⟨⟨_,(T3 (Mo [30] ah) av be dt)⟩,?_⟩
 refine BB rfl<|have qx:=Os qu dt;Bi c fun wu il c=>Aw rfl (.none rfl) rfl rfl<|Ay (κ:=AH) rfl rfl ik dcd HK (BF qx) (B3 il) (B5 il) fun wv qy ww fq fr=>?_
 obtain ⟨du,dv,rfl⟩:=Own.len fq
 refine ⟨⟨_,(T4 (Mo [30] ah) av be dt fr)⟩,?_⟩
 refine Qx an rfl (v:=Ag [Sl du (((([]:List AE)++n.1.funcs)++([(AE.mk ([122,122]:Bts) a.1.params a.1.type_ (AB.mk e f g h l d m) a.1.at_)]:List AE))) dv]) (fun _ _=>CE (cs:=[Sl du (((([]:List AE)++n.1.funcs)++([(AE.mk ([122,122]:Bts) a.1.params a.1.type_ (AB.mk e f g h l d m) a.1.at_)]:List AE))) dv]) [.slice none 0 0] DV KG rfl (.cons rfl rfl rfl .nil) rfl rfl)<|Cq dcd<|WY.one<|have qz:=Y4 fn av be dt fr;BC rfl (.none rfl) rfl<|A9 (vs:=[Sl du (((([]:List AE)++n.1.funcs)++([(AE.mk ([122,122]:Bts) a.1.params a.1.type_ (AB.mk e f g h l d m) a.1.at_)]:List AE))) dv]) (cs':=[Sl du (((([]:List AE)++n.1.funcs)++([(AE.mk ([122,122]:Bts) a.1.params a.1.type_ (AB.mk e f g h l d m) a.1.at_)]:List AE))) dv]) EY rfl rfl rfl rfl (AP (Own.one fq) BO) qz dcd rfl rfl fun wx q0 im=>WY.nil<|have q1:=Os fq im;⟨_,qy,fm,((([]:List AE)++n.1.funcs)++([(AE.mk ([122,122]:Bts) a.1.params a.1.type_ (AB.mk e f g h l d m) a.1.at_)]:List AE)),du,dv,Pu,c,(T3 (T4 (Mo [25,30,32] w) p ah av be) dt fr im),q1,q0⟩
 refine Aw rfl (.none rfl) rfl rfl<|Ba (cs:=[Sb ([122,122]:Bts),Sl s a.1.params u,I a.1.type_,I e,Sb f,Sb g,I h,Cx l,Sl aa d ab,I m,I a.1.at_]) ib 31 [[Sb ([122,122]:Bts),Sl s a.1.params u,I a.1.type_,I e,Sb f,Sb g,I h,Cx l,Sl aa d ab,I m,I a.1.at_]] Da Fs rfl rfl (.cons rfl rfl rfl .nil) rfl fun io q2 q3 q4 bf=>have q5:=Ss AS (K4 AS (K4 AS a9 y z q r) ac w p ah) bf;have q6:=K3 AJ ba p ah bf;have q7:Own AH 58 io q2 31 (.slice (some ⟨q3,0,none⟩) 1 1) ([(AE.mk ([122,122]:Bts) a.1.params a.1.type_ (AB.mk e f g h l d m) a.1.at_)]:List AE):=Own.lit (css:=[[Sb ([122,122]:Bts),Sl s a.1.params u,I a.1.type_,I e,Sb f,Sb g,I h,Cx l,Sl aa d ab,I m,I a.1.at_]]) q4 rfl rfl rfl (AQ (Fb (x:=(AE.mk ([122,122]:Bts) a.1.params a.1.type_ (AB.mk e f g h l d m) a.1.at_)) q5 q6) As) (Av rfl B4) rfl;⟨⟨_,(Tn (Mo [30] ah) bf)⟩,?_⟩
 refine BB rfl<|Aw rfl (.none rfl) rfl rfl<|Ba (cs:=[]) io 30 [] Da Fs rfl rfl .nil rfl fun q8 q9 ra rb b5=>have rc:Own AH 58 q8 q9 30 (.slice (some ⟨ra,0,none⟩) 0 0) ([]:List AE):=Own.lit (css:=[]) rb rfl rfl rfl As B4 rfl;⟨⟨_,(T2 (Mo [30] ah) bf b5)⟩,?_⟩
 refine BB rfl<|have rd:=K3 AH (K4 AH (K4 AH (K4 AH az ak ag ad ai) al y z q) r ac w p) ah bf b5;Bi c fun wy ip c=>Aw rfl (.none rfl) rfl rfl<|Ay (κ:=AH) rfl rfl rc dcd HK (Cc rd) (B3 ip) (B5 ip) fun wz w0 w1 iq dw=>?_
 obtain ⟨w2,w3,rfl⟩:=Own.len iq
 refine ⟨⟨_,(T3 (Mo [30] ah) bf b5 dw)⟩,?_⟩
 refine BB rfl<|have re:=Os (Os q7 b5) dw;Bi c fun w4 ir c=>Aw rfl (.none rfl) rfl rfl<|Ay (κ:=AH) rfl rfl iq dcd HK (BF re) (B3 ir) (B5 ir) fun w5 rf w6 fs ft=>?_
 obtain ⟨dx,dy,rfl⟩:=Own.len fs
 refine ⟨⟨_,(T4 (Mo [30] ah) bf b5 dw ft)⟩,?_⟩
 refine Qx an rfl (v:=Ag [Sl dx (((([]:List AE)++n.1.funcs)++([(AE.mk ([122,122]:Bts) a.1.params a.1.type_ (AB.mk e f g h l d m) a.1.at_)]:List AE))) dy]) (fun _ _=>CE (cs:=[Sl dx (((([]:List AE)++n.1.funcs)++([(AE.mk ([122,122]:Bts) a.1.params a.1.type_ (AB.mk e f g h l d m) a.1.at_)]:List AE))) dy]) [.slice none 0 0] DV KG rfl (.cons rfl rfl rfl .nil) rfl rfl)<|Cq dcd<|WY.one<|have rg:=Y4 fn bf b5 dw ft;BC rfl (.none rfl) rfl<|A9 (vs:=[Sl dx (((([]:List AE)++n.1.funcs)++([(AE.mk ([122,122]:Bts) a.1.params a.1.type_ (AB.mk e f g h l d m) a.1.at_)]:List AE))) dy]) (cs':=[Sl dx (((([]:List AE)++n.1.funcs)++([(AE.mk ([122,122]:Bts) a.1.params a.1.type_ (AB.mk e f g h l d m) a.1.at_)]:List AE))) dy]) EY rfl rfl rfl rfl (AP (Own.one fs) BO) rg dcd rfl rfl fun w7 rh it=>WY.nil<|have ri:=Os fs it;⟨_,rf,fm,((([]:List AE)++n.1.funcs)++([(AE.mk ([122,122]:Bts) a.1.params a.1.type_ (AB.mk e f g h l d m) a.1.at_)]:List AE)),dx,dy,Pu,c,(T3 (T4 (Mo [25,30,32] w) p ah bf b5) dw ft it),ri,rh⟩
 rintro _ cr ⟨a3,d8,er,a6,br,bt,rfl,c,b6,rj,iu⟩
 rw [F5] at c
 refine Aa<|Sr<|Vx (Lx Gi rfl rfl (Bw iu)) ?_
 obtain ⟨rk,bh,iv⟩:=Own.freeze (S:=[30]) rj dcd dcd
 refine Bi c fun ec rl c=>Ca (Cg [Ag [Sl br a6 bt]] rfl) (O8 ay rk cr rl (BI (x:=(AM.mk a6)) iv)) ?_
 rintro _ rm ⟨iw,w8,rfl,bg,rn⟩
 obtain rfl:=Aq rn
 refine Vx (v:=I ec.why) (Ju (cs:=[I ec.why,I ec.at_]) Sm rfl rfl)<|Vr (.bool (ec.why != 0))<|AA<|Cn c (fun ro c=>?_) fun ro c=>?_
 refine Sr<|Va (.bool true)<|AA<|AY ?_
 obtain rfl:=AO c
 refine O1 B cd rfl (.tmp rfl)<|⟨iw,rfl,Ho (Tn (T4 (T4 (T4 (T4 (Mo [21,22,23,24,25,30,32] b7) bi cf bn bo) ak ag ad ai) al y z q) r ac b6 bh) bg) cc⟩
 refine WC.skip<|Sr<|have rp:=Bs (Y4 (Y4 (Y4 d3 ak ag ad ai) al y z q) r ac b6 bh) bg;Vx (Lx Gi rfl rfl (Bw rp))<|Vx (Fd Vw rfl)<|have rq:=Bs (Y4 (Y4 (Y4 f3 ak ag ad ai) al y z q) r ac b6 bh) bg;Vx (Ld B1 rfl (Bc rq rfl))<|Vm<|Vm<|Vr (I (Wr (16384 - a5)))<|have rr:=Ss AH (K4 AH (K4 AH (K4 AH az ak ag ad ai) al y z q) r ac b6 bh) bg;have ix:=K3 BD (K4 BD (K4 BD (K4 BD f1 bn bo ak ag) ad ai al y) z q r ac) b6 bh bg;Bi c fun ap rs c=>Ca (Cg [Ag [Sl bj n.1.funcs bk],Sb a2.name,Sl bl n.2.1 bm,I (Wr (16384 - a5))] rfl) (MU ay iw rm rs (BI (x:=n.1) rr) ix) ?_
 rintro _ w9 ⟨rt,xa,rfl,dz,ru⟩
 obtain ⟨iz,i0,rfl,iy⟩:=E1 (L6 ru)
 refine Ef<|AX rt 33 Ml rfl fun rx xc xd ry ca=>have rz:=Ss Kd.cpx iy ca;Eu<|St NG ry rfl rfl rfl rfl fun r0 r1 cb=>AA<|Sr<|have r2:=Bs (Y4 iu bh bg dz ca) cb;Vx (Lx Gi rfl rfl (Bw r2))<|Vm<|have r3:=K4 AH iv bg dz ca cb;have r4:=K3 BD ix dz ca cb;Bi c fun aq r5 c=>Ca (Cg [Ag [Sl br a6 bt],Sb ([122,122]:Bts),Sl bl n.2.1 bm,I 16384] rfl) (MU ay rx r0 r5 (BI (x:=(AM.mk a6)) r3) r4) ?_
 rintro _ xe ⟨r6,xf,rfl,ed,r7⟩
 obtain ⟨i2,i3,rfl,i1⟩:=E1 (L6 r7)
 refine Ef<|AX r6 34 Ml rfl fun ee xh xi r8 d0=>have r9:=Ss Kd.cpx i1 d0;Eu<|St NG r8 rfl rfl rfl rfl fun i4 ef d1=>AA<|Aa<|Sr<|Vx (Fz Nb rfl)<|have eg:=Y3 r1 ed d0 d1;Vx (Ld L2 rfl (Bc eg rfl))<|Vr (.bool (ap.why==40))<|AA<|Cn c (fun sa c=>?_) fun sa c=>?_
 refine Sr<|Vx (Fz Nb rfl)<|Vx (Ld L2 rfl (Bc ef rfl))<|Vr (.bool (aq.why==40))<|Va (.bool (aq.why==40))<|AA<|AY ?_
 obtain rfl:=AO c
 refine O1 B cd rfl (.tmp rfl)<|⟨ee,rfl,Ho (T3 (T4 (T4 (T4 (T4 (T4 (Mo [21,22,23,24,25,30,32,33,34] b7) bi cf bn bo) ak ag ad ai) al y z q) r ac b6 bh) bg dz ca cb) ed d0 d1) cc⟩
 refine WC.skip<|Am (fun bp i5=>∃a3 fu fv,bp=Env.puts a3 [(4,.bool fv)]∧HJ fv=some d2∧AT [] ee i4 fu i5) ?_ ?_
 refine AL<|Vx (Fz Nb rfl)<|Vx (Ld L2 rfl (Bc eg rfl))<|Vx (Fz Nb rfl)<|Vx (Ld L2 rfl (Bc ef rfl))<|Vr (.bool (ap.why==aq.why))<|Vm<|Bo c (fun a1 c=>?_) fun a1 c=>?_
 refine Gx a1 (Fd QA rfl)<|Gx a1 (Lx Du rfl rfl (Bk.part eg 1 [I ap.value.type_,Cx ap.value.num,.bool ap.value.bool,Sl iz ap.value.list i0] rfl))<|Gx a1 (Fd QA rfl)<|Gx a1 (Lx Du rfl rfl (Bk.part ef 1 [I aq.value.type_,Cx aq.value.num,.bool aq.value.bool,Sl i2 aq.value.list i3] rfl))<|have sb:=K4 Kd.cpx rz cb ed d0 d1;have sc:=Ss Kd.cpx r9 d1;Bi c fun xj sd c=>CC (.guard (t:=true) (b:=true) rfl rfl rfl rfl (Cb a1)) rfl rfl (Cg [Ag [I ap.value.type_,Cx ap.value.num,.bool ap.value.bool,Sl iz ap.value.list i0],Ag [I aq.value.type_,Cx aq.value.num,.bool aq.value.bool,Sl i2 aq.value.list i3]] rfl)<|Calls.mono (Te ay ee i4 sd (BE (x:=(AI.mk ap.value.type_ ap.value.num ap.value.bool ap.value.list)) sb) (BE (x:=(AI.mk aq.value.type_ aq.value.num aq.value.bool aq.value.list)) sc)) ?_
 rintro _ xk ⟨i6,rfl,eh⟩
 refine ⟨_,rfl,?_⟩
 refine Vp a1<|Vm<|Bo c (fun aw c=>?_) fun aw c=>?_
 refine Gx aw (Fd QB rfl)<|have se:=Bs ef eh;Gx aw (Ld CH rfl (Bc se rfl))<|Gx aw (Fd QB rfl)<|have sf:=Bs eg eh;Gx aw (Ld CH rfl (Bc sf rfl))<|Gm aw<|Gr aw (I (Wr (ap.moves+a5)))<|Gr aw (.bool (aq.moves==(Wr (ap.moves+a5))))<|Vp aw<|Va (.bool (aq.moves==(Wr (ap.moves+a5))))<|AA<|⟨_,i6,(aq.moves==(Wr (ap.moves+a5))),Pu,c,(Mo [] eh)⟩
 refine Pg aw<|Pg aw<|Pg aw<|Pg aw<|Pg aw<|Pg aw<|Pg aw<|Vp aw<|Va (.bool false)<|AA<|⟨_,i6,false,Pu,c,(Mo [] eh)⟩
 refine Pg a1<|Pg a1<|Pg a1<|Pg a1<|Pg a1<|Vp a1<|Vm<|Pg rfl<|Pg rfl<|Pg rfl<|Pg rfl<|Pg rfl<|Pg rfl<|Pg rfl<|Vr (.bool false)<|Va (.bool false)<|AA<|⟨_,ee,false,Pu,c,Rf⟩
 rintro _ i5 ⟨a3,fu,fv,rfl,c,sg⟩
 rw [HJ] at c
 refine AY ?_
 obtain rfl:=AO c
 refine O1 B cd rfl (.tmp rfl)<|⟨fu,rfl,Ho (T4 (T4 (T4 (T4 (T4 (T4 (Mo [21,22,23,24,25,30,32,33,34] b7) bi cf bn bo) ak ag ad ai) al y z q) r ac b6 bh) bg dz ca cb) ed d0 d1 sg) cc⟩
theorem Py(c:Nat):CG.Spec (CG c):=lk0 (PT c)
end Fth
namespace Fth
open Go
def T{α:Type}(x:Option α)(Q:α→Prop):Prop:=∃a,x=some a∧Q a
section
variable{α β:Type}{x:Option α}{f:α→Option β}{P:α→Prop}{Q:β→Prop}
theorem T.some{a:α}(h:P a):T (.some a) P:=⟨a,rfl,h⟩
theorem T.bind(h:T x P)(k: ∀a,P a→T (f a) Q):T (x.bind f) Q:=by
 obtain ⟨a,rfl,ha⟩:=h
 exact k a ha
theorem T.eq{a:α}(h:x= .some a)(k:T (f a) Q):T (x.bind f) Q:=by subst h;exact k
theorem T.mono{P':α→Prop}(h:T x P)(k: ∀a,P a→P' a):T x P':=by obtain ⟨a,e,ha⟩:=h;exact ⟨a,e,k a ha⟩
theorem T.cond{c:Bool}{x y:Option α}(h1:c=true→T x P)(h2:c=false→T y P):T (bif c then x else y) P:=by
 cases c
 ·exact h2 rfl
 ·exact h1 rfl
end
def Ev(p:Nat→Prop):Prop:=∃n,∀N,n≤N→p N
theorem Ev.and{p q:Nat→Prop}(hp:Ev p)(hq:Ev q):Ev fun N=>p N∧q N:=by
 obtain ⟨n,hn⟩:=hp;obtain ⟨m,hm⟩:=hq
 exact ⟨n+m,fun N h=>⟨hn N om,hm N om⟩⟩
theorem Ev.mono{p q:Nat→Prop}(hp:Ev p)(h: ∀N,p N→q N):Ev q:=let ⟨n,hn⟩:=hp;⟨n,fun N hN=>h N (hn N hN)⟩
theorem Ev.all{p:Nat→Prop}(h: ∀N,p N):Ev p:=⟨0,fun N _=>h N⟩
theorem Ev.get{p:Nat→Prop}(hp:Ev p): ∃N,p N:=let ⟨n,hn⟩:=hp;⟨n,hn n (Nat.le_refl n)⟩
theorem Lv(n:Nat):Ev fun N=>n≤N:=⟨n,fun _ h=>h⟩
theorem wr{x:Int}(h1: -9223372036854775808≤x)(h2:x≤9223372036854775807):IntKind.i64.wrap x=x:=by
 simp only [IntKind.wrap,IntKind.signed,IntKind.bits]
 simp
 omega
theorem FW{α:Type}{xs:List α}{i:Int}(h0:0≤i)(h1:i<xs.length):T (idx xs i) fun x=>xs[i.toNat]?= .some x:=by
 refine ⟨xs[i.toNat]'om,?_,?_⟩
 ·rw [idx,if_pos h0];exact List.getElem?_eq_getElem _
 ·exact List.getElem?_eq_getElem _
theorem Br{α:Type}{xs:List α}{i:Nat}{x:α}(h:xs[i]?= .some x):idx xs (i:Int)= .some x:=by
 rw [idx,if_pos om];exact h
theorem NT{α:Type}{xs:List α}{lo hi:Int}(h0:0≤lo)(h1:lo≤hi)(h2:hi≤xs.length):T (sub xs lo hi) fun ys=>ys=(xs.drop lo.toNat).take (hi.toNat - lo.toNat):=by
 rw [sub,if_pos ⟨h0,h1,h2⟩];exact .some rfl
theorem F1{α:Type}{b:Nat}{xs ys:List α}(hb:b≤4096)(h:xs.length+ys.length≤34359738368):T (Ft b xs ys) fun _=>True:=by
 rw [Ft,if_pos]
 ·exact .some trivial
 ·refine ⟨?_,om⟩
  calc (xs.length+ys.length)*b≤34359738368*4096:=Nat.mul_le_mul h hb
   _≤140737488355328:=by decide
theorem MD{xs ys:List UInt8}(h:xs.length+ys.length≤34359738368):T (Pe xs ys) fun zs=>zs=xs++ys:=by
 rw [Pe,if_pos om];exact .some rfl
theorem YY{n:Int}(h:n≠0):T (nz n) fun _=>True:=by rw [nz,if_neg h];exact .some trivial
theorem CI{p:Prop}[Decidable p](h:decide p=true):p:=of_decide_eq_true h
theorem Db{p:Prop}[Decidable p](h:decide p=false): ¬p:=of_decide_eq_false h
theorem CJ{x y:Int}(h:(x==y)=true):x=y:=by simpa using h
theorem Bn{x y:Int}(h:(x==y)=false):x≠y:=by simpa using h
theorem Lo{x y:Int}(h:(x != y)=true):x≠y:=by simpa using h
theorem Jr{x y:Int}(h:(x != y)=false):x=y:=by simpa using h
end Fth
namespace Fth
open Go
def Gf(x:Nat)(n:Int):Prop:=x=FloatKind.f64.nearest n∧ -16777216≤n∧n≤16777216
def Gn(z:Nat×Nat):Prop:=∃a b,Gf z.1 a∧Gf z.2 b
theorem YZ(c:UInt8):T (HV c) fun _=>True:=by
 unfold HV IZ
 repeat (first|exact T.some trivial|refine T.cond (fun _=>?_) (fun _=>?_))
theorem Xk(c:UInt8):T (GT c) fun _=>True:=by
 unfold GT Gl
 repeat (first|exact T.some trivial|refine T.cond (fun _=>?_) (fun _=>?_))
theorem V6(c:UInt8):T (Gq c) fun _=>True:=by
 unfold Gq KL
 repeat (first|exact T.some trivial|refine T.cond (fun _=>?_) (fun _=>?_))
theorem AAj{N:Nat}{t:List UInt8}{at_:Int}(h0:0≤at_)(h1:at_≤t.length)(hl:t.length≤34359738368)(hN:t.length+2≤N):
  T (IW N t at_) fun n=>0≤n∧at_+n≤t.length:=by
 have key: ∀(k:Nat) (n:Int),0≤n→at_+n≤t.length→(t.length:Int) - (at_+n)<k→T (Ec t at_ k n) fun n=>0≤n∧at_+n≤t.length:=by
  intro k
  induction k with
  |zero=>intro n h2 h3 h4;omega
  |succ k ih=>
   intro n h2 h3 h4
   show T (GQ t at_ (Ec t at_ k) n) _
   unfold GQ
   have fin:T (GU n (Ec t at_ k) false) fun n=>0≤n∧at_+n≤t.length:= .some ⟨h2,h3⟩
   rw [wr (x:=at_+n) om om]
   refine T.cond (fun h=>?_) (fun _=>fin)
   have h:=CI h
   have go: ∀b,T (GU n (Ec t at_ k) b) fun n=>0≤n∧at_+n≤t.length:=by
    intro b
    cases b
    ·exact fin
    ·show T (Ec t at_ k (IntKind.i64.wrap (n+1))) _
     rw [wr om om]
     exact ih _ om om om
   refine T.bind (FW om h) fun c _=>T.bind (Xk c) fun b _=>?_
   refine T.cond (fun _=>go _) fun _=>T.bind (V6 c) fun b _=>T.cond (fun _=>go _) fun _=>go _
 exact key N 0 om om om
theorem AAk(e:Int):((u8c e).toNat:Int)≤255:=by have:=(u8c e).toNat_lt;omega
theorem V7{N:Nat}{t:List UInt8}(hl:t.length≤34359738368)(hN:t.length+2≤N):
  T (El N t) fun x=> -16777217≤x.1∧x.1≤16777217∧0≤x.2∧x.2≤t.length:=by
 have key: ∀(i:Int),0≤i→∀(k:Nat) (n p:Int),0≤n→n≤16777217→0≤p→p≤t.length→(t.length:Int) - p<k→T (EK t i k n p) fun x=> -16777217≤x.1∧x.1≤16777217∧0≤x.2∧x.2≤t.length:=by
  intro i hi k
  induction k with
  |zero=>intro n p _ _ _ _ _;omega
  |succ k ih=>
   intro n p h1 h2 h3 h4 h5
   show T (FA t i (EK t i k) n p) _
   unfold FA
   have fin:T (Ek t i n p (EK t i k) false) fun x=> -16777217≤x.1∧x.1≤16777217∧0≤x.2∧x.2≤t.length:=by
    unfold Ek
    refine T.cond (fun h=>by cases h) fun _=>T.cond (fun _=> .some ⟨om,om,om,om⟩) fun _=>T.cond (fun _=>?_) fun _=>?_
    ·refine .some ⟨?_,?_,h3,h4⟩<;>simp only<;>rw [wr om om]<;>omega
    ·exact .some ⟨by simp only;omega,by simp only;omega,h3,h4⟩
   refine T.cond (fun h=>?_) fun _=>fin
   have h:=CI h
   refine T.bind (FW h3 h) fun c _=>T.cond (fun _=>?_) fun _=>fin
   refine T.bind (FW h3 h) fun c' _=>?_
   generalize decide (((c').toNat:Int)≤(((57:UInt8)).toNat:Int))=b
   cases b
   ·exact fin
   ·unfold Ek
    refine T.cond (fun _=>?_) fun h=>by cases h
    refine T.bind (FW h3 h) fun c'' _=>?_
    generalize hc:(((c'').toNat:Int) - (((48:UInt8)).toNat:Int))=e
    have:=AAk e
    have hu:(0:Int)≤((u8c e).toNat:Int):=om
    rw [wr (x:=p+1) om om,wr (x:=10*n) om om,wr (x:=((u8c e).toNat:Int)) om om,wr (x:=10*n+((u8c e).toNat:Int)) om om]
    split
    ·exact ih _ _ om om om om om
    ·exact ih _ _ om om om om om
 unfold El
 have j5: ∀b,(b=true→1≤t.length)→T (HW N t b) fun x=> -16777217≤x.1∧x.1≤16777217∧0≤x.2∧x.2≤t.length:=by
  intro b hb
  refine T.cond (fun h=>?_) fun _=>?_
  ·have:=hb h
   exact key 1 om N 0 1 om om om om om
  ·exact key 0 om N 0 0 om om om om om
 refine T.cond (fun h=>?_) fun _=>j5 _ fun h=>by cases h
 have h:=CI h
 exact T.bind (FW om om) fun c _=>j5 _ fun _=>om
theorem ABR(n:Aj):T (HX n) fun x=>x.2=0→ -16777216≤n.re∧n.re≤16777216∧ -16777216≤n.im∧n.im≤16777216:=by
 unfold HX
 have bad:T (Js n true) fun x=>x.2=0→ -16777216≤n.re∧n.re≤16777216∧ -16777216≤n.im∧n.im≤16777216:= .some fun h=>by cases h
 refine T.cond (fun _=>bad) fun h1=>T.cond (fun _=>bad) fun h2=>T.cond (fun _=>bad) fun h3=>?_
 have h1:=Db h1;have h2:=Db h2;have h3:=Db h3
 cases h4:decide (n.im>16777216)
 ·have h4:=Db h4
  exact .some fun _=>⟨om,om,om,om⟩
 ·exact bad
theorem Ti: ∀(n N:Nat) (a:Int),n<N→0≤a→a<10^n*10→n≤40→a≤1000000000000→T (ref01_digits N a) fun s=>s.length≤n+1:=by
 intro n
 induction n with
 |zero=>
  intro N a hN h0 h1 _ _
  obtain ⟨N,rfl⟩: ∃m,N=m+1:=⟨N - 1,om⟩
  show T (DO _ N a) _
  unfold DO
  refine T.cond (fun h=>?_) fun _=>?_
  ·have:=CI h;omega
  refine T.bind (YY om) fun _ _=>T.cond (fun h=>?_) fun _=> .some (by simp)
  have:=CI h;omega
 |succ n ih=>
  intro N a hN h0 h1 h2 h3
  obtain ⟨N,rfl⟩: ∃m,N=m+1:=⟨N - 1,om⟩
  show T (DO _ N a) _
  unfold DO
  refine T.cond (fun h=>?_) fun _=>?_
  ·have:=CI h;omega
  refine T.bind (YY om) fun _ _=>T.cond (fun h=>?_) fun _=> .some (by simp)
  have h:=CI h
  have hd:a.tdiv 10=a / 10:=Int.tdiv_eq_ediv_of_nonneg h0
  refine T.bind (YY om) fun _ _=>?_
  rw [hd,wr (x:=a / 10) om om]
  have hlt:a / 10<10^n*10:=by
   rw [Int.pow_succ] at h1
   omega
  refine T.bind (ih N (a / 10) om om hlt om om) fun s hs=>T.bind (MD (by simp;omega)) fun z hz=> .some ?_
  subst hz;simp;omega
theorem Ue{N:Nat}{a:Int}(hN:40≤N)(h0: -1000000000000≤a)(h1:a≤1000000000000):T (ref01_digits N a) fun s=>s.length≤40:=by
 rcases Int.lt_or_le a 0 with h|h
 ·obtain ⟨N,rfl⟩: ∃m,N=m+1:=⟨N - 1,om⟩
  show T (DO _ N a) _
  unfold DO
  refine T.cond (fun _=>?_) fun h'=>?_
  ·rw [wr (x:=0 - a) om om]
   refine T.bind (Ti 13 N (0 - a) om om om om om) fun s hs=>T.bind (MD (by simp;omega)) fun z hz=> .some ?_
   subst hz;simp;omega
  ·have:=Db h';omega
 ·exact (Ti 13 N a om h om om om).mono fun s hs=>om
theorem XB{N:Nat}{n:Aj}(hN:40≤N)(h1: -16777216≤n.re)(h2:n.re≤16777216)(h3: -16777216≤n.im)(h4:n.im≤16777216):T (F4 N n) fun s=>s.length≤100:=by
 have hr:=Ue (N:=N) (a:=n.re) hN om om
 have hi:=Ue (N:=N) (a:=n.im) hN om om
 unfold F4
 refine T.cond (fun _=>T.bind hr fun s hs=> .some om) fun _=>T.cond (fun _=>T.bind hi fun s hs=>T.bind (MD (by simp;omega)) fun z hz=> .some (by subst hz;simp;omega)) fun _=>T.cond (fun _=>?_) fun _=>?_
 ·refine T.bind hr fun s hs=>T.bind (MD (by simp;omega)) fun z hz=>T.bind hi fun s' hs'=>?_
  subst hz
  refine T.bind (MD (by simp;omega)) fun z hz=>T.bind (MD (by subst hz;simp;omega)) fun z' hz'=> .some ?_
  subst hz;subst hz';simp;omega
 ·refine T.bind hr fun s hs=>T.bind hi fun s' hs'=>T.bind (MD om) fun z hz=>T.bind (MD (by subst hz;simp;omega)) fun z' hz'=> .some ?_
  subst hz;subst hz';simp;omega
theorem RD{N:Nat}{t:List UInt8}(hl:t.length≤34359738368)(hN:t.length+40≤N):
  T (EW N t) fun x=>x.2=0→ -16777216≤x.1.re∧x.1.re≤16777216∧ -16777216≤x.1.im∧x.1.im≤16777216:=by
 have j1: ∀(a b:Int),T (Fi N t a b) fun x=>x.2=0→ -16777216≤x.1.re∧x.1.re≤16777216∧ -16777216≤x.1.im∧x.1.im≤16777216:=by
  intro a b
  unfold Fi
  refine T.bind (ABR _) fun x hx=>T.cond (fun _=> .some fun h=>by cases h) fun h=>?_
  have h:=hx (Jr h)
  refine T.bind (XB om h.1 h.2.1 h.2.2.1 h.2.2.2) fun s _=>T.cond (fun _=> .some fun h=>by cases h) fun _=> .some fun _=>h
 unfold EW
 refine T.bind (V7 hl om) fun x hx=>T.cond (fun _=> .some fun h=>by cases h) fun _=>?_
 refine T.bind (NT hx.2.2.1 hx.2.2.2 om) fun s hs=>T.cond (fun _=>j1 _ _) fun _=>T.cond (fun h=>?_) fun _=>j1 _ _
 have hsl:s.length≤t.length:=by subst hs;simp
 have hs0:s≠[]:=by intro e;subst e;simp at h
 have hpos:0<s.length:=List.length_pos_iff.2 hs0
 have j3: ∀(u:List UInt8),u.length≤s.length→T (HY N t x u) fun x=>x.2=0→ -16777216≤x.1.re∧x.1.re≤16777216∧ -16777216≤x.1.im∧x.1.im≤16777216:=
  fun u hu=>T.bind (V7 om om) fun y _=>j1 _ _
 refine T.bind (FW om om) fun c _=>T.cond (fun _=>?_) fun _=>j3 _ om
 refine T.bind (NT om om om) fun u hu=>j3 _ ?_
 subst hu;simp
theorem V8{N:Nat}{s:List UInt8}(hN:20≤N):T (De N s) fun _=>True:=by
 obtain ⟨N,rfl⟩: ∃m,N=m+20:=⟨N - 20,om⟩
 unfold De
 refine T.bind (P:=fun l=>l.length=19) (.some rfl) fun l hl=>?_
 have key: ∀(k:Nat) (i:Int),0≤i→(19:Int) - i<k→i≤19→T (Dd s l k i) fun _=>True:=by
  intro k
  induction k with
  |zero=>intro i _ _ _;omega
  |succ k ih=>
   intro i h1 h2 h3
   show T (Dr s l (Dd s l k) i) _
   unfold Dr
   refine T.cond (fun h=>?_) fun _=> .some trivial
   have h:=CI h
   refine T.bind (FW h1 h) fun c _=>T.cond (fun _=> .some trivial) fun _=>?_
   rw [wr om om]
   exact ih _ om om om
 exact key _ 0 om om om
theorem Zg{t:List UInt8}{p:Int}(hl:t.length≤34359738368)(h0:0≤p)(h1:p<t.length):T (Ib t p) fun n=>0≤n∧p+n≤t.length:=by
 have one: ∀b,T (Ds b) fun n=>0≤n∧p+n≤t.length:=fun b=>T.cond (fun _=> .some ⟨om,om⟩) fun _=> .some ⟨om,om⟩
 have j1f:T (Fj t p false) fun n=>0≤n∧p+n≤t.length:=by
  unfold Fj
  refine T.cond (fun h=>by cases h) fun _=>T.bind (FW h0 h1) fun c _=>?_
  repeat (first|exact one _|refine T.cond (fun _=>?_) (fun _=>?_))
 have j1: ∀b,(b=true→p+1<t.length)→T (Fj t p b) fun n=>0≤n∧p+n≤t.length:=by
  intro b hb
  cases b
  ·exact j1f
  ·have:=hb rfl
   exact .some ⟨om,om⟩
 unfold Ib
 rw [wr om om]
 refine T.cond (fun h=>?_) fun _=>j1f
 have h:=CI h
 refine T.bind (FW h0 h1) fun c _=>T.cond (fun _=>?_) fun _=>?_
 ·refine T.bind (FW om h) fun d _=>T.cond (fun _=>j1 _ fun _=>h) fun _=>T.cond (fun _=>j1 _ fun _=>h) fun _=>j1f
 ·exact T.cond (fun _=>T.bind (FW om h) fun d _=>j1 _ fun _=>h) fun _=>j1f
def Gm(m:Af):Prop:=m.kind≠4∧(m.kind=2→Gn m.num)
theorem ABg{n:Aj}(h: -16777216≤n.re∧n.re≤16777216∧ -16777216≤n.im∧n.im≤16777216):T (F6 n) Gn:= .some ⟨n.re,n.im,⟨rfl,h.1,h.2.1⟩,⟨rfl,h.2.2.1,h.2.2.2⟩⟩
theorem AAl{N:Nat}{t:List UInt8}{p:Int}(hl:t.length≤34359738368)(hN:t.length+40≤N)(h0:0≤p)(h1:p<t.length):
  T (Hv N t p) fun x=>x.2=true→Gm x.1∧0<x.1.text.length∧p+x.1.text.length≤t.length:=by
 unfold Hv
 refine T.bind (AAj h0 om hl om) fun n hn=>?_
 rw [wr (x:=p+n) om om]
 refine T.bind (NT h0 om om) fun s hs=>?_
 have hsl:(s.length:Int)=n:=by subst hs;simp;omega
 have j2: ∀b,T (IG N t p n s b) fun x=>x.2=true→Gm x.1∧0<x.1.text.length∧p+x.1.text.length≤t.length:=by
  intro b
  unfold IG
  refine T.cond (fun _=> .some fun h=>by cases h) fun _=>T.cond (fun h=>?_) fun _=>?_
  ·have h:=CI h
   refine T.bind (V8 om) fun b _=>T.cond (fun _=> .some fun _=>⟨⟨by simp,by simp⟩,by simp only;omega,by simp only;omega⟩) fun _=> .some fun _=>⟨⟨by simp,by simp⟩,by simp only;omega,by simp only;omega⟩
  ·refine T.bind (Zg hl h0 h1) fun k hk=>?_
   rw [wr (x:=p+k) om om]
   refine T.bind (NT h0 om om) fun u hu=> .some fun h=>?_
   have h:=CI h
   have hul:(u.length:Int)=k:=by subst hu;simp;omega
   exact ⟨⟨by simp,by simp⟩,by simp only;omega,by simp only;omega⟩
 have j1: ∀b,(b=true→0<n)→T (IH N t p n s b) fun x=>x.2=true→Gm x.1∧0<x.1.text.length∧p+x.1.text.length≤t.length:=by
  intro b hb
  unfold IH
  refine T.cond (fun h=>?_) fun _=>T.cond (fun _=>T.bind (FW h0 h1) fun c _=>j2 _) fun _=>j2 _
  have hp:=hb h
  refine T.bind (RD om om) fun x hx=>?_
  refine .some (a:=_) fun h=>?_
  have hz:=hx (CJ h)
  exact ⟨⟨by simp,fun _=>⟨x.1.re,x.1.im,⟨rfl,hz.1,hz.2.1⟩,⟨rfl,hz.2.2.1,hz.2.2.2⟩⟩⟩,by simp only;omega,by simp only;omega⟩
 refine T.cond (fun h=>?_) fun _=>j1 _ fun h=>by cases h
 have h:=CI h
 exact T.bind (FW h0 h1) fun c _=>T.bind (V6 c) fun b _=>j1 _ fun _=>h
def GM(ms:List Af):Prop:=∃l e,ms=l++[e]∧e.kind=4∧∀m∈l,Gm m
theorem Ya{N:Nat}{t:List UInt8}(hl:t.length≤1000000000)(hN:t.length+50≤N):
  T (F7 N t) fun x=>x.2<0→GM x.1∧x.1.length≤t.length+1:=by
 have key: ∀(k:Nat) (ms:List Af) (p:Int),0≤p→p≤t.length→(t.length:Int) - p<k→(∀m∈ms,Gm m)→ms.length≤p→T (Df N t k ms p) fun x=>x.2<0→GM x.1∧x.1.length≤t.length+1:=by
  intro k
  induction k with
  |zero=>intro ms p _ _ _ _ _;omega
  |succ k ih=>
   intro ms p h0 h1 h2 hm hml
   show T (FC N t (Df N t k) ms p) _
   unfold FC
   refine T.cond (fun h=>?_) fun _=>?_
   ·have h:=CI h
    refine T.bind (FW h0 h) fun c hc=>T.bind (YZ c) fun b _=>T.cond (fun _=>?_) fun _=>T.cond (fun hsharp=>?_) fun _=>?_
    ·rw [wr om om]
     exact ih _ _ om om om hm om
    ·
     have inner: ∀(j:Nat) (q:Int),p≤q→q≤t.length→(t.length:Int) - q<j→(q=p∨p<q)→T (Em t ms (Df N t k) j q) fun x=>x.2<0→GM x.1∧x.1.length≤t.length+1:=by
      intro j
      induction j with
      |zero=>intro q _ _ _ _;omega
      |succ j ihj=>
       intro q hq1 hq2 hq3 hq4
       show T (FB t ms (Df N t k) (Em t ms (Df N t k) j) q) _
       unfold FB
       refine T.cond (fun hq=>?_) fun hq=>?_
       ·have hq:=CI hq
        refine T.bind (FW om hq) fun d hd=>?_
        unfold HZ
        refine T.cond (fun _=>?_) fun hnl=>?_
        ·rw [wr om om]
         exact ihj _ om om om om
        ·have hnl:=Jr hnl
         have hsharp:=CJ hsharp
         rcases hq4 with rfl|hq4
         ·rw [hd] at hc;cases hc
          rw [hsharp] at hnl
          exact absurd hnl (by decide)
         ·exact ih _ _ om om om hm om
       ·have hq:=Db hq
        have hpq:p<q:=om
        exact ih _ _ om om om hm om
     exact inner N p om om om (.inl rfl)
    ·refine T.bind (AAl om om h0 h) fun x hx=>T.cond (fun _=> .some fun h=>by simp only at h;omega) fun hb=>?_
     have hx:=hx (by simpa using hb)
     refine T.bind (F1 om (by simp;omega)) fun _ _=>?_
     rw [wr om om]
     refine ih _ _ om om om (fun m hm'=>?_) (by simp;omega)
     rcases List.mem_append.1 hm' with h'|h'
     ·exact hm m h'
     ·simp at h';subst h';exact hx.1
   ·refine T.bind (F1 om (by simp;omega)) fun _ _=> .some fun _=>⟨⟨ms,_,rfl,rfl,hm⟩,by simp;omega⟩
 exact key N [] 0 om om om (fun m h=>by cases h) (by simp)
end Fth
namespace Fth
open Go
theorem O9(e:AB):AB.mk e.op e.name e.tail e.type_ e.num e.args e.at_=e:=by cases e;rfl
mutual
def CW:AB→Nat
 | ⟨_,_,_,_,_,l,_⟩=>1+CR l
def CR:List AB→Nat
 | []=>0
 |e::l=>CW e+CR l
end
theorem Mu(e:AB):CW e=1+CR e.args:=by cases e;simp [CW]
theorem IU(l m:List AB):CR (l++m)=CR l+CR m:=by
 induction l with
 |nil=>simp [CR]
 |cons e l ih=>simp [CR,ih];omega
theorem Pz(e:AB):CR [e]=CW e:=by simp [CR]
theorem LM(e:AB):1≤CW e:=by rw [Mu];omega
theorem L3{l:List AB}{e:AB}(h:e∈l):CW e≤CR l:=by
 induction l with
 |nil=>cases h
 |cons x l ih=>
  rcases List.mem_cons.1 h with rfl|h
  ·simp [CR]
  ·have:=ih h;simp only [CR];omega
theorem L4(l:List AB):l.length≤CR l:=by
 induction l with
 |nil=>simp
 |cons x l ih=>have:=LM x;simp only [CR,List.length_cons];omega
def Ar(op:Int)(n:Nat):Prop:=
 (1≤op∧op≤6∧n=0)∨op=7∨(8≤op∧op≤13∧n=2)∨(14≤op∧op≤17∧n=1)∨(op=18∧n=2)∨(19≤op∧op≤20∧n=3)∨(21≤op∧op≤22∧n=2)
inductive WE:AB→Prop
 |mk (e:AB) (ha:Ar e.op e.args.length) (hn:e.op=1→Gn e.num) (ht:e.op=5∨e.op=21∨e.op=22→1≤e.type_∧e.type_≤3) (hs: ∀a∈e.args,WE a):WE e
theorem WE.ar{e:AB}(h:WE e):Ar e.op e.args.length:=by cases h;assumption
theorem WE.num{e:AB}(h:WE e):e.op=1→Gn e.num:=by cases h;assumption
theorem WE.typ{e:AB}(h:WE e):e.op=5∨e.op=21∨e.op=22→1≤e.type_∧e.type_≤3:=by cases h;assumption
theorem WE.sub{e:AB}(h:WE e): ∀a∈e.args,WE a:=by cases h;assumption
section
variable{ms:List Af}
def Rd(ms:List Af)(r:AD):Prop:=r.marks=ms∧0≤r.at_∧r.at_<ms.length
theorem VO(hM:GM ms){i:Nat}{m:Af}(h:ms[i]?=some m):(m.kind≠4→i+1<ms.length)∧(m.kind=2→Gn m.num):=by
 obtain ⟨l,e,rfl,he,hl⟩:=hM
 rcases Nat.lt_or_ge i l.length with hi|hi
 ·rw [List.getElem?_append_left hi] at h
  have:=hl m (List.mem_of_getElem? h)
  exact ⟨fun _=>by simp;omega,this.2⟩
 ·rw [List.getElem?_append_right hi] at h
  have h0:i - l.length=0:=by
   rcases Nat.eq_zero_or_pos (i - l.length) with h'|h'
   ·exact h'
   ·rw [List.getElem?_eq_none (by simp;omega)] at h;cases h
  rw [h0] at h
  simp at h
  subst h
  exact ⟨fun h=>absurd he h,fun h=>by rw [he] at h;exact absurd h (by decide)⟩
theorem LD{r:AD}(hr:Rd ms r):T (BV r) fun m=>ms[r.at_.toNat]?=some m:=by
 obtain ⟨rfl,h0,h1⟩:=hr
 exact T.bind (FW h0 h1) fun m hm=> .some hm
theorem N2{r:AD}{y:Int}(hr:Rd ms r)(hy:y≠0):T (Bt r y) fun r'=>Rd ms r'∧r'.at_=r.at_∧r'.why≠0:=by
 unfold Bt
 refine T.cond (fun _=>T.bind (LD (ms:=ms) (r:=AD.mk _ _ _ _ _ _) hr) fun m _=> .some ⟨hr,rfl,hy⟩) fun h=> .some ⟨hr,rfl,Bn h⟩
def KH(r:AD):AD:=⟨r.marks,r.at_+1,r.why,r.where_,r.l,r.nest⟩
theorem N9(hM:GM ms){r:AD}{s:List UInt8}(hr:Rd ms r):T (Bf r s) fun b=>b=true→r.why=0∧r.at_+1<ms.length:=by
 unfold Bf
 refine T.bind (LD hr) fun m hm=>T.cond (fun hw=>?_) fun _=> .some fun h=>by cases h
 have hw:=CJ hw
 have h2:=(VO hM hm).1
 have:=hr.2.1
 refine T.cond (fun hk=> .some fun _=>⟨hw,?_⟩) fun _=>T.cond (fun hk=> .some fun _=>⟨hw,?_⟩) fun _=> .some fun h=>by cases h
 ·have:=h2 (by rw [CJ hk];decide);omega
 ·have:=h2 (by rw [CJ hk];decide);omega
variable(hlen:ms.length≤1000000000)
include hlen
theorem ND{r:AD}(hr:Rd ms r):(AD.mk r.marks (IntKind.i64.wrap (r.at_+1)) r.why r.where_ (Ae.mk r.l.text r.l.funcs r.l.arity r.l.nest) r.nest)=KH r:=by
 rw [wr (by have:=hr.2.1;omega) (by have:=hr.2.2;omega)];rfl
theorem N3(hM:GM ms){r:AD}{s:List UInt8}(hr:Rd ms r):T (Bu r s) fun x=>(x.1=true→r.why=0∧x.2=KH r∧Rd ms (KH r))∧(x.1=false→x.2=r):=by
 unfold Bu
 refine T.bind (N9 hM hr) fun b hb=>T.cond (fun h=> .some ⟨fun h=>(by cases h),fun _=>rfl⟩) fun h=>?_
 rw [ND hlen hr]
 have:=hb (by simpa using h)
 exact .some ⟨fun _=>⟨this.1,rfl,hr.1,by show 0≤r.at_+1;have:=hr.2.1;omega,this.2⟩,fun h=>by cases h⟩
theorem Ir(hM:GM ms){r:AD}{s:List UInt8}(hr:Rd ms r):T (A2 r s) fun r'=>Rd ms r'∧r.at_≤r'.at_∧(r'.why=0→r.why=0∧r'.at_=r.at_+1):=by
 unfold A2
 refine T.bind (N3 hlen hM hr) fun x hx=>T.cond (fun h=>?_) fun h=>?_
 ·have e:=hx.2 (by simpa using h)
  rw [e]
  refine T.bind (N2 hr (by decide)) fun r' hr'=> .some ⟨hr'.1,by rw [hr'.2.1];omega,fun h=>absurd h hr'.2.2⟩
 ·obtain ⟨h0,e,h1⟩:=hx.1 (by simpa using h)
  rw [e]
  exact .some ⟨h1,by show r.at_≤r.at_+1;omega,fun _=>⟨h0,rfl⟩⟩
theorem QN(hM:GM ms){r:AD}(hr:Rd ms r):T (CM r) fun x=>Rd ms x.2∧r.at_≤x.2.at_∧(x.2.why=0→r.why=0∧x.2.at_=r.at_+1):=by
 unfold CM
 refine T.bind (LD hr) fun m hm=>?_
 have bad:T (F8 r m true) fun x=>Rd ms x.2∧r.at_≤x.2.at_∧(x.2.why=0→r.why=0∧x.2.at_=r.at_+1):=
  T.bind (N2 hr (by decide)) fun r' hr'=> .some ⟨hr'.1,by simp only;rw [hr'.2.1];omega,fun h=>absurd h hr'.2.2⟩
 refine T.cond (fun _=>bad) fun hw=>?_
 cases hk:(m.kind != 0)
 ·unfold F8
  rw [ND hlen hr]
  have h2:=(VO hM hm).1 (by rw [Jr hk];decide)
  have:=hr.2.1
  exact .some ⟨⟨hr.1,by show 0≤r.at_+1;omega,by show r.at_+1<_;omega⟩,by show r.at_≤r.at_+1;omega,fun _=>⟨Jr hw,rfl⟩⟩
 ·exact bad
theorem VP(hM:GM ms){r:AD}{N:Nat}(hN:5≤N)(hr:Rd ms r):T (CQ N r) fun x=>Rd ms x.2∧r.at_≤x.2.at_∧(x.2.why=0→r.why=0∧x.2.at_=r.at_+1∧1≤x.1∧x.1≤3):=by
 have key: ∀(k:Nat) (i:Int),0≤i→i≤3→3 - i<k→T (CP k i r.marks r.at_ r.why r.where_ r.l.text r.l.funcs r.l.arity r.l.nest r.nest) fun x=>Rd ms x.2∧r.at_≤x.2.at_∧(x.2.why=0→r.why=0∧x.2.at_=r.at_+1∧1≤x.1∧x.1≤3):=by
  intro k
  induction k with
  |zero=>intro i _ _ _;omega
  |succ k ih=>
   intro i h0 h1 h2
   show T (DG (CP k) i r.marks r.at_ r.why r.where_ r.l.text r.l.funcs r.l.arity r.l.nest r.nest) _
   unfold DG
   refine T.cond (fun h=>?_) fun h=>?_
   ·have h:=CI h
    have h:i<3:=h
    refine T.bind (FW h0 (by simpa using h)) fun s _=>T.bind (N3 hlen hM (r:=r) hr) fun x hx=>T.cond (fun hb=>?_) fun hb=>?_
    ·obtain ⟨h3,e,h4⟩:=hx.1 hb
     rw [e,wr om om]
     exact .some ⟨h4,by show r.at_≤r.at_+1;omega,fun _=>⟨h3,rfl,by simp only;omega,by simp only;omega⟩⟩
    ·rw [hx.2 hb,wr om om]
     exact ih _ om om om
   ·exact T.bind (N2 (r:=r) hr (by decide)) fun r' hr'=> .some ⟨hr'.1,by simp only;rw [hr'.2.1];omega,fun h=>absurd h hr'.2.2⟩
 exact key N 0 om om om
omit hlen
def EP(ms:List Af)(r:AD)(x:AB×AD):Prop:=Rd ms x.2∧r.at_≤x.2.at_∧(x.2.why=0→r.why=0∧WE x.1∧(CW x.1:Int)≤x.2.at_ - r.at_)
def Fu(ms:List Af)(n:Nat)(r:AD)(lvl:Int):Prop:=lvl≤n∧(r.why=0→20*((ms.length:Int) - r.at_)+lvl≤n)
structure PSp(ms:List Af)(n:Nat)(φ:AC):Prop where
 expr: ∀r,Rd ms r→Fu ms n r 18→T (φ.ref04_reader_expr r) (EP ms r)
 cons: ∀r,Rd ms r→Fu ms n r 17→T (φ.ref04_reader_cons r) (EP ms r)
 comp: ∀r,Rd ms r→Fu ms n r 16→T (φ.ref04_reader_comp r) (EP ms r)
 sum: ∀r,Rd ms r→Fu ms n r 15→T (φ.ref04_reader_sum r) (EP ms r)
 term: ∀r,Rd ms r→Fu ms n r 14→T (φ.ref04_reader_term r) (EP ms r)
 unit: ∀r,Rd ms r→Fu ms n r 13→T (φ.ref04_reader_unit r) (EP ms r)
 named: ∀r m,Rd ms r→r.why=0→Fu ms n r 12→T (φ.ref04_reader_named r m) fun x=>Rd ms x.2∧r.at_≤x.2.at_∧(x.2.why=0→WE x.1∧(CW x.1:Int)≤x.2.at_ - r.at_+1)
 parts: ∀r l,Rd ms r→l.length≤3→Fu ms n r 19→T (φ.ref04_reader_parts r l) fun x=>Rd ms x.2∧r.at_≤x.2.at_∧(x.2.why=0→(l≠[]→r.why=0)∧x.1.length=l.length∧(∀a∈x.1,WE a)∧(CR x.1:Int)≤x.2.at_ - r.at_)
 branches: ∀r e,Rd ms r→Fu ms n r 19→T (φ.ref04_reader_branches r e) fun x=>Rd ms x.1∧r.at_≤x.1.at_∧(x.1.why=0→r.why=0∧WE x.2∧(CW x.2:Int)≤x.1.at_ - r.at_+1)
theorem Fu.le{n m:Nat}{r r':AD}{l l':Int}(h:Fu ms n r l)(ha:r.at_≤r'.at_)(hw:r'.why=0→r.why=0)(hl:l'+n≤l+m):Fu ms m r' l':=by
 obtain ⟨h1,h2⟩:=h
 exact ⟨om,fun h=>by have:=h2 (hw h);omega⟩
theorem Fu.lt{n m:Nat}{r r':AD}{l l':Int}(h:Fu ms n r l)(ha:r.at_<r'.at_)(hw:r.why=0)(h1:r.at_<ms.length)(hl:l'+n≤l+20+m):Fu ms m r' l':=by
 obtain ⟨h1,h2⟩:=h
 have:=h2 hw
 exact ⟨om,fun _=>om⟩
theorem WE.two{op:Int}{a b:AB}{nm tl:List UInt8}{ty:Int}{z:Nat×Nat}{p:Int}(ho:(8≤op∧op≤13)∨op=18)(ha:WE a)(hb:WE b):WE ⟨op,nm,tl,ty,z,[a,b],p⟩:=by
 refine .mk _ ?_ (fun h=>?_) (fun h=>?_) fun x hx=>?_
 ·rcases ho with ho|ho
  ·exact .inr (.inr (.inl ⟨ho.1,ho.2,rfl⟩))
  ·exact .inr (.inr (.inr (.inr (.inl ⟨ho,rfl⟩))))
 ·simp only at h;omega
 ·simp only at h;omega
 ·simp at hx;rcases hx with rfl|rfl<;>assumption
section
variable(hlen:ms.length≤1000000000)(hM:GM ms){n:Nat}{φ:AC}(hφ:PSp ms n φ)
include hlen hM hφ
theorem AAm{r:AD}(hr:Rd ms r)(hf:Fu ms (n+1) r 17):T (Cz φ n r) (EP ms r):=by
 unfold Cz
 refine T.bind (hφ.comp r hr (hf.le om id om)) fun x hx=>T.bind (LD hx.1) fun m _=>T.bind (N3 hlen hM hx.1) fun y hy=>T.cond (fun hb=>?_) fun hb=>?_
 ·rw [hy.2 (by simpa using hb)]
  exact .some hx
 ·obtain ⟨h0,e,h1⟩:=hy.1 (by simpa using hb)
  rw [e]
  have h2:=hx.2.2 h0
  have h3:=hx.2.1
  refine T.bind (hφ.cons _ h1 (hf.lt (by show r.at_<x.2.at_+1;omega) h2.1 hr.2.2 om)) fun z hz=>?_
  refine .some (a:=_) ⟨hz.1,by have:=hz.2.1;simp only [KH] at this;simp only;omega,fun hw=>?_⟩
  have hz':=hz.2.2 hw
  refine ⟨h2.1,.two (.inr rfl) h2.2.1 hz'.2.1,?_⟩
  have hz1:=hz'.2.2
  simp only [KH] at hz1
  simp only [CW,CR]
  omega
theorem AAn{r:AD}(hr:Rd ms r)(hf:Fu ms (n+1) r 16):T (C7 φ n r) (EP ms r):=by
 unfold C7
 refine T.bind (hφ.sum r hr (hf.le om id om)) fun x hx=>T.bind (LD hx.1) fun m _=>T.bind (N9 hM hx.1) fun b _=>?_
 have go: ∀op:Int,8≤op∧op≤13→T (Dl φ x m op) (EP ms r):=by
  intro op hop
  have yes: ∀y:AD,x.2.why=0→y=KH x.2→Rd ms y→T (EF φ x m op false y.marks y.at_ y.why y.where_ y.l.text y.l.funcs y.l.arity y.l.nest y.nest) (EP ms r):=by
   rintro y h0 rfl h1
   have h2:=hx.2.2 h0
   have h3:=hx.2.1
   refine T.cond (fun h=>by cases h) fun _=>T.bind (hφ.sum (KH x.2) h1 (hf.lt (by show r.at_<x.2.at_+1;omega) h2.1 hr.2.2 om)) fun z hz=>?_
   refine .some (a:=_) ⟨hz.1,by have:=hz.2.1;simp only [KH] at this;simp only;omega,fun hw=>?_⟩
   have hz':=hz.2.2 hw
   refine ⟨h2.1,.two (.inl hop) h2.2.1 hz'.2.1,?_⟩
   have hz1:=hz'.2.2
   simp only [KH] at hz1
   simp only [CW,CR]
   omega
  unfold Dl
  refine T.bind (N3 hlen hM hx.1) fun y hy=>T.cond (fun hb=>?_) fun hb=>?_
  ·rw [hy.2 (by simpa using hb)]
   refine T.bind (N3 hlen hM hx.1) fun y hy=>?_
   cases hb:y.1
   ·rw [hy.2 hb]
    exact .some hx
   ·obtain ⟨h0,e,h1⟩:=hy.1 hb
    exact yes _ h0 e (e▸h1)
  ·obtain ⟨h0,e,h1⟩:=hy.1 (by simpa using hb)
   exact yes _ h0 e (e▸h1)
 exact T.cond (fun _=>go 13 ⟨om,om⟩) fun _=>go 12 ⟨om,om⟩
theorem ABS{r:AD}(hr:Rd ms r)(hf:Fu ms (n+1) r 15):T (DP φ n r) (EP ms r):=by
 unfold DP
 refine T.bind (hφ.term r hr (hf.le om id om)) fun x hx=>?_
 have key: ∀(k:Nat) (x:AB×AD),EP ms r x→1≤k→(x.2.why=0→(ms.length:Int) - x.2.at_<k)→T (Bq φ k x.2.marks x.2.at_ x.2.why x.2.where_ x.2.l.text x.2.l.funcs x.2.l.arity x.2.l.nest x.2.nest x.1.op x.1.name x.1.tail x.1.type_ x.1.num x.1.args x.1.at_) (EP ms r):=by
  intro k
  induction k with
  |zero=>intro x _ _ _;omega
  |succ k ih=>
   intro x hx _ hk
   have go: ∀b,(b=true→x.2.why=0∧x.2.at_+1<ms.length)→T (D0 φ x.2.marks x.2.at_ x.2.why x.2.where_ x.2.l.text x.2.l.funcs x.2.l.arity x.2.l.nest x.2.nest x.1.op x.1.name x.1.tail x.1.type_ x.1.num x.1.args x.1.at_ (Bq φ k) b) (EP ms r):=by
    intro b hb
    unfold D0
    refine T.cond (fun h=>?_) fun _=> .some (by rw [O9];exact hx)
    obtain ⟨h0,h1⟩:=hb h
    have h2:=hx.2.2 h0
    have h3:=hx.2.1
    have hk:=hk h0
    have hbr:Rd ms (KH x.2):=⟨hx.1.1,by show 0≤x.2.at_+1;have:=hx.1.2.1;omega,h1⟩
    refine T.bind (LD (r:=x.2) hx.1) fun m _=>?_
    rw [ND hlen hx.1]
    refine T.bind (hφ.term (KH x.2) hbr (hf.lt (by show r.at_<x.2.at_+1;omega) h2.1 hr.2.2 om)) fun z hz=>?_
    have hz1:=hz.2.1
    simp only [KH] at hz1
    have fin: ∀op:Int,8≤op∧op≤13→T (Dz x.1.op x.1.name x.1.tail x.1.type_ x.1.num x.1.args x.1.at_ (Bq φ k) m z op) (EP ms r):=by
     intro op hop
     unfold Dz
     rw [O9]
     refine ih (⟨op,[],[],0,(0,0),[x.1,z.1],m.at_⟩,z.2) ⟨hz.1,by simp only;omega,fun hw=>?_⟩ ?_ fun hw=>?_
     ·have hz':=hz.2.2 hw
      have hz2:=hz'.2.2
      simp only [KH] at hz2
      exact ⟨h2.1,.two (.inl hop) h2.2.1 hz'.2.1,by simp only [CW,CR];omega⟩
     ·have:=hx.1.2.2;omega
     ·simp only;omega
    exact T.cond (fun _=>fin 9 ⟨om,om⟩) fun _=>fin 8 ⟨om,om⟩
   show T (DI φ (Bq φ k) x.2.marks x.2.at_ x.2.why x.2.where_ x.2.l.text x.2.l.funcs x.2.l.arity x.2.l.nest x.2.nest x.1.op x.1.name x.1.tail x.1.type_ x.1.num x.1.args x.1.at_) _
   unfold DI
   exact T.bind (N9 hM (r:=x.2) hx.1) fun b hb=>T.cond (fun h=>go true fun _=>hb h) fun _=>T.bind (N9 hM (r:=x.2) hx.1) fun b hb=>go b hb
 refine key n x hx (by have:=hf.1;omega) fun hw=>?_
 have h2:=hx.2.2 hw
 have h3:=hf.2 h2.1
 have:=hx.2.1
 have:=hr.2.2
 omega
theorem AAo{r:AD}(hr:Rd ms r)(hf:Fu ms (n+1) r 14):T (C8 φ n r) (EP ms r):=by
 unfold C8
 refine T.bind (hφ.unit r hr (hf.le om id om)) fun x hx=>?_
 have key: ∀(k:Nat) (x:AB×AD),EP ms r x→1≤k→(x.2.why=0→(ms.length:Int) - x.2.at_<k)→T (Bg φ k x.2.marks x.2.at_ x.2.why x.2.where_ x.2.l.text x.2.l.funcs x.2.l.arity x.2.l.nest x.2.nest x.1.op x.1.name x.1.tail x.1.type_ x.1.num x.1.args x.1.at_) (EP ms r):=by
  intro k
  induction k with
  |zero=>intro x _ _ _;omega
  |succ k ih=>
   intro x hx _ hk
   have go: ∀b,(b=true→x.2.why=0∧x.2.at_+1<ms.length)→T (Dn φ x.2.marks x.2.at_ x.2.why x.2.where_ x.2.l.text x.2.l.funcs x.2.l.arity x.2.l.nest x.2.nest x.1.op x.1.name x.1.tail x.1.type_ x.1.num x.1.args x.1.at_ (Bg φ k) b) (EP ms r):=by
    intro b hb
    unfold Dn
    refine T.cond (fun h=>?_) fun _=> .some (by rw [O9];exact hx)
    obtain ⟨h0,h1⟩:=hb h
    have h2:=hx.2.2 h0
    have h3:=hx.2.1
    have hk:=hk h0
    have hbr:Rd ms (KH x.2):=⟨hx.1.1,by show 0≤x.2.at_+1;have:=hx.1.2.1;omega,h1⟩
    refine T.bind (LD (r:=x.2) hx.1) fun m _=>?_
    rw [ND hlen hx.1]
    refine T.bind (hφ.unit (KH x.2) hbr (hf.lt (by show r.at_<x.2.at_+1;omega) h2.1 hr.2.2 om)) fun z hz=>?_
    have hz1:=hz.2.1
    simp only [KH] at hz1
    have fin: ∀op:Int,8≤op∧op≤13→T (Dm x.1.op x.1.name x.1.tail x.1.type_ x.1.num x.1.args x.1.at_ (Bg φ k) m z op) (EP ms r):=by
     intro op hop
     unfold Dm
     rw [O9]
     refine ih (⟨op,[],[],0,(0,0),[x.1,z.1],m.at_⟩,z.2) ⟨hz.1,by simp only;omega,fun hw=>?_⟩ ?_ fun hw=>?_
     ·have hz':=hz.2.2 hw
      have hz2:=hz'.2.2
      simp only [KH] at hz2
      exact ⟨h2.1,.two (.inl hop) h2.2.1 hz'.2.1,by simp only [CW,CR];omega⟩
     ·have:=hx.1.2.2;omega
     ·simp only;omega
    exact T.cond (fun _=>fin 11 ⟨om,om⟩) fun _=>fin 10 ⟨om,om⟩
   show T (Ct φ (Bg φ k) x.2.marks x.2.at_ x.2.why x.2.where_ x.2.l.text x.2.l.funcs x.2.l.arity x.2.l.nest x.2.nest x.1.op x.1.name x.1.tail x.1.type_ x.1.num x.1.args x.1.at_) _
   unfold Ct
   exact T.bind (N9 hM (r:=x.2) hx.1) fun b hb=>T.cond (fun h=>go true fun _=>hb h) fun _=>T.bind (N9 hM (r:=x.2) hx.1) fun b hb=>go b hb
 refine key n x hx (by have:=hf.1;omega) fun hw=>?_
 have h2:=hx.2.2 hw
 have h3:=hf.2 h2.1
 have:=hx.2.1
 have:=hr.2.2
 omega
omit hφ hM hlen in
theorem Zh(s:List UInt8):T (Hx s) fun o=>o=0∨(2≤o∧o≤5)∨(14≤o∧o≤17):=by
 unfold Hx
 repeat (first|exact T.some om|refine T.cond (fun _=>?_) (fun _=>?_))
theorem AAp{r:AD}(hr:Rd ms r)(hf:Fu ms (n+1) r 13):T (C9 φ n r) (EP ms r):=by
 unfold C9
 have h1:=hr.2.1
 have h2:=hr.2.2
 refine T.bind (LD hr) fun m hm=>T.cond (fun h=> .some ⟨hr,by simp only;omega,fun h'=>absurd h' (Lo h)⟩) fun hw=>?_
 have hw:=Jr hw
 have hm':=VO hM hm
 refine T.cond (fun hk=>?_) fun hk2=>T.cond (fun hk=>?_) fun hk0=>?_
 ·rw [ND hlen hr]
  have hk:=CJ hk
  have h3:=hm'.1 (by rw [hk];decide)
  refine .some (a:=_) ⟨⟨hr.1,by show 0≤r.at_+1;omega,by show r.at_+1<_;omega⟩,by show r.at_≤r.at_+1;omega,fun _=>⟨hw,.mk _ (.inl ⟨by simp,by simp,rfl⟩) (fun _=>hm'.2 hk) (fun h=>by simp at h) (fun a h=>by simp at h),?_⟩⟩
  simp only [CW,CR,KH];omega
 ·rw [ND hlen hr]
  have hk:=CJ hk
  have h3:=hm'.1 (by rw [hk];decide)
  have hbr:Rd ms (KH r):=⟨hr.1,by show 0≤r.at_+1;omega,by show r.at_+1<_;omega⟩
  refine T.bind (hφ.named (KH r) m hbr hw (hf.lt (by show r.at_<r.at_+1;omega) hw h2 om)) fun x hx=>?_
  have hx1:=hx.2.1
  simp only [KH] at hx1
  refine .some (a:=_) ⟨hx.1,by simp only;omega,fun h=>⟨hw,(hx.2.2 h).1,?_⟩⟩
  have:=(hx.2.2 h).2
  simp only [KH] at this
  simp only;omega
 ·have hk2:=Bn hk2
  have hk0:=Bn hk0
  refine T.bind (N3 hlen hM hr) fun x hx=>T.cond (fun hb=>?_) fun hb=>?_
  ·obtain ⟨_,e,hbr⟩:=hx.1 hb
   rw [e]
   refine T.bind (hφ.expr (KH r) hbr (hf.lt (by show r.at_<r.at_+1;omega) hw h2 om)) fun y hy=>T.bind (Ir hlen hM hy.1) fun r' hr'=>?_
   have hy1:=hy.2.1
   simp only [KH] at hy1
   refine .some (a:=_) ⟨hr'.1,by have:=hr'.2.1;simp only;omega,fun h=>?_⟩
   have h3:=hr'.2.2 h
   have h4:=hy.2.2 h3.1
   have h5:=h4.2.2
   simp only [KH] at h5
   exact ⟨hw,h4.2.1,by simp only;omega⟩
  ·have bad:T (DJ φ n m x true) (EP ms r):=by
    unfold DJ
    refine T.cond (fun _=>?_) fun h=>by cases h
    rw [hx.2 hb]
    exact T.bind (N2 hr (by decide)) fun r' hr'=> .some ⟨hr'.1,by simp only;rw [hr'.2.1];omega,fun h=>absurd h hr'.2.2⟩
   refine T.cond (fun _=>bad) fun hk1=>?_
   have hk1:=Jr hk1
   have h3:=hm'.1 (by rw [hk1];decide)
   have hbr:Rd ms (KH r):=⟨hr.1,by show 0≤r.at_+1;omega,by show r.at_+1<_;omega⟩
   obtain ⟨o,ho,ho'⟩:=Zh m.text
   refine T.eq ho ?_
   cases hz:(o==0)
   ·have hz:=Bn hz
    unfold DJ
    refine T.cond (fun h=>by cases h) fun _=>T.eq ho ?_
    unfold Eo
    rw [hx.2 hb,ND hlen hr]
    have fin: ∀(r':AD) (ty:Int) (l:List AB),Rd ms r'→r.at_≤r'.at_→(r'.why=0→Ar o l.length∧(o=5→1≤ty∧ty≤3)∧(∀a∈l,WE a)∧(1+CR l:Int)≤r'.at_ - r.at_)→
      T (F9 o [] [] (0,0) m.at_ r'.marks r'.at_ r'.why r'.where_ r'.l.text r'.l.funcs r'.l.arity r'.l.nest r'.nest ty l) (EP ms r):=by
     intro r' ty l h1 h2 h3
     refine .some (a:=_) ⟨h1,h2,fun h=>⟨hw,?_,?_⟩⟩
     ·obtain ⟨ha,ht,hl,_⟩:=h3 h
      exact .mk _ ha (fun h=>by simp only at h;omega) (fun h=>ht (by simp only at h;omega)) hl
     ·have:=(h3 h).2.2.2
      simp only [CW];omega
    have j4:14≤o∧o≤17→T (CS φ (x.1,r) o [] [] 0 (0,0) m.at_ true) (EP ms r):=by
     intro ho2
     unfold CS
     refine T.cond (fun _=>?_) fun h=>by cases h
     rw [ND hlen hr]
     refine T.bind (Ir hlen hM hbr) fun r1 hr1=>?_
     have e1:=hr1.2.1
     simp only [KH] at e1
     refine T.bind (hφ.expr r1 hr1.1 (hf.lt om hw h2 om)) fun y hy=>T.bind (Ir hlen hM hy.1) fun r2 hr2=>fin r2 0 [y.1] hr2.1 (by have:=hr2.2.1;have:=hy.2.1;omega) fun h=>?_
     have h5:=hr2.2.2 h
     have h6:=hy.2.2 h5.1
     refine ⟨.inr (.inr (.inr (.inl ⟨ho2.1,ho2.2,rfl⟩))),fun h=>om,fun a ha=>by simp at ha;subst ha;exact h6.2.1,?_⟩
     have:=h6.2.2
     rw [Pz];omega
    have ex:x=(x.1,r):=by rw [←hx.2 hb]
    rw [ex]
    refine T.cond (fun h5=>?_) fun h5=>?_
    ·have h5:=CJ h5
     have:=hf.1
     refine T.bind (VP hlen hM om hbr) fun y hy=>fin y.2 y.1 [] hy.1 (by have:=hy.2.1;simp only [KH] at this;omega) fun h=>?_
     have h6:=hy.2.2 h
     refine ⟨.inl ⟨om,om,rfl⟩,fun _=>⟨h6.2.2.1,h6.2.2.2⟩,fun a h=>by simp at h,?_⟩
     have:=h6.2.1
     simp only [KH] at this
     simp only [CR];omega
    ·have h5:=Bn h5
     refine T.cond (fun h=>by rw [h];exact j4 (by have:=CJ h;omega)) fun hn1=>T.cond (fun h=>by rw [h];exact j4 (by have:=CJ h;omega)) fun hn2=>T.cond (fun h=>by rw [h];exact j4 (by have:=CJ h;omega)) fun hn3=>?_
     cases h17:(o==17)
     ·have:=Bn hn1;have:=Bn hn2;have:=Bn hn3;have:=Bn h17
      unfold CS
      refine T.cond (fun h=>by cases h) fun _=>?_
      dsimp only
      rw [wr (x:=r.at_+1) om om]
      refine fin (KH r) 0 [] hbr (by show r.at_≤r.at_+1;omega) fun _=>⟨.inl ⟨om,om,rfl⟩,fun h=>om,fun a h=>by simp at h,by simp only [CR,KH];omega⟩
     ·exact j4 (by have:=CJ h17;omega)
   ·exact bad
theorem Zi{r:AD}{m:Af}(hr:Rd ms r)(hw:r.why=0)(hf:Fu ms (n+1) r 12):T (Cj φ n r m) fun x=>Rd ms x.2∧r.at_≤x.2.at_∧(x.2.why=0→WE x.1∧(CW x.1:Int)≤x.2.at_ - r.at_+1):=by
 unfold Cj
 have h2:=hr.2.2
 have h1:=hr.2.1
 refine T.bind (N3 hlen hM hr) fun x hx=>T.cond (fun hb=>?_) fun hb=>?_
 ·rw [hx.2 (by simpa using hb)]
  exact .some ⟨hr,by simp only;omega,fun _=>⟨.mk _ (.inl ⟨by simp,by simp,rfl⟩) (fun h=>by simp at h) (fun h=>by simp at h) (fun a h=>by simp at h),by simp only [CW,CR];omega⟩⟩
 ·obtain ⟨_,e,hbr⟩:=hx.1 (by simpa using hb)
  have key: ∀(k:Nat) (s:AD) (l:List AB),Rd ms s→r.at_+1≤s.at_→1≤k→(s.why=0→(ms.length:Int) - s.at_<k)→(s.why=0→(∀a∈l,WE a)∧(CR l:Int)≤s.at_ - r.at_)→
    T (Be φ m k s.marks s.at_ s.why s.where_ s.l.text s.l.funcs s.l.arity s.l.nest s.nest l) fun x=>Rd ms x.2∧r.at_≤x.2.at_∧(x.2.why=0→WE x.1∧(CW x.1:Int)≤x.2.at_ - r.at_+1):=by
   intro k
   induction k with
   |zero=>intro s l _ _ _ _;omega
   |succ k ih=>
    intro s l hs hat _ hk hl
    show T (Ce φ m (Be φ m k) s.marks s.at_ s.why s.where_ s.l.text s.l.funcs s.l.arity s.l.nest s.nest l) _
    unfold Ce
    have fin:T (DS φ m s.marks s.at_ s.why s.where_ s.l.text s.l.funcs s.l.arity s.l.nest s.nest l (Be φ m k) false) fun x=>Rd ms x.2∧r.at_≤x.2.at_∧(x.2.why=0→WE x.1∧(CW x.1:Int)≤x.2.at_ - r.at_+1):=by
     unfold DS
     refine T.cond (fun h=>by cases h) fun _=>T.bind (Ir hlen hM (r:=s) hs) fun r' hr'=> .some ⟨hr'.1,by have:=hr'.2.1;simp only;omega,fun h=>?_⟩
     have h3:=hr'.2.2 h
     have h4:=hl h3.1
     exact ⟨.mk _ (.inr (.inl rfl)) (fun h=>by simp at h) (fun h=>by simp at h) h4.1,by simp only [CW];omega⟩
    refine T.cond (fun hsw=>?_) fun _=>fin
    have hsw:=CJ hsw
    refine T.bind (N9 hM (r:=s) hs) fun b _=>?_
    cases b
    ·have go: ∀s':AD,Rd ms s'→s.at_≤s'.at_→T (DR φ l (Be φ m k) s'.marks s'.at_ s'.why s'.where_ s'.l.text s'.l.funcs s'.l.arity s'.l.nest s'.nest) fun x=>Rd ms x.2∧r.at_≤x.2.at_∧(x.2.why=0→WE x.1∧(CW x.1:Int)≤x.2.at_ - r.at_+1):=by
      intro s' hs' hle
      unfold DR
      have h5:=hs.2.2
      refine T.bind (hφ.expr s' hs' (hf.lt om hw h2 om)) fun y hy=>?_
      have hy1:=hy.2.1
      have hll':=hl hsw
      have hlen':=L4 l
      refine T.bind (F1 om (by simp;omega)) fun _ _=>ih y.2 (l++[y.1]) hy.1 om ?_ (fun h=>?_) fun h=>?_
      ·have:=hk hsw;omega
      ·have:=hy.2.2 h;have:=LM y.1;have:=hk hsw;omega
      ·have h6:=hy.2.2 h
       refine ⟨fun a ha=>?_,?_⟩
       ·rcases List.mem_append.1 ha with ha|ha
        ·exact hll'.1 a ha
        ·simp at ha;subst ha;exact h6.2.1
       ·rw [IU,Pz];omega
     refine T.cond (fun _=>T.cond (fun _=>T.bind (Ir hlen hM (r:=s) hs) fun s' hs'=>go s' hs'.1 hs'.2.1) fun _=>go s hs om) fun h=>by cases h
    ·exact fin
  rw [e]
  refine key n (KH r) [] hbr (by show r.at_+1≤r.at_+1;omega) (by have:=hf.1;omega) (fun _=>?_) fun _=>⟨fun a h=>by simp at h,by simp only [CR,KH];omega⟩
  have:=hf.2 hw
  simp only [KH];omega
theorem Zj{r:AD}{ws:List (List UInt8)}(hr:Rd ms r)(hl3:ws.length≤3)(hf:Fu ms (n+1) r 19):T (Ci φ n r ws) fun x=>Rd ms x.2∧r.at_≤x.2.at_∧(x.2.why=0→(ws≠[]→r.why=0)∧x.1.length=ws.length∧(∀a∈x.1,WE a)∧(CR x.1:Int)≤x.2.at_ - r.at_):=by
 unfold Ci
 have key: ∀(k i:Nat) (l:List AB) (s:AD),i≤ws.length→ws.length<i+k→l.length=i→Rd ms s→r.at_≤s.at_→(s.why=0→r.why=0∧(∀a∈l,WE a)∧(CR l:Int)≤s.at_ - r.at_)→
   T (Bj φ ws k l (i:Int) s.marks s.at_ s.why s.where_ s.l.text s.l.funcs s.l.arity s.l.nest s.nest) fun x=>Rd ms x.2∧r.at_≤x.2.at_∧(x.2.why=0→(ws≠[]→r.why=0)∧x.1.length=ws.length∧(∀a∈x.1,WE a)∧(CR x.1:Int)≤x.2.at_ - r.at_):=by
  intro k
  induction k with
  |zero=>intro i l s _ _;omega
  |succ k ih=>
   intro i l s hi hk hli hs hat hw
   show T (Cd φ ws (Bj φ ws k) l i s.marks s.at_ s.why s.where_ s.l.text s.l.funcs s.l.arity s.l.nest s.nest) _
   unfold Cd
   refine T.cond (fun h=>?_) fun h=>?_
   ·have h:=CI h
    have go: ∀s':AD,Rd ms s'→s.at_≤s'.at_→(s'.why=0→s.why=0)→T (DQ φ l i (Bj φ ws k) s'.marks s'.at_ s'.why s'.where_ s'.l.text s'.l.funcs s'.l.arity s'.l.nest s'.nest) fun x=>Rd ms x.2∧r.at_≤x.2.at_∧(x.2.why=0→(ws≠[]→r.why=0)∧x.1.length=ws.length∧(∀a∈x.1,WE a)∧(CR x.1:Int)≤x.2.at_ - r.at_):=by
     intro s' hs' hle hw'
     unfold DQ
     refine T.bind (hφ.expr s' hs' (hf.le om (fun h=>(hw (hw' h)).1) om)) fun y hy=>T.bind (F1 om (by simp;omega)) fun _ _=>?_
     rw [wr om om,show (i:Int)+1=((i+1:Nat):Int) by omega]
     refine ih (i+1) (l++[y.1]) y.2 om om (by simp;omega) hy.1 (by have:=hy.2.1;omega) fun h=>?_
     have h1:=hy.2.2 h
     have h2:=hw (hw' h1.1)
     refine ⟨h2.1,fun a ha=>?_,?_⟩
     ·rcases List.mem_append.1 ha with ha|ha
      ·exact h2.2.1 a ha
      ·simp at ha;subst ha;exact h1.2.1
     ·rw [IU,Pz];have:=h1.2.2;have:=h2.2.2;omega
    refine T.bind (FW om h) fun w _=>T.cond (fun _=>T.bind (Ir hlen hM (r:=s) hs) fun s' hs'=>go s' hs'.1 hs'.2.1 fun h=>(hs'.2.2 h).1) fun _=>go s hs om id
   ·have h:=Db h
    exact .some ⟨hs,hat,fun h'=>⟨fun _=>(hw h').1,by simp only;omega,(hw h').2.1,(hw h').2.2⟩⟩
 cases ws with
 |nil=>
  obtain ⟨n,rfl⟩: ∃m,n=m+1:=⟨n - 1,by have:=hf.1;omega⟩
  exact .some ⟨hr,by simp only;omega,fun _=>⟨fun h=>absurd rfl h,rfl,fun a h=>(by cases h),by simp [CR]⟩⟩
 |cons w ws=>
  rcases Decidable.em (r.why=0) with h|h
  ·exact key n 0 [] r om (by have:=hf.1;omega) rfl hr om fun _=>⟨h,fun a h=>(by cases h),by simp [CR]⟩
  ·exact key n 0 [] r om (by have:=hf.1;omega) rfl hr om fun h'=>absurd h' h
theorem Wq{r:AD}{e:AB}(hr:Rd ms r)(hf:Fu ms (n+1) r 19):T (B6 φ n r e) fun x=>Rd ms x.1∧r.at_≤x.1.at_∧(x.1.why=0→r.why=0∧WE x.2∧(CW x.2:Int)≤x.1.at_ - r.at_+1):=by
 unfold B6
 refine T.bind (hφ.expr r hr (hf.le om id om)) fun a ha=>T.bind (Ir hlen hM ha.1) fun r1 h1=>T.bind (Ir hlen hM h1.1) fun r2 h2=>T.bind (Ir hlen hM h2.1) fun r3 h3=>?_
 have a1:=ha.2.1;have b1:=h1.2.1;have b2:=h2.2.1;have b3:=h3.2.1
 refine T.bind (hφ.expr r3 h3.1 (hf.le om (fun h=>(ha.2.2 (h1.2.2 (h2.2.2 (h3.2.2 h).1).1).1).1) om)) fun b hb=>T.bind (Ir hlen hM hb.1) fun r4 h4=>T.bind (QN hlen hM h4.1) fun x5 h5=>T.bind (Ir hlen hM h5.1) fun r6 h6=>T.bind (QN hlen hM h6.1) fun x7 h7=>T.bind (Ir hlen hM h7.1) fun r8 h8=>?_
 have a2:=hb.2.1;have b4:=h4.2.1;have b5:=h5.2.1;have b6:=h6.2.1;have b7:=h7.2.1;have b8:=h8.2.1
 have back:r8.why=0→b.2.why=0:=fun h=>(h4.2.2 (h5.2.2 (h6.2.2 (h7.2.2 (h8.2.2 h).1).1).1).1).1
 have back2:r3.why=0→a.2.why=0:=fun h=>(h1.2.2 (h2.2.2 (h3.2.2 h).1).1).1
 refine T.bind (hφ.expr r8 h8.1 (hf.le om (fun h=>(ha.2.2 (back2 (hb.2.2 (back h)).1)).1) om)) fun c hc=>?_
 have a3:=hc.2.1
 refine .some (a:=_) ⟨hc.1,by simp only;omega,fun h=>?_⟩
 have p3:=hc.2.2 h
 have p2:=hb.2.2 (back p3.1)
 have p1:=ha.2.2 (back2 p2.1)
 have e1:=p1.2.2;have e2:=p2.2.2;have e3:=p3.2.2
 refine ⟨p1.1,.mk _ (.inr (.inr (.inr (.inr (.inr (.inl ⟨by simp,by simp,rfl⟩)))))) (fun h=>by simp at h) (fun h=>by simp at h) fun x hx=>?_,?_⟩
 ·simp at hx
  rcases hx with rfl|rfl|rfl
  ·exact p1.2.1
  ·exact p2.2.1
  ·exact p3.2.1
 ·simp only [CW,CR];omega
theorem AAq{r:AD}(hr:Rd ms r)(hf:Fu ms (n+1) r 18):T (Cy φ n r) (EP ms r):=by
 unfold Cy
 have hr1:=hr.2.1
 have hr2:=hr.2.2
 refine T.bind (LD hr) fun m hm=>?_
 have out: ∀(bd:Bool) (y:AD) (e:AB),Rd ms y→r.at_≤y.at_→(y.why=0→r.why=0∧WE e∧(CW e:Int)≤y.at_ - r.at_)→
   T (En bd y.marks y.at_ y.why y.where_ y.l.text y.l.funcs y.l.arity y.l.nest y.nest e.op e.name e.tail e.type_ e.num e.args e.at_) (EP ms r):=by
  intro bd y e hy hat hw
  unfold En Ha
  rw [O9]
  exact T.cond (fun _=> .some ⟨hy,hat,hw⟩) fun _=> .some ⟨hy,hat,hw⟩
 have j7: ∀(bd:Bool) (y:AD) (op:Int),21≤op∧op≤22→Rd ms y→y.at_=r.at_→y.why=0→r.why=0→Rd ms (KH y)→∀nn:Int,T (Dg φ n m bd y.marks y.at_ y.why y.where_ y.l.text y.l.funcs y.l.arity y.l.nest nn op) (EP ms r):=by
  intro bd y op hop hy hat hw hrw hby nn
  unfold Dg
  rw [wr (x:=y.at_+1) (by have:=hy.2.1;omega) (by have:=hy.2.2;omega)]
  have hby':Rd ms (AD.mk y.marks (y.at_+1) y.why y.where_ (Ae.mk y.l.text y.l.funcs y.l.arity y.l.nest) nn):=hby
  refine T.bind (QN hlen hM hby') fun x hx=>?_
  have h1:=hf.1
  refine T.bind (VP hlen hM om hx.1) fun t ht=>?_
  have x1:=hx.2.1;have t1:=ht.2.1
  simp only at x1
  refine T.bind (hφ.parts t.2 _ ht.1 (by simp) (hf.lt om hrw hr2 om)) fun l hl=>?_
  have l1:=hl.2.1
  refine out bd l.2 ⟨op,x.1.text,[],t.1,(0,0),l.1,m.at_⟩ hl.1 om fun h=>?_
  have p:=hl.2.2 h
  have q:=ht.2.2 (p.1 (by simp))
  refine ⟨hrw,.mk _ (.inr (.inr (.inr (.inr (.inr (.inr ⟨hop.1,hop.2,p.2.1⟩)))))) (fun h=>by simp only at h;omega) (fun _=>⟨q.2.2.1,q.2.2.2⟩) p.2.2.1,?_⟩
  have:=p.2.2.2
  simp only [CW];omega
 have j4: ∀(bd:Bool) (y:AD),Rd ms y→y.at_=r.at_→y.why=0→r.why=0→Rd ms (KH y)→∀nn:Int,T (Dh φ n m bd y.marks y.at_ y.why y.where_ y.l.text y.l.funcs y.l.arity y.l.nest nn) (EP ms r):=by
  intro bd y hy hat hw hrw hby nn
  unfold Dh
  have hby':Rd ms (AD.mk y.marks (y.at_+1) y.why y.where_ (Ae.mk y.l.text y.l.funcs y.l.arity y.l.nest) nn):=hby
  refine T.cond (fun _=>?_) fun _=>T.cond (fun _=>?_) fun _=>T.cond (fun _=>j7 bd y 22 ⟨om,om⟩ hy hat hw hrw hby nn) fun _=>j7 bd y 21 ⟨om,om⟩ hy hat hw hrw hby nn
  ·rw [wr (x:=y.at_+1) (by have:=hy.2.1;omega) (by have:=hy.2.2;omega)]
   refine T.bind (hφ.parts _ _ hby' (by simp) (hf.lt (by show r.at_<y.at_+1;omega) hrw hr2 om)) fun l hl=>?_
   have l1:=hl.2.1
   simp only at l1
   refine out bd l.2 ⟨19,[],[],0,(0,0),l.1,m.at_⟩ hl.1 om fun h=>?_
   have p:=hl.2.2 h
   refine ⟨hrw,.mk _ (.inr (.inr (.inr (.inr (.inr (.inl ⟨by simp,by simp,p.2.1⟩)))))) (fun h=>by simp at h) (fun h=>by simp at h) p.2.2.1,?_⟩
   have:=p.2.2.2
   simp only at this
   simp only [CW];omega
  ·rw [wr (x:=y.at_+1) (by have:=hy.2.1;omega) (by have:=hy.2.2;omega)]
   refine T.bind (hφ.branches _ _ hby' (hf.lt (by show r.at_<y.at_+1;omega) hrw hr2 om)) fun l hl=>?_
   have l1:=hl.2.1
   simp only at l1
   refine out bd l.1 l.2 hl.1 om fun h=>?_
   have p:=hl.2.2 h
   have:=p.2.2
   simp only at this
   exact ⟨hrw,p.2.1,om⟩
 have j2: ∀(bd:Bool) (y:AD),Rd ms y→y.at_=r.at_→(y.why=0→r.why=0)→(bd=true→y.why=0→Rd ms (KH y))→T (Dj φ n m bd y.marks y.at_ y.why y.where_ y.l.text y.l.funcs y.l.arity y.l.nest y.nest) (EP ms r):=by
  intro bd y hy hat hw hb
  unfold Dj
  refine T.cond (fun h=> .some ⟨hy,by simp only;omega,fun h'=>absurd h' (Lo h)⟩) fun h=>?_
  have h:=Jr h
  have hrw:=hw h
  refine T.cond (fun hbd=>?_) fun hbd=>?_
  ·refine T.bind (N9 hM (r:=y) hy) fun c hc=>?_
   unfold Di
   refine T.cond (fun _=>?_) fun hc'=>T.cond (fun h'=>by rw [h'] at hbd;cases hbd) fun _=>?_
   ·refine T.bind (hφ.cons y hy (hf.le om (fun _=>hrw) om)) fun z hz=> .some ⟨hz.1,by have:=hz.2.1;simp only;omega,fun h=>?_⟩
    have:=hz.2.2 h
    exact ⟨hrw,this.2.1,by have:=this.2.2;simp only;omega⟩
   ·have hc1:=hc (by simpa using hc')
    exact j4 bd y hy hat h hrw ⟨hy.1,by show 0≤y.at_+1;omega,hc1.2⟩ y.nest
  ·have hbd:bd=true:=by simpa using hbd
   unfold Di
   refine T.cond (fun h=>by cases h) fun _=>T.cond (fun _=>j4 bd y hy hat h hrw (hb hbd h) _) fun h'=>by rw [h'] at hbd;cases hbd
 have j8: ∀(bd c:Bool),(bd=true→r.why=0∧r.at_+1<ms.length)→T (Dk φ n r m bd c) (EP ms r):=by
  intro bd c hb
  unfold Dk
  refine T.cond (fun _=>T.bind (N2 hr (by decide)) fun y hy=>j2 bd y hy.1 hy.2.1 (fun h=>absurd h hy.2.2) fun _ h=>absurd h hy.2.2) fun _=>j2 bd r hr rfl id fun h _=>⟨hr.1,by show 0≤r.at_+1;omega,(hb h).2⟩
 have j1: ∀(bd:Bool),(bd=true→r.why=0∧r.at_+1<ms.length)→T (DH φ n r m bd) (EP ms r):=by
  intro bd hb
  unfold DH
  exact T.cond (fun _=>j8 bd _ hb) fun _=>j8 bd _ hb
 refine T.bind (N9 hM hr) fun b hb=>T.cond (fun h=>j1 true fun _=>hb h) fun _=>T.bind (N9 hM hr) fun b hb=>T.cond (fun h=>j1 true fun _=>hb h) fun _=>T.bind (N9 hM hr) fun b hb=>j1 b hb
omit hφ in
theorem psp: ∀n,PSp ms n (AC.at n)
 |0=>⟨fun r _ h=>absurd h.1 (by decide),fun r _ h=>absurd h.1 (by decide),fun r _ h=>absurd h.1 (by decide),fun r _ h=>absurd h.1 (by decide),fun r _ h=>absurd h.1 (by decide),fun r _ h=>absurd h.1 (by decide),fun r _ _ _ h=>absurd h.1 (by decide),fun r _ _ _ h=>absurd h.1 (by decide),fun r _ _ h=>absurd h.1 (by decide)⟩
 |n+1=>
  have hp:=psp n
  ⟨fun _ hr hf=>AAq hlen hM hp hr hf,fun _ hr hf=>AAm hlen hM hp hr hf,fun _ hr hf=>AAn hlen hM hp hr hf,fun _ hr hf=>ABS hlen hM hp hr hf,fun _ hr hf=>AAo hlen hM hp hr hf,fun _ hr hf=>AAp hlen hM hp hr hf,
   fun _ _ hr hw hf=>Zi hlen hM hp hr hw hf,fun _ _ hr hl hf=>Zj hlen hM hp hr hl hf,fun _ _ hr hf=>Wq hlen hM hp hr hf⟩
end
end
end Fth
namespace Fth
open Go
structure WFn(f:AE):Prop where
 body:WE f.body
 size:CW f.body≤1000000
 pars:f.params.length≤1000000
 typ:1≤f.type_∧f.type_≤3
 ptyp: ∀x∈f.params,1≤x.type_∧x.type_≤3
structure WP(p:AM):Prop where
 fns: ∀f∈p.funcs,WFn f
 len:p.funcs.length≤50000
structure WFt(f:AE):Prop where
 body:WE f.body
 size:CW f.body≤900000
 pars:f.params.length≤900000
 typ:1≤f.type_∧f.type_≤3
 ptyp: ∀x∈f.params,1≤x.type_∧x.type_≤3
structure WPt(p:AM):Prop where
 fns: ∀f∈p.funcs,WFt f
 len:p.funcs.length≤49000
theorem WPt.wp{p:AM}(h:WPt p):WP p:=
 ⟨fun f hf=>let g:=h.fns f hf;⟨g.body,Nat.le_trans g.size (by decide),Nat.le_trans g.pars (by decide),g.typ,g.ptyp⟩,Nat.le_trans h.len (by decide)⟩
section
variable{ms:List Af}(hlen:ms.length≤40000)(hM:GM ms){N:Nat}(hN:1000000≤N)
include hlen hM hN
theorem AAr{r:AD}{k:Int}(hr:Rd ms r):T (Cs N r k) fun x=>Rd ms x.2∧r.at_≤x.2.at_∧(x.2.why=0→r.why=0∧r.at_<x.2.at_∧WFt x.1):=by
 have hlen':ms.length≤1000000000:=om
 have hps:=psp hlen' hM N
 have fu: ∀r,Rd ms r→Fu ms N r 18:=fun r hr=>⟨om,fun _=>by have:=hr.2.1;omega⟩
 have j1: ∀s:AD,Rd ms s→r.at_≤s.at_→(s.why=0→r.why=0)→T (D3 N s.marks s.at_ s.why s.where_ s.l.text s.l.funcs s.l.arity s.l.nest s.nest) fun x=>Rd ms x.2∧r.at_≤x.2.at_∧(x.2.why=0→r.why=0∧r.at_<x.2.at_∧WFt x.1):=by
  intro s hs hat hw
  unfold D3
  refine T.bind (QN hlen' hM (r:=s) hs) fun x hx=>T.bind (Ir hlen' hM hx.1) fun s1 h1=>?_
  have x1:=hx.2.1;have a1:=h1.2.1
  have hw1:s1.why=0→r.why=0∧r.at_<s1.at_:=fun h=>by
   have p:=h1.2.2 h
   have q:=hx.2.2 p.1
   exact ⟨hw q.1,by have:=q.2;omega⟩
  have key: ∀(k:Nat) (s:AD) (l:List AK),Rd ms s→s1.at_≤s.at_→(s.why=0→s1.why=0)→1≤k→(s.why=0→(ms.length:Int) - s.at_<k)→(s.why=0→l.length≤s.at_)→(s.why=0→∀x∈l,1≤x.type_∧x.type_≤3)→
    T (Bd N x k s.marks s.at_ s.why s.where_ s.l.text s.l.funcs s.l.arity s.l.nest s.nest l) fun x=>Rd ms x.2∧r.at_≤x.2.at_∧(x.2.why=0→r.why=0∧r.at_<x.2.at_∧WFt x.1):=by
   intro k
   induction k with
   |zero=>intro s l _ _ _ _ _;omega
   |succ k ih=>
    intro s l hs hat hw _ hk hl ht
    show T (DK N x (Bd N x k) s.marks s.at_ s.why s.where_ s.l.text s.l.funcs s.l.arity s.l.nest s.nest l) _
    unfold DK
    have fin:T (DX N x s.marks s.at_ s.why s.where_ s.l.text s.l.funcs s.l.arity s.l.nest s.nest l (Bd N x k) false) fun x=>Rd ms x.2∧r.at_≤x.2.at_∧(x.2.why=0→r.why=0∧r.at_<x.2.at_∧WFt x.1):=by
     unfold DX
     refine T.cond (fun h=>by cases h) fun _=>T.bind (Ir hlen' hM (r:=s) hs) fun s2 h2=>T.bind (Ir hlen' hM h2.1) fun s3 h3=>T.bind (VP hlen' hM om h3.1) fun t ht4=>T.bind (Ir hlen' hM ht4.1) fun s5 h5=>T.bind (hps.expr s5 h5.1 (fu _ h5.1)) fun b hb=>T.bind (Ir hlen' hM hb.1) fun s6 h6=>?_
     have b2:=h2.2.1;have b3:=h3.2.1;have b4:=ht4.2.1;have b5:=h5.2.1;have b6:=hb.2.1;have b7:=h6.2.1
     refine .some (a:=_) ⟨h6.1,by simp only;omega,fun h=>?_⟩
     have p1:=h6.2.2 h
     have p2:=hb.2.2 p1.1
     have p3:=h5.2.2 p2.1
     have p4:=ht4.2.2 p3.1
     have p5:=h3.2.2 p4.1
     have p6:=h2.2.2 p5.1
     have p7:=hw1 (hw p6.1)
     have sz:=p2.2.2
     have e1:=h6.1.2.2
     have e2:=hs.2.1
     have e3:=hl p6.1
     have e4:=hs.2.2
     have e5:=h5.1.2.1
     exact ⟨p7.1,by simp only;omega,⟨p2.2.1,by simp only;omega,by simp only;omega,p4.2.2,ht p6.1⟩⟩
    refine T.cond (fun hsw=>?_) fun _=>fin
    have hsw:=CJ hsw
    refine T.bind (N9 hM (r:=s) hs) fun b _=>?_
    cases b
    ·have j5: ∀s':AD,Rd ms s'→s.at_≤s'.at_→T (D1 N l (Bd N x k) s'.marks s'.at_ s'.why s'.where_ s'.l.text s'.l.funcs s'.l.arity s'.l.nest s'.nest) fun x=>Rd ms x.2∧r.at_≤x.2.at_∧(x.2.why=0→r.why=0∧r.at_<x.2.at_∧WFt x.1):=by
      intro s' hs' hle
      unfold D1
      have hl':=hl hsw
      have hs2:=hs.2.2
      refine T.bind (QN hlen' hM (r:=s') hs') fun y hy=>T.bind (VP hlen' hM om hy.1) fun t ht'=>T.bind (F1 om (by simp;omega)) fun _ _=>?_
      have y1:=hy.2.1;have t1:=ht'.2.1
      refine ih t.2 (l++[_]) ht'.1 om (fun _=>hw hsw) ?_ (fun h=>?_) (fun h=>?_) fun h z hz=>?_
      ·have:=hk hsw;omega
      ·have p:=ht'.2.2 h;have q:=hy.2.2 p.1;have:=hk hsw;omega
      ·have p:=ht'.2.2 h;rw [List.length_append,List.length_singleton];omega
      ·rcases List.mem_append.1 hz with hz|hz
       ·exact ht hsw z hz
       ·simp at hz;subst hz;exact (ht'.2.2 h).2.2
     have j6: ∀(s':AD) (c:Bool),Rd ms s'→s.at_≤s'.at_→T (DW N l (Bd N x k) s'.marks s'.at_ s'.why s'.where_ s'.l.text s'.l.funcs s'.l.arity s'.l.nest s'.nest c) fun x=>Rd ms x.2∧r.at_≤x.2.at_∧(x.2.why=0→r.why=0∧r.at_<x.2.at_∧WFt x.1):=by
      intro s' c hs' hle
      unfold DW
      exact T.cond (fun _=>T.bind (N2 (r:=s') hs' (by decide)) fun s2 h2=>j5 s2 h2.1 (by rw [h2.2.1];exact hle)) fun _=>j5 s' hs' hle
     have j4: ∀(s':AD),Rd ms s'→s.at_≤s'.at_→T (D2 N l (Bd N x k) s'.marks s'.at_ s'.why s'.where_ s'.l.text s'.l.funcs s'.l.arity s'.l.nest s'.nest) fun x=>Rd ms x.2∧r.at_≤x.2.at_∧(x.2.why=0→r.why=0∧r.at_<x.2.at_∧WFt x.1):=by
      intro s' hs' hle
      unfold D2
      exact T.cond (fun _=>T.bind (LD (r:=s') hs') fun m _=>T.cond (fun _=>j6 s' _ hs' hle) fun _=>j6 s' _ hs' hle) fun _=>j6 s' _ hs' hle
     unfold DX
     exact T.cond (fun _=>T.cond (fun _=>T.bind (Ir hlen' hM (r:=s) hs) fun s' h'=>j4 s' h'.1 h'.2.1) fun _=>j4 s hs om) fun h=>by cases h
    ·exact fin
  refine key N s1 [] h1.1 om id om (fun _=>?_) (fun _=>?_) fun _ x h=>by cases h
  ·have:=h1.1.2.1;omega
  ·have:=h1.1.2.1;simp;omega
 have j7: ∀c,T (D4 N r c) fun x=>Rd ms x.2∧r.at_≤x.2.at_∧(x.2.why=0→r.why=0∧r.at_<x.2.at_∧WFt x.1):=by
  intro c
  unfold D4
  exact T.cond (fun _=>T.bind (N2 hr (by decide)) fun s h=>j1 s h.1 (by rw [h.2.1];omega) fun h'=>absurd h' h.2.2) fun _=>j1 r hr om id
 unfold Cs
 exact T.bind (LD hr) fun m _=>T.cond (fun _=>j7 _) fun _=>j7 _
theorem Ws{r:AD}(hr:Rd ms r):T (Bv N r) fun x=>x.2.why=0→WPt x.1:=by
 have hlen':ms.length≤1000000000:=om
 have key: ∀(k:Nat) (s:AD) (l:List AE),Rd ms s→1≤k→(s.why=0→(ms.length:Int) - s.at_<k)→(s.why=0→l.length≤s.at_)→(s.why=0→∀f∈l,WFt f)→
   T (BR N k s.marks s.at_ s.why s.where_ s.l.text s.l.funcs s.l.arity s.l.nest s.nest l) fun x=>x.2.why=0→WPt x.1:=by
  intro k
  induction k with
  |zero=>intro s l _ _;omega
  |succ k ih=>
   intro s l hs _ hk hl hf
   show T (CK N (BR N k) s.marks s.at_ s.why s.where_ s.l.text s.l.funcs s.l.arity s.l.nest s.nest l) _
   unfold CK
   have h2:=hs.2.2
   have fin:T (B7 N s.marks s.at_ s.why s.where_ s.l.text s.l.funcs s.l.arity s.l.nest s.nest l (BR N k) false) fun x=>x.2.why=0→WPt x.1:=by
    refine .some (a:=_) fun h=>⟨hf h,?_⟩
    have:=hl h;simp only;omega
   refine T.cond (fun hw=>?_) fun _=>fin
   have hw:=CJ hw
   have go:T (B7 N s.marks s.at_ s.why s.where_ s.l.text s.l.funcs s.l.arity s.l.nest s.nest l (BR N k) true) fun x=>x.2.why=0→WPt x.1:=by
    unfold B7
    refine T.cond (fun _=>?_) fun h=>by cases h
    have hl':=hl hw
    have hk':=hk hw
    refine T.bind (AAr hlen hM hN (r:=s) hs) fun x hx=>T.bind (F1 om (by simp;omega)) fun _ _=>ih x.2 (l++[x.1]) hx.1 om (fun h=>?_) (fun h=>?_) fun h f hf'=>?_
    ·have:=(hx.2.2 h).2.1;omega
    ·have:=(hx.2.2 h).2.1;rw [List.length_append,List.length_singleton];omega
    ·rcases List.mem_append.1 hf' with hf'|hf'
     ·exact hf hw f hf'
     ·simp at hf';subst hf';exact (hx.2.2 h).2.2
   refine T.cond (fun _=>go) fun _=>T.bind (LD (r:=s) hs) fun m _=>?_
   generalize (m.kind != 4)=b
   cases b
   ·exact fin
   ·exact go
 unfold Bv
 refine key N r [] hr om (fun _=>by have:=hr.2.1;omega) (fun _=>by have:=hr.2.1;simp;omega) fun _ f h=>by cases h
omit hM hN hlen
theorem Xl{N:Nat}(hN:1000000≤N)(t:List UInt8):T (Fe N t ⟨32768,32768,32768,32768⟩) fun x=>WPt x.1:=by
 have wp0:WPt (AM.mk []):=⟨fun f h=>(by cases h),Nat.zero_le _⟩
 unfold Fe
 refine T.cond (fun _=> .some wp0) fun h=>?_
 have h:=Db h
 simp at h
 refine T.bind (Ya om om) fun x hx=>T.cond (fun _=> .some wp0) fun h2=>?_
 have h2:=Db h2
 have hx:=hx om
 have hr:Rd x.1 (AD.mk x.1 0 0 0 (Ae.mk (if (32768:Int)< (if (32768:Int)<0 then 0 else 32768) then 32768 else (if (32768:Int)<0 then 0 else 32768)) 32768 32768 32768) 0):=by
  refine ⟨rfl,by simp,?_⟩
  obtain ⟨⟨l,e,he,_⟩,_⟩:=hx
  rw [he];simp
 refine T.bind (Ws om hx.1 hN hr) fun y hy=>T.cond (fun h=> .some wp0) fun h=> .some (hy (Jr h))
end
end Fth
namespace Fth
open Go Ieee
def Wd(d:Datum)(n:Int):Prop:=∃(s:Bool) (k:Nat),d= .number s (n.natAbs*2^k) (-(k:Int))∧(n≠0→s=decide (n<0))
def Wp(d:Datum)(n:Int):Prop:=∃k:Nat,d= .number (decide (n<0)) (n.natAbs*2^k) (-(k:Int))
theorem Wp.wd{d:Datum}{n:Int}(h:Wp d n):Wd d n:=let ⟨k,h⟩:=h;⟨_,k,h,fun _=>rfl⟩
theorem Wd.wp{d:Datum}{n:Int}(h:Wd d n)(h0:n≠0):Wp d n:=by obtain ⟨s,k,h,hs⟩:=h;exact ⟨k,by rw [h,hs h0]⟩
def fw(s:Bool)(m:Nat):Nat:=double.word s ((m.log2+1022)*2^52+m*2^(52 - m.log2))
theorem LE{m:Nat}(h0:0<m)(h:m<2^53):m.log2≤52:=by
 have h1:=Nat.log2_self_le (n:=m) om
 have h2:2^m.log2<2^53:=Nat.lt_of_le_of_lt h1 h
 have:=(Nat.pow_lt_pow_iff_right (by decide:1<2)).1 h2
 omega
theorem MW{m:Nat}(h0:0<m)(h:m<2^53):2^52≤m*2^(52 - m.log2)∧m*2^(52 - m.log2)<2^53:=by
 have hl:=LE h0 h
 have h1:=Nat.log2_self_le (n:=m) om
 have h2:=Nat.lt_log2_self (n:=m)
 have e1:2^m.log2*2^(52 - m.log2)=2^52:=by rw [←Nat.pow_add];congr 1;omega
 have e2:2^(m.log2+1)*2^(52 - m.log2)=2^53:=by rw [←Nat.pow_add];congr 1;omega
 constructor
 ·rw [←e1];exact Nat.mul_le_mul_right _ h1
 ·rw [←e2];exact Nat.mul_lt_mul_of_pos_right h2 (Nat.pow_pos (by decide))
theorem Mw{m k:Nat}(h0:0<m):(m*2^k).log2=m.log2+k:=by
 have h1:=Nat.log2_self_le (n:=m) om
 have h2:=Nat.lt_log2_self (n:=m)
 rw [Nat.log2_eq_iff (Nat.ne_of_gt (Nat.mul_pos h0 (Nat.pow_pos (by decide))))]
 rw [Nat.pow_add,show m.log2+k+1=(m.log2+1)+k by omega,Nat.pow_add]
 exact ⟨Nat.mul_le_mul_right _ h1,Nat.mul_lt_mul_of_pos_right h2 (Nat.pow_pos (by decide))⟩
theorem V9{s:Bool}{q d:Nat}(h:d≤(q*2^d).log2+2):Toward.even.cut s (q*2^d) d=q:=by
 simp only [Toward.cut,Nat.min_eq_left h,Nat.one_shiftLeft]
 have hp:0<2^d:=Nat.pow_pos (by decide)
 have e1:q*2^d / 2^d=q:=Nat.mul_div_cancel _ hp
 have e2:q*2^d % 2^d=0:=Nat.mul_mod_left _ _
 rw [e1,e2]
 simp
theorem Uf{s:Bool}{m k:Nat}(h0:0<m)(h:m<2^53):double.nearest s (m*2^k) (-(k:Int))=fw s m:=by
 have hl:=LE h0 h
 have hpos: ¬(m*2^k=0):=Nat.ne_of_gt (Nat.mul_pos h0 (Nat.pow_pos (by decide)))
 have hlast:max (-(k:Int)+((m*2^k).log2:Nat) - (double.fractionBits:Nat)) double.leastPlace=(m.log2:Int) - 52:=by
  rw [Mw h0]
  simp only [double,Format.leastPlace]
  omega
 have hkept:Toward.even.cut s ((m*2^k) <<< (-(k:Int) - ((m.log2:Int) - 52)).toNat) (((m.log2:Int) - 52) - -(k:Int)).toNat=m*2^(52 - m.log2):=by
  rw [Nat.shiftLeft_eq]
  rcases Nat.le_total k (52 - m.log2) with hk|hk
  ·have e1:(-(k:Int) - ((m.log2:Int) - 52)).toNat=52 - m.log2 - k:=om
   have e2:(((m.log2:Int) - 52) - -(k:Int)).toNat=0:=om
   rw [e1,e2,Nat.mul_assoc,←Nat.pow_add,show k+(52 - m.log2 - k)=52 - m.log2 by omega]
   have:=V9 (s:=s) (q:=m*2^(52 - m.log2)) (d:=0) om
   simpa using this
  ·have e1:(-(k:Int) - ((m.log2:Int) - 52)).toNat=0:=om
   obtain ⟨d,hd⟩: ∃d,k=(52 - m.log2)+d:=⟨k - (52 - m.log2),om⟩
   have e2:(((m.log2:Int) - 52) - -(k:Int)).toNat=d:=om
   rw [e1,e2,Nat.pow_zero,Nat.mul_one,hd,Nat.pow_add,←Nat.mul_assoc]
   refine V9 ?_
   rw [Nat.mul_assoc,←Nat.pow_add,Mw h0]
   omega
 have hb:=MW h0 h
 simp only [Format.nearest,hpos,if_false,hlast,hkept,fw]
 congr 1
 have e3:((m.log2:Int) - 52 - double.leastPlace).toNat=m.log2+1022:=by simp only [double,Format.leastPlace];omega
 rw [e3]
 have e4:double.binade=2^52:=rfl
 have e5:double.infRung=2047*2^52:=by decide
 rw [e4,e5]
 omega
theorem Tj{s:Bool}{k:Int}:double.nearest s 0 k=double.word s 0:=by simp [Format.nearest]
theorem XC{s:Bool}{m:Nat}(h0:0<m)(h:m<2^53):double.read (fw s m)= .number s (m*2^(52 - m.log2)) (-((52 - m.log2:Nat):Int)):=by
 have hl:=LE h0 h
 have hb:=MW h0 h
 have e0:double.signWeight=2^63:=by decide
 have e4:double.binade=2^52:=rfl
 have e5:double.infRung=2047*2^52:=by decide
 have e6:double.leastPlace= -1074:=by decide
 generalize hq:m*2^(52 - m.log2)=q at*
 generalize hL:m.log2=L at*
 have hw:fw s m=(if s then 2^63 else 0)+((L+1022)*2^52+q):=by
  simp only [fw,Format.word,hq,hL,e0];cases s<;>simp
 have hr:fw s m % 2^63=(L+1022)*2^52+q:=by rw [hw];cases s<;>simp<;>omega
 have hn:(fw s m / 2^63 % 2==1)=s:=by rw [hw];cases s<;>simp<;>omega
 simp only [Format.read,e0,hr,hn,e4,e5,e6]
 rw [if_neg om,if_pos om]
 congr 1
 ·omega
 ·omega
theorem Wt(n:Int):FloatKind.f64.nearest n=double.nearest (decide (n<0)) n.natAbs 0:=rfl
theorem Kf{n:Int}(h0:n≠0)(h:n.natAbs<2^53):FloatKind.f64.nearest n=fw (decide (n<0)) n.natAbs:=by
 rw [Wt]
 have:=Uf (s:=decide (n<0)) (m:=n.natAbs) (k:=0) om h
 simpa using this
theorem PO:FloatKind.f64.nearest 0=0:=by decide
theorem MX{n:Int}(h:n.natAbs<2^53):Wp (double.read (FloatKind.f64.nearest n)) n:=by
 rcases Decidable.em (n=0) with h0|h0
 ·subst h0;exact ⟨1074,by rw [PO,Int.natAbs_zero,Nat.zero_mul];decide⟩
 ·rw [Kf h0 h,XC om h];exact ⟨_,rfl⟩
theorem Tk{d:Datum}{n:Int}(h:n.natAbs<2^53)(hd:Wp d n):double.write d=FloatKind.f64.nearest n:=by
 obtain ⟨k,rfl⟩:=hd
 rcases Decidable.em (n=0) with h0|h0
 ·subst h0;simp only [Int.natAbs_zero,Nat.zero_mul,Format.write];rw [Tj];decide
 ·rw [Kf h0 h];exact Uf om h
def Fz(x:Nat)(n:Int):Prop:=x=FloatKind.f64.nearest n∨(n=0∧x=9223372036854775808)
theorem Fz.of{n:Int}:Fz (FloatKind.f64.nearest n) n:= .inl rfl
theorem Fz.eq{x:Nat}{n:Int}(h:Fz x n)(h0:n≠0):x=FloatKind.f64.nearest n:=h.resolve_right fun h'=>h0 h'.1
theorem Fz.read{x:Nat}{n:Int}(hx:Fz x n)(h:n.natAbs<2^53):Wd (double.read x) n:=by
 rcases hx with rfl| ⟨rfl,rfl⟩
 ·exact (MX h).wd
 ·exact ⟨true,1074,by rw [Int.natAbs_zero,Nat.zero_mul];decide,fun h=>absurd rfl h⟩
theorem Fz.write{d:Datum}{n:Int}(hd:Wd d n)(h:n.natAbs<2^53):Fz (double.write d) n:=by
 rcases Decidable.em (n=0) with h0|h0
 ·subst h0
  obtain ⟨s,k,rfl,_⟩:=hd
  simp only [Int.natAbs_zero,Nat.zero_mul,Format.write]
  rw [Tj]
  cases s
  ·exact .inl (by decide)
  ·exact .inr ⟨rfl,by decide⟩
 ·exact .inl (Tk h (hd.wp h0))
theorem MY{s:Bool}{n:Int}{k:Nat}(hs:n≠0→s=decide (n<0))(up:Nat):signed s (n.natAbs*2^k) up=n*2^(k+up):=by
 rw [signed,Nat.shiftLeft_eq,Nat.mul_assoc,←Nat.pow_add]
 rcases Decidable.em (n=0) with h0|h0
 ·subst h0;simp
 ·rw [hs h0]
  rcases Int.lt_or_le n 0 with h|h
  ·simp only [h,decide_true,if_true]
   rw [Int.natCast_mul,Int.natCast_pow,show ((n.natAbs:Nat):Int)= -n by omega,Int.neg_mul,Int.neg_neg];rfl
  ·have: ¬n<0:=om
   simp only [this,decide_false,if_false,Bool.false_eq_true]
   rw [Int.natCast_mul,Int.natCast_pow,show ((n.natAbs:Nat):Int)=n by omega];rfl
theorem natAbs_pow(n:Int)(k:Nat):(n*2^k).natAbs=n.natAbs*2^k:=by
 rw [Int.natAbs_mul,Int.natAbs_pow];rfl
theorem XD{n:Int}{k:Nat}:n*2^k<0↔n<0:=by
 have hp:(0:Int)<2^k:=Int.pow_pos (by decide)
 constructor
 ·intro h
  rcases Int.lt_or_le n 0 with h'|h'
  ·exact h'
  ·have:=Int.mul_nonneg h' (Int.le_of_lt hp);omega
 ·intro h;exact Int.mul_neg_of_neg_of_pos h hp
theorem Tl{n:Int}{k:Nat}:n*2^k=0↔n=0:=by
 have hp:(2:Int)^k≠0:=Int.ne_of_gt (Int.pow_pos (by decide))
 constructor
 ·intro h;rcases Int.mul_eq_zero.1 h with h|h
  ·exact h
  ·exact absurd h hp
 ·intro h;rw [h];simp
theorem Wu{c d:Datum}{a b:Int}(hc:Wd c a)(hd:Wd d b): ∃e,c.sum d=some e∧Wd e (a+b)∧(Wp c a∨Wp d b→Wp e (a+b)):=by
 obtain ⟨s,k,rfl,hs⟩:=hc
 obtain ⟨t,j,rfl,ht⟩:=hd
 refine ⟨_,rfl,?_⟩
 have e1:min (-(k:Int)) (-(j:Int))= -((max k j:Nat):Int):=om
 rw [e1]
 have e2:((-(k:Int)) - -((max k j:Nat):Int)).toNat=max k j - k:=om
 have e3:((-(j:Int)) - -((max k j:Nat):Int)).toNat=max k j - j:=om
 rw [e2,e3,MY hs,MY ht,show k+(max k j - k)=max k j by omega,show j+(max k j - j)=max k j by omega,←Int.add_mul]
 generalize max k j=M
 refine ⟨⟨_,M,by rw [natAbs_pow],fun h=>?_⟩,fun h=>⟨M,?_⟩⟩
 ·rw [if_neg (by rw [Tl];exact h)];simp [XD]
 ·rw [natAbs_pow]
  congr 1
  rcases Decidable.em (a+b=0) with h0|h0
  ·rw [if_pos (by rw [Tl];exact h0),h0]
   simp only [Int.lt_irrefl,decide_false,Bool.and_eq_false_iff]
   rcases Decidable.em (a=0) with ha|ha
   ·have hb:b=0:=om
    rcases h with ⟨k',h⟩| ⟨j',h⟩
    ·injection h with h _ _;left;rw [h,ha];decide
    ·injection h with h _ _;right;rw [h,hb];decide
   ·rw [hs ha,ht om]
    simp only [decide_eq_false_iff_not];omega
  ·rw [if_neg (by rw [Tl];exact h0)];simp [XD]
theorem AAs{d:Datum}{b:Int}(hd:Wd d b):Wd d.opposite (-b):=by
 obtain ⟨t,j,rfl,ht⟩:=hd
 refine ⟨!t,j,by simp [Datum.opposite],fun h=>?_⟩
 rw [ht om]
 rcases Int.lt_or_le b 0 with h'|h'
 ·simp [h'];omega
 ·have h1: ¬b<0:=om
  have h2: -b<0:=om
  simp [h1];omega
theorem Zk{c d:Datum}{a b:Int}(hc:Wd c a)(hd:Wd d b): ∃e,c.product d=some e∧Wd e (a*b):=by
 obtain ⟨s,k,rfl,hs⟩:=hc
 obtain ⟨t,j,rfl,ht⟩:=hd
 refine ⟨_,rfl,s^^t,k+j,?_,fun h=>?_⟩
 ·congr 1
  ·rw [Int.natAbs_mul,Nat.pow_add];simp only [Nat.mul_assoc,Nat.mul_left_comm]
  ·omega
 ·have ha:a≠0:=fun e=>h (by rw [e];simp)
  have hb:b≠0:=fun e=>h (by rw [e];simp)
  rw [hs ha,ht hb]
  rcases Int.lt_or_le a 0 with h1|h1<;>rcases Int.lt_or_le b 0 with h2|h2
  ·have:=Int.mul_pos_of_neg_of_neg h1 h2
   simp [h1,h2];omega
  ·have:=Int.mul_neg_of_neg_of_pos h1 (show 0<b by omega)
   have h3: ¬b<0:=om
   simp [h1,h3,this]
  ·have:=Int.mul_neg_of_pos_of_neg (show 0<a by omega) h2
   have h3: ¬a<0:=om
   simp [h2,h3,this]
  ·have:=Int.mul_pos (show 0<a by omega) (show 0<b by omega)
   have h3: ¬a<0:=om
   have h4: ¬b<0:=om
   simp [h3,h4];omega
theorem Yb{c d:Datum}{a b:Int}(hc:Wd c a)(hd:Wd d b):c.order d=some (compare a b):=by
 obtain ⟨s,k,rfl,hs⟩:=hc
 obtain ⟨t,j,rfl,ht⟩:=hd
 simp only [Datum.order]
 have e1:min (-(k:Int)) (-(j:Int))= -((max k j:Nat):Int):=om
 rw [e1]
 have e2:((-(k:Int)) - -((max k j:Nat):Int)).toNat=max k j - k:=om
 have e3:((-(j:Int)) - -((max k j:Nat):Int)).toNat=max k j - j:=om
 rw [e2,e3,MY hs,MY ht,show k+(max k j - k)=max k j by omega,show j+(max k j - j)=max k j by omega]
 generalize max k j=M
 have hp:(0:Int)<2^M:=Int.pow_pos (by decide)
 congr 1
 simp only [compare,compareOfLessAndEq]
 have hlt:a*2^M<b*2^M↔a<b:=Int.mul_lt_mul_right hp
 have:a*2^M=b*2^M↔a=b:=by
  constructor
  ·intro h;exact Int.eq_of_mul_eq_mul_right (Int.ne_of_gt hp) h
  ·rintro rfl;rfl
 simp only [hlt,this]
section
variable{x y:Nat}{a b:Int}
theorem Fz.add(hx:Fz x a)(hy:Fz y b)(ha:a.natAbs<2^53)(hb:b.natAbs<2^53)(h:(a+b).natAbs<2^53): ∃z,FloatKind.f64.format.add x y=some z∧Fz z (a+b):=by
 obtain ⟨e,he,hw,_⟩:=Wu (hx.read ha) (hy.read hb)
 refine ⟨double.write e,?_,Fz.write hw h⟩
 show ((double.read x).sum (double.read y)).map double.write=_
 rw [he];rfl
theorem Fz.add0(hx:Fz x a)(ha:a.natAbs<2^53):FloatKind.f64.format.add x 0=some (FloatKind.f64.nearest a):=by
 obtain ⟨e,he,_,hw⟩:=Wu (hx.read ha) (MX (n:=0) (by decide)).wd
 have hw:=hw (.inr (MX (n:=0) (by decide)))
 rw [Int.add_zero] at hw
 show ((double.read x).sum (double.read 0)).map double.write=_
 rw [PO] at he
 rw [he]
 exact congrArg some (Tk ha hw)
theorem Fz.sub(hx:Fz x a)(hy:Fz y b)(ha:a.natAbs<2^53)(hb:b.natAbs<2^53)(h:(a - b).natAbs<2^53): ∃z,FloatKind.f64.format.sub x y=some z∧Fz z (a - b):=by
 obtain ⟨e,he,hw,_⟩:=Wu (hx.read ha) (AAs (hy.read hb))
 refine ⟨double.write e,?_,Fz.write (by rwa [Int.sub_eq_add_neg]) h⟩
 show ((double.read x).sum (double.read y).opposite).map double.write=_
 rw [he];rfl
theorem Fz.mul(hx:Fz x a)(hy:Fz y b)(ha:a.natAbs<2^53)(hb:b.natAbs<2^53)(h:(a*b).natAbs<2^53): ∃z,FloatKind.f64.format.mul x y=some z∧Fz z (a*b):=by
 obtain ⟨e,he,hw⟩:=Zk (hx.read ha) (hy.read hb)
 refine ⟨double.write e,?_,Fz.write hw h⟩
 show ((double.read x).product (double.read y)).map double.write=_
 rw [he];rfl
theorem Fz.order(hx:Fz x a)(hy:Fz y b)(ha:a.natAbs<2^53)(hb:b.natAbs<2^53):FloatKind.f64.format.order x y=some (compare a b):=
 Yb (hx.read ha) (hy.read hb)
theorem Tm{a b:Int}:(compare a b= .lt)↔a<b:=by
 simp only [compare,compareOfLessAndEq];split<;>simp_all;split<;>simp_all
theorem Yc{a b:Int}:(compare a b= .eq)↔a=b:=by
 simp only [compare,compareOfLessAndEq];split
 ·simp;omega
 ·split<;>simp_all
theorem AAt{a b:Int}:(compare a b= .gt)↔b<a:=by
 simp only [compare,compareOfLessAndEq];split
 ·simp;omega
 ·split
  ·simp;omega
  ·simp;omega
theorem Fz.feq(hx:Fz x a)(hy:Fz y b)(ha:a.natAbs<2^53)(hb:b.natAbs<2^53):feq x y=decide (a=b):=by
 rw [Fth.feq,hx.order hy ha hb,Bool.eq_iff_iff];simp [Yc]
theorem Fz.fne(hx:Fz x a)(hy:Fz y b)(ha:a.natAbs<2^53)(hb:b.natAbs<2^53):fne x y= !decide (a=b):=by
 rw [Fth.fne,hx.order hy ha hb,Bool.eq_iff_iff];simp [Yc]
theorem Fz.flt(hx:Fz x a)(hy:Fz y b)(ha:a.natAbs<2^53)(hb:b.natAbs<2^53):flt_ x y=decide (a<b):=by
 rw [Fth.flt_,hx.order hy ha hb,Bool.eq_iff_iff];simp [Tm]
theorem Fz.fle(hx:Fz x a)(hy:Fz y b)(ha:a.natAbs<2^53)(hb:b.natAbs<2^53):fle x y=decide (a≤b):=by
 rw [Fth.fle,hx.order hy ha hb,Bool.eq_iff_iff];simp [Tm];omega
theorem Fz.fge(hx:Fz x a)(hy:Fz y b)(ha:a.natAbs<2^53)(hb:b.natAbs<2^53):fge x y=decide (b≤a):=by
 rw [Fth.fge,hx.order hy ha hb,Bool.eq_iff_iff];simp [AAt];omega
end
end Fth
namespace Fth
open Go Ieee
theorem To{s:Bool}{m k:Nat}:Toward.zero.cut s (m*2^k) k=m:=by
 rcases Nat.eq_zero_or_pos m with h|h
 ·subst h;simp [Toward.cut]
 ·have hl:=Mw (k:=k) h
  simp only [Toward.cut,Nat.one_shiftLeft,Nat.min_eq_left (show k≤(m*2^k).log2+2 by omega)]
  rw [Nat.mul_div_cancel _ (Nat.pow_pos (by decide))]
  simp
theorem WB{d:Datum}{n:Int}(h:Wd d n):Wd (d.integral .zero) n:=by
 obtain ⟨s,k,rfl,hs⟩:=h
 refine ⟨s,0,?_,hs⟩
 have e:(-(k:Int)).toNat=0:=om
 have e2:(- -(k:Int)).toNat=k:=om
 simp only [Datum.integral,e,e2,Nat.shiftLeft_zero,To]
 simp
theorem WD{d:Datum}{n:Int}(h:Wp d n):Wp (d.integral .zero) n:=by
 obtain ⟨k,rfl⟩:=h
 refine ⟨0,?_⟩
 have e:(-(k:Int)).toNat=0:=om
 have e2:(- -(k:Int)).toNat=k:=om
 simp only [Datum.integral,e,e2,Nat.shiftLeft_zero,To]
 simp
theorem Yd{d:Datum}{n:Int}(h:Wd d n):d.toInt .zero=some n:=by
 have h':=WB h
 obtain ⟨s,k,rfl,hs⟩:=h
 have e:(-(k:Int)).toNat=0:=om
 have e2:(- -(k:Int)).toNat=k:=om
 simp only [Datum.toInt,Datum.integral,e,e2,Nat.shiftLeft_zero,To]
 have:=MY (k:=0) hs 0
 simpa using this
theorem Ye{n:Int}(h1: -16777216≤n)(h2:n≤16777216):n.natAbs<2^53:=om
theorem m24:(13938640846711685120:Nat)=FloatKind.f64.nearest (-16777216):=by decide
theorem p24:(4715268809856909312:Nat)=FloatKind.f64.nearest 16777216:=by decide
theorem z0:(0:Nat)=FloatKind.f64.nearest 0:=by decide
theorem fz0:Fz 0 0:= .inl z0
theorem Zl{n:Int}(h:n.natAbs<2^53):Ig (FloatKind.f64.nearest n)=some (FloatKind.f64.nearest n):=by
 have hr:=MX h
 have hi:=WD hr
 have hw:=Tk h hi
 have:Sa (FloatKind.f64.nearest n)=some (FloatKind.f64.nearest n):=by
  obtain ⟨k,hk⟩:=hr
  unfold Sa
  have e:FloatKind.f64.decode (FloatKind.f64.nearest n)= .number (decide (n<0)) (n.natAbs*2^k) (-(k:Int)):=hk
  rw [e]
  rw [hk] at hw
  exact congrArg some hw
 unfold Ig
 rw [this];rfl
theorem XE{n:Int}(h:n.natAbs<2^53):Gt (FloatKind.f64.nearest n)=some (decide (-16777216≤n∧n≤16777216)):=by
 have hx:Fz (FloatKind.f64.nearest n) n:= .of
 unfold Gt Hj
 rw [m24,p24,hx.fge .of h (by decide),hx.fle .of h (by decide),Zl h]
 simp only [Option.bind_some]
 rw [hx.feq .of h h,hx.fne fz0 h (by decide)]
 cases h1:decide (-16777216≤n)
 ·have:=Db h1
  simp [this]
 ·cases h2:decide (n≤16777216)
  ·have:=Db h2;simp [this]
  ·have h1:=CI h1;have h2:=CI h2
   simp only [decide_true,cond_true,h1,h2,and_self]
   cases h0:decide (n=0)
   ·rfl
   ·have h0:=CI h0;subst h0;decide
theorem XF{a b:Int}(ha:a.natAbs<2^53)(hb:b.natAbs<2^53):By (FloatKind.f64.nearest a,FloatKind.f64.nearest b)=some (decide ((-16777216≤a∧a≤16777216)∧(-16777216≤b∧b≤16777216))):=by
 unfold By KO
 simp only [XE ha,XE hb,Option.bind_some]
 cases h:decide (-16777216≤a∧a≤16777216)
 ·have:=Db h;simp [this]
 ·have:=CI h;simp [this]
def rn(n:Aj):Nat×Nat:=(FloatKind.f64.nearest n.re,FloatKind.f64.nearest n.im)
def HS(n:Aj):Prop:=(-16777216≤n.re∧n.re≤16777216)∧(-16777216≤n.im∧n.im≤16777216)
instance (n:Aj):Decidable (HS n):=inferInstanceAs (Decidable (_∧_))
theorem RE(z:Nat×Nat):Gn z↔∃n,HS n∧z=rn n:=by
 constructor
 ·rintro ⟨a,b,⟨h1,h2,h3⟩,h4,h5,h6⟩
  exact ⟨⟨a,b⟩,⟨⟨h2,h3⟩,h5,h6⟩,by rw [rn,←h1,←h4]⟩
 ·rintro ⟨n,h,rfl⟩
  exact ⟨n.re,n.im,⟨rfl,h.1.1,h.1.2⟩,rfl,h.2.1,h.2.2⟩
theorem Gn.of{n:Aj}(h:HS n):Gn (rn n):=(RE _).2 ⟨n,h,rfl⟩
theorem HS.re{n:Aj}(h:HS n):n.re.natAbs<2^53:=Ye h.1.1 h.1.2
theorem HS.im{n:Aj}(h:HS n):n.im.natAbs<2^53:=Ye h.2.1 h.2.2
theorem KA{n:Aj}(h:HS n):By (rn n)=some true:=by
 rw [rn,XF h.re h.im];congr 1;exact decide_eq_true h
theorem Yf{n:Int}(h1: -16777216≤n)(h2:n≤16777216):Hy (FloatKind.f64.nearest n)=some (n,true):=by
 have h:=Ye h1 h2
 have hx:Fz (FloatKind.f64.nearest n) n:= .of
 have e1:f2i .i64 (FloatKind.f64.nearest n)=some n:=by
  unfold f2i
  have:(FloatKind.f64.decode (FloatKind.f64.nearest n)).toInt .zero=some n:=Yd (hx.read h)
  rw [this]
  simp only [IntKind.min,IntKind.max,IntKind.signed,IntKind.bits]
  rw [if_pos]
  simp only [if_true];omega
 unfold Hy HN
 rw [m24,p24,hx.fge .of h (by decide),hx.fle .of h (by decide),hx.feq fz0 h (by decide),e1]
 simp only [h1,h2,decide_true,cond_true,Option.bind_some,Bool.not_true,cond_false]
 rw [hx.feq .of h h]
 cases h0:decide (n=0)
 ·simp
 ·have h0:=CI h0;subst h0;decide
theorem Ug{n:Aj}(h:HS n):Ed (rn n)=some (n,true):=by
 unfold Ed
 simp only [rn,Yf h.1.1 h.1.2,Yf h.2.1 h.2.2,Option.bind_some]
 rfl
theorem Yg{z:Nat×Nat}(h:Gn z): ∃n,HS n∧z=rn n∧Ed z=some (n,true):=by
 obtain ⟨n,hn,rfl⟩:=(RE z).1 h
 exact ⟨n,hn,rfl,Ug hn⟩
def inn(n:Aj):Aj×Int:=if HS n then (n,0) else (⟨0,0⟩,50)
theorem XG(n:Aj):HX n=some (inn n):=by
 unfold HX Js inn
 cases h1:decide (n.re< -16777216)
 ·cases h2:decide (n.re>16777216)
  ·cases h3:decide (n.im< -16777216)
   ·cases h4:decide (n.im>16777216)
    ·have:=Db h1;have:=Db h2;have:=Db h3;have:=Db h4
     rw [if_pos (show HS n from ⟨⟨om,om⟩,om,om⟩)];rfl
    ·have:=CI h4;rw [if_neg (show¬HS n by unfold HS;omega)];rfl
   ·have:=CI h3;rw [if_neg (show¬HS n by unfold HS;omega)];rfl
  ·have:=CI h2;rw [if_neg (show¬HS n by unfold HS;omega)];rfl
 ·have:=CI h1;rw [if_neg (show¬HS n by unfold HS;omega)];rfl
theorem PA{x y:Nat}{a b:Int}(hx:Fz x a)(hy:Fz y b)(ha:a.natAbs<2^53)(hb:b.natAbs<2^53):Ex (x,y)=some (rn (inn ⟨a,b⟩).1,(inn ⟨a,b⟩).2):=by
 unfold Ex
 simp only [hx.add0 ha,hy.add0 hb,Option.bind_some,XF ha hb]
 unfold inn
 cases h:decide ((-16777216≤a∧a≤16777216)∧(-16777216≤b∧b≤16777216))
 ·have h:=Db h
  rw [if_neg (show¬HS ⟨a,b⟩ from h)]
  simp only [Bool.not_false,cond_true]
  congr 1
 ·have h:=CI h
  rw [if_pos (show HS ⟨a,b⟩ from h)]
  rfl
theorem Fz.re{a:Aj}(_h:HS a):Fz (rn a).1 a.re:= .inl rfl
theorem Fz.im{a:Aj}(_h:HS a):Fz (rn a).2 a.im:= .inl rfl
section
variable{a b:Aj}(ha:HS a)(hb:HS b)
include ha hb
theorem AAu:Jc (rn a) (rn b)=some (rn (inn ⟨a.re+b.re,a.im+b.im⟩).1,(inn ⟨a.re+b.re,a.im+b.im⟩).2):=by
 obtain ⟨⟨h1,h2⟩,h3,h4⟩:=ha
 obtain ⟨⟨h5,h6⟩,h7,h8⟩:=hb
 have ha:HS a:=⟨⟨h1,h2⟩,h3,h4⟩
 have hb:HS b:=⟨⟨h5,h6⟩,h7,h8⟩
 obtain ⟨z,hz,hz'⟩:=(Fz.re ha).add (Fz.re hb) ha.re hb.re om
 obtain ⟨y,hy,hy'⟩:=(Fz.im ha).add (Fz.im hb) ha.im hb.im om
 unfold Jc LR
 simp only [KA ha,KA hb,Option.bind_some,Bool.not_true,cond_false,cadd,hz,hy,PA hz' hy' om om]
theorem AAv:Jd (rn a) (rn b)=some (rn (inn ⟨a.re - b.re,a.im - b.im⟩).1,(inn ⟨a.re - b.re,a.im - b.im⟩).2):=by
 obtain ⟨⟨h1,h2⟩,h3,h4⟩:=ha
 obtain ⟨⟨h5,h6⟩,h7,h8⟩:=hb
 have ha:HS a:=⟨⟨h1,h2⟩,h3,h4⟩
 have hb:HS b:=⟨⟨h5,h6⟩,h7,h8⟩
 obtain ⟨z,hz,hz'⟩:=(Fz.re ha).sub (Fz.re hb) ha.re hb.re om
 obtain ⟨y,hy,hy'⟩:=(Fz.im ha).sub (Fz.im hb) ha.im hb.im om
 unfold Jd LT
 simp only [KA ha,KA hb,Option.bind_some,Bool.not_true,cond_false,csub,hz,hy,PA hz' hy' om om]
end
theorem Lp{x y:Int}{A B:Nat}(hx:x.natAbs≤A)(hy:y.natAbs≤B):(x*y).natAbs≤A*B:=by
 rw [Int.natAbs_mul];exact Nat.mul_le_mul hx hy
theorem HS.reA{n:Aj}(h:HS n):n.re.natAbs≤16777216:=by have:=h.1;omega
theorem HS.imA{n:Aj}(h:HS n):n.im.natAbs≤16777216:=by have:=h.2;omega
theorem VQ{x1 x2 y1 y2:Nat}{a1 a2 b1 b2:Int}(h1:Fz x1 a1)(h2:Fz x2 a2)(h3:Fz y1 b1)(h4:Fz y2 b2)(l1:a1.natAbs≤16777216)(l2:a2.natAbs≤16777216)(l3:b1.natAbs≤16777216)(l4:b2.natAbs≤16777216):
  ∃z1 z2,cmul (x1,x2) (y1,y2)=some (z1,z2)∧Fz z1 (a1*b1 - a2*b2)∧Fz z2 (a1*b2+a2*b1)∧(a1*b1 - a2*b2).natAbs≤562949953421312∧(a1*b2+a2*b1).natAbs≤562949953421312:=by
 have m1:=Lp l1 l3
 have m2:=Lp l2 l4
 have m3:=Lp l1 l4
 have m4:=Lp l2 l3
 obtain ⟨p,hp,hp'⟩:=h1.mul h3 om om om
 obtain ⟨q,hq,hq'⟩:=h2.mul h4 om om om
 obtain ⟨r,hr,hr'⟩:=hp'.sub hq' om om om
 obtain ⟨s,hs,hs'⟩:=h1.mul h4 om om om
 obtain ⟨t,ht,ht'⟩:=h2.mul h3 om om om
 obtain ⟨u,hu,hu'⟩:=hs'.add ht' om om om
 refine ⟨r,u,?_,hr',hu',om,om⟩
 simp only [cmul,hp,hq,hr,hs,ht,hu,Option.bind_some]
section
variable{a b:Aj}(ha:HS a)(hb:HS b)
include ha hb
theorem AAw:Je (rn a) (rn b)=some (rn (inn ⟨a.re*b.re - a.im*b.im,a.re*b.im+a.im*b.re⟩).1,(inn ⟨a.re*b.re - a.im*b.im,a.re*b.im+a.im*b.re⟩).2):=by
 obtain ⟨z1,z2,hz,h1,h2,l1,l2⟩:=VQ (Fz.re ha) (Fz.im ha) (Fz.re hb) (Fz.im hb) ha.reA ha.imA hb.reA hb.imA
 unfold Je LU
 have e:cmul (rn a) (rn b)=some (z1,z2):=hz
 simp only [KA ha,KA hb,Option.bind_some,Bool.not_true,cond_false,e,PA h1 h2 om om]
theorem Zm:Ik (rn a) (rn b)=some ((decide (a.re<b.re)||(decide (a.re=b.re)&&decide (a.im<b.im))),0):=by
 unfold Ik Ky
 simp only [KA ha,KA hb,Option.bind_some,Bool.not_true,cond_false]
 rw [(Fz.re ha).fne (Fz.re hb) ha.re hb.re,(Fz.re ha).flt (Fz.re hb) ha.re hb.re,(Fz.im ha).flt (Fz.im hb) ha.im hb.im]
 cases h:decide (a.re=b.re)
 ·simp
 ·have h:=CI h
  simp [h]
theorem Yh:ceq (rn a) (rn b)=(decide (a.re=b.re)&&decide (a.im=b.im)):=by
 rw [ceq,(Fz.re ha).feq (Fz.re hb) ha.re hb.re,(Fz.im ha).feq (Fz.im hb) ha.im hb.im]
end
theorem VR{x:Nat}{a:Int}(h:Fz x a)(ha:a.natAbs<2^53):Fz (Op.negFloat .f64 x) (-a):=by
 have e: ∀y:Nat,Op.negFloat .f64 y=y ^^^ 9223372036854775808:=fun y=>rfl
 rw [e]
 rcases Decidable.em (a=0) with h0|h0
 ·subst h0
  rcases h with rfl| ⟨_,rfl⟩
  ·exact .inr ⟨rfl,by decide⟩
  ·exact .inl (by decide)
 ·have h':=h.eq h0
  subst h'
  left
  rw [Kf h0 ha,Kf (n:= -a) om om,Int.natAbs_neg]
  have hb:=MW (m:=a.natAbs) om ha
  have hl:=LE (m:=a.natAbs) om ha
  simp only [fw,Format.word]
  have hs:double.signWeight=2^63:=by decide
  rw [hs]
  generalize a.natAbs.log2=L at*
  generalize a.natAbs*2^(52 - L)=q at*
  have hr:(L+1022)*2^52+q<2^63:=om
  obtain ⟨r,hrr⟩: ∃r,(L+1022)*2^52+q=r:=⟨_,rfl⟩
  simp only [hrr] at hr ⊢
  have x1:r ^^^ 9223372036854775808=2^63+r:=by
   have h1:=Nat.two_pow_add_eq_or_of_lt hr 1
   rw [Nat.mul_one] at h1
   rw [h1,show (9223372036854775808:Nat)=2^63 by decide]
   refine Nat.eq_of_testBit_eq fun i=>?_
   rw [Nat.testBit_xor,Nat.testBit_or,Nat.testBit_two_pow]
   by_cases hi:63=i
   ·subst hi;simp [Nat.testBit_lt_two_pow hr]
   ·simp [hi]
  have x2:(2^63+r) ^^^ 9223372036854775808=r:=by
   rw [←x1,Nat.xor_assoc,Nat.xor_self,Nat.xor_zero]
  rcases Int.lt_or_le a 0 with hn|hn
  ·have h2: ¬(-a<0):=om
   simp only [hn,h2,decide_true,decide_false,if_true,Bool.false_eq_true,if_false]
   exact x2
  ·have h1: ¬(a<0):=om
   have h2: -a<0:=om
   simp only [h1,h2,decide_true,decide_false,if_true,Bool.false_eq_true,if_false]
   exact x1
theorem Zn{a:Aj}(ha:HS a):H3 (rn a)=some (rn ⟨a.re,-a.im⟩,0):=by
 unfold H3
 have hn:HS ⟨a.re,-a.im⟩:=by obtain ⟨⟨h1,h2⟩,h3,h4⟩:=ha;exact ⟨⟨h1,h2⟩,by simp only;omega,by simp only;omega⟩
 have:=PA (Fz.re ha) (VR (Fz.im ha) ha.im) ha.re (by have:=ha.im;omega)
 simp only [KA ha,Option.bind_some,Bool.not_true,cond_false,this,inn,if_pos hn]
end Fth
namespace Fth
open Go Ieee
theorem wu{x:Int}(h1:0≤x)(h2:x<18446744073709551616):IntKind.u64.wrap x=x:=by
 simp only [IntKind.wrap,IntKind.signed,IntKind.bits]
 simp
 omega
theorem PB{x:Nat}(h:x<2^64):(BitVec.ofInt 64 (x:Int)).toNat=x:=by
 rw [BitVec.toNat_ofInt];omega
theorem Zo{x y:Nat}(hx:x<2^64)(hy:y<2^64):Ej .u64 (x:Int) (y:Int)=((x&&& y:Nat):Int):=by
 have hb:(x&&& y)<2^64:=Nat.lt_of_le_of_lt Nat.and_le_left hx
 have e:(BitVec.ofInt IntKind.u64.bits (x:Int)&&& BitVec.ofInt IntKind.u64.bits (y:Int)).toNat=x&&& y:=by
  show (BitVec.ofInt 64 (x:Int)&&& BitVec.ofInt 64 (y:Int)).toNat=_
  rw [BitVec.toNat_and,PB hx,PB hy]
 rw [Ej,e,wu om om]
theorem Yi{x y:Nat}(hx:x<2^64)(hy:y<2^64):Lr .u64 (x:Int) (y:Int)=((x|||y:Nat):Int):=by
 have hb:(x|||y)<2^64:=Nat.or_lt_two_pow hx hy
 have e:(BitVec.ofInt IntKind.u64.bits (x:Int)|||BitVec.ofInt IntKind.u64.bits (y:Int)).toNat=x|||y:=by
  show (BitVec.ofInt 64 (x:Int)|||BitVec.ofInt 64 (y:Int)).toNat=_
  rw [BitVec.toNat_or,PB hx,PB hy]
 rw [Lr,e,wu om om]
theorem P0{x y:Nat}(hx:x<2^64)(hy:y<2^64):Cr .u64 (x:Int) (y:Int)=((x&&& (2^64 - 1 - y):Nat):Int):=by
 have hb:(x&&& (2^64 - 1 - y))<2^64:=Nat.lt_of_le_of_lt Nat.and_le_left hx
 have e:(BitVec.ofInt IntKind.u64.bits (x:Int)&&& ~~~ BitVec.ofInt IntKind.u64.bits (y:Int)).toNat=x&&& (2^64 - 1 - y):=by
  show (BitVec.ofInt 64 (x:Int)&&& ~~~ BitVec.ofInt 64 (y:Int)).toNat=_
  rw [BitVec.toNat_and,BitVec.toNat_not,PB hx,PB hy]
 rw [Cr,e,wu om om]
theorem Zp{x n:Nat}(h:x<2^n):x&&& 2^n=0:=by
 refine Nat.eq_of_testBit_eq fun i=>?_
 rw [Nat.testBit_and,Nat.testBit_two_pow,Nat.zero_testBit]
 by_cases hi:n=i
 ·subst hi;simp [Nat.testBit_lt_two_pow h]
 ·simp [hi]
theorem XH{x:Nat}(h:x<2^63):IB x=some x:=by
 unfold IB
 have:=P0 (x:=x) (y:=9223372036854775808) om om
 rw [show ((9223372036854775808:Nat):Int)=9223372036854775808 from rfl] at this
 rw [this]
 have e:(2^64 - 1 - 9223372036854775808:Nat)=2^63 - 1:=by decide
 rw [e,Nat.and_two_pow_sub_one_eq_mod,Nat.mod_eq_of_lt h];rfl
theorem Zq{r:Nat}(h:r<2^63):IB (2^63+r)=some r:=by
 unfold IB
 have:=P0 (x:=2^63+r) (y:=9223372036854775808) om om
 rw [show ((9223372036854775808:Nat):Int)=9223372036854775808 from rfl] at this
 rw [this]
 have e:(2^64 - 1 - 9223372036854775808:Nat)=2^63 - 1:=by decide
 rw [e,Nat.and_two_pow_sub_one_eq_mod,Nat.add_mod_left,Nat.mod_eq_of_lt h];rfl
theorem XI{m:Nat}(h0:0<m)(h:m<2^53):fw false m<2^63∧fw false m / 2^52=m.log2+1023∧fw false m % 2^52=m*2^(52 - m.log2) - 2^52∧fw true m=2^63+fw false m:=by
 have hb:=MW h0 h
 have hl:=LE h0 h
 have hs:double.signWeight=2^63:=by decide
 simp only [fw,Format.word,hs,if_true,Bool.false_eq_true,if_false]
 generalize m*2^(52 - m.log2)=q at*
 refine ⟨?_,?_,?_,trivial⟩<;>omega
theorem Yj{x:Nat}{a:Int}(h:Fz x a)(ha:a.natAbs<2^53):IB x=some (FloatKind.f64.nearest a.natAbs):=by
 rcases Decidable.em (a=0) with h0|h0
 ·subst h0
  rcases h with rfl| ⟨_,rfl⟩<;>decide
 ·rw [h.eq h0,Kf h0 ha,Kf (n:=(a.natAbs:Int)) om om]
  have hb:=XI (m:=a.natAbs) om ha
  have e:((a.natAbs:Int)).natAbs=a.natAbs:=rfl
  have e2:decide ((a.natAbs:Int)<0)=false:=by simp
  rw [e,e2]
  cases h1:decide (a<0)
  ·exact XH hb.1
  ·rw [hb.2.2.2];exact Zq hb.1
theorem Xm{x:Nat}{a:Int}(h:Fz x a)(ha:a.natAbs<2^53):fgt x 9218868437227405311=false:=by
 obtain ⟨s,k,hk,hs⟩:=h.read ha
 have hm:double.read 9218868437227405311= .number false 9007199254740991 971:=by decide
 have:FloatKind.f64.format.order x 9218868437227405311=some (compare (signed s (a.natAbs*2^k) 0) (signed false 9007199254740991 (971+k))):=by
  show (double.read x).order (double.read 9218868437227405311)=_
  rw [hk,hm]
  simp only [Datum.order]
  have e1:min (-(k:Int)) 971= -(k:Int):=om
  rw [e1]
  have e2:(-(k:Int) - -(k:Int)).toNat=0:=om
  have e3:((971:Int) - -(k:Int)).toNat=971+k:=om
  rw [e2,e3]
 rw [fgt,this,MY hs]
 have h1:signed false 9007199254740991 (971+k)=9007199254740991*(2^971*2^k):=by
  simp only [signed,Bool.false_eq_true,if_false,Nat.shiftLeft_eq]
  rw [Int.natCast_mul,Int.natCast_pow,Int.pow_add];rfl
 rw [h1]
 have h2:a*2^(k+0)<9007199254740991*(2^971*2^k):=by
  rw [Nat.add_zero,←Int.mul_assoc]
  have hp:(0:Int)<2^k:=Int.pow_pos (by decide)
  refine Int.mul_lt_mul_of_pos_right ?_ hp
  have hp2:(4:Int)≤2^971:=by
   have:(2:Int)^2≤2^971:=by exact_mod_cast Nat.pow_le_pow_right (by decide:0<2) (by omega:2≤971)
   simpa using this
  generalize (2:Int)^971=q at*
  omega
 have h3:=Tm.2 h2
 rw [h3];rfl
theorem Wv{x:Nat}{a:Int}(h:Fz x a)(ha:a.natAbs<2^53):HD x 0=some false:=by
 unfold HD KD
 simp only [Yj h ha,Option.bind_some]
 rw [Xm (a:=(a.natAbs:Int)) .of om];rfl
theorem VS{x:Nat}{a:Int}(h:Fz x a)(ha:a.natAbs<2^53):Ga x=some false:=by
 unfold Ga
 rw [h.fne h ha ha];simp
theorem Yk{m:Nat}(h0:0<m)(h:m<2^53):flt_ (fw false m) 4503599627370496=false:=by
 have hl:=LE h0 h
 have hb:=MW h0 h
 have hm:double.read 4503599627370496= .number false 4503599627370496 (-1074):=by decide
 have:FloatKind.f64.format.order (fw false m) 4503599627370496=some (compare (signed false (m*2^(52 - m.log2)) (1074 - (52 - m.log2))) (signed false 4503599627370496 0)):=by
  show (double.read (fw false m)).order (double.read 4503599627370496)=_
  rw [XC h0 h,hm]
  simp only [Datum.order]
  have e1:min (-((52 - m.log2:Nat):Int)) (-1074)= -1074:=om
  rw [e1]
  have e2:(-((52 - m.log2:Nat):Int) - -1074).toNat=1074 - (52 - m.log2):=om
  have e3:((-1074:Int) - -1074).toNat=0:=om
  rw [e2,e3]
 rw [flt_,this]
 simp only [signed,Bool.false_eq_true,if_false,Nat.shiftLeft_eq,Nat.pow_zero,Nat.mul_one]
 generalize m*2^(52 - m.log2)=q at*
 have hp:1≤2^(1074 - (52 - m.log2)):=Nat.pow_pos (by decide)
 generalize 2^(1074 - (52 - m.log2))=p at*
 have:q*1≤q*p:=Nat.mul_le_mul_left _ hp
 cases hc:compare ((q*p:Nat):Int) ((4503599627370496:Nat):Int)
 ·have:=Tm.1 hc;omega
 ·rfl
 ·rfl
theorem QO{m:Nat}(h0:0<m)(h:m<2^53):EQ (fw false m)=some (fw false m,0):=by
 unfold EQ
 rw [XH (XI h0 h).1,Option.bind_some,Yk h0 h,cond_false]
theorem NE{m:Nat}(h0:0<m)(h:m<2^53):FloatKind.f64.nearest (m:Int)=fw false m:=by
 have e:decide ((m:Int)<0)=false:=decide_eq_false om
 have:=Kf (n:=(m:Int)) om om
 rw [e] at this
 exact this
theorem QP{m:Nat}(h0:0<m)(h:m<2^53):Fz (fw false m) m:= .inl (NE h0 h).symm
theorem AAH{f e:Nat}(hf:f<2^52):f|||e*2^52=e*2^52+f:=by
 have h:=Nat.two_pow_add_eq_or_of_lt hf e
 rw [Nat.mul_comm e,h,Nat.or_comm]
theorem XJ{x:Nat}(h:x<2^63):Cr .u64 ((x:Nat):Int) 9218868437227405312=((x % 2^52:Nat):Int):=by
 have:=P0 (x:=x) (y:=9218868437227405312) om om
 rw [show ((9218868437227405312:Nat):Int)=9218868437227405312 from rfl] at this
 rw [this]
 have e:(2^64 - 1 - 9218868437227405312:Nat)=2^63||| (2^52 - 1):=by decide
 rw [e,Nat.and_or_distrib_left,Zp h,Nat.zero_or,Nat.and_two_pow_sub_one_eq_mod]
theorem AAI(x:Nat):shr .u64 ((x:Nat):Int) 52=((x / 2^52:Nat):Int):=by
 have e:min (52:Int).toNat IntKind.u64.bits=52:=by decide
 rw [shr,e,Int.fdiv_eq_ediv_of_nonneg _ (by decide)];rfl
theorem ABh{x:Nat}(h:x<2^63):Ej .u64 (shr .u64 ((x:Nat):Int) 52) 2047=((x / 2^52:Nat):Int):=by
 rw [AAI]
 have:=Zo (x:=x / 2^52) (y:=2047) om om
 rw [show ((2047:Nat):Int)=2047 from rfl] at this
 rw [this]
 have e:(2047:Nat)=2^11 - 1:=by decide
 rw [e,Nat.and_two_pow_sub_one_eq_mod,Nat.mod_eq_of_lt om]
theorem AAx{m:Nat}(h0:0<m)(h:m<2^53):feq (fw false m) 0=false:=by
 rw [(QP h0 h).feq fz0 om (by decide)];simp;omega
theorem WF{m:Nat}(h0:0<m)(h:m<2^53):H4 (fw false m)=some (1021*2^52+m*2^(52 - m.log2),(m.log2:Int)+1):=by
 have hl:=LE h0 h
 have hb:=MW h0 h
 have hf:=XI h0 h
 have hz:=QP h0 h
 unfold H4 JE Kt
 rw [AAx h0 h,Wv hz om,VS hz om,QO h0 h]
 have nn52:nn 52=some ():=rfl
 simp only [cond_false,Option.bind_some,nn52,XJ hf.1,ABh hf.1,hf.2.1]
 have hr:=Yi (x:=fw false m % 2^52) (y:=4602678819172646912) om om
 rw [show ((4602678819172646912:Nat):Int)=4602678819172646912 from rfl] at hr
 rw [hr,show (4602678819172646912:Nat)=1022*2^52 by decide,AAH om,hf.2.2.1]
 generalize m*2^(52 - m.log2)=q at*
 refine congrArg some (Prod.ext ?_ ?_)
 ·simp only [Int.toNat_natCast];omega
 ·dsimp only
  rw [wr (x:=((m.log2+1023:Nat):Int)) om om,wr (x:=((m.log2+1023:Nat):Int) - 1023) om om,wr (x:=((m.log2+1023:Nat):Int) - 1023+1) om om,wr om om];omega
theorem Zr{x:Nat}(h:x<2^11):Ej .i64 (x:Int) 2047=(x:Int):=by
 have e:(BitVec.ofInt IntKind.i64.bits (x:Int)&&& BitVec.ofInt IntKind.i64.bits (2047:Int)).toNat=x:=by
  show (BitVec.ofInt 64 (x:Int)&&& BitVec.ofInt 64 ((2047:Nat):Int)).toNat=_
  rw [BitVec.toNat_and,PB om,PB om,show (2047:Nat)=2^11 - 1 by decide,Nat.and_two_pow_sub_one_eq_mod,Nat.mod_eq_of_lt h]
 rw [Ej,e,wr om om]
theorem ABT{x:Nat}(h:x<2^11):shl .u64 (x:Int) 52=((x*2^52:Nat):Int):=by
 have e:min (52:Int).toNat IntKind.u64.bits=52:=by decide
 rw [shl,e,wu om om];omega
theorem Ww{m k:Nat}(h0:0<m)(hb:2^52≤m*2^(52 - m.log2))(hl2:m.log2+k≤52):(m.log2+k+1023)*2^52+(m*2^(52 - m.log2) - 2^52)=fw false (m*2^k):=by
 have e7:m*2^k*2^(52 - (m.log2+k))=m*2^(52 - m.log2):=by
  rw [Nat.mul_assoc,←Nat.pow_add];congr 2;omega
 simp only [fw,Format.word,Mw h0,e7,Bool.false_eq_true,if_false]
 generalize m*2^(52 - m.log2)=q at*
 omega
theorem Yl{m k:Nat}(h0:0<m)(h:m*2^k<2^53):Ij (fw false m) (k:Int)=some (fw false (m*2^k)):=by
 have hm:m<2^53:=Nat.lt_of_le_of_lt (Nat.le_mul_of_pos_right m (Nat.pow_pos (by decide))) h
 have h1:0<m*2^k:=Nat.mul_pos h0 (Nat.pow_pos (by decide))
 have hl:=LE h0 hm
 have hl2:=LE h1 h
 rw [Mw h0] at hl2
 have e3:IntKind.i64.wrap (IntKind.i64.wrap ((k:Int)+0)+IntKind.i64.wrap (((m.log2+1023:Nat):Int) - 1023))=(m.log2+k:Nat):=by
  rw [wr (x:=(k:Int)+0) om om,wr (x:=((m.log2+1023:Nat):Int) - 1023) om om,wr om om];omega
 have hL:m.log2+1023<2^11:=om
 have hL2:m.log2+k+1023<2^11:=om
 have e6a:0≤((m.log2+k+1023:Nat):Int):=om
 have e6b:((m.log2+k+1023:Nat):Int)<18446744073709551616:=om
 have e7:fw false m % 2^52<2^64:=Nat.lt_trans (Nat.mod_lt _ (Nat.pow_pos (by decide))) (by decide)
 have e8:(m.log2+k+1023)*2^52<2^64:=Nat.lt_of_lt_of_le (Nat.mul_lt_mul_of_pos_right hL2 (Nat.pow_pos (by decide))) (by decide)
 have d1:decide (((m.log2+k:Nat):Int)< -1075)=false:=by simp;omega
 have d2:decide (((m.log2+k:Nat):Int)>1023)=false:=by simp;omega
 have d3:decide (((m.log2+k:Nat):Int)< -1022)=false:=by simp;omega
 have e4:IntKind.i64.wrap (((m.log2+k:Nat):Int)+1023)=((m.log2+k+1023:Nat):Int):=by rw [wr om om];omega
 have hb:=MW h0 hm
 have hf:=XI h0 hm
 have hz:=QP h0 hm
 have nn52:nn 52=some ():=rfl
 unfold Ij JF
 rw [AAx h0 hm,cond_false,Wv hz om,Option.bind_some,cond_false,VS hz om,Option.bind_some]
 unfold Kw
 rw [cond_false,QO h0 hm,Option.bind_some,nn52,Option.bind_some]
 have e1:IntKind.i64.wrap (shr .u64 ((fw false m:Nat):Int) 52)=((fw false m / 2^52:Nat):Int):=by
  rw [AAI,hf.2.1,wr om om]
 have e2:Ej .i64 ((fw false m / 2^52:Nat):Int) 2047=((m.log2+1023:Nat):Int):=by rw [hf.2.1];exact Zr hL
 dsimp only
 rw [e1,e2,e3]
 rw [d1,cond_false,d2,cond_false,d3,cond_false]
 unfold Kv
 rw [nn52,Option.bind_some]
 dsimp only
 have e5:=ABT hL2
 rw [e4,wu e6a e6b,e5,XJ hf.1,Yi e7 e8,AAH (Nat.mod_lt _ (Nat.pow_pos (by decide))),hf.2.2.1,Int.toNat_natCast]
 have e6:=Ww h0 hb.1 hl2
 rw [e6]
 have one:Fz 4607182418800017408 1:= .inl (by decide)
 obtain ⟨z,hz1,hz2⟩:=one.mul (QP h1 h) (by decide) om om
 rw [Int.one_mul] at hz2
 rw [hz1,hz2.eq om,NE h1 h];rfl
theorem Zs{p q:Nat}(hp:2^52≤p)(hp':p<2^53)(hq:2^52≤q)(hq':q<2^53):flt_ (1021*2^52+p) (1021*2^52+q)=decide (p<q):=by
 have rd: ∀p,2^52≤p→p<2^53→double.read (1021*2^52+p)= .number false p (-53):=by
  intro p h1 h2
  have e0:double.signWeight=2^63:=by decide
  have e4:double.binade=2^52:=rfl
  have e5:double.infRung=2047*2^52:=by decide
  have e6:double.leastPlace= -1074:=by decide
  have hr:(1021*2^52+p) % 2^63=1021*2^52+p:=om
  have hn:((1021*2^52+p) / 2^63 % 2==1)=false:=by simp;omega
  simp only [Format.read,e0,hr,hn,e4,e5,e6]
  rw [if_neg om,if_pos om]
  congr 1
  ·omega
  ·omega
 have:FloatKind.f64.format.order (1021*2^52+p) (1021*2^52+q)=some (compare (p:Int) (q:Int)):=by
  show (double.read _).order (double.read _)=_
  rw [rd p hp hp',rd q hq hq']
  simp [Datum.order,signed]
 rw [flt_,this,Bool.eq_iff_iff]
 simp [Tm]
theorem Ym{n r j:Nat}{R:Nat→Option Nat}{B:Nat→Nat}(h0:0<n)(hj:n*2^j≤r)(hr:r<2^53){e1:Nat×Int}
  (ih: ∀w,Fz w ((r - n*2^j:Nat):Int)→∃z,R w=some (B z)∧Fz z (((r - n*2^j) % n:Nat):Int)) (hj53:j<53) (he:e1.2=(n.log2:Int)+1) (_hn:n.log2≤52):
  ∃z,KR (fw false n) e1 (fw false r) R ((n.log2:Int)+1+j)=some (B z)∧Fz z ((r % n:Nat):Int):=by
 have hpj:0<n*2^j:=Nat.mul_pos h0 (Nat.pow_pos (by decide))
 have hnj:n*2^j<2^53:=Nat.lt_of_le_of_lt hj hr
 have hr0:0<r:=Nat.lt_of_lt_of_le hpj hj
 have e:IntKind.i64.wrap ((n.log2:Int)+1+j - e1.2)=(j:Int):=by rw [he,wr om om];omega
 have e2:((r:Int) - ((n*2^j:Nat):Int))=((r - n*2^j:Nat):Int):=om
 have k1:(r:Int).natAbs<2^53:=hr
 have k2:((n*2^j:Nat):Int).natAbs<2^53:=hnj
 have k3:((r:Int) - ((n*2^j:Nat):Int)).natAbs<2^53:=by rw [e2];exact Nat.lt_of_le_of_lt (Nat.sub_le _ _) hr
 have hm:(r - n*2^j) % n=r % n:=by
  conv=>rhs;rw [←Nat.sub_add_cancel hj]
  rw [Nat.add_mul_mod_self_left]
 unfold KR
 rw [e,Yl h0 hnj,Option.bind_some]
 obtain ⟨z,hz1,hz2⟩:=(QP hr0 hr).sub (QP hpj hnj) k1 k2 k3
 rw [hz1,Option.bind_some]
 rw [e2] at hz2
 obtain ⟨z',h1,h2⟩:=ih z hz2
 rw [hm] at h2
 exact ⟨z',h1,h2⟩
theorem Wx{n r:Nat}(hn:n.log2≤52)(hr:r.log2≤52)(hle:n.log2≤r.log2)(hq:n*2^(52 - n.log2)≤r*2^(52 - r.log2)):n*2^(r.log2 - n.log2)≤r:=by
 have h1:n*2^(r.log2 - n.log2)*2^(52 - r.log2)=n*2^(52 - n.log2):=by
  rw [Nat.mul_assoc,←Nat.pow_add];congr 2;omega
 have h2:n*2^(r.log2 - n.log2)*2^(52 - r.log2)≤r*2^(52 - r.log2):=by rw [h1];exact hq
 exact Nat.le_of_mul_le_mul_right h2 (Nat.pow_pos (by decide))
theorem Wy{n r:Nat}(hr0:0<r)(hlt:n.log2<r.log2):n*2^(r.log2 - n.log2 - 1)≤r:=by
 have h1:n*2^(r.log2 - n.log2 - 1)<2^(n.log2+1)*2^(r.log2 - n.log2 - 1):=Nat.mul_lt_mul_of_pos_right Nat.lt_log2_self (Nat.pow_pos (by decide))
 rw [←Nat.pow_add,show n.log2+1+(r.log2 - n.log2 - 1)=r.log2 by omega] at h1
 exact Nat.le_trans (Nat.le_of_lt h1) (Nat.log2_self_le om)
theorem Xn{n r:Nat}(h0:0<n)(h:n≤r):n.log2≤r.log2:=by
 have h1:=Nat.log2_self_le (n:=n) om
 have h2:=Nat.lt_log2_self (n:=r)
 have h3:2^n.log2<2^(r.log2+1):=om
 have:=(Nat.pow_lt_pow_iff_right (by decide:1<2)).1 h3
 omega
theorem WG{x n:Nat}(h0:0<n)(hlt:n<2^53): ∀(k w r:Nat),Fz w (r:Int)→r<2^53→r<k→
  ∃z,Jt x (fw false n) (1021*2^52+n*2^(52 - n.log2),(n.log2:Int)+1) k w=some (bif flt_ x 0 then Op.negFloat .f64 z else z)∧Fz z ((r % n:Nat):Int):=by
 intro k
 have bn:=MW h0 hlt
 have ln:=LE h0 hlt
 have lnI:(n:Int).natAbs<2^53:=hlt
 obtain ⟨c,hc0⟩: ∃c:Nat×Int,c=(1021*2^52+n*2^(52 - n.log2),(n.log2:Int)+1):=⟨_,rfl⟩
 rw [←hc0]
 have c1:c.1=1021*2^52+n*2^(52 - n.log2):=by rw [hc0]
 have c2:c.2=(n.log2:Int)+1:=by rw [hc0]
 clear hc0
 induction k with
 |zero=>intro w r _ _ h;exact absurd h (Nat.not_lt_zero _)
 |succ k ih=>
  intro w r hw hr hk
  have lrI:(r:Int).natAbs<2^53:=hr
  show∃z,LX x (fw false n) c (Jt x (fw false n) c k) w=some _∧_
  unfold LX
  rw [hw.fge (QP h0 hlt) lrI lnI]
  cases hc:decide ((n:Int)≤(r:Int))
  ·have hc:=Db hc
   refine ⟨w,?_,by rw [Nat.mod_eq_of_lt om];exact hw⟩
   rw [cond_false]
   cases flt_ x 0<;>rfl
  ·have hc:n≤r:=by have:=CI hc;omega
   have hr0:0<r:=Nat.lt_of_lt_of_le h0 hc
   have hwr:w=fw false r:=by rw [hw.eq om,NE hr0 hr]
   subst hwr
   have br:=MW hr0 hr
   have lr:=LE hr0 hr
   have hLe:=Xn h0 hc
   rw [cond_true,WF hr0 hr,Option.bind_some]
   dsimp only
   rw [c1,Zs br.1 br.2 bn.1 bn.2]
   have step: ∀j:Nat,n*2^j≤r→j<53→∃z,KR (fw false n) c (fw false r) (Jt x (fw false n) c k) ((n.log2:Int)+1+j)=some (bif flt_ x 0 then Op.negFloat .f64 z else z)∧Fz z ((r % n:Nat):Int):=by
    intro j hj hj53
    have hpj:0<n*2^j:=Nat.mul_pos h0 (Nat.pow_pos (by decide))
    exact Ym h0 hj hr (fun w hw=>ih w _ hw (Nat.lt_of_le_of_lt (Nat.sub_le _ _) hr) om) hj53 c2 ln
   cases hq:decide (r*2^(52 - r.log2)<n*2^(52 - n.log2))
   ·have hq:=Db hq
    obtain ⟨z,h1,h2⟩:=step _ (Wx ln lr hLe (Nat.le_of_not_lt hq)) om
    refine ⟨z,?_,h2⟩
    have e:(r.log2:Int)+1=(n.log2:Int)+1+((r.log2 - n.log2:Nat):Int):=om
    rw [cond_false,e]
    exact h1
   ·have hq:=CI hq
    have hLt:n.log2<r.log2:=by
     rcases Nat.lt_or_ge n.log2 r.log2 with h|h
     ·exact h
     ·have e:n.log2=r.log2:=Nat.le_antisymm hLe h
      rw [e] at hq
      exact absurd (Nat.lt_of_mul_lt_mul_right hq) (Nat.not_lt.2 hc)
    obtain ⟨z,h1,h2⟩:=step _ (Wy hr0 hLt) om
    refine ⟨z,?_,h2⟩
    have e:IntKind.i64.wrap ((r.log2:Int)+1 - 1)=(n.log2:Int)+1+((r.log2 - n.log2 - 1:Nat):Int):=by rw [wr om om];omega
    rw [cond_true,e]
    exact h1
theorem Yn{N x y:Nat}{a n:Int}(hN:2^54≤N)(hx:Fz x a)(hy:Fz y n)(ha:a.natAbs<2^53)(hn0:0<n)(hn:n<2^53): ∃z,J3 N x y=some z∧Fz z (a.tmod n):=by
 obtain ⟨n,rfl⟩: ∃m:Nat,n=m:=⟨n.toNat,om⟩
 have h0:0<n:=om
 have hlt:n<2^53:=om
 have lnI:(n:Int).natAbs<2^53:=hlt
 have h254: ∀q:Nat,q<2^53→q<N:=fun q h=>om
 clear hN hn hn0
 have ey:=NE h0 hlt
 have hyy:y=fw false n:=by rw [hy.eq om,ey]
 subst hyy
 have eabs:=Yj (QP h0 hlt) lnI
 rw [show ((n:Int).natAbs:Int)=(n:Int) from rfl,ey] at eabs
 have nz0:(0:Int).natAbs<2^53:=by decide
 unfold J3 Kx
 rw [AAx h0 hlt,cond_false,Wv hx ha,Option.bind_some,cond_false,VS hx ha,Option.bind_some,cond_false,VS (QP h0 hlt) lnI,Option.bind_some]
 unfold KS
 rw [cond_false,eabs,Option.bind_some,WF h0 hlt,Option.bind_some,hx.flt fz0 ha nz0]
 cases hs:decide (a<0)
 ·have hs':=Db hs
  have ea:((a.toNat:Nat):Int)=a:=om
  have hxa:Fz x ((a.toNat:Nat):Int):=by rw [ea];exact hx
  have la:a.toNat<2^53:=om
  obtain ⟨z,h1,h2⟩:=WG (x:=x) h0 hlt N x a.toNat hxa la (h254 _ la)
  rw [hx.flt fz0 ha nz0,hs] at h1
  refine ⟨z,?_,?_⟩
  ·rw [cond_false]
   unfold LK
   rw [h1];rfl
  ·have e:((a.toNat % n:Nat):Int)=a.tmod n:=by rw [Int.tmod_eq_emod_of_nonneg om,Int.natCast_emod,ea]
   rw [e] at h2;exact h2
 ·have hs':=CI hs
  have ea:((a.natAbs:Nat):Int)= -a:=om
  have hxa:Fz (Op.negFloat .f64 x) ((a.natAbs:Nat):Int):=by rw [ea];exact VR hx ha
  obtain ⟨z,h1,h2⟩:=WG (x:=x) h0 hlt N (Op.negFloat .f64 x) a.natAbs hxa ha (h254 _ ha)
  rw [hx.flt fz0 ha nz0,hs] at h1
  have hm:(((a.natAbs % n:Nat):Int)).natAbs<2^53:=Nat.lt_of_le_of_lt (Nat.mod_le _ _) ha
  refine ⟨Op.negFloat .f64 z,?_,?_⟩
  ·rw [cond_true]
   unfold LK
   rw [h1];rfl
  ·have h3:=VR h2 hm
   have e: -((a.natAbs % n:Nat):Int)=a.tmod n:=by
    rw [show a= -(a.natAbs:Int) by omega,Int.neg_tmod,Int.tmod_eq_emod_of_nonneg om,Int.natCast_emod,Int.natAbs_neg]
    rfl
   rw [e] at h3;exact h3
theorem Yo{x y:Nat}{a n c:Int}(hx:Fz x a)(hy:Fz y n)(ha:a.natAbs<2^53)(hn0:0<n)(hn:n<2^53)(hc:a=c*n): ∃z,FloatKind.f64.format.div x y=some z∧Fz z c:=by
 obtain ⟨s,k,hk,hs⟩:=hx.read ha
 obtain ⟨t,j,hj,ht⟩:=hy.read (show n.natAbs<2^53 by omega)
 have ht':t=false:=by rw [ht om];simp;omega
 subst ht'
 have hcl:c.natAbs<2^53:=by
  have h1:a.natAbs=c.natAbs*n.natAbs:=by rw [hc,Int.natAbs_mul]
  have h2:c.natAbs*1≤c.natAbs*n.natAbs:=Nat.mul_le_mul_left _ om
  omega
 have main: ∃e,(double.read x).quotient (double.fractionBits+2) (double.read y)=some e∧Wd e c:=by
  rw [hk,hj]
  simp only [Datum.quotient]
  have hp:0<n.natAbs*2^j:=Nat.mul_pos om (Nat.pow_pos (by decide))
  rw [if_neg om]
  have hlog:j≤k+(double.fractionBits+2+(n.natAbs*2^j).log2 - (a.natAbs*2^k).log2):=by
   have e1:double.fractionBits+2=54:=rfl
   rw [e1,Mw om]
   rcases Nat.eq_zero_or_pos a.natAbs with h|h
   ·rw [h];simp;omega
   ·have:=LE h ha
    rw [Mw h];omega
  generalize double.fractionBits+2+(n.natAbs*2^j).log2 - (a.natAbs*2^k).log2=more at*
  have e2:(a.natAbs*2^k) <<< more=c.natAbs*2^(k+more - j)*(n.natAbs*2^j):=by
   rw [Nat.shiftLeft_eq,hc,Int.natAbs_mul]
   have:2^k*2^more=2^(k+more - j)*2^j:=by rw [←Nat.pow_add,←Nat.pow_add];congr 1;omega
   calc c.natAbs*n.natAbs*2^k*2^more=c.natAbs*n.natAbs*(2^k*2^more):=by rw [Nat.mul_assoc]
    _=c.natAbs*n.natAbs*(2^(k+more - j)*2^j):=by rw [this]
    _=c.natAbs*2^(k+more - j)*(n.natAbs*2^j):=by simp only [Nat.mul_assoc,Nat.mul_left_comm]
  rw [e2,Nat.mul_div_cancel _ hp,Nat.mul_mod_left]
  refine ⟨_,rfl,s,k+more - j+1,?_,fun h=>?_⟩
  ·simp only [bne_self_eq_false,Bool.toNat_false,Nat.add_zero,Bool.bne_false]
   congr 1
   ·rw [Nat.pow_succ];simp only [Nat.mul_comm,Nat.mul_left_comm]
   ·omega
  ·rw [hs (by rw [hc];exact Int.mul_ne_zero h om),hc]
   have:c*n<0↔c<0:=by
    constructor
    ·intro h1
     rcases Int.lt_or_le c 0 with h2|h2
     ·exact h2
     ·have:=Int.mul_nonneg h2 (Int.le_of_lt hn0);omega
    ·intro h1;exact Int.mul_neg_of_neg_of_pos h1 hn0
   simp [this]
 obtain ⟨e,he,hw⟩:=main
 refine ⟨double.write e,?_,Fz.write hw hcl⟩
 show ((double.read x).quotient (double.fractionBits+2) (double.read y)).map double.write=_
 rw [he];rfl
theorem XK(a b:Int):(a.tmod b).natAbs≤a.natAbs:=by rw [Int.natAbs_tmod];exact Nat.mod_le _ _
theorem SM(a b:Int):(a.tdiv b).natAbs≤a.natAbs:=by rw [Int.natAbs_tdiv];exact Nat.div_le_self _ _
def quo(a b:Aj):Aj×Int:=
 let n:=b.re*b.re+b.im*b.im
 let x:=a.re*b.re+a.im*b.im
 let y:=a.im*b.re - a.re*b.im
 if n=0∨x.tmod n≠0∨y.tmod n≠0 then (⟨0,0⟩,51) else inn ⟨x.tdiv n,y.tdiv n⟩
section
variable{a b:Aj}(ha:HS a)(hb:HS b)
include ha hb
theorem AAy(h: ¬(b.re=0∧b.im=0)):0<b.re*b.re+b.im*b.im:=by
 have h1:0≤b.re*b.re:=by
  rcases Int.le_total 0 b.re with h|h
  ·exact Int.mul_nonneg h h
  ·exact Int.mul_nonneg_of_nonpos_of_nonpos h h
 have h2:0≤b.im*b.im:=by
  rcases Int.le_total 0 b.im with h|h
  ·exact Int.mul_nonneg h h
  ·exact Int.mul_nonneg_of_nonpos_of_nonpos h h
 rcases Decidable.em (b.re*b.re=0) with h3|h3
 ·rcases Decidable.em (b.im*b.im=0) with h4|h4
  ·refine absurd ⟨?_,?_⟩ h
   ·rcases Int.mul_eq_zero.1 h3 with h|h<;>exact h
   ·rcases Int.mul_eq_zero.1 h4 with h|h<;>exact h
  ·omega
 ·omega
theorem AAz{N:Nat}(hN:2^54≤N):Jf N (rn a) (rn b)=some (rn (quo a b).1,(quo a b).2):=by
 unfold Jf LZ
 simp only [KA ha,KA hb,Option.bind_some,Bool.not_true,cond_false]
 have hz:ceq (rn b) (0,0)=(decide (b.re=0)&&decide (b.im=0)):=by
  rw [ceq,(Fz.re hb).feq fz0 hb.re (by decide),(Fz.im hb).feq fz0 hb.im (by decide)]
 rw [hz]
 cases h0:(decide (b.re=0)&&decide (b.im=0))
 ·simp only [cond_false]
  have hne: ¬(b.re=0∧b.im=0):=by
   intro h;rw [h.1,h.2] at h0;simp at h0
  have hn:=AAy ha hb hne
  have hni:=VR (Fz.im hb) hb.im
  have hia:(-b.im).natAbs≤16777216:=by have:=hb.imA;omega
  obtain ⟨p1,p2,hp,q1,q2,l1,l2⟩:=VQ (Fz.re ha) (Fz.im ha) (Fz.re hb) hni ha.reA ha.imA hb.reA hia
  obtain ⟨n1,n2,hm,q3,_,l3,_⟩:=VQ (Fz.re hb) (Fz.im hb) (Fz.re hb) hni hb.reA hb.imA hb.reA hia
  have e1:a.re*b.re - a.im* -b.im=a.re*b.re+a.im*b.im:=by rw [Int.mul_neg];omega
  have e2:a.re* -b.im+a.im*b.re=a.im*b.re - a.re*b.im:=by rw [Int.mul_neg];omega
  have e3:b.re*b.re - b.im* -b.im=b.re*b.re+b.im*b.im:=by rw [Int.mul_neg];omega
  rw [e1] at q1 l1;rw [e2] at q2 l2;rw [e3] at q3 l3
  have ep:cmul (rn a) ((rn b).1,Op.negFloat .f64 (rn b).2)=some (p1,p2):=hp
  have em:cmul (rn b) ((rn b).1,Op.negFloat .f64 (rn b).2)=some (n1,n2):=hm
  obtain ⟨z1,hz1,w1⟩:=Yn hN q1 q3 om hn om
  obtain ⟨z2,hz2,w2⟩:=Yn hN q2 q3 om hn om
  have b1:=XK (a.re*b.re+a.im*b.im) (b.re*b.re+b.im*b.im)
  have b2:=XK (a.im*b.re - a.re*b.im) (b.re*b.re+b.im*b.im)
  simp only [ep,em,Option.bind_some,hz1,hz2]
  rw [w1.fne fz0 om (by decide),w2.fne fz0 om (by decide)]
  unfold LY quo
  simp only
  cases h1:decide ((a.re*b.re+a.im*b.im).tmod (b.re*b.re+b.im*b.im)=0)
  ·have h1:=Db h1
   rw [if_pos (.inr (.inl h1))]
   rfl
  ·have h1:=CI h1
   simp only [Bool.not_true,cond_false]
   cases h2:decide ((a.im*b.re - a.re*b.im).tmod (b.re*b.re+b.im*b.im)=0)
   ·have h2:=Db h2
    rw [if_pos (.inr (.inr h2))]
    rfl
   ·have h2:=CI h2
    rw [if_neg (by rintro (h|h|h)<;>omega)]
    simp only [Bool.not_true,cond_false]
    have c1:a.re*b.re+a.im*b.im=(a.re*b.re+a.im*b.im).tdiv (b.re*b.re+b.im*b.im)*(b.re*b.re+b.im*b.im):=by
     have:=Int.tmod_add_tdiv_mul (a.re*b.re+a.im*b.im) (b.re*b.re+b.im*b.im);omega
    have c2:a.im*b.re - a.re*b.im=(a.im*b.re - a.re*b.im).tdiv (b.re*b.re+b.im*b.im)*(b.re*b.re+b.im*b.im):=by
     have:=Int.tmod_add_tdiv_mul (a.im*b.re - a.re*b.im) (b.re*b.re+b.im*b.im);omega
    obtain ⟨d1,hd1,v1⟩:=Yo q1 q3 om hn om c1
    obtain ⟨d2,hd2,v2⟩:=Yo q2 q3 om hn om c2
    have k1:=SM (a.re*b.re+a.im*b.im) (b.re*b.re+b.im*b.im)
    have k2:=SM (a.im*b.re - a.re*b.im) (b.re*b.re+b.im*b.im)
    simp only [hd1,hd2,Option.bind_some,PA v1 v2 om om]
 ·simp only [Bool.and_eq_true,decide_eq_true_eq] at h0
  unfold quo
  simp only
  rw [if_pos (.inl (by rw [h0.1,h0.2];rfl))]
  rfl
theorem Zt:PK a b=some (quo a b):=by
 have m1:=Lp hb.reA hb.reA
 have m2:=Lp hb.imA hb.imA
 have m3:=Lp ha.reA hb.reA
 have m4:=Lp ha.imA hb.imA
 have m5:=Lp ha.imA hb.reA
 have m6:=Lp ha.reA hb.imA
 unfold PK MS
 rw [wr (x:=b.re*b.re) om om,wr (x:=b.im*b.im) om om,wr (x:=a.re*b.re) om om,wr (x:=a.im*b.im) om om,wr (x:=a.im*b.re) om om,wr (x:=a.re*b.im) om om,
  wr (x:=b.re*b.re+b.im*b.im) om om,wr (x:=a.re*b.re+a.im*b.im) om om,wr (x:=a.im*b.re - a.re*b.im) om om]
 have k1:=SM (a.re*b.re+a.im*b.im) (b.re*b.re+b.im*b.im)
 have k2:=SM (a.im*b.re - a.re*b.im) (b.re*b.re+b.im*b.im)
 rw [wr (x:=(a.re*b.re+a.im*b.im).tdiv (b.re*b.re+b.im*b.im)) om om,wr (x:=(a.im*b.re - a.re*b.im).tdiv (b.re*b.re+b.im*b.im)) om om]
 unfold quo
 simp only
 cases h0:(b.re*b.re+b.im*b.im==0)
 ·have h0:=Bn h0
  have hnz:nz (b.re*b.re+b.im*b.im)=some ():=by rw [nz,if_neg h0]
  simp only [cond_false,hnz,Option.bind_some]
  cases h1:((a.re*b.re+a.im*b.im).tmod (b.re*b.re+b.im*b.im) != 0)
  ·have h1:=Jr h1
   simp only [cond_false]
   cases h2:((a.im*b.re - a.re*b.im).tmod (b.re*b.re+b.im*b.im) != 0)
   ·have h2:=Jr h2
    rw [if_neg (by rintro (h|h|h)<;>contradiction),XG]
    rfl
   ·have h2:=Lo h2
    rw [if_pos (.inr (.inr h2))];rfl
  ·have h1:=Lo h1
   rw [if_pos (.inr (.inl h1))];rfl
 ·have h0:=CJ h0
  rw [if_pos (.inl h0)];rfl
end
end Fth
namespace Fth
open Go
def VV(t:Int)(v:AI):Prop:=
 (t=1∧v.type_=1∧Gn v.num∧v.bool=false∧v.list=[])∨(t=2∧v.type_=2∧v.num=(0,0)∧v.list=[])∨
 (t=3∧v.type_=3∧v.num=(0,0)∧v.bool=false∧∀z∈v.list,Gn z)
def GV(v:AI):Prop:=Gn v.num∧(∀z∈v.list,Gn z)∧v.list.length≤1000000000000
def chk(v:AI):Bool:=
 bif v.type_==1 then !v.bool&&v.list.isEmpty else bif v.type_==2 then decide (v.num=(0,0))&&v.list.isEmpty else bif v.type_==3 then decide (v.num=(0,0))&& !v.bool else false
theorem gn0:Gn (0,0):=⟨0,0,⟨z0,by decide,by decide⟩,⟨z0,by decide,by decide⟩⟩
theorem Yp{v:AI}(h:GV v):chk v=true↔VV v.type_ v:=by
 obtain ⟨h1,h2,_⟩:=h
 unfold chk VV
 cases e1:(v.type_==1)
 ·have e1:=Bn e1
  cases e2:(v.type_==2)
  ·have e2:=Bn e2
   cases e3:(v.type_==3)
   ·have e3:=Bn e3
    simp [e1,e2,e3]
   ·have e3:=CJ e3
    simp [e3];intro _ _;exact fun z w hz=>h2 (z,w) hz
  ·have e2:=CJ e2
   simp [e2]
 ·have e1:=CJ e1
  simp [e1,h1]
theorem VV.gv{t:Int}{v:AI}(h:VV t v)(hl:v.list.length≤1000000000000):GV v:=by
 rcases h with ⟨_,_,h,_,h'⟩| ⟨_,_,h,h'⟩| ⟨_,_,h,_,h'⟩
 ·exact ⟨h,by rw [h'];simp,hl⟩
 ·exact ⟨by rw [h];exact gn0,by rw [h'];simp,hl⟩
 ·exact ⟨by rw [h];exact gn0,h',hl⟩
theorem VV.type{t:Int}{v:AI}(h:VV t v):v.type_=t:=by
 rcases h with ⟨h1,h2,_⟩| ⟨h1,h2,_⟩| ⟨h1,h2,_⟩<;>rw [h1,h2]
theorem ABU{z:Nat×Nat}(h:Gn z):ceq z (0,0)=decide (z=(0,0)):=by
 obtain ⟨n,hn,rfl⟩:=(RE z).1 h
 have e1:=(Fz.re hn).feq fz0 hn.re (by decide)
 have e2:=(Fz.im hn).feq fz0 hn.im (by decide)
 rw [ceq]
 dsimp only
 rw [e1,e2,Bool.eq_iff_iff]
 simp only [Bool.and_eq_true,decide_eq_true_eq]
 constructor
 ·rintro ⟨h1,h2⟩
  rw [rn,h1,h2,PO]
 ·intro h
  have h1:FloatKind.f64.nearest n.re=0:=congrArg Prod.fst h
  have h2:FloatKind.f64.nearest n.im=0:=congrArg Prod.snd h
  have f0:feq 0 0=true:=by decide
  have k1:(rn n).1=0:=h1
  have k2:(rn n).2=0:=h2
  rw [k1,f0] at e1
  rw [k2,f0] at e2
  exact ⟨CI e1.symm,CI e2.symm⟩
theorem WH{z:Nat×Nat}(h:Gn z):By z=some true:=by
 obtain ⟨n,hn,rfl⟩:=(RE z).1 h
 exact KA hn
theorem Nf{N:Nat}{v:AI}(h:GV v)(hN:v.list.length+2≤N):DL N v=some (bif chk v then 0 else 3):=by
 obtain ⟨h1,h2,h3⟩:=h
 have loop: ∀(k:Nat) (b:Bool) (i:Nat),i≤v.list.length→v.list.length<i+k→Ih v k b (i:Int)=some (bif b then 0 else 3):=by
  intro k
  induction k with
  |zero=>intro b i _ _;omega
  |succ k ih=>
   intro b i hi hk
   show J2 v (Ih v k) b i=_
   unfold J2 KP EO
   cases hc:decide ((i:Int)< (v.list.length:Int))
   ·rw [cond_false];cases b<;>rfl
   ·have hc:=CI hc
    obtain ⟨z,hz,hz'⟩:=FW (xs:=v.list) (i:=(i:Int)) om hc
    rw [cond_true,hz,Option.bind_some,wr om om,show (i:Int)+1=((i+1:Nat):Int) by omega]
    have hg:=h2 z (List.mem_of_getElem? hz')
    rw [WH hg,Option.bind_some]
    cases b
    ·exact ih false (i+1) om om
    ·exact ih true (i+1) om om
 have loop0:=fun b=>loop N b 0 om om
 have he:((v.list.length:Int)==0)=v.list.isEmpty:=by cases v.list<;>simp;omega
 unfold DL EO Jb chk
 rw [WH h1,Option.bind_some,ABU h1,he]
 cases e1:(v.type_==1)
 ·rw [cond_false,cond_false]
  cases e2:(v.type_==2)
  ·rw [cond_false,cond_false]
   cases e3:(v.type_==3)
   ·rfl
   ·rw [cond_true,cond_true,Option.bind_some,cond_true]
    cases decide (v.num=(0,0))
    ·exact loop0 false
    ·exact loop0 (!v.bool)
  ·rw [cond_true,cond_true,Option.bind_some,cond_true]
   cases decide (v.num=(0,0))
   ·rfl
   ·cases v.list.isEmpty<;>rfl
 ·rw [cond_true,cond_true,cond_true]
  cases v.bool
  ·cases v.list.isEmpty<;>rfl
  ·rfl
theorem MI{N:Nat}{v:AI}(h:GV v)(hN:v.list.length+2≤N):B8 N v=some (chk v):=by
 obtain ⟨h1,h2,h3⟩:=h
 have he:((v.list.length:Int)==0)=v.list.isEmpty:=by cases v.list<;>simp;omega
 have loop: ∀(k i:Nat),i≤v.list.length→v.list.length<i+k→Ep v k true (i:Int)=some (chk v):=by
  intro k
  induction k with
  |zero=>intro i _ _;omega
  |succ k ih=>
   intro i hi hk
   show FE v (Ep v k) true i=_
   unfold FE Hd JT JU JV
   cases hc:decide ((i:Int)< (v.list.length:Int))
   ·rw [cond_false,ABU h1,he]
    unfold chk
    cases e1:(v.type_==1)
    ·rw [cond_false,cond_false]
     cases e2:(v.type_==2)
     ·rw [cond_false,cond_false]
      cases e3:(v.type_==3)
      ·rfl
      ·cases decide (v.num=(0,0))<;>rfl
     ·cases decide (v.num=(0,0))<;>rfl
    ·cases v.bool<;>rfl
   ·have hc:=CI hc
    obtain ⟨z,hz,hz'⟩:=FW (xs:=v.list) (i:=(i:Int)) om hc
    rw [cond_true,hz,Option.bind_some,wr om om,show (i:Int)+1=((i+1:Nat):Int) by omega]
    obtain ⟨n,_,_,hn⟩:=Yg (h2 z (List.mem_of_getElem? hz'))
    rw [hn,Option.bind_some,cond_true]
    exact ih (i+1) om om
 obtain ⟨n,_,_,hn⟩:=Yg h1
 unfold B8
 rw [hn,Option.bind_some]
 exact loop N 0 om om
def v0:AI:=⟨0,(0,0),false,[]⟩
def nv(x:Aj×Int):AI×Int:=if x.2=0 then (⟨1,rn x.1,false,[]⟩,0) else (v0,x.2)
theorem Zu(x:Aj×Int):Dy (rn x.1) x.2=some (nv x):=by
 unfold Dy nv
 cases h:(x.2 != 0)
 ·rw [if_pos (Jr h)];rfl
 ·rw [if_neg (Lo h)];rfl
theorem VT(x:Aj×Int):Eg x.1 x.2=some (nv x):=by
 unfold Eg nv
 cases h:(x.2 != 0)
 ·rw [if_pos (Jr h)];rfl
 ·rw [if_neg (Lo h)];rfl
def two(op:Int)(a b:Aj):AI×Int:=
 if op=8 then nv (inn ⟨a.re+b.re,a.im+b.im⟩) else if op=9 then nv (inn ⟨a.re - b.re,a.im - b.im⟩)
 else if op=10 then nv (inn ⟨a.re*b.re - a.im*b.im,a.re*b.im+a.im*b.re⟩) else if op=11 then nv (quo a b)
 else if op=12 then (⟨2,(0,0),decide (a.re=b.re)&&decide (a.im=b.im),[]⟩,0)
 else (⟨2,(0,0),decide (a.re<b.re)||(decide (a.re=b.re)&&decide (a.im<b.im)),[]⟩,0)
theorem Yq{N:Nat}{op:Int}{a b:Aj}(hN:2^54≤N)(ha:HS a)(hb:HS b):J4 N op (rn a) (rn b)=some (two op a b):=by
 unfold J4 two
 rw [AAu ha hb,AAv ha hb,AAw ha hb,AAz ha hb hN,Yh ha hb,Zm ha hb]
 simp only [Option.bind_some,Zu]
 cases h1:(op==8)
 ·rw [if_neg (Bn h1)]
  cases h2:(op==9)
  ·rw [if_neg (Bn h2)]
   cases h3:(op==10)
   ·rw [if_neg (Bn h3)]
    cases h4:(op==11)
    ·rw [if_neg (Bn h4)]
     cases h5:(op==12)
     ·rw [if_neg (Bn h5)];rfl
     ·rw [if_pos (CJ h5)];rfl
    ·rw [if_pos (CJ h4)];rfl
   ·rw [if_pos (CJ h3)];rfl
  ·rw [if_pos (CJ h2)];rfl
 ·rw [if_pos (CJ h1)];rfl
section
variable{a b:Aj}(ha:HS a)(hb:HS b)
include ha hb
theorem Zv:PH a b=some (inn ⟨a.re+b.re,a.im+b.im⟩):=by
 obtain ⟨⟨h1,h2⟩,h3,h4⟩:=ha
 obtain ⟨⟨h5,h6⟩,h7,h8⟩:=hb
 unfold PH
 rw [wr om om,wr om om,XG];rfl
theorem Zw:PI a b=some (inn ⟨a.re - b.re,a.im - b.im⟩):=by
 obtain ⟨⟨h1,h2⟩,h3,h4⟩:=ha
 obtain ⟨⟨h5,h6⟩,h7,h8⟩:=hb
 unfold PI
 rw [wr om om,wr om om,XG];rfl
theorem Zx:PJ a b=some (inn ⟨a.re*b.re - a.im*b.im,a.re*b.im+a.im*b.re⟩):=by
 have m3:=Lp ha.reA hb.reA
 have m4:=Lp ha.imA hb.imA
 have m5:=Lp ha.imA hb.reA
 have m6:=Lp ha.reA hb.imA
 unfold PJ
 rw [wr (x:=a.re*b.re) om om,wr (x:=a.im*b.im) om om,wr (x:=a.im*b.re) om om,wr (x:=a.re*b.im) om om,wr om om,wr om om,XG];rfl
theorem Yr:Nn a b=some (decide (a.re<b.re)||(decide (a.re=b.re)&&decide (a.im<b.im))):=by
 unfold Nn MA
 have e:(a.re==b.re)=decide (a.re=b.re):=by rw [Bool.eq_iff_iff];simp
 rw [e]
 cases decide (a.re<b.re)
 ·cases decide (a.re=b.re)<;>rfl
 ·rfl
end
theorem Ys{op:Int}(h:8≤op∧op≤13):H2 op=some (2,1)∧M8 op=some (2,1):=by
 have:op=8∨op=9∨op=10∨op=11∨op=12∨op=13:=om
 rcases this with rfl|rfl|rfl|rfl|rfl|rfl<;>exact ⟨rfl,rfl⟩
theorem Yt{op:Int}(h:15≤op∧op≤17):H2 op=some (1,1)∧M8 op=some (1,1):=by
 have:op=15∨op=16∨op=17:=om
 rcases this with rfl|rfl|rfl<;>exact ⟨rfl,rfl⟩
def Cw(a:Aj):AI:=⟨1,rn a,false,[]⟩
theorem Xo{a:Aj}(ha:HS a):GV (Cw a):=⟨.of ha,by simp [Cw],by simp [Cw]⟩
theorem Uh(a:Aj):chk (Cw a)=true:=rfl
def I9(c:Bool):AI:=⟨2,(0,0),c,[]⟩
theorem Zy(b:Bool):GV (I9 b):=⟨gn0,by simp [I9],by simp [I9]⟩
theorem AA0{N:Nat}{op:Int}{a b:Aj}(hN:2^54≤N)(h:8≤op∧op≤13)(ha:HS a)(hb:HS b):
  D7 N op [Cw a,Cw b]=some (two op a b)∧Gv N op [Cw a,Cw b]=some (two op a b):=by
 obtain ⟨M,rfl⟩: ∃M,N=M+3:=⟨N - 3,om⟩
 have c1:DL (M+3) (Cw a)=some 0:=by rw [Nf (Xo ha) (by simp [Cw]),Uh];rfl
 have c2:DL (M+3) (Cw b)=some 0:=by rw [Nf (Xo hb) (by simp [Cw]),Uh];rfl
 have d1:B8 (M+3) (Cw a)=some true:=by rw [MI (Xo ha) (by simp [Cw]),Uh]
 have d2:B8 (M+3) (Cw b)=some true:=by rw [MI (Xo hb) (by simp [Cw]),Uh]
 have o1:Ed (Cw a).num=some (a,true):=Ug ha
 have o2:Ed (Cw b).num=some (b,true):=Ug hb
 constructor
 ·unfold D7
  rw [(Ys h).1,Option.bind_some]
  show Ck (M+3) op [Cw a,Cw b] (2,1) (DY (M+3) op [Cw a,Cw b] (2,1) (M+2)) 0=_
  unfold Ck
  show (DL (M+3) (Cw a)).bind (fun x208=>IR 0 (DY (M+3) op [Cw a,Cw b] (2,1) (M+2)) (x208 != 0))=_
  rw [c1,Option.bind_some]
  show Ck (M+3) op [Cw a,Cw b] (2,1) (DY (M+3) op [Cw a,Cw b] (2,1) (M+1)) 1=_
  unfold Ck
  show (DL (M+3) (Cw b)).bind (fun x208=>IR 1 (DY (M+3) op [Cw a,Cw b] (2,1) (M+1)) (x208 != 0))=_
  rw [c2,Option.bind_some]
  show Ck (M+3) op [Cw a,Cw b] (2,1) (DY (M+3) op [Cw a,Cw b] (2,1) M) 2=_
  unfold Ck
  have hop:(op==14)=false∧(op==15)=false∧(op==16)=false∧(op==17)=false:=by
   refine ⟨?_,?_,?_,?_⟩<;>(simp;omega)
  rw [hop.1,hop.2.1,hop.2.2.1,hop.2.2.2]
  show (J4 (M+3) op (rn a) (rn b)).bind (fun x321=>some (x321.1,x321.2))=_
  rw [Yq hN ha hb];rfl
 ·unfold Gv
  rw [(Ys h).2,Option.bind_some]
  show Cu (M+3) op [Cw a,Cw b] (2,1) (Bx (M+3) op [Cw a,Cw b] (2,1) (M+2)) true [] 0=_
  unfold Cu
  show (B8 (M+3) (Cw a)).bind (fun x412=>bif x412 then (Fr [Cw a,Cw b] [] 0 (Bx (M+3) op [Cw a,Cw b] (2,1) (M+2)) true) else (Fr [Cw a,Cw b] [] 0 (Bx (M+3) op [Cw a,Cw b] (2,1) (M+2)) false))=_
  rw [d1,Option.bind_some,cond_true]
  show (Ed (Cw a).num).bind (fun x354=>(Ft 16 ([]:List Aj) [x354.1]).bind fun _=>Bx (M+3) op [Cw a,Cw b] (2,1) (M+2) true ([]++[x354.1]) (IntKind.i64.wrap (0+1)))=_
  rw [o1,Option.bind_some]
  show Cu (M+3) op [Cw a,Cw b] (2,1) (Bx (M+3) op [Cw a,Cw b] (2,1) (M+1)) true [a] 1=_
  unfold Cu
  show (B8 (M+3) (Cw b)).bind (fun x412=>bif x412 then (Fr [Cw a,Cw b] [a] 1 (Bx (M+3) op [Cw a,Cw b] (2,1) (M+1)) true) else (Fr [Cw a,Cw b] [a] 1 (Bx (M+3) op [Cw a,Cw b] (2,1) (M+1)) false))=_
  rw [d2,Option.bind_some,cond_true]
  show (Ed (Cw b).num).bind (fun x354=>(Ft 16 [a] [x354.1]).bind fun _=>Bx (M+3) op [Cw a,Cw b] (2,1) (M+1) true ([a]++[x354.1]) (IntKind.i64.wrap (1+1)))=_
  rw [o2,Option.bind_some]
  show Cu (M+3) op [Cw a,Cw b] (2,1) (Bx (M+3) op [Cw a,Cw b] (2,1) M) true [a,b] 2=_
  unfold Cu two
  have e:(a.re==b.re&&a.im==b.im)=(decide (a.re=b.re)&&decide (a.im=b.im)):=by rw [Bool.eq_iff_iff];simp
  have hh:op=8∨op=9∨op=10∨op=11∨op=12∨op=13:=om
  rcases hh with rfl|rfl|rfl|rfl|rfl|rfl
  ·show ((PH a b).bind fun x504=>(Eg x504.1 x504.2).bind fun x511=>some (x511.1,x511.2))=_
   rw [Zv ha hb,Option.bind_some,VT];rfl
  ·show ((PI a b).bind fun x504=>(Eg x504.1 x504.2).bind fun x511=>some (x511.1,x511.2))=_
   rw [Zw ha hb,Option.bind_some,VT];rfl
  ·show ((PJ a b).bind fun x504=>(Eg x504.1 x504.2).bind fun x511=>some (x511.1,x511.2))=_
   rw [Zx ha hb,Option.bind_some,VT];rfl
  ·show ((PK a b).bind fun x504=>(Eg x504.1 x504.2).bind fun x511=>some (x511.1,x511.2))=_
   rw [Zt ha hb,Option.bind_some,VT];rfl
  ·show some ((⟨2,(0,0),(a.re==b.re&&a.im==b.im),[]⟩:AI),(0:Int))=_
   rw [e];rfl
  ·show ((Nn a b).bind fun x1013=>(M9 x1013).bind fun x1018=>some (x1018.1,x1018.2))=_
   rw [Yr ha hb];rfl
theorem XL{op:Int}(h:op=14):H2 op=some (1,2)∧M8 op=some (1,2):=by subst h;exact ⟨rfl,rfl⟩
theorem AA1{N:Nat}{c:Bool}{op:Int}(h:op=14)(hN:10≤N):D7 N op [I9 c]=some (I9 !c,0):=by
 obtain ⟨M,rfl⟩: ∃M,N=M+3:=⟨N - 3,om⟩
 clear hN
 have c1:DL (M+3) (I9 c)=some 0:=by rw [Nf (Zy c) (by simp [I9])];rfl
 have d1:B8 (M+3) (I9 c)=some true:=by rw [MI (Zy c) (by simp [I9])];rfl
 have o1:Ed (I9 c).num=some (⟨0,0⟩,true):=Ug (n:=⟨0,0⟩) ⟨⟨by decide,by decide⟩,by decide,by decide⟩
 unfold D7
 rw [(XL h).1,Option.bind_some]
 show Ck (M+3) op [I9 c] (1,2) (DY (M+3) op [I9 c] (1,2) (M+2)) 0=_
 unfold Ck
 show (DL (M+3) (I9 c)).bind (fun x208=>IR 0 (DY (M+3) op [I9 c] (1,2) (M+2)) (x208 != 0))=_
 rw [c1,Option.bind_some]
 show Ck (M+3) op [I9 c] (1,2) (DY (M+3) op [I9 c] (1,2) (M+1)) 1=_
 unfold Ck
 have h1:decide ((1:Int)< (([I9 c].length:Nat):Int))=false:=rfl
 have h2:idx [I9 c] 0=some (I9 c):=rfl
 have h3:(op==14)=true:=by rw [h];rfl
 rw [h1,cond_false,h2,Option.bind_some,h3,cond_true]
 rfl
theorem ABV{N:Nat}{c:Bool}{op:Int}(h:op=14)(hN:10≤N):Gv N op [I9 c]=some (I9 !c,0):=by
 obtain ⟨M,rfl⟩: ∃M,N=M+3:=⟨N - 3,om⟩
 clear hN
 have c1:DL (M+3) (I9 c)=some 0:=by rw [Nf (Zy c) (by simp [I9])];rfl
 have d1:B8 (M+3) (I9 c)=some true:=by rw [MI (Zy c) (by simp [I9])];rfl
 have o1:Ed (I9 c).num=some (⟨0,0⟩,true):=Ug (n:=⟨0,0⟩) ⟨⟨by decide,by decide⟩,by decide,by decide⟩
 unfold Gv
 rw [(XL h).2,Option.bind_some]
 show Cu (M+3) op [I9 c] (1,2) (Bx (M+3) op [I9 c] (1,2) (M+2)) true [] 0=_
 unfold Cu
 show (B8 (M+3) (I9 c)).bind (fun x412=>bif x412 then (Fr [I9 c] [] 0 (Bx (M+3) op [I9 c] (1,2) (M+2)) true) else (Fr [I9 c] [] 0 (Bx (M+3) op [I9 c] (1,2) (M+2)) false))=_
 rw [d1,Option.bind_some,cond_true]
 show (Ed (I9 c).num).bind (fun x354=>(Ft 16 ([]:List Aj) [x354.1]).bind fun _=>Bx (M+3) op [I9 c] (1,2) (M+2) true ([]++[x354.1]) (IntKind.i64.wrap (0+1)))=_
 rw [o1,Option.bind_some]
 show Cu (M+3) op [I9 c] (1,2) (Bx (M+3) op [I9 c] (1,2) (M+1)) true [⟨0,0⟩] 1=_
 unfold Cu
 have h1:decide ((1:Int)< ((1,2):Int×Int).1)=false:=rfl
 rw [cond_true,h1]
 unfold Mf
 have h2:idx [I9 c] 0=some (I9 c):=rfl
 have h3:(op==14)=true:=by rw [h];rfl
 have k1:(op==8)=false:=by rw [h];rfl
 have k2:(op==9)=false:=by rw [h];rfl
 have k3:(op==10)=false:=by rw [h];rfl
 have k4:(op==11)=false:=by rw [h];rfl
 have k5:(op==12)=false:=by rw [h];rfl
 have k6:(op==13)=false:=by rw [h];rfl
 rw [cond_false,Bool.not_true,cond_false,k1,cond_false,k2,cond_false,k3,cond_false,k4,cond_false,k5,cond_false,k6,cond_false,h3,cond_true,h2,Option.bind_some]
 rfl
theorem Zz{N:Nat}{c:Bool}(hN:2^54≤N):D7 N 14 [I9 c]=some (I9 !c,0)∧Gv N 14 [I9 c]=some (I9 !c,0):=⟨AA1 rfl om,ABV rfl om⟩
theorem nv0(x:Int):Cw ⟨x,0⟩=⟨1,(FloatKind.f64.nearest x,0),false,[]⟩:=by rw [Cw,rn,PO]
def uno(op:Int)(a:Aj):AI×Int:=(Cw (if op=15 then ⟨a.re,0⟩ else if op=16 then ⟨a.im,0⟩ else ⟨a.re,-a.im⟩),0)
theorem AA2{N:Nat}{op:Int}{a:Aj}(hN:2^54≤N)(h:15≤op∧op≤17)(ha:HS a):D7 N op [Cw a]=some (uno op a)∧Gv N op [Cw a]=some (uno op a):=by
 obtain ⟨M,rfl⟩: ∃M,N=M+3:=⟨N - 3,om⟩
 have c1:DL (M+3) (Cw a)=some 0:=by rw [Nf (Xo ha) (by simp [Cw]),Uh];rfl
 have d1:B8 (M+3) (Cw a)=some true:=by rw [MI (Xo ha) (by simp [Cw]),Uh]
 have o1:Ed (Cw a).num=some (a,true):=Ug ha
 have hh:op=15∨op=16∨op=17:=om
 constructor
 ·unfold D7
  rw [(Yt h).1,Option.bind_some]
  show Ck (M+3) op [Cw a] (1,1) (DY (M+3) op [Cw a] (1,1) (M+2)) 0=_
  unfold Ck
  show (DL (M+3) (Cw a)).bind (fun x208=>IR 0 (DY (M+3) op [Cw a] (1,1) (M+2)) (x208 != 0))=_
  rw [c1,Option.bind_some]
  show Ck (M+3) op [Cw a] (1,1) (DY (M+3) op [Cw a] (1,1) (M+1)) 1=_
  unfold Ck uno
  rcases hh with rfl|rfl|rfl
  ·rw [if_pos rfl,nv0];rfl
  ·rw [if_neg (by decide),if_pos rfl,nv0];rfl
  ·rw [if_neg (by decide),if_neg (by decide)]
   show ((H3 (rn a)).bind fun x279=>(Dy x279.1 x279.2).bind fun x284=>some (x284.1,x284.2))=_
   rw [Zn ha];rfl
 ·unfold Gv
  rw [(Yt h).2,Option.bind_some]
  show Cu (M+3) op [Cw a] (1,1) (Bx (M+3) op [Cw a] (1,1) (M+2)) true [] 0=_
  unfold Cu
  show (B8 (M+3) (Cw a)).bind (fun x412=>bif x412 then (Fr [Cw a] [] 0 (Bx (M+3) op [Cw a] (1,1) (M+2)) true) else (Fr [Cw a] [] 0 (Bx (M+3) op [Cw a] (1,1) (M+2)) false))=_
  rw [d1,Option.bind_some,cond_true]
  show (Ed (Cw a).num).bind (fun x354=>(Ft 16 ([]:List Aj) [x354.1]).bind fun _=>Bx (M+3) op [Cw a] (1,1) (M+2) true ([]++[x354.1]) (IntKind.i64.wrap (0+1)))=_
  rw [o1,Option.bind_some]
  show Cu (M+3) op [Cw a] (1,1) (Bx (M+3) op [Cw a] (1,1) (M+1)) true [a] 1=_
  unfold Cu uno
  rcases hh with rfl|rfl|rfl
  ·rw [if_pos rfl];rfl
  ·rw [if_neg (by decide),if_pos rfl];rfl
  ·rw [if_neg (by decide),if_neg (by decide)]
   show ((Eg ⟨a.re,IntKind.i64.wrap (0 - a.im)⟩ 0).bind fun x1213=>some (x1213.1,x1213.2))=_
   have:=ha.imA
   rw [wr om om,Int.zero_sub];rfl
def Res(t:Int)(r:AI×Int):Prop:=(r.2=0∧VV t r.1)∨((r.2=50∨r.2=51)∧r.1=v0)
theorem AA3{a:Aj}(h:HS a):VV 1 (Cw a):= .inl ⟨rfl,rfl,.of h,rfl,rfl⟩
theorem VU{x:Aj×Int}(h:(x.2=0∧HS x.1)∨x.2=50∨x.2=51):Res 1 (nv x):=by
 unfold nv
 rcases h with ⟨h1,h2⟩|h
 ·rw [if_pos h1];exact .inl ⟨rfl,AA3 h2⟩
 ·rw [if_neg om];exact .inr ⟨h,rfl⟩
theorem VW(n:Aj):((inn n).2=0∧HS (inn n).1)∨(inn n).2=50∨(inn n).2=51:=by
 unfold inn
 rcases Decidable.em (HS n) with h|h
 ·rw [if_pos h];exact .inl ⟨rfl,h⟩
 ·rw [if_neg h];exact .inr (.inl rfl)
theorem AA4(a b:Aj):((quo a b).2=0∧HS (quo a b).1)∨(quo a b).2=50∨(quo a b).2=51:=by
 unfold quo
 simp only
 split
 ·exact .inr (.inr rfl)
 ·exact VW _
theorem Xp(b:Bool):VV 2 ⟨2,(0,0),b,[]⟩:= .inr (.inl ⟨rfl,rfl,rfl,rfl⟩)
def opT(op:Int):Int:=if op=12∨op=13∨op=14 then 2 else 1
theorem vv1{v:AI}(h:VV 1 v): ∃a,HS a∧v=Cw a:=by
 rcases h with ⟨_,h1,h2,h3,h4⟩| ⟨h,_⟩| ⟨h,_⟩
 ·obtain ⟨n,hn,e⟩:=(RE _).1 h2
  refine ⟨n,hn,?_⟩
  cases v;simp only at h1 h2 h3 h4 e;rw [Cw,h1,h3,h4,e]
 ·cases h
 ·cases h
theorem vv2{v:AI}(h:VV 2 v):v=⟨2,(0,0),v.bool,[]⟩:=by
 rcases h with ⟨h,_⟩| ⟨_,h1,h2,h3⟩| ⟨h,_⟩
 ·cases h
 ·cases v;simp only at h1 h2 h3;rw [h1,h2,h3]
 ·cases h
theorem WI{op:Int}{args:List AI}(h:(8≤op∧op≤13∧∃a b,VV 1 a∧VV 1 b∧args=[a,b])∨(op=14∧∃a,VV 2 a∧args=[a])∨(15≤op∧op≤17∧∃a,VV 1 a∧args=[a])):
  ∃r,Res (opT op) r∧∀N,2^54≤N→D7 N op args=some r∧Gv N op args=some r:=by
 rcases h with ⟨h1,h2,x,y,hx,hy,rfl⟩| ⟨rfl,x,hx,rfl⟩| ⟨h1,h2,x,hx,rfl⟩
 ·obtain ⟨a,ha,rfl⟩:=vv1 hx
  obtain ⟨b,hb,rfl⟩:=vv1 hy
  refine ⟨two op a b,?_,fun N hN=>AA0 hN ⟨h1,h2⟩ ha hb⟩
  unfold two opT
  have hh:op=8∨op=9∨op=10∨op=11∨op=12∨op=13:=om
  rcases hh with rfl|rfl|rfl|rfl|rfl|rfl
  ·exact VU (VW _)
  ·exact VU (VW _)
  ·exact VU (VW _)
  ·exact VU (AA4 a b)
  ·exact .inl ⟨rfl,Xp _⟩
  ·exact .inl ⟨rfl,Xp _⟩
 ·rw [vv2 hx]
  exact ⟨(I9 !x.bool,0),.inl ⟨rfl,Xp _⟩,fun N hN=>Zz hN⟩
 ·obtain ⟨a,ha,rfl⟩:=vv1 hx
  refine ⟨uno op a,?_,fun N hN=>AA2 hN ⟨h1,h2⟩ ha⟩
  have e:opT op=1:=by unfold opT;rw [if_neg om]
  rw [e]
  refine .inl ⟨rfl,AA3 ?_⟩
  obtain ⟨⟨l1,l2⟩,l3,l4⟩:=ha
  split
  ·exact ⟨⟨l1,l2⟩,by simp,by simp⟩
  ·split
   ·exact ⟨⟨l3,l4⟩,by simp,by simp⟩
   ·exact ⟨⟨l1,l2⟩,by simp only;omega,by simp only;omega⟩
end Fth
namespace Fth
open Go
theorem Yu{N:Nat}{t:List UInt8}(hl:t.length≤10000000)(hN:t.length+3≤N):T (GA N t) fun ws=>ws.length≤t.length+1∧∀w∈ws,w.length≤t.length:=by
 have key: ∀(k:Nat) (ws:List (List UInt8)) (f i:Int),0≤f→f≤i+1→0≤i→i≤t.length+1→(t.length:Int)+1 - i<k→ws.length≤i→(∀w∈ws,w.length≤t.length)→T (EM t k ws f i) fun ws=>ws.length≤t.length+1∧∀w∈ws,w.length≤t.length:=by
  intro k
  induction k with
  |zero=>intro ws f i _ _ _ _ _;omega
  |succ k ih=>
   intro ws f i h1 h2 h3 h4 h5 h6 h7
   show T (FD t (EM t k) ws f i) _
   unfold FD
   refine T.cond (fun h=>?_) fun h=>?_
   ·have h:=CI h
    have e1:IntKind.i64.wrap (i+1)=i+1:=wr om om
    have go: ∀b,T (GW t ws f i (EM t k) b) fun ws=>ws.length≤t.length+1∧∀w∈ws,w.length≤t.length:=by
     intro b
     unfold GW Hc Hb
     rw [e1]
     refine T.cond (fun _=>ih _ _ _ h1 om om om om om h7) fun _=>T.cond (fun hgt=>?_) fun _=>ih _ _ _ om om om om om om h7
     have hgt:=CI hgt
     refine T.bind (NT h1 om h) fun w hw=>T.bind (F1 om (by simp;omega)) fun _ _=>ih _ _ _ om om om om om (by simp;omega) fun x hx=>?_
     rcases List.mem_append.1 hx with hx|hx
     ·exact h7 x hx
     ·simp at hx;subst hx;subst hw;simp;omega
    exact T.cond (fun hi=>T.bind (FW h3 (CI hi)) fun c _=>go _) fun _=>go _
   ·have h:=Db h
    exact .some ⟨om,h7⟩
 exact key N [] 0 0 om om om om om (by simp) (by simp)
theorem Ui{N:Nat}{z:Nat×Nat}(hN:40≤N)(h:Gn z):T (EG N z) fun s=>s.length≤100:=by
 obtain ⟨n,hn,rfl,ho⟩:=Yg h
 unfold EG
 exact T.eq ho (T.bind (XB hN hn.1.1 hn.1.2 hn.2.1 hn.2.2) fun s hs=> .some hs)
theorem Yv{N:Nat}{v:AI}(h:GV v)(hl:v.list.length≤20000000)(hN:v.list.length+50≤N):T (GX N v) fun _=>True:=by
 unfold GX
 refine T.eq (MI h om) (T.cond (fun _=> .some trivial) fun _=>T.cond (fun _=>T.bind (Ui om h.1) fun _ _=> .some trivial) fun _=>T.cond (fun _=>T.cond (fun _=> .some trivial) fun _=> .some trivial) fun _=>?_)
 have key: ∀(k:Nat) (s:List UInt8) (i:Int),0≤i→i≤v.list.length→(v.list.length:Int) - i<k→(s.length:Int)≤101*i→T (FF N v k s i) fun _=>True:=by
  intro k
  induction k with
  |zero=>intro s i _ _ _;omega
  |succ k ih=>
   intro s i h0 h1 h2 h3
   show T (Fk N v (FF N v k) s i) _
   unfold Fk
   refine T.cond (fun hi=>?_) fun _=>T.bind (MD (by simp;omega)) fun u hu=>T.bind (MD (by subst hu;simp;omega)) fun _ _=> .some trivial
   have hi:=CI hi
   have go: ∀s':List UInt8,(s'.length:Int)≤101*i+1→T (HO N v i (FF N v k) s') fun _=>True:=by
    intro s' hs'
    unfold HO
    refine T.bind (FW h0 hi) fun z hz=>T.bind (Ui om (h.2.1 z (List.mem_of_getElem? hz))) fun u hu=>T.bind (F1 om om) fun _ _=>?_
    rw [wr om om]
    exact ih _ _ om om om (by simp;omega)
   exact T.cond (fun _=>T.bind (F1 om (by simp;omega)) fun _ _=>go _ (by simp;omega)) fun _=>go _ om
 exact key N [] 0 om om om (by simp)
theorem Xq{N:Nat}{t:List UInt8}(hl:t.length≤10000000)(hN:t.length+100≤N):T (Ff N t) fun x=>x.2=0→VV x.1.type_ x.1∧x.1.list.length≤t.length+1:=by
 have j1: ∀b,T (GY N t b) fun x=>x.2=0→VV x.1.type_ x.1∧x.1.list.length≤t.length+1:=by
  intro b
  unfold GY
  refine T.cond (fun _=> .some fun _=>⟨Xp _,by simp⟩) fun _=>T.bind (RD om om) fun x hx=>T.cond (fun h=>?_) fun _=>?_
  ·have hx:=hx (CJ h)
   refine .some (a:=_) fun _=>⟨AA3 (a:=x.1) ⟨⟨hx.1,hx.2.1⟩,hx.2.2.1,hx.2.2.2⟩,by simp⟩
  ·have j2: ∀b,(b=false→2≤t.length)→T (Fm N t x b) fun x=>x.2=0→VV x.1.type_ x.1∧x.1.list.length≤t.length+1:=by
    intro b hb
    unfold Fm
    refine T.cond (fun _=> .some fun h=>by cases h) fun h=>?_
    have h2:=hb h
    rw [wr om om]
    refine T.bind (NT om om om) fun u hu=>?_
    have hul:u.length≤t.length:=by subst hu;simp;omega
    refine T.bind (Yu om om) fun ws hws=>?_
    have key: ∀(k:Nat) (i a b:Int) (l:List (Nat×Nat)),0≤i→i≤ws.length→(ws.length:Int) - i<k→(l.length:Int)=i→(∀z∈l,Gn z)→T (Er N t ws k i a b l) fun x=>x.2=0→VV x.1.type_ x.1∧x.1.list.length≤t.length+1:=by
     intro k
     induction k with
     |zero=>intro i a b l _ _ _;omega
     |succ k ih=>
      intro i a b l h0 h1 h3 h4 h5
      show T (FG N t ws (Er N t ws k) i a b l) _
      unfold FG
      refine T.cond (fun hi=>?_) fun _=>?_
      ·have hi:=CI hi
       refine T.bind (FW h0 hi) fun w hw=>?_
       have hwl:=hws.2 w (List.mem_of_getElem? hw)
       refine T.bind (RD om om) fun y hy=>T.cond (fun _=> .some fun h=>by cases h) fun h=>?_
       have hy:=hy (Jr h)
       refine T.bind (ABg hy) fun z hz=>T.bind (F1 om (by simp;omega)) fun _ _=>?_
       rw [wr om om]
       refine ih _ _ _ _ om om om (by simp;omega) fun q hq=>?_
       rcases List.mem_append.1 hq with hq|hq
       ·exact h5 q hq
       ·simp at hq;subst hq;exact hz
      ·have gv:GV ⟨3,(0,0),false,l⟩:=⟨gn0,h5,by simp only;omega⟩
       refine T.bind (Yv gv (by simp only;omega) (by simp only;omega)) fun _ _=>T.cond (fun _=> .some fun h=>by cases h) fun _=> .some fun _=>⟨.inr (.inr ⟨rfl,rfl,rfl,rfl,h5⟩),by simp only;omega⟩
    exact key N 0 _ _ [] om om om (by simp) (by simp)
   refine T.cond (fun _=>j2 _ fun h=>by cases h) fun h=>?_
   have h:=Db h
   refine T.bind (FW om om) fun c _=>T.cond (fun _=>j2 _ fun h=>by cases h) fun _=>?_
   rw [wr om om]
   exact T.bind (FW om om) fun c _=>j2 _ fun _=>om
 unfold Ff
 exact T.cond (fun _=>j1 _) fun _=>j1 _
def LV(l:List AI):Prop:=(∀v∈l,VV v.type_ v∧v.list.length≤1048577)∧l.length≤1048576
theorem Yw{N:Nat}{t:List UInt8}(hl:t.length≤1048576)(hN:t.length+200≤N):T (GB N t) fun x=>x.2=0→LV x.1:=by
 have outer: ∀(k:Nat) (l:List AI) (i:Int),0≤i→i≤t.length→(t.length:Int) - i<k→(l.length:Int)≤i→(∀v∈l,VV v.type_ v∧v.list.length≤1048577)→T (CU N t k l i) fun x=>x.2=0→LV x.1:=by
  intro k
  induction k with
  |zero=>intro l i _ _ _;omega
  |succ k ih=>
   intro l i h0 h1 h2 h3 h4
   show T (FI N t (CU N t k) l i) _
   unfold FI
   refine T.cond (fun hi=>?_) fun hi=> .some fun _=>⟨h4,by have:=Db hi;simp only;omega⟩
   have hi:=CI hi
   refine T.bind (FW h0 hi) fun c hc=>T.cond (fun _=>?_) fun hb=>?_
   ·rw [wr om om]
    exact ih _ _ om om om om h4
   ·have hb:=Bn hb
    refine T.bind (FW h0 hi) fun c' _=>?_
    have inner: ∀(j:Nat) (p:Int) (b:Bool),i≤p→p≤t.length→(t.length:Int) - p<j→(p=i∨i<p)→T (D6 N t l i (CU N t k) j p b) fun x=>x.2=0→LV x.1:=by
     intro j
     induction j with
     |zero=>intro p b _ _ _;omega
     |succ j ihj=>
      intro p b hp1 hp2 hp3 hp4
      show T (FH N t l i (CU N t k) (D6 N t l i (CU N t k) j) p b) _
      unfold FH
      have on:p<t.length→T (EN N t l i (CU N t k) p b (D6 N t l i (CU N t k) j) true) fun x=>x.2=0→LV x.1:=by
       intro hp
       unfold EN He
       rw [wr (x:=p+1) om om]
       refine T.cond (fun _=>T.bind (FW om hp) fun d _=>T.cond (fun _=>ihj _ _ om om om om) fun _=>ihj _ _ om om om om) fun h=>by cases h
      have off:i<p→T (EN N t l i (CU N t k) p b (D6 N t l i (CU N t k) j) false) fun x=>x.2=0→LV x.1:=by
       intro hp
       unfold EN
       refine T.cond (fun h=>by cases h) fun _=>T.bind (NT h0 om hp2) fun u hu=>?_
       have hul:u.length≤t.length:=by subst hu;simp;omega
       refine T.bind (Xq om om) fun x hx=>T.cond (fun _=> .some fun h=>by cases h) fun h=>?_
       have hx:=hx (Jr h)
       refine T.bind (F1 om (by simp;omega)) fun _ _=>ih _ _ om om om (by simp;omega) fun v hv=>?_
       rcases List.mem_append.1 hv with hv|hv
       ·exact h4 v hv
       ·simp at hv;subst hv;exact ⟨hx.1,by have:=hx.2;omega⟩
      refine T.cond (fun hp=>?_) fun hp=>?_
      ·have hp:=CI hp
       refine T.cond (fun _=>on hp) fun _=>T.bind (FW om hp) fun d hd=>?_
       cases hne:(((d.toNat:Nat):Int) != (((32:UInt8).toNat:Nat):Int))
       ·have hne:=Jr hne
        refine off ?_
        rcases hp4 with rfl|hp4
        ·rw [hd] at hc;cases hc;exact absurd hne hb
        ·exact hp4
       ·exact on hp
      ·have hp:=Db hp
       exact off om
    exact inner N i _ om om om (.inl rfl)
 exact outer N [] 0 om om om (by simp) (by simp)
theorem Z0{N:Nat}{a:Ea}(hl:a.args.length≤1048576)(hN:20000000≤N):T (B9 N a) fun x=>WPt x.1∧(x.2.2=true→LV x.2.1):=by
 unfold B9 GZ I4
 refine T.bind (P:=fun l=>l=⟨32768,32768,32768,32768⟩) (.some rfl) fun l hlm=>?_
 subst hlm
 refine T.bind (Xl om a.text) fun x hx=>T.bind (Yw hl om) fun y hy=>T.cond (fun h=> .some ⟨hx,fun h'=>hy (CJ h')⟩) fun _=> .some ⟨hx,fun h'=>(by cases h')⟩
end Fth
namespace Fth
open Go
theorem Ev.up{p:Nat→Prop}(k:Nat)(h:Ev p):Ev fun N=>p (N+k):=let ⟨n,hn⟩:=h;⟨n,fun N hN=>hn _ om⟩
theorem Ev.down{p:Nat→Prop}(k:Nat)(h:Ev fun N=>p (N+k)):Ev p:=by
 obtain ⟨n,hn⟩:=h
 refine ⟨n+k,fun N hN=>?_⟩
 have:=hn (N - k) om
 dsimp only at this
 rwa [Nat.sub_add_cancel om] at this
def hd(p:AM)(nm:List UInt8):Option AE:=p.funcs.find? fun f=>f.name==nm
def fnd(nm:List UInt8):Nm→Option Th
 | .nil=>none
 | .bind n t o=>bif n==nm then some t else fnd nm o
 | .letrec n e o=>bif n==nm then some (.later e (.letrec n e o)) else fnd nm o
theorem SN{nm:List UInt8}{ρ:Nm}{th:Th}(h:fnd nm ρ=some th):Ev fun N=>Dc N ρ nm=some th∧MF N ρ nm=some th:=by
 revert h
 refine Nm.rec (motive_1:=fun ρ=>fnd nm ρ=some th→Ev fun N=>Dc N ρ nm=some th∧MF N ρ nm=some th) (motive_2:=fun _=>True) ?_ ?_ ?_ ?_ ?_ ?_ ρ
 ·intro h;cases h
 ·intro n t o _ ih h
  rw [fnd] at h
  cases hn:(n==nm)
  ·rw [hn] at h
   refine Ev.down 1 ((ih h).mono fun N hN=>?_)
   constructor
   ·show (bif !(n==nm) then EI nm N o else some t)=_
    rw [hn];exact hN.1
   ·show (bif !(n==nm) then Ji nm N o else some t)=_
    rw [hn];exact hN.2
  ·rw [hn] at h
   refine Ev.down 1 (Ev.all fun N=>?_)
   constructor
   ·show (bif !(n==nm) then EI nm N o else some t)=_
    rw [hn];exact h
   ·show (bif !(n==nm) then Ji nm N o else some t)=_
    rw [hn];exact h
 ·intro n e o ih h
  rw [fnd] at h
  cases hn:(n==nm)
  ·rw [hn] at h
   refine Ev.down 1 ((ih h).mono fun N hN=>?_)
   constructor
   ·show (bif !(n==nm) then EI nm N o else some (.later e (.letrec n e o)))=_
    rw [hn];exact hN.1
   ·show (bif !(n==nm) then Ji nm N o else some (.later e (.letrec n e o)))=_
    rw [hn];exact hN.2
  ·rw [hn] at h
   refine Ev.down 1 (Ev.all fun N=>?_)
   constructor
   ·show (bif !(n==nm) then EI nm N o else some (.later e (.letrec n e o)))=_
    rw [hn];exact h
   ·show (bif !(n==nm) then Ji nm N o else some (.later e (.letrec n e o)))=_
    rw [hn];exact h
 ·trivial
 ·intros;trivial
 ·intros;trivial
def QQ(ρ:Nm):List AK→List AB→Nm→Nm
 |x::ps,a::bs,acc=>QQ ρ ps bs (.bind x.name (.later a ρ) acc)
 |_,_,acc=>acc
def Ap(op:Int)(args:List AI)(r:AI×Int):Prop:=∀N,2^54≤N→D7 N op args=some r∧Gv N op args=some r
def fin(r:AI×Int):Except Int Ao:=bif r.2 != 0 then .error r.2 else .ok ⟨r.1,.nil,.nil⟩
def plain(v:AI):Except Int Ao:= .ok ⟨v,.nil,.nil⟩
inductive Lk(p:AM)(m:Nat):Nat→AB→Nm→Except Int Ao→Nat→Prop
 |fuel {c e ρ} (h:m≤c):Lk p m c e ρ (.error 60) c
 |num {c e ρ} (h:c<m) (ho:e.op=1):Lk p m c e ρ (plain ⟨1,e.num,false,[]⟩) (c+1)
 |tru {c e ρ} (h:c<m) (ho:e.op=2):Lk p m c e ρ (plain ⟨2,(0,0),true,[]⟩) (c+1)
 |fls {c e ρ} (h:c<m) (ho:e.op=3):Lk p m c e ρ (plain ⟨2,(0,0),false,[]⟩) (c+1)
 |nil {c e ρ} (h:c<m) (ho:e.op=4):Lk p m c e ρ (plain ⟨3,(0,0),false,[]⟩) (c+1)
 |fail {c e ρ} (h:c<m) (ho:e.op=5):Lk p m c e ρ (.error 52) (c+1)
 |vdone {c e ρ x} (h:c<m) (ho:e.op=6) (hf:fnd e.name ρ=some (.done x.plain x.head x.tail)):Lk p m c e ρ (.ok x) (c+1)
 |vlater {c e ρ e' ρ' r c'} (h:c<m) (ho:e.op=6) (hf:fnd e.name ρ=some (.later e' ρ')) (h1:Lk p m (c+1) e' ρ' r c'):Lk p m c e ρ r c'
 |call {c e ρ f r c'} (h:c<m) (ho:e.op=7) (hf:hd p e.name=some f) (hl:f.params.length=e.args.length) (h1:Lk p m (c+1) f.body (QQ ρ f.params e.args .nil) r c'):Lk p m c e ρ r c'
 |cons {c e ρ a b} (h:c<m) (ho:e.op=18) (ha:e.args=[a,b]):Lk p m c e ρ (.ok ⟨v0,.later a ρ,.later b ρ⟩) (c+1)
 |ifE {c e ρ a b d y c'} (h:c<m) (ho:e.op=19) (ha:e.args=[a,b,d]) (h1:Lk p m (c+1) a ρ (.error y) c'):Lk p m c e ρ (.error y) c'
 |ifT {c e ρ a b d x c1 r c'} (h:c<m) (ho:e.op=19) (ha:e.args=[a,b,d]) (h1:Lk p m (c+1) a ρ (.ok x) c1) (hb:x.plain.bool=true) (h2:Lk p m c1 b ρ r c'):Lk p m c e ρ r c'
 |ifF {c e ρ a b d x c1 r c'} (h:c<m) (ho:e.op=19) (ha:e.args=[a,b,d]) (h1:Lk p m (c+1) a ρ (.ok x) c1) (hb:x.plain.bool=false) (h2:Lk p m c1 d ρ r c'):Lk p m c e ρ r c'
 |caE {c e ρ a b d y c'} (h:c<m) (ho:e.op=20) (ha:e.args=[a,b,d]) (h1:Lk p m (c+1) a ρ (.error y) c'):Lk p m c e ρ (.error y) c'
 |caN {c e ρ a b d x c1 r c'} (h:c<m) (ho:e.op=20) (ha:e.args=[a,b,d]) (h1:Lk p m (c+1) a ρ (.ok x) c1) (hb:x.head.isNil=true) (h2:Lk p m c1 b ρ r c'):Lk p m c e ρ r c'
 |caC {c e ρ a b d x c1 r c'} (h:c<m) (ho:e.op=20) (ha:e.args=[a,b,d]) (h1:Lk p m (c+1) a ρ (.ok x) c1) (hb:x.head.isNil=false) (h2:Lk p m c1 d (.bind e.tail x.tail (.bind e.name x.head ρ)) r c'):Lk p m c e ρ r c'
 |lt {c e ρ a b r c'} (h:c<m) (ho:e.op=21) (ha:e.args=[a,b]) (h1:Lk p m (c+1) b (.letrec e.name a ρ) r c'):Lk p m c e ρ r c'
 |stE {c e ρ a b y c'} (h:c<m) (ho:e.op=22) (ha:e.args=[a,b]) (h1:Lk p m (c+1) a ρ (.error y) c'):Lk p m c e ρ (.error y) c'
 |stV {c e ρ a b x c1 r c'} (h:c<m) (ho:e.op=22) (ha:e.args=[a,b]) (h1:Lk p m (c+1) a ρ (.ok x) c1) (h2:Lk p m c1 b (.bind e.name (.done x.plain x.head x.tail) ρ) r c'):Lk p m c e ρ r c'
 |unE {c e ρ a y c'} (h:c<m) (ho:14≤e.op∧e.op≤17) (ha:e.args=[a]) (h1:Lk p m (c+1) a ρ (.error y) c'):Lk p m c e ρ (.error y) c'
 |un {c e ρ a x c' r} (h:c<m) (ho:14≤e.op∧e.op≤17) (ha:e.args=[a]) (h1:Lk p m (c+1) a ρ (.ok x) c') (hr:Ap e.op [x.plain] r):Lk p m c e ρ (fin r) c'
 |biE {c e ρ a b y c'} (h:c<m) (ho:8≤e.op∧e.op≤13) (ha:e.args=[a,b]) (h1:Lk p m (c+1) a ρ (.error y) c'):Lk p m c e ρ (.error y) c'
 |biE2 {c e ρ a b x c1 y c'} (h:c<m) (ho:8≤e.op∧e.op≤13) (ha:e.args=[a,b]) (h1:Lk p m (c+1) a ρ (.ok x) c1) (h2:Lk p m c1 b ρ (.error y) c'):Lk p m c e ρ (.error y) c'
 |bi {c e ρ a b x c1 z c' r} (h:c<m) (ho:8≤e.op∧e.op≤13) (ha:e.args=[a,b]) (h1:Lk p m (c+1) a ρ (.ok x) c1) (h2:Lk p m c1 b ρ (.ok z) c') (hr:Ap e.op [x.plain,z.plain] r):Lk p m c e ρ (fin r) c'
theorem PC{α:Type}(r:Except Int α){β:Type}(b:β):JO r (fun y=>some ((Except.error y:Except Int α),b)) (fun x=>some ((Except.ok x:Except Int α),b))=some (r,b):=by cases r<;>rfl
def Mpp(p:AM)(mp:An):Prop:=∀nm f,hd p nm=some f→idx p.funcs (Cm mp nm)=some f
section
variable{φ:AZ}{N:Nat}{fs:List AE}{c m:Int}{mp:An}{e:AB}{ρ:Nm}
theorem Kg(h:c<m):A7 φ N fs c m mp e ρ=CX φ N fs c m mp e ρ:=by
 unfold A7
 rw [show decide (c≥m)=false from decide_eq_false om];rfl
theorem JA(h:(8≤e.op∧e.op≤17)∨(19≤e.op∧e.op≤22)):CX φ N fs c m mp e ρ=φ.mean_run_parts fs (IntKind.i64.wrap (c+1)) m mp e ρ:=by
 unfold CX Kk
 rw [show (e.op==1)=false by simp;omega,show (e.op==2)=false by simp;omega,show (e.op==3)=false by simp;omega,show (e.op==4)=false by simp;omega,show (e.op==5)=false by simp;omega,show (e.op==6)=false by simp;omega,show (e.op==7)=false by simp;omega,show (e.op==18)=false by simp;omega]
 simp only [cond_false]
 cases φ.mean_run_parts fs (IntKind.i64.wrap (c+1)) m mp e ρ with
 |none=>rfl
 |some x=>exact PC x.1 x.2
end
section
variable{p:AM}{mp:An}{m:Nat}
theorem QR(hp:WP p)(hmp:Mpp p mp)(hm:m≤16384){c:Nat}{e:AB}{ρ:Nm}{r:Except Int Ao}{c':Nat}(h:Lk p m c e ρ r c'):
  Ev fun N=>mean_run_look N p.funcs c m mp e ρ=some (r,p.funcs,(c':Int),(m:Int)):=by
 have w1: ∀c:Nat,c<m→IntKind.i64.wrap ((c:Int)+1)=((c+1:Nat):Int):=fun c h=>by rw [wr om om];omega
 have lt: ∀c:Nat,c<m→(c:Int)< (m:Int):=fun c h=>om
 induction h with
 | @fuel c e ρ h=>
  refine Ev.down 1 (Ev.all fun N=>?_)
  show A7 _ N p.funcs c m mp e ρ=_
  unfold A7
  rw [show decide ((c:Int)≥(m:Int))=true from decide_eq_true om];rfl
 | @num c e ρ h ho=>
  refine Ev.down 1 (Ev.all fun N=>?_)
  show A7 _ N p.funcs c m mp e ρ=_
  rw [Kg (lt c h)];unfold CX;rw [ho,w1 c h];rfl
 | @tru c e ρ h ho=>
  refine Ev.down 1 (Ev.all fun N=>?_)
  show A7 _ N p.funcs c m mp e ρ=_
  rw [Kg (lt c h)];unfold CX;rw [ho,w1 c h];rfl
 | @fls c e ρ h ho=>
  refine Ev.down 1 (Ev.all fun N=>?_)
  show A7 _ N p.funcs c m mp e ρ=_
  rw [Kg (lt c h)];unfold CX;rw [ho,w1 c h];rfl
 | @nil c e ρ h ho=>
  refine Ev.down 1 (Ev.all fun N=>?_)
  show A7 _ N p.funcs c m mp e ρ=_
  rw [Kg (lt c h)];unfold CX;rw [ho,w1 c h];rfl
 | @fail c e ρ h ho=>
  refine Ev.down 1 (Ev.all fun N=>?_)
  show A7 _ N p.funcs c m mp e ρ=_
  rw [Kg (lt c h)];unfold CX;rw [ho,w1 c h];rfl
 | @vdone c e ρ x h ho hf=>
  refine Ev.down 2 (((SN hf).up 1).mono fun N hN=>?_)
  show A7 _ (N+1) p.funcs c m mp e ρ=_
  rw [Kg (lt c h)];unfold CX;rw [ho,w1 c h]
  show ((Dc (N+1) ρ e.name).bind fun x1087=>_)=_
  rw [hN.1];rfl
 | @vlater c e ρ e' ρ' r c' h ho hf _ ih=>
  refine Ev.down 3 ((((SN hf).up 2).and ih).mono fun N hN=>?_)
  show A7 _ (N+2) p.funcs c m mp e ρ=_
  rw [Kg (lt c h)];unfold CX;rw [ho,w1 c h]
  show ((Dc (N+2) ρ e.name).bind fun x1087=>_)=_
  rw [hN.1.1]
  show (((mean_run_look N p.funcs ((c+1:Nat):Int) m mp e' ρ').bind fun x29=>JO x29.1 (fun y43=>some ((Except.error y43:Except Int Ao),x29.2.1,x29.2.2.1,x29.2.2.2)) fun r45=>some ((Except.ok r45:Except Int Ao),x29.2.1,x29.2.2.1,x29.2.2.2)).bind fun x1098=>JO x1098.1 (fun y1116=>some ((Except.error y1116:Except Int Ao),x1098.2.1,x1098.2.2.1,x1098.2.2.2)) fun r1118=>some ((Except.ok r1118:Except Int Ao),x1098.2.1,x1098.2.2.1,x1098.2.2.2))=_
  rw [hN.2,Option.bind_some]
  dsimp only
  rw [PC,Option.bind_some]
  exact PC _ _
 | @call c e ρ f r c' h ho hf hl _ ih=>
  have hfm:f∈p.funcs:=List.mem_of_find?_eq_some hf
  have hps:=(hp.fns f hfm).pars
  have loop: ∀(N k i:Nat) (acc:Nm),i≤f.params.length→f.params.length<i+k→mean_run_look N p.funcs ((c+1:Nat):Int) m mp f.body (QQ ρ (f.params.drop i) (e.args.drop i) acc)=some (r,p.funcs,(c':Int),(m:Int))→
    GI (AZ.at N) p.funcs c m mp e ρ f k acc (i:Int)=some (r,p.funcs,(c':Int),(m:Int)):=by
   intro N k
   induction k with
   |zero=>intro i acc _ _;omega
   |succ k ihk=>
    intro i acc hi hk hN
    show I6 _ p.funcs c m mp e ρ f (GI _ p.funcs c m mp e ρ f k) acc i=_
    unfold I6
    cases hd':decide ((i:Int)< (f.params.length:Int))
    ·have hd':=Db hd'
     have hi':i=f.params.length:=om
     rw [cond_false,w1 c h,O9]
     have e1:f.params.drop i=[]:=by rw [hi'];exact List.drop_length
     rw [e1] at hN
     have e2:QQ ρ [] (e.args.drop i) acc=acc:=by cases e.args.drop i<;>rfl
     rw [e2] at hN
     show ((mean_run_look N p.funcs ((c+1:Nat):Int) m mp f.body acc).bind fun x1655=>_)=_
     rw [hN]
     exact PC _ _
    ·have hd':=CI hd'
     have i1:i<f.params.length:=om
     have i2:i<e.args.length:=om
     obtain ⟨x,hx,hx'⟩:=FW (xs:=f.params) (i:=(i:Int)) om hd'
     obtain ⟨a,ha,ha'⟩:=FW (xs:=e.args) (i:=(i:Int)) om om
     rw [cond_true,hx,Option.bind_some,ha,Option.bind_some,wr om om,show (i:Int)+1=((i+1:Nat):Int) by omega]
     refine ihk (i+1) (.bind x.name (.later a ρ) acc) om om ?_
     have e1:f.params.drop i=x::f.params.drop (i+1):=by
      rw [List.drop_eq_getElem_cons i1];congr 1
      have:=List.getElem?_eq_getElem i1
      rw [Int.toNat_natCast,this] at hx';exact Option.some.inj hx'
     have e2:e.args.drop i=a::e.args.drop (i+1):=by
      rw [List.drop_eq_getElem_cons i2];congr 1
      have:=List.getElem?_eq_getElem i2
      rw [Int.toNat_natCast,this] at ha';exact Option.some.inj ha'
     rw [e1,e2] at hN
     exact hN
  refine Ev.down 1 ((ih.and (Lv (f.params.length+1))).mono fun N hN=>?_)
  show A7 _ N p.funcs c m mp e ρ=_
  rw [Kg (lt c h)];unfold CX;rw [ho]
  show ((idx p.funcs (Cm mp e.name)).bind fun x1151=>GI _ p.funcs c m mp e ρ x1151 N Nm.nil 0)=_
  rw [hmp _ _ hf,Option.bind_some]
  exact loop N N 0 .nil om om hN.1
 | @cons c e ρ a b h ho ha=>
  refine Ev.down 1 (Ev.all fun N=>?_)
  show A7 _ N p.funcs c m mp e ρ=_
  rw [Kg (lt c h)];unfold CX;rw [ho,w1 c h,ha];rfl
 | @ifE c e ρ a b d y c' h ho ha _ ih=>
  refine Ev.down 2 (ih.mono fun N hN=>?_)
  show A7 _ (N+1) p.funcs c m mp e ρ=_
  rw [Kg (lt c h),JA om,w1 c h]
  show A0 (AZ.at N) N p.funcs ((c+1:Nat):Int) m mp e ρ=_
  unfold A0;rw [ho,ha]
  show ((mean_run_look N p.funcs ((c+1:Nat):Int) m mp a ρ).bind fun x51=>_)=_
  rw [hN];rfl
 | @ifT c e ρ a b d x c1 r c' h ho ha _ hb _ ih1 ih2=>
  refine Ev.down 2 ((ih1.and ih2).mono fun N hN=>?_)
  show A7 _ (N+1) p.funcs c m mp e ρ=_
  rw [Kg (lt c h),JA om,w1 c h]
  show A0 (AZ.at N) N p.funcs ((c+1:Nat):Int) m mp e ρ=_
  unfold A0;rw [ho,ha]
  show ((mean_run_look N p.funcs ((c+1:Nat):Int) m mp a ρ).bind fun x51=>JO x51.1 _ fun r67=>bif r67.plain.bool then _ else _)=_
  rw [hN.1,Option.bind_some]
  show (bif x.plain.bool then ((mean_run_look N p.funcs (c1:Int) m mp b ρ).bind fun x107=>_) else _)=_
  rw [hb,cond_true,hN.2]
  exact PC _ _
 | @ifF c e ρ a b d x c1 r c' h ho ha _ hb _ ih1 ih2=>
  refine Ev.down 2 ((ih1.and ih2).mono fun N hN=>?_)
  show A7 _ (N+1) p.funcs c m mp e ρ=_
  rw [Kg (lt c h),JA om,w1 c h]
  show A0 (AZ.at N) N p.funcs ((c+1:Nat):Int) m mp e ρ=_
  unfold A0;rw [ho,ha]
  show ((mean_run_look N p.funcs ((c+1:Nat):Int) m mp a ρ).bind fun x51=>JO x51.1 _ fun r67=>bif r67.plain.bool then _ else _)=_
  rw [hN.1,Option.bind_some]
  show (bif x.plain.bool then _ else ((mean_run_look N p.funcs (c1:Int) m mp d ρ).bind fun x107=>_))=_
  rw [hb,cond_false,hN.2]
  exact PC _ _
 | @caE c e ρ a b d y c' h ho ha _ ih=>
  refine Ev.down 2 (ih.mono fun N hN=>?_)
  show A7 _ (N+1) p.funcs c m mp e ρ=_
  rw [Kg (lt c h),JA om,w1 c h]
  show A0 (AZ.at N) N p.funcs ((c+1:Nat):Int) m mp e ρ=_
  unfold A0;rw [ho,ha]
  show ((mean_run_look N p.funcs ((c+1:Nat):Int) m mp a ρ).bind fun x51=>_)=_
  rw [hN];rfl
 | @caN c e ρ a b d x c1 r c' h ho ha _ hb _ ih1 ih2=>
  refine Ev.down 2 ((ih1.and ih2).mono fun N hN=>?_)
  show A7 _ (N+1) p.funcs c m mp e ρ=_
  rw [Kg (lt c h),JA om,w1 c h]
  show A0 (AZ.at N) N p.funcs ((c+1:Nat):Int) m mp e ρ=_
  unfold A0;rw [ho,ha]
  show ((mean_run_look N p.funcs ((c+1:Nat):Int) m mp a ρ).bind fun x51=>JO x51.1 _ fun r67=>bif Th.isNil r67.head then _ else _)=_
  rw [hN.1,Option.bind_some]
  show (bif Th.isNil x.head then ((mean_run_look N p.funcs (c1:Int) m mp b ρ).bind fun x107=>_) else _)=_
  rw [hb,cond_true,hN.2]
  exact PC _ _
 | @caC c e ρ a b d x c1 r c' h ho ha _ hb _ ih1 ih2=>
  refine Ev.down 2 ((ih1.and ih2).mono fun N hN=>?_)
  show A7 _ (N+1) p.funcs c m mp e ρ=_
  rw [Kg (lt c h),JA om,w1 c h]
  show A0 (AZ.at N) N p.funcs ((c+1:Nat):Int) m mp e ρ=_
  unfold A0;rw [ho,ha]
  show ((mean_run_look N p.funcs ((c+1:Nat):Int) m mp a ρ).bind fun x51=>JO x51.1 _ fun r67=>bif Th.isNil r67.head then _ else _)=_
  rw [hN.1,Option.bind_some]
  show (bif Th.isNil x.head then _ else ((mean_run_look N p.funcs (c1:Int) m mp d (.bind e.tail x.tail (.bind e.name x.head ρ))).bind fun x107=>_))=_
  rw [hb,cond_false,hN.2]
  exact PC _ _
 | @lt c e ρ a b r c' h ho ha _ ih=>
  refine Ev.down 2 (ih.mono fun N hN=>?_)
  show A7 _ (N+1) p.funcs c m mp e ρ=_
  rw [Kg (lt c h),JA om,w1 c h]
  show A0 (AZ.at N) N p.funcs ((c+1:Nat):Int) m mp e ρ=_
  unfold A0;rw [ho,ha]
  have ea:JD a=some a:=rfl
  rw [show ((21:Int)==19)=false from rfl,cond_false,show ((21:Int)==20)=false from rfl,cond_false,show ((21:Int)==21)=true from rfl,cond_true,show idx [a,b] 0=some a from rfl,Option.bind_some,ea,Option.bind_some,show idx [a,b] 1=some b from rfl,Option.bind_some]
  show ((mean_run_look N p.funcs ((c+1:Nat):Int) m mp b (.letrec e.name a ρ)).bind fun x662=>_)=_
  rw [hN]
  exact PC _ _
 | @stE c e ρ a b y c' h ho ha _ ih=>
  refine Ev.down 2 (ih.mono fun N hN=>?_)
  show A7 _ (N+1) p.funcs c m mp e ρ=_
  rw [Kg (lt c h),JA om,w1 c h]
  show A0 (AZ.at N) N p.funcs ((c+1:Nat):Int) m mp e ρ=_
  unfold A0;rw [ho,ha]
  show ((mean_run_look N p.funcs ((c+1:Nat):Int) m mp a ρ).bind fun x51=>_)=_
  rw [hN];rfl
 | @stV c e ρ a b x c1 r c' h ho ha _ _ ih1 ih2=>
  refine Ev.down 2 ((ih1.and ih2).mono fun N hN=>?_)
  show A7 _ (N+1) p.funcs c m mp e ρ=_
  rw [Kg (lt c h),JA om,w1 c h]
  show A0 (AZ.at N) N p.funcs ((c+1:Nat):Int) m mp e ρ=_
  unfold A0;rw [ho,ha]
  show ((mean_run_look N p.funcs ((c+1:Nat):Int) m mp a ρ).bind fun x51=>_)=_
  rw [hN.1,Option.bind_some]
  show ((mean_run_look N p.funcs (c1:Int) m mp b (.bind e.name (.done x.plain x.head x.tail) ρ)).bind fun x107=>_)=_
  rw [hN.2]
  exact PC _ _
 | @unE c e ρ a y c' h ho ha _ ih=>
  refine Ev.down 5 ((ih.up 3).mono fun N hN=>?_)
  show A7 _ (N+4) p.funcs c m mp e ρ=_
  rw [Kg (lt c h),JA om,w1 c h]
  show A0 (AZ.at (N+3)) (N+3) p.funcs ((c+1:Nat):Int) m mp e ρ=_
  unfold A0
  rw [show (e.op==19)=false by simp;omega,show (e.op==20)=false by simp;omega,show (e.op==21)=false by simp;omega,show (e.op==22)=false by simp;omega]
  show BM _ (N+3) mp e ρ _ [] 0 p.funcs ((c+1:Nat):Int) m=_
  unfold BM
  rw [ha]
  show ((mean_run_look (N+3) p.funcs ((c+1:Nat):Int) m mp a ρ).bind fun x51=>_)=_
  rw [hN];rfl
 | @un c e ρ a x c' r h ho ha _ hr ih=>
  refine Ev.down 5 (((ih.up 3).and (Lv (2^54))).mono fun N hN=>?_)
  show A7 _ (N+4) p.funcs c m mp e ρ=_
  rw [Kg (lt c h),JA om,w1 c h]
  show A0 (AZ.at (N+3)) (N+3) p.funcs ((c+1:Nat):Int) m mp e ρ=_
  unfold A0
  rw [show (e.op==19)=false by simp;omega,show (e.op==20)=false by simp;omega,show (e.op==21)=false by simp;omega,show (e.op==22)=false by simp;omega]
  have hA:=(hr (N+3) (by have:=hN.2;omega)).1
  generalize hop:e.op=op at*
  show BM _ (N+3) mp e ρ (DN (AZ.at (N+3)) (N+3) mp e ρ (N+2)) [] 0 p.funcs ((c+1:Nat):Int) m=_
  unfold BM
  rw [ha]
  show ((mean_run_look (N+3) p.funcs ((c+1:Nat):Int) m mp a ρ).bind fun x51=>_)=_
  rw [hN.1,Option.bind_some]
  show BM _ (N+3) mp e ρ (DN (AZ.at (N+3)) (N+3) mp e ρ (N+1)) [x.plain] 1 p.funcs (c':Int) m=_
  unfold BM
  rw [ha,hop]
  show ((D7 (N+3) op [x.plain]).bind fun x1312=>bif (x1312.2 != 0) then _ else _)=_
  rw [hA,Option.bind_some,fin]
  cases (r.2 != 0)<;>rfl
 | @biE c e ρ a b y c' h ho ha _ ih=>
  refine Ev.down 5 ((ih.up 3).mono fun N hN=>?_)
  show A7 _ (N+4) p.funcs c m mp e ρ=_
  rw [Kg (lt c h),JA om,w1 c h]
  show A0 (AZ.at (N+3)) (N+3) p.funcs ((c+1:Nat):Int) m mp e ρ=_
  unfold A0
  rw [show (e.op==19)=false by simp;omega,show (e.op==20)=false by simp;omega,show (e.op==21)=false by simp;omega,show (e.op==22)=false by simp;omega]
  show BM _ (N+3) mp e ρ _ [] 0 p.funcs ((c+1:Nat):Int) m=_
  unfold BM
  rw [ha]
  show ((mean_run_look (N+3) p.funcs ((c+1:Nat):Int) m mp a ρ).bind fun x51=>_)=_
  rw [hN];rfl
 | @biE2 c e ρ a b x c1 y c' h ho ha _ _ ih1 ih2=>
  refine Ev.down 5 (((ih1.up 3).and (ih2.up 3)).mono fun N hN=>?_)
  show A7 _ (N+4) p.funcs c m mp e ρ=_
  rw [Kg (lt c h),JA om,w1 c h]
  show A0 (AZ.at (N+3)) (N+3) p.funcs ((c+1:Nat):Int) m mp e ρ=_
  unfold A0
  rw [show (e.op==19)=false by simp;omega,show (e.op==20)=false by simp;omega,show (e.op==21)=false by simp;omega,show (e.op==22)=false by simp;omega]
  show BM _ (N+3) mp e ρ (DN (AZ.at (N+3)) (N+3) mp e ρ (N+2)) [] 0 p.funcs ((c+1:Nat):Int) m=_
  unfold BM
  rw [ha]
  show ((mean_run_look (N+3) p.funcs ((c+1:Nat):Int) m mp a ρ).bind fun x51=>_)=_
  rw [hN.1,Option.bind_some]
  show BM _ (N+3) mp e ρ (DN (AZ.at (N+3)) (N+3) mp e ρ (N+1)) [x.plain] 1 p.funcs (c1:Int) m=_
  unfold BM
  rw [ha]
  show ((mean_run_look (N+3) p.funcs (c1:Int) m mp b ρ).bind fun x51=>_)=_
  rw [hN.2];rfl
 | @bi c e ρ a b x c1 z c' r h ho ha _ _ hr ih1 ih2=>
  refine Ev.down 5 ((((ih1.up 3).and (ih2.up 3)).and (Lv (2^54))).mono fun N hN=>?_)
  show A7 _ (N+4) p.funcs c m mp e ρ=_
  rw [Kg (lt c h),JA om,w1 c h]
  show A0 (AZ.at (N+3)) (N+3) p.funcs ((c+1:Nat):Int) m mp e ρ=_
  unfold A0
  rw [show (e.op==19)=false by simp;omega,show (e.op==20)=false by simp;omega,show (e.op==21)=false by simp;omega,show (e.op==22)=false by simp;omega]
  have hA:=(hr (N+3) (by have:=hN.2;omega)).1
  generalize hop:e.op=op at*
  show BM _ (N+3) mp e ρ (DN (AZ.at (N+3)) (N+3) mp e ρ (N+2)) [] 0 p.funcs ((c+1:Nat):Int) m=_
  unfold BM
  rw [ha]
  show ((mean_run_look (N+3) p.funcs ((c+1:Nat):Int) m mp a ρ).bind fun x51=>_)=_
  rw [hN.1.1,Option.bind_some]
  show BM _ (N+3) mp e ρ (DN (AZ.at (N+3)) (N+3) mp e ρ (N+1)) [x.plain] 1 p.funcs (c1:Int) m=_
  unfold BM
  rw [ha]
  show ((mean_run_look (N+3) p.funcs (c1:Int) m mp b ρ).bind fun x51=>_)=_
  rw [hN.1.2,Option.bind_some]
  show BM _ (N+3) mp e ρ (DN (AZ.at (N+3)) (N+3) mp e ρ N) [x.plain,z.plain] 2 p.funcs (c':Int) m=_
  unfold BM
  rw [ha,hop]
  show ((D7 (N+3) op [x.plain,z.plain]).bind fun x1312=>bif (x1312.2 != 0) then _ else _)=_
  rw [hA,Option.bind_some,fin]
  cases (r.2 != 0)<;>rfl
end
end Fth
namespace Fth
open Go
def th0:Th:= .later ⟨0,[],[],0,(0,0),[],0⟩ .nil
def f0:AE:=⟨[],[],0,⟨0,[],[],0,(0,0),[],0⟩,0⟩
def hdR(o:Option AE):AE×Bool:=match o with |some f=>(f,true)|none=>(f0,false)
theorem LN{α:Type}{l:List α}{i:Nat}{x:α}(h:l[i]?=some x):l.drop i=x::l.drop (i+1):=by
 obtain ⟨hi,rfl⟩:=List.getElem?_eq_some_iff.1 h
 exact List.drop_eq_getElem_cons hi
theorem QS{p:AM}{nm:List UInt8}{N:Nat}(hl:p.funcs.length≤1000000)(hN:p.funcs.length+2≤N):Ey N p nm=some (hdR (hd p nm)):=by
 have loop: ∀(k i:Nat),i≤p.funcs.length→p.funcs.length<i+k→JI p nm k (i:Int)=some (hdR ((p.funcs.drop i).find? fun f=>f.name==nm)):=by
  intro k
  induction k with
  |zero=>intro i _ _;omega
  |succ k ih=>
   intro i hi hk
   show KW p nm (JI p nm k) i=_
   unfold KW
   cases hc:decide ((i:Int)< (p.funcs.length:Int))
   ·have hc:=Db hc
    rw [cond_false,List.drop_eq_nil_of_le om];rfl
   ·have hc:=CI hc
    obtain ⟨f,hf,hf'⟩:=FW (xs:=p.funcs) (i:=(i:Int)) om hc
    rw [cond_true,hf,Option.bind_some,wr om om,show (i:Int)+1=((i+1:Nat):Int) by omega,LN (by rwa [Int.toNat_natCast] at hf'),List.find?_cons]
    cases hn:(f.name==nm)
    ·rw [cond_false]
     exact ih (i+1) om om
    ·rfl
 have:=loop N 0 om om
 rw [List.drop_zero] at this
 exact this
def rth:Except Int Ao→Th
 | .ok x=> .done x.plain x.head x.tail
 | .error _=>th0
def rwy:Except Int Ao→Int
 | .ok _=>0
 | .error y=>y
section
variable{p:AM}{m:Nat}
theorem PD{c:Nat}{e:AB}{ρ:Nm}{r:Except Int Ao}{c':Nat}(h:Lk p m c e ρ r c'): ∀y,r= .error y→y≠0:=by
 induction h with
 |fuel=>rintro y ⟨⟩;decide
 |fail=>rintro y ⟨⟩;decide
 |num=>rintro y ⟨⟩
 |tru=>rintro y ⟨⟩
 |fls=>rintro y ⟨⟩
 |nil=>rintro y ⟨⟩
 |vdone=>rintro y ⟨⟩
 |cons=>rintro y ⟨⟩
 |vlater _ _ _ _ ih=>exact ih
 |call _ _ _ _ _ ih=>exact ih
 |ifE _ _ _ _ ih=>exact ih
 |ifT _ _ _ _ _ _ _ ih=>exact ih
 |ifF _ _ _ _ _ _ _ ih=>exact ih
 |caE _ _ _ _ ih=>exact ih
 |caN _ _ _ _ _ _ _ ih=>exact ih
 |caC _ _ _ _ _ _ _ ih=>exact ih
 |lt _ _ _ _ ih=>exact ih
 |stE _ _ _ _ ih=>exact ih
 |stV _ _ _ _ _ _ ih=>exact ih
 |unE _ _ _ _ ih=>exact ih
 |biE _ _ _ _ ih=>exact ih
 |biE2 _ _ _ _ _ _ ih=>exact ih
 | @un c e ρ a x c' r=>
  intro y hy
  unfold fin at hy
  cases hr:(r.2 != 0)
  ·rw [hr] at hy;cases hy
  ·rw [hr] at hy;cases hy;exact Lo hr
 | @bi c e ρ a b x c1 z c' r=>
  intro y hy
  unfold fin at hy
  cases hr:(r.2 != 0)
  ·rw [hr] at hy;cases hy
  ·rw [hr] at hy;cases hy;exact Lo hr
theorem XM{N:Nat}{c y:Int}{e:AB}{ρ:Nm}(hy:y≠0):ref11_Machine_look (N+1) ⟨p,m,c,y⟩ e ρ=some (th0,⟨p,m,c,y⟩):=by
 show BJ _ N ⟨p,m,c,y⟩ e ρ=_
 unfold BJ
 rw [show (((Ai.mk p m c y).why != 0))=true by simpa using hy];rfl
theorem QT{φ:AU}{N c:Nat}{e:AB}{ρ:Nm}(h:c<m)(h1:e.op≠1):BJ φ N ⟨p,m,c,0⟩ e ρ=CF φ N ⟨p,m,c,0⟩ e ρ (bif e.op==2 then e.op==2 else e.op==3):=by
 unfold BJ
 rw [show (((Ai.mk p m c 0).why != 0))=false from rfl,cond_false,show decide ((Ai.mk p m c 0).cost≥(Ai.mk p m c 0).most)=false from decide_eq_false (by simp only;omega),cond_false,show (e.op==1)=false by simpa using h1,cond_false]
 cases (e.op==2)<;>rfl
theorem ABW{φ:AU}{N c:Nat}{e:AB}{ρ:Nm}(h:c<m)(hm:m≤16384)(ho:(8≤e.op∧e.op≤17)∨(19≤e.op∧e.op≤22)):BJ φ N ⟨p,m,c,0⟩ e ρ=φ.ref11_Machine_inside ⟨p,m,((c+1:Nat):Int),0⟩ e ρ:=by
 rw [QT h om,show (e.op==2)=false by simp;omega,show (e.op==3)=false by simp;omega]
 unfold CF
 rw [cond_false,cond_false,show (e.op==4)=false by simp;omega,show (e.op==5)=false by simp;omega,show (e.op==6)=false by simp;omega,show (e.op==7)=false by simp;omega,show (e.op==18)=false by simp;omega]
 simp only [cond_false]
 rw [wr om om,show (c:Int)+1=((c+1:Nat):Int) by omega]
 show ((φ.ref11_Machine_inside ⟨p,m,((c+1:Nat):Int),0⟩ e ρ).bind fun x824=>some (x824.1,x824.2))=_
 cases φ.ref11_Machine_inside ⟨p,m,((c+1:Nat):Int),0⟩ e ρ<;>rfl
theorem Wz(hp:WP p)(hm:m≤16384){c:Nat}{e:AB}{ρ:Nm}{r:Except Int Ao}{c':Nat}(h:Lk p m c e ρ r c'):
  Ev fun N=>ref11_Machine_look N ⟨p,m,c,0⟩ e ρ=some (rth r,⟨p,m,c',rwy r⟩):=by
 have w1: ∀c:Nat,c<m→IntKind.i64.wrap ((c:Int)+1)=((c+1:Nat):Int):=fun c h=>by rw [wr om om];omega
 have go: ∀{c:Nat} {e:AB} {ρ:Nm} {r:Except Int Ao} {c':Nat},c<m→(8≤e.op∧e.op≤17)∨(19≤e.op∧e.op≤22)→(Ev fun N=>BQ (AU.at N) N ⟨p,m,((c+1:Nat):Int),0⟩ e ρ=some (rth r,⟨p,m,c',rwy r⟩))→
   Ev fun N=>ref11_Machine_look N ⟨p,m,c,0⟩ e ρ=some (rth r,⟨p,m,c',rwy r⟩):=fun {c e ρ r c'} h ho hE=>by
  refine Ev.down 2 (hE.mono fun N hN=>?_)
  show BJ (AU.at (N+1)) (N+1) ⟨p,m,c,0⟩ e ρ=_
  rw [ABW h hm ho]
  exact hN
 induction h with
 | @fuel c e ρ h=>
  refine Ev.down 1 (Ev.all fun N=>?_)
  show BJ _ N ⟨p,m,c,0⟩ e ρ=_
  unfold BJ
  rw [show (((Ai.mk p m c 0).why != 0))=false from rfl,cond_false,show decide ((Ai.mk p m c 0).cost≥(Ai.mk p m c 0).most)=true from decide_eq_true (by simp only;omega)];rfl
 | @num c e ρ h ho=>
  refine Ev.down 1 (Ev.all fun N=>?_)
  show BJ _ N ⟨p,m,c,0⟩ e ρ=_
  unfold BJ
  rw [show (((Ai.mk p m c 0).why != 0))=false from rfl,cond_false,show decide ((Ai.mk p m c 0).cost≥(Ai.mk p m c 0).most)=false from decide_eq_false (by simp only;omega),ho,w1 c h];rfl
 | @tru c e ρ h ho=>
  refine Ev.down 1 (Ev.all fun N=>?_)
  show BJ _ N ⟨p,m,c,0⟩ e ρ=_
  rw [QT h om];unfold CF;rw [ho,w1 c h];rfl
 | @fls c e ρ h ho=>
  refine Ev.down 1 (Ev.all fun N=>?_)
  show BJ _ N ⟨p,m,c,0⟩ e ρ=_
  rw [QT h om];unfold CF;rw [ho,w1 c h];rfl
 | @nil c e ρ h ho=>
  refine Ev.down 1 (Ev.all fun N=>?_)
  show BJ _ N ⟨p,m,c,0⟩ e ρ=_
  rw [QT h om];unfold CF;rw [ho,w1 c h];rfl
 | @fail c e ρ h ho=>
  refine Ev.down 1 (Ev.all fun N=>?_)
  show BJ _ N ⟨p,m,c,0⟩ e ρ=_
  rw [QT h om];unfold CF;rw [ho,w1 c h];rfl
 | @vdone c e ρ x h ho hf=>
  refine Ev.down 2 (((SN hf).up 1).mono fun N hN=>?_)
  show BJ _ (N+1) ⟨p,m,c,0⟩ e ρ=_
  rw [QT h om];unfold CF;rw [ho,w1 c h]
  show ((MF (N+1) ρ e.name).bind fun x132=>_)=_
  rw [hN.2];rfl
 | @vlater c e ρ e' ρ' r c' h ho hf _ ih=>
  refine Ev.down 2 ((((SN hf).up 1).and ih).mono fun N hN=>?_)
  show BJ _ (N+1) ⟨p,m,c,0⟩ e ρ=_
  rw [QT h om];unfold CF;rw [ho,w1 c h]
  show ((MF (N+1) ρ e.name).bind fun x132=>_)=_
  rw [hN.1.2]
  show (((ref11_Machine_look N ⟨p,m,((c+1:Nat):Int),0⟩ e' ρ').bind fun x131=>some (x131.1,x131.2)).bind fun x142=>some (x142.1,x142.2))=_
  rw [hN.2];rfl
 | @call c e ρ f r c' h ho hf hl _ ih=>
  have hfm:f∈p.funcs:=List.mem_of_find?_eq_some hf
  have hps:=(hp.fns f hfm).pars
  have hpl:=hp.len
  have loop: ∀(N k i:Nat) (acc:Nm),i≤f.params.length→f.params.length<i+k→ref11_Machine_look N ⟨p,m,((c+1:Nat):Int),0⟩ f.body (QQ ρ (f.params.drop i) (e.args.drop i) acc)=some (rth r,⟨p,m,c',rwy r⟩)→
    Iq (AU.at N) ⟨p,m,c,0⟩ e ρ f.params f.body.op f.body.name f.body.tail f.body.type_ f.body.num f.body.args f.body.at_ k acc (i:Int)=some (rth r,⟨p,m,c',rwy r⟩):=by
   intro N k
   induction k with
   |zero=>intro i acc _ _;omega
   |succ k ihk=>
    intro i acc hi hk hN
    show Jz _ ⟨p,m,c,0⟩ e ρ f.params f.body.op f.body.name f.body.tail f.body.type_ f.body.num f.body.args f.body.at_ (Iq _ ⟨p,m,c,0⟩ e ρ f.params f.body.op f.body.name f.body.tail f.body.type_ f.body.num f.body.args f.body.at_ k) acc i=_
    unfold Jz
    cases hd':decide ((i:Int)< (e.args.length:Int))
    ·have hd':=Db hd'
     have hi':i=f.params.length:=om
     rw [cond_false,w1 c h,O9]
     have e1:f.params.drop i=[]:=by rw [hi'];exact List.drop_length
     rw [e1] at hN
     have e2:QQ ρ [] (e.args.drop i) acc=acc:=by cases e.args.drop i<;>rfl
     rw [e2] at hN
     show ((ref11_Machine_look N ⟨p,m,((c+1:Nat):Int),0⟩ f.body acc).bind fun x493=>_)=_
     rw [hN];rfl
    ·have hd':=CI hd'
     have i1:i<f.params.length:=om
     obtain ⟨x,hx,hx'⟩:=FW (xs:=f.params) (i:=(i:Int)) om om
     obtain ⟨a,ha,ha'⟩:=FW (xs:=e.args) (i:=(i:Int)) om hd'
     rw [cond_true,hx,Option.bind_some,ha,Option.bind_some,wr om om,show (i:Int)+1=((i+1:Nat):Int) by omega]
     refine ihk (i+1) (.bind x.name (.later a ρ) acc) om om ?_
     rw [Int.toNat_natCast] at hx' ha'
     rw [LN hx',LN ha'] at hN
     exact hN
  refine Ev.down 1 ((ih.and (Lv (f.params.length+p.funcs.length+2))).mono fun N hN=>?_)
  show BJ _ N ⟨p,m,c,0⟩ e ρ=_
  rw [QT h om];unfold CF;rw [ho]
  show ((Ey N p e.name).bind fun x551=>Lt (AU.at N) N ⟨p,m,c,0⟩ e ρ x551.1.params x551.1.body.op x551.1.body.name x551.1.body.tail x551.1.body.type_ x551.1.body.num x551.1.body.args x551.1.body.at_)=_
  rw [QS om om,hf,Option.bind_some]
  exact loop N N 0 .nil om om hN.1
 | @cons c e ρ a b h ho ha=>
  refine Ev.down 1 (Ev.all fun N=>?_)
  show BJ _ N ⟨p,m,c,0⟩ e ρ=_
  rw [QT h om];unfold CF Lu;rw [ho,w1 c h,ha];rfl
 | @ifE c e ρ a b d y c' h ho ha h1 ih=>
  have hy:=PD h1 y rfl
  refine go h om (Ev.down 1 ((ih.up 1).mono fun N hN=>?_))
  unfold BQ;rw [ho,ha]
  show ((ref11_Machine_look (N+1) ⟨p,m,((c+1:Nat):Int),0⟩ a ρ).bind fun x44=>_)=_
  rw [hN]
  show ((ref11_Machine_look (N+1) ⟨p,m,c',y⟩ d ρ).bind fun x154=>_)=_
  rw [XM hy];rfl
 | @ifT c e ρ a b d x c1 r c' h ho ha _ hb _ ih1 ih2=>
  refine go h om ((ih1.and ih2).mono fun N hN=>?_)
  unfold BQ;rw [ho,ha]
  show ((ref11_Machine_look N ⟨p,m,((c+1:Nat):Int),0⟩ a ρ).bind fun x44=>_)=_
  rw [hN.1]
  show (bif x.plain.bool then ((ref11_Machine_look N ⟨p,m,c1,0⟩ b ρ).bind fun x154=>some (x154.1,x154.2)) else _)=_
  rw [hb,cond_true,hN.2];rfl
 | @ifF c e ρ a b d x c1 r c' h ho ha _ hb _ ih1 ih2=>
  refine go h om ((ih1.and ih2).mono fun N hN=>?_)
  unfold BQ;rw [ho,ha]
  show ((ref11_Machine_look N ⟨p,m,((c+1:Nat):Int),0⟩ a ρ).bind fun x44=>_)=_
  rw [hN.1]
  show (bif x.plain.bool then _ else ((ref11_Machine_look N ⟨p,m,c1,0⟩ d ρ).bind fun x154=>some (x154.1,x154.2)))=_
  rw [hb,cond_false,hN.2];rfl
 | @caE c e ρ a b d y c' h ho ha h1 ih=>
  have hy:=PD h1 y rfl
  refine go h om (Ev.down 1 ((ih.up 1).mono fun N hN=>?_))
  unfold BQ;rw [ho,ha]
  show ((ref11_Machine_look (N+1) ⟨p,m,((c+1:Nat):Int),0⟩ a ρ).bind fun x44=>_)=_
  rw [hN,Option.bind_some]
  show (bif (y != 0) then DT (AU.at (N+1)) e ρ (th0,⟨p,m,c',y⟩) true else _)=_
  rw [show (y != 0)=true by simpa using hy,cond_true]
  unfold DT
  rw [ha]
  show ((ref11_Machine_look (N+1) ⟨p,m,c',y⟩ b ρ).bind fun x273=>_)=_
  rw [XM hy];rfl
 | @caN c e ρ a b d x c1 r c' h ho ha _ hb _ ih1 ih2=>
  refine go h om ((ih1.and ih2).mono fun N hN=>?_)
  unfold BQ;rw [ho,ha]
  show ((ref11_Machine_look N ⟨p,m,((c+1:Nat):Int),0⟩ a ρ).bind fun x44=>_)=_
  rw [hN.1,Option.bind_some]
  show DT (AU.at N) e ρ (.done x.plain x.head x.tail,⟨p,m,c1,0⟩) (!!x.head.isNil)=_
  unfold DT
  rw [ha,hb]
  show ((ref11_Machine_look N ⟨p,m,c1,0⟩ b ρ).bind fun x273=>_)=_
  rw [hN.2];rfl
 | @caC c e ρ a b d x c1 r c' h ho ha _ hb _ ih1 ih2=>
  refine go h om ((ih1.and ih2).mono fun N hN=>?_)
  unfold BQ;rw [ho,ha]
  show ((ref11_Machine_look N ⟨p,m,((c+1:Nat):Int),0⟩ a ρ).bind fun x44=>_)=_
  rw [hN.1,Option.bind_some]
  show DT (AU.at N) e ρ (.done x.plain x.head x.tail,⟨p,m,c1,0⟩) (!!x.head.isNil)=_
  unfold DT
  rw [ha,hb]
  show ((ref11_Machine_look N ⟨p,m,c1,0⟩ d (.bind e.tail x.tail (.bind e.name x.head ρ))).bind fun x273=>_)=_
  rw [hN.2];rfl
 | @lt c e ρ a b r c' h ho ha _ ih=>
  refine go h om (ih.mono fun N hN=>?_)
  unfold BQ
  rw [ho,ha,show ((21:Int)==19)=false from rfl,cond_false,show ((21:Int)==20)=false from rfl,cond_false,show ((21:Int)==21)=true from rfl,cond_true,show idx [a,b] 0=some a from rfl,Option.bind_some,show idx [a,b] 1=some b from rfl,Option.bind_some]
  show ((ref11_Machine_look N ⟨p,m,((c+1:Nat):Int),0⟩ b (.letrec e.name a ρ)).bind fun x735=>_)=_
  rw [hN];rfl
 | @stE c e ρ a b y c' h ho ha h1 ih=>
  have hy:=PD h1 y rfl
  refine go h om (Ev.down 1 ((ih.up 1).mono fun N hN=>?_))
  unfold BQ;rw [ho,ha]
  show ((ref11_Machine_look (N+1) ⟨p,m,((c+1:Nat):Int),0⟩ a ρ).bind fun x44=>_)=_
  rw [hN]
  show ((ref11_Machine_look (N+1) ⟨p,m,c',y⟩ b (.bind e.name th0 ρ)).bind fun x154=>_)=_
  rw [XM hy];rfl
 | @stV c e ρ a b x c1 r c' h ho ha _ _ ih1 ih2=>
  refine go h om ((ih1.and ih2).mono fun N hN=>?_)
  unfold BQ;rw [ho,ha]
  show ((ref11_Machine_look N ⟨p,m,((c+1:Nat):Int),0⟩ a ρ).bind fun x44=>_)=_
  rw [hN.1]
  show ((ref11_Machine_look N ⟨p,m,c1,0⟩ b (.bind e.name (.done x.plain x.head x.tail) ρ)).bind fun x154=>_)=_
  rw [hN.2];rfl
 | @unE c e ρ a y c' h ho ha h1 ih=>
  have hy:=PD h1 y rfl
  refine go h om (Ev.down 3 ((ih.up 3).mono fun N hN=>?_))
  unfold BQ
  rw [show (e.op==19)=false by simp;omega,show (e.op==20)=false by simp;omega,show (e.op==21)=false by simp;omega,show (e.op==22)=false by simp;omega]
  show Au (AU.at (N+3)) (N+3) e ρ (BT (AU.at (N+3)) (N+3) e ρ (N+2)) [] 0 p.funcs m ((c+1:Nat):Int) 0=_
  unfold Au
  rw [ha]
  show ((ref11_Machine_look (N+3) ⟨p,m,((c+1:Nat):Int),0⟩ a ρ).bind fun x44=>_)=_
  rw [hN,Option.bind_some]
  show Au (AU.at (N+3)) (N+3) e ρ (BT (AU.at (N+3)) (N+3) e ρ (N+1)) [Nk] 1 p.funcs m c' y=_
  unfold Au
  rw [ha]
  show (bif (y != 0) then _ else _)=_
  rw [show (y != 0)=true by simpa using hy];rfl
 | @un c e ρ a x c' r h ho ha _ hr ih=>
  refine go h om (Ev.down 3 (((ih.up 3).and (Lv (2^54))).mono fun N hN=>?_))
  unfold BQ
  rw [show (e.op==19)=false by simp;omega,show (e.op==20)=false by simp;omega,show (e.op==21)=false by simp;omega,show (e.op==22)=false by simp;omega]
  have hA:=(hr (N+3) (by have:=hN.2;omega)).2
  generalize hop:e.op=op at*
  show Au (AU.at (N+3)) (N+3) e ρ (BT (AU.at (N+3)) (N+3) e ρ (N+2)) [] 0 p.funcs m ((c+1:Nat):Int) 0=_
  unfold Au
  rw [ha]
  show ((ref11_Machine_look (N+3) ⟨p,m,((c+1:Nat):Int),0⟩ a ρ).bind fun x44=>_)=_
  rw [hN.1,Option.bind_some]
  show Au (AU.at (N+3)) (N+3) e ρ (BT (AU.at (N+3)) (N+3) e ρ (N+1)) [x.plain] 1 p.funcs m c' 0=_
  unfold Au
  rw [ha,hop]
  show ((Gv (N+3) op [x.plain]).bind fun x1299=>bif (x1299.2 != 0) then _ else _)=_
  rw [hA,Option.bind_some,fin]
  cases (r.2 != 0)<;>rfl
 | @biE c e ρ a b y c' h ho ha h1 ih=>
  have hy:=PD h1 y rfl
  refine go h om (Ev.down 3 ((ih.up 3).mono fun N hN=>?_))
  unfold BQ
  rw [show (e.op==19)=false by simp;omega,show (e.op==20)=false by simp;omega,show (e.op==21)=false by simp;omega,show (e.op==22)=false by simp;omega]
  show Au (AU.at (N+3)) (N+3) e ρ (BT (AU.at (N+3)) (N+3) e ρ (N+2)) [] 0 p.funcs m ((c+1:Nat):Int) 0=_
  unfold Au
  rw [ha]
  show ((ref11_Machine_look (N+3) ⟨p,m,((c+1:Nat):Int),0⟩ a ρ).bind fun x44=>_)=_
  rw [hN,Option.bind_some]
  show Au (AU.at (N+3)) (N+3) e ρ (BT (AU.at (N+3)) (N+3) e ρ (N+1)) [Nk] 1 p.funcs m c' y=_
  unfold Au
  rw [ha]
  show ((ref11_Machine_look (N+3) ⟨p,m,c',y⟩ b ρ).bind fun x44=>_)=_
  rw [XM hy,Option.bind_some]
  show Au (AU.at (N+3)) (N+3) e ρ (BT (AU.at (N+3)) (N+3) e ρ N) [Nk,Nk] 2 p.funcs m c' y=_
  unfold Au
  rw [ha]
  show (bif (y != 0) then _ else _)=_
  rw [show (y != 0)=true by simpa using hy];rfl
 | @biE2 c e ρ a b x c1 y c' h ho ha _ h2 ih1 ih2=>
  have hy:=PD h2 y rfl
  refine go h om (Ev.down 3 (((ih1.up 3).and (ih2.up 3)).mono fun N hN=>?_))
  unfold BQ
  rw [show (e.op==19)=false by simp;omega,show (e.op==20)=false by simp;omega,show (e.op==21)=false by simp;omega,show (e.op==22)=false by simp;omega]
  show Au (AU.at (N+3)) (N+3) e ρ (BT (AU.at (N+3)) (N+3) e ρ (N+2)) [] 0 p.funcs m ((c+1:Nat):Int) 0=_
  unfold Au
  rw [ha]
  show ((ref11_Machine_look (N+3) ⟨p,m,((c+1:Nat):Int),0⟩ a ρ).bind fun x44=>_)=_
  rw [hN.1,Option.bind_some]
  show Au (AU.at (N+3)) (N+3) e ρ (BT (AU.at (N+3)) (N+3) e ρ (N+1)) [x.plain] 1 p.funcs m c1 0=_
  unfold Au
  rw [ha]
  show ((ref11_Machine_look (N+3) ⟨p,m,c1,0⟩ b ρ).bind fun x44=>_)=_
  rw [hN.2,Option.bind_some]
  show Au (AU.at (N+3)) (N+3) e ρ (BT (AU.at (N+3)) (N+3) e ρ N) [x.plain,Nk] 2 p.funcs m c' y=_
  unfold Au
  rw [ha]
  show (bif (y != 0) then _ else _)=_
  rw [show (y != 0)=true by simpa using hy];rfl
 | @bi c e ρ a b x c1 z c' r h ho ha _ _ hr ih1 ih2=>
  refine go h om (Ev.down 3 ((((ih1.up 3).and (ih2.up 3)).and (Lv (2^54))).mono fun N hN=>?_))
  unfold BQ
  rw [show (e.op==19)=false by simp;omega,show (e.op==20)=false by simp;omega,show (e.op==21)=false by simp;omega,show (e.op==22)=false by simp;omega]
  have hA:=(hr (N+3) (by have:=hN.2;omega)).2
  generalize hop:e.op=op at*
  show Au (AU.at (N+3)) (N+3) e ρ (BT (AU.at (N+3)) (N+3) e ρ (N+2)) [] 0 p.funcs m ((c+1:Nat):Int) 0=_
  unfold Au
  rw [ha]
  show ((ref11_Machine_look (N+3) ⟨p,m,((c+1:Nat):Int),0⟩ a ρ).bind fun x44=>_)=_
  rw [hN.1.1,Option.bind_some]
  show Au (AU.at (N+3)) (N+3) e ρ (BT (AU.at (N+3)) (N+3) e ρ (N+1)) [x.plain] 1 p.funcs m c1 0=_
  unfold Au
  rw [ha]
  show ((ref11_Machine_look (N+3) ⟨p,m,c1,0⟩ b ρ).bind fun x44=>_)=_
  rw [hN.1.2,Option.bind_some]
  show Au (AU.at (N+3)) (N+3) e ρ (BT (AU.at (N+3)) (N+3) e ρ N) [x.plain,z.plain] 2 p.funcs m c' 0=_
  unfold Au
  rw [ha,hop]
  show ((Gv (N+3) op [x.plain,z.plain]).bind fun x1299=>bif (x1299.2 != 0) then _ else _)=_
  rw [hA,Option.bind_some,fin]
  cases (r.2 != 0)<;>rfl
end
end Fth
namespace Fth
open Go
def RF(Γ:List AK)(nm:List UInt8):Option Int:=(Γ.find? fun x=>x.name==nm).map (·.type_)
def Win(Γ:List AK)(e:AB)(i:Nat):List AK:=
 if e.op=21∨(e.op=22∧i=1) then ⟨e.name,e.type_,0⟩::Γ else if e.op=20∧i=2 then ⟨e.tail,3,0⟩::⟨e.name,1,0⟩::Γ else Γ
def Wan(p:AM)(e:AB)(i:Nat)(t:Int):Int:=
 if e.op=14 then 2 else if e.op=18∧i=1 then 3 else if e.op=7 then (match (hd p e.name).bind fun f=>f.params[i]? with |some x=>x.type_|none=>1)
 else if e.op=19 then (if i=0 then 2 else t) else if e.op=20 then (if i=0 then 3 else t) else if e.op=21∨e.op=22 then (if i=0 then e.type_ else t) else 1
structure OwT(p:AM)(Γ:List AK)(e:AB)(t:Int):Prop where
 n:(e.op=1∨(8≤e.op∧e.op≤11)∨(15≤e.op∧e.op≤17))→t=1
 b:(e.op=2∨e.op=3∨(12≤e.op∧e.op≤14))→t=2
 l:(e.op=4∨e.op=18)→t=3
 f:e.op=5→t=e.type_
 v:e.op=6→RF Γ e.name=some t
 c:e.op=7→∃f,hd p e.name=some f∧f.params.length=e.args.length∧f.type_=t
inductive WTy(p:AM):List AK→AB→Int→Prop
 |mk (Γ:List AK) (e:AB) (t:Int) (ho:OwT p Γ e t) (hs: ∀i a,e.args[i]?=some a→WTy p (Win Γ e i) a (Wan p e i t)):WTy p Γ e t
theorem WTy.own{p Γ e t}(h:WTy p Γ e t):OwT p Γ e t:=by cases h;assumption
theorem WTy.sub{p Γ e t}(h:WTy p Γ e t): ∀i a,e.args[i]?=some a→WTy p (Win Γ e i) a (Wan p e i t):=by cases h;assumption
def ch:Th→Nat
 | .done _ _ t=>1+ch t
 |_=>0
mutual
inductive EOK(p:AM)(L:Nat):List AK→Nm→Prop
 |nil:EOK p L [] .nil
 |bind (x:AK) (Γ:List AK) (t:Th) (ρ:Nm) (ht:TOK p L x.type_ t) (he:EOK p L Γ ρ):EOK p L (x::Γ) (.bind x.name t ρ)
 |letrec (x:AK) (Γ:List AK) (e:AB) (ρ:Nm) (hw:WTy p (x::Γ) e x.type_) (hwe:WE e) (ht:1≤x.type_∧x.type_≤3) (he:EOK p L Γ ρ):EOK p L (x::Γ) (.letrec x.name e ρ)
inductive TOK(p:AM)(L:Nat):Int→Th→Prop
 |val (t:Int) (v:AI) (hv:VV t v) (h3:t=3→v.list=[]):TOK p L t (.done v .nil .nil)
 |pair (h t:Th) (h1:TOK p L 1 h) (h2:TOK p L 3 t) (hc:ch t<L):TOK p L 3 (.done v0 h t)
 |later (Γ:List AK) (ρ:Nm) (e:AB) (t:Int) (he:EOK p L Γ ρ) (hw:WTy p Γ e t) (hwe:WE e) (ht:1≤t∧t≤3):TOK p L t (.later e ρ)
end
section
variable{p:AM}{L m:Nat}
theorem XN{t:Int}{h:Th}(hh:TOK p L t h):h.isNil=false:=by cases hh<;>rfl
theorem QU{t:Int}{x:Ao}(h:TOK p L t (.done x.plain x.head x.tail))(h3:t≠3):VV t x.plain:=by
 obtain ⟨pl,hh,tl⟩:=x
 cases h with
 |val _ _ hv _=>exact hv
 |pair=>exact absurd rfl h3
theorem AA5{nm:List UInt8}: ∀(Γ:List AK) (ρ:Nm) (t:Int),EOK p L Γ ρ→RF Γ nm=some t→∃th,fnd nm ρ=some th∧TOK p L t th:=by
 intro Γ
 induction Γ with
 |nil=>intro ρ t _ h;simp [RF] at h
 |cons x Γ ih=>
  intro ρ t he h
  unfold RF at h
  rw [List.find?_cons] at h
  cases he with
  |bind _ _ th ρ ht he=>
   rw [fnd]
   cases hn:(x.name==nm)
   ·rw [hn] at h
    exact ih ρ t he h
   ·rw [hn] at h
    cases h
    exact ⟨th,rfl,ht⟩
  |letrec _ _ e ρ hw hwe ht he=>
   rw [fnd]
   cases hn:(x.name==nm)
   ·rw [hn] at h
    exact ih ρ t he h
   ·rw [hn] at h
    cases h
    exact ⟨_,rfl,.later (x::Γ) _ _ _ (.letrec x Γ e ρ hw hwe ht he) hw hwe ht⟩
theorem Yx{Γ:List AK}{ρ:Nm}(hρ:EOK p L Γ ρ): ∀(ps:List AK) (zs:List AB) (Δ:List AK) (acc:Nm),ps.length=zs.length→EOK p L Δ acc→
  (∀(i:Nat) (x:AK) (a:AB),ps[i]?=some x→zs[i]?=some a→WTy p Γ a x.type_∧WE a∧1≤x.type_∧x.type_≤3)→EOK p L (ps.reverse++Δ) (QQ ρ ps zs acc):=by
 intro ps
 induction ps with
 |nil=>intro zs Δ acc h he _;cases zs with
  |nil=>exact he
  |cons=>cases h
 |cons x ps ih=>
  intro zs Δ acc h he ha
  cases zs with
  |nil=>cases h
  |cons a zs=>
   have h0:=ha 0 x a rfl rfl
   have:=ih zs (x::Δ) (.bind x.name (.later a ρ) acc) (by simpa using h) (.bind x Δ _ acc (.later Γ ρ a x.type_ hρ h0.1 h0.2.1 h0.2.2) he) fun i y b h1 h2=>ha (i+1) y b h1 h2
   rw [List.reverse_cons,List.append_assoc]
   exact this
def Rt(p:AM)(L m:Nat)(t:Int)(r:Except Int Ao)(c c':Nat):Prop:=
 match r with
 | .ok x=>TOK p L t (.done x.plain x.head x.tail)∧c<c'
 | .error y=>(y=60∧c'=m)∨((y=50∨y=51∨y=52)∧c<c')
theorem Rt.back{t t':Int}{r:Except Int Ao}{c c1 c':Nat}(h:Rt p L m t r c1 c')(hc:c≤c1)(ht:t=t'):Rt p L m t' r c c':=by
 subst ht
 cases r with
 |ok x=>exact ⟨h.1,by have:=h.2;omega⟩
 |error y=>exact h.imp id fun h=>⟨h.1,by have:=h.2;omega⟩
theorem Rt.err{t t' y:Int}{c c1 c':Nat}(h:Rt p L m t (.error y) c1 c')(hc:c≤c1):Rt p L m t' (.error y) c c':=
 Or.imp id (fun h=>⟨h.1,by have:=h.2;omega⟩) h
theorem RG{α:Type}{l:List α}(h:l.length=2): ∃a b,l=[a,b]:=by
 match l,h with
 | [a,b],_=>exact ⟨a,b,rfl⟩
theorem Tp{α:Type}{l:List α}(h:l.length=3): ∃a b c,l=[a,b,c]:=by
 match l,h with
 | [a,b,c],_=>exact ⟨a,b,c,rfl⟩
theorem AA6{α:Type}{l:List α}(h:l.length=1): ∃a,l=[a]:=by
 match l,h with
 | [a],_=>exact ⟨a,rfl⟩
theorem Yy(hp:WP p)(hS: ∀f∈p.funcs,WTy p f.params.reverse f.body f.type_)(hL:1≤L): ∀(k c:Nat),m - c≤k→c≤m→∀(Γ:List AK) (e:AB) (ρ:Nm) (t:Int),EOK p L Γ ρ→WTy p Γ e t→WE e→1≤t∧t≤3→
  ∃r c',Lk p m c e ρ r c'∧c≤c'∧c'≤m∧Rt p L m t r c c':=by
 intro k
 induction k with
 |zero=>
  intro c hk hc Γ e ρ t _ _ _ _
  exact ⟨_,_,.fuel om,om,hc,.inl ⟨rfl,om⟩⟩
 |succ k ih=>
  intro c hk hc Γ e ρ t hρ hw he ht
  rcases Nat.lt_or_ge c m with h|h
  rotate_left
  ·exact ⟨_,_,.fuel h,om,hc,.inl ⟨rfl,om⟩⟩
  have ow:=hw.own
  have sb:=hw.sub
  have se:=he.sub
  have mem: ∀{i:Nat} {a:AB},e.args[i]?=some a→WE a:=fun h=>se _ (List.mem_of_getElem? h)
  rcases he.ar with ⟨h1,h2,h3⟩|h7| ⟨h1,h2,h3⟩| ⟨h1,h2,h3⟩| ⟨h1,h3⟩| ⟨h1,h2,h3⟩| ⟨h1,h2,h3⟩
  ·have hh:e.op=1∨e.op=2∨e.op=3∨e.op=4∨e.op=5∨e.op=6:=om
   rcases hh with ho|ho|ho|ho|ho|ho
   ·refine ⟨_,_,.num h ho,om,om,?_,om⟩
    rw [ow.n (.inl ho)]
    exact .val 1 _ (.inl ⟨rfl,rfl,he.num ho,rfl,rfl⟩) fun h=>by cases h
   ·refine ⟨_,_,.tru h ho,om,om,?_,om⟩
    rw [ow.b (.inl ho)]
    exact .val 2 _ (Xp _) fun h=>by cases h
   ·refine ⟨_,_,.fls h ho,om,om,?_,om⟩
    rw [ow.b (.inr (.inl ho))]
    exact .val 2 _ (Xp _) fun h=>by cases h
   ·refine ⟨_,_,.nil h ho,om,om,?_,om⟩
    rw [ow.l (.inl ho)]
    exact .val 3 _ (.inr (.inr ⟨rfl,rfl,rfl,rfl,by simp⟩)) fun _=>rfl
   ·exact ⟨_,_,.fail h ho,om,om,.inr ⟨.inr (.inr rfl),om⟩⟩
   ·obtain ⟨th,hf,htok⟩:=AA5 Γ ρ t hρ (ow.v ho)
    cases th with
    |nil=>cases htok
    |done pl hh tl=>exact ⟨_,_,.vdone (x:=⟨pl,hh,tl⟩) h ho hf,om,om,htok,om⟩
    |later e' ρ'=>
     cases htok with
     |later Γ' _ _ _ he' hw' hwe' ht'=>
      obtain ⟨r,c',h1,h2,h3,h4⟩:=ih (c+1) om om Γ' e' ρ' t he' hw' hwe' ht'
      exact ⟨r,c',.vlater h ho hf h1,om,h3,h4.back om rfl⟩
  ·obtain ⟨f,hf,hl,hft⟩:=ow.c h7
   have hfm:f∈p.funcs:=List.mem_of_find?_eq_some hf
   have hfn:=hp.fns f hfm
   have henv:=Yx hρ f.params e.args [] .nil hl .nil fun i x a hx ha=>by
    have h1:=sb i a ha
    have e1:Win Γ e i=Γ:=by unfold Win;rw [if_neg om,if_neg om]
    have e2:Wan p e i t=x.type_:=by
     unfold Wan
     rw [if_neg om,if_neg om,if_pos h7,hf]
     show (match f.params[i]? with |some x=>x.type_|none=>1)=_
     rw [hx]
    rw [e1,e2] at h1
    exact ⟨h1,mem ha,hfn.ptyp x (List.mem_of_getElem? hx)⟩
   rw [List.append_nil] at henv
   obtain ⟨r,c',h1,h2,h3,h4⟩:=ih (c+1) om om _ f.body _ f.type_ henv (hS f hfm) hfn.body hfn.typ
   exact ⟨r,c',.call h h7 hf hl h1,om,h3,h4.back om hft⟩
  ·
   obtain ⟨a,b,ha⟩:=RG h3
   have wa:=sb 0 a (by rw [ha];rfl)
   have wb:=sb 1 b (by rw [ha];rfl)
   have e1: ∀i,Win Γ e i=Γ:=fun i=>by unfold Win;rw [if_neg om,if_neg om]
   have e2: ∀i,Wan p e i t=1:=fun i=>by unfold Wan;rw [if_neg om,if_neg om,if_neg om,if_neg om,if_neg om,if_neg om]
   rw [e1,e2] at wa wb
   obtain ⟨r1,c1,l1,l2,l3,l4⟩:=ih (c+1) om om Γ a ρ 1 hρ wa (mem (i:=0) (by rw [ha];rfl)) om
   cases r1 with
   |error y=>exact ⟨_,c1,.biE h ⟨h1,h2⟩ ha l1,om,l3,l4.err om⟩
   |ok x=>
    obtain ⟨r2,c2,k1,k2,k3,k4⟩:=ih c1 om l3 Γ b ρ 1 hρ wb (mem (i:=1) (by rw [ha];rfl)) om
    cases r2 with
    |error y=>exact ⟨_,c2,.biE2 h ⟨h1,h2⟩ ha l1 k1,om,k3,k4.err om⟩
    |ok z=>
     have vx:VV 1 x.plain:=QU l4.1 (by decide)
     have vz:VV 1 z.plain:=QU k4.1 (by decide)
     obtain ⟨r,hr,hA⟩:=WI (op:=e.op) (args:=[x.plain,z.plain]) (.inl ⟨h1,h2,_,_,vx,vz,rfl⟩)
     refine ⟨fin r,c2,.bi h ⟨h1,h2⟩ ha l1 k1 hA,om,k3,?_⟩
     unfold fin
     rcases hr with ⟨hr0,hv⟩| ⟨hr0,_⟩
     ·rw [show (r.2 != 0)=false by rw [hr0];rfl]
      have hT:opT e.op=t:=by
       unfold opT
       rcases Decidable.em (e.op=12∨e.op=13∨e.op=14) with ho|ho
       ·rw [if_pos ho,ow.b om]
       ·rw [if_neg ho,ow.n om]
      refine ⟨.val t _ (hT▸hv) fun h3=>?_,om⟩
      have:=hT
      unfold opT at this
      split at this<;>omega
     ·rw [show (r.2 != 0)=true by simp;omega]
      exact .inr ⟨om,om⟩
  ·
   obtain ⟨a,ha⟩:=AA6 h3
   have wa:=sb 0 a (by rw [ha];rfl)
   have e1: ∀i,Win Γ e i=Γ:=fun i=>by unfold Win;rw [if_neg om,if_neg om]
   have e2:Wan p e 0 t=if e.op=14 then 2 else 1:=by
    unfold Wan
    rcases Decidable.em (e.op=14) with ho|ho
    ·rw [if_pos ho,if_pos ho]
    ·rw [if_neg ho,if_neg ho,if_neg om,if_neg om,if_neg om,if_neg om,if_neg om]
   rw [e1,e2] at wa
   obtain ⟨r1,c1,l1,l2,l3,l4⟩:=ih (c+1) om om Γ a ρ _ hρ wa (mem (i:=0) (by rw [ha];rfl)) (by split<;>omega)
   cases r1 with
   |error y=>exact ⟨_,c1,.unE h ⟨h1,h2⟩ ha l1,om,l3,l4.err om⟩
   |ok x=>
    have vx:VV (if e.op=14 then 2 else 1) x.plain:=QU l4.1 (by split<;>decide)
    have hargs:(8≤e.op∧e.op≤13∧∃a b,VV 1 a∧VV 1 b∧[x.plain]=[a,b])∨(e.op=14∧∃a,VV 2 a∧[x.plain]=[a])∨(15≤e.op∧e.op≤17∧∃a,VV 1 a∧[x.plain]=[a]):=by
     rcases Decidable.em (e.op=14) with ho|ho
     ·rw [if_pos ho] at vx;exact .inr (.inl ⟨ho,_,vx,rfl⟩)
     ·rw [if_neg ho] at vx;exact .inr (.inr ⟨om,om,_,vx,rfl⟩)
    obtain ⟨r,hr,hA⟩:=WI hargs
    refine ⟨fin r,c1,.un h ⟨h1,h2⟩ ha l1 hA,om,l3,?_⟩
    unfold fin
    rcases hr with ⟨hr0,hv⟩| ⟨hr0,_⟩
    ·rw [show (r.2 != 0)=false by rw [hr0];rfl]
     have hT:opT e.op=t:=by
      unfold opT
      rcases Decidable.em (e.op=12∨e.op=13∨e.op=14) with ho|ho
      ·rw [if_pos ho,ow.b om]
      ·rw [if_neg ho,ow.n om]
     refine ⟨.val t _ (hT▸hv) fun h3=>?_,om⟩
     have:=hT
     unfold opT at this
     split at this<;>omega
    ·rw [show (r.2 != 0)=true by simp;omega]
     exact .inr ⟨om,om⟩
  ·
   obtain ⟨a,b,ha⟩:=RG h3
   have wa:=sb 0 a (by rw [ha];rfl)
   have wb:=sb 1 b (by rw [ha];rfl)
   have e1: ∀i,Win Γ e i=Γ:=fun i=>by unfold Win;rw [if_neg om,if_neg om]
   have e2:Wan p e 0 t=1:=by unfold Wan;rw [if_neg om,if_neg om,if_neg om,if_neg om,if_neg om,if_neg om]
   have e3:Wan p e 1 t=3:=by unfold Wan;rw [if_neg om,if_pos ⟨h1,rfl⟩]
   rw [e1,e2] at wa
   rw [e1,e3] at wb
   refine ⟨_,_,.cons h h1 ha,om,om,?_,om⟩
   rw [ow.l (.inr h1)]
   exact .pair _ _ (.later Γ ρ a 1 hρ wa (mem (i:=0) (by rw [ha];rfl)) om) (.later Γ ρ b 3 hρ wb (mem (i:=1) (by rw [ha];rfl)) om) (by simp only [ch];omega)
  ·obtain ⟨a,b,d,ha⟩:=Tp h3
   have wa:=sb 0 a (by rw [ha];rfl)
   have wb:=sb 1 b (by rw [ha];rfl)
   have wd:=sb 2 d (by rw [ha];rfl)
   have ma:=mem (i:=0) (a:=a) (by rw [ha];rfl)
   have mb:=mem (i:=1) (a:=b) (by rw [ha];rfl)
   have md:=mem (i:=2) (a:=d) (by rw [ha];rfl)
   rcases (show e.op=19∨e.op=20 by omega) with ho|ho
   ·have e1: ∀i,Win Γ e i=Γ:=fun i=>by unfold Win;rw [if_neg om,if_neg om]
    have e2: ∀i,Wan p e i t=if i=0 then 2 else t:=fun i=>by unfold Wan;rw [if_neg om,if_neg om,if_neg om,if_pos ho]
    rw [e1,e2] at wa wb wd
    obtain ⟨r1,c1,l1,l2,l3,l4⟩:=ih (c+1) om om Γ a ρ 2 hρ wa ma om
    cases r1 with
    |error y=>exact ⟨_,c1,.ifE h ho ha l1,om,l3,l4.err om⟩
    |ok x=>
     cases hb:x.plain.bool
     ·obtain ⟨r2,c2,k1,k2,k3,k4⟩:=ih c1 om l3 Γ d ρ t hρ wd md ht
      exact ⟨r2,c2,.ifF h ho ha l1 hb k1,om,k3,k4.back om rfl⟩
     ·obtain ⟨r2,c2,k1,k2,k3,k4⟩:=ih c1 om l3 Γ b ρ t hρ wb mb ht
      exact ⟨r2,c2,.ifT h ho ha l1 hb k1,om,k3,k4.back om rfl⟩
   ·have e1: ∀i,i≠2→Win Γ e i=Γ:=fun i hi=>by unfold Win;rw [if_neg om,if_neg om]
    have e1':Win Γ e 2=⟨e.tail,3,0⟩::⟨e.name,1,0⟩::Γ:=by unfold Win;rw [if_neg om,if_pos ⟨ho,rfl⟩]
    have e2: ∀i,Wan p e i t=if i=0 then 3 else t:=fun i=>by unfold Wan;rw [if_neg om,if_neg om,if_neg om,if_neg om,if_pos ho]
    rw [e1 _ om,e2] at wa wb
    rw [e1',e2] at wd
    obtain ⟨r1,c1,l1,l2,l3,l4⟩:=ih (c+1) om om Γ a ρ 3 hρ wa ma om
    cases r1 with
    |error y=>exact ⟨_,c1,.caE h ho ha l1,om,l3,l4.err om⟩
    |ok x=>
     obtain ⟨pl,hx,tx⟩:=x
     have hl4:=l4.1
     simp only at hl4
     generalize hT:(3:Int)=T3 at hl4
     cases hl4 with
     |val _ _ hv h3=>
      obtain ⟨r2,c2,k1,k2,k3,k4⟩:=ih c1 om l3 Γ b ρ t hρ wb mb ht
      exact ⟨r2,c2,.caN h ho ha l1 rfl k1,om,k3,k4.back om rfl⟩
     |pair _ _ t1 t2 hc=>
      have henv:EOK p L (⟨e.tail,3,0⟩::⟨e.name,1,0⟩::Γ) (.bind e.tail tx (.bind e.name hx ρ)):= .bind ⟨e.tail,3,0⟩ _ _ _ t2 (.bind ⟨e.name,1,0⟩ _ _ _ t1 hρ)
      obtain ⟨r2,c2,k1,k2,k3,k4⟩:=ih c1 om l3 _ d _ t henv wd md ht
      exact ⟨r2,c2,.caC h ho ha l1 (XN t1) k1,om,k3,k4.back om rfl⟩
  ·obtain ⟨a,b,ha⟩:=RG h3
   have wa:=sb 0 a (by rw [ha];rfl)
   have wb:=sb 1 b (by rw [ha];rfl)
   have ma:=mem (i:=0) (a:=a) (by rw [ha];rfl)
   have mb:=mem (i:=1) (a:=b) (by rw [ha];rfl)
   have e2: ∀i,Wan p e i t=if i=0 then e.type_ else t:=fun i=>by unfold Wan;rw [if_neg om,if_neg om,if_neg om,if_neg om,if_neg om,if_pos om]
   have et:=he.typ om
   rcases (show e.op=21∨e.op=22 by omega) with ho|ho
   ·have e1: ∀i,Win Γ e i=⟨e.name,e.type_,0⟩::Γ:=fun i=>by unfold Win;rw [if_pos (.inl ho)]
    rw [e1,e2] at wa wb
    have henv:EOK p L (⟨e.name,e.type_,0⟩::Γ) (.letrec e.name a ρ):= .letrec ⟨e.name,e.type_,0⟩ Γ a ρ wa ma et hρ
    obtain ⟨r2,c2,k1,k2,k3,k4⟩:=ih (c+1) om om _ b _ t henv wb mb ht
    exact ⟨r2,c2,.lt h ho ha k1,om,k3,k4.back om rfl⟩
   ·have e1:Win Γ e 0=Γ:=by unfold Win;rw [if_neg om,if_neg om]
    have e1':Win Γ e 1=⟨e.name,e.type_,0⟩::Γ:=by unfold Win;rw [if_pos (.inr ⟨ho,rfl⟩)]
    rw [e1,e2] at wa
    rw [e1',e2] at wb
    obtain ⟨r1,c1,l1,l2,l3,l4⟩:=ih (c+1) om om Γ a ρ _ hρ wa ma et
    cases r1 with
    |error y=>exact ⟨_,c1,.stE h ho ha l1,om,l3,l4.err om⟩
    |ok x=>
     have henv:EOK p L (⟨e.name,e.type_,0⟩::Γ) (.bind e.name (.done x.plain x.head x.tail) ρ):= .bind ⟨e.name,e.type_,0⟩ Γ _ ρ l4.1 hρ
     obtain ⟨r2,c2,k1,k2,k3,k4⟩:=ih c1 om l3 _ b _ t henv wb mb ht
     exact ⟨r2,c2,.stV h ho ha l1 k1,om,k3,k4.back om rfl⟩
end
end Fth
