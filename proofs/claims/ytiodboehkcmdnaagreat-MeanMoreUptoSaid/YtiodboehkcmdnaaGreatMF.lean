/- Part 6 of the proof: what it says holds of the given program; no condition. -/
import Derived.Test.YtiodboehkcmdnaaGreatProg
import Derived.KernelRfl
import Derived.Test.YtiodboehkcmdnaaGreatME
set_option linter.all false
set_option exponentiation.threshold 3000
namespace Fth
open Go Go.Proofs Sh
set_option maxRecDepth 100000
set_option maxHeartbeats 8000000
def IN.At(c:Col)(a:World)(f:AG→AG→Option Bool):Prop:=
 ∀{d:AG} {e:List Value} {g:AG} {h:List Value} {l:Bool},f d g=some l→Ax.rep c.F a e d→Ax.rep c.F a h g→
  Calls Tryz.prog 23 #[.agg e.toArray,.agg h.toArray] a fun m n=>∃(o:Col),m=.returned (.bool l)∧AO [] c a o n
def IN.Spec(f:AG→AG→Option Bool):Prop:=
 ∀(a:Col) (c:World),IN.At a c f
theorem SU(ac:Nat)(ai:Col)(bj:World)(aj:∀b,ai b<10):IN.At ai bj (IN ac):=by
 intro c cl d cm ak a bk bl
 rw [IN] at a
 obtain ⟨cn,rfl,al⟩:=Bt bk
 obtain ⟨av,aw,rfl⟩:=AI al
 obtain ⟨co,rfl,am⟩:=Bt bl
 obtain ⟨ax,ay,rfl⟩:=AI am
 refine A5 Tryz.func23 rfl Tryz.ntmps23 rfl fun B an n=>Sr<|Ef (By ai 20 rfl rfl fun bm cq az a0 y=>?_)
 refine Ef (By bm 21 rfl rfl fun a1 a2 a3 a4 p=>?_)
 refine Va (.bool false)<|AA<|Ac<|Au (fun ao ap=>∃(ad:Env) (ae:Col) (aq:Bool),ao=ad.puts [(2,.pointer (some ⟨az,0,none⟩)),(3,.pointer (some ⟨a3,0,none⟩)),(43,.bool aq)]∧Ga ac c d aq=some ak∧AO [] a1 a2 ae ap) ?_ ?_
 refine AQ<|have a5:=Bs a0 p;Vx (Run.loadN Dc rfl rfl (Bk.part a5 0 [I c.type_,Cx c.num,.bool c.bool,Sl av c.list aw] rfl))<|have a6:=K2 Kd.cpx al y p;Bi a fun bn bo a=>Ca (VU [.agg [I c.type_,Cx c.num,.bool c.bool,Sl av c.list aw].toArray] rfl) (L6 ac a1 a2 bo (BB (x:=c) a6)) ?_
 rintro _ bp ⟨a7,rfl,o⟩
 refine ⟨_,rfl,?_⟩
 refine Vr (.bool (!bn))<|Vm<|Bo a (fun q a=>?_) fun q a=>?_
 refine Pg q<|Pg q<|Pg q<|Vp q<|Vm<|Pg rfl<|Pg rfl<|Pg rfl<|Pg rfl<|Pg rfl<|Vr (.bool true)<|Vm<|Pg rfl<|Pg rfl<|Pg rfl<|Pg rfl<|Pg rfl<|Vr (.bool true)<|Vm<|Pg rfl<|Pg rfl<|Pg rfl<|Pg rfl<|Pg rfl<|Vr (.bool true)<|Vm<|Pg rfl<|Pg rfl<|Pg rfl<|Pg rfl<|Pg rfl<|Pg rfl<|Pg rfl<|Vr (.bool true)<|AA<|⟨_,a7,true,Pu,a,(Mo [] o)⟩
 refine have a8:=Bs a4 o;Gx q (Run.loadN Dc rfl rfl (Bk.part a8 0 [I d.type_,Cx d.num,.bool d.bool,Sl ax d.list ay] rfl))<|have a9:=K3 Kd.cpx am y p o;Bi a fun bq br a=>Bx (.guard (t:=false) (b:=false) rfl rfl rfl rfl (Cb q)) rfl rfl (VU [.agg [I d.type_,Cx d.num,.bool d.bool,Sl ax d.list ay].toArray] rfl)<|Calls.mono (L6 ac a7 bp br (BB (x:=d) a9)) ?_
 rintro _ cr ⟨af,rfl,r⟩
 refine ⟨_,rfl,?_⟩
 refine Gr q (.bool (!bq))<|Vp q<|Vm<|Bo a (fun g a=>?_) fun g a=>?_
 refine Pg g<|Pg g<|Pg g<|Pg g<|Pg g<|Vp g<|Vm<|Pg rfl<|Pg rfl<|Pg rfl<|Pg rfl<|Pg rfl<|Vr (.bool true)<|Vm<|Pg rfl<|Pg rfl<|Pg rfl<|Pg rfl<|Pg rfl<|Vr (.bool true)<|Vm<|Pg rfl<|Pg rfl<|Pg rfl<|Pg rfl<|Pg rfl<|Pg rfl<|Pg rfl<|Vr (.bool true)<|AA<|⟨_,af,true,Pu,a,(Tn (Mo [] o) r)⟩
 refine Gx g (Run.fieldAddr0 JB rfl)<|have ag:=Y2 a5 o r;Gx g (Run.load1 Fy rfl (Bk.cell ag rfl))<|Gx g (Run.fieldAddr0 JB rfl)<|have ah:=Bs a8 r;Gx g (Run.load1 Fy rfl (Bk.cell ah rfl))<|Gr g (.bool (c.type_ != d.type_))<|Vp g<|Vm<|Bo a (fun h a=>?_) fun h a=>?_
 refine Pg h<|Pg h<|Pg h<|Pg h<|Pg h<|Vp h<|Vm<|Pg rfl<|Pg rfl<|Pg rfl<|Pg rfl<|Pg rfl<|Vr (.bool true)<|Vm<|Pg rfl<|Pg rfl<|Pg rfl<|Pg rfl<|Pg rfl<|Pg rfl<|Pg rfl<|Vr (.bool true)<|AA<|⟨_,af,true,Pu,a,(Tn (Mo [] o) r)⟩
 refine Gx h (Run.fieldAddr HQ rfl)<|Gx h (Run.load1 HX rfl (Bk.cell ag rfl))<|Gx h (Run.fieldAddr HQ rfl)<|Gx h (Run.load1 HX rfl (Bk.cell ah rfl))<|Gx h (v:=.bool (cne c.num d.num)) (Run.cne rfl rfl)<|Vp h<|Vm<|Bo a (fun l a=>?_) fun l a=>?_
 refine Pg l<|Pg l<|Pg l<|Pg l<|Pg l<|Vp l<|Vm<|Pg rfl<|Pg rfl<|Pg rfl<|Pg rfl<|Pg rfl<|Pg rfl<|Pg rfl<|Vr (.bool true)<|AA<|⟨_,af,true,Pu,a,(Tn (Mo [] o) r)⟩
 refine Gx l (Run.fieldAddr J6 rfl)<|Gx l (Run.load1 Oz rfl (Bk.cell ag rfl))<|Gx l (Run.fieldAddr J6 rfl)<|Gx l (Run.load1 Oz rfl (Bk.cell ah rfl))<|Gx l (v:=.bool (!(c.bool==d.bool))) (Run.boolNe AAl rfl rfl)<|Vp l<|Vm<|Bo a (fun e a=>?_) fun e a=>?_
 refine Pg e<|Pg e<|Pg e<|Pg e<|Pg e<|Pg e<|Pg e<|Vp e<|AA<|⟨_,af,true,Pu,a,(Tn (Mo [] o) r)⟩
 refine Gx e (Run.fieldAddr Ew rfl)<|Gx e (Run.load1 Ip rfl (Bk.cell ag rfl))<|have bt:=K2 Kd.cpx a6 o r; ?_
 obtain ⟨ct,cu,bu⟩:=AI bt
 refine Gx e (v:=I (c.list.length:Int)) (Run.lenSlc IQ bu)<|Gx e (Run.fieldAddr Ew rfl)<|Gx e (Run.load1 Ip rfl (Bk.cell ah rfl))<|have bv:=Ss Kd.cpx a9 r; ?_
 obtain ⟨cv,cw,bw⟩:=AI bv
 refine Gx e (v:=I (d.list.length:Int)) (Run.lenSlc IQ bw)<|Gr e (.bool ((c.list.length:Int) != (d.list.length:Int)))<|Vp e<|AA<|⟨_,af,((c.list.length:Int) != (d.list.length:Int)),Pu,a,(Tn (Mo [] o) r)⟩
 rintro _ ap ⟨ad,ae,aq,rfl,a,z⟩
 rw [Ga] at a
 refine Cn a (fun bx a=>?_) fun bx a=>?_
 refine Sr<|Va (.bool false)<|AA<|AZ ?_
 obtain rfl:=AP a
 refine A0 (B:=B) an (BQ rfl (.tmp rfl) ?_)
 exact ⟨ae,rfl,Ho (T2 (Mo [] y) p z) aj⟩
 refine WC.skip<|Ac<|Sr<|Va (I 0)<|AA<|Ao<|CZ (fun u ao ba=>∃(ad:Env) (w:Col) (m:Int),ao=ad.puts [(2,.pointer (some ⟨az,0,none⟩)),(3,.pointer (some ⟨a3,0,none⟩)),(5,.int .i64 m)]∧IM c d u m=some ak∧AO [] ae ap w ba) ac ?_ ?_
 exact ⟨_,ae,0,Pu,a,(AO.refl [] _ _)⟩
 rintro u _ ba ⟨ad,w,m,rfl,a,aa⟩
 rcases u with _|u
 exact BK a
 refine have a:Jg c d (IM c d u) m=some ak:=a; ?_
 obtain ⟨cx,bb⟩:∃s,s=IM c d u:=⟨_,rfl⟩
 rw [←bb,Jg] at a
 refine Ac<|Sr<|Vm<|Vx (Run.fieldAddr Ew rfl)<|have bc:=Y3 a0 p z aa;Vx (Run.load1 Ip rfl (Bk.cell bc rfl))<|have bd:=K4 Kd.cpx al y p z aa; ?_
 obtain ⟨cy,cz,bz⟩:=AI bd
 refine Vx (v:=I (c.list.length:Int)) (Run.lenSlc IQ bz)<|Vr (.bool (decide (m< (c.list.length:Int))))<|AA<|Cn a (fun b0 a=>?_) fun b0 a=>?_
 refine WC.skip<|Ac<|Ao<|Ac<|Cc Ff (.q 0 (.q 1 (.q 2 (.q 3 (.q 4 (.q 5 (.q 6 (.q 7 (.q 8 (.q 9 (.q 10 .nil))))))))))) [] [] w (by kernel_rfl) fun be ab=>Qx n rfl (fun _ ⟨_,f⟩=>Run.fieldAddr Ew rfl)<|have b1:=Bs bc ab;Qx n rfl (fun _ ⟨_,f⟩=>Run.load1 Ip rfl (Bk.cell (Bs b1 f) rfl))<|Qx n rfl (v:=I m) (fun _ ⟨_,f⟩=>Run.move rfl)<|Bi a fun bf b2 a=>have b3:=Ss Kd.cpx bd ab; ?_
 obtain ⟨b4,b5,c0,bg,b6,b7,b8,b9,ar⟩:=BX (κ:=Kd.cpx) b3 b2
 replace ar:BG w be b4 (b5+m.toNat*1) bg:=ar
 obtain rfl:=(show bg=[Cx bf] from b9)
 refine Qx n rfl (fun _ ⟨_,f⟩=>Run.indexAddr IQ b6 rfl b7 b8)<|Qx n rfl (fun _ ⟨_,f⟩=>Run.load1 HX rfl (BG.cell0 (Es ar f) rfl))<|Qx n rfl (fun _ ⟨_,f⟩=>Run.fieldAddr Ew rfl)<|have ca:=Y3 a4 z aa ab;Qx n rfl (fun _ ⟨_,f⟩=>Run.load1 Ip rfl (Bk.cell (Bs ca f) rfl))<|Qx n rfl (v:=I m) (fun _ ⟨_,f⟩=>Run.move rfl)<|Bi a fun bh cb a=>have cc:=Ss Kd.cpx (K4 Kd.cpx am y p z aa) ab; ?_
 obtain ⟨cd,cf,c1,bi,cg,ch,ci,cj,au⟩:=BX (κ:=Kd.cpx) cc cb
 replace au:BG w be cd (cf+m.toNat*1) bi:=au
 obtain rfl:=(show bi=[Cx bh] from cj)
 refine Qx n rfl (fun _ ⟨_,f⟩=>Run.indexAddr IQ cg rfl ch ci)<|Qx n rfl (fun _ ⟨_,f⟩=>Run.load1 HX rfl (BG.cell0 (Es au f) rfl))<|Qx n rfl (v:=.bool (cne bf bh)) (fun _ ⟨_,f⟩=>(Run.cne rfl rfl))<|Ex<|Cn a (fun ck a=>?_) fun ck a=>?_
 refine Sr<|Va (.bool false)<|AA<|AZ ?_
 obtain rfl:=AP a
 refine A0 (B:=B) an (BQ rfl (.tmp rfl) ?_)
 exact ⟨w,rfl,Ho (T4 (Mo [] y) p z aa ab) aj⟩
 refine WC.skip<|AQ<|Vm<|Vr (I (Wr (m+1)))<|Va (I (Wr (m+1)))<|AA<|⟨u,Nat.lt_succ_self u,_,w,(Wr (m+1)),Pu,(bb▸a),(Tn (Mo [] aa) ab)⟩
 refine CF<|Sr<|Va (.bool true)<|AA<|AZ ?_
 obtain rfl:=AP a
 refine A0 (B:=B) an (BQ rfl (.tmp rfl) ?_)
 exact ⟨w,rfl,Ho (T3 (Mo [] y) p z aa) aj⟩
theorem TK(c:Nat):IN.Spec (IN c):=by
 intro a d n o p q r e f g
 refine Calls.mono (SU c (recol (see []) a) d (A3 lbr a) e (Av Ax f []) (Av Ax g [])) ?_
 rintro s u ⟨h,l,m⟩
 exact ⟨glue [] d a h,l,Ah m A2⟩
def Fc.At(c:Col)(a:World)(f:AG→AG→Option Bool):Prop:=
 ∀{d:AG} {e:List Value} {g:AG} {h:List Value} {l:Bool},f d g=some l→Ax.rep c.F a e d→Ax.rep c.F a h g→
  Calls Tryz.prog 22 #[.agg e.toArray,.agg h.toArray] a fun m n=>∃(o:Col),m=.returned (.bool l)∧AO [] c a o n
def Fc.Spec(f:AG→AG→Option Bool):Prop:=
 ∀(a:Col) (c:World),Fc.At a c f
theorem RH(u:Nat)(w:Col)(ar:World)(aj:∀b,w b<10):Fc.At w ar (Fc u):=by
 intro d bf c bg ak a au av
 rw [Fc] at a
 obtain ⟨bh,rfl,y⟩:=Bt au
 obtain ⟨al,am,rfl⟩:=AI y
 obtain ⟨bi,rfl,z⟩:=Bt av
 obtain ⟨an,ao,rfl⟩:=AI z
 refine A5 Tryz.func22 rfl Tryz.ntmps22 rfl fun B ap bj=>Sr<|Ef (By w 20 rfl rfl fun aw bk ax aa q=>?_)
 refine Ef (By aw 21 rfl rfl fun ab ay az ac l=>?_)
 refine Va (.bool false)<|AA<|Ac<|Au (fun ad s=>∃(r:Env) (g:Col) (ae:Bool),ad=r.puts [(2,.pointer (some ⟨ax,0,none⟩)),(3,.pointer (some ⟨az,0,none⟩)),(12,.bool ae)]∧Im u d c ae=some ak∧AO [] ab ay g s) ?_ ?_
 refine AQ<|Vx (Run.fieldAddr0 JB rfl)<|have a0:=Bs aa l;Vx (Run.load1 Fy rfl (Bk.cell a0 rfl))<|Vr (.bool (d.type_==0))<|Vm<|Bo a (fun m a=>?_) fun m a=>?_
 refine Gx m (Run.fieldAddr0 JB rfl)<|Gx m (Run.load1 Fy rfl (Bk.cell ac rfl))<|Gr m (.bool (c.type_==0))<|Vp m<|AA<|⟨_,ab,(c.type_==0),Pu,a,(AO.refl [] _ _)⟩
 refine Pg m<|Pg m<|Pg m<|Vp m<|AA<|⟨_,ab,false,Pu,a,(AO.refl [] _ _)⟩
 rintro _ s ⟨r,g,ae,rfl,a,h⟩
 rw [Im] at a
 refine Cn a (fun a1 a=>?_) fun a1 a=>?_
 refine Au (fun ad aq=>∃(r:Env) (af:Col) (ag:Bool),ad=r.puts [(4,.bool ag)]∧G6 ag=some ak∧AO [] g s af aq) ?_ ?_
 refine AQ<|Vx (Run.fieldAddr HQ rfl)<|have ah:=Y2 aa l h;Vx (Run.load1 HX rfl (Bk.cell ah rfl))<|Vx (v:=.bool (ceq d.num ((0,0):Nat×Nat))) (Run.ceq rfl rfl)<|Vm<|Bo a (fun n a=>?_) fun n a=>?_
 refine Gx n (Run.fieldAddr HQ rfl)<|have ai:=Bs ac h;Gx n (Run.load1 HX rfl (Bk.cell ai rfl))<|Gx n (v:=.bool (ceq c.num ((0,0):Nat×Nat))) (Run.ceq rfl rfl)<|Vp n<|Vm<|Bo a (fun o a=>?_) fun o a=>?_
 refine Gx o (Run.fieldAddr J6 rfl)<|Gx o (Run.load1 Oz rfl (Bk.cell ah rfl))<|Gr o (.bool (!d.bool))<|Vp o<|Vm<|Bo a (fun p a=>?_) fun p a=>?_
 refine Gx p (Run.fieldAddr J6 rfl)<|Gx p (Run.load1 Oz rfl (Bk.cell ai rfl))<|Gr p (.bool (!c.bool))<|Vp p<|Vm<|Bo a (fun e a=>?_) fun e a=>?_
 refine Gx e (Run.fieldAddr Ew rfl)<|Gx e (Run.load1 Ip rfl (Bk.cell ah rfl))<|have a2:=K3 Kd.cpx y q l h; ?_
 obtain ⟨bl,bm,a3⟩:=AI a2
 refine Gx e (v:=I (d.list.length:Int)) (Run.lenSlc IQ a3)<|Gr e (.bool ((d.list.length:Int)==0))<|Vp e<|Vm<|Bo a (fun f a=>?_) fun f a=>?_
 refine Gx f (Run.fieldAddr Ew rfl)<|Gx f (Run.load1 Ip rfl (Bk.cell ai rfl))<|have a4:=K3 Kd.cpx z q l h; ?_
 obtain ⟨bn,bo,a5⟩:=AI a4
 refine Gx f (v:=I (c.list.length:Int)) (Run.lenSlc IQ a5)<|Gr f (.bool ((c.list.length:Int)==0))<|Vp f<|Va (.bool ((c.list.length:Int)==0))<|AA<|⟨_,g,((c.list.length:Int)==0),Pu,a,(AO.refl [] _ _)⟩
 refine Pg f<|Pg f<|Pg f<|Pg f<|Vp f<|Va (.bool false)<|AA<|⟨_,g,false,Pu,a,(AO.refl [] _ _)⟩
 refine Pg e<|Pg e<|Pg e<|Pg e<|Vp e<|Vm<|Pg rfl<|Pg rfl<|Pg rfl<|Pg rfl<|Vr (.bool false)<|Va (.bool false)<|AA<|⟨_,g,false,Pu,a,(AO.refl [] _ _)⟩
 refine Pg p<|Pg p<|Pg p<|Vp p<|Vm<|Pg rfl<|Pg rfl<|Pg rfl<|Pg rfl<|Vr (.bool false)<|Vm<|Pg rfl<|Pg rfl<|Pg rfl<|Pg rfl<|Vr (.bool false)<|Va (.bool false)<|AA<|⟨_,g,false,Pu,a,(AO.refl [] _ _)⟩
 refine Pg o<|Pg o<|Pg o<|Vp o<|Vm<|Pg rfl<|Pg rfl<|Pg rfl<|Vr (.bool false)<|Vm<|Pg rfl<|Pg rfl<|Pg rfl<|Pg rfl<|Vr (.bool false)<|Vm<|Pg rfl<|Pg rfl<|Pg rfl<|Pg rfl<|Vr (.bool false)<|Va (.bool false)<|AA<|⟨_,g,false,Pu,a,(AO.refl [] _ _)⟩
 refine Pg n<|Pg n<|Pg n<|Vp n<|Vm<|Pg rfl<|Pg rfl<|Pg rfl<|Vr (.bool false)<|Vm<|Pg rfl<|Pg rfl<|Pg rfl<|Vr (.bool false)<|Vm<|Pg rfl<|Pg rfl<|Pg rfl<|Pg rfl<|Vr (.bool false)<|Vm<|Pg rfl<|Pg rfl<|Pg rfl<|Pg rfl<|Vr (.bool false)<|Va (.bool false)<|AA<|⟨_,g,false,Pu,a,(AO.refl [] _ _)⟩
 rintro _ aq ⟨r,af,ag,rfl,a,a6⟩
 rw [G6] at a
 refine AZ ?_
 obtain rfl:=AP a
 refine A0 (B:=B) ap (BQ rfl (.tmp rfl) ?_)
 exact ⟨af,rfl,Ho (T3 (Mo [] q) l h a6) aj⟩
 refine WC.skip<|Sr<|have a7:=Y2 aa l h;Vx (Run.loadN Dc rfl rfl (Bk.part a7 0 [I d.type_,Cx d.num,.bool d.bool,Sl al d.list am] rfl))<|have a8:=Bs ac h;Vx (Run.loadN Dc rfl rfl (Bk.part a8 0 [I c.type_,Cx c.num,.bool c.bool,Sl an c.list ao] rfl))<|have a9:=K3 Kd.cpx y q l h;have ba:=K3 Kd.cpx z q l h;Bi a fun bb bc a=>Ca (Z7 [.agg [I d.type_,Cx d.num,.bool d.bool,Sl al d.list am].toArray,.agg [I c.type_,Cx c.num,.bool c.bool,Sl an c.list ao].toArray] rfl) (TK u g s bc (BB (x:=d) a9) (BB (x:=c) ba)) ?_
 rintro _ bp ⟨bd,rfl,be⟩
 refine ⟨_,rfl,?_⟩
 refine Va (.bool bb)<|AA<|AZ ?_
 obtain rfl:=AP a
 refine A0 (B:=B) ap (BQ rfl (.tmp rfl) ?_)
 exact ⟨bd,rfl,Ho (T3 (Mo [] q) l h be) aj⟩
theorem SV(c:Nat):Fc.Spec (Fc c):=by
 intro a d n o p q r e f g
 refine Calls.mono (RH c (recol (see []) a) d (A3 lbr a) e (Av Ax f []) (Av Ax g [])) ?_
 rintro s u ⟨h,l,m⟩
 exact ⟨glue [] d a h,l,Ah m A2⟩
def GT.At(c:Col)(a:World)(f:Az→Az→Option Bool):Prop:=
 ∀{d:Az} {e:List Value} {g:Az} {h:List Value} {l:Bool},f d g=some l→JR.rep c.F a e d→JR.rep c.F a h g→
  Calls Tryz.prog 12 #[.agg e.toArray,.agg h.toArray] a fun m n=>∃(o:Col),m=.returned (.bool l)∧AO [] c a o n
def GT.Spec(f:Az→Az→Option Bool):Prop:=
 ∀(a:Col) (c:World),GT.At a c f
theorem SW(ab:Nat)(r:Col)(al:World)(am:∀b,r b<10):GT.At r al (GT ab):=by
 intro c a0 d a1 an a ao ap
 rw [GT] at a
 obtain ⟨a2,rfl,ac⟩:=HZ ao
 obtain ⟨ad,ae,rfl⟩:=AI ac
 obtain ⟨a3,rfl,af⟩:=HZ ap
 obtain ⟨ag,ah,rfl⟩:=AI af
 refine A5 Tryz.func12 rfl Tryz.ntmps12 rfl fun B aq a4=>Sr<|Ef (By r 20 rfl rfl fun ar a5 a6 au s=>?_)
 refine Ef (By ar 21 rfl rfl fun u ai a7 w o=>?_)
 refine Va (.bool false)<|AA<|Au (fun av aj=>∃(ak:Env) (y:Col) (z:Bool),av=ak.puts [(4,.bool z)]∧Gb z=some an∧AO [] u ai y aj) ?_ ?_
 refine AQ<|Vx (Run.fieldAddr0 Jh rfl)<|have aa:=Bs au o;Vx (Run.load1 KO rfl (Bk.cell aa rfl))<|Vx (Run.fieldAddr0 Jh rfl)<|Vx (Run.load1 KO rfl (Bk.cell w rfl))<|Vr (.bool (c.why==d.why))<|Vm<|Bo a (fun e a=>?_) fun e a=>?_
 refine Gx e (Run.fieldAddr N9 rfl)<|Gx e (Run.loadN Dc rfl rfl (Bk.part aa 1 [I c.value.type_,Cx c.value.num,.bool c.value.bool,Sl ad c.value.list ae] rfl))<|Gx e (Run.fieldAddr N9 rfl)<|Gx e (Run.loadN Dc rfl rfl (Bk.part w 1 [I d.value.type_,Cx d.value.num,.bool d.value.bool,Sl ag d.value.list ah] rfl))<|have aw:=K2 Kd.cpx ac s o;have ax:=K2 Kd.cpx af s o;Bi a fun a8 ay a=>Bx (.guard (t:=true) (b:=true) rfl rfl rfl rfl (Cb e)) rfl rfl (Z6 [.agg [I c.value.type_,Cx c.value.num,.bool c.value.bool,Sl ad c.value.list ae].toArray,.agg [I d.value.type_,Cx d.value.num,.bool d.value.bool,Sl ag d.value.list ah].toArray] rfl)<|Calls.mono (SV ab u ai ay (BB (x:=(AG.mk c.value.type_ c.value.num c.value.bool c.value.list)) aw) (BB (x:=(AG.mk d.value.type_ d.value.num d.value.bool d.value.list)) ax)) ?_
 rintro _ a9 ⟨n,rfl,m⟩
 refine ⟨_,rfl,?_⟩
 refine Vp e<|Vm<|Bo a (fun f a=>?_) fun f a=>?_
 refine Gx f (Run.fieldAddr G7 rfl)<|have p:=Bs aa m;Gx f (Run.load1 Be rfl (Bk.cell p rfl))<|Gx f (Run.fieldAddr G7 rfl)<|have q:=Bs w m;Gx f (Run.load1 Be rfl (Bk.cell q rfl))<|Gr f (.bool (c.moves==d.moves))<|Vp f<|Vm<|Bo a (fun g a=>?_) fun g a=>?_
 refine Gx g (Run.fieldAddr Um rfl)<|Gx g (Run.load1 Be rfl (Bk.cell p rfl))<|Gx g (Run.fieldAddr Um rfl)<|Gx g (Run.load1 Be rfl (Bk.cell q rfl))<|Gr g (.bool (c.thunks==d.thunks))<|Vp g<|Vm<|Bo a (fun h a=>?_) fun h a=>?_
 refine Gx h (Run.fieldAddr Un rfl)<|Gx h (Run.load1 Be rfl (Bk.cell p rfl))<|Gx h (Run.fieldAddr Un rfl)<|Gx h (Run.load1 Be rfl (Bk.cell q rfl))<|Gr h (.bool (c.updates==d.updates))<|Vp h<|Vm<|Bo a (fun l a=>?_) fun l a=>?_
 refine Gx l (Run.fieldAddr Uo rfl)<|Gx l (Run.load1 Be rfl (Bk.cell p rfl))<|Gx l (Run.fieldAddr Uo rfl)<|Gx l (Run.load1 Be rfl (Bk.cell q rfl))<|Gr l (.bool (c.calls==d.calls))<|Vp l<|Va (.bool (c.calls==d.calls))<|AA<|⟨_,n,(c.calls==d.calls),Pu,a,(Mo [] m)⟩
 refine Pg l<|Pg l<|Pg l<|Pg l<|Pg l<|Vp l<|Va (.bool false)<|AA<|⟨_,n,false,Pu,a,(Mo [] m)⟩
 refine Pg h<|Pg h<|Pg h<|Pg h<|Pg h<|Vp h<|Vm<|Pg rfl<|Pg rfl<|Pg rfl<|Pg rfl<|Pg rfl<|Vr (.bool false)<|Va (.bool false)<|AA<|⟨_,n,false,Pu,a,(Mo [] m)⟩
 refine Pg g<|Pg g<|Pg g<|Pg g<|Pg g<|Vp g<|Vm<|Pg rfl<|Pg rfl<|Pg rfl<|Pg rfl<|Pg rfl<|Vr (.bool false)<|Vm<|Pg rfl<|Pg rfl<|Pg rfl<|Pg rfl<|Pg rfl<|Vr (.bool false)<|Va (.bool false)<|AA<|⟨_,n,false,Pu,a,(Mo [] m)⟩
 refine Pg f<|Pg f<|Pg f<|Pg f<|Pg f<|Vp f<|Vm<|Pg rfl<|Pg rfl<|Pg rfl<|Pg rfl<|Pg rfl<|Vr (.bool false)<|Vm<|Pg rfl<|Pg rfl<|Pg rfl<|Pg rfl<|Pg rfl<|Vr (.bool false)<|Vm<|Pg rfl<|Pg rfl<|Pg rfl<|Pg rfl<|Pg rfl<|Vr (.bool false)<|Va (.bool false)<|AA<|⟨_,n,false,Pu,a,(Mo [] m)⟩
 refine Pg e<|Pg e<|Pg e<|Pg e<|Pg e<|Vp e<|Vm<|Pg rfl<|Pg rfl<|Pg rfl<|Pg rfl<|Pg rfl<|Vr (.bool false)<|Vm<|Pg rfl<|Pg rfl<|Pg rfl<|Pg rfl<|Pg rfl<|Vr (.bool false)<|Vm<|Pg rfl<|Pg rfl<|Pg rfl<|Pg rfl<|Pg rfl<|Vr (.bool false)<|Vm<|Pg rfl<|Pg rfl<|Pg rfl<|Pg rfl<|Pg rfl<|Vr (.bool false)<|Va (.bool false)<|AA<|⟨_,u,false,Pu,a,(AO.refl [] _ _)⟩
 rintro _ aj ⟨ak,y,z,rfl,a,az⟩
 rw [Gb] at a
 refine AZ ?_
 obtain rfl:=AP a
 refine A0 (B:=B) aq (BQ rfl (.tmp rfl) ?_)
 exact ⟨y,rfl,Ho (T2 (Mo [] s) o az) am⟩
theorem Mq(c:Nat):GT.Spec (GT c):=by
 intro a d n o p q r e f g
 refine Calls.mono (SW c (recol (see []) a) d (A3 lbr a) e (Av JR f []) (Av JR g [])) ?_
 rintro s u ⟨h,l,m⟩
 exact ⟨glue [] d a h,l,Ah m A2⟩
def C8.At(c:Col)(a:World)(f:Dy→Int→Int→Option Bool):Prop:=
 ∀{d:Dy} {e:List Value} {g:Int} {h:Int} {l:Bool},f d g h=some l→Kv.rep c.F a e d→
  Calls Tryz.prog 5 #[.agg e.toArray,I g,I h] a fun m n=>∃(o:Col),m=.returned (.bool l)∧AO [] c a o n
def C8.Spec(f:Dy→Int→Int→Option Bool):Prop:=
 ∀(a:Col) (c:World),C8.At a c f
theorem PG(z:Nat)(bq:Col)(dc:World)(a1:∀b,bq b<10):C8.At bq dc (C8 z):=by
 intro w fh l s a7 a de
 rw [C8] at a
 obtain ⟨fi,rfl,ci⟩:=PP de
 obtain ⟨cj,ck,rfl⟩:=AI ci
 refine A5 Tryz.func5 rfl Tryz.ntmps5 rfl fun B a2 e=>Sr<|Ef (By bq 20 rfl rfl fun df dg bc dh ar=>?_)
 refine Va (.bool false)<|AA<|Ac<|Sr<|Bi a fun di dj a=>Ca (Z5 [] rfl) (ST z df dg dj) ?_
 rintro _ dk ⟨cl,rfl,ak⟩
 refine ⟨_,rfl,?_⟩
 refine Vr (.bool (!di))<|AA<|Cn a (fun dl a=>?_) fun dl a=>?_
 refine Sr<|Va (.bool false)<|AA<|AZ ?_
 obtain rfl:=AP a
 refine A0 (B:=B) a2 (BQ rfl (.tmp rfl) ?_)
 exact ⟨cl,rfl,Ho (Tn (Mo [] ar) ak) a1⟩
 refine WC.skip<|Sr<|have cm:=Bs dh ak;Vx (Run.loadN Z4 rfl rfl (Bk.part cm 0 [Sl cj w.text ck,Sb w.name,Sb w.args] rfl))<|have dm:=K2 Kd.u8 ci ar ak;Bi a fun f dn a=>Ca (XI [.agg [Sl cj w.text ck,Sb w.name,Sb w.args].toArray] rfl) (MS z cl dk dn (PO (x:=w) dm)) ?_
 rintro _ fj ⟨dp,fk,fl,rfl,a3,dq,cn⟩
 obtain ⟨fm,rfl,co⟩:=Bl dq
 obtain ⟨al,am,rfl⟩:=AI co
 obtain ⟨ad,ae,rfl⟩:=AI cn
 refine ⟨_,rfl,?_⟩
 refine Vm<|Vr (.agg [Sl al f.1.funcs am].toArray)<|Vr (Sl ad f.2.1 ae)<|Vr (.bool f.2.2)<|Ef (AY dp 21 I4 rfl fun cq fn bj dr an=>?_)
 refine have ds:=Ss AL co an;Eu (St Hz dr rfl rfl rfl rfl fun dt cr ao=>?_)
 refine Va (Sl ad f.2.1 ae)<|Va (.bool f.2.2)<|AA<|Ac<|Sr<|Vm<|Vr (.bool (!f.2.2))<|AA<|Cn a (fun du a=>?_) fun du a=>?_
 refine Sr<|Va (.bool true)<|AA<|AZ ?_
 obtain rfl:=AP a
 refine A0 (B:=B) a2 (BQ rfl (.tmp rfl) ?_)
 exact ⟨cq,rfl,Ho (T4 (Mo [21] ar) ak a3 an ao) a1⟩
 refine WC.skip<|Sr<|Vx (Run.loadN JI rfl rfl (Bk.part cr 0 [Sl al f.1.funcs am] rfl))<|Vx (Run.fieldAddr PT rfl)<|have ct:=Y3 cm a3 an ao;Vx (Run.load1 De rfl (Bk.cell ct rfl))<|Vm<|have cu:=Ss AL ds ao;have cv:=K2 Ax cn an ao;Bi a fun c dv a=>Ca (P6 [.agg [Sl al f.1.funcs am].toArray,Sb w.name,Sl ad f.2.1 ae,I 16384] rfl) (Jr z cq dt dv (CA (x:=f.1) cu) cv) ?_
 rintro _ fo ⟨dw,fp,rfl,ap,dx⟩
 obtain ⟨fq,rfl,cw⟩:=HZ dx
 obtain ⟨a8,a9,rfl⟩:=AI cw
 refine ⟨_,rfl,?_⟩
 refine Ef (AY dw 22 LT rfl fun bd fr be dy af=>?_)
 refine have br:=Ss Kd.cpx cw af;Eu (St L0 dy rfl rfl rfl rfl fun dz a4 aa=>?_)
 refine AA<|Ac<|Au (fun ab bt=>∃(q:Env) (bk:Col) (bu:Bool),ab=q.puts [(1,.int .i64 l),(2,.int .i64 s),(3,.pointer (some ⟨bc,0,none⟩)),(7,.pointer (some ⟨bj,0,none⟩)),(8,.slice ad f.2.1.length ae),(10,.pointer (some ⟨be,0,none⟩)),(47,.bool bu)]∧ED z w l s f c bu=some a7∧AO [] bd dz bk bt) ?_ ?_
 refine AQ<|Vx (Run.fieldAddr G7 rfl)<|Vx (Run.load1 Be rfl (Bk.cell a4 rfl))<|Vr (.bool (decide (c.moves<0)))<|Vm<|Bo a (fun au a=>?_) fun au a=>?_
 refine Pg au<|Pg au<|Pg au<|Vp au<|Vm<|Pg rfl<|Pg rfl<|Pg rfl<|Pg rfl<|Po<|Po<|Po<|Pg rfl<|Vr (.bool true)<|AA<|⟨_,bd,true,Pu,a,(AO.refl [] _ _)⟩
 refine Gx au (Run.fieldAddr G7 rfl)<|Gx au (Run.load1 Be rfl (Bk.cell a4 rfl))<|Gr au (.bool (decide (c.moves>16384)))<|Vp au<|Vm<|Bo a (fun y a=>?_) fun y a=>?_
 refine Pg y<|Pg y<|Pg y<|Pg y<|Po<|Po<|Po<|Pg y<|Vp y<|AA<|⟨_,bd,true,Pu,a,(AO.refl [] _ _)⟩
 refine Gx y (Run.fieldAddr0 Jh rfl)<|Gx y (Run.load1 KO rfl (Bk.cell a4 rfl))<|Gr y (.bool (c.why==60))<|Gm y<|Bo a (fun av a=>?_) fun av a=>?_
 refine Gx av (Run.fieldAddr G7 rfl)<|Gx av (Run.load1 Be rfl (Bk.cell a4 rfl))<|Gr av (.bool (c.moves != 16384))<|Gp y av<|Vp y<|AA<|⟨_,bd,(c.moves != 16384),Pu,a,(AO.refl [] _ _)⟩
 refine Pg av<|Pg av<|Pg av<|Gp y av<|Vp y<|AA<|⟨_,bd,false,Pu,a,(AO.refl [] _ _)⟩
 rintro _ bt ⟨q,bk,bu,rfl,a,u⟩
 rw [ED] at a
 refine Cn a (fun d0 a=>?_) fun d0 a=>?_
 refine Sr<|Va (.bool false)<|AA<|AZ ?_
 obtain rfl:=AP a
 refine A0 (B:=B) a2 (BQ rfl (.tmp rfl) ?_)
 exact ⟨bk,rfl,Ho (T4 (T4 (Mo [21,22] ar) ak a3 an ao) ap af aa u) a1⟩
 refine WC.skip<|Sr<|have bv:=Y4 cr ap af aa u;Vx (Run.loadN JI rfl rfl (Bk.part bv 0 [Sl al f.1.funcs am] rfl))<|Vx (Run.fieldAddr PT rfl)<|have bw:=Y4 ct ap af aa u;Vx (Run.load1 De rfl (Bk.cell bw rfl))<|Vm<|Vm<|have bx:=K4 AL cu ap af aa u;have bz:=K4 Ax cv ap af aa u;Bi a fun d d1 a=>Ca (P6 [.agg [Sl al f.1.funcs am].toArray,Sb w.name,Sl ad f.2.1 ae,I l] rfl) (Jr z bk bt d1 (CA (x:=f.1) bx) bz) ?_
 rintro _ fs ⟨d2,ft,rfl,r,d3⟩
 obtain ⟨fu,rfl,cx⟩:=HZ d3
 obtain ⟨bl,bm,rfl⟩:=AI cx
 refine ⟨_,rfl,?_⟩
 refine Ef (AY d2 23 LT rfl fun bn fv cy d4 p=>?_)
 refine have cz:=Ss Kd.cpx cx p;Eu (St L0 d4 rfl rfl rfl rfl fun d5 b0 o=>?_)
 refine AA<|Ac<|Au (fun ab bf=>∃(q:Env) (a5:Col) (b1:Bool),ab=q.puts [(1,.int .i64 l),(2,.int .i64 s),(3,.pointer (some ⟨bc,0,none⟩)),(7,.pointer (some ⟨bj,0,none⟩)),(8,.slice ad f.2.1.length ae),(10,.pointer (some ⟨be,0,none⟩)),(11,.pointer (some ⟨cy,0,none⟩)),(66,.bool b1)]∧E7 z w l s f c d b1=some a7∧AO [] bn d5 a5 bf) ?_ ?_
 refine AQ<|Vx (Run.fieldAddr0 Jh rfl)<|have b2:=Y4 a4 u r p o;Vx (Run.load1 KO rfl (Bk.cell b2 rfl))<|Vr (.bool (c.why==3))<|Vm<|Bo a (fun aw a=>?_) fun aw a=>?_
 refine Pg aw<|Pg aw<|Pg aw<|Vp aw<|Vm<|Pg rfl<|Pg rfl<|Pg rfl<|Vr (.bool true)<|AA<|⟨_,bn,true,Pu,a,(AO.refl [] _ _)⟩
 refine Gx aw (Run.fieldAddr0 Jh rfl)<|Gx aw (Run.load1 KO rfl (Bk.cell b2 rfl))<|Gr aw (.bool (c.why==32))<|Vp aw<|Vm<|Bo a (fun ax a=>?_) fun ax a=>?_
 refine Pg ax<|Pg ax<|Pg ax<|Vp ax<|AA<|⟨_,bn,true,Pu,a,(AO.refl [] _ _)⟩
 refine Gx ax (Run.fieldAddr0 Jh rfl)<|Gx ax (Run.load1 KO rfl (Bk.cell b2 rfl))<|Gr ax (.bool (c.why==40))<|Vp ax<|AA<|⟨_,bn,(c.why==40),Pu,a,(AO.refl [] _ _)⟩
 rintro _ bf ⟨q,a5,b1,rfl,a,m⟩
 rw [E7] at a
 refine Cn a (fun d6 a=>?_) fun d6 a=>?_
 refine Au (fun ab c0=>∃(q:Env) (b3:Col) (b4:Bool),ab=q.puts [(6,.bool b4)]∧JL b4=some a7∧AO [] a5 bf b3 c0) ?_ ?_
 refine AQ<|have c1:=Bs (Y4 a4 u r p o) m;Vx (Run.loadN LQ rfl rfl (Bk.part c1 0 [I c.why,I c.value.type_,Cx c.value.num,.bool c.value.bool,Sl a8 c.value.list a9,I c.moves,I c.thunks,I c.updates,I c.calls] rfl))<|have d7:=Bs b0 m;Vx (Run.loadN LQ rfl rfl (Bk.part d7 0 [I d.why,I d.value.type_,Cx d.value.num,.bool d.value.bool,Sl bl d.value.list bm,I d.moves,I d.thunks,I d.updates,I d.calls] rfl))<|have d8:=K2 Kd.cpx (K4 Kd.cpx br aa u r p) o m;have d9:=K2 Kd.cpx cz o m;Bi a fun fw ea a=>Ca (VT [.agg [I c.why,I c.value.type_,Cx c.value.num,.bool c.value.bool,Sl a8 c.value.list a9,I c.moves,I c.thunks,I c.updates,I c.calls].toArray,.agg [I d.why,I d.value.type_,Cx d.value.num,.bool d.value.bool,Sl bl d.value.list bm,I d.moves,I d.thunks,I d.updates,I d.calls].toArray] rfl) (Mq z a5 bf ea (D5 (x:=c) d8) (D5 (x:=d) d9)) ?_
 rintro _ fx ⟨c2,rfl,b5⟩
 refine ⟨_,rfl,?_⟩
 refine Vm<|Bo a (fun ay a=>?_) fun ay a=>?_
 refine Gx ay (Run.fieldAddr G7 rfl)<|have eb:=Bs c1 b5;Gx ay (Run.load1 Be rfl (Bk.cell eb rfl))<|Gr ay (.bool (c.moves==0))<|Vp ay<|Va (.bool (c.moves==0))<|AA<|⟨_,c2,(c.moves==0),Pu,a,(Mo [] b5)⟩
 refine Pg ay<|Pg ay<|Pg ay<|Vp ay<|Va (.bool false)<|AA<|⟨_,c2,false,Pu,a,(Mo [] b5)⟩
 rintro _ c0 ⟨q,b3,b4,rfl,a,ec⟩
 rw [JL] at a
 refine AZ ?_
 obtain rfl:=AP a
 refine A0 (B:=B) a2 (BQ rfl (.tmp rfl) ?_)
 exact ⟨b3,rfl,Ho (Tn (T4 (T4 (T4 (Mo [21,22,23] ar) ak a3 an ao) ap af aa u) r p o m) ec) a1⟩
 refine WC.skip<|Ac<|Au (fun ab bg=>∃(q:Env) (ag:Col) (b6:Bool),ab=q.puts [(1,.int .i64 l),(2,.int .i64 s),(3,.pointer (some ⟨bc,0,none⟩)),(7,.pointer (some ⟨bj,0,none⟩)),(8,.slice ad f.2.1.length ae),(10,.pointer (some ⟨be,0,none⟩)),(11,.pointer (some ⟨cy,0,none⟩)),(89,.bool b6)]∧HD z w l s f c d b6=some a7∧AO [] a5 bf ag bg) ?_ ?_
 refine Cc Ff (.q 0 (.q 1 (.q 2 (.q 3 (.q 4 (.q 5 (.q 6 (.q 7 (.q 8 (.q 9 (.q 10 (.one 11 (.one 12 (.q 13 (.q 14 .nil))))))))))))))) [] [] a5 (by kernel_rfl) fun ed a6=>Qx e rfl (fun _ ⟨_,g⟩=>Run.fieldAddr0 Jh rfl)<|have b7:=Y2 (Y4 a4 u r p o) m a6;Qx e rfl (fun _ ⟨_,g⟩=>Run.load1 KO rfl (Bk.cell (Bs b7 g) rfl))<|Qx e rfl (v:=.bool (c.why != 60)) (fun _ ⟨_,g⟩=>rfl)<|Qx e rfl (v:=.bool (c.why != 60)) (fun _ ⟨_,g⟩=>Run.move rfl)<|Bo a (fun n a=>?_) fun n a=>?_
 refine BC (fun _ _ _ _ h=>e _ _ _ _ h) rfl rfl (.guard (t:=true) (b:=true) rfl rfl rfl rfl (Cb n)) rfl rfl (v:=.agg [I c.why,I c.value.type_,Cx c.value.num,.bool c.value.bool,Sl a8 c.value.list a9,I c.moves,I c.thunks,I c.updates,I c.calls].toArray) (fun _ ⟨_,g⟩=>Run.loadN LQ rfl rfl (Bk.part (Bs b7 g) 0 [I c.why,I c.value.type_,Cx c.value.num,.bool c.value.bool,Sl a8 c.value.list a9,I c.moves,I c.thunks,I c.updates,I c.calls] rfl))<|have ee:=Bs (Y4 bv r p o m) a6;BC (fun _ _ _ _ h=>e _ _ _ _ h) rfl rfl (.guard (t:=true) (b:=true) rfl rfl rfl rfl (Cb n)) rfl rfl (v:=.agg [Sl al f.1.funcs am].toArray) (fun _ ⟨_,g⟩=>Run.loadN JI rfl rfl (Bk.part (Bs ee g) 0 [Sl al f.1.funcs am] rfl))<|BC (fun _ _ _ _ h=>e _ _ _ _ h) rfl rfl (.guard (t:=true) (b:=true) rfl rfl rfl rfl (Cb n)) rfl rfl (v:=Pt bc 1) (fun _ ⟨_,g⟩=>Run.fieldAddr PT rfl)<|have ef:=Bs (Y4 bw r p o m) a6;BC (fun _ _ _ _ h=>e _ _ _ _ h) rfl rfl (.guard (t:=true) (b:=true) rfl rfl rfl rfl (Cb n)) rfl rfl (v:=Sb w.name) (fun _ ⟨_,g⟩=>Run.load1 De rfl (Bk.cell (Bs ef g) rfl))<|BC (fun _ _ _ _ h=>e _ _ _ _ h) rfl rfl (.guard (t:=true) (b:=true) rfl rfl rfl rfl (Cb n)) rfl rfl (v:=Sl ad f.2.1 ae) (fun _ ⟨_,g⟩=>Run.move rfl)<|BC (fun _ _ _ _ h=>e _ _ _ _ h) rfl rfl (.guard (t:=true) (b:=true) rfl rfl rfl rfl (Cb n)) rfl rfl (v:=Pt be 5) (fun _ ⟨_,g⟩=>Run.fieldAddr G7 rfl)<|BC (fun _ _ _ _ h=>e _ _ _ _ h) rfl rfl (.guard (t:=true) (b:=true) rfl rfl rfl rfl (Cb n)) rfl rfl (v:=I c.moves) (fun _ ⟨_,g⟩=>Run.load1 Be rfl (Bk.cell (Bs b7 g) rfl))<|BW rfl<|have eg:=Ss AL (K4 AL bx r p o m) a6;have eh:=Ss Ax (K4 Ax bz r p o m) a6;Bi a fun aq ei a=>BN rfl (.guard (t:=true) (b:=true) rfl rfl rfl rfl (Cb n)) rfl rfl (P6 [.agg [Sl al f.1.funcs am].toArray,Sb w.name,Sl ad f.2.1 ae,I c.moves] rfl)<|Calls.mono (Jr z a5 ed ei (CA (x:=f.1) eg) eh) ?_
 rintro _ ej ⟨ek,fy,rfl,bo,el⟩
 obtain ⟨fz,rfl,c3⟩:=HZ el
 obtain ⟨em,en,rfl⟩:=AI c3
 refine ⟨_,rfl,⟨_,(Mo [] bo)⟩,?_⟩
 refine BW rfl<|have eo:=K4 Kd.cpx (K4 Kd.cpx br aa u r p) o m a6 bo;Bi a fun b8 ep a=>BN rfl (.guard (t:=true) (b:=true) rfl rfl rfl rfl (Cb n)) rfl rfl (VT [.agg [I c.why,I c.value.type_,Cx c.value.num,.bool c.value.bool,Sl a8 c.value.list a9,I c.moves,I c.thunks,I c.updates,I c.calls].toArray,.agg [I aq.why,I aq.value.type_,Cx aq.value.num,.bool aq.value.bool,Sl em aq.value.list en,I aq.moves,I aq.thunks,I aq.updates,I aq.calls].toArray] rfl)<|Calls.mono (Mq z ek ej ep (D5 (x:=c) eo) (D5 (x:=aq) c3)) ?_
 rintro _ f0 ⟨eq,rfl,c4⟩
 refine ⟨_,rfl,⟨_,(Tn (Mo [] bo) c4)⟩,?_⟩
 refine BC (fun _ _ _ _ h=>e _ _ _ _ h) rfl rfl (.guard (t:=true) (b:=true) rfl rfl rfl rfl (Cb n)) rfl rfl (v:=.bool (!b8)) (fun _ ⟨_,g⟩=>rfl)<|Qx e rfl (v:=.bool (!b8)) (fun _ ⟨_,g⟩=>(Pk n))<|Ex<|⟨_,eq,(!b8),Pu,a,(T2 (Mo [] a6) bo c4)⟩
 refine Qp e rfl n<|Qp e rfl n<|Qp e rfl n<|Qp e rfl n<|Qp e rfl n<|Qp e rfl n<|Qp e rfl n<|BW rfl<|Oc rfl (.guard (t:=false) (b:=true) rfl rfl rfl rfl (Cb n)) rfl rfl<|⟨⟨_,(AO.refl [] _ _)⟩,?_⟩
 refine BW rfl<|Oc rfl (.guard (t:=false) (b:=true) rfl rfl rfl rfl (Cb n)) rfl rfl<|⟨⟨_,(AO.refl [] _ _)⟩,?_⟩
 refine Qp e rfl n<|Qx e rfl (v:=.bool false) (fun _ ⟨_,g⟩=>(Pk n))<|Ex<|⟨_,a5,false,Pu,a,(Mo [] a6)⟩
 rintro _ bg ⟨q,ag,b6,rfl,a,ac⟩
 rw [HD] at a
 refine Cn a (fun er a=>?_) fun er a=>?_
 refine Sr<|Va (.bool false)<|AA<|AZ ?_
 obtain rfl:=AP a
 refine A0 (B:=B) a2 (BQ rfl (.tmp rfl) ?_)
 exact ⟨ag,rfl,Ho (Tn (T4 (T4 (T4 (Mo [21,22,23] ar) ak a3 an ao) ap af aa u) r p o m) ac) a1⟩
 refine WC.skip<|Sr<|Vm<|Vx (v:=I (if l<0 then 0 else l)) (Run.max rfl rfl)<|Vx (v:=I (if 16384< (if l<0 then 0 else l) then 16384 else (if l<0 then 0 else l))) (Run.min rfl rfl)<|Va (I (if 16384< (if l<0 then 0 else l) then 16384 else (if l<0 then 0 else l)))<|AA<|Ac<|Sr<|Vm<|Vx (Run.fieldAddr G7 rfl)<|have bh:=Y2 (Y4 a4 u r p o) m ac;Vx (Run.load1 Be rfl (Bk.cell bh rfl))<|Vr (.bool (decide ((if 16384< (if l<0 then 0 else l) then 16384 else (if l<0 then 0 else l))≥c.moves)))<|AA<|Cn a (fun es a=>?_) fun es a=>?_
 refine Au (fun ab c5=>∃(q:Env) (b9:Col) (ca:Bool),ab=q.puts [(6,.bool ca)]∧IA ca=some a7∧AO [] ag bg b9 c5) ?_ ?_
 refine AQ<|Vx (Run.fieldAddr G7 rfl)<|Vx (Run.load1 Be rfl (Bk.cell bh rfl))<|Vr (.bool (decide (c.moves>0)))<|Vm<|Bo a (fun az a=>?_) fun az a=>?_
 refine Gx az (Run.loadN LQ rfl rfl (Bk.part bh 0 [I c.why,I c.value.type_,Cx c.value.num,.bool c.value.bool,Sl a8 c.value.list a9,I c.moves,I c.thunks,I c.updates,I c.calls] rfl))<|have et:=Y2 b0 m ac;Gx az (Run.loadN LQ rfl rfl (Bk.part et 0 [I d.why,I d.value.type_,Cx d.value.num,.bool d.value.bool,Sl bl d.value.list bm,I d.moves,I d.thunks,I d.updates,I d.calls] rfl))<|have eu:=K3 Kd.cpx (K4 Kd.cpx br aa u r p) o m ac;have ew:=K3 Kd.cpx cz o m ac;Bi a fun c6 ex a=>Bx (.guard (t:=true) (b:=true) rfl rfl rfl rfl (Cb az)) rfl rfl (VT [.agg [I c.why,I c.value.type_,Cx c.value.num,.bool c.value.bool,Sl a8 c.value.list a9,I c.moves,I c.thunks,I c.updates,I c.calls].toArray,.agg [I d.why,I d.value.type_,Cx d.value.num,.bool d.value.bool,Sl bl d.value.list bm,I d.moves,I d.thunks,I d.updates,I d.calls].toArray] rfl)<|Calls.mono (Mq z ag bg ex (D5 (x:=c) eu) (D5 (x:=d) ew)) ?_
 rintro _ f1 ⟨ey,rfl,ez⟩
 refine ⟨_,rfl,?_⟩
 refine Vp az<|Va (.bool c6)<|AA<|⟨_,ey,c6,Pu,a,(Mo [] ez)⟩
 refine Pg az<|Pg az<|Pg az<|Vp az<|Va (.bool false)<|AA<|⟨_,ag,false,Pu,a,(AO.refl [] _ _)⟩
 rintro _ c5 ⟨q,b9,ca,rfl,a,e0⟩
 rw [IA] at a
 refine AZ ?_
 obtain rfl:=AP a
 refine A0 (B:=B) a2 (BQ rfl (.tmp rfl) ?_)
 exact ⟨b9,rfl,Ho (T2 (T4 (T4 (T4 (Mo [21,22,23] ar) ak a3 an ao) ap af aa u) r p o m) ac e0) a1⟩
 refine WC.skip<|Ac<|Au (fun ab c7=>∃(q:Env) (bi:Col) (cb:Bool),ab=q.puts [(2,.int .i64 s),(3,.pointer (some ⟨bc,0,none⟩)),(7,.pointer (some ⟨bj,0,none⟩)),(8,.slice ad f.2.1.length ae),(10,.pointer (some ⟨be,0,none⟩)),(124,.bool cb)]∧E6 z w s f c cb=some a7∧AO [] ag bg bi c7) ?_ ?_
 refine AQ<|Vx (Run.fieldAddr0 Jh rfl)<|have cc:=Y2 b0 m ac;Vx (Run.load1 KO rfl (Bk.cell cc rfl))<|Vr (.bool (d.why != 60))<|Vm<|Bo a (fun ah a=>?_) fun ah a=>?_
 refine Pg ah<|Pg ah<|Pg ah<|Pg ah<|Vp ah<|Vm<|Pg rfl<|Pg rfl<|Pg rfl<|Pg rfl<|Vr (.bool true)<|Vm<|Pg rfl<|Pg rfl<|Pg rfl<|Vr (.bool true)<|AA<|⟨_,ag,true,Pu,a,(AO.refl [] _ _)⟩
 refine Gx ah (Run.fieldAddr G7 rfl)<|Gx ah (Run.load1 Be rfl (Bk.cell cc rfl))<|Gm ah<|Gr ah (.bool (d.moves != (if 16384< (if l<0 then 0 else l) then 16384 else (if l<0 then 0 else l))))<|Vp ah<|Vm<|Bo a (fun ai a=>?_) fun ai a=>?_
 refine Pg ai<|Pg ai<|Pg ai<|Pg ai<|Vp ai<|Vm<|Pg rfl<|Pg rfl<|Pg rfl<|Vr (.bool true)<|AA<|⟨_,ag,true,Pu,a,(AO.refl [] _ _)⟩
 refine Gx ai (Run.fieldAddr N9 rfl)<|Gx ai (Run.fieldAddr0 JB rfl)<|Gx ai (Run.load1 Fy rfl (Bk.cell cc rfl))<|Gr ai (.bool (d.value.type_ != 0))<|Vp ai<|Vm<|Bo a (fun a0 a=>?_) fun a0 a=>?_
 refine Pg a0<|Pg a0<|Pg a0<|Vp a0<|AA<|⟨_,ag,true,Pu,a,(AO.refl [] _ _)⟩
 refine Gx a0 (Run.fieldAddr G7 rfl)<|Gx a0 (Run.load1 Be rfl (Bk.cell bh rfl))<|Gr a0 (.bool (c.moves==0))<|Vp a0<|AA<|⟨_,ag,(c.moves==0),Pu,a,(AO.refl [] _ _)⟩
 rintro _ c7 ⟨q,bi,cb,rfl,a,ba⟩
 rw [E6] at a
 refine Cn a (fun e1 a=>?_) fun e1 a=>?_
 refine Sr<|Va (.bool false)<|AA<|AZ ?_
 obtain rfl:=AP a
 refine A0 (B:=B) a2 (BQ rfl (.tmp rfl) ?_)
 exact ⟨bi,rfl,Ho (T2 (T4 (T4 (T4 (Mo [21,22,23] ar) ak a3 an ao) ap af aa u) r p o m) ac ba) a1⟩
 refine WC.skip<|Ac<|Cc Ff (.q 0 (.q 1 (.q 2 (.q 3 (.q 4 (.q 5 (.q 6 (.q 7 (.q 8 (.q 9 (.q 10 .nil))))))))))) [] [] bi (by kernel_rfl) fun e2 bb=>Qx e rfl (v:=I s) (fun _ ⟨_,g⟩=>Run.move rfl)<|Qx e rfl (fun _ ⟨_,g⟩=>Run.fieldAddr G7 rfl)<|have cd:=Y2 bh ba bb;Qx e rfl (fun _ ⟨_,g⟩=>Run.load1 Be rfl (Bk.cell (Bs cd g) rfl))<|Bi a fun f2 e3 a=>Qx e rfl (v:=I (s.tmod c.moves)) (fun _ ⟨_,g⟩=>(Run.rem rfl rfl (RI e3)))<|Qx e rfl (fun _ ⟨_,g⟩=>Run.fieldAddr G7 rfl)<|Qx e rfl (fun _ ⟨_,g⟩=>Run.load1 Be rfl (Bk.cell (Bs cd g) rfl))<|Qx e rfl (v:=I (Wr ((s.tmod c.moves)+c.moves))) (fun _ ⟨_,g⟩=>rfl)<|Qx e rfl (fun _ ⟨_,g⟩=>Run.fieldAddr G7 rfl)<|Qx e rfl (fun _ ⟨_,g⟩=>Run.load1 Be rfl (Bk.cell (Bs cd g) rfl))<|Bi a fun f3 e4 a=>Qx e rfl (v:=I ((IntKind.i64.wrap ((s.tmod c.moves)+c.moves)).tmod c.moves)) (fun _ ⟨_,g⟩=>(Run.rem rfl rfl (RI e4)))<|Qx e rfl (v:=I ((IntKind.i64.wrap ((s.tmod c.moves)+c.moves)).tmod c.moves)) (fun _ ⟨_,g⟩=>Run.assign rfl)<|Ex<|Sr<|have e5:=Y3 (Y4 bv r p o m) ac ba bb;Vx (Run.loadN JI rfl rfl (Bk.part e5 0 [Sl al f.1.funcs am] rfl))<|Vx (Run.fieldAddr PT rfl)<|have e6:=Y3 (Y4 bw r p o m) ac ba bb;Vx (Run.load1 De rfl (Bk.cell e6 rfl))<|Vm<|Vm<|have e7:=K3 AL (K4 AL bx r p o m) ac ba bb;have e8:=K3 Ax (K4 Ax bz r p o m) ac ba bb;Bi a fun bp e9 a=>Ca (P6 [.agg [Sl al f.1.funcs am].toArray,Sb w.name,Sl ad f.2.1 ae,I ((IntKind.i64.wrap ((s.tmod c.moves)+c.moves)).tmod c.moves)] rfl) (Jr z bi e2 e9 (CA (x:=f.1) e7) e8) ?_
 rintro _ f4 ⟨fa,f5,rfl,fb,fc⟩
 obtain ⟨f6,rfl,c8⟩:=HZ fc
 obtain ⟨f7,f8,rfl⟩:=AI c8
 refine ⟨_,rfl,?_⟩
 refine Ef (AY fa 24 LT rfl fun cf f9 ga fd c9=>?_)
 refine have gb:=Ss Kd.cpx c8 c9;Eu (St L0 fd rfl rfl rfl rfl fun fe da ff=>?_)
 refine AA<|Au (fun ab db=>∃(q:Env) (cg:Col) (ch:Bool),ab=q.puts [(6,.bool ch)]∧IB ch=some a7∧AO [] cf fe cg db) ?_ ?_
 refine AQ<|Vx (Run.fieldAddr0 Jh rfl)<|Vx (Run.load1 KO rfl (Bk.cell da rfl))<|Vr (.bool (bp.why==60))<|Vm<|Bo a (fun aj a=>?_) fun aj a=>?_
 refine Gx aj (Run.fieldAddr G7 rfl)<|Gx aj (Run.load1 Be rfl (Bk.cell da rfl))<|Gm aj<|Gr aj (.bool (bp.moves==((IntKind.i64.wrap ((s.tmod c.moves)+c.moves)).tmod c.moves)))<|Vp aj<|Va (.bool (bp.moves==((IntKind.i64.wrap ((s.tmod c.moves)+c.moves)).tmod c.moves)))<|AA<|⟨_,cf,(bp.moves==((IntKind.i64.wrap ((s.tmod c.moves)+c.moves)).tmod c.moves)),Pu,a,(AO.refl [] _ _)⟩
 refine Pg aj<|Pg aj<|Pg aj<|Pg aj<|Vp aj<|Va (.bool false)<|AA<|⟨_,cf,false,Pu,a,(AO.refl [] _ _)⟩
 rintro _ db ⟨q,cg,ch,rfl,a,fg⟩
 rw [IB] at a
 refine AZ ?_
 obtain rfl:=AP a
 refine A0 (B:=B) a2 (BQ rfl (.tmp rfl) ?_)
 exact ⟨cg,rfl,Ho (T3 (T4 (T4 (T4 (T4 (Mo [21,22,23,24] ar) ak a3 an ao) ap af aa u) r p o m) ac ba bb fb) c9 ff fg) a1⟩
theorem Pj(c:Nat):C8.Spec (C8 c):=by
 intro a d m n o p q e f
 refine Calls.mono (PG c (recol (see []) a) d (A3 lbr a) e (Av Kv f [])) ?_
 rintro r s ⟨g,h,l⟩
 exact ⟨glue [] d a g,h,Ah l A2⟩
end Fth
namespace Fth
open Go
def T{α:Type}(x:Option α)(Q:α→Prop):Prop:=∃a,x=some a∧Q a
section
variable{α β:Type}{x:Option α}{f:α→Option β}{P:α→Prop}{Q:β→Prop}
theorem T.some{a:α}(h:P a):T (.some a) P:=⟨a,rfl,h⟩
theorem T.bind(h:T x P)(k: ∀a,P a→T (f a) Q):T (x.bind f) Q:=by
 obtain ⟨a,rfl,ha⟩:=h
 exact k a ha
theorem T.eq{a:α}(h:x= .some a)(k:T (f a) Q):T (x.bind f) Q:=by subst h;exact k
theorem T.mono{P':α→Prop}(h:T x P)(k: ∀a,P a→P' a):T x P':=by obtain ⟨a,e,ha⟩:=h;exact ⟨a,e,k a ha⟩
theorem T.cond{c:Bool}{x y:Option α}(h1:c=true→T x P)(h2:c=false→T y P):T (bif c then x else y) P:=by
 cases c
 ·exact h2 rfl
 ·exact h1 rfl
end
def Ev(p:Nat→Prop):Prop:=∃n,∀N,n≤N→p N
theorem Ev.and{p q:Nat→Prop}(hp:Ev p)(hq:Ev q):Ev fun N=>p N∧q N:=by
 obtain ⟨n,hn⟩:=hp;obtain ⟨m,hm⟩:=hq
 exact ⟨n+m,fun N h=>⟨hn N (by omega),hm N (by omega)⟩⟩
theorem Ev.mono{p q:Nat→Prop}(hp:Ev p)(h: ∀N,p N→q N):Ev q:=let ⟨n,hn⟩:=hp;⟨n,fun N hN=>h N (hn N hN)⟩
theorem Ev.all{p:Nat→Prop}(h: ∀N,p N):Ev p:=⟨0,fun N _=>h N⟩
theorem Ev.get{p:Nat→Prop}(hp:Ev p): ∃N,p N:=let ⟨n,hn⟩:=hp;⟨n,hn n (Nat.le_refl n)⟩
theorem L7(n:Nat):Ev fun N=>n≤N:=⟨n,fun _ h=>h⟩
theorem wr{x:Int}(h1: -9223372036854775808≤x)(h2:x≤9223372036854775807):IntKind.i64.wrap x=x:=by
 simp only [IntKind.wrap,IntKind.signed,IntKind.bits]
 simp
 omega
theorem Er{α:Type}{xs:List α}{i:Int}(h0:0≤i)(h1:i<xs.length):T (idx xs i) fun x=>xs[i.toNat]?= .some x:=by
 refine ⟨xs[i.toNat]'(by omega),?_,?_⟩
 ·rw [idx,if_pos h0];exact List.getElem?_eq_getElem _
 ·exact List.getElem?_eq_getElem _
theorem B1{α:Type}{xs:List α}{i:Nat}{x:α}(h:xs[i]?= .some x):idx xs (i:Int)= .some x:=by
 rw [idx,if_pos (by omega)];exact h
theorem Mr{α:Type}{xs:List α}{lo hi:Int}(h0:0≤lo)(h1:lo≤hi)(h2:hi≤xs.length):T (sub xs lo hi) fun ys=>ys=(xs.drop lo.toNat).take (hi.toNat - lo.toNat):=by
 rw [sub,if_pos ⟨h0,h1,h2⟩];exact .some rfl
theorem F1{α:Type}{b:Nat}{xs ys:List α}(hb:b≤4096)(h:xs.length+ys.length≤34359738368):T (GD b xs ys) fun _=>True:=by
 rw [GD,if_pos]
 ·exact .some trivial
 ·refine ⟨?_,by omega⟩
  calc (xs.length+ys.length)*b≤34359738368*4096:=Nat.mul_le_mul h hb
   _≤140737488355328:=by decide
theorem LF{xs ys:List UInt8}(h:xs.length+ys.length≤34359738368):T (O4 xs ys) fun zs=>zs=xs++ys:=by
 rw [O4,if_pos (by omega)];exact .some rfl
theorem Xo{n:Int}(h:n≠0):T (nz n) fun _=>True:=by rw [nz,if_neg h];exact .some trivial
theorem CD{p:Prop}[Decidable p](h:decide p=true):p:=of_decide_eq_true h
theorem Df{p:Prop}[Decidable p](h:decide p=false): ¬p:=of_decide_eq_false h
theorem Bu{x y:Int}(h:(x==y)=true):x=y:=by simpa using h
theorem BY{x y:Int}(h:(x==y)=false):x≠y:=by simpa using h
theorem J8{x y:Int}(h:(x != y)=true):x≠y:=by simpa using h
theorem Iu{x y:Int}(h:(x != y)=false):x=y:=by simpa using h
end Fth
namespace Fth
open Go
def Gf(x:Nat)(n:Int):Prop:=x=FloatKind.f64.nearest n∧ -16777216≤n∧n≤16777216
def Gn(z:Nat×Nat):Prop:=∃a b,Gf z.1 a∧Gf z.2 b
theorem Xp(c:UInt8):T (Gh c) fun _=>True:=by
 unfold Gh Hi
 repeat (first|exact T.some trivial|refine T.cond (fun _=>?_) (fun _=>?_))
theorem Wv(c:UInt8):T (Fm c) fun _=>True:=by
 unfold Fm F5
 repeat (first|exact T.some trivial|refine T.cond (fun _=>?_) (fun _=>?_))
theorem Ux(c:UInt8):T (F6 c) fun _=>True:=by
 unfold F6 JS
 repeat (first|exact T.some trivial|refine T.cond (fun _=>?_) (fun _=>?_))
theorem AAr{N:Nat}{t:List UInt8}{at_:Int}(h0:0≤at_)(h1:at_≤t.length)(hl:t.length≤34359738368)(hN:t.length+2≤N):
  T (Hf N t at_) fun n=>0≤n∧at_+n≤t.length:=by
 have key: ∀(k:Nat) (n:Int),0≤n→at_+n≤t.length→(t.length:Int) - (at_+n)<k→T (D9 t at_ k n) fun n=>0≤n∧at_+n≤t.length:=by
  intro k
  induction k with
  |zero=>intro n h2 h3 h4;omega
  |succ k ih=>
   intro n h2 h3 h4
   show T (Fh t at_ (D9 t at_ k) n) _
   unfold Fh
   have fin:T (Fn n (D9 t at_ k) false) fun n=>0≤n∧at_+n≤t.length:= .some ⟨h2,h3⟩
   rw [wr (x:=at_+n) (by omega) (by omega)]
   refine T.cond (fun h=>?_) (fun _=>fin)
   have h:=CD h
   have go: ∀b,T (Fn n (D9 t at_ k) b) fun n=>0≤n∧at_+n≤t.length:=by
    intro b
    cases b
    ·exact fin
    ·show T (D9 t at_ k (IntKind.i64.wrap (n+1))) _
     rw [wr (by omega) (by omega)]
     exact ih _ (by omega) (by omega) (by omega)
   refine T.bind (Er (by omega) h) fun c _=>T.bind (Wv c) fun b _=>?_
   refine T.cond (fun _=>go _) fun _=>T.bind (Ux c) fun b _=>T.cond (fun _=>go _) fun _=>go _
 exact key N 0 (by omega) (by omega) (by omega)
theorem AAs(e:Int):((u8c e).toNat:Int)≤255:=by have:=(u8c e).toNat_lt;omega
theorem Uy{N:Nat}{t:List UInt8}(hl:t.length≤34359738368)(hN:t.length+2≤N):
  T (EI N t) fun x=> -16777217≤x.1∧x.1≤16777217∧0≤x.2∧x.2≤t.length:=by
 have key: ∀(i:Int),0≤i→∀(k:Nat) (n p:Int),0≤n→n≤16777217→0≤p→p≤t.length→(t.length:Int) - p<k→T (Dz t i k n p) fun x=> -16777217≤x.1∧x.1≤16777217∧0≤x.2∧x.2≤t.length:=by
  intro i hi k
  induction k with
  |zero=>intro n p _ _ _ _ _;omega
  |succ k ih=>
   intro n p h1 h2 h3 h4 h5
   show T (EY t i (Dz t i k) n p) _
   unfold EY
   have fin:T (EH t i n p (Dz t i k) false) fun x=> -16777217≤x.1∧x.1≤16777217∧0≤x.2∧x.2≤t.length:=by
    unfold EH
    refine T.cond (fun h=>by cases h) fun _=>T.cond (fun _=> .some ⟨by omega,by omega,by omega,by omega⟩) fun _=>T.cond (fun _=>?_) fun _=>?_
    ·refine .some ⟨?_,?_,h3,h4⟩<;>simp only<;>rw [wr (by omega) (by omega)]<;>omega
    ·exact .some ⟨by simp only;omega,by simp only;omega,h3,h4⟩
   refine T.cond (fun h=>?_) fun _=>fin
   have h:=CD h
   refine T.bind (Er h3 h) fun c _=>T.cond (fun _=>?_) fun _=>fin
   refine T.bind (Er h3 h) fun c' _=>?_
   generalize decide (((c').toNat:Int)≤(((57:UInt8)).toNat:Int))=b
   cases b
   ·exact fin
   ·unfold EH
    refine T.cond (fun _=>?_) fun h=>by cases h
    refine T.bind (Er h3 h) fun c'' _=>?_
    generalize hc:(((c'').toNat:Int) - (((48:UInt8)).toNat:Int))=e
    have:=AAs e
    have hu:(0:Int)≤((u8c e).toNat:Int):=by omega
    rw [wr (x:=p+1) (by omega) (by omega),wr (x:=10*n) (by omega) (by omega),wr (x:=((u8c e).toNat:Int)) (by omega) (by omega),wr (x:=10*n+((u8c e).toNat:Int)) (by omega) (by omega)]
    split
    ·exact ih _ _ (by omega) (by omega) (by omega) (by omega) (by omega)
    ·exact ih _ _ (by omega) (by omega) (by omega) (by omega) (by omega)
 unfold EI
 have j5: ∀b,(b=true→1≤t.length)→T (Gi N t b) fun x=> -16777217≤x.1∧x.1≤16777217∧0≤x.2∧x.2≤t.length:=by
  intro b hb
  refine T.cond (fun h=>?_) fun _=>?_
  ·have:=hb h
   exact key 1 (by omega) N 0 1 (by omega) (by omega) (by omega) (by omega) (by omega)
  ·exact key 0 (by omega) N 0 0 (by omega) (by omega) (by omega) (by omega) (by omega)
 refine T.cond (fun h=>?_) fun _=>j5 _ fun h=>by cases h
 have h:=CD h
 exact T.bind (Er (by omega) (by omega)) fun c _=>j5 _ fun _=>by omega
theorem ABS(n:Ad):T (Gj n) fun x=>x.2=0→ -16777216≤n.re∧n.re≤16777216∧ -16777216≤n.im∧n.im≤16777216:=by
 unfold Gj
 have bad:T (Iv n true) fun x=>x.2=0→ -16777216≤n.re∧n.re≤16777216∧ -16777216≤n.im∧n.im≤16777216:= .some fun h=>by cases h
 refine T.cond (fun _=>bad) fun h1=>T.cond (fun _=>bad) fun h2=>T.cond (fun _=>bad) fun h3=>?_
 have h1:=Df h1;have h2:=Df h2;have h3:=Df h3
 cases h4:decide (n.im>16777216)
 ·have h4:=Df h4
  exact .some fun _=>⟨by omega,by omega,by omega,by omega⟩
 ·exact bad
theorem SX: ∀(n N:Nat) (a:Int),n<N→0≤a→a<10^n*10→n≤40→a≤1000000000000→T (ref01_digits N a) fun s=>s.length≤n+1:=by
 intro n
 induction n with
 |zero=>
  intro N a hN h0 h1 _ _
  obtain ⟨N,rfl⟩: ∃m,N=m+1:=⟨N - 1,by omega⟩
  show T (Cz _ N a) _
  unfold Cz
  refine T.cond (fun h=>?_) fun _=>?_
  ·have:=CD h;omega
  refine T.bind (Xo (by omega)) fun _ _=>T.cond (fun h=>?_) fun _=> .some (by simp)
  have:=CD h;omega
 |succ n ih=>
  intro N a hN h0 h1 h2 h3
  obtain ⟨N,rfl⟩: ∃m,N=m+1:=⟨N - 1,by omega⟩
  show T (Cz _ N a) _
  unfold Cz
  refine T.cond (fun h=>?_) fun _=>?_
  ·have:=CD h;omega
  refine T.bind (Xo (by omega)) fun _ _=>T.cond (fun h=>?_) fun _=> .some (by simp)
  have h:=CD h
  have hd:a.tdiv 10=a / 10:=Int.tdiv_eq_ediv_of_nonneg h0
  refine T.bind (Xo (by omega)) fun _ _=>?_
  rw [hd,wr (x:=a / 10) (by omega) (by omega)]
  have hlt:a / 10<10^n*10:=by
   rw [Int.pow_succ] at h1
   omega
  refine T.bind (ih N (a / 10) (by omega) (by omega) hlt (by omega) (by omega)) fun s hs=>T.bind (LF (by simp;omega)) fun z hz=> .some ?_
  subst hz;simp;omega
theorem TU{N:Nat}{a:Int}(hN:40≤N)(h0: -1000000000000≤a)(h1:a≤1000000000000):T (ref01_digits N a) fun s=>s.length≤40:=by
 rcases Int.lt_or_le a 0 with h|h
 ·obtain ⟨N,rfl⟩: ∃m,N=m+1:=⟨N - 1,by omega⟩
  show T (Cz _ N a) _
  unfold Cz
  refine T.cond (fun _=>?_) fun h'=>?_
  ·rw [wr (x:=0 - a) (by omega) (by omega)]
   refine T.bind (SX 13 N (0 - a) (by omega) (by omega) (by omega) (by omega) (by omega)) fun s hs=>T.bind (LF (by simp;omega)) fun z hz=> .some ?_
   subst hz;simp;omega
  ·have:=Df h';omega
 ·exact (SX 13 N a (by omega) h (by omega) (by omega) (by omega)).mono fun s hs=>by omega
theorem WD{N:Nat}{n:Ad}(hN:40≤N)(h1: -16777216≤n.re)(h2:n.re≤16777216)(h3: -16777216≤n.im)(h4:n.im≤16777216):T (FP N n) fun s=>s.length≤100:=by
 have hr:=TU (N:=N) (a:=n.re) hN (by omega) (by omega)
 have hi:=TU (N:=N) (a:=n.im) hN (by omega) (by omega)
 unfold FP
 refine T.cond (fun _=>T.bind hr fun s hs=> .some (by omega)) fun _=>T.cond (fun _=>T.bind hi fun s hs=>T.bind (LF (by simp;omega)) fun z hz=> .some (by subst hz;simp;omega)) fun _=>T.cond (fun _=>?_) fun _=>?_
 ·refine T.bind hr fun s hs=>T.bind (LF (by simp;omega)) fun z hz=>T.bind hi fun s' hs'=>?_
  subst hz
  refine T.bind (LF (by simp;omega)) fun z hz=>T.bind (LF (by subst hz;simp;omega)) fun z' hz'=> .some ?_
  subst hz;subst hz';simp;omega
 ·refine T.bind hr fun s hs=>T.bind hi fun s' hs'=>T.bind (LF (by omega)) fun z hz=>T.bind (LF (by subst hz;simp;omega)) fun z' hz'=> .some ?_
  subst hz;subst hz';simp;omega
theorem QR{N:Nat}{t:List UInt8}(hl:t.length≤34359738368)(hN:t.length+40≤N):
  T (D6 N t) fun x=>x.2=0→ -16777216≤x.1.re∧x.1.re≤16777216∧ -16777216≤x.1.im∧x.1.im≤16777216:=by
 have j1: ∀(a b:Int),T (FA N t a b) fun x=>x.2=0→ -16777216≤x.1.re∧x.1.re≤16777216∧ -16777216≤x.1.im∧x.1.im≤16777216:=by
  intro a b
  unfold FA
  refine T.bind (ABS _) fun x hx=>T.cond (fun _=> .some fun h=>by cases h) fun h=>?_
  have h:=hx (Iu h)
  refine T.bind (WD (by omega) h.1 h.2.1 h.2.2.1 h.2.2.2) fun s _=>T.cond (fun _=> .some fun h=>by cases h) fun _=> .some fun _=>h
 unfold D6
 refine T.bind (Uy hl (by omega)) fun x hx=>T.cond (fun _=> .some fun h=>by cases h) fun _=>?_
 refine T.bind (Mr hx.2.2.1 hx.2.2.2 (by omega)) fun s hs=>T.cond (fun _=>j1 _ _) fun _=>T.cond (fun h=>?_) fun _=>j1 _ _
 have hsl:s.length≤t.length:=by subst hs;simp
 have hs0:s≠[]:=by intro e;subst e;simp at h
 have hpos:0<s.length:=List.length_pos_iff.2 hs0
 have j3: ∀(u:List UInt8),u.length≤s.length→T (Gk N t x u) fun x=>x.2=0→ -16777216≤x.1.re∧x.1.re≤16777216∧ -16777216≤x.1.im∧x.1.im≤16777216:=
  fun u hu=>T.bind (Uy (by omega) (by omega)) fun y _=>j1 _ _
 refine T.bind (Er (by omega) (by omega)) fun c _=>T.cond (fun _=>?_) fun _=>j3 _ (by omega)
 refine T.bind (Mr (by omega) (by omega) (by omega)) fun u hu=>j3 _ ?_
 subst hu;simp
theorem Uz{N:Nat}{s:List UInt8}(hN:20≤N):T (DN N s) fun _=>True:=by
 obtain ⟨N,rfl⟩: ∃m,N=m+20:=⟨N - 20,by omega⟩
 unfold DN
 refine T.bind (P:=fun l=>l.length=19) (.some rfl) fun l hl=>?_
 have key: ∀(k:Nat) (i:Int),0≤i→(19:Int) - i<k→i≤19→T (DM s l k i) fun _=>True:=by
  intro k
  induction k with
  |zero=>intro i _ _ _;omega
  |succ k ih=>
   intro i h1 h2 h3
   show T (DZ s l (DM s l k) i) _
   unfold DZ
   refine T.cond (fun h=>?_) fun _=> .some trivial
   have h:=CD h
   refine T.bind (Er h1 h) fun c _=>T.cond (fun _=> .some trivial) fun _=>?_
   rw [wr (by omega) (by omega)]
   exact ih _ (by omega) (by omega) (by omega)
 exact key _ 0 (by omega) (by omega) (by omega)
theorem ZI{t:List UInt8}{p:Int}(hl:t.length≤34359738368)(h0:0≤p)(h1:p<t.length):T (Hk t p) fun n=>0≤n∧p+n≤t.length:=by
 have one: ∀b,T (Da b) fun n=>0≤n∧p+n≤t.length:=fun b=>T.cond (fun _=> .some ⟨by omega,by omega⟩) fun _=> .some ⟨by omega,by omega⟩
 have j1f:T (FB t p false) fun n=>0≤n∧p+n≤t.length:=by
  unfold FB
  refine T.cond (fun h=>by cases h) fun _=>T.bind (Er h0 h1) fun c _=>?_
  repeat (first|exact one _|refine T.cond (fun _=>?_) (fun _=>?_))
 have j1: ∀b,(b=true→p+1<t.length)→T (FB t p b) fun n=>0≤n∧p+n≤t.length:=by
  intro b hb
  cases b
  ·exact j1f
  ·have:=hb rfl
   exact .some ⟨by omega,by omega⟩
 unfold Hk
 rw [wr (by omega) (by omega)]
 refine T.cond (fun h=>?_) fun _=>j1f
 have h:=CD h
 refine T.bind (Er h0 h1) fun c _=>T.cond (fun _=>?_) fun _=>?_
 ·refine T.bind (Er (by omega) h) fun d _=>T.cond (fun _=>j1 _ fun _=>h) fun _=>T.cond (fun _=>j1 _ fun _=>h) fun _=>j1f
 ·exact T.cond (fun _=>T.bind (Er (by omega) h) fun d _=>j1 _ fun _=>h) fun _=>j1f
def Gm(m:AX):Prop:=m.kind≠4∧(m.kind=2→Gn m.num)
theorem ABf{n:Ad}(h: -16777216≤n.re∧n.re≤16777216∧ -16777216≤n.im∧n.im≤16777216):T (FQ n) Gn:= .some ⟨n.re,n.im,⟨rfl,h.1,h.2.1⟩,⟨rfl,h.2.2.1,h.2.2.2⟩⟩
theorem AAt{N:Nat}{t:List UInt8}{p:Int}(hl:t.length≤34359738368)(hN:t.length+40≤N)(h0:0≤p)(h1:p<t.length):
  T (HC N t p) fun x=>x.2=true→Gm x.1∧0<x.1.text.length∧p+x.1.text.length≤t.length:=by
 unfold HC
 refine T.bind (AAr h0 (by omega) hl (by omega)) fun n hn=>?_
 rw [wr (x:=p+n) (by omega) (by omega)]
 refine T.bind (Mr h0 (by omega) (by omega)) fun s hs=>?_
 have hsl:(s.length:Int)=n:=by subst hs;simp;omega
 have j2: ∀b,T (HT N t p n s b) fun x=>x.2=true→Gm x.1∧0<x.1.text.length∧p+x.1.text.length≤t.length:=by
  intro b
  unfold HT
  refine T.cond (fun _=> .some fun h=>by cases h) fun _=>T.cond (fun h=>?_) fun _=>?_
  ·have h:=CD h
   refine T.bind (Uz (by omega)) fun b _=>T.cond (fun _=> .some fun _=>⟨⟨by simp,by simp⟩,by simp only;omega,by simp only;omega⟩) fun _=> .some fun _=>⟨⟨by simp,by simp⟩,by simp only;omega,by simp only;omega⟩
  ·refine T.bind (ZI hl h0 h1) fun k hk=>?_
   rw [wr (x:=p+k) (by omega) (by omega)]
   refine T.bind (Mr h0 (by omega) (by omega)) fun u hu=> .some fun h=>?_
   have h:=CD h
   have hul:(u.length:Int)=k:=by subst hu;simp;omega
   exact ⟨⟨by simp,by simp⟩,by simp only;omega,by simp only;omega⟩
 have j1: ∀b,(b=true→0<n)→T (HU N t p n s b) fun x=>x.2=true→Gm x.1∧0<x.1.text.length∧p+x.1.text.length≤t.length:=by
  intro b hb
  unfold HU
  refine T.cond (fun h=>?_) fun _=>T.cond (fun _=>T.bind (Er h0 h1) fun c _=>j2 _) fun _=>j2 _
  have hp:=hb h
  refine T.bind (QR (by omega) (by omega)) fun x hx=>?_
  refine .some (a:=_) fun h=>?_
  have hz:=hx (Bu h)
  exact ⟨⟨by simp,fun _=>⟨x.1.re,x.1.im,⟨rfl,hz.1,hz.2.1⟩,⟨rfl,hz.2.2.1,hz.2.2.2⟩⟩⟩,by simp only;omega,by simp only;omega⟩
 refine T.cond (fun h=>?_) fun _=>j1 _ fun h=>by cases h
 have h:=CD h
 exact T.bind (Er h0 h1) fun c _=>T.bind (Ux c) fun b _=>j1 _ fun _=>h
def GM(ms:List AX):Prop:=∃l e,ms=l++[e]∧e.kind=4∧∀m∈l,Gm m
theorem Xq{N:Nat}{t:List UInt8}(hl:t.length≤1000000000)(hN:t.length+50≤N):
  T (FR N t) fun x=>x.2<0→GM x.1∧x.1.length≤t.length+1:=by
 have key: ∀(k:Nat) (ms:List AX) (p:Int),0≤p→p≤t.length→(t.length:Int) - p<k→(∀m∈ms,Gm m)→ms.length≤p→T (DO N t k ms p) fun x=>x.2<0→GM x.1∧x.1.length≤t.length+1:=by
  intro k
  induction k with
  |zero=>intro ms p _ _ _ _ _;omega
  |succ k ih=>
   intro ms p h0 h1 h2 hm hml
   show T (Ea N t (DO N t k) ms p) _
   unfold Ea
   refine T.cond (fun h=>?_) fun _=>?_
   ·have h:=CD h
    refine T.bind (Er h0 h) fun c hc=>T.bind (Xp c) fun b _=>T.cond (fun _=>?_) fun _=>T.cond (fun hsharp=>?_) fun _=>?_
    ·rw [wr (by omega) (by omega)]
     exact ih _ _ (by omega) (by omega) (by omega) hm (by omega)
    ·
     have inner: ∀(j:Nat) (q:Int),p≤q→q≤t.length→(t.length:Int) - q<j→(q=p∨p<q)→T (EJ t ms (DO N t k) j q) fun x=>x.2<0→GM x.1∧x.1.length≤t.length+1:=by
      intro j
      induction j with
      |zero=>intro q _ _ _ _;omega
      |succ j ihj=>
       intro q hq1 hq2 hq3 hq4
       show T (EZ t ms (DO N t k) (EJ t ms (DO N t k) j) q) _
       unfold EZ
       refine T.cond (fun hq=>?_) fun hq=>?_
       ·have hq:=CD hq
        refine T.bind (Er (by omega) hq) fun d hd=>?_
        unfold Gl
        refine T.cond (fun _=>?_) fun hnl=>?_
        ·rw [wr (by omega) (by omega)]
         exact ihj _ (by omega) (by omega) (by omega) (by omega)
        ·have hnl:=Iu hnl
         have hsharp:=Bu hsharp
         rcases hq4 with rfl|hq4
         ·rw [hd] at hc;cases hc
          rw [hsharp] at hnl
          exact absurd hnl (by decide)
         ·exact ih _ _ (by omega) (by omega) (by omega) hm (by omega)
       ·have hq:=Df hq
        have hpq:p<q:=by omega
        exact ih _ _ (by omega) (by omega) (by omega) hm (by omega)
     exact inner N p (by omega) (by omega) (by omega) (.inl rfl)
    ·refine T.bind (AAt (by omega) (by omega) h0 h) fun x hx=>T.cond (fun _=> .some fun h=>by simp only at h;omega) fun hb=>?_
     have hx:=hx (by simpa using hb)
     refine T.bind (F1 (by omega) (by simp;omega)) fun _ _=>?_
     rw [wr (by omega) (by omega)]
     refine ih _ _ (by omega) (by omega) (by omega) (fun m hm'=>?_) (by simp;omega)
     rcases List.mem_append.1 hm' with h'|h'
     ·exact hm m h'
     ·simp at h';subst h';exact hx.1
   ·refine T.bind (F1 (by omega) (by simp;omega)) fun _ _=> .some fun _=>⟨⟨ms,_,rfl,rfl,hm⟩,by simp;omega⟩
 exact key N [] 0 (by omega) (by omega) (by omega) (fun m h=>by cases h) (by simp)
end Fth
namespace Fth
open Go
theorem PH(e:AD):AD.mk e.op e.name e.tail e.type_ e.num e.args e.at_=e:=by cases e;rfl
mutual
def EF:AD→Nat
 | ⟨_,_,_,_,_,l,_⟩=>1+Co l
def Co:List AD→Nat
 | []=>0
 |e::l=>EF e+Co l
end
theorem OX(e:AD):EF e=1+Co e.args:=by cases e;simp [EF]
theorem JH(l m:List AD):Co (l++m)=Co l+Co m:=by
 induction l with
 |nil=>simp [Co]
 |cons e l ih=>simp [Co,ih];omega
theorem PI(e:AD):Co [e]=EF e:=by simp [Co]
theorem Li(e:AD):1≤EF e:=by rw [OX];omega
theorem NR{l:List AD}{e:AD}(h:e∈l):EF e≤Co l:=by
 induction l with
 |nil=>cases h
 |cons x l ih=>
  rcases List.mem_cons.1 h with rfl|h
  ·simp [Co]
  ·have:=ih h;simp only [Co];omega
theorem L8(l:List AD):l.length≤Co l:=by
 induction l with
 |nil=>simp
 |cons x l ih=>have:=Li x;simp only [Co,List.length_cons];omega
def Ar(op:Int)(n:Nat):Prop:=
 (1≤op∧op≤6∧n=0)∨op=7∨(8≤op∧op≤13∧n=2)∨(14≤op∧op≤17∧n=1)∨(op=18∧n=2)∨(19≤op∧op≤20∧n=3)∨(21≤op∧op≤22∧n=2)
inductive WE:AD→Prop
 |mk (e:AD) (ha:Ar e.op e.args.length) (hn:e.op=1→Gn e.num) (ht:e.op=5∨e.op=21∨e.op=22→1≤e.type_∧e.type_≤3) (hs: ∀a∈e.args,WE a):WE e
theorem WE.ar{e:AD}(h:WE e):Ar e.op e.args.length:=by cases h;assumption
theorem WE.num{e:AD}(h:WE e):e.op=1→Gn e.num:=by cases h;assumption
theorem WE.typ{e:AD}(h:WE e):e.op=5∨e.op=21∨e.op=22→1≤e.type_∧e.type_≤3:=by cases h;assumption
theorem WE.sub{e:AD}(h:WE e): ∀a∈e.args,WE a:=by cases h;assumption
section
variable{ms:List AX}
def Rd(ms:List AX)(r:AB):Prop:=r.marks=ms∧0≤r.at_∧r.at_<ms.length
theorem UK(hM:GM ms){i:Nat}{m:AX}(h:ms[i]?=some m):(m.kind≠4→i+1<ms.length)∧(m.kind=2→Gn m.num):=by
 obtain ⟨l,e,rfl,he,hl⟩:=hM
 rcases Nat.lt_or_ge i l.length with hi|hi
 ·rw [List.getElem?_append_left hi] at h
  have:=hl m (List.mem_of_getElem? h)
  exact ⟨fun _=>by simp;omega,this.2⟩
 ·rw [List.getElem?_append_right hi] at h
  have h0:i - l.length=0:=by
   rcases Nat.eq_zero_or_pos (i - l.length) with h'|h'
   ·exact h'
   ·rw [List.getElem?_eq_none (by simp;omega)] at h;cases h
  rw [h0] at h
  simp at h
  subst h
  exact ⟨fun h=>absurd he h,fun h=>by rw [he] at h;exact absurd h (by decide)⟩
theorem KF{r:AB}(hr:Rd ms r):T (BM r) fun m=>ms[r.at_.toNat]?=some m:=by
 obtain ⟨rfl,h0,h1⟩:=hr
 exact T.bind (Er h0 h1) fun m hm=> .some hm
theorem NS{r:AB}{y:Int}(hr:Rd ms r)(hy:y≠0):T (Bb r y) fun r'=>Rd ms r'∧r'.at_=r.at_∧r'.why≠0:=by
 unfold Bb
 refine T.cond (fun _=>T.bind (KF (ms:=ms) (r:=AB.mk _ _ _ _ _ _) hr) fun m _=> .some ⟨hr,rfl,hy⟩) fun h=> .some ⟨hr,rfl,BY h⟩
def JJ(r:AB):AB:=⟨r.marks,r.at_+1,r.why,r.where_,r.l,r.nest⟩
theorem NZ(hM:GM ms){r:AB}{s:List UInt8}(hr:Rd ms r):T (BR r s) fun b=>b=true→r.why=0∧r.at_+1<ms.length:=by
 unfold BR
 refine T.bind (KF hr) fun m hm=>T.cond (fun hw=>?_) fun _=> .some fun h=>by cases h
 have hw:=Bu hw
 have h2:=(UK hM hm).1
 have:=hr.2.1
 refine T.cond (fun hk=> .some fun _=>⟨hw,?_⟩) fun _=>T.cond (fun hk=> .some fun _=>⟨hw,?_⟩) fun _=> .some fun h=>by cases h
 ·have:=h2 (by rw [Bu hk];decide);omega
 ·have:=h2 (by rw [Bu hk];decide);omega
variable(hlen:ms.length≤1000000000)
include hlen
theorem MU{r:AB}(hr:Rd ms r):(AB.mk r.marks (IntKind.i64.wrap (r.at_+1)) r.why r.where_ (Ab.mk r.l.text r.l.funcs r.l.arity r.l.nest) r.nest)=JJ r:=by
 rw [wr (by have:=hr.2.1;omega) (by have:=hr.2.2;omega)];rfl
theorem NT(hM:GM ms){r:AB}{s:List UInt8}(hr:Rd ms r):T (Bc r s) fun x=>(x.1=true→r.why=0∧x.2=JJ r∧Rd ms (JJ r))∧(x.1=false→x.2=r):=by
 unfold Bc
 refine T.bind (NZ hM hr) fun b hb=>T.cond (fun h=> .some ⟨fun h=>(by cases h),fun _=>rfl⟩) fun h=>?_
 rw [MU hlen hr]
 have:=hb (by simpa using h)
 exact .some ⟨fun _=>⟨this.1,rfl,hr.1,by show 0≤r.at_+1;have:=hr.2.1;omega,this.2⟩,fun h=>by cases h⟩
theorem Hy(hM:GM ms){r:AB}{s:List UInt8}(hr:Rd ms r):T (A4 r s) fun r'=>Rd ms r'∧r.at_≤r'.at_∧(r'.why=0→r.why=0∧r'.at_=r.at_+1):=by
 unfold A4
 refine T.bind (NT hlen hM hr) fun x hx=>T.cond (fun h=>?_) fun h=>?_
 ·have e:=hx.2 (by simpa using h)
  rw [e]
  refine T.bind (NS hr (by decide)) fun r' hr'=> .some ⟨hr'.1,by rw [hr'.2.1];omega,fun h=>absurd h hr'.2.2⟩
 ·obtain ⟨h0,e,h1⟩:=hx.1 (by simpa using h)
  rw [e]
  exact .some ⟨h1,by show r.at_≤r.at_+1;omega,fun _=>⟨h0,rfl⟩⟩
theorem Pm(hM:GM ms){r:AB}(hr:Rd ms r):T (Bz r) fun x=>Rd ms x.2∧r.at_≤x.2.at_∧(x.2.why=0→r.why=0∧x.2.at_=r.at_+1):=by
 unfold Bz
 refine T.bind (KF hr) fun m hm=>?_
 have bad:T (FS r m true) fun x=>Rd ms x.2∧r.at_≤x.2.at_∧(x.2.why=0→r.why=0∧x.2.at_=r.at_+1):=
  T.bind (NS hr (by decide)) fun r' hr'=> .some ⟨hr'.1,by simp only;rw [hr'.2.1];omega,fun h=>absurd h hr'.2.2⟩
 refine T.cond (fun _=>bad) fun hw=>?_
 cases hk:(m.kind != 0)
 ·unfold FS
  rw [MU hlen hr]
  have h2:=(UK hM hm).1 (by rw [Iu hk];decide)
  have:=hr.2.1
  exact .some ⟨⟨hr.1,by show 0≤r.at_+1;omega,by show r.at_+1<_;omega⟩,by show r.at_≤r.at_+1;omega,fun _=>⟨Iu hw,rfl⟩⟩
 ·exact bad
theorem UL(hM:GM ms){r:AB}{N:Nat}(hN:5≤N)(hr:Rd ms r):T (B4 N r) fun x=>Rd ms x.2∧r.at_≤x.2.at_∧(x.2.why=0→r.why=0∧x.2.at_=r.at_+1∧1≤x.1∧x.1≤3):=by
 have key: ∀(k:Nat) (i:Int),0≤i→i≤3→3 - i<k→T (B3 k i r.marks r.at_ r.why r.where_ r.l.text r.l.funcs r.l.arity r.l.nest r.nest) fun x=>Rd ms x.2∧r.at_≤x.2.at_∧(x.2.why=0→r.why=0∧x.2.at_=r.at_+1∧1≤x.1∧x.1≤3):=by
  intro k
  induction k with
  |zero=>intro i _ _ _;omega
  |succ k ih=>
   intro i h0 h1 h2
   show T (Cr (B3 k) i r.marks r.at_ r.why r.where_ r.l.text r.l.funcs r.l.arity r.l.nest r.nest) _
   unfold Cr
   refine T.cond (fun h=>?_) fun h=>?_
   ·have h:=CD h
    have h:i<3:=h
    refine T.bind (Er h0 (by simpa using h)) fun s _=>T.bind (NT hlen hM (r:=r) hr) fun x hx=>T.cond (fun hb=>?_) fun hb=>?_
    ·obtain ⟨h3,e,h4⟩:=hx.1 hb
     rw [e,wr (by omega) (by omega)]
     exact .some ⟨h4,by show r.at_≤r.at_+1;omega,fun _=>⟨h3,rfl,by simp only;omega,by simp only;omega⟩⟩
    ·rw [hx.2 hb,wr (by omega) (by omega)]
     exact ih _ (by omega) (by omega) (by omega)
   ·exact T.bind (NS (r:=r) hr (by decide)) fun r' hr'=> .some ⟨hr'.1,by simp only;rw [hr'.2.1];omega,fun h=>absurd h hr'.2.2⟩
 exact key N 0 (by omega) (by omega) (by omega)
omit hlen
def EP(ms:List AX)(r:AB)(x:AD×AB):Prop:=Rd ms x.2∧r.at_≤x.2.at_∧(x.2.why=0→r.why=0∧WE x.1∧(EF x.1:Int)≤x.2.at_ - r.at_)
def Fu(ms:List AX)(n:Nat)(r:AB)(lvl:Int):Prop:=lvl≤n∧(r.why=0→20*((ms.length:Int) - r.at_)+lvl≤n)
structure PSp(ms:List AX)(n:Nat)(φ:AC):Prop where
 expr: ∀r,Rd ms r→Fu ms n r 18→T (φ.ref04_reader_expr r) (EP ms r)
 cons: ∀r,Rd ms r→Fu ms n r 17→T (φ.ref04_reader_cons r) (EP ms r)
 comp: ∀r,Rd ms r→Fu ms n r 16→T (φ.ref04_reader_comp r) (EP ms r)
 sum: ∀r,Rd ms r→Fu ms n r 15→T (φ.ref04_reader_sum r) (EP ms r)
 term: ∀r,Rd ms r→Fu ms n r 14→T (φ.ref04_reader_term r) (EP ms r)
 unit: ∀r,Rd ms r→Fu ms n r 13→T (φ.ref04_reader_unit r) (EP ms r)
 named: ∀r m,Rd ms r→r.why=0→Fu ms n r 12→T (φ.ref04_reader_named r m) fun x=>Rd ms x.2∧r.at_≤x.2.at_∧(x.2.why=0→WE x.1∧(EF x.1:Int)≤x.2.at_ - r.at_+1)
 parts: ∀r l,Rd ms r→l.length≤3→Fu ms n r 19→T (φ.ref04_reader_parts r l) fun x=>Rd ms x.2∧r.at_≤x.2.at_∧(x.2.why=0→(l≠[]→r.why=0)∧x.1.length=l.length∧(∀a∈x.1,WE a)∧(Co x.1:Int)≤x.2.at_ - r.at_)
 branches: ∀r e,Rd ms r→Fu ms n r 19→T (φ.ref04_reader_branches r e) fun x=>Rd ms x.1∧r.at_≤x.1.at_∧(x.1.why=0→r.why=0∧WE x.2∧(EF x.2:Int)≤x.1.at_ - r.at_+1)
theorem Fu.le{n m:Nat}{r r':AB}{l l':Int}(h:Fu ms n r l)(ha:r.at_≤r'.at_)(hw:r'.why=0→r.why=0)(hl:l'+n≤l+m):Fu ms m r' l':=by
 obtain ⟨h1,h2⟩:=h
 exact ⟨by omega,fun h=>by have:=h2 (hw h);omega⟩
theorem Fu.lt{n m:Nat}{r r':AB}{l l':Int}(h:Fu ms n r l)(ha:r.at_<r'.at_)(hw:r.why=0)(h1:r.at_<ms.length)(hl:l'+n≤l+20+m):Fu ms m r' l':=by
 obtain ⟨h1,h2⟩:=h
 have:=h2 hw
 exact ⟨by omega,fun _=>by omega⟩
theorem WE.two{op:Int}{a b:AD}{nm tl:List UInt8}{ty:Int}{z:Nat×Nat}{p:Int}(ho:(8≤op∧op≤13)∨op=18)(ha:WE a)(hb:WE b):WE ⟨op,nm,tl,ty,z,[a,b],p⟩:=by
 refine .mk _ ?_ (fun h=>?_) (fun h=>?_) fun x hx=>?_
 ·rcases ho with ho|ho
  ·exact .inr (.inr (.inl ⟨ho.1,ho.2,rfl⟩))
  ·exact .inr (.inr (.inr (.inr (.inl ⟨ho,rfl⟩))))
 ·simp only at h;omega
 ·simp only at h;omega
 ·simp at hx;rcases hx with rfl|rfl<;>assumption
section
variable(hlen:ms.length≤1000000000)(hM:GM ms){n:Nat}{φ:AC}(hφ:PSp ms n φ)
include hlen hM hφ
theorem AAu{r:AB}(hr:Rd ms r)(hf:Fu ms (n+1) r 17):T (Cf φ n r) (EP ms r):=by
 unfold Cf
 refine T.bind (hφ.comp r hr (hf.le (by omega) id (by omega))) fun x hx=>T.bind (KF hx.1) fun m _=>T.bind (NT hlen hM hx.1) fun y hy=>T.cond (fun hb=>?_) fun hb=>?_
 ·rw [hy.2 (by simpa using hb)]
  exact .some hx
 ·obtain ⟨h0,e,h1⟩:=hy.1 (by simpa using hb)
  rw [e]
  have h2:=hx.2.2 h0
  have h3:=hx.2.1
  refine T.bind (hφ.cons _ h1 (hf.lt (by show r.at_<x.2.at_+1;omega) h2.1 hr.2.2 (by omega))) fun z hz=>?_
  refine .some (a:=_) ⟨hz.1,by have:=hz.2.1;simp only [JJ] at this;simp only;omega,fun hw=>?_⟩
  have hz':=hz.2.2 hw
  refine ⟨h2.1,.two (.inr rfl) h2.2.1 hz'.2.1,?_⟩
  have hz1:=hz'.2.2
  simp only [JJ] at hz1
  simp only [EF,Co]
  omega
theorem AAv{r:AB}(hr:Rd ms r)(hf:Fu ms (n+1) r 16):T (Cg φ n r) (EP ms r):=by
 unfold Cg
 refine T.bind (hφ.sum r hr (hf.le (by omega) id (by omega))) fun x hx=>T.bind (KF hx.1) fun m _=>T.bind (NZ hM hx.1) fun b _=>?_
 have go: ∀op:Int,8≤op∧op≤13→T (DU φ x m op) (EP ms r):=by
  intro op hop
  have yes: ∀y:AB,x.2.why=0→y=JJ x.2→Rd ms y→T (Dt φ x m op false y.marks y.at_ y.why y.where_ y.l.text y.l.funcs y.l.arity y.l.nest y.nest) (EP ms r):=by
   rintro y h0 rfl h1
   have h2:=hx.2.2 h0
   have h3:=hx.2.1
   refine T.cond (fun h=>by cases h) fun _=>T.bind (hφ.sum (JJ x.2) h1 (hf.lt (by show r.at_<x.2.at_+1;omega) h2.1 hr.2.2 (by omega))) fun z hz=>?_
   refine .some (a:=_) ⟨hz.1,by have:=hz.2.1;simp only [JJ] at this;simp only;omega,fun hw=>?_⟩
   have hz':=hz.2.2 hw
   refine ⟨h2.1,.two (.inl hop) h2.2.1 hz'.2.1,?_⟩
   have hz1:=hz'.2.2
   simp only [JJ] at hz1
   simp only [EF,Co]
   omega
  unfold DU
  refine T.bind (NT hlen hM hx.1) fun y hy=>T.cond (fun hb=>?_) fun hb=>?_
  ·rw [hy.2 (by simpa using hb)]
   refine T.bind (NT hlen hM hx.1) fun y hy=>?_
   cases hb:y.1
   ·rw [hy.2 hb]
    exact .some hx
   ·obtain ⟨h0,e,h1⟩:=hy.1 hb
    exact yes _ h0 e (e▸h1)
  ·obtain ⟨h0,e,h1⟩:=hy.1 (by simpa using hb)
   exact yes _ h0 e (e▸h1)
 exact T.cond (fun _=>go 13 ⟨by omega,by omega⟩) fun _=>go 12 ⟨by omega,by omega⟩
theorem ABT{r:AB}(hr:Rd ms r)(hf:Fu ms (n+1) r 15):T (C7 φ n r) (EP ms r):=by
 unfold C7
 refine T.bind (hφ.term r hr (hf.le (by omega) id (by omega))) fun x hx=>?_
 have key: ∀(k:Nat) (x:AD×AB),EP ms r x→1≤k→(x.2.why=0→(ms.length:Int) - x.2.at_<k)→T (BZ φ k x.2.marks x.2.at_ x.2.why x.2.where_ x.2.l.text x.2.l.funcs x.2.l.arity x.2.l.nest x.2.nest x.1.op x.1.name x.1.tail x.1.type_ x.1.num x.1.args x.1.at_) (EP ms r):=by
  intro k
  induction k with
  |zero=>intro x _ _ _;omega
  |succ k ih=>
   intro x hx _ hk
   have go: ∀b,(b=true→x.2.why=0∧x.2.at_+1<ms.length)→T (Dk φ x.2.marks x.2.at_ x.2.why x.2.where_ x.2.l.text x.2.l.funcs x.2.l.arity x.2.l.nest x.2.nest x.1.op x.1.name x.1.tail x.1.type_ x.1.num x.1.args x.1.at_ (BZ φ k) b) (EP ms r):=by
    intro b hb
    unfold Dk
    refine T.cond (fun h=>?_) fun _=> .some (by rw [PH];exact hx)
    obtain ⟨h0,h1⟩:=hb h
    have h2:=hx.2.2 h0
    have h3:=hx.2.1
    have hk:=hk h0
    have hbr:Rd ms (JJ x.2):=⟨hx.1.1,by show 0≤x.2.at_+1;have:=hx.1.2.1;omega,h1⟩
    refine T.bind (KF (r:=x.2) hx.1) fun m _=>?_
    rw [MU hlen hx.1]
    refine T.bind (hφ.term (JJ x.2) hbr (hf.lt (by show r.at_<x.2.at_+1;omega) h2.1 hr.2.2 (by omega))) fun z hz=>?_
    have hz1:=hz.2.1
    simp only [JJ] at hz1
    have fin: ∀op:Int,8≤op∧op≤13→T (Dj x.1.op x.1.name x.1.tail x.1.type_ x.1.num x.1.args x.1.at_ (BZ φ k) m z op) (EP ms r):=by
     intro op hop
     unfold Dj
     rw [PH]
     refine ih (⟨op,[],[],0,(0,0),[x.1,z.1],m.at_⟩,z.2) ⟨hz.1,by simp only;omega,fun hw=>?_⟩ ?_ fun hw=>?_
     ·have hz':=hz.2.2 hw
      have hz2:=hz'.2.2
      simp only [JJ] at hz2
      exact ⟨h2.1,.two (.inl hop) h2.2.1 hz'.2.1,by simp only [EF,Co];omega⟩
     ·have:=hx.1.2.2;omega
     ·simp only;omega
    exact T.cond (fun _=>fin 9 ⟨by omega,by omega⟩) fun _=>fin 8 ⟨by omega,by omega⟩
   show T (Ct φ (BZ φ k) x.2.marks x.2.at_ x.2.why x.2.where_ x.2.l.text x.2.l.funcs x.2.l.arity x.2.l.nest x.2.nest x.1.op x.1.name x.1.tail x.1.type_ x.1.num x.1.args x.1.at_) _
   unfold Ct
   exact T.bind (NZ hM (r:=x.2) hx.1) fun b hb=>T.cond (fun h=>go true fun _=>hb h) fun _=>T.bind (NZ hM (r:=x.2) hx.1) fun b hb=>go b hb
 refine key n x hx (by have:=hf.1;omega) fun hw=>?_
 have h2:=hx.2.2 hw
 have h3:=hf.2 h2.1
 have:=hx.2.1
 have:=hr.2.2
 omega
theorem AAw{r:AB}(hr:Rd ms r)(hf:Fu ms (n+1) r 14):T (Ch φ n r) (EP ms r):=by
 unfold Ch
 refine T.bind (hφ.unit r hr (hf.le (by omega) id (by omega))) fun x hx=>?_
 have key: ∀(k:Nat) (x:AD×AB),EP ms r x→1≤k→(x.2.why=0→(ms.length:Int) - x.2.at_<k)→T (BS φ k x.2.marks x.2.at_ x.2.why x.2.where_ x.2.l.text x.2.l.funcs x.2.l.arity x.2.l.nest x.2.nest x.1.op x.1.name x.1.tail x.1.type_ x.1.num x.1.args x.1.at_) (EP ms r):=by
  intro k
  induction k with
  |zero=>intro x _ _ _;omega
  |succ k ih=>
   intro x hx _ hk
   have go: ∀b,(b=true→x.2.why=0∧x.2.at_+1<ms.length)→T (DW φ x.2.marks x.2.at_ x.2.why x.2.where_ x.2.l.text x.2.l.funcs x.2.l.arity x.2.l.nest x.2.nest x.1.op x.1.name x.1.tail x.1.type_ x.1.num x.1.args x.1.at_ (BS φ k) b) (EP ms r):=by
    intro b hb
    unfold DW
    refine T.cond (fun h=>?_) fun _=> .some (by rw [PH];exact hx)
    obtain ⟨h0,h1⟩:=hb h
    have h2:=hx.2.2 h0
    have h3:=hx.2.1
    have hk:=hk h0
    have hbr:Rd ms (JJ x.2):=⟨hx.1.1,by show 0≤x.2.at_+1;have:=hx.1.2.1;omega,h1⟩
    refine T.bind (KF (r:=x.2) hx.1) fun m _=>?_
    rw [MU hlen hx.1]
    refine T.bind (hφ.unit (JJ x.2) hbr (hf.lt (by show r.at_<x.2.at_+1;omega) h2.1 hr.2.2 (by omega))) fun z hz=>?_
    have hz1:=hz.2.1
    simp only [JJ] at hz1
    have fin: ∀op:Int,8≤op∧op≤13→T (DV x.1.op x.1.name x.1.tail x.1.type_ x.1.num x.1.args x.1.at_ (BS φ k) m z op) (EP ms r):=by
     intro op hop
     unfold DV
     rw [PH]
     refine ih (⟨op,[],[],0,(0,0),[x.1,z.1],m.at_⟩,z.2) ⟨hz.1,by simp only;omega,fun hw=>?_⟩ ?_ fun hw=>?_
     ·have hz':=hz.2.2 hw
      have hz2:=hz'.2.2
      simp only [JJ] at hz2
      exact ⟨h2.1,.two (.inl hop) h2.2.1 hz'.2.1,by simp only [EF,Co];omega⟩
     ·have:=hx.1.2.2;omega
     ·simp only;omega
    exact T.cond (fun _=>fin 11 ⟨by omega,by omega⟩) fun _=>fin 10 ⟨by omega,by omega⟩
   show T (CV φ (BS φ k) x.2.marks x.2.at_ x.2.why x.2.where_ x.2.l.text x.2.l.funcs x.2.l.arity x.2.l.nest x.2.nest x.1.op x.1.name x.1.tail x.1.type_ x.1.num x.1.args x.1.at_) _
   unfold CV
   exact T.bind (NZ hM (r:=x.2) hx.1) fun b hb=>T.cond (fun h=>go true fun _=>hb h) fun _=>T.bind (NZ hM (r:=x.2) hx.1) fun b hb=>go b hb
 refine key n x hx (by have:=hf.1;omega) fun hw=>?_
 have h2:=hx.2.2 hw
 have h3:=hf.2 h2.1
 have:=hx.2.1
 have:=hr.2.2
 omega
omit hφ hM hlen in
theorem ZJ(s:List UInt8):T (HE s) fun o=>o=0∨(2≤o∧o≤5)∨(14≤o∧o≤17):=by
 unfold HE
 repeat (first|exact T.some (by omega)|refine T.cond (fun _=>?_) (fun _=>?_))
theorem AAx{r:AB}(hr:Rd ms r)(hf:Fu ms (n+1) r 13):T (Ci φ n r) (EP ms r):=by
 unfold Ci
 have h1:=hr.2.1
 have h2:=hr.2.2
 refine T.bind (KF hr) fun m hm=>T.cond (fun h=> .some ⟨hr,by simp only;omega,fun h'=>absurd h' (J8 h)⟩) fun hw=>?_
 have hw:=Iu hw
 have hm':=UK hM hm
 refine T.cond (fun hk=>?_) fun hk2=>T.cond (fun hk=>?_) fun hk0=>?_
 ·rw [MU hlen hr]
  have hk:=Bu hk
  have h3:=hm'.1 (by rw [hk];decide)
  refine .some (a:=_) ⟨⟨hr.1,by show 0≤r.at_+1;omega,by show r.at_+1<_;omega⟩,by show r.at_≤r.at_+1;omega,fun _=>⟨hw,.mk _ (.inl ⟨by simp,by simp,rfl⟩) (fun _=>hm'.2 hk) (fun h=>by simp at h) (fun a h=>by simp at h),?_⟩⟩
  simp only [EF,Co,JJ];omega
 ·rw [MU hlen hr]
  have hk:=Bu hk
  have h3:=hm'.1 (by rw [hk];decide)
  have hbr:Rd ms (JJ r):=⟨hr.1,by show 0≤r.at_+1;omega,by show r.at_+1<_;omega⟩
  refine T.bind (hφ.named (JJ r) m hbr hw (hf.lt (by show r.at_<r.at_+1;omega) hw h2 (by omega))) fun x hx=>?_
  have hx1:=hx.2.1
  simp only [JJ] at hx1
  refine .some (a:=_) ⟨hx.1,by simp only;omega,fun h=>⟨hw,(hx.2.2 h).1,?_⟩⟩
  have:=(hx.2.2 h).2
  simp only [JJ] at this
  simp only;omega
 ·have hk2:=BY hk2
  have hk0:=BY hk0
  refine T.bind (NT hlen hM hr) fun x hx=>T.cond (fun hb=>?_) fun hb=>?_
  ·obtain ⟨_,e,hbr⟩:=hx.1 hb
   rw [e]
   refine T.bind (hφ.expr (JJ r) hbr (hf.lt (by show r.at_<r.at_+1;omega) hw h2 (by omega))) fun y hy=>T.bind (Hy hlen hM hy.1) fun r' hr'=>?_
   have hy1:=hy.2.1
   simp only [JJ] at hy1
   refine .some (a:=_) ⟨hr'.1,by have:=hr'.2.1;simp only;omega,fun h=>?_⟩
   have h3:=hr'.2.2 h
   have h4:=hy.2.2 h3.1
   have h5:=h4.2.2
   simp only [JJ] at h5
   exact ⟨hw,h4.2.1,by simp only;omega⟩
  ·have bad:T (Cu φ n m x true) (EP ms r):=by
    unfold Cu
    refine T.cond (fun _=>?_) fun h=>by cases h
    rw [hx.2 hb]
    exact T.bind (NS hr (by decide)) fun r' hr'=> .some ⟨hr'.1,by simp only;rw [hr'.2.1];omega,fun h=>absurd h hr'.2.2⟩
   refine T.cond (fun _=>bad) fun hk1=>?_
   have hk1:=Iu hk1
   have h3:=hm'.1 (by rw [hk1];decide)
   have hbr:Rd ms (JJ r):=⟨hr.1,by show 0≤r.at_+1;omega,by show r.at_+1<_;omega⟩
   obtain ⟨o,ho,ho'⟩:=ZJ m.text
   refine T.eq ho ?_
   cases hz:(o==0)
   ·have hz:=BY hz
    unfold Cu
    refine T.cond (fun h=>by cases h) fun _=>T.eq ho ?_
    unfold EM
    rw [hx.2 hb,MU hlen hr]
    have fin: ∀(r':AB) (ty:Int) (l:List AD),Rd ms r'→r.at_≤r'.at_→(r'.why=0→Ar o l.length∧(o=5→1≤ty∧ty≤3)∧(∀a∈l,WE a)∧(1+Co l:Int)≤r'.at_ - r.at_)→
      T (FT o [] [] (0,0) m.at_ r'.marks r'.at_ r'.why r'.where_ r'.l.text r'.l.funcs r'.l.arity r'.l.nest r'.nest ty l) (EP ms r):=by
     intro r' ty l h1 h2 h3
     refine .some (a:=_) ⟨h1,h2,fun h=>⟨hw,?_,?_⟩⟩
     ·obtain ⟨ha,ht,hl,_⟩:=h3 h
      exact .mk _ ha (fun h=>by simp only at h;omega) (fun h=>ht (by simp only at h;omega)) hl
     ·have:=(h3 h).2.2.2
      simp only [EF];omega
    have j4:14≤o∧o≤17→T (B5 φ (x.1,r) o [] [] 0 (0,0) m.at_ true) (EP ms r):=by
     intro ho2
     unfold B5
     refine T.cond (fun _=>?_) fun h=>by cases h
     rw [MU hlen hr]
     refine T.bind (Hy hlen hM hbr) fun r1 hr1=>?_
     have e1:=hr1.2.1
     simp only [JJ] at e1
     refine T.bind (hφ.expr r1 hr1.1 (hf.lt (by omega) hw h2 (by omega))) fun y hy=>T.bind (Hy hlen hM hy.1) fun r2 hr2=>fin r2 0 [y.1] hr2.1 (by have:=hr2.2.1;have:=hy.2.1;omega) fun h=>?_
     have h5:=hr2.2.2 h
     have h6:=hy.2.2 h5.1
     refine ⟨.inr (.inr (.inr (.inl ⟨ho2.1,ho2.2,rfl⟩))),fun h=>by omega,fun a ha=>by simp at ha;subst ha;exact h6.2.1,?_⟩
     have:=h6.2.2
     rw [PI];omega
    have ex:x=(x.1,r):=by rw [←hx.2 hb]
    rw [ex]
    refine T.cond (fun h5=>?_) fun h5=>?_
    ·have h5:=Bu h5
     have:=hf.1
     refine T.bind (UL hlen hM (by omega) hbr) fun y hy=>fin y.2 y.1 [] hy.1 (by have:=hy.2.1;simp only [JJ] at this;omega) fun h=>?_
     have h6:=hy.2.2 h
     refine ⟨.inl ⟨by omega,by omega,rfl⟩,fun _=>⟨h6.2.2.1,h6.2.2.2⟩,fun a h=>by simp at h,?_⟩
     have:=h6.2.1
     simp only [JJ] at this
     simp only [Co];omega
    ·have h5:=BY h5
     refine T.cond (fun h=>by rw [h];exact j4 (by have:=Bu h;omega)) fun hn1=>T.cond (fun h=>by rw [h];exact j4 (by have:=Bu h;omega)) fun hn2=>T.cond (fun h=>by rw [h];exact j4 (by have:=Bu h;omega)) fun hn3=>?_
     cases h17:(o==17)
     ·have:=BY hn1;have:=BY hn2;have:=BY hn3;have:=BY h17
      unfold B5
      refine T.cond (fun h=>by cases h) fun _=>?_
      dsimp only
      rw [wr (x:=r.at_+1) (by omega) (by omega)]
      refine fin (JJ r) 0 [] hbr (by show r.at_≤r.at_+1;omega) fun _=>⟨.inl ⟨by omega,by omega,rfl⟩,fun h=>by omega,fun a h=>by simp at h,by simp only [Co,JJ];omega⟩
     ·exact j4 (by have:=Bu h17;omega)
   ·exact bad
theorem ZK{r:AB}{m:AX}(hr:Rd ms r)(hw:r.why=0)(hf:Fu ms (n+1) r 12):T (CP φ n r m) fun x=>Rd ms x.2∧r.at_≤x.2.at_∧(x.2.why=0→WE x.1∧(EF x.1:Int)≤x.2.at_ - r.at_+1):=by
 unfold CP
 have h2:=hr.2.2
 have h1:=hr.2.1
 refine T.bind (NT hlen hM hr) fun x hx=>T.cond (fun hb=>?_) fun hb=>?_
 ·rw [hx.2 (by simpa using hb)]
  exact .some ⟨hr,by simp only;omega,fun _=>⟨.mk _ (.inl ⟨by simp,by simp,rfl⟩) (fun h=>by simp at h) (fun h=>by simp at h) (fun a h=>by simp at h),by simp only [EF,Co];omega⟩⟩
 ·obtain ⟨_,e,hbr⟩:=hx.1 (by simpa using hb)
  have key: ∀(k:Nat) (s:AB) (l:List AD),Rd ms s→r.at_+1≤s.at_→1≤k→(s.why=0→(ms.length:Int) - s.at_<k)→(s.why=0→(∀a∈l,WE a)∧(Co l:Int)≤s.at_ - r.at_)→
    T (BP φ m k s.marks s.at_ s.why s.where_ s.l.text s.l.funcs s.l.arity s.l.nest s.nest l) fun x=>Rd ms x.2∧r.at_≤x.2.at_∧(x.2.why=0→WE x.1∧(EF x.1:Int)≤x.2.at_ - r.at_+1):=by
   intro k
   induction k with
   |zero=>intro s l _ _ _ _;omega
   |succ k ih=>
    intro s l hs hat _ hk hl
    show T (CM φ m (BP φ m k) s.marks s.at_ s.why s.where_ s.l.text s.l.funcs s.l.arity s.l.nest s.nest l) _
    unfold CM
    have fin:T (DB φ m s.marks s.at_ s.why s.where_ s.l.text s.l.funcs s.l.arity s.l.nest s.nest l (BP φ m k) false) fun x=>Rd ms x.2∧r.at_≤x.2.at_∧(x.2.why=0→WE x.1∧(EF x.1:Int)≤x.2.at_ - r.at_+1):=by
     unfold DB
     refine T.cond (fun h=>by cases h) fun _=>T.bind (Hy hlen hM (r:=s) hs) fun r' hr'=> .some ⟨hr'.1,by have:=hr'.2.1;simp only;omega,fun h=>?_⟩
     have h3:=hr'.2.2 h
     have h4:=hl h3.1
     exact ⟨.mk _ (.inr (.inl rfl)) (fun h=>by simp at h) (fun h=>by simp at h) h4.1,by simp only [EF];omega⟩
    refine T.cond (fun hsw=>?_) fun _=>fin
    have hsw:=Bu hsw
    refine T.bind (NZ hM (r:=s) hs) fun b _=>?_
    cases b
    ·have go: ∀s':AB,Rd ms s'→s.at_≤s'.at_→T (DA φ l (BP φ m k) s'.marks s'.at_ s'.why s'.where_ s'.l.text s'.l.funcs s'.l.arity s'.l.nest s'.nest) fun x=>Rd ms x.2∧r.at_≤x.2.at_∧(x.2.why=0→WE x.1∧(EF x.1:Int)≤x.2.at_ - r.at_+1):=by
      intro s' hs' hle
      unfold DA
      have h5:=hs.2.2
      refine T.bind (hφ.expr s' hs' (hf.lt (by omega) hw h2 (by omega))) fun y hy=>?_
      have hy1:=hy.2.1
      have hll':=hl hsw
      have hlen':=L8 l
      refine T.bind (F1 (by omega) (by simp;omega)) fun _ _=>ih y.2 (l++[y.1]) hy.1 (by omega) ?_ (fun h=>?_) fun h=>?_
      ·have:=hk hsw;omega
      ·have:=hy.2.2 h;have:=Li y.1;have:=hk hsw;omega
      ·have h6:=hy.2.2 h
       refine ⟨fun a ha=>?_,?_⟩
       ·rcases List.mem_append.1 ha with ha|ha
        ·exact hll'.1 a ha
        ·simp at ha;subst ha;exact h6.2.1
       ·rw [JH,PI];omega
     refine T.cond (fun _=>T.cond (fun _=>T.bind (Hy hlen hM (r:=s) hs) fun s' hs'=>go s' hs'.1 hs'.2.1) fun _=>go s hs (by omega)) fun h=>by cases h
    ·exact fin
  rw [e]
  refine key n (JJ r) [] hbr (by show r.at_+1≤r.at_+1;omega) (by have:=hf.1;omega) (fun _=>?_) fun _=>⟨fun a h=>by simp at h,by simp only [Co,JJ];omega⟩
  have:=hf.2 hw
  simp only [JJ];omega
theorem ZL{r:AB}{ws:List (List UInt8)}(hr:Rd ms r)(hl3:ws.length≤3)(hf:Fu ms (n+1) r 19):T (CO φ n r ws) fun x=>Rd ms x.2∧r.at_≤x.2.at_∧(x.2.why=0→(ws≠[]→r.why=0)∧x.1.length=ws.length∧(∀a∈x.1,WE a)∧(Co x.1:Int)≤x.2.at_ - r.at_):=by
 unfold CO
 have key: ∀(k:Nat) (i:Nat) (l:List AD) (s:AB),i≤ws.length→ws.length<i+k→l.length=i→Rd ms s→r.at_≤s.at_→(s.why=0→r.why=0∧(∀a∈l,WE a)∧(Co l:Int)≤s.at_ - r.at_)→
   T (BU φ ws k l (i:Int) s.marks s.at_ s.why s.where_ s.l.text s.l.funcs s.l.arity s.l.nest s.nest) fun x=>Rd ms x.2∧r.at_≤x.2.at_∧(x.2.why=0→(ws≠[]→r.why=0)∧x.1.length=ws.length∧(∀a∈x.1,WE a)∧(Co x.1:Int)≤x.2.at_ - r.at_):=by
  intro k
  induction k with
  |zero=>intro i l s _ _;omega
  |succ k ih=>
   intro i l s hi hk hli hs hat hw
   show T (CL φ ws (BU φ ws k) l i s.marks s.at_ s.why s.where_ s.l.text s.l.funcs s.l.arity s.l.nest s.nest) _
   unfold CL
   refine T.cond (fun h=>?_) fun h=>?_
   ·have h:=CD h
    have go: ∀s':AB,Rd ms s'→s.at_≤s'.at_→(s'.why=0→s.why=0)→T (C9 φ l i (BU φ ws k) s'.marks s'.at_ s'.why s'.where_ s'.l.text s'.l.funcs s'.l.arity s'.l.nest s'.nest) fun x=>Rd ms x.2∧r.at_≤x.2.at_∧(x.2.why=0→(ws≠[]→r.why=0)∧x.1.length=ws.length∧(∀a∈x.1,WE a)∧(Co x.1:Int)≤x.2.at_ - r.at_):=by
     intro s' hs' hle hw'
     unfold C9
     refine T.bind (hφ.expr s' hs' (hf.le (by omega) (fun h=>(hw (hw' h)).1) (by omega))) fun y hy=>T.bind (F1 (by omega) (by simp;omega)) fun _ _=>?_
     rw [wr (by omega) (by omega),show (i:Int)+1=((i+1:Nat):Int) by omega]
     refine ih (i+1) (l++[y.1]) y.2 (by omega) (by omega) (by simp;omega) hy.1 (by have:=hy.2.1;omega) fun h=>?_
     have h1:=hy.2.2 h
     have h2:=hw (hw' h1.1)
     refine ⟨h2.1,fun a ha=>?_,?_⟩
     ·rcases List.mem_append.1 ha with ha|ha
      ·exact h2.2.1 a ha
      ·simp at ha;subst ha;exact h1.2.1
     ·rw [JH,PI];have:=h1.2.2;have:=h2.2.2;omega
    refine T.bind (Er (by omega) h) fun w _=>T.cond (fun _=>T.bind (Hy hlen hM (r:=s) hs) fun s' hs'=>go s' hs'.1 hs'.2.1 fun h=>(hs'.2.2 h).1) fun _=>go s hs (by omega) id
   ·have h:=Df h
    exact .some ⟨hs,hat,fun h'=>⟨fun _=>(hw h').1,by simp only;omega,(hw h').2.1,(hw h').2.2⟩⟩
 cases ws with
 |nil=>
  obtain ⟨n,rfl⟩: ∃m,n=m+1:=⟨n - 1,by have:=hf.1;omega⟩
  exact .some ⟨hr,by simp only;omega,fun _=>⟨fun h=>absurd rfl h,rfl,fun a h=>(by cases h),by simp [Co]⟩⟩
 |cons w ws=>
  rcases Decidable.em (r.why=0) with h|h
  ·exact key n 0 [] r (by omega) (by have:=hf.1;omega) rfl hr (by omega) fun _=>⟨h,fun a h=>(by cases h),by simp [Co]⟩
  ·exact key n 0 [] r (by omega) (by have:=hf.1;omega) rfl hr (by omega) fun h'=>absurd h' h
theorem Vg{r:AB}{e:AD}(hr:Rd ms r)(hf:Fu ms (n+1) r 19):T (Bm φ n r e) fun x=>Rd ms x.1∧r.at_≤x.1.at_∧(x.1.why=0→r.why=0∧WE x.2∧(EF x.2:Int)≤x.1.at_ - r.at_+1):=by
 unfold Bm
 refine T.bind (hφ.expr r hr (hf.le (by omega) id (by omega))) fun a ha=>T.bind (Hy hlen hM ha.1) fun r1 h1=>T.bind (Hy hlen hM h1.1) fun r2 h2=>T.bind (Hy hlen hM h2.1) fun r3 h3=>?_
 have a1:=ha.2.1;have b1:=h1.2.1;have b2:=h2.2.1;have b3:=h3.2.1
 refine T.bind (hφ.expr r3 h3.1 (hf.le (by omega) (fun h=>(ha.2.2 (h1.2.2 (h2.2.2 (h3.2.2 h).1).1).1).1) (by omega))) fun b hb=>T.bind (Hy hlen hM hb.1) fun r4 h4=>T.bind (Pm hlen hM h4.1) fun x5 h5=>T.bind (Hy hlen hM h5.1) fun r6 h6=>T.bind (Pm hlen hM h6.1) fun x7 h7=>T.bind (Hy hlen hM h7.1) fun r8 h8=>?_
 have a2:=hb.2.1;have b4:=h4.2.1;have b5:=h5.2.1;have b6:=h6.2.1;have b7:=h7.2.1;have b8:=h8.2.1
 have back:r8.why=0→b.2.why=0:=fun h=>(h4.2.2 (h5.2.2 (h6.2.2 (h7.2.2 (h8.2.2 h).1).1).1).1).1
 have back2:r3.why=0→a.2.why=0:=fun h=>(h1.2.2 (h2.2.2 (h3.2.2 h).1).1).1
 refine T.bind (hφ.expr r8 h8.1 (hf.le (by omega) (fun h=>(ha.2.2 (back2 (hb.2.2 (back h)).1)).1) (by omega))) fun c hc=>?_
 have a3:=hc.2.1
 refine .some (a:=_) ⟨hc.1,by simp only;omega,fun h=>?_⟩
 have p3:=hc.2.2 h
 have p2:=hb.2.2 (back p3.1)
 have p1:=ha.2.2 (back2 p2.1)
 have e1:=p1.2.2;have e2:=p2.2.2;have e3:=p3.2.2
 refine ⟨p1.1,.mk _ (.inr (.inr (.inr (.inr (.inr (.inl ⟨by simp,by simp,rfl⟩)))))) (fun h=>by simp at h) (fun h=>by simp at h) fun x hx=>?_,?_⟩
 ·simp at hx
  rcases hx with rfl|rfl|rfl
  ·exact p1.2.1
  ·exact p2.2.1
  ·exact p3.2.1
 ·simp only [EF,Co];omega
theorem AAy{r:AB}(hr:Rd ms r)(hf:Fu ms (n+1) r 18):T (Ce φ n r) (EP ms r):=by
 unfold Ce
 have hr1:=hr.2.1
 have hr2:=hr.2.2
 refine T.bind (KF hr) fun m hm=>?_
 have out: ∀(bd:Bool) (y:AB) (e:AD),Rd ms y→r.at_≤y.at_→(y.why=0→r.why=0∧WE e∧(EF e:Int)≤y.at_ - r.at_)→
   T (EK bd y.marks y.at_ y.why y.where_ y.l.text y.l.funcs y.l.arity y.l.nest y.nest e.op e.name e.tail e.type_ e.num e.args e.at_) (EP ms r):=by
  intro bd y e hy hat hw
  unfold EK Gq
  rw [PH]
  exact T.cond (fun _=> .some ⟨hy,hat,hw⟩) fun _=> .some ⟨hy,hat,hw⟩
 have j7: ∀(bd:Bool) (y:AB) (op:Int),21≤op∧op≤22→Rd ms y→y.at_=r.at_→y.why=0→r.why=0→Rd ms (JJ y)→∀nn:Int,T (DP φ n m bd y.marks y.at_ y.why y.where_ y.l.text y.l.funcs y.l.arity y.l.nest nn op) (EP ms r):=by
  intro bd y op hop hy hat hw hrw hby nn
  unfold DP
  rw [wr (x:=y.at_+1) (by have:=hy.2.1;omega) (by have:=hy.2.2;omega)]
  have hby':Rd ms (AB.mk y.marks (y.at_+1) y.why y.where_ (Ab.mk y.l.text y.l.funcs y.l.arity y.l.nest) nn):=hby
  refine T.bind (Pm hlen hM hby') fun x hx=>?_
  have h1:=hf.1
  refine T.bind (UL hlen hM (by omega) hx.1) fun t ht=>?_
  have x1:=hx.2.1;have t1:=ht.2.1
  simp only at x1
  refine T.bind (hφ.parts t.2 _ ht.1 (by simp) (hf.lt (by omega) hrw hr2 (by omega))) fun l hl=>?_
  have l1:=hl.2.1
  refine out bd l.2 ⟨op,x.1.text,[],t.1,(0,0),l.1,m.at_⟩ hl.1 (by omega) fun h=>?_
  have p:=hl.2.2 h
  have q:=ht.2.2 (p.1 (by simp))
  refine ⟨hrw,.mk _ (.inr (.inr (.inr (.inr (.inr (.inr ⟨hop.1,hop.2,p.2.1⟩)))))) (fun h=>by simp only at h;omega) (fun _=>⟨q.2.2.1,q.2.2.2⟩) p.2.2.1,?_⟩
  have:=p.2.2.2
  simp only [EF];omega
 have j4: ∀(bd:Bool) (y:AB),Rd ms y→y.at_=r.at_→y.why=0→r.why=0→Rd ms (JJ y)→∀nn:Int,T (DQ φ n m bd y.marks y.at_ y.why y.where_ y.l.text y.l.funcs y.l.arity y.l.nest nn) (EP ms r):=by
  intro bd y hy hat hw hrw hby nn
  unfold DQ
  have hby':Rd ms (AB.mk y.marks (y.at_+1) y.why y.where_ (Ab.mk y.l.text y.l.funcs y.l.arity y.l.nest) nn):=hby
  refine T.cond (fun _=>?_) fun _=>T.cond (fun _=>?_) fun _=>T.cond (fun _=>j7 bd y 22 ⟨by omega,by omega⟩ hy hat hw hrw hby nn) fun _=>j7 bd y 21 ⟨by omega,by omega⟩ hy hat hw hrw hby nn
  ·rw [wr (x:=y.at_+1) (by have:=hy.2.1;omega) (by have:=hy.2.2;omega)]
   refine T.bind (hφ.parts _ _ hby' (by simp) (hf.lt (by show r.at_<y.at_+1;omega) hrw hr2 (by omega))) fun l hl=>?_
   have l1:=hl.2.1
   simp only at l1
   refine out bd l.2 ⟨19,[],[],0,(0,0),l.1,m.at_⟩ hl.1 (by omega) fun h=>?_
   have p:=hl.2.2 h
   refine ⟨hrw,.mk _ (.inr (.inr (.inr (.inr (.inr (.inl ⟨by simp,by simp,p.2.1⟩)))))) (fun h=>by simp at h) (fun h=>by simp at h) p.2.2.1,?_⟩
   have:=p.2.2.2
   simp only at this
   simp only [EF];omega
  ·rw [wr (x:=y.at_+1) (by have:=hy.2.1;omega) (by have:=hy.2.2;omega)]
   refine T.bind (hφ.branches _ _ hby' (hf.lt (by show r.at_<y.at_+1;omega) hrw hr2 (by omega))) fun l hl=>?_
   have l1:=hl.2.1
   simp only at l1
   refine out bd l.1 l.2 hl.1 (by omega) fun h=>?_
   have p:=hl.2.2 h
   have:=p.2.2
   simp only at this
   exact ⟨hrw,p.2.1,by omega⟩
 have j2: ∀(bd:Bool) (y:AB),Rd ms y→y.at_=r.at_→(y.why=0→r.why=0)→(bd=true→y.why=0→Rd ms (JJ y))→T (DS φ n m bd y.marks y.at_ y.why y.where_ y.l.text y.l.funcs y.l.arity y.l.nest y.nest) (EP ms r):=by
  intro bd y hy hat hw hb
  unfold DS
  refine T.cond (fun h=> .some ⟨hy,by simp only;omega,fun h'=>absurd h' (J8 h)⟩) fun h=>?_
  have h:=Iu h
  have hrw:=hw h
  refine T.cond (fun hbd=>?_) fun hbd=>?_
  ·refine T.bind (NZ hM (r:=y) hy) fun c hc=>?_
   unfold DR
   refine T.cond (fun _=>?_) fun hc'=>T.cond (fun h'=>by rw [h'] at hbd;cases hbd) fun _=>?_
   ·refine T.bind (hφ.cons y hy (hf.le (by omega) (fun _=>hrw) (by omega))) fun z hz=> .some ⟨hz.1,by have:=hz.2.1;simp only;omega,fun h=>?_⟩
    have:=hz.2.2 h
    exact ⟨hrw,this.2.1,by have:=this.2.2;simp only;omega⟩
   ·have hc1:=hc (by simpa using hc')
    exact j4 bd y hy hat h hrw ⟨hy.1,by show 0≤y.at_+1;omega,hc1.2⟩ y.nest
  ·have hbd:bd=true:=by simpa using hbd
   unfold DR
   refine T.cond (fun h=>by cases h) fun _=>T.cond (fun _=>j4 bd y hy hat h hrw (hb hbd h) _) fun h'=>by rw [h'] at hbd;cases hbd
 have j8: ∀(bd c:Bool),(bd=true→r.why=0∧r.at_+1<ms.length)→T (DT φ n r m bd c) (EP ms r):=by
  intro bd c hb
  unfold DT
  refine T.cond (fun _=>T.bind (NS hr (by decide)) fun y hy=>j2 bd y hy.1 hy.2.1 (fun h=>absurd h hy.2.2) fun _ h=>absurd h hy.2.2) fun _=>j2 bd r hr rfl id fun h _=>⟨hr.1,by show 0≤r.at_+1;omega,(hb h).2⟩
 have j1: ∀(bd:Bool),(bd=true→r.why=0∧r.at_+1<ms.length)→T (Cs φ n r m bd) (EP ms r):=by
  intro bd hb
  unfold Cs
  exact T.cond (fun _=>j8 bd _ hb) fun _=>j8 bd _ hb
 refine T.bind (NZ hM hr) fun b hb=>T.cond (fun h=>j1 true fun _=>hb h) fun _=>T.bind (NZ hM hr) fun b hb=>T.cond (fun h=>j1 true fun _=>hb h) fun _=>T.bind (NZ hM hr) fun b hb=>j1 b hb
omit hφ in
theorem psp: ∀n,PSp ms n (AC.at n)
 |0=>⟨fun r _ h=>absurd h.1 (by decide),fun r _ h=>absurd h.1 (by decide),fun r _ h=>absurd h.1 (by decide),fun r _ h=>absurd h.1 (by decide),fun r _ h=>absurd h.1 (by decide),fun r _ h=>absurd h.1 (by decide),fun r _ _ _ h=>absurd h.1 (by decide),fun r _ _ _ h=>absurd h.1 (by decide),fun r _ _ h=>absurd h.1 (by decide)⟩
 |n+1=>
  have hp:=psp n
  ⟨fun _ hr hf=>AAy hlen hM hp hr hf,fun _ hr hf=>AAu hlen hM hp hr hf,fun _ hr hf=>AAv hlen hM hp hr hf,fun _ hr hf=>ABT hlen hM hp hr hf,fun _ hr hf=>AAw hlen hM hp hr hf,fun _ hr hf=>AAx hlen hM hp hr hf,
   fun _ _ hr hw hf=>ZK hlen hM hp hr hw hf,fun _ _ hr hl hf=>ZL hlen hM hp hr hl hf,fun _ _ hr hf=>Vg hlen hM hp hr hf⟩
end
end
end Fth
namespace Fth
open Go
structure WFn(f:AK):Prop where
 body:WE f.body
 size:EF f.body≤1000000
 pars:f.params.length≤1000000
 typ:1≤f.type_∧f.type_≤3
 ptyp: ∀x∈f.params,1≤x.type_∧x.type_≤3
structure WP(p:AN):Prop where
 fns: ∀f∈p.funcs,WFn f
 len:p.funcs.length≤50000
section
variable{ms:List AX}(hlen:ms.length≤40000)(hM:GM ms){N:Nat}(hN:1000000≤N)
include hlen hM hN
theorem AAz{r:AB}{k:Int}(hr:Rd ms r):T (CU N r k) fun x=>Rd ms x.2∧r.at_≤x.2.at_∧(x.2.why=0→r.why=0∧r.at_<x.2.at_∧WFn x.1):=by
 have hlen':ms.length≤1000000000:=by omega
 have hps:=psp hlen' hM N
 have fu: ∀r,Rd ms r→Fu ms N r 18:=fun r hr=>⟨by omega,fun _=>by have:=hr.2.1;omega⟩
 have j1: ∀s:AB,Rd ms s→r.at_≤s.at_→(s.why=0→r.why=0)→T (Dn N s.marks s.at_ s.why s.where_ s.l.text s.l.funcs s.l.arity s.l.nest s.nest) fun x=>Rd ms x.2∧r.at_≤x.2.at_∧(x.2.why=0→r.why=0∧r.at_<x.2.at_∧WFn x.1):=by
  intro s hs hat hw
  unfold Dn
  refine T.bind (Pm hlen' hM (r:=s) hs) fun x hx=>T.bind (Hy hlen' hM hx.1) fun s1 h1=>?_
  have x1:=hx.2.1;have a1:=h1.2.1
  have hw1:s1.why=0→r.why=0∧r.at_<s1.at_:=fun h=>by
   have p:=h1.2.2 h
   have q:=hx.2.2 p.1
   exact ⟨hw q.1,by have:=q.2;omega⟩
  have key: ∀(k:Nat) (s:AB) (l:List AH),Rd ms s→s1.at_≤s.at_→(s.why=0→s1.why=0)→1≤k→(s.why=0→(ms.length:Int) - s.at_<k)→(s.why=0→l.length≤s.at_)→(s.why=0→∀x∈l,1≤x.type_∧x.type_≤3)→
    T (BO N x k s.marks s.at_ s.why s.where_ s.l.text s.l.funcs s.l.arity s.l.nest s.nest l) fun x=>Rd ms x.2∧r.at_≤x.2.at_∧(x.2.why=0→r.why=0∧r.at_<x.2.at_∧WFn x.1):=by
   intro k
   induction k with
   |zero=>intro s l _ _ _ _ _;omega
   |succ k ih=>
    intro s l hs hat hw _ hk hl ht
    show T (Cv N x (BO N x k) s.marks s.at_ s.why s.where_ s.l.text s.l.funcs s.l.arity s.l.nest s.nest l) _
    unfold Cv
    have fin:T (DG N x s.marks s.at_ s.why s.where_ s.l.text s.l.funcs s.l.arity s.l.nest s.nest l (BO N x k) false) fun x=>Rd ms x.2∧r.at_≤x.2.at_∧(x.2.why=0→r.why=0∧r.at_<x.2.at_∧WFn x.1):=by
     unfold DG
     refine T.cond (fun h=>by cases h) fun _=>T.bind (Hy hlen' hM (r:=s) hs) fun s2 h2=>T.bind (Hy hlen' hM h2.1) fun s3 h3=>T.bind (UL hlen' hM (by omega) h3.1) fun t ht4=>T.bind (Hy hlen' hM ht4.1) fun s5 h5=>T.bind (hps.expr s5 h5.1 (fu _ h5.1)) fun b hb=>T.bind (Hy hlen' hM hb.1) fun s6 h6=>?_
     have b2:=h2.2.1;have b3:=h3.2.1;have b4:=ht4.2.1;have b5:=h5.2.1;have b6:=hb.2.1;have b7:=h6.2.1
     refine .some (a:=_) ⟨h6.1,by simp only;omega,fun h=>?_⟩
     have p1:=h6.2.2 h
     have p2:=hb.2.2 p1.1
     have p3:=h5.2.2 p2.1
     have p4:=ht4.2.2 p3.1
     have p5:=h3.2.2 p4.1
     have p6:=h2.2.2 p5.1
     have p7:=hw1 (hw p6.1)
     have sz:=p2.2.2
     have e1:=h6.1.2.2
     have e2:=hs.2.1
     have e3:=hl p6.1
     have e4:=hs.2.2
     have e5:=h5.1.2.1
     exact ⟨p7.1,by simp only;omega,⟨p2.2.1,by simp only;omega,by simp only;omega,p4.2.2,ht p6.1⟩⟩
    refine T.cond (fun hsw=>?_) fun _=>fin
    have hsw:=Bu hsw
    refine T.bind (NZ hM (r:=s) hs) fun b _=>?_
    cases b
    ·have j5: ∀s':AB,Rd ms s'→s.at_≤s'.at_→T (Dl N l (BO N x k) s'.marks s'.at_ s'.why s'.where_ s'.l.text s'.l.funcs s'.l.arity s'.l.nest s'.nest) fun x=>Rd ms x.2∧r.at_≤x.2.at_∧(x.2.why=0→r.why=0∧r.at_<x.2.at_∧WFn x.1):=by
      intro s' hs' hle
      unfold Dl
      have hl':=hl hsw
      have hs2:=hs.2.2
      refine T.bind (Pm hlen' hM (r:=s') hs') fun y hy=>T.bind (UL hlen' hM (by omega) hy.1) fun t ht'=>T.bind (F1 (by omega) (by simp;omega)) fun _ _=>?_
      have y1:=hy.2.1;have t1:=ht'.2.1
      refine ih t.2 (l++[_]) ht'.1 (by omega) (fun _=>hw hsw) ?_ (fun h=>?_) (fun h=>?_) fun h z hz=>?_
      ·have:=hk hsw;omega
      ·have p:=ht'.2.2 h;have q:=hy.2.2 p.1;have:=hk hsw;omega
      ·have p:=ht'.2.2 h;rw [List.length_append,List.length_singleton];omega
      ·rcases List.mem_append.1 hz with hz|hz
       ·exact ht hsw z hz
       ·simp at hz;subst hz;exact (ht'.2.2 h).2.2
     have j6: ∀(s':AB) (c:Bool),Rd ms s'→s.at_≤s'.at_→T (DF N l (BO N x k) s'.marks s'.at_ s'.why s'.where_ s'.l.text s'.l.funcs s'.l.arity s'.l.nest s'.nest c) fun x=>Rd ms x.2∧r.at_≤x.2.at_∧(x.2.why=0→r.why=0∧r.at_<x.2.at_∧WFn x.1):=by
      intro s' c hs' hle
      unfold DF
      exact T.cond (fun _=>T.bind (NS (r:=s') hs' (by decide)) fun s2 h2=>j5 s2 h2.1 (by rw [h2.2.1];exact hle)) fun _=>j5 s' hs' hle
     have j4: ∀(s':AB),Rd ms s'→s.at_≤s'.at_→T (Dm N l (BO N x k) s'.marks s'.at_ s'.why s'.where_ s'.l.text s'.l.funcs s'.l.arity s'.l.nest s'.nest) fun x=>Rd ms x.2∧r.at_≤x.2.at_∧(x.2.why=0→r.why=0∧r.at_<x.2.at_∧WFn x.1):=by
      intro s' hs' hle
      unfold Dm
      exact T.cond (fun _=>T.bind (KF (r:=s') hs') fun m _=>T.cond (fun _=>j6 s' _ hs' hle) fun _=>j6 s' _ hs' hle) fun _=>j6 s' _ hs' hle
     unfold DG
     exact T.cond (fun _=>T.cond (fun _=>T.bind (Hy hlen' hM (r:=s) hs) fun s' h'=>j4 s' h'.1 h'.2.1) fun _=>j4 s hs (by omega)) fun h=>by cases h
    ·exact fin
  refine key N s1 [] h1.1 (by omega) id (by omega) (fun _=>?_) (fun _=>?_) fun _ x h=>by cases h
  ·have:=h1.1.2.1;omega
  ·have:=h1.1.2.1;simp;omega
 have j7: ∀c,T (Do N r c) fun x=>Rd ms x.2∧r.at_≤x.2.at_∧(x.2.why=0→r.why=0∧r.at_<x.2.at_∧WFn x.1):=by
  intro c
  unfold Do
  exact T.cond (fun _=>T.bind (NS hr (by decide)) fun s h=>j1 s h.1 (by rw [h.2.1];omega) fun h'=>absurd h' h.2.2) fun _=>j1 r hr (by omega) id
 unfold CU
 exact T.bind (KF hr) fun m _=>T.cond (fun _=>j7 _) fun _=>j7 _
theorem Vh{r:AB}(hr:Rd ms r):T (Bd N r) fun x=>x.2.why=0→WP x.1:=by
 have hlen':ms.length≤1000000000:=by omega
 have key: ∀(k:Nat) (s:AB) (l:List AK),Rd ms s→1≤k→(s.why=0→(ms.length:Int) - s.at_<k)→(s.why=0→l.length≤s.at_)→(s.why=0→∀f∈l,WFn f)→
   T (BI N k s.marks s.at_ s.why s.where_ s.l.text s.l.funcs s.l.arity s.l.nest s.nest l) fun x=>x.2.why=0→WP x.1:=by
  intro k
  induction k with
  |zero=>intro s l _ _;omega
  |succ k ih=>
   intro s l hs _ hk hl hf
   show T (Bw N (BI N k) s.marks s.at_ s.why s.where_ s.l.text s.l.funcs s.l.arity s.l.nest s.nest l) _
   unfold Bw
   have h2:=hs.2.2
   have fin:T (Bn N s.marks s.at_ s.why s.where_ s.l.text s.l.funcs s.l.arity s.l.nest s.nest l (BI N k) false) fun x=>x.2.why=0→WP x.1:=by
    refine .some (a:=_) fun h=>⟨hf h,?_⟩
    have:=hl h;simp only;omega
   refine T.cond (fun hw=>?_) fun _=>fin
   have hw:=Bu hw
   have go:T (Bn N s.marks s.at_ s.why s.where_ s.l.text s.l.funcs s.l.arity s.l.nest s.nest l (BI N k) true) fun x=>x.2.why=0→WP x.1:=by
    unfold Bn
    refine T.cond (fun _=>?_) fun h=>by cases h
    have hl':=hl hw
    have hk':=hk hw
    refine T.bind (AAz hlen hM hN (r:=s) hs) fun x hx=>T.bind (F1 (by omega) (by simp;omega)) fun _ _=>ih x.2 (l++[x.1]) hx.1 (by omega) (fun h=>?_) (fun h=>?_) fun h f hf'=>?_
    ·have:=(hx.2.2 h).2.1;omega
    ·have:=(hx.2.2 h).2.1;rw [List.length_append,List.length_singleton];omega
    ·rcases List.mem_append.1 hf' with hf'|hf'
     ·exact hf hw f hf'
     ·simp at hf';subst hf';exact (hx.2.2 h).2.2
   refine T.cond (fun _=>go) fun _=>T.bind (KF (r:=s) hs) fun m _=>?_
   generalize (m.kind != 4)=b
   cases b
   ·exact fin
   ·exact go
 unfold Bd
 refine key N r [] hr (by omega) (fun _=>by have:=hr.2.1;omega) (fun _=>by have:=hr.2.1;simp;omega) fun _ f h=>by cases h
omit hM hN hlen
theorem Ww{N:Nat}(hN:1000000≤N)(t:List UInt8):T (E4 N t ⟨32768,32768,32768,32768⟩) fun x=>x.2.why=0→WP x.1:=by
 unfold E4
 refine T.cond (fun _=> .some fun h=>by cases h) fun h=>?_
 have h:=Df h
 simp at h
 refine T.bind (Xq (by omega) (by omega)) fun x hx=>T.cond (fun _=> .some fun h=>by cases h) fun h2=>?_
 have h2:=Df h2
 have hx:=hx (by omega)
 have hr:Rd x.1 (AB.mk x.1 0 0 0 (Ab.mk (if (32768:Int)< (if (32768:Int)<0 then 0 else 32768) then 32768 else (if (32768:Int)<0 then 0 else 32768)) 32768 32768 32768) 0):=by
  refine ⟨rfl,by simp,?_⟩
  obtain ⟨⟨l,e,he,_⟩,_⟩:=hx
  rw [he];simp
 refine T.bind (Vh (by omega) hx.1 hN hr) fun y hy=>T.cond (fun h=> .some fun h'=>absurd h' (J8 h)) fun h=> .some fun _=>hy (Iu h)
end
end Fth
namespace Fth
open Go Ieee
def Wd(d:Datum)(n:Int):Prop:=∃(s:Bool) (k:Nat),d= .number s (n.natAbs*2^k) (-(k:Int))∧(n≠0→s=decide (n<0))
def Wp(d:Datum)(n:Int):Prop:=∃k:Nat,d= .number (decide (n<0)) (n.natAbs*2^k) (-(k:Int))
theorem Wp.wd{d:Datum}{n:Int}(h:Wp d n):Wd d n:=let ⟨k,h⟩:=h;⟨_,k,h,fun _=>rfl⟩
theorem Wd.wp{d:Datum}{n:Int}(h:Wd d n)(h0:n≠0):Wp d n:=by obtain ⟨s,k,h,hs⟩:=h;exact ⟨k,by rw [h,hs h0]⟩
def fw(s:Bool)(m:Nat):Nat:=double.word s ((m.log2+1022)*2^52+m*2^(52 - m.log2))
theorem KG{m:Nat}(h0:0<m)(h:m<2^53):m.log2≤52:=by
 have h1:=Nat.log2_self_le (n:=m) (by omega)
 have h2:2^m.log2<2^53:=Nat.lt_of_le_of_lt h1 h
 have:=(Nat.pow_lt_pow_iff_right (by decide:1<2)).1 h2
 omega
theorem Lg{m:Nat}(h0:0<m)(h:m<2^53):2^52≤m*2^(52 - m.log2)∧m*2^(52 - m.log2)<2^53:=by
 have hl:=KG h0 h
 have h1:=Nat.log2_self_le (n:=m) (by omega)
 have h2:=Nat.lt_log2_self (n:=m)
 have e1:2^m.log2*2^(52 - m.log2)=2^52:=by rw [←Nat.pow_add];congr 1;omega
 have e2:2^(m.log2+1)*2^(52 - m.log2)=2^53:=by rw [←Nat.pow_add];congr 1;omega
 constructor
 ·rw [←e1];exact Nat.mul_le_mul_right _ h1
 ·rw [←e2];exact Nat.mul_lt_mul_of_pos_right h2 (Nat.pow_pos (by decide))
theorem L9{m k:Nat}(h0:0<m):(m*2^k).log2=m.log2+k:=by
 have h1:=Nat.log2_self_le (n:=m) (by omega)
 have h2:=Nat.lt_log2_self (n:=m)
 rw [Nat.log2_eq_iff (Nat.ne_of_gt (Nat.mul_pos h0 (Nat.pow_pos (by decide))))]
 rw [Nat.pow_add,show m.log2+k+1=(m.log2+1)+k by omega,Nat.pow_add]
 exact ⟨Nat.mul_le_mul_right _ h1,Nat.mul_lt_mul_of_pos_right h2 (Nat.pow_pos (by decide))⟩
theorem U0{s:Bool}{q d:Nat}(h:d≤(q*2^d).log2+2):Toward.even.cut s (q*2^d) d=q:=by
 simp only [Toward.cut,Nat.min_eq_left h,Nat.one_shiftLeft]
 have hp:0<2^d:=Nat.pow_pos (by decide)
 have e1:q*2^d / 2^d=q:=Nat.mul_div_cancel _ hp
 have e2:q*2^d % 2^d=0:=Nat.mul_mod_left _ _
 rw [e1,e2]
 simp
theorem TV{s:Bool}{m k:Nat}(h0:0<m)(h:m<2^53):double.nearest s (m*2^k) (-(k:Int))=fw s m:=by
 have hl:=KG h0 h
 have hpos: ¬(m*2^k=0):=Nat.ne_of_gt (Nat.mul_pos h0 (Nat.pow_pos (by decide)))
 have hlast:max (-(k:Int)+((m*2^k).log2:Nat) - (double.fractionBits:Nat)) double.leastPlace=(m.log2:Int) - 52:=by
  rw [L9 h0]
  simp only [double,Format.leastPlace]
  omega
 have hkept:Toward.even.cut s ((m*2^k) <<< (-(k:Int) - ((m.log2:Int) - 52)).toNat) (((m.log2:Int) - 52) - -(k:Int)).toNat=m*2^(52 - m.log2):=by
  rw [Nat.shiftLeft_eq]
  rcases Nat.le_total k (52 - m.log2) with hk|hk
  ·have e1:(-(k:Int) - ((m.log2:Int) - 52)).toNat=52 - m.log2 - k:=by omega
   have e2:(((m.log2:Int) - 52) - -(k:Int)).toNat=0:=by omega
   rw [e1,e2,Nat.mul_assoc,←Nat.pow_add,show k+(52 - m.log2 - k)=52 - m.log2 by omega]
   have:=U0 (s:=s) (q:=m*2^(52 - m.log2)) (d:=0) (by omega)
   simpa using this
  ·have e1:(-(k:Int) - ((m.log2:Int) - 52)).toNat=0:=by omega
   obtain ⟨d,hd⟩: ∃d,k=(52 - m.log2)+d:=⟨k - (52 - m.log2),by omega⟩
   have e2:(((m.log2:Int) - 52) - -(k:Int)).toNat=d:=by omega
   rw [e1,e2,Nat.pow_zero,Nat.mul_one,hd,Nat.pow_add,←Nat.mul_assoc]
   refine U0 ?_
   rw [Nat.mul_assoc,←Nat.pow_add,L9 h0]
   omega
 have hb:=Lg h0 h
 simp only [Format.nearest,hpos,if_false,hlast,hkept,fw]
 congr 1
 have e3:((m.log2:Int) - 52 - double.leastPlace).toNat=m.log2+1022:=by simp only [double,Format.leastPlace];omega
 rw [e3]
 have e4:double.binade=2^52:=rfl
 have e5:double.infRung=2047*2^52:=by decide
 rw [e4,e5]
 omega
theorem SY{s:Bool}{k:Int}:double.nearest s 0 k=double.word s 0:=by simp [Format.nearest]
theorem WF{s:Bool}{m:Nat}(h0:0<m)(h:m<2^53):double.read (fw s m)= .number s (m*2^(52 - m.log2)) (-((52 - m.log2:Nat):Int)):=by
 have hl:=KG h0 h
 have hb:=Lg h0 h
 have e0:double.signWeight=2^63:=by decide
 have e4:double.binade=2^52:=rfl
 have e5:double.infRung=2047*2^52:=by decide
 have e6:double.leastPlace= -1074:=by decide
 generalize hq:m*2^(52 - m.log2)=q at*
 generalize hL:m.log2=L at*
 have hw:fw s m=(if s then 2^63 else 0)+((L+1022)*2^52+q):=by
  simp only [fw,Format.word,hq,hL,e0];cases s<;>simp
 have hr:fw s m % 2^63=(L+1022)*2^52+q:=by rw [hw];cases s<;>simp<;>omega
 have hn:(fw s m / 2^63 % 2==1)=s:=by rw [hw];cases s<;>simp<;>omega
 simp only [Format.read,e0,hr,hn,e4,e5,e6]
 rw [if_neg (by omega),if_pos (by omega)]
 congr 1
 ·omega
 ·omega
theorem Vi(n:Int):FloatKind.f64.nearest n=double.nearest (decide (n<0)) n.natAbs 0:=rfl
theorem Jl{n:Int}(h0:n≠0)(h:n.natAbs<2^53):FloatKind.f64.nearest n=fw (decide (n<0)) n.natAbs:=by
 rw [Vi]
 have:=TV (s:=decide (n<0)) (m:=n.natAbs) (k:=0) (by omega) h
 simpa using this
theorem Om:FloatKind.f64.nearest 0=0:=by decide
theorem Lh{n:Int}(h:n.natAbs<2^53):Wp (double.read (FloatKind.f64.nearest n)) n:=by
 rcases Decidable.em (n=0) with h0|h0
 ·subst h0;exact ⟨1074,by rw [Om,Int.natAbs_zero,Nat.zero_mul];decide⟩
 ·rw [Jl h0 h,WF (by omega) h];exact ⟨_,rfl⟩
theorem SZ{d:Datum}{n:Int}(h:n.natAbs<2^53)(hd:Wp d n):double.write d=FloatKind.f64.nearest n:=by
 obtain ⟨k,rfl⟩:=hd
 rcases Decidable.em (n=0) with h0|h0
 ·subst h0;simp only [Int.natAbs_zero,Nat.zero_mul,Format.write];rw [SY];decide
 ·rw [Jl h0 h];exact TV (by omega) h
def Fz(x:Nat)(n:Int):Prop:=x=FloatKind.f64.nearest n∨(n=0∧x=9223372036854775808)
theorem Fz.of{n:Int}:Fz (FloatKind.f64.nearest n) n:= .inl rfl
theorem Fz.eq{x:Nat}{n:Int}(h:Fz x n)(h0:n≠0):x=FloatKind.f64.nearest n:=h.resolve_right fun h'=>h0 h'.1
theorem Fz.read{x:Nat}{n:Int}(hx:Fz x n)(h:n.natAbs<2^53):Wd (double.read x) n:=by
 rcases hx with rfl| ⟨rfl,rfl⟩
 ·exact (Lh h).wd
 ·exact ⟨true,1074,by rw [Int.natAbs_zero,Nat.zero_mul];decide,fun h=>absurd rfl h⟩
theorem Fz.write{d:Datum}{n:Int}(hd:Wd d n)(h:n.natAbs<2^53):Fz (double.write d) n:=by
 rcases Decidable.em (n=0) with h0|h0
 ·subst h0
  obtain ⟨s,k,rfl,_⟩:=hd
  simp only [Int.natAbs_zero,Nat.zero_mul,Format.write]
  rw [SY]
  cases s
  ·exact .inl (by decide)
  ·exact .inr ⟨rfl,by decide⟩
 ·exact .inl (SZ h (hd.wp h0))
theorem Lj{s:Bool}{n:Int}{k:Nat}(hs:n≠0→s=decide (n<0))(up:Nat):signed s (n.natAbs*2^k) up=n*2^(k+up):=by
 rw [signed,Nat.shiftLeft_eq,Nat.mul_assoc,←Nat.pow_add]
 rcases Decidable.em (n=0) with h0|h0
 ·subst h0;simp
 ·rw [hs h0]
  rcases Int.lt_or_le n 0 with h|h
  ·simp only [h,decide_true,if_true]
   rw [Int.natCast_mul,Int.natCast_pow,show ((n.natAbs:Nat):Int)= -n by omega,Int.neg_mul,Int.neg_neg];rfl
  ·have: ¬n<0:=by omega
   simp only [this,decide_false,if_false,Bool.false_eq_true]
   rw [Int.natCast_mul,Int.natCast_pow,show ((n.natAbs:Nat):Int)=n by omega];rfl
theorem natAbs_pow(n:Int)(k:Nat):(n*2^k).natAbs=n.natAbs*2^k:=by
 rw [Int.natAbs_mul,Int.natAbs_pow];rfl
theorem WG{n:Int}{k:Nat}:n*2^k<0↔n<0:=by
 have hp:(0:Int)<2^k:=Int.pow_pos (by decide)
 constructor
 ·intro h
  rcases Int.lt_or_le n 0 with h'|h'
  ·exact h'
  ·have:=Int.mul_nonneg h' (Int.le_of_lt hp);omega
 ·intro h;exact Int.mul_neg_of_neg_of_pos h hp
theorem Sa{n:Int}{k:Nat}:n*2^k=0↔n=0:=by
 have hp:(2:Int)^k≠0:=Int.ne_of_gt (Int.pow_pos (by decide))
 constructor
 ·intro h;rcases Int.mul_eq_zero.1 h with h|h
  ·exact h
  ·exact absurd h hp
 ·intro h;rw [h];simp
theorem Vj{c d:Datum}{a b:Int}(hc:Wd c a)(hd:Wd d b): ∃e,c.sum d=some e∧Wd e (a+b)∧(Wp c a∨Wp d b→Wp e (a+b)):=by
 obtain ⟨s,k,rfl,hs⟩:=hc
 obtain ⟨t,j,rfl,ht⟩:=hd
 refine ⟨_,rfl,?_⟩
 have e1:min (-(k:Int)) (-(j:Int))= -((max k j:Nat):Int):=by omega
 rw [e1]
 have e2:((-(k:Int)) - -((max k j:Nat):Int)).toNat=max k j - k:=by omega
 have e3:((-(j:Int)) - -((max k j:Nat):Int)).toNat=max k j - j:=by omega
 rw [e2,e3,Lj hs,Lj ht,show k+(max k j - k)=max k j by omega,show j+(max k j - j)=max k j by omega,←Int.add_mul]
 generalize max k j=M
 refine ⟨⟨_,M,by rw [natAbs_pow],fun h=>?_⟩,fun h=>⟨M,?_⟩⟩
 ·rw [if_neg (by rw [Sa];exact h)];simp [WG]
 ·rw [natAbs_pow]
  congr 1
  rcases Decidable.em (a+b=0) with h0|h0
  ·rw [if_pos (by rw [Sa];exact h0),h0]
   simp only [Int.lt_irrefl,decide_false,Bool.and_eq_false_iff]
   rcases Decidable.em (a=0) with ha|ha
   ·have hb:b=0:=by omega
    rcases h with ⟨k',h⟩| ⟨j',h⟩
    ·injection h with h _ _;left;rw [h,ha];decide
    ·injection h with h _ _;right;rw [h,hb];decide
   ·rw [hs ha,ht (by omega)]
    simp only [decide_eq_false_iff_not];omega
  ·rw [if_neg (by rw [Sa];exact h0)];simp [WG]
theorem AA0{d:Datum}{b:Int}(hd:Wd d b):Wd d.opposite (-b):=by
 obtain ⟨t,j,rfl,ht⟩:=hd
 refine ⟨!t,j,by simp [Datum.opposite],fun h=>?_⟩
 rw [ht (by omega)]
 rcases Int.lt_or_le b 0 with h'|h'
 ·simp [h'];omega
 ·have h1: ¬b<0:=by omega
  have h2: -b<0:=by omega
  simp [h1];omega
theorem ZM{c d:Datum}{a b:Int}(hc:Wd c a)(hd:Wd d b): ∃e,c.product d=some e∧Wd e (a*b):=by
 obtain ⟨s,k,rfl,hs⟩:=hc
 obtain ⟨t,j,rfl,ht⟩:=hd
 refine ⟨_,rfl,s^^t,k+j,?_,fun h=>?_⟩
 ·congr 1
  ·rw [Int.natAbs_mul,Nat.pow_add];simp only [Nat.mul_assoc,Nat.mul_left_comm]
  ·omega
 ·have ha:a≠0:=fun e=>h (by rw [e];simp)
  have hb:b≠0:=fun e=>h (by rw [e];simp)
  rw [hs ha,ht hb]
  rcases Int.lt_or_le a 0 with h1|h1<;>rcases Int.lt_or_le b 0 with h2|h2
  ·have:=Int.mul_pos_of_neg_of_neg h1 h2
   simp [h1,h2];omega
  ·have:=Int.mul_neg_of_neg_of_pos h1 (show 0<b by omega)
   have h3: ¬b<0:=by omega
   simp [h1,h3,this]
  ·have:=Int.mul_neg_of_pos_of_neg (show 0<a by omega) h2
   have h3: ¬a<0:=by omega
   simp [h2,h3,this]
  ·have:=Int.mul_pos (show 0<a by omega) (show 0<b by omega)
   have h3: ¬a<0:=by omega
   have h4: ¬b<0:=by omega
   simp [h3,h4];omega
theorem Xr{c d:Datum}{a b:Int}(hc:Wd c a)(hd:Wd d b):c.order d=some (compare a b):=by
 obtain ⟨s,k,rfl,hs⟩:=hc
 obtain ⟨t,j,rfl,ht⟩:=hd
 simp only [Datum.order]
 have e1:min (-(k:Int)) (-(j:Int))= -((max k j:Nat):Int):=by omega
 rw [e1]
 have e2:((-(k:Int)) - -((max k j:Nat):Int)).toNat=max k j - k:=by omega
 have e3:((-(j:Int)) - -((max k j:Nat):Int)).toNat=max k j - j:=by omega
 rw [e2,e3,Lj hs,Lj ht,show k+(max k j - k)=max k j by omega,show j+(max k j - j)=max k j by omega]
 generalize max k j=M
 have hp:(0:Int)<2^M:=Int.pow_pos (by decide)
 congr 1
 simp only [compare,compareOfLessAndEq]
 have hlt:a*2^M<b*2^M↔a<b:=Int.mul_lt_mul_right hp
 have:a*2^M=b*2^M↔a=b:=by
  constructor
  ·intro h;exact Int.eq_of_mul_eq_mul_right (Int.ne_of_gt hp) h
  ·rintro rfl;rfl
 simp only [hlt,this]
section
variable{x y:Nat}{a b:Int}
theorem Fz.add(hx:Fz x a)(hy:Fz y b)(ha:a.natAbs<2^53)(hb:b.natAbs<2^53)(h:(a+b).natAbs<2^53): ∃z,FloatKind.f64.format.add x y=some z∧Fz z (a+b):=by
 obtain ⟨e,he,hw,_⟩:=Vj (hx.read ha) (hy.read hb)
 refine ⟨double.write e,?_,Fz.write hw h⟩
 show ((double.read x).sum (double.read y)).map double.write=_
 rw [he];rfl
theorem Fz.add0(hx:Fz x a)(ha:a.natAbs<2^53):FloatKind.f64.format.add x 0=some (FloatKind.f64.nearest a):=by
 obtain ⟨e,he,_,hw⟩:=Vj (hx.read ha) (Lh (n:=0) (by decide)).wd
 have hw:=hw (.inr (Lh (n:=0) (by decide)))
 rw [Int.add_zero] at hw
 show ((double.read x).sum (double.read 0)).map double.write=_
 rw [Om] at he
 rw [he]
 exact congrArg some (SZ ha hw)
theorem Fz.sub(hx:Fz x a)(hy:Fz y b)(ha:a.natAbs<2^53)(hb:b.natAbs<2^53)(h:(a - b).natAbs<2^53): ∃z,FloatKind.f64.format.sub x y=some z∧Fz z (a - b):=by
 obtain ⟨e,he,hw,_⟩:=Vj (hx.read ha) (AA0 (hy.read hb))
 refine ⟨double.write e,?_,Fz.write (by rwa [Int.sub_eq_add_neg]) h⟩
 show ((double.read x).sum (double.read y).opposite).map double.write=_
 rw [he];rfl
theorem Fz.mul(hx:Fz x a)(hy:Fz y b)(ha:a.natAbs<2^53)(hb:b.natAbs<2^53)(h:(a*b).natAbs<2^53): ∃z,FloatKind.f64.format.mul x y=some z∧Fz z (a*b):=by
 obtain ⟨e,he,hw⟩:=ZM (hx.read ha) (hy.read hb)
 refine ⟨double.write e,?_,Fz.write hw h⟩
 show ((double.read x).product (double.read y)).map double.write=_
 rw [he];rfl
theorem Fz.order(hx:Fz x a)(hy:Fz y b)(ha:a.natAbs<2^53)(hb:b.natAbs<2^53):FloatKind.f64.format.order x y=some (compare a b):=
 Xr (hx.read ha) (hy.read hb)
theorem Se{a b:Int}:(compare a b= .lt)↔a<b:=by
 simp only [compare,compareOfLessAndEq];split<;>simp_all;split<;>simp_all
theorem Xs{a b:Int}:(compare a b= .eq)↔a=b:=by
 simp only [compare,compareOfLessAndEq];split
 ·simp;omega
 ·split<;>simp_all
theorem AA1{a b:Int}:(compare a b= .gt)↔b<a:=by
 simp only [compare,compareOfLessAndEq];split
 ·simp;omega
 ·split
  ·simp;omega
  ·simp;omega
theorem Fz.feq(hx:Fz x a)(hy:Fz y b)(ha:a.natAbs<2^53)(hb:b.natAbs<2^53):feq x y=decide (a=b):=by
 rw [Fth.feq,hx.order hy ha hb,Bool.eq_iff_iff];simp [Xs]
theorem Fz.fne(hx:Fz x a)(hy:Fz y b)(ha:a.natAbs<2^53)(hb:b.natAbs<2^53):fne x y= !decide (a=b):=by
 rw [Fth.fne,hx.order hy ha hb,Bool.eq_iff_iff];simp [Xs]
theorem Fz.flt(hx:Fz x a)(hy:Fz y b)(ha:a.natAbs<2^53)(hb:b.natAbs<2^53):flt_ x y=decide (a<b):=by
 rw [Fth.flt_,hx.order hy ha hb,Bool.eq_iff_iff];simp [Se]
theorem Fz.fle(hx:Fz x a)(hy:Fz y b)(ha:a.natAbs<2^53)(hb:b.natAbs<2^53):fle x y=decide (a≤b):=by
 rw [Fth.fle,hx.order hy ha hb,Bool.eq_iff_iff];simp [Se];omega
theorem Fz.fge(hx:Fz x a)(hy:Fz y b)(ha:a.natAbs<2^53)(hb:b.natAbs<2^53):fge x y=decide (b≤a):=by
 rw [Fth.fge,hx.order hy ha hb,Bool.eq_iff_iff];simp [AA1];omega
end
end Fth
namespace Fth
open Go Ieee
theorem Sf{s:Bool}{m k:Nat}:Toward.zero.cut s (m*2^k) k=m:=by
 rcases Nat.eq_zero_or_pos m with h|h
 ·subst h;simp [Toward.cut]
 ·have hl:=L9 (k:=k) h
  simp only [Toward.cut,Nat.one_shiftLeft,Nat.min_eq_left (show k≤(m*2^k).log2+2 by omega)]
  rw [Nat.mul_div_cancel _ (Nat.pow_pos (by decide))]
  simp
theorem U1{d:Datum}{n:Int}(h:Wd d n):Wd (d.integral .zero) n:=by
 obtain ⟨s,k,rfl,hs⟩:=h
 refine ⟨s,0,?_,hs⟩
 have e:(-(k:Int)).toNat=0:=by omega
 have e2:(- -(k:Int)).toNat=k:=by omega
 simp only [Datum.integral,e,e2,Nat.shiftLeft_zero,Sf]
 simp
theorem U2{d:Datum}{n:Int}(h:Wp d n):Wp (d.integral .zero) n:=by
 obtain ⟨k,rfl⟩:=h
 refine ⟨0,?_⟩
 have e:(-(k:Int)).toNat=0:=by omega
 have e2:(- -(k:Int)).toNat=k:=by omega
 simp only [Datum.integral,e,e2,Nat.shiftLeft_zero,Sf]
 simp
theorem Xt{d:Datum}{n:Int}(h:Wd d n):d.toInt .zero=some n:=by
 have h':=U1 h
 obtain ⟨s,k,rfl,hs⟩:=h
 have e:(-(k:Int)).toNat=0:=by omega
 have e2:(- -(k:Int)).toNat=k:=by omega
 simp only [Datum.toInt,Datum.integral,e,e2,Nat.shiftLeft_zero,Sf]
 have:=Lj (k:=0) hs 0
 simpa using this
theorem Xu{n:Int}(h1: -16777216≤n)(h2:n≤16777216):n.natAbs<2^53:=by omega
theorem m24:(13938640846711685120:Nat)=FloatKind.f64.nearest (-16777216):=by decide
theorem p24:(4715268809856909312:Nat)=FloatKind.f64.nearest 16777216:=by decide
theorem z0:(0:Nat)=FloatKind.f64.nearest 0:=by decide
theorem fz0:Fz 0 0:= .inl z0
theorem ZN{n:Int}(h:n.natAbs<2^53):Hq (FloatKind.f64.nearest n)=some (FloatKind.f64.nearest n):=by
 have hr:=Lh h
 have hi:=U2 hr
 have hw:=SZ h hi
 have:Re (FloatKind.f64.nearest n)=some (FloatKind.f64.nearest n):=by
  obtain ⟨k,hk⟩:=hr
  unfold Re
  have e:FloatKind.f64.decode (FloatKind.f64.nearest n)= .number (decide (n<0)) (n.natAbs*2^k) (-(k:Int)):=hk
  rw [e]
  rw [hk] at hw
  exact congrArg some hw
 unfold Hq
 rw [this];rfl
theorem WH{n:Int}(h:n.natAbs<2^53):F8 (FloatKind.f64.nearest n)=some (decide (-16777216≤n∧n≤16777216)):=by
 have hx:Fz (FloatKind.f64.nearest n) n:= .of
 unfold F8 G3
 rw [m24,p24,hx.fge .of h (by decide),hx.fle .of h (by decide),ZN h]
 simp only [Option.bind_some]
 rw [hx.feq .of h h,hx.fne fz0 h (by decide)]
 cases h1:decide (-16777216≤n)
 ·have:=Df h1
  simp [this]
 ·cases h2:decide (n≤16777216)
  ·have:=Df h2;simp [this]
  ·have h1:=CD h1;have h2:=CD h2
   simp only [decide_true,cond_true,h1,h2,and_self]
   cases h0:decide (n=0)
   ·rfl
   ·have h0:=CD h0;subst h0;decide
theorem WI{a b:Int}(ha:a.natAbs<2^53)(hb:b.natAbs<2^53):Bh (FloatKind.f64.nearest a,FloatKind.f64.nearest b)=some (decide ((-16777216≤a∧a≤16777216)∧(-16777216≤b∧b≤16777216))):=by
 unfold Bh JV
 simp only [WH ha,WH hb,Option.bind_some]
 cases h:decide (-16777216≤a∧a≤16777216)
 ·have:=Df h;simp [this]
 ·have:=CD h;simp [this]
def rn(n:Ad):Nat×Nat:=(FloatKind.f64.nearest n.re,FloatKind.f64.nearest n.im)
def Gc(n:Ad):Prop:=(-16777216≤n.re∧n.re≤16777216)∧(-16777216≤n.im∧n.im≤16777216)
instance (n:Ad):Decidable (Gc n):=inferInstanceAs (Decidable (_∧_))
theorem QS(z:Nat×Nat):Gn z↔∃n,Gc n∧z=rn n:=by
 constructor
 ·rintro ⟨a,b,⟨h1,h2,h3⟩,h4,h5,h6⟩
  exact ⟨⟨a,b⟩,⟨⟨h2,h3⟩,h5,h6⟩,by rw [rn,←h1,←h4]⟩
 ·rintro ⟨n,h,rfl⟩
  exact ⟨n.re,n.im,⟨rfl,h.1.1,h.1.2⟩,rfl,h.2.1,h.2.2⟩
theorem Gn.of{n:Ad}(h:Gc n):Gn (rn n):=(QS _).2 ⟨n,h,rfl⟩
theorem Gc.re{n:Ad}(h:Gc n):n.re.natAbs<2^53:=Xu h.1.1 h.1.2
theorem Gc.im{n:Ad}(h:Gc n):n.im.natAbs<2^53:=Xu h.2.1 h.2.2
theorem JC{n:Ad}(h:Gc n):Bh (rn n)=some true:=by
 rw [rn,WI h.re h.im];congr 1;exact decide_eq_true h
theorem Xv{n:Int}(h1: -16777216≤n)(h2:n≤16777216):HF (FloatKind.f64.nearest n)=some (n,true):=by
 have h:=Xu h1 h2
 have hx:Fz (FloatKind.f64.nearest n) n:= .of
 have e1:f2i .i64 (FloatKind.f64.nearest n)=some n:=by
  unfold f2i
  have:(FloatKind.f64.decode (FloatKind.f64.nearest n)).toInt .zero=some n:=Xt (hx.read h)
  rw [this]
  simp only [IntKind.min,IntKind.max,IntKind.signed,IntKind.bits]
  rw [if_pos]
  simp only [if_true];omega
 unfold HF GX
 rw [m24,p24,hx.fge .of h (by decide),hx.fle .of h (by decide),hx.feq fz0 h (by decide),e1]
 simp only [h1,h2,decide_true,cond_true,Option.bind_some,Bool.not_true,cond_false]
 rw [hx.feq .of h h]
 cases h0:decide (n=0)
 ·simp
 ·have h0:=CD h0;subst h0;decide
theorem TW{n:Ad}(h:Gc n):EA (rn n)=some (n,true):=by
 unfold EA
 simp only [rn,Xv h.1.1 h.1.2,Xv h.2.1 h.2.2,Option.bind_some]
 rfl
theorem Xw{z:Nat×Nat}(h:Gn z): ∃n,Gc n∧z=rn n∧EA z=some (n,true):=by
 obtain ⟨n,hn,rfl⟩:=(QS z).1 h
 exact ⟨n,hn,rfl,TW hn⟩
def inn(n:Ad):Ad×Int:=if Gc n then (n,0) else (⟨0,0⟩,50)
theorem WJ(n:Ad):Gj n=some (inn n):=by
 unfold Gj Iv inn
 cases h1:decide (n.re< -16777216)
 ·cases h2:decide (n.re>16777216)
  ·cases h3:decide (n.im< -16777216)
   ·cases h4:decide (n.im>16777216)
    ·have:=Df h1;have:=Df h2;have:=Df h3;have:=Df h4
     rw [if_pos (show Gc n from ⟨⟨by omega,by omega⟩,by omega,by omega⟩)];rfl
    ·have:=CD h4;rw [if_neg (show¬Gc n by unfold Gc;omega)];rfl
   ·have:=CD h3;rw [if_neg (show¬Gc n by unfold Gc;omega)];rfl
  ·have:=CD h2;rw [if_neg (show¬Gc n by unfold Gc;omega)];rfl
 ·have:=CD h1;rw [if_neg (show¬Gc n by unfold Gc;omega)];rfl
theorem OY{x y:Nat}{a b:Int}(hx:Fz x a)(hy:Fz y b)(ha:a.natAbs<2^53)(hb:b.natAbs<2^53):ES (x,y)=some (rn (inn ⟨a,b⟩).1,(inn ⟨a,b⟩).2):=by
 unfold ES
 simp only [hx.add0 ha,hy.add0 hb,Option.bind_some,WI ha hb]
 unfold inn
 cases h:decide ((-16777216≤a∧a≤16777216)∧(-16777216≤b∧b≤16777216))
 ·have h:=Df h
  rw [if_neg (show¬Gc ⟨a,b⟩ from h)]
  simp only [Bool.not_false,cond_true]
  congr 1
 ·have h:=CD h
  rw [if_pos (show Gc ⟨a,b⟩ from h)]
  rfl
theorem Fz.re{a:Ad}(_h:Gc a):Fz (rn a).1 a.re:= .inl rfl
theorem Fz.im{a:Ad}(_h:Gc a):Fz (rn a).2 a.im:= .inl rfl
section
variable{a b:Ad}(ha:Gc a)(hb:Gc b)
include ha hb
theorem AA2:If (rn a) (rn b)=some (rn (inn ⟨a.re+b.re,a.im+b.im⟩).1,(inn ⟨a.re+b.re,a.im+b.im⟩).2):=by
 obtain ⟨⟨h1,h2⟩,h3,h4⟩:=ha
 obtain ⟨⟨h5,h6⟩,h7,h8⟩:=hb
 have ha:Gc a:=⟨⟨h1,h2⟩,h3,h4⟩
 have hb:Gc b:=⟨⟨h5,h6⟩,h7,h8⟩
 obtain ⟨z,hz,hz'⟩:=(Fz.re ha).add (Fz.re hb) ha.re hb.re (by omega)
 obtain ⟨y,hy,hy'⟩:=(Fz.im ha).add (Fz.im hb) ha.im hb.im (by omega)
 unfold If KX
 simp only [JC ha,JC hb,Option.bind_some,Bool.not_true,cond_false,cadd,hz,hy,OY hz' hy' (by omega) (by omega)]
theorem AA3:Ig (rn a) (rn b)=some (rn (inn ⟨a.re - b.re,a.im - b.im⟩).1,(inn ⟨a.re - b.re,a.im - b.im⟩).2):=by
 obtain ⟨⟨h1,h2⟩,h3,h4⟩:=ha
 obtain ⟨⟨h5,h6⟩,h7,h8⟩:=hb
 have ha:Gc a:=⟨⟨h1,h2⟩,h3,h4⟩
 have hb:Gc b:=⟨⟨h5,h6⟩,h7,h8⟩
 obtain ⟨z,hz,hz'⟩:=(Fz.re ha).sub (Fz.re hb) ha.re hb.re (by omega)
 obtain ⟨y,hy,hy'⟩:=(Fz.im ha).sub (Fz.im hb) ha.im hb.im (by omega)
 unfold Ig KY
 simp only [JC ha,JC hb,Option.bind_some,Bool.not_true,cond_false,csub,hz,hy,OY hz' hy' (by omega) (by omega)]
end
theorem Kn{x y:Int}{A B:Nat}(hx:x.natAbs≤A)(hy:y.natAbs≤B):(x*y).natAbs≤A*B:=by
 rw [Int.natAbs_mul];exact Nat.mul_le_mul hx hy
theorem Gc.reA{n:Ad}(h:Gc n):n.re.natAbs≤16777216:=by have:=h.1;omega
theorem Gc.imA{n:Ad}(h:Gc n):n.im.natAbs≤16777216:=by have:=h.2;omega
theorem UM{x1 x2 y1 y2:Nat}{a1 a2 b1 b2:Int}(h1:Fz x1 a1)(h2:Fz x2 a2)(h3:Fz y1 b1)(h4:Fz y2 b2)(l1:a1.natAbs≤16777216)(l2:a2.natAbs≤16777216)(l3:b1.natAbs≤16777216)(l4:b2.natAbs≤16777216):
  ∃z1 z2,cmul (x1,x2) (y1,y2)=some (z1,z2)∧Fz z1 (a1*b1 - a2*b2)∧Fz z2 (a1*b2+a2*b1)∧(a1*b1 - a2*b2).natAbs≤562949953421312∧(a1*b2+a2*b1).natAbs≤562949953421312:=by
 have m1:=Kn l1 l3
 have m2:=Kn l2 l4
 have m3:=Kn l1 l4
 have m4:=Kn l2 l3
 obtain ⟨p,hp,hp'⟩:=h1.mul h3 (by omega) (by omega) (by omega)
 obtain ⟨q,hq,hq'⟩:=h2.mul h4 (by omega) (by omega) (by omega)
 obtain ⟨r,hr,hr'⟩:=hp'.sub hq' (by omega) (by omega) (by omega)
 obtain ⟨s,hs,hs'⟩:=h1.mul h4 (by omega) (by omega) (by omega)
 obtain ⟨t,ht,ht'⟩:=h2.mul h3 (by omega) (by omega) (by omega)
 obtain ⟨u,hu,hu'⟩:=hs'.add ht' (by omega) (by omega) (by omega)
 refine ⟨r,u,?_,hr',hu',by omega,by omega⟩
 simp only [cmul,hp,hq,hr,hs,ht,hu,Option.bind_some]
section
variable{a b:Ad}(ha:Gc a)(hb:Gc b)
include ha hb
theorem AA4:Ih (rn a) (rn b)=some (rn (inn ⟨a.re*b.re - a.im*b.im,a.re*b.im+a.im*b.re⟩).1,(inn ⟨a.re*b.re - a.im*b.im,a.re*b.im+a.im*b.re⟩).2):=by
 obtain ⟨z1,z2,hz,h1,h2,l1,l2⟩:=UM (Fz.re ha) (Fz.im ha) (Fz.re hb) (Fz.im hb) ha.reA ha.imA hb.reA hb.imA
 unfold Ih KZ
 have e:cmul (rn a) (rn b)=some (z1,z2):=hz
 simp only [JC ha,JC hb,Option.bind_some,Bool.not_true,cond_false,e,OY h1 h2 (by omega) (by omega)]
theorem ZO:Hu (rn a) (rn b)=some ((decide (a.re<b.re)||(decide (a.re=b.re)&&decide (a.im<b.im))),0):=by
 unfold Hu J1
 simp only [JC ha,JC hb,Option.bind_some,Bool.not_true,cond_false]
 rw [(Fz.re ha).fne (Fz.re hb) ha.re hb.re,(Fz.re ha).flt (Fz.re hb) ha.re hb.re,(Fz.im ha).flt (Fz.im hb) ha.im hb.im]
 cases h:decide (a.re=b.re)
 ·simp
 ·have h:=CD h
  simp [h]
theorem Xx:ceq (rn a) (rn b)=(decide (a.re=b.re)&&decide (a.im=b.im)):=by
 rw [ceq,(Fz.re ha).feq (Fz.re hb) ha.re hb.re,(Fz.im ha).feq (Fz.im hb) ha.im hb.im]
end
theorem UN{x:Nat}{a:Int}(h:Fz x a)(ha:a.natAbs<2^53):Fz (Op.negFloat .f64 x) (-a):=by
 have e: ∀y:Nat,Op.negFloat .f64 y=y ^^^ 9223372036854775808:=fun y=>rfl
 rw [e]
 rcases Decidable.em (a=0) with h0|h0
 ·subst h0
  rcases h with rfl| ⟨_,rfl⟩
  ·exact .inr ⟨rfl,by decide⟩
  ·exact .inl (by decide)
 ·have h':=h.eq h0
  subst h'
  left
  rw [Jl h0 ha,Jl (n:= -a) (by omega) (by omega),Int.natAbs_neg]
  have hb:=Lg (m:=a.natAbs) (by omega) ha
  have hl:=KG (m:=a.natAbs) (by omega) ha
  simp only [fw,Format.word]
  have hs:double.signWeight=2^63:=by decide
  rw [hs]
  generalize a.natAbs.log2=L at*
  generalize a.natAbs*2^(52 - L)=q at*
  have hr:(L+1022)*2^52+q<2^63:=by omega
  obtain ⟨r,hrr⟩: ∃r,(L+1022)*2^52+q=r:=⟨_,rfl⟩
  simp only [hrr] at hr ⊢
  have x1:r ^^^ 9223372036854775808=2^63+r:=by
   have h1:=Nat.two_pow_add_eq_or_of_lt hr 1
   rw [Nat.mul_one] at h1
   rw [h1,show (9223372036854775808:Nat)=2^63 by decide]
   refine Nat.eq_of_testBit_eq fun i=>?_
   rw [Nat.testBit_xor,Nat.testBit_or,Nat.testBit_two_pow]
   by_cases hi:63=i
   ·subst hi;simp [Nat.testBit_lt_two_pow hr]
   ·simp [hi]
  have x2:(2^63+r) ^^^ 9223372036854775808=r:=by
   rw [←x1,Nat.xor_assoc,Nat.xor_self,Nat.xor_zero]
  rcases Int.lt_or_le a 0 with hn|hn
  ·have h2: ¬(-a<0):=by omega
   simp only [hn,h2,decide_true,decide_false,if_true,Bool.false_eq_true,if_false]
   exact x2
  ·have h1: ¬(a<0):=by omega
   have h2: -a<0:=by omega
   simp only [h1,h2,decide_true,decide_false,if_true,Bool.false_eq_true,if_false]
   exact x1
theorem ZP{a:Ad}(ha:Gc a):HK (rn a)=some (rn ⟨a.re,-a.im⟩,0):=by
 unfold HK
 have hn:Gc ⟨a.re,-a.im⟩:=by obtain ⟨⟨h1,h2⟩,h3,h4⟩:=ha;exact ⟨⟨h1,h2⟩,by simp only;omega,by simp only;omega⟩
 have:=OY (Fz.re ha) (UN (Fz.im ha) ha.im) ha.re (by have:=ha.im;omega)
 simp only [JC ha,Option.bind_some,Bool.not_true,cond_false,this,inn,if_pos hn]
end Fth
namespace Fth
open Go Ieee
theorem wu{x:Int}(h1:0≤x)(h2:x<18446744073709551616):IntKind.u64.wrap x=x:=by
 simp only [IntKind.wrap,IntKind.signed,IntKind.bits]
 simp
 omega
theorem OZ{x:Nat}(h:x<2^64):(BitVec.ofInt 64 (x:Int)).toNat=x:=by
 rw [BitVec.toNat_ofInt];omega
theorem ZQ{x y:Nat}(hx:x<2^64)(hy:y<2^64):EG .u64 (x:Int) (y:Int)=((x&&& y:Nat):Int):=by
 have hb:(x&&& y)<2^64:=Nat.lt_of_le_of_lt Nat.and_le_left hx
 have e:(BitVec.ofInt IntKind.u64.bits (x:Int)&&& BitVec.ofInt IntKind.u64.bits (y:Int)).toNat=x&&& y:=by
  show (BitVec.ofInt 64 (x:Int)&&& BitVec.ofInt 64 (y:Int)).toNat=_
  rw [BitVec.toNat_and,OZ hx,OZ hy]
 rw [EG,e,wu (by omega) (by omega)]
theorem Xy{x y:Nat}(hx:x<2^64)(hy:y<2^64):Kp .u64 (x:Int) (y:Int)=((x|||y:Nat):Int):=by
 have hb:(x|||y)<2^64:=Nat.or_lt_two_pow hx hy
 have e:(BitVec.ofInt IntKind.u64.bits (x:Int)|||BitVec.ofInt IntKind.u64.bits (y:Int)).toNat=x|||y:=by
  show (BitVec.ofInt 64 (x:Int)|||BitVec.ofInt 64 (y:Int)).toNat=_
  rw [BitVec.toNat_or,OZ hx,OZ hy]
 rw [Kp,e,wu (by omega) (by omega)]
theorem PJ{x y:Nat}(hx:x<2^64)(hy:y<2^64):CT .u64 (x:Int) (y:Int)=((x&&& (2^64 - 1 - y):Nat):Int):=by
 have hb:(x&&& (2^64 - 1 - y))<2^64:=Nat.lt_of_le_of_lt Nat.and_le_left hx
 have e:(BitVec.ofInt IntKind.u64.bits (x:Int)&&& ~~~ BitVec.ofInt IntKind.u64.bits (y:Int)).toNat=x&&& (2^64 - 1 - y):=by
  show (BitVec.ofInt 64 (x:Int)&&& ~~~ BitVec.ofInt 64 (y:Int)).toNat=_
  rw [BitVec.toNat_and,BitVec.toNat_not,OZ hx,OZ hy]
 rw [CT,e,wu (by omega) (by omega)]
theorem ZR{x n:Nat}(h:x<2^n):x&&& 2^n=0:=by
 refine Nat.eq_of_testBit_eq fun i=>?_
 rw [Nat.testBit_and,Nat.testBit_two_pow,Nat.zero_testBit]
 by_cases hi:n=i
 ·subst hi;simp [Nat.testBit_lt_two_pow h]
 ·simp [hi]
theorem WK{x:Nat}(h:x<2^63):HO x=some x:=by
 unfold HO
 have:=PJ (x:=x) (y:=9223372036854775808) (by omega) (by omega)
 rw [show ((9223372036854775808:Nat):Int)=9223372036854775808 from rfl] at this
 rw [this]
 have e:(2^64 - 1 - 9223372036854775808:Nat)=2^63 - 1:=by decide
 rw [e,Nat.and_two_pow_sub_one_eq_mod,Nat.mod_eq_of_lt h];rfl
theorem ZS{r:Nat}(h:r<2^63):HO (2^63+r)=some r:=by
 unfold HO
 have:=PJ (x:=2^63+r) (y:=9223372036854775808) (by omega) (by omega)
 rw [show ((9223372036854775808:Nat):Int)=9223372036854775808 from rfl] at this
 rw [this]
 have e:(2^64 - 1 - 9223372036854775808:Nat)=2^63 - 1:=by decide
 rw [e,Nat.and_two_pow_sub_one_eq_mod,Nat.add_mod_left,Nat.mod_eq_of_lt h];rfl
theorem WM{m:Nat}(h0:0<m)(h:m<2^53):fw false m<2^63∧fw false m / 2^52=m.log2+1023∧fw false m % 2^52=m*2^(52 - m.log2) - 2^52∧fw true m=2^63+fw false m:=by
 have hb:=Lg h0 h
 have hl:=KG h0 h
 have hs:double.signWeight=2^63:=by decide
 simp only [fw,Format.word,hs,if_true,Bool.false_eq_true,if_false]
 generalize m*2^(52 - m.log2)=q at*
 refine ⟨?_,?_,?_,trivial⟩<;>omega
theorem Xz{x:Nat}{a:Int}(h:Fz x a)(ha:a.natAbs<2^53):HO x=some (FloatKind.f64.nearest a.natAbs):=by
 rcases Decidable.em (a=0) with h0|h0
 ·subst h0
  rcases h with rfl| ⟨_,rfl⟩<;>decide
 ·rw [h.eq h0,Jl h0 ha,Jl (n:=(a.natAbs:Int)) (by omega) (by omega)]
  have hb:=WM (m:=a.natAbs) (by omega) ha
  have e:((a.natAbs:Int)).natAbs=a.natAbs:=rfl
  have e2:decide ((a.natAbs:Int)<0)=false:=by simp
  rw [e,e2]
  cases h1:decide (a<0)
  ·exact WK hb.1
  ·rw [hb.2.2.2];exact ZS hb.1
theorem Wx{x:Nat}{a:Int}(h:Fz x a)(ha:a.natAbs<2^53):fgt x 9218868437227405311=false:=by
 obtain ⟨s,k,hk,hs⟩:=h.read ha
 have hm:double.read 9218868437227405311= .number false 9007199254740991 971:=by decide
 have:FloatKind.f64.format.order x 9218868437227405311=some (compare (signed s (a.natAbs*2^k) 0) (signed false 9007199254740991 (971+k))):=by
  show (double.read x).order (double.read 9218868437227405311)=_
  rw [hk,hm]
  simp only [Datum.order]
  have e1:min (-(k:Int)) 971= -(k:Int):=by omega
  rw [e1]
  have e2:(-(k:Int) - -(k:Int)).toNat=0:=by omega
  have e3:((971:Int) - -(k:Int)).toNat=971+k:=by omega
  rw [e2,e3]
 rw [fgt,this,Lj hs]
 have h1:signed false 9007199254740991 (971+k)=9007199254740991*(2^971*2^k):=by
  simp only [signed,Bool.false_eq_true,if_false,Nat.shiftLeft_eq]
  rw [Int.natCast_mul,Int.natCast_pow,Int.pow_add];rfl
 rw [h1]
 have h2:a*2^(k+0)<9007199254740991*(2^971*2^k):=by
  rw [Nat.add_zero,←Int.mul_assoc]
  have hp:(0:Int)<2^k:=Int.pow_pos (by decide)
  refine Int.mul_lt_mul_of_pos_right ?_ hp
  have hp2:(4:Int)≤2^971:=by
   have:(2:Int)^2≤2^971:=by exact_mod_cast Nat.pow_le_pow_right (by decide:0<2) (by omega:2≤971)
   simpa using this
  generalize (2:Int)^971=q at*
  omega
 have h3:=Se.2 h2
 rw [h3];rfl
theorem Vk{x:Nat}{a:Int}(h:Fz x a)(ha:a.natAbs<2^53):GQ x 0=some false:=by
 unfold GQ JG
 simp only [Xz h ha,Option.bind_some]
 rw [Wx (a:=(a.natAbs:Int)) .of (by omega)];rfl
theorem UO{x:Nat}{a:Int}(h:Fz x a)(ha:a.natAbs<2^53):Fs x=some false:=by
 unfold Fs
 rw [h.fne h ha ha];simp
theorem X0{m:Nat}(h0:0<m)(h:m<2^53):flt_ (fw false m) 4503599627370496=false:=by
 have hl:=KG h0 h
 have hb:=Lg h0 h
 have hm:double.read 4503599627370496= .number false 4503599627370496 (-1074):=by decide
 have:FloatKind.f64.format.order (fw false m) 4503599627370496=some (compare (signed false (m*2^(52 - m.log2)) (1074 - (52 - m.log2))) (signed false 4503599627370496 0)):=by
  show (double.read (fw false m)).order (double.read 4503599627370496)=_
  rw [WF h0 h,hm]
  simp only [Datum.order]
  have e1:min (-((52 - m.log2:Nat):Int)) (-1074)= -1074:=by omega
  rw [e1]
  have e2:(-((52 - m.log2:Nat):Int) - -1074).toNat=1074 - (52 - m.log2):=by omega
  have e3:((-1074:Int) - -1074).toNat=0:=by omega
  rw [e2,e3]
 rw [flt_,this]
 simp only [signed,Bool.false_eq_true,if_false,Nat.shiftLeft_eq,Nat.pow_zero,Nat.mul_one]
 generalize m*2^(52 - m.log2)=q at*
 have hp:1≤2^(1074 - (52 - m.log2)):=Nat.pow_pos (by decide)
 generalize 2^(1074 - (52 - m.log2))=p at*
 have:q*1≤q*p:=Nat.mul_le_mul_left _ hp
 cases hc:compare ((q*p:Nat):Int) ((4503599627370496:Nat):Int)
 ·have:=Se.1 hc;omega
 ·rfl
 ·rfl
theorem Pn{m:Nat}(h0:0<m)(h:m<2^53):D3 (fw false m)=some (fw false m,0):=by
 unfold D3
 rw [WK (WM h0 h).1,Option.bind_some,X0 h0 h,cond_false]
theorem MV{m:Nat}(h0:0<m)(h:m<2^53):FloatKind.f64.nearest (m:Int)=fw false m:=by
 have e:decide ((m:Int)<0)=false:=decide_eq_false (by omega)
 have:=Jl (n:=(m:Int)) (by omega) (by omega)
 rw [e] at this
 exact this
theorem Pp{m:Nat}(h0:0<m)(h:m<2^53):Fz (fw false m) m:= .inl (MV h0 h).symm
theorem Zy{f e:Nat}(hf:f<2^52):f|||e*2^52=e*2^52+f:=by
 have h:=Nat.two_pow_add_eq_or_of_lt hf e
 rw [Nat.mul_comm e,h,Nat.or_comm]
theorem WN{x:Nat}(h:x<2^63):CT .u64 ((x:Nat):Int) 9218868437227405312=((x % 2^52:Nat):Int):=by
 have:=PJ (x:=x) (y:=9218868437227405312) (by omega) (by omega)
 rw [show ((9218868437227405312:Nat):Int)=9218868437227405312 from rfl] at this
 rw [this]
 have e:(2^64 - 1 - 9218868437227405312:Nat)=2^63||| (2^52 - 1):=by decide
 rw [e,Nat.and_or_distrib_left,ZR h,Nat.zero_or,Nat.and_two_pow_sub_one_eq_mod]
theorem Zz(x:Nat):shr .u64 ((x:Nat):Int) 52=((x / 2^52:Nat):Int):=by
 have e:min (52:Int).toNat IntKind.u64.bits=52:=by decide
 rw [shr,e,Int.fdiv_eq_ediv_of_nonneg _ (by decide)];rfl
theorem ABg{x:Nat}(h:x<2^63):EG .u64 (shr .u64 ((x:Nat):Int) 52) 2047=((x / 2^52:Nat):Int):=by
 rw [Zz]
 have:=ZQ (x:=x / 2^52) (y:=2047) (by omega) (by omega)
 rw [show ((2047:Nat):Int)=2047 from rfl] at this
 rw [this]
 have e:(2047:Nat)=2^11 - 1:=by decide
 rw [e,Nat.and_two_pow_sub_one_eq_mod,Nat.mod_eq_of_lt (by omega)]
theorem AA5{m:Nat}(h0:0<m)(h:m<2^53):feq (fw false m) 0=false:=by
 rw [(Pp h0 h).feq fz0 (by omega) (by decide)];simp;omega
theorem U3{m:Nat}(h0:0<m)(h:m<2^53):HL (fw false m)=some (1021*2^52+m*2^(52 - m.log2),(m.log2:Int)+1):=by
 have hl:=KG h0 h
 have hb:=Lg h0 h
 have hf:=WM h0 h
 have hz:=Pp h0 h
 unfold HL II Jw
 rw [AA5 h0 h,Vk hz (by omega),UO hz (by omega),Pn h0 h]
 have nn52:nn 52=some ():=rfl
 simp only [cond_false,Option.bind_some,nn52,WN hf.1,ABg hf.1,hf.2.1]
 have hr:=Xy (x:=fw false m % 2^52) (y:=4602678819172646912) (by omega) (by omega)
 rw [show ((4602678819172646912:Nat):Int)=4602678819172646912 from rfl] at hr
 rw [hr,show (4602678819172646912:Nat)=1022*2^52 by decide,Zy (by omega),hf.2.2.1]
 generalize m*2^(52 - m.log2)=q at*
 refine congrArg some (Prod.ext ?_ ?_)
 ·simp only [Int.toNat_natCast];omega
 ·dsimp only
  rw [wr (x:=((m.log2+1023:Nat):Int)) (by omega) (by omega),wr (x:=((m.log2+1023:Nat):Int) - 1023) (by omega) (by omega),wr (x:=((m.log2+1023:Nat):Int) - 1023+1) (by omega) (by omega),wr (by omega) (by omega)];omega
theorem ZT{x:Nat}(h:x<2^11):EG .i64 (x:Int) 2047=(x:Int):=by
 have e:(BitVec.ofInt IntKind.i64.bits (x:Int)&&& BitVec.ofInt IntKind.i64.bits (2047:Int)).toNat=x:=by
  show (BitVec.ofInt 64 (x:Int)&&& BitVec.ofInt 64 ((2047:Nat):Int)).toNat=_
  rw [BitVec.toNat_and,OZ (by omega),OZ (by omega),show (2047:Nat)=2^11 - 1 by decide,Nat.and_two_pow_sub_one_eq_mod,Nat.mod_eq_of_lt h]
 rw [EG,e,wr (by omega) (by omega)]
theorem ABU{x:Nat}(h:x<2^11):shl .u64 (x:Int) 52=((x*2^52:Nat):Int):=by
 have e:min (52:Int).toNat IntKind.u64.bits=52:=by decide
 rw [shl,e,wu (by omega) (by omega)];omega
theorem Vl{m k:Nat}(h0:0<m)(hb:2^52≤m*2^(52 - m.log2))(hl2:m.log2+k≤52):(m.log2+k+1023)*2^52+(m*2^(52 - m.log2) - 2^52)=fw false (m*2^k):=by
 have e7:m*2^k*2^(52 - (m.log2+k))=m*2^(52 - m.log2):=by
  rw [Nat.mul_assoc,←Nat.pow_add];congr 2;omega
 simp only [fw,Format.word,L9 h0,e7,Bool.false_eq_true,if_false]
 generalize m*2^(52 - m.log2)=q at*
 omega
theorem X1{m k:Nat}(h0:0<m)(h:m*2^k<2^53):Ht (fw false m) (k:Int)=some (fw false (m*2^k)):=by
 have hm:m<2^53:=Nat.lt_of_le_of_lt (Nat.le_mul_of_pos_right m (Nat.pow_pos (by decide))) h
 have h1:0<m*2^k:=Nat.mul_pos h0 (Nat.pow_pos (by decide))
 have hl:=KG h0 hm
 have hl2:=KG h1 h
 rw [L9 h0] at hl2
 have e3:IntKind.i64.wrap (IntKind.i64.wrap ((k:Int)+0)+IntKind.i64.wrap (((m.log2+1023:Nat):Int) - 1023))=(m.log2+k:Nat):=by
  rw [wr (x:=(k:Int)+0) (by omega) (by omega),wr (x:=((m.log2+1023:Nat):Int) - 1023) (by omega) (by omega),wr (by omega) (by omega)];omega
 have hL:m.log2+1023<2^11:=by omega
 have hL2:m.log2+k+1023<2^11:=by omega
 have e6a:0≤((m.log2+k+1023:Nat):Int):=by omega
 have e6b:((m.log2+k+1023:Nat):Int)<18446744073709551616:=by omega
 have e7:fw false m % 2^52<2^64:=Nat.lt_trans (Nat.mod_lt _ (Nat.pow_pos (by decide))) (by decide)
 have e8:(m.log2+k+1023)*2^52<2^64:=Nat.lt_of_lt_of_le (Nat.mul_lt_mul_of_pos_right hL2 (Nat.pow_pos (by decide))) (by decide)
 have d1:decide (((m.log2+k:Nat):Int)< -1075)=false:=by simp;omega
 have d2:decide (((m.log2+k:Nat):Int)>1023)=false:=by simp;omega
 have d3:decide (((m.log2+k:Nat):Int)< -1022)=false:=by simp;omega
 have e4:IntKind.i64.wrap (((m.log2+k:Nat):Int)+1023)=((m.log2+k+1023:Nat):Int):=by rw [wr (by omega) (by omega)];omega
 have hb:=Lg h0 hm
 have hf:=WM h0 hm
 have hz:=Pp h0 hm
 have nn52:nn 52=some ():=rfl
 unfold Ht IJ
 rw [AA5 h0 hm,cond_false,Vk hz (by omega),Option.bind_some,cond_false,UO hz (by omega),Option.bind_some]
 unfold Jz
 rw [cond_false,Pn h0 hm,Option.bind_some,nn52,Option.bind_some]
 have e1:IntKind.i64.wrap (shr .u64 ((fw false m:Nat):Int) 52)=((fw false m / 2^52:Nat):Int):=by
  rw [Zz,hf.2.1,wr (by omega) (by omega)]
 have e2:EG .i64 ((fw false m / 2^52:Nat):Int) 2047=((m.log2+1023:Nat):Int):=by rw [hf.2.1];exact ZT hL
 dsimp only
 rw [e1,e2,e3]
 rw [d1,cond_false,d2,cond_false,d3,cond_false]
 unfold Jy
 rw [nn52,Option.bind_some]
 dsimp only
 have e5:=ABU hL2
 rw [e4,wu e6a e6b,e5,WN hf.1,Xy e7 e8,Zy (Nat.mod_lt _ (Nat.pow_pos (by decide))),hf.2.2.1,Int.toNat_natCast]
 have e6:=Vl h0 hb.1 hl2
 rw [e6]
 have one:Fz 4607182418800017408 1:= .inl (by decide)
 obtain ⟨z,hz1,hz2⟩:=one.mul (Pp h1 h) (by decide) (by omega) (by omega)
 rw [Int.one_mul] at hz2
 rw [hz1,hz2.eq (by omega),MV h1 h];rfl
theorem ZU{p q:Nat}(hp:2^52≤p)(hp':p<2^53)(hq:2^52≤q)(hq':q<2^53):flt_ (1021*2^52+p) (1021*2^52+q)=decide (p<q):=by
 have rd: ∀p,2^52≤p→p<2^53→double.read (1021*2^52+p)= .number false p (-53):=by
  intro p h1 h2
  have e0:double.signWeight=2^63:=by decide
  have e4:double.binade=2^52:=rfl
  have e5:double.infRung=2047*2^52:=by decide
  have e6:double.leastPlace= -1074:=by decide
  have hr:(1021*2^52+p) % 2^63=1021*2^52+p:=by omega
  have hn:((1021*2^52+p) / 2^63 % 2==1)=false:=by simp;omega
  simp only [Format.read,e0,hr,hn,e4,e5,e6]
  rw [if_neg (by omega),if_pos (by omega)]
  congr 1
  ·omega
  ·omega
 have:FloatKind.f64.format.order (1021*2^52+p) (1021*2^52+q)=some (compare (p:Int) (q:Int)):=by
  show (double.read _).order (double.read _)=_
  rw [rd p hp hp',rd q hq hq']
  simp [Datum.order,signed]
 rw [flt_,this,Bool.eq_iff_iff]
 simp [Se]
theorem X2{n r j:Nat}{R:Nat→Option Nat}{B:Nat→Nat}(h0:0<n)(hj:n*2^j≤r)(hr:r<2^53){e1:Nat×Int}
  (ih: ∀w,Fz w ((r - n*2^j:Nat):Int)→∃z,R w=some (B z)∧Fz z (((r - n*2^j) % n:Nat):Int)) (hj53:j<53) (he:e1.2=(n.log2:Int)+1) (_hn:n.log2≤52):
  ∃z,JY (fw false n) e1 (fw false r) R ((n.log2:Int)+1+j)=some (B z)∧Fz z ((r % n:Nat):Int):=by
 have hpj:0<n*2^j:=Nat.mul_pos h0 (Nat.pow_pos (by decide))
 have hnj:n*2^j<2^53:=Nat.lt_of_le_of_lt hj hr
 have hr0:0<r:=Nat.lt_of_lt_of_le hpj hj
 have e:IntKind.i64.wrap ((n.log2:Int)+1+j - e1.2)=(j:Int):=by rw [he,wr (by omega) (by omega)];omega
 have e2:((r:Int) - ((n*2^j:Nat):Int))=((r - n*2^j:Nat):Int):=by omega
 have k1:(r:Int).natAbs<2^53:=hr
 have k2:((n*2^j:Nat):Int).natAbs<2^53:=hnj
 have k3:((r:Int) - ((n*2^j:Nat):Int)).natAbs<2^53:=by rw [e2];exact Nat.lt_of_le_of_lt (Nat.sub_le _ _) hr
 have hm:(r - n*2^j) % n=r % n:=by
  conv=>rhs;rw [←Nat.sub_add_cancel hj]
  rw [Nat.add_mul_mod_self_left]
 unfold JY
 rw [e,X1 h0 hnj,Option.bind_some]
 obtain ⟨z,hz1,hz2⟩:=(Pp hr0 hr).sub (Pp hpj hnj) k1 k2 k3
 rw [hz1,Option.bind_some]
 rw [e2] at hz2
 obtain ⟨z',h1,h2⟩:=ih z hz2
 rw [hm] at h2
 exact ⟨z',h1,h2⟩
theorem Vn{n r:Nat}(hn:n.log2≤52)(hr:r.log2≤52)(hle:n.log2≤r.log2)(hq:n*2^(52 - n.log2)≤r*2^(52 - r.log2)):n*2^(r.log2 - n.log2)≤r:=by
 have h1:n*2^(r.log2 - n.log2)*2^(52 - r.log2)=n*2^(52 - n.log2):=by
  rw [Nat.mul_assoc,←Nat.pow_add];congr 2;omega
 have h2:n*2^(r.log2 - n.log2)*2^(52 - r.log2)≤r*2^(52 - r.log2):=by rw [h1];exact hq
 exact Nat.le_of_mul_le_mul_right h2 (Nat.pow_pos (by decide))
theorem Vo{n r:Nat}(hr0:0<r)(hlt:n.log2<r.log2):n*2^(r.log2 - n.log2 - 1)≤r:=by
 have h1:n*2^(r.log2 - n.log2 - 1)<2^(n.log2+1)*2^(r.log2 - n.log2 - 1):=Nat.mul_lt_mul_of_pos_right Nat.lt_log2_self (Nat.pow_pos (by decide))
 rw [←Nat.pow_add,show n.log2+1+(r.log2 - n.log2 - 1)=r.log2 by omega] at h1
 exact Nat.le_trans (Nat.le_of_lt h1) (Nat.log2_self_le (by omega))
theorem Wy{n r:Nat}(h0:0<n)(h:n≤r):n.log2≤r.log2:=by
 have h1:=Nat.log2_self_le (n:=n) (by omega)
 have h2:=Nat.lt_log2_self (n:=r)
 have h3:2^n.log2<2^(r.log2+1):=by omega
 have:=(Nat.pow_lt_pow_iff_right (by decide:1<2)).1 h3
 omega
theorem U4{x n:Nat}(h0:0<n)(hlt:n<2^53): ∀(k:Nat) (w:Nat) (r:Nat),Fz w (r:Int)→r<2^53→r<k→
  ∃z,Iw x (fw false n) (1021*2^52+n*2^(52 - n.log2),(n.log2:Int)+1) k w=some (bif flt_ x 0 then Op.negFloat .f64 z else z)∧Fz z ((r % n:Nat):Int):=by
 intro k
 have bn:=Lg h0 hlt
 have ln:=KG h0 hlt
 have lnI:(n:Int).natAbs<2^53:=hlt
 obtain ⟨c,hc0⟩: ∃c:Nat×Int,c=(1021*2^52+n*2^(52 - n.log2),(n.log2:Int)+1):=⟨_,rfl⟩
 rw [←hc0]
 have c1:c.1=1021*2^52+n*2^(52 - n.log2):=by rw [hc0]
 have c2:c.2=(n.log2:Int)+1:=by rw [hc0]
 clear hc0
 induction k with
 |zero=>intro w r _ _ h;exact absurd h (Nat.not_lt_zero _)
 |succ k ih=>
  intro w r hw hr hk
  have lrI:(r:Int).natAbs<2^53:=hr
  show∃z,Kb x (fw false n) c (Iw x (fw false n) c k) w=some _∧_
  unfold Kb
  rw [hw.fge (Pp h0 hlt) lrI lnI]
  cases hc:decide ((n:Int)≤(r:Int))
  ·have hc:=Df hc
   refine ⟨w,?_,by rw [Nat.mod_eq_of_lt (by omega)];exact hw⟩
   rw [cond_false]
   cases flt_ x 0<;>rfl
  ·have hc:n≤r:=by have:=CD hc;omega
   have hr0:0<r:=Nat.lt_of_lt_of_le h0 hc
   have hwr:w=fw false r:=by rw [hw.eq (by omega),MV hr0 hr]
   subst hwr
   have br:=Lg hr0 hr
   have lr:=KG hr0 hr
   have hLe:=Wy h0 hc
   rw [cond_true,U3 hr0 hr,Option.bind_some]
   dsimp only
   rw [c1,ZU br.1 br.2 bn.1 bn.2]
   have step: ∀j:Nat,n*2^j≤r→j<53→∃z,JY (fw false n) c (fw false r) (Iw x (fw false n) c k) ((n.log2:Int)+1+j)=some (bif flt_ x 0 then Op.negFloat .f64 z else z)∧Fz z ((r % n:Nat):Int):=by
    intro j hj hj53
    have hpj:0<n*2^j:=Nat.mul_pos h0 (Nat.pow_pos (by decide))
    exact X2 h0 hj hr (fun w hw=>ih w _ hw (Nat.lt_of_le_of_lt (Nat.sub_le _ _) hr) (by omega)) hj53 c2 ln
   cases hq:decide (r*2^(52 - r.log2)<n*2^(52 - n.log2))
   ·have hq:=Df hq
    obtain ⟨z,h1,h2⟩:=step _ (Vn ln lr hLe (Nat.le_of_not_lt hq)) (by omega)
    refine ⟨z,?_,h2⟩
    have e:(r.log2:Int)+1=(n.log2:Int)+1+((r.log2 - n.log2:Nat):Int):=by omega
    rw [cond_false,e]
    exact h1
   ·have hq:=CD hq
    have hLt:n.log2<r.log2:=by
     rcases Nat.lt_or_ge n.log2 r.log2 with h|h
     ·exact h
     ·have e:n.log2=r.log2:=Nat.le_antisymm hLe h
      rw [e] at hq
      exact absurd (Nat.lt_of_mul_lt_mul_right hq) (Nat.not_lt.2 hc)
    obtain ⟨z,h1,h2⟩:=step _ (Vo hr0 hLt) (by omega)
    refine ⟨z,?_,h2⟩
    have e:IntKind.i64.wrap ((r.log2:Int)+1 - 1)=(n.log2:Int)+1+((r.log2 - n.log2 - 1:Nat):Int):=by rw [wr (by omega) (by omega)];omega
    rw [cond_true,e]
    exact h1
theorem X3{N:Nat}{x y:Nat}{a n:Int}(hN:2^54≤N)(hx:Fz x a)(hy:Fz y n)(ha:a.natAbs<2^53)(hn0:0<n)(hn:n<2^53): ∃z,I6 N x y=some z∧Fz z (a.tmod n):=by
 obtain ⟨n,rfl⟩: ∃m:Nat,n=m:=⟨n.toNat,by omega⟩
 have h0:0<n:=by omega
 have hlt:n<2^53:=by omega
 have lnI:(n:Int).natAbs<2^53:=hlt
 have h254: ∀q:Nat,q<2^53→q<N:=fun q h=>by omega
 clear hN hn hn0
 have ey:=MV h0 hlt
 have hyy:y=fw false n:=by rw [hy.eq (by omega),ey]
 subst hyy
 have eabs:=Xz (Pp h0 hlt) lnI
 rw [show ((n:Int).natAbs:Int)=(n:Int) from rfl,ey] at eabs
 have nz0:(0:Int).natAbs<2^53:=by decide
 unfold I6 J0
 rw [AA5 h0 hlt,cond_false,Vk hx ha,Option.bind_some,cond_false,UO hx ha,Option.bind_some,cond_false,UO (Pp h0 hlt) lnI,Option.bind_some]
 unfold JZ
 rw [cond_false,eabs,Option.bind_some,U3 h0 hlt,Option.bind_some,hx.flt fz0 ha nz0]
 cases hs:decide (a<0)
 ·have hs':=Df hs
  have ea:((a.toNat:Nat):Int)=a:=by omega
  have hxa:Fz x ((a.toNat:Nat):Int):=by rw [ea];exact hx
  have la:a.toNat<2^53:=by omega
  obtain ⟨z,h1,h2⟩:=U4 (x:=x) h0 hlt N x a.toNat hxa la (h254 _ la)
  rw [hx.flt fz0 ha nz0,hs] at h1
  refine ⟨z,?_,?_⟩
  ·rw [cond_false]
   unfold KQ
   rw [h1];rfl
  ·have e:((a.toNat % n:Nat):Int)=a.tmod n:=by rw [Int.tmod_eq_emod_of_nonneg (by omega),Int.natCast_emod,ea]
   rw [e] at h2;exact h2
 ·have hs':=CD hs
  have ea:((a.natAbs:Nat):Int)= -a:=by omega
  have hxa:Fz (Op.negFloat .f64 x) ((a.natAbs:Nat):Int):=by rw [ea];exact UN hx ha
  obtain ⟨z,h1,h2⟩:=U4 (x:=x) h0 hlt N (Op.negFloat .f64 x) a.natAbs hxa ha (h254 _ ha)
  rw [hx.flt fz0 ha nz0,hs] at h1
  have hm:(((a.natAbs % n:Nat):Int)).natAbs<2^53:=Nat.lt_of_le_of_lt (Nat.mod_le _ _) ha
  refine ⟨Op.negFloat .f64 z,?_,?_⟩
  ·rw [cond_true]
   unfold KQ
   rw [h1];rfl
  ·have h3:=UN h2 hm
   have e: -((a.natAbs % n:Nat):Int)=a.tmod n:=by
    rw [show a= -(a.natAbs:Int) by omega,Int.neg_tmod,Int.tmod_eq_emod_of_nonneg (by omega),Int.natCast_emod,Int.natAbs_neg]
    rfl
   rw [e] at h3;exact h3
theorem X4{x y:Nat}{a n c:Int}(hx:Fz x a)(hy:Fz y n)(ha:a.natAbs<2^53)(hn0:0<n)(hn:n<2^53)(hc:a=c*n): ∃z,FloatKind.f64.format.div x y=some z∧Fz z c:=by
 obtain ⟨s,k,hk,hs⟩:=hx.read ha
 obtain ⟨t,j,hj,ht⟩:=hy.read (show n.natAbs<2^53 by omega)
 have ht':t=false:=by rw [ht (by omega)];simp;omega
 subst ht'
 have hcl:c.natAbs<2^53:=by
  have h1:a.natAbs=c.natAbs*n.natAbs:=by rw [hc,Int.natAbs_mul]
  have h2:c.natAbs*1≤c.natAbs*n.natAbs:=Nat.mul_le_mul_left _ (by omega)
  omega
 have main: ∃e,(double.read x).quotient (double.fractionBits+2) (double.read y)=some e∧Wd e c:=by
  rw [hk,hj]
  simp only [Datum.quotient]
  have hp:0<n.natAbs*2^j:=Nat.mul_pos (by omega) (Nat.pow_pos (by decide))
  rw [if_neg (by omega)]
  have hlog:j≤k+(double.fractionBits+2+(n.natAbs*2^j).log2 - (a.natAbs*2^k).log2):=by
   have e1:double.fractionBits+2=54:=rfl
   rw [e1,L9 (by omega)]
   rcases Nat.eq_zero_or_pos a.natAbs with h|h
   ·rw [h];simp;omega
   ·have:=KG h ha
    rw [L9 h];omega
  generalize double.fractionBits+2+(n.natAbs*2^j).log2 - (a.natAbs*2^k).log2=more at*
  have e2:(a.natAbs*2^k) <<< more=c.natAbs*2^(k+more - j)*(n.natAbs*2^j):=by
   rw [Nat.shiftLeft_eq,hc,Int.natAbs_mul]
   have:2^k*2^more=2^(k+more - j)*2^j:=by rw [←Nat.pow_add,←Nat.pow_add];congr 1;omega
   calc c.natAbs*n.natAbs*2^k*2^more=c.natAbs*n.natAbs*(2^k*2^more):=by rw [Nat.mul_assoc]
    _=c.natAbs*n.natAbs*(2^(k+more - j)*2^j):=by rw [this]
    _=c.natAbs*2^(k+more - j)*(n.natAbs*2^j):=by simp only [Nat.mul_assoc,Nat.mul_left_comm]
  rw [e2,Nat.mul_div_cancel _ hp,Nat.mul_mod_left]
  refine ⟨_,rfl,s,k+more - j+1,?_,fun h=>?_⟩
  ·simp only [bne_self_eq_false,Bool.toNat_false,Nat.add_zero,Bool.bne_false]
   congr 1
   ·rw [Nat.pow_succ];simp only [Nat.mul_comm,Nat.mul_left_comm]
   ·omega
  ·rw [hs (by rw [hc];exact Int.mul_ne_zero h (by omega)),hc]
   have:c*n<0↔c<0:=by
    constructor
    ·intro h1
     rcases Int.lt_or_le c 0 with h2|h2
     ·exact h2
     ·have:=Int.mul_nonneg h2 (Int.le_of_lt hn0);omega
    ·intro h1;exact Int.mul_neg_of_neg_of_pos h1 hn0
   simp [this]
 obtain ⟨e,he,hw⟩:=main
 refine ⟨double.write e,?_,Fz.write hw hcl⟩
 show ((double.read x).quotient (double.fractionBits+2) (double.read y)).map double.write=_
 rw [he];rfl
theorem WO(a b:Int):(a.tmod b).natAbs≤a.natAbs:=by rw [Int.natAbs_tmod];exact Nat.mod_le _ _
theorem RN(a b:Int):(a.tdiv b).natAbs≤a.natAbs:=by rw [Int.natAbs_tdiv];exact Nat.div_le_self _ _
def quo(a b:Ad):Ad×Int:=
 let n:=b.re*b.re+b.im*b.im
 let x:=a.re*b.re+a.im*b.im
 let y:=a.im*b.re - a.re*b.im
 if n=0∨x.tmod n≠0∨y.tmod n≠0 then (⟨0,0⟩,51) else inn ⟨x.tdiv n,y.tdiv n⟩
section
variable{a b:Ad}(ha:Gc a)(hb:Gc b)
include ha hb
theorem AA6(h: ¬(b.re=0∧b.im=0)):0<b.re*b.re+b.im*b.im:=by
 have h1:0≤b.re*b.re:=by
  rcases Int.le_total 0 b.re with h|h
  ·exact Int.mul_nonneg h h
  ·exact Int.mul_nonneg_of_nonpos_of_nonpos h h
 have h2:0≤b.im*b.im:=by
  rcases Int.le_total 0 b.im with h|h
  ·exact Int.mul_nonneg h h
  ·exact Int.mul_nonneg_of_nonpos_of_nonpos h h
 rcases Decidable.em (b.re*b.re=0) with h3|h3
 ·rcases Decidable.em (b.im*b.im=0) with h4|h4
  ·refine absurd ⟨?_,?_⟩ h
   ·rcases Int.mul_eq_zero.1 h3 with h|h<;>exact h
   ·rcases Int.mul_eq_zero.1 h4 with h|h<;>exact h
  ·omega
 ·omega
theorem AA7{N:Nat}(hN:2^54≤N):Ii N (rn a) (rn b)=some (rn (quo a b).1,(quo a b).2):=by
 unfold Ii Ke
 simp only [JC ha,JC hb,Option.bind_some,Bool.not_true,cond_false]
 have hz:ceq (rn b) (0,0)=(decide (b.re=0)&&decide (b.im=0)):=by
  rw [ceq,(Fz.re hb).feq fz0 hb.re (by decide),(Fz.im hb).feq fz0 hb.im (by decide)]
 rw [hz]
 cases h0:(decide (b.re=0)&&decide (b.im=0))
 ·simp only [cond_false]
  have hne: ¬(b.re=0∧b.im=0):=by
   intro h;rw [h.1,h.2] at h0;simp at h0
  have hn:=AA6 ha hb hne
  have hni:=UN (Fz.im hb) hb.im
  have hia:(-b.im).natAbs≤16777216:=by have:=hb.imA;omega
  obtain ⟨p1,p2,hp,q1,q2,l1,l2⟩:=UM (Fz.re ha) (Fz.im ha) (Fz.re hb) hni ha.reA ha.imA hb.reA hia
  obtain ⟨n1,n2,hm,q3,_,l3,_⟩:=UM (Fz.re hb) (Fz.im hb) (Fz.re hb) hni hb.reA hb.imA hb.reA hia
  have e1:a.re*b.re - a.im* -b.im=a.re*b.re+a.im*b.im:=by rw [Int.mul_neg];omega
  have e2:a.re* -b.im+a.im*b.re=a.im*b.re - a.re*b.im:=by rw [Int.mul_neg];omega
  have e3:b.re*b.re - b.im* -b.im=b.re*b.re+b.im*b.im:=by rw [Int.mul_neg];omega
  rw [e1] at q1 l1;rw [e2] at q2 l2;rw [e3] at q3 l3
  have ep:cmul (rn a) ((rn b).1,Op.negFloat .f64 (rn b).2)=some (p1,p2):=hp
  have em:cmul (rn b) ((rn b).1,Op.negFloat .f64 (rn b).2)=some (n1,n2):=hm
  obtain ⟨z1,hz1,w1⟩:=X3 hN q1 q3 (by omega) hn (by omega)
  obtain ⟨z2,hz2,w2⟩:=X3 hN q2 q3 (by omega) hn (by omega)
  have b1:=WO (a.re*b.re+a.im*b.im) (b.re*b.re+b.im*b.im)
  have b2:=WO (a.im*b.re - a.re*b.im) (b.re*b.re+b.im*b.im)
  simp only [ep,em,Option.bind_some,hz1,hz2]
  rw [w1.fne fz0 (by omega) (by decide),w2.fne fz0 (by omega) (by decide)]
  unfold Kc quo
  simp only
  cases h1:decide ((a.re*b.re+a.im*b.im).tmod (b.re*b.re+b.im*b.im)=0)
  ·have h1:=Df h1
   rw [if_pos (.inr (.inl h1))]
   rfl
  ·have h1:=CD h1
   simp only [Bool.not_true,cond_false]
   cases h2:decide ((a.im*b.re - a.re*b.im).tmod (b.re*b.re+b.im*b.im)=0)
   ·have h2:=Df h2
    rw [if_pos (.inr (.inr h2))]
    rfl
   ·have h2:=CD h2
    rw [if_neg (by rintro (h|h|h)<;>omega)]
    simp only [Bool.not_true,cond_false]
    have c1:a.re*b.re+a.im*b.im=(a.re*b.re+a.im*b.im).tdiv (b.re*b.re+b.im*b.im)*(b.re*b.re+b.im*b.im):=by
     have:=Int.tmod_add_tdiv_mul (a.re*b.re+a.im*b.im) (b.re*b.re+b.im*b.im);omega
    have c2:a.im*b.re - a.re*b.im=(a.im*b.re - a.re*b.im).tdiv (b.re*b.re+b.im*b.im)*(b.re*b.re+b.im*b.im):=by
     have:=Int.tmod_add_tdiv_mul (a.im*b.re - a.re*b.im) (b.re*b.re+b.im*b.im);omega
    obtain ⟨d1,hd1,v1⟩:=X4 q1 q3 (by omega) hn (by omega) c1
    obtain ⟨d2,hd2,v2⟩:=X4 q2 q3 (by omega) hn (by omega) c2
    have k1:=RN (a.re*b.re+a.im*b.im) (b.re*b.re+b.im*b.im)
    have k2:=RN (a.im*b.re - a.re*b.im) (b.re*b.re+b.im*b.im)
    simp only [hd1,hd2,Option.bind_some,OY v1 v2 (by omega) (by omega)]
 ·simp only [Bool.and_eq_true,decide_eq_true_eq] at h0
  unfold quo
  simp only
  rw [if_pos (.inl (by rw [h0.1,h0.2];rfl))]
  rfl
theorem ZV:Oj a b=some (quo a b):=by
 have m1:=Kn hb.reA hb.reA
 have m2:=Kn hb.imA hb.imA
 have m3:=Kn ha.reA hb.reA
 have m4:=Kn ha.imA hb.imA
 have m5:=Kn ha.imA hb.reA
 have m6:=Kn ha.reA hb.imA
 unfold Oj Ld
 rw [wr (x:=b.re*b.re) (by omega) (by omega),wr (x:=b.im*b.im) (by omega) (by omega),wr (x:=a.re*b.re) (by omega) (by omega),wr (x:=a.im*b.im) (by omega) (by omega),wr (x:=a.im*b.re) (by omega) (by omega),wr (x:=a.re*b.im) (by omega) (by omega),
  wr (x:=b.re*b.re+b.im*b.im) (by omega) (by omega),wr (x:=a.re*b.re+a.im*b.im) (by omega) (by omega),wr (x:=a.im*b.re - a.re*b.im) (by omega) (by omega)]
 have k1:=RN (a.re*b.re+a.im*b.im) (b.re*b.re+b.im*b.im)
 have k2:=RN (a.im*b.re - a.re*b.im) (b.re*b.re+b.im*b.im)
 rw [wr (x:=(a.re*b.re+a.im*b.im).tdiv (b.re*b.re+b.im*b.im)) (by omega) (by omega),wr (x:=(a.im*b.re - a.re*b.im).tdiv (b.re*b.re+b.im*b.im)) (by omega) (by omega)]
 unfold quo
 simp only
 cases h0:(b.re*b.re+b.im*b.im==0)
 ·have h0:=BY h0
  have hnz:nz (b.re*b.re+b.im*b.im)=some ():=by rw [nz,if_neg h0]
  simp only [cond_false,hnz,Option.bind_some]
  cases h1:((a.re*b.re+a.im*b.im).tmod (b.re*b.re+b.im*b.im) != 0)
  ·have h1:=Iu h1
   simp only [cond_false]
   cases h2:((a.im*b.re - a.re*b.im).tmod (b.re*b.re+b.im*b.im) != 0)
   ·have h2:=Iu h2
    rw [if_neg (by rintro (h|h|h)<;>contradiction),WJ]
    rfl
   ·have h2:=J8 h2
    rw [if_pos (.inr (.inr h2))];rfl
  ·have h1:=J8 h1
   rw [if_pos (.inr (.inl h1))];rfl
 ·have h0:=Bu h0
  rw [if_pos (.inl h0)];rfl
end
end Fth
namespace Fth
open Go
def VV(t:Int)(v:AG):Prop:=
 (t=1∧v.type_=1∧Gn v.num∧v.bool=false∧v.list=[])∨(t=2∧v.type_=2∧v.num=(0,0)∧v.list=[])∨
 (t=3∧v.type_=3∧v.num=(0,0)∧v.bool=false∧∀z∈v.list,Gn z)
def GV(v:AG):Prop:=Gn v.num∧(∀z∈v.list,Gn z)∧v.list.length≤1000000000000
def chk(v:AG):Bool:=
 bif v.type_==1 then !v.bool&&v.list.isEmpty else bif v.type_==2 then decide (v.num=(0,0))&&v.list.isEmpty else bif v.type_==3 then decide (v.num=(0,0))&& !v.bool else false
theorem gn0:Gn (0,0):=⟨0,0,⟨z0,by decide,by decide⟩,⟨z0,by decide,by decide⟩⟩
theorem X5{v:AG}(h:GV v):chk v=true↔VV v.type_ v:=by
 obtain ⟨h1,h2,_⟩:=h
 unfold chk VV
 cases e1:(v.type_==1)
 ·have e1:=BY e1
  cases e2:(v.type_==2)
  ·have e2:=BY e2
   cases e3:(v.type_==3)
   ·have e3:=BY e3
    simp [e1,e2,e3]
   ·have e3:=Bu e3
    simp [e3];intro _ _;exact fun z w hz=>h2 (z,w) hz
  ·have e2:=Bu e2
   simp [e2]
 ·have e1:=Bu e1
  simp [e1,h1]
theorem VV.gv{t:Int}{v:AG}(h:VV t v)(hl:v.list.length≤1000000000000):GV v:=by
 rcases h with ⟨_,_,h,_,h'⟩| ⟨_,_,h,h'⟩| ⟨_,_,h,_,h'⟩
 ·exact ⟨h,by rw [h'];simp,hl⟩
 ·exact ⟨by rw [h];exact gn0,by rw [h'];simp,hl⟩
 ·exact ⟨by rw [h];exact gn0,h',hl⟩
theorem VV.type{t:Int}{v:AG}(h:VV t v):v.type_=t:=by
 rcases h with ⟨h1,h2,_⟩| ⟨h1,h2,_⟩| ⟨h1,h2,_⟩<;>rw [h1,h2]
theorem ABV{z:Nat×Nat}(h:Gn z):ceq z (0,0)=decide (z=(0,0)):=by
 obtain ⟨n,hn,rfl⟩:=(QS z).1 h
 have e1:=(Fz.re hn).feq fz0 hn.re (by decide)
 have e2:=(Fz.im hn).feq fz0 hn.im (by decide)
 rw [ceq]
 dsimp only
 rw [e1,e2,Bool.eq_iff_iff]
 simp only [Bool.and_eq_true,decide_eq_true_eq]
 constructor
 ·rintro ⟨h1,h2⟩
  rw [rn,h1,h2,Om]
 ·intro h
  have h1:FloatKind.f64.nearest n.re=0:=congrArg Prod.fst h
  have h2:FloatKind.f64.nearest n.im=0:=congrArg Prod.snd h
  have f0:feq 0 0=true:=by decide
  have k1:(rn n).1=0:=h1
  have k2:(rn n).2=0:=h2
  rw [k1,f0] at e1
  rw [k2,f0] at e2
  exact ⟨CD e1.symm,CD e2.symm⟩
theorem U5{z:Nat×Nat}(h:Gn z):Bh z=some true:=by
 obtain ⟨n,hn,rfl⟩:=(QS z).1 h
 exact JC hn
theorem My{N:Nat}{v:AG}(h:GV v)(hN:v.list.length+2≤N):Cw N v=some (bif chk v then 0 else 3):=by
 obtain ⟨h1,h2,h3⟩:=h
 have loop: ∀(k:Nat) (b:Bool) (i:Nat),i≤v.list.length→v.list.length<i+k→Hr v k b (i:Int)=some (bif b then 0 else 3):=by
  intro k
  induction k with
  |zero=>intro b i _ _;omega
  |succ k ih=>
   intro b i hi hk
   show I5 v (Hr v k) b i=_
   unfold I5 JW D2
   cases hc:decide ((i:Int)< (v.list.length:Int))
   ·rw [cond_false];cases b<;>rfl
   ·have hc:=CD hc
    obtain ⟨z,hz,hz'⟩:=Er (xs:=v.list) (i:=(i:Int)) (by omega) hc
    rw [cond_true,hz,Option.bind_some,wr (by omega) (by omega),show (i:Int)+1=((i+1:Nat):Int) by omega]
    have hg:=h2 z (List.mem_of_getElem? hz')
    rw [U5 hg,Option.bind_some]
    cases b
    ·exact ih false (i+1) (by omega) (by omega)
    ·exact ih true (i+1) (by omega) (by omega)
 have loop0:=fun b=>loop N b 0 (by omega) (by omega)
 have he:((v.list.length:Int)==0)=v.list.isEmpty:=by cases v.list<;>simp;omega
 unfold Cw D2 Ie chk
 rw [U5 h1,Option.bind_some,ABV h1,he]
 cases e1:(v.type_==1)
 ·rw [cond_false,cond_false]
  cases e2:(v.type_==2)
  ·rw [cond_false,cond_false]
   cases e3:(v.type_==3)
   ·rfl
   ·rw [cond_true,cond_true,Option.bind_some,cond_true]
    cases decide (v.num=(0,0))
    ·exact loop0 false
    ·exact loop0 (!v.bool)
  ·rw [cond_true,cond_true,Option.bind_some,cond_true]
   cases decide (v.num=(0,0))
   ·rfl
   ·cases v.list.isEmpty<;>rfl
 ·rw [cond_true,cond_true,cond_true]
  cases v.bool
  ·cases v.list.isEmpty<;>rfl
  ·rfl
theorem LI{N:Nat}{v:AG}(h:GV v)(hN:v.list.length+2≤N):Bq N v=some (chk v):=by
 obtain ⟨h1,h2,h3⟩:=h
 have he:((v.list.length:Int)==0)=v.list.isEmpty:=by cases v.list<;>simp;omega
 have loop: ∀(k:Nat) (i:Nat),i≤v.list.length→v.list.length<i+k→EN v k true (i:Int)=some (chk v):=by
  intro k
  induction k with
  |zero=>intro i _ _;omega
  |succ k ih=>
   intro i hi hk
   show Ec v (EN v k) true i=_
   unfold Ec Gu IW IX IY
   cases hc:decide ((i:Int)< (v.list.length:Int))
   ·rw [cond_false,ABV h1,he]
    unfold chk
    cases e1:(v.type_==1)
    ·rw [cond_false,cond_false]
     cases e2:(v.type_==2)
     ·rw [cond_false,cond_false]
      cases e3:(v.type_==3)
      ·rfl
      ·cases decide (v.num=(0,0))<;>rfl
     ·cases decide (v.num=(0,0))<;>rfl
    ·cases v.bool<;>rfl
   ·have hc:=CD hc
    obtain ⟨z,hz,hz'⟩:=Er (xs:=v.list) (i:=(i:Int)) (by omega) hc
    rw [cond_true,hz,Option.bind_some,wr (by omega) (by omega),show (i:Int)+1=((i+1:Nat):Int) by omega]
    obtain ⟨n,_,_,hn⟩:=Xw (h2 z (List.mem_of_getElem? hz'))
    rw [hn,Option.bind_some,cond_true]
    exact ih (i+1) (by omega) (by omega)
 obtain ⟨n,_,_,hn⟩:=Xw h1
 unfold Bq
 rw [hn,Option.bind_some]
 exact loop N 0 (by omega) (by omega)
def v0:AG:=⟨0,(0,0),false,[]⟩
def nv(x:Ad×Int):AG×Int:=if x.2=0 then (⟨1,rn x.1,false,[]⟩,0) else (v0,x.2)
theorem ZW(x:Ad×Int):Di (rn x.1) x.2=some (nv x):=by
 unfold Di nv
 cases h:(x.2 != 0)
 ·rw [if_pos (Iu h)];rfl
 ·rw [if_neg (J8 h)];rfl
theorem UP(x:Ad×Int):EC x.1 x.2=some (nv x):=by
 unfold EC nv
 cases h:(x.2 != 0)
 ·rw [if_pos (Iu h)];rfl
 ·rw [if_neg (J8 h)];rfl
def two(op:Int)(a b:Ad):AG×Int:=
 if op=8 then nv (inn ⟨a.re+b.re,a.im+b.im⟩) else if op=9 then nv (inn ⟨a.re - b.re,a.im - b.im⟩)
 else if op=10 then nv (inn ⟨a.re*b.re - a.im*b.im,a.re*b.im+a.im*b.re⟩) else if op=11 then nv (quo a b)
 else if op=12 then (⟨2,(0,0),decide (a.re=b.re)&&decide (a.im=b.im),[]⟩,0)
 else (⟨2,(0,0),decide (a.re<b.re)||(decide (a.re=b.re)&&decide (a.im<b.im)),[]⟩,0)
theorem X6{N:Nat}{op:Int}{a b:Ad}(hN:2^54≤N)(ha:Gc a)(hb:Gc b):I7 N op (rn a) (rn b)=some (two op a b):=by
 unfold I7 two
 rw [AA2 ha hb,AA3 ha hb,AA4 ha hb,AA7 ha hb hN,Xx ha hb,ZO ha hb]
 simp only [Option.bind_some,ZW]
 cases h1:(op==8)
 ·rw [if_neg (BY h1)]
  cases h2:(op==9)
  ·rw [if_neg (BY h2)]
   cases h3:(op==10)
   ·rw [if_neg (BY h3)]
    cases h4:(op==11)
    ·rw [if_neg (BY h4)]
     cases h5:(op==12)
     ·rw [if_neg (BY h5)];rfl
     ·rw [if_pos (Bu h5)];rfl
    ·rw [if_pos (Bu h4)];rfl
   ·rw [if_pos (Bu h3)];rfl
  ·rw [if_pos (Bu h2)];rfl
 ·rw [if_pos (Bu h1)];rfl
section
variable{a b:Ad}(ha:Gc a)(hb:Gc b)
include ha hb
theorem ZX:Og a b=some (inn ⟨a.re+b.re,a.im+b.im⟩):=by
 obtain ⟨⟨h1,h2⟩,h3,h4⟩:=ha
 obtain ⟨⟨h5,h6⟩,h7,h8⟩:=hb
 unfold Og
 rw [wr (by omega) (by omega),wr (by omega) (by omega),WJ];rfl
theorem ZY:Oh a b=some (inn ⟨a.re - b.re,a.im - b.im⟩):=by
 obtain ⟨⟨h1,h2⟩,h3,h4⟩:=ha
 obtain ⟨⟨h5,h6⟩,h7,h8⟩:=hb
 unfold Oh
 rw [wr (by omega) (by omega),wr (by omega) (by omega),WJ];rfl
theorem ZZ:Oi a b=some (inn ⟨a.re*b.re - a.im*b.im,a.re*b.im+a.im*b.re⟩):=by
 have m3:=Kn ha.reA hb.reA
 have m4:=Kn ha.imA hb.imA
 have m5:=Kn ha.imA hb.reA
 have m6:=Kn ha.reA hb.imA
 unfold Oi
 rw [wr (x:=a.re*b.re) (by omega) (by omega),wr (x:=a.im*b.im) (by omega) (by omega),wr (x:=a.im*b.re) (by omega) (by omega),wr (x:=a.re*b.im) (by omega) (by omega),wr (by omega) (by omega),wr (by omega) (by omega),WJ];rfl
theorem X7:M8 a b=some (decide (a.re<b.re)||(decide (a.re=b.re)&&decide (a.im<b.im))):=by
 unfold M8 LC
 have e:(a.re==b.re)=decide (a.re=b.re):=by rw [Bool.eq_iff_iff];simp
 rw [e]
 cases decide (a.re<b.re)
 ·cases decide (a.re=b.re)<;>rfl
 ·rfl
end
theorem X8{op:Int}(h:8≤op∧op≤13):HJ op=some (2,1)∧MO op=some (2,1):=by
 have:op=8∨op=9∨op=10∨op=11∨op=12∨op=13:=by omega
 rcases this with rfl|rfl|rfl|rfl|rfl|rfl<;>exact ⟨rfl,rfl⟩
theorem X9{op:Int}(h:15≤op∧op≤17):HJ op=some (1,1)∧MO op=some (1,1):=by
 have:op=15∨op=16∨op=17:=by omega
 rcases this with rfl|rfl|rfl<;>exact ⟨rfl,rfl⟩
def CY(a:Ad):AG:=⟨1,rn a,false,[]⟩
theorem Wz{a:Ad}(ha:Gc a):GV (CY a):=⟨.of ha,by simp [CY],by simp [CY]⟩
theorem TX(a:Ad):chk (CY a)=true:=rfl
def IE(c:Bool):AG:=⟨2,(0,0),c,[]⟩
theorem Za(b:Bool):GV (IE b):=⟨gn0,by simp [IE],by simp [IE]⟩
theorem AA8{N:Nat}{op:Int}{a b:Ad}(hN:2^54≤N)(h:8≤op∧op≤13)(ha:Gc a)(hb:Gc b):
  Dq N op [CY a,CY b]=some (two op a b)∧GB N op [CY a,CY b]=some (two op a b):=by
 obtain ⟨M,rfl⟩: ∃M,N=M+3:=⟨N - 3,by omega⟩
 have c1:Cw (M+3) (CY a)=some 0:=by rw [My (Wz ha) (by simp [CY]),TX];rfl
 have c2:Cw (M+3) (CY b)=some 0:=by rw [My (Wz hb) (by simp [CY]),TX];rfl
 have d1:Bq (M+3) (CY a)=some true:=by rw [LI (Wz ha) (by simp [CY]),TX]
 have d2:Bq (M+3) (CY b)=some true:=by rw [LI (Wz hb) (by simp [CY]),TX]
 have o1:EA (CY a).num=some (a,true):=TW ha
 have o2:EA (CY b).num=some (b,true):=TW hb
 constructor
 ·unfold Dq
  rw [(X8 h).1,Option.bind_some]
  show CQ (M+3) op [CY a,CY b] (2,1) (DH (M+3) op [CY a,CY b] (2,1) (M+2)) 0=_
  unfold CQ
  show (Cw (M+3) (CY a)).bind (fun x208=>He 0 (DH (M+3) op [CY a,CY b] (2,1) (M+2)) (x208 != 0))=_
  rw [c1,Option.bind_some]
  show CQ (M+3) op [CY a,CY b] (2,1) (DH (M+3) op [CY a,CY b] (2,1) (M+1)) 1=_
  unfold CQ
  show (Cw (M+3) (CY b)).bind (fun x208=>He 1 (DH (M+3) op [CY a,CY b] (2,1) (M+1)) (x208 != 0))=_
  rw [c2,Option.bind_some]
  show CQ (M+3) op [CY a,CY b] (2,1) (DH (M+3) op [CY a,CY b] (2,1) M) 2=_
  unfold CQ
  have hop:(op==14)=false∧(op==15)=false∧(op==16)=false∧(op==17)=false:=by
   refine ⟨?_,?_,?_,?_⟩<;>(simp;omega)
  rw [hop.1,hop.2.1,hop.2.2.1,hop.2.2.2]
  show (I7 (M+3) op (rn a) (rn b)).bind (fun x321=>some (x321.1,x321.2))=_
  rw [X6 hN ha hb];rfl
 ·unfold GB
  rw [(X8 h).2,Option.bind_some]
  show CW (M+3) op [CY a,CY b] (2,1) (Bg (M+3) op [CY a,CY b] (2,1) (M+2)) true [] 0=_
  unfold CW
  show (Bq (M+3) (CY a)).bind (fun x412=>bif x412 then (FI [CY a,CY b] [] 0 (Bg (M+3) op [CY a,CY b] (2,1) (M+2)) true) else (FI [CY a,CY b] [] 0 (Bg (M+3) op [CY a,CY b] (2,1) (M+2)) false))=_
  rw [d1,Option.bind_some,cond_true]
  show (EA (CY a).num).bind (fun x354=>(GD 16 ([]:List Ad) [x354.1]).bind fun _=>Bg (M+3) op [CY a,CY b] (2,1) (M+2) true ([]++[x354.1]) (IntKind.i64.wrap (0+1)))=_
  rw [o1,Option.bind_some]
  show CW (M+3) op [CY a,CY b] (2,1) (Bg (M+3) op [CY a,CY b] (2,1) (M+1)) true [a] 1=_
  unfold CW
  show (Bq (M+3) (CY b)).bind (fun x412=>bif x412 then (FI [CY a,CY b] [a] 1 (Bg (M+3) op [CY a,CY b] (2,1) (M+1)) true) else (FI [CY a,CY b] [a] 1 (Bg (M+3) op [CY a,CY b] (2,1) (M+1)) false))=_
  rw [d2,Option.bind_some,cond_true]
  show (EA (CY b).num).bind (fun x354=>(GD 16 [a] [x354.1]).bind fun _=>Bg (M+3) op [CY a,CY b] (2,1) (M+1) true ([a]++[x354.1]) (IntKind.i64.wrap (1+1)))=_
  rw [o2,Option.bind_some]
  show CW (M+3) op [CY a,CY b] (2,1) (Bg (M+3) op [CY a,CY b] (2,1) M) true [a,b] 2=_
  unfold CW two
  have e:(a.re==b.re&&a.im==b.im)=(decide (a.re=b.re)&&decide (a.im=b.im)):=by rw [Bool.eq_iff_iff];simp
  have hh:op=8∨op=9∨op=10∨op=11∨op=12∨op=13:=by omega
  rcases hh with rfl|rfl|rfl|rfl|rfl|rfl
  ·show ((Og a b).bind fun x504=>(EC x504.1 x504.2).bind fun x511=>some (x511.1,x511.2))=_
   rw [ZX ha hb,Option.bind_some,UP];rfl
  ·show ((Oh a b).bind fun x504=>(EC x504.1 x504.2).bind fun x511=>some (x511.1,x511.2))=_
   rw [ZY ha hb,Option.bind_some,UP];rfl
  ·show ((Oi a b).bind fun x504=>(EC x504.1 x504.2).bind fun x511=>some (x511.1,x511.2))=_
   rw [ZZ ha hb,Option.bind_some,UP];rfl
  ·show ((Oj a b).bind fun x504=>(EC x504.1 x504.2).bind fun x511=>some (x511.1,x511.2))=_
   rw [ZV ha hb,Option.bind_some,UP];rfl
  ·show some ((⟨2,(0,0),(a.re==b.re&&a.im==b.im),[]⟩:AG),(0:Int))=_
   rw [e];rfl
  ·show ((M8 a b).bind fun x1013=>(MP x1013).bind fun x1018=>some (x1018.1,x1018.2))=_
   rw [X7 ha hb];rfl
theorem WQ{op:Int}(h:op=14):HJ op=some (1,2)∧MO op=some (1,2):=by subst h;exact ⟨rfl,rfl⟩
theorem AA9{N:Nat}{c:Bool}{op:Int}(h:op=14)(hN:10≤N):Dq N op [IE c]=some (IE !c,0):=by
 obtain ⟨M,rfl⟩: ∃M,N=M+3:=⟨N - 3,by omega⟩
 clear hN
 have c1:Cw (M+3) (IE c)=some 0:=by rw [My (Za c) (by simp [IE])];rfl
 have d1:Bq (M+3) (IE c)=some true:=by rw [LI (Za c) (by simp [IE])];rfl
 have o1:EA (IE c).num=some (⟨0,0⟩,true):=TW (n:=⟨0,0⟩) ⟨⟨by decide,by decide⟩,by decide,by decide⟩
 unfold Dq
 rw [(WQ h).1,Option.bind_some]
 show CQ (M+3) op [IE c] (1,2) (DH (M+3) op [IE c] (1,2) (M+2)) 0=_
 unfold CQ
 show (Cw (M+3) (IE c)).bind (fun x208=>He 0 (DH (M+3) op [IE c] (1,2) (M+2)) (x208 != 0))=_
 rw [c1,Option.bind_some]
 show CQ (M+3) op [IE c] (1,2) (DH (M+3) op [IE c] (1,2) (M+1)) 1=_
 unfold CQ
 have h1:decide ((1:Int)< (([IE c].length:Nat):Int))=false:=rfl
 have h2:idx [IE c] 0=some (IE c):=rfl
 have h3:(op==14)=true:=by rw [h];rfl
 rw [h1,cond_false,h2,Option.bind_some,h3,cond_true]
 rfl
theorem ABW{N:Nat}{c:Bool}{op:Int}(h:op=14)(hN:10≤N):GB N op [IE c]=some (IE !c,0):=by
 obtain ⟨M,rfl⟩: ∃M,N=M+3:=⟨N - 3,by omega⟩
 clear hN
 have c1:Cw (M+3) (IE c)=some 0:=by rw [My (Za c) (by simp [IE])];rfl
 have d1:Bq (M+3) (IE c)=some true:=by rw [LI (Za c) (by simp [IE])];rfl
 have o1:EA (IE c).num=some (⟨0,0⟩,true):=TW (n:=⟨0,0⟩) ⟨⟨by decide,by decide⟩,by decide,by decide⟩
 unfold GB
 rw [(WQ h).2,Option.bind_some]
 show CW (M+3) op [IE c] (1,2) (Bg (M+3) op [IE c] (1,2) (M+2)) true [] 0=_
 unfold CW
 show (Bq (M+3) (IE c)).bind (fun x412=>bif x412 then (FI [IE c] [] 0 (Bg (M+3) op [IE c] (1,2) (M+2)) true) else (FI [IE c] [] 0 (Bg (M+3) op [IE c] (1,2) (M+2)) false))=_
 rw [d1,Option.bind_some,cond_true]
 show (EA (IE c).num).bind (fun x354=>(GD 16 ([]:List Ad) [x354.1]).bind fun _=>Bg (M+3) op [IE c] (1,2) (M+2) true ([]++[x354.1]) (IntKind.i64.wrap (0+1)))=_
 rw [o1,Option.bind_some]
 show CW (M+3) op [IE c] (1,2) (Bg (M+3) op [IE c] (1,2) (M+1)) true [⟨0,0⟩] 1=_
 unfold CW
 have h1:decide ((1:Int)< ((1,2):Int×Int).1)=false:=rfl
 rw [cond_true,h1]
 unfold Lw
 have h2:idx [IE c] 0=some (IE c):=rfl
 have h3:(op==14)=true:=by rw [h];rfl
 have k1:(op==8)=false:=by rw [h];rfl
 have k2:(op==9)=false:=by rw [h];rfl
 have k3:(op==10)=false:=by rw [h];rfl
 have k4:(op==11)=false:=by rw [h];rfl
 have k5:(op==12)=false:=by rw [h];rfl
 have k6:(op==13)=false:=by rw [h];rfl
 rw [cond_false,Bool.not_true,cond_false,k1,cond_false,k2,cond_false,k3,cond_false,k4,cond_false,k5,cond_false,k6,cond_false,h3,cond_true,h2,Option.bind_some]
 rfl
theorem Zb{N:Nat}{c:Bool}(hN:2^54≤N):Dq N 14 [IE c]=some (IE !c,0)∧GB N 14 [IE c]=some (IE !c,0):=⟨AA9 rfl (by omega),ABW rfl (by omega)⟩
theorem nv0(x:Int):CY ⟨x,0⟩=⟨1,(FloatKind.f64.nearest x,0),false,[]⟩:=by rw [CY,rn,Om]
def uno(op:Int)(a:Ad):AG×Int:=(CY (if op=15 then ⟨a.re,0⟩ else if op=16 then ⟨a.im,0⟩ else ⟨a.re,-a.im⟩),0)
theorem ABA{N:Nat}{op:Int}{a:Ad}(hN:2^54≤N)(h:15≤op∧op≤17)(ha:Gc a):Dq N op [CY a]=some (uno op a)∧GB N op [CY a]=some (uno op a):=by
 obtain ⟨M,rfl⟩: ∃M,N=M+3:=⟨N - 3,by omega⟩
 have c1:Cw (M+3) (CY a)=some 0:=by rw [My (Wz ha) (by simp [CY]),TX];rfl
 have d1:Bq (M+3) (CY a)=some true:=by rw [LI (Wz ha) (by simp [CY]),TX]
 have o1:EA (CY a).num=some (a,true):=TW ha
 have hh:op=15∨op=16∨op=17:=by omega
 constructor
 ·unfold Dq
  rw [(X9 h).1,Option.bind_some]
  show CQ (M+3) op [CY a] (1,1) (DH (M+3) op [CY a] (1,1) (M+2)) 0=_
  unfold CQ
  show (Cw (M+3) (CY a)).bind (fun x208=>He 0 (DH (M+3) op [CY a] (1,1) (M+2)) (x208 != 0))=_
  rw [c1,Option.bind_some]
  show CQ (M+3) op [CY a] (1,1) (DH (M+3) op [CY a] (1,1) (M+1)) 1=_
  unfold CQ uno
  rcases hh with rfl|rfl|rfl
  ·rw [if_pos rfl,nv0];rfl
  ·rw [if_neg (by decide),if_pos rfl,nv0];rfl
  ·rw [if_neg (by decide),if_neg (by decide)]
   show ((HK (rn a)).bind fun x279=>(Di x279.1 x279.2).bind fun x284=>some (x284.1,x284.2))=_
   rw [ZP ha];rfl
 ·unfold GB
  rw [(X9 h).2,Option.bind_some]
  show CW (M+3) op [CY a] (1,1) (Bg (M+3) op [CY a] (1,1) (M+2)) true [] 0=_
  unfold CW
  show (Bq (M+3) (CY a)).bind (fun x412=>bif x412 then (FI [CY a] [] 0 (Bg (M+3) op [CY a] (1,1) (M+2)) true) else (FI [CY a] [] 0 (Bg (M+3) op [CY a] (1,1) (M+2)) false))=_
  rw [d1,Option.bind_some,cond_true]
  show (EA (CY a).num).bind (fun x354=>(GD 16 ([]:List Ad) [x354.1]).bind fun _=>Bg (M+3) op [CY a] (1,1) (M+2) true ([]++[x354.1]) (IntKind.i64.wrap (0+1)))=_
  rw [o1,Option.bind_some]
  show CW (M+3) op [CY a] (1,1) (Bg (M+3) op [CY a] (1,1) (M+1)) true [a] 1=_
  unfold CW uno
  rcases hh with rfl|rfl|rfl
  ·rw [if_pos rfl];rfl
  ·rw [if_neg (by decide),if_pos rfl];rfl
  ·rw [if_neg (by decide),if_neg (by decide)]
   show ((EC ⟨a.re,IntKind.i64.wrap (0 - a.im)⟩ 0).bind fun x1213=>some (x1213.1,x1213.2))=_
   have:=ha.imA
   rw [wr (by omega) (by omega),Int.zero_sub];rfl
def Res(t:Int)(r:AG×Int):Prop:=(r.2=0∧VV t r.1)∨((r.2=50∨r.2=51)∧r.1=v0)
theorem ABB{a:Ad}(h:Gc a):VV 1 (CY a):= .inl ⟨rfl,rfl,.of h,rfl,rfl⟩
theorem UQ{x:Ad×Int}(h:(x.2=0∧Gc x.1)∨x.2=50∨x.2=51):Res 1 (nv x):=by
 unfold nv
 rcases h with ⟨h1,h2⟩|h
 ·rw [if_pos h1];exact .inl ⟨rfl,ABB h2⟩
 ·rw [if_neg (by omega)];exact .inr ⟨h,rfl⟩
theorem UR(n:Ad):((inn n).2=0∧Gc (inn n).1)∨(inn n).2=50∨(inn n).2=51:=by
 unfold inn
 rcases Decidable.em (Gc n) with h|h
 ·rw [if_pos h];exact .inl ⟨rfl,h⟩
 ·rw [if_neg h];exact .inr (.inl rfl)
theorem ABC(a b:Ad):((quo a b).2=0∧Gc (quo a b).1)∨(quo a b).2=50∨(quo a b).2=51:=by
 unfold quo
 simp only
 split
 ·exact .inr (.inr rfl)
 ·exact UR _
theorem W0(b:Bool):VV 2 ⟨2,(0,0),b,[]⟩:= .inr (.inl ⟨rfl,rfl,rfl,rfl⟩)
def opT(op:Int):Int:=if op=12∨op=13∨op=14 then 2 else 1
theorem vv1{v:AG}(h:VV 1 v): ∃a,Gc a∧v=CY a:=by
 rcases h with ⟨_,h1,h2,h3,h4⟩| ⟨h,_⟩| ⟨h,_⟩
 ·obtain ⟨n,hn,e⟩:=(QS _).1 h2
  refine ⟨n,hn,?_⟩
  cases v;simp only at h1 h2 h3 h4 e;rw [CY,h1,h3,h4,e]
 ·cases h
 ·cases h
theorem vv2{v:AG}(h:VV 2 v):v=⟨2,(0,0),v.bool,[]⟩:=by
 rcases h with ⟨h,_⟩| ⟨_,h1,h2,h3⟩| ⟨h,_⟩
 ·cases h
 ·cases v;simp only at h1 h2 h3;rw [h1,h2,h3]
 ·cases h
theorem U6{op:Int}{args:List AG}(h:(8≤op∧op≤13∧∃a b,VV 1 a∧VV 1 b∧args=[a,b])∨(op=14∧∃a,VV 2 a∧args=[a])∨(15≤op∧op≤17∧∃a,VV 1 a∧args=[a])):
  ∃r,Res (opT op) r∧∀N,2^54≤N→Dq N op args=some r∧GB N op args=some r:=by
 rcases h with ⟨h1,h2,x,y,hx,hy,rfl⟩| ⟨rfl,x,hx,rfl⟩| ⟨h1,h2,x,hx,rfl⟩
 ·obtain ⟨a,ha,rfl⟩:=vv1 hx
  obtain ⟨b,hb,rfl⟩:=vv1 hy
  refine ⟨two op a b,?_,fun N hN=>AA8 hN ⟨h1,h2⟩ ha hb⟩
  unfold two opT
  have hh:op=8∨op=9∨op=10∨op=11∨op=12∨op=13:=by omega
  rcases hh with rfl|rfl|rfl|rfl|rfl|rfl
  ·exact UQ (UR _)
  ·exact UQ (UR _)
  ·exact UQ (UR _)
  ·exact UQ (ABC a b)
  ·exact .inl ⟨rfl,W0 _⟩
  ·exact .inl ⟨rfl,W0 _⟩
 ·rw [vv2 hx]
  exact ⟨(IE !x.bool,0),.inl ⟨rfl,W0 _⟩,fun N hN=>Zb hN⟩
 ·obtain ⟨a,ha,rfl⟩:=vv1 hx
  refine ⟨uno op a,?_,fun N hN=>ABA hN ⟨h1,h2⟩ ha⟩
  have e:opT op=1:=by unfold opT;rw [if_neg (by omega)]
  rw [e]
  refine .inl ⟨rfl,ABB ?_⟩
  obtain ⟨⟨l1,l2⟩,l3,l4⟩:=ha
  split
  ·exact ⟨⟨l1,l2⟩,by simp,by simp⟩
  ·split
   ·exact ⟨⟨l3,l4⟩,by simp,by simp⟩
   ·exact ⟨⟨l1,l2⟩,by simp only;omega,by simp only;omega⟩
end Fth
namespace Fth
open Go
theorem YA{N:Nat}{t:List UInt8}(hl:t.length≤10000000)(hN:t.length+3≤N):T (FU N t) fun ws=>ws.length≤t.length+1∧∀w∈ws,w.length≤t.length:=by
 have key: ∀(k:Nat) (ws:List (List UInt8)) (f i:Int),0≤f→f≤i+1→0≤i→i≤t.length+1→(t.length:Int)+1 - i<k→ws.length≤i→(∀w∈ws,w.length≤t.length)→T (D0 t k ws f i) fun ws=>ws.length≤t.length+1∧∀w∈ws,w.length≤t.length:=by
  intro k
  induction k with
  |zero=>intro ws f i _ _ _ _ _;omega
  |succ k ih=>
   intro ws f i h1 h2 h3 h4 h5 h6 h7
   show T (Eb t (D0 t k) ws f i) _
   unfold Eb
   refine T.cond (fun h=>?_) fun h=>?_
   ·have h:=CD h
    have e1:IntKind.i64.wrap (i+1)=i+1:=wr (by omega) (by omega)
    have go: ∀b,T (Fo t ws f i (D0 t k) b) fun ws=>ws.length≤t.length+1∧∀w∈ws,w.length≤t.length:=by
     intro b
     unfold Fo Gt Gs
     rw [e1]
     refine T.cond (fun _=>ih _ _ _ h1 (by omega) (by omega) (by omega) (by omega) (by omega) h7) fun _=>T.cond (fun hgt=>?_) fun _=>ih _ _ _ (by omega) (by omega) (by omega) (by omega) (by omega) (by omega) h7
     have hgt:=CD hgt
     refine T.bind (Mr h1 (by omega) h) fun w hw=>T.bind (F1 (by omega) (by simp;omega)) fun _ _=>ih _ _ _ (by omega) (by omega) (by omega) (by omega) (by omega) (by simp;omega) fun x hx=>?_
     rcases List.mem_append.1 hx with hx|hx
     ·exact h7 x hx
     ·simp at hx;subst hx;subst hw;simp;omega
    exact T.cond (fun hi=>T.bind (Er h3 (CD hi)) fun c _=>go _) fun _=>go _
   ·have h:=Df h
    exact .some ⟨by omega,h7⟩
 exact key N [] 0 0 (by omega) (by omega) (by omega) (by omega) (by omega) (by simp) (by simp)
theorem TY{N:Nat}{z:Nat×Nat}(hN:40≤N)(h:Gn z):T (Du N z) fun s=>s.length≤100:=by
 obtain ⟨n,hn,rfl,ho⟩:=Xw h
 unfold Du
 exact T.eq ho (T.bind (WD hN hn.1.1 hn.1.2 hn.2.1 hn.2.2) fun s hs=> .some hs)
theorem YB{N:Nat}{v:AG}(h:GV v)(hl:v.list.length≤20000000)(hN:v.list.length+50≤N):T (Fp N v) fun _=>True:=by
 unfold Fp
 refine T.eq (LI h (by omega)) (T.cond (fun _=> .some trivial) fun _=>T.cond (fun _=>T.bind (TY (by omega) h.1) fun _ _=> .some trivial) fun _=>T.cond (fun _=>T.cond (fun _=> .some trivial) fun _=> .some trivial) fun _=>?_)
 have key: ∀(k:Nat) (s:List UInt8) (i:Int),0≤i→i≤v.list.length→(v.list.length:Int) - i<k→(s.length:Int)≤101*i→T (Ed N v k s i) fun _=>True:=by
  intro k
  induction k with
  |zero=>intro s i _ _ _;omega
  |succ k ih=>
   intro s i h0 h1 h2 h3
   show T (FC N v (Ed N v k) s i) _
   unfold FC
   refine T.cond (fun hi=>?_) fun _=>T.bind (LF (by simp;omega)) fun u hu=>T.bind (LF (by subst hu;simp;omega)) fun _ _=> .some trivial
   have hi:=CD hi
   have go: ∀s':List UInt8,(s'.length:Int)≤101*i+1→T (GY N v i (Ed N v k) s') fun _=>True:=by
    intro s' hs'
    unfold GY
    refine T.bind (Er h0 hi) fun z hz=>T.bind (TY (by omega) (h.2.1 z (List.mem_of_getElem? hz))) fun u hu=>T.bind (F1 (by omega) (by omega)) fun _ _=>?_
    rw [wr (by omega) (by omega)]
    exact ih _ _ (by omega) (by omega) (by omega) (by simp;omega)
   exact T.cond (fun _=>T.bind (F1 (by omega) (by simp;omega)) fun _ _=>go _ (by simp;omega)) fun _=>go _ (by omega)
 exact key N [] 0 (by omega) (by omega) (by omega) (by simp)
theorem W1{N:Nat}{t:List UInt8}(hl:t.length≤10000000)(hN:t.length+100≤N):T (E5 N t) fun x=>x.2=0→VV x.1.type_ x.1∧x.1.list.length≤t.length+1:=by
 have j1: ∀b,T (Fq N t b) fun x=>x.2=0→VV x.1.type_ x.1∧x.1.list.length≤t.length+1:=by
  intro b
  unfold Fq
  refine T.cond (fun _=> .some fun _=>⟨W0 _,by simp⟩) fun _=>T.bind (QR (by omega) (by omega)) fun x hx=>T.cond (fun h=>?_) fun _=>?_
  ·have hx:=hx (Bu h)
   refine .some (a:=_) fun _=>⟨ABB (a:=x.1) ⟨⟨hx.1,hx.2.1⟩,hx.2.2.1,hx.2.2.2⟩,by simp⟩
  ·have j2: ∀b,(b=false→2≤t.length)→T (FD N t x b) fun x=>x.2=0→VV x.1.type_ x.1∧x.1.list.length≤t.length+1:=by
    intro b hb
    unfold FD
    refine T.cond (fun _=> .some fun h=>by cases h) fun h=>?_
    have h2:=hb h
    rw [wr (by omega) (by omega)]
    refine T.bind (Mr (by omega) (by omega) (by omega)) fun u hu=>?_
    have hul:u.length≤t.length:=by subst hu;simp;omega
    refine T.bind (YA (by omega) (by omega)) fun ws hws=>?_
    have key: ∀(k:Nat) (i a b:Int) (l:List (Nat×Nat)),0≤i→i≤ws.length→(ws.length:Int) - i<k→(l.length:Int)=i→(∀z∈l,Gn z)→T (EO N t ws k i a b l) fun x=>x.2=0→VV x.1.type_ x.1∧x.1.list.length≤t.length+1:=by
     intro k
     induction k with
     |zero=>intro i a b l _ _ _;omega
     |succ k ih=>
      intro i a b l h0 h1 h3 h4 h5
      show T (Ee N t ws (EO N t ws k) i a b l) _
      unfold Ee
      refine T.cond (fun hi=>?_) fun _=>?_
      ·have hi:=CD hi
       refine T.bind (Er h0 hi) fun w hw=>?_
       have hwl:=hws.2 w (List.mem_of_getElem? hw)
       refine T.bind (QR (by omega) (by omega)) fun y hy=>T.cond (fun _=> .some fun h=>by cases h) fun h=>?_
       have hy:=hy (Iu h)
       refine T.bind (ABf hy) fun z hz=>T.bind (F1 (by omega) (by simp;omega)) fun _ _=>?_
       rw [wr (by omega) (by omega)]
       refine ih _ _ _ _ (by omega) (by omega) (by omega) (by simp;omega) fun q hq=>?_
       rcases List.mem_append.1 hq with hq|hq
       ·exact h5 q hq
       ·simp at hq;subst hq;exact hz
      ·have gv:GV ⟨3,(0,0),false,l⟩:=⟨gn0,h5,by simp only;omega⟩
       refine T.bind (YB gv (by simp only;omega) (by simp only;omega)) fun _ _=>T.cond (fun _=> .some fun h=>by cases h) fun _=> .some fun _=>⟨.inr (.inr ⟨rfl,rfl,rfl,rfl,h5⟩),by simp only;omega⟩
    exact key N 0 _ _ [] (by omega) (by omega) (by omega) (by simp) (by simp)
   refine T.cond (fun _=>j2 _ fun h=>by cases h) fun h=>?_
   have h:=Df h
   refine T.bind (Er (by omega) (by omega)) fun c _=>T.cond (fun _=>j2 _ fun h=>by cases h) fun _=>?_
   rw [wr (by omega) (by omega)]
   exact T.bind (Er (by omega) (by omega)) fun c _=>j2 _ fun _=>by omega
 unfold E5
 exact T.cond (fun _=>j1 _) fun _=>j1 _
def LV(l:List AG):Prop:=(∀v∈l,VV v.type_ v∧v.list.length≤1048577)∧l.length≤1048576
theorem YC{N:Nat}{t:List UInt8}(hl:t.length≤1048576)(hN:t.length+200≤N):T (FV N t) fun x=>x.2=0→LV x.1:=by
 have outer: ∀(k:Nat) (l:List AG) (i:Int),0≤i→i≤t.length→(t.length:Int) - i<k→(l.length:Int)≤i→(∀v∈l,VV v.type_ v∧v.list.length≤1048577)→T (CB N t k l i) fun x=>x.2=0→LV x.1:=by
  intro k
  induction k with
  |zero=>intro l i _ _ _;omega
  |succ k ih=>
   intro l i h0 h1 h2 h3 h4
   show T (Eh N t (CB N t k) l i) _
   unfold Eh
   refine T.cond (fun hi=>?_) fun hi=> .some fun _=>⟨h4,by have:=Df hi;simp only;omega⟩
   have hi:=CD hi
   refine T.bind (Er h0 hi) fun c hc=>T.cond (fun _=>?_) fun hb=>?_
   ·rw [wr (by omega) (by omega)]
    exact ih _ _ (by omega) (by omega) (by omega) (by omega) h4
   ·have hb:=BY hb
    refine T.bind (Er h0 hi) fun c' _=>?_
    have inner: ∀(j:Nat) (p:Int) (b:Bool),i≤p→p≤t.length→(t.length:Int) - p<j→(p=i∨i<p)→T (Dp N t l i (CB N t k) j p b) fun x=>x.2=0→LV x.1:=by
     intro j
     induction j with
     |zero=>intro p b _ _ _;omega
     |succ j ihj=>
      intro p b hp1 hp2 hp3 hp4
      show T (Eg N t l i (CB N t k) (Dp N t l i (CB N t k) j) p b) _
      unfold Eg
      have on:p<t.length→T (D1 N t l i (CB N t k) p b (Dp N t l i (CB N t k) j) true) fun x=>x.2=0→LV x.1:=by
       intro hp
       unfold D1 Gv
       rw [wr (x:=p+1) (by omega) (by omega)]
       refine T.cond (fun _=>T.bind (Er (by omega) hp) fun d _=>T.cond (fun _=>ihj _ _ (by omega) (by omega) (by omega) (by omega)) fun _=>ihj _ _ (by omega) (by omega) (by omega) (by omega)) fun h=>by cases h
      have off:i<p→T (D1 N t l i (CB N t k) p b (Dp N t l i (CB N t k) j) false) fun x=>x.2=0→LV x.1:=by
       intro hp
       unfold D1
       refine T.cond (fun h=>by cases h) fun _=>T.bind (Mr h0 (by omega) hp2) fun u hu=>?_
       have hul:u.length≤t.length:=by subst hu;simp;omega
       refine T.bind (W1 (by omega) (by omega)) fun x hx=>T.cond (fun _=> .some fun h=>by cases h) fun h=>?_
       have hx:=hx (Iu h)
       refine T.bind (F1 (by omega) (by simp;omega)) fun _ _=>ih _ _ (by omega) (by omega) (by omega) (by simp;omega) fun v hv=>?_
       rcases List.mem_append.1 hv with hv|hv
       ·exact h4 v hv
       ·simp at hv;subst hv;exact ⟨hx.1,by have:=hx.2;omega⟩
      refine T.cond (fun hp=>?_) fun hp=>?_
      ·have hp:=CD hp
       refine T.cond (fun _=>on hp) fun _=>T.bind (Er (by omega) hp) fun d hd=>?_
       cases hne:(((d.toNat:Nat):Int) != (((32:UInt8).toNat:Nat):Int))
       ·have hne:=Iu hne
        refine off ?_
        rcases hp4 with rfl|hp4
        ·rw [hd] at hc;cases hc;exact absurd hne hb
        ·exact hp4
       ·exact on hp
      ·have hp:=Df hp
       exact off (by omega)
    exact inner N i _ (by omega) (by omega) (by omega) (.inl rfl)
 exact outer N [] 0 (by omega) (by omega) (by omega) (by simp) (by simp)
theorem Zc{N:Nat}{a:Dy}(hl:a.args.length≤1048576)(hN:20000000≤N):T (Br N a) fun x=>x.2.2=true→WP x.1∧LV x.2.1:=by
 unfold Br Fr H6
 refine T.bind (P:=fun l=>l=⟨32768,32768,32768,32768⟩) (.some rfl) fun l hlm=>?_
 subst hlm
 refine T.bind (Ww (by omega) a.text) fun x hx=>T.bind (YC hl (by omega)) fun y hy=>T.cond (fun h=> .some fun h'=>?_) fun _=> .some fun h'=>by cases h'
 exact ⟨hx (Bu h),hy (Bu h')⟩
end Fth
namespace Fth
open Go
theorem Ev.up{p:Nat→Prop}(k:Nat)(h:Ev p):Ev fun N=>p (N+k):=let ⟨n,hn⟩:=h;⟨n,fun N hN=>hn _ (by omega)⟩
theorem Ev.down{p:Nat→Prop}(k:Nat)(h:Ev fun N=>p (N+k)):Ev p:=by
 obtain ⟨n,hn⟩:=h
 refine ⟨n+k,fun N hN=>?_⟩
 have:=hn (N - k) (by omega)
 dsimp only at this
 rwa [Nat.sub_add_cancel (by omega)] at this
def hd(p:AN)(nm:List UInt8):Option AK:=p.funcs.find? fun f=>f.name==nm
def fnd(nm:List UInt8):Nm→Option Th
 | .nil=>none
 | .bind n t o=>bif n==nm then some t else fnd nm o
 | .letrec n e o=>bif n==nm then some (.later e (.letrec n e o)) else fnd nm o
theorem RO{nm:List UInt8}{ρ:Nm}{th:Th}(h:fnd nm ρ=some th):Ev fun N=>DK N ρ nm=some th∧LH N ρ nm=some th:=by
 revert h
 refine Nm.rec (motive_1:=fun ρ=>fnd nm ρ=some th→Ev fun N=>DK N ρ nm=some th∧LH N ρ nm=some th) (motive_2:=fun _=>True) ?_ ?_ ?_ ?_ ?_ ?_ ρ
 ·intro h;cases h
 ·intro n t o _ ih h
  rw [fnd] at h
  cases hn:(n==nm)
  ·rw [hn] at h
   refine Ev.down 1 ((ih h).mono fun N hN=>?_)
   constructor
   ·show (bif !(n==nm) then Dw nm N o else some t)=_
    rw [hn];exact hN.1
   ·show (bif !(n==nm) then Ik nm N o else some t)=_
    rw [hn];exact hN.2
  ·rw [hn] at h
   refine Ev.down 1 (Ev.all fun N=>?_)
   constructor
   ·show (bif !(n==nm) then Dw nm N o else some t)=_
    rw [hn];exact h
   ·show (bif !(n==nm) then Ik nm N o else some t)=_
    rw [hn];exact h
 ·intro n e o ih h
  rw [fnd] at h
  cases hn:(n==nm)
  ·rw [hn] at h
   refine Ev.down 1 ((ih h).mono fun N hN=>?_)
   constructor
   ·show (bif !(n==nm) then Dw nm N o else some (.later e (.letrec n e o)))=_
    rw [hn];exact hN.1
   ·show (bif !(n==nm) then Ik nm N o else some (.later e (.letrec n e o)))=_
    rw [hn];exact hN.2
  ·rw [hn] at h
   refine Ev.down 1 (Ev.all fun N=>?_)
   constructor
   ·show (bif !(n==nm) then Dw nm N o else some (.later e (.letrec n e o)))=_
    rw [hn];exact h
   ·show (bif !(n==nm) then Ik nm N o else some (.later e (.letrec n e o)))=_
    rw [hn];exact h
 ·trivial
 ·intros;trivial
 ·intros;trivial
def Sg(ρ:Nm):List AH→List AD→Nm→Nm
 |x::ps,a::bs,acc=>Sg ρ ps bs (.bind x.name (.later a ρ) acc)
 |_,_,acc=>acc
def Ap(op:Int)(args:List AG)(r:AG×Int):Prop:=∀N,2^54≤N→Dq N op args=some r∧GB N op args=some r
def fin(r:AG×Int):Except Int Ak:=bif r.2 != 0 then .error r.2 else .ok ⟨r.1,.nil,.nil⟩
def plain(v:AG):Except Int Ak:= .ok ⟨v,.nil,.nil⟩
inductive Lk(p:AN)(m:Nat):Nat→AD→Nm→Except Int Ak→Nat→Prop
 |fuel {c e ρ} (h:m≤c):Lk p m c e ρ (.error 60) c
 |num {c e ρ} (h:c<m) (ho:e.op=1):Lk p m c e ρ (plain ⟨1,e.num,false,[]⟩) (c+1)
 |tru {c e ρ} (h:c<m) (ho:e.op=2):Lk p m c e ρ (plain ⟨2,(0,0),true,[]⟩) (c+1)
 |fls {c e ρ} (h:c<m) (ho:e.op=3):Lk p m c e ρ (plain ⟨2,(0,0),false,[]⟩) (c+1)
 |nil {c e ρ} (h:c<m) (ho:e.op=4):Lk p m c e ρ (plain ⟨3,(0,0),false,[]⟩) (c+1)
 |fail {c e ρ} (h:c<m) (ho:e.op=5):Lk p m c e ρ (.error 52) (c+1)
 |vdone {c e ρ x} (h:c<m) (ho:e.op=6) (hf:fnd e.name ρ=some (.done x.plain x.head x.tail)):Lk p m c e ρ (.ok x) (c+1)
 |vlater {c e ρ e' ρ' r c'} (h:c<m) (ho:e.op=6) (hf:fnd e.name ρ=some (.later e' ρ')) (h1:Lk p m (c+1) e' ρ' r c'):Lk p m c e ρ r c'
 |call {c e ρ f r c'} (h:c<m) (ho:e.op=7) (hf:hd p e.name=some f) (hl:f.params.length=e.args.length) (h1:Lk p m (c+1) f.body (Sg ρ f.params e.args .nil) r c'):Lk p m c e ρ r c'
 |cons {c e ρ a b} (h:c<m) (ho:e.op=18) (ha:e.args=[a,b]):Lk p m c e ρ (.ok ⟨v0,.later a ρ,.later b ρ⟩) (c+1)
 |ifE {c e ρ a b d y c'} (h:c<m) (ho:e.op=19) (ha:e.args=[a,b,d]) (h1:Lk p m (c+1) a ρ (.error y) c'):Lk p m c e ρ (.error y) c'
 |ifT {c e ρ a b d x c1 r c'} (h:c<m) (ho:e.op=19) (ha:e.args=[a,b,d]) (h1:Lk p m (c+1) a ρ (.ok x) c1) (hb:x.plain.bool=true) (h2:Lk p m c1 b ρ r c'):Lk p m c e ρ r c'
 |ifF {c e ρ a b d x c1 r c'} (h:c<m) (ho:e.op=19) (ha:e.args=[a,b,d]) (h1:Lk p m (c+1) a ρ (.ok x) c1) (hb:x.plain.bool=false) (h2:Lk p m c1 d ρ r c'):Lk p m c e ρ r c'
 |caE {c e ρ a b d y c'} (h:c<m) (ho:e.op=20) (ha:e.args=[a,b,d]) (h1:Lk p m (c+1) a ρ (.error y) c'):Lk p m c e ρ (.error y) c'
 |caN {c e ρ a b d x c1 r c'} (h:c<m) (ho:e.op=20) (ha:e.args=[a,b,d]) (h1:Lk p m (c+1) a ρ (.ok x) c1) (hb:x.head.isNil=true) (h2:Lk p m c1 b ρ r c'):Lk p m c e ρ r c'
 |caC {c e ρ a b d x c1 r c'} (h:c<m) (ho:e.op=20) (ha:e.args=[a,b,d]) (h1:Lk p m (c+1) a ρ (.ok x) c1) (hb:x.head.isNil=false) (h2:Lk p m c1 d (.bind e.tail x.tail (.bind e.name x.head ρ)) r c'):Lk p m c e ρ r c'
 |lt {c e ρ a b r c'} (h:c<m) (ho:e.op=21) (ha:e.args=[a,b]) (h1:Lk p m (c+1) b (.letrec e.name a ρ) r c'):Lk p m c e ρ r c'
 |stE {c e ρ a b y c'} (h:c<m) (ho:e.op=22) (ha:e.args=[a,b]) (h1:Lk p m (c+1) a ρ (.error y) c'):Lk p m c e ρ (.error y) c'
 |stV {c e ρ a b x c1 r c'} (h:c<m) (ho:e.op=22) (ha:e.args=[a,b]) (h1:Lk p m (c+1) a ρ (.ok x) c1) (h2:Lk p m c1 b (.bind e.name (.done x.plain x.head x.tail) ρ) r c'):Lk p m c e ρ r c'
 |unE {c e ρ a y c'} (h:c<m) (ho:14≤e.op∧e.op≤17) (ha:e.args=[a]) (h1:Lk p m (c+1) a ρ (.error y) c'):Lk p m c e ρ (.error y) c'
 |un {c e ρ a x c' r} (h:c<m) (ho:14≤e.op∧e.op≤17) (ha:e.args=[a]) (h1:Lk p m (c+1) a ρ (.ok x) c') (hr:Ap e.op [x.plain] r):Lk p m c e ρ (fin r) c'
 |biE {c e ρ a b y c'} (h:c<m) (ho:8≤e.op∧e.op≤13) (ha:e.args=[a,b]) (h1:Lk p m (c+1) a ρ (.error y) c'):Lk p m c e ρ (.error y) c'
 |biE2 {c e ρ a b x c1 y c'} (h:c<m) (ho:8≤e.op∧e.op≤13) (ha:e.args=[a,b]) (h1:Lk p m (c+1) a ρ (.ok x) c1) (h2:Lk p m c1 b ρ (.error y) c'):Lk p m c e ρ (.error y) c'
 |bi {c e ρ a b x c1 z c' r} (h:c<m) (ho:8≤e.op∧e.op≤13) (ha:e.args=[a,b]) (h1:Lk p m (c+1) a ρ (.ok x) c1) (h2:Lk p m c1 b ρ (.ok z) c') (hr:Ap e.op [x.plain,z.plain] r):Lk p m c e ρ (fin r) c'
theorem Oa{α:Type}(r:Except Int α){β:Type}(b:β):IR r (fun y=>some ((Except.error y:Except Int α),b)) (fun x=>some ((Except.ok x:Except Int α),b))=some (r,b):=by cases r<;>rfl
def Mpp(p:AN)(mp:Ae):Prop:=∀nm f,hd p nm=some f→idx p.funcs (CJ mp nm)=some f
section
variable{φ:AT}{N:Nat}{fs:List AK}{c m:Int}{mp:Ae}{e:AD}{ρ:Nm}
theorem Jm(h:c<m):A7 φ N fs c m mp e ρ=CG φ N fs c m mp e ρ:=by
 unfold A7
 rw [show decide (c≥m)=false from decide_eq_false (by omega)];rfl
theorem IF(h:(8≤e.op∧e.op≤17)∨(19≤e.op∧e.op≤22)):CG φ N fs c m mp e ρ=φ.mean_run_parts fs (IntKind.i64.wrap (c+1)) m mp e ρ:=by
 unfold CG Jo
 rw [show (e.op==1)=false by simp;omega,show (e.op==2)=false by simp;omega,show (e.op==3)=false by simp;omega,show (e.op==4)=false by simp;omega,show (e.op==5)=false by simp;omega,show (e.op==6)=false by simp;omega,show (e.op==7)=false by simp;omega,show (e.op==18)=false by simp;omega]
 simp only [cond_false]
 cases φ.mean_run_parts fs (IntKind.i64.wrap (c+1)) m mp e ρ with
 |none=>rfl
 |some x=>exact Oa x.1 x.2
end
section
variable{p:AN}{mp:Ae}{m:Nat}
theorem Pq(hp:WP p)(hmp:Mpp p mp)(hm:m≤16384){c:Nat}{e:AD}{ρ:Nm}{r:Except Int Ak}{c':Nat}(h:Lk p m c e ρ r c'):
  Ev fun N=>mean_run_look N p.funcs c m mp e ρ=some (r,p.funcs,(c':Int),(m:Int)):=by
 have w1: ∀c:Nat,c<m→IntKind.i64.wrap ((c:Int)+1)=((c+1:Nat):Int):=fun c h=>by rw [wr (by omega) (by omega)];omega
 have lt: ∀c:Nat,c<m→(c:Int)< (m:Int):=fun c h=>by omega
 induction h with
 | @fuel c e ρ h=>
  refine Ev.down 1 (Ev.all fun N=>?_)
  show A7 _ N p.funcs c m mp e ρ=_
  unfold A7
  rw [show decide ((c:Int)≥(m:Int))=true from decide_eq_true (by omega)];rfl
 | @num c e ρ h ho=>
  refine Ev.down 1 (Ev.all fun N=>?_)
  show A7 _ N p.funcs c m mp e ρ=_
  rw [Jm (lt c h)];unfold CG;rw [ho,w1 c h];rfl
 | @tru c e ρ h ho=>
  refine Ev.down 1 (Ev.all fun N=>?_)
  show A7 _ N p.funcs c m mp e ρ=_
  rw [Jm (lt c h)];unfold CG;rw [ho,w1 c h];rfl
 | @fls c e ρ h ho=>
  refine Ev.down 1 (Ev.all fun N=>?_)
  show A7 _ N p.funcs c m mp e ρ=_
  rw [Jm (lt c h)];unfold CG;rw [ho,w1 c h];rfl
 | @nil c e ρ h ho=>
  refine Ev.down 1 (Ev.all fun N=>?_)
  show A7 _ N p.funcs c m mp e ρ=_
  rw [Jm (lt c h)];unfold CG;rw [ho,w1 c h];rfl
 | @fail c e ρ h ho=>
  refine Ev.down 1 (Ev.all fun N=>?_)
  show A7 _ N p.funcs c m mp e ρ=_
  rw [Jm (lt c h)];unfold CG;rw [ho,w1 c h];rfl
 | @vdone c e ρ x h ho hf=>
  refine Ev.down 2 (((RO hf).up 1).mono fun N hN=>?_)
  show A7 _ (N+1) p.funcs c m mp e ρ=_
  rw [Jm (lt c h)];unfold CG;rw [ho,w1 c h]
  show ((DK (N+1) ρ e.name).bind fun x1087=>_)=_
  rw [hN.1];rfl
 | @vlater c e ρ e' ρ' r c' h ho hf _ ih=>
  refine Ev.down 3 ((((RO hf).up 2).and ih).mono fun N hN=>?_)
  show A7 _ (N+2) p.funcs c m mp e ρ=_
  rw [Jm (lt c h)];unfold CG;rw [ho,w1 c h]
  show ((DK (N+2) ρ e.name).bind fun x1087=>_)=_
  rw [hN.1.1]
  show (((mean_run_look N p.funcs ((c+1:Nat):Int) m mp e' ρ').bind fun x29=>IR x29.1 (fun y43=>some ((Except.error y43:Except Int Ak),x29.2.1,x29.2.2.1,x29.2.2.2)) fun r45=>some ((Except.ok r45:Except Int Ak),x29.2.1,x29.2.2.1,x29.2.2.2)).bind fun x1098=>IR x1098.1 (fun y1116=>some ((Except.error y1116:Except Int Ak),x1098.2.1,x1098.2.2.1,x1098.2.2.2)) fun r1118=>some ((Except.ok r1118:Except Int Ak),x1098.2.1,x1098.2.2.1,x1098.2.2.2))=_
  rw [hN.2,Option.bind_some]
  dsimp only
  rw [Oa,Option.bind_some]
  exact Oa _ _
 | @call c e ρ f r c' h ho hf hl _ ih=>
  have hfm:f∈p.funcs:=List.mem_of_find?_eq_some hf
  have hps:=(hp.fns f hfm).pars
  have loop: ∀(N k:Nat) (i:Nat) (acc:Nm),i≤f.params.length→f.params.length<i+k→mean_run_look N p.funcs ((c+1:Nat):Int) m mp f.body (Sg ρ (f.params.drop i) (e.args.drop i) acc)=some (r,p.funcs,(c':Int),(m:Int))→
    Fb (AT.at N) p.funcs c m mp e ρ f k acc (i:Int)=some (r,p.funcs,(c':Int),(m:Int)):=by
   intro N k
   induction k with
   |zero=>intro i acc _ _;omega
   |succ k ihk=>
    intro i acc hi hk hN
    show H8 _ p.funcs c m mp e ρ f (Fb _ p.funcs c m mp e ρ f k) acc i=_
    unfold H8
    cases hd':decide ((i:Int)< (f.params.length:Int))
    ·have hd':=Df hd'
     have hi':i=f.params.length:=by omega
     rw [cond_false,w1 c h,PH]
     have e1:f.params.drop i=[]:=by rw [hi'];exact List.drop_length
     rw [e1] at hN
     have e2:Sg ρ [] (e.args.drop i) acc=acc:=by cases e.args.drop i<;>rfl
     rw [e2] at hN
     show ((mean_run_look N p.funcs ((c+1:Nat):Int) m mp f.body acc).bind fun x1655=>_)=_
     rw [hN]
     exact Oa _ _
    ·have hd':=CD hd'
     have i1:i<f.params.length:=by omega
     have i2:i<e.args.length:=by omega
     obtain ⟨x,hx,hx'⟩:=Er (xs:=f.params) (i:=(i:Int)) (by omega) hd'
     obtain ⟨a,ha,ha'⟩:=Er (xs:=e.args) (i:=(i:Int)) (by omega) (by omega)
     rw [cond_true,hx,Option.bind_some,ha,Option.bind_some,wr (by omega) (by omega),show (i:Int)+1=((i+1:Nat):Int) by omega]
     refine ihk (i+1) (.bind x.name (.later a ρ) acc) (by omega) (by omega) ?_
     have e1:f.params.drop i=x::f.params.drop (i+1):=by
      rw [List.drop_eq_getElem_cons i1];congr 1
      have:=List.getElem?_eq_getElem i1
      rw [Int.toNat_natCast,this] at hx';exact Option.some.inj hx'
     have e2:e.args.drop i=a::e.args.drop (i+1):=by
      rw [List.drop_eq_getElem_cons i2];congr 1
      have:=List.getElem?_eq_getElem i2
      rw [Int.toNat_natCast,this] at ha';exact Option.some.inj ha'
     rw [e1,e2] at hN
     exact hN
  refine Ev.down 1 ((ih.and (L7 (f.params.length+1))).mono fun N hN=>?_)
  show A7 _ N p.funcs c m mp e ρ=_
  rw [Jm (lt c h)];unfold CG;rw [ho]
  show ((idx p.funcs (CJ mp e.name)).bind fun x1151=>Fb _ p.funcs c m mp e ρ x1151 N Nm.nil 0)=_
  rw [hmp _ _ hf,Option.bind_some]
  exact loop N N 0 .nil (by omega) (by omega) hN.1
 | @cons c e ρ a b h ho ha=>
  refine Ev.down 1 (Ev.all fun N=>?_)
  show A7 _ N p.funcs c m mp e ρ=_
  rw [Jm (lt c h)];unfold CG;rw [ho,w1 c h,ha];rfl
 | @ifE c e ρ a b d y c' h ho ha _ ih=>
  refine Ev.down 2 (ih.mono fun N hN=>?_)
  show A7 _ (N+1) p.funcs c m mp e ρ=_
  rw [Jm (lt c h),IF (by omega),w1 c h]
  show Ay (AT.at N) N p.funcs ((c+1:Nat):Int) m mp e ρ=_
  unfold Ay;rw [ho,ha]
  show ((mean_run_look N p.funcs ((c+1:Nat):Int) m mp a ρ).bind fun x51=>_)=_
  rw [hN];rfl
 | @ifT c e ρ a b d x c1 r c' h ho ha _ hb _ ih1 ih2=>
  refine Ev.down 2 ((ih1.and ih2).mono fun N hN=>?_)
  show A7 _ (N+1) p.funcs c m mp e ρ=_
  rw [Jm (lt c h),IF (by omega),w1 c h]
  show Ay (AT.at N) N p.funcs ((c+1:Nat):Int) m mp e ρ=_
  unfold Ay;rw [ho,ha]
  show ((mean_run_look N p.funcs ((c+1:Nat):Int) m mp a ρ).bind fun x51=>IR x51.1 _ fun r67=>bif r67.plain.bool then _ else _)=_
  rw [hN.1,Option.bind_some]
  show (bif x.plain.bool then ((mean_run_look N p.funcs (c1:Int) m mp b ρ).bind fun x107=>_) else _)=_
  rw [hb,cond_true,hN.2]
  exact Oa _ _
 | @ifF c e ρ a b d x c1 r c' h ho ha _ hb _ ih1 ih2=>
  refine Ev.down 2 ((ih1.and ih2).mono fun N hN=>?_)
  show A7 _ (N+1) p.funcs c m mp e ρ=_
  rw [Jm (lt c h),IF (by omega),w1 c h]
  show Ay (AT.at N) N p.funcs ((c+1:Nat):Int) m mp e ρ=_
  unfold Ay;rw [ho,ha]
  show ((mean_run_look N p.funcs ((c+1:Nat):Int) m mp a ρ).bind fun x51=>IR x51.1 _ fun r67=>bif r67.plain.bool then _ else _)=_
  rw [hN.1,Option.bind_some]
  show (bif x.plain.bool then _ else ((mean_run_look N p.funcs (c1:Int) m mp d ρ).bind fun x107=>_))=_
  rw [hb,cond_false,hN.2]
  exact Oa _ _
 | @caE c e ρ a b d y c' h ho ha _ ih=>
  refine Ev.down 2 (ih.mono fun N hN=>?_)
  show A7 _ (N+1) p.funcs c m mp e ρ=_
  rw [Jm (lt c h),IF (by omega),w1 c h]
  show Ay (AT.at N) N p.funcs ((c+1:Nat):Int) m mp e ρ=_
  unfold Ay;rw [ho,ha]
  show ((mean_run_look N p.funcs ((c+1:Nat):Int) m mp a ρ).bind fun x51=>_)=_
  rw [hN];rfl
 | @caN c e ρ a b d x c1 r c' h ho ha _ hb _ ih1 ih2=>
  refine Ev.down 2 ((ih1.and ih2).mono fun N hN=>?_)
  show A7 _ (N+1) p.funcs c m mp e ρ=_
  rw [Jm (lt c h),IF (by omega),w1 c h]
  show Ay (AT.at N) N p.funcs ((c+1:Nat):Int) m mp e ρ=_
  unfold Ay;rw [ho,ha]
  show ((mean_run_look N p.funcs ((c+1:Nat):Int) m mp a ρ).bind fun x51=>IR x51.1 _ fun r67=>bif Th.isNil r67.head then _ else _)=_
  rw [hN.1,Option.bind_some]
  show (bif Th.isNil x.head then ((mean_run_look N p.funcs (c1:Int) m mp b ρ).bind fun x107=>_) else _)=_
  rw [hb,cond_true,hN.2]
  exact Oa _ _
 | @caC c e ρ a b d x c1 r c' h ho ha _ hb _ ih1 ih2=>
  refine Ev.down 2 ((ih1.and ih2).mono fun N hN=>?_)
  show A7 _ (N+1) p.funcs c m mp e ρ=_
  rw [Jm (lt c h),IF (by omega),w1 c h]
  show Ay (AT.at N) N p.funcs ((c+1:Nat):Int) m mp e ρ=_
  unfold Ay;rw [ho,ha]
  show ((mean_run_look N p.funcs ((c+1:Nat):Int) m mp a ρ).bind fun x51=>IR x51.1 _ fun r67=>bif Th.isNil r67.head then _ else _)=_
  rw [hN.1,Option.bind_some]
  show (bif Th.isNil x.head then _ else ((mean_run_look N p.funcs (c1:Int) m mp d (.bind e.tail x.tail (.bind e.name x.head ρ))).bind fun x107=>_))=_
  rw [hb,cond_false,hN.2]
  exact Oa _ _
 | @lt c e ρ a b r c' h ho ha _ ih=>
  refine Ev.down 2 (ih.mono fun N hN=>?_)
  show A7 _ (N+1) p.funcs c m mp e ρ=_
  rw [Jm (lt c h),IF (by omega),w1 c h]
  show Ay (AT.at N) N p.funcs ((c+1:Nat):Int) m mp e ρ=_
  unfold Ay;rw [ho,ha]
  have ea:IH a=some a:=rfl
  rw [show ((21:Int)==19)=false from rfl,cond_false,show ((21:Int)==20)=false from rfl,cond_false,show ((21:Int)==21)=true from rfl,cond_true,show idx [a,b] 0=some a from rfl,Option.bind_some,ea,Option.bind_some,show idx [a,b] 1=some b from rfl,Option.bind_some]
  show ((mean_run_look N p.funcs ((c+1:Nat):Int) m mp b (.letrec e.name a ρ)).bind fun x662=>_)=_
  rw [hN]
  exact Oa _ _
 | @stE c e ρ a b y c' h ho ha _ ih=>
  refine Ev.down 2 (ih.mono fun N hN=>?_)
  show A7 _ (N+1) p.funcs c m mp e ρ=_
  rw [Jm (lt c h),IF (by omega),w1 c h]
  show Ay (AT.at N) N p.funcs ((c+1:Nat):Int) m mp e ρ=_
  unfold Ay;rw [ho,ha]
  show ((mean_run_look N p.funcs ((c+1:Nat):Int) m mp a ρ).bind fun x51=>_)=_
  rw [hN];rfl
 | @stV c e ρ a b x c1 r c' h ho ha _ _ ih1 ih2=>
  refine Ev.down 2 ((ih1.and ih2).mono fun N hN=>?_)
  show A7 _ (N+1) p.funcs c m mp e ρ=_
  rw [Jm (lt c h),IF (by omega),w1 c h]
  show Ay (AT.at N) N p.funcs ((c+1:Nat):Int) m mp e ρ=_
  unfold Ay;rw [ho,ha]
  show ((mean_run_look N p.funcs ((c+1:Nat):Int) m mp a ρ).bind fun x51=>_)=_
  rw [hN.1,Option.bind_some]
  show ((mean_run_look N p.funcs (c1:Int) m mp b (.bind e.name (.done x.plain x.head x.tail) ρ)).bind fun x107=>_)=_
  rw [hN.2]
  exact Oa _ _
 | @unE c e ρ a y c' h ho ha _ ih=>
  refine Ev.down 5 ((ih.up 3).mono fun N hN=>?_)
  show A7 _ (N+4) p.funcs c m mp e ρ=_
  rw [Jm (lt c h),IF (by omega),w1 c h]
  show Ay (AT.at (N+3)) (N+3) p.funcs ((c+1:Nat):Int) m mp e ρ=_
  unfold Ay
  rw [show (e.op==19)=false by simp;omega,show (e.op==20)=false by simp;omega,show (e.op==21)=false by simp;omega,show (e.op==22)=false by simp;omega]
  show BE _ (N+3) mp e ρ _ [] 0 p.funcs ((c+1:Nat):Int) m=_
  unfold BE
  rw [ha]
  show ((mean_run_look (N+3) p.funcs ((c+1:Nat):Int) m mp a ρ).bind fun x51=>_)=_
  rw [hN];rfl
 | @un c e ρ a x c' r h ho ha _ hr ih=>
  refine Ev.down 5 (((ih.up 3).and (L7 (2^54))).mono fun N hN=>?_)
  show A7 _ (N+4) p.funcs c m mp e ρ=_
  rw [Jm (lt c h),IF (by omega),w1 c h]
  show Ay (AT.at (N+3)) (N+3) p.funcs ((c+1:Nat):Int) m mp e ρ=_
  unfold Ay
  rw [show (e.op==19)=false by simp;omega,show (e.op==20)=false by simp;omega,show (e.op==21)=false by simp;omega,show (e.op==22)=false by simp;omega]
  have hA:=(hr (N+3) (by have:=hN.2;omega)).1
  generalize hop:e.op=op at*
  show BE _ (N+3) mp e ρ (Cy (AT.at (N+3)) (N+3) mp e ρ (N+2)) [] 0 p.funcs ((c+1:Nat):Int) m=_
  unfold BE
  rw [ha]
  show ((mean_run_look (N+3) p.funcs ((c+1:Nat):Int) m mp a ρ).bind fun x51=>_)=_
  rw [hN.1,Option.bind_some]
  show BE _ (N+3) mp e ρ (Cy (AT.at (N+3)) (N+3) mp e ρ (N+1)) [x.plain] 1 p.funcs (c':Int) m=_
  unfold BE
  rw [ha,hop]
  show ((Dq (N+3) op [x.plain]).bind fun x1312=>bif (x1312.2 != 0) then _ else _)=_
  rw [hA,Option.bind_some,fin]
  cases (r.2 != 0)<;>rfl
 | @biE c e ρ a b y c' h ho ha _ ih=>
  refine Ev.down 5 ((ih.up 3).mono fun N hN=>?_)
  show A7 _ (N+4) p.funcs c m mp e ρ=_
  rw [Jm (lt c h),IF (by omega),w1 c h]
  show Ay (AT.at (N+3)) (N+3) p.funcs ((c+1:Nat):Int) m mp e ρ=_
  unfold Ay
  rw [show (e.op==19)=false by simp;omega,show (e.op==20)=false by simp;omega,show (e.op==21)=false by simp;omega,show (e.op==22)=false by simp;omega]
  show BE _ (N+3) mp e ρ _ [] 0 p.funcs ((c+1:Nat):Int) m=_
  unfold BE
  rw [ha]
  show ((mean_run_look (N+3) p.funcs ((c+1:Nat):Int) m mp a ρ).bind fun x51=>_)=_
  rw [hN];rfl
 | @biE2 c e ρ a b x c1 y c' h ho ha _ _ ih1 ih2=>
  refine Ev.down 5 (((ih1.up 3).and (ih2.up 3)).mono fun N hN=>?_)
  show A7 _ (N+4) p.funcs c m mp e ρ=_
  rw [Jm (lt c h),IF (by omega),w1 c h]
  show Ay (AT.at (N+3)) (N+3) p.funcs ((c+1:Nat):Int) m mp e ρ=_
  unfold Ay
  rw [show (e.op==19)=false by simp;omega,show (e.op==20)=false by simp;omega,show (e.op==21)=false by simp;omega,show (e.op==22)=false by simp;omega]
  show BE _ (N+3) mp e ρ (Cy (AT.at (N+3)) (N+3) mp e ρ (N+2)) [] 0 p.funcs ((c+1:Nat):Int) m=_
  unfold BE
  rw [ha]
  show ((mean_run_look (N+3) p.funcs ((c+1:Nat):Int) m mp a ρ).bind fun x51=>_)=_
  rw [hN.1,Option.bind_some]
  show BE _ (N+3) mp e ρ (Cy (AT.at (N+3)) (N+3) mp e ρ (N+1)) [x.plain] 1 p.funcs (c1:Int) m=_
  unfold BE
  rw [ha]
  show ((mean_run_look (N+3) p.funcs (c1:Int) m mp b ρ).bind fun x51=>_)=_
  rw [hN.2];rfl
 | @bi c e ρ a b x c1 z c' r h ho ha _ _ hr ih1 ih2=>
  refine Ev.down 5 ((((ih1.up 3).and (ih2.up 3)).and (L7 (2^54))).mono fun N hN=>?_)
  show A7 _ (N+4) p.funcs c m mp e ρ=_
  rw [Jm (lt c h),IF (by omega),w1 c h]
  show Ay (AT.at (N+3)) (N+3) p.funcs ((c+1:Nat):Int) m mp e ρ=_
  unfold Ay
  rw [show (e.op==19)=false by simp;omega,show (e.op==20)=false by simp;omega,show (e.op==21)=false by simp;omega,show (e.op==22)=false by simp;omega]
  have hA:=(hr (N+3) (by have:=hN.2;omega)).1
  generalize hop:e.op=op at*
  show BE _ (N+3) mp e ρ (Cy (AT.at (N+3)) (N+3) mp e ρ (N+2)) [] 0 p.funcs ((c+1:Nat):Int) m=_
  unfold BE
  rw [ha]
  show ((mean_run_look (N+3) p.funcs ((c+1:Nat):Int) m mp a ρ).bind fun x51=>_)=_
  rw [hN.1.1,Option.bind_some]
  show BE _ (N+3) mp e ρ (Cy (AT.at (N+3)) (N+3) mp e ρ (N+1)) [x.plain] 1 p.funcs (c1:Int) m=_
  unfold BE
  rw [ha]
  show ((mean_run_look (N+3) p.funcs (c1:Int) m mp b ρ).bind fun x51=>_)=_
  rw [hN.1.2,Option.bind_some]
  show BE _ (N+3) mp e ρ (Cy (AT.at (N+3)) (N+3) mp e ρ N) [x.plain,z.plain] 2 p.funcs (c':Int) m=_
  unfold BE
  rw [ha,hop]
  show ((Dq (N+3) op [x.plain,z.plain]).bind fun x1312=>bif (x1312.2 != 0) then _ else _)=_
  rw [hA,Option.bind_some,fin]
  cases (r.2 != 0)<;>rfl
end
end Fth
namespace Fth
open Go
def th0:Th:= .later ⟨0,[],[],0,(0,0),[],0⟩ .nil
def f0:AK:=⟨[],[],0,⟨0,[],[],0,(0,0),[],0⟩,0⟩
def hdR(o:Option AK):AK×Bool:=match o with |some f=>(f,true)|none=>(f0,false)
theorem KS{α:Type}{l:List α}{i:Nat}{x:α}(h:l[i]?=some x):l.drop i=x::l.drop (i+1):=by
 obtain ⟨hi,rfl⟩:=List.getElem?_eq_some_iff.1 h
 exact List.drop_eq_getElem_cons hi
theorem RP{p:AN}{nm:List UInt8}{N:Nat}(hl:p.funcs.length≤1000000)(hN:p.funcs.length+2≤N):Kx N p nm=some (hdR (hd p nm)):=by
 have loop: ∀(k i:Nat),i≤p.funcs.length→p.funcs.length<i+k→LB p nm k (i:Int)=some (hdR ((p.funcs.drop i).find? fun f=>f.name==nm)):=by
  intro k
  induction k with
  |zero=>intro i _ _;omega
  |succ k ih=>
   intro i hi hk
   show Ls p nm (LB p nm k) i=_
   unfold Ls
   cases hc:decide ((i:Int)< (p.funcs.length:Int))
   ·have hc:=Df hc
    rw [cond_false,List.drop_eq_nil_of_le (by omega)];rfl
   ·have hc:=CD hc
    obtain ⟨f,hf,hf'⟩:=Er (xs:=p.funcs) (i:=(i:Int)) (by omega) hc
    rw [cond_true,hf,Option.bind_some,wr (by omega) (by omega),show (i:Int)+1=((i+1:Nat):Int) by omega,KS (by rwa [Int.toNat_natCast] at hf'),List.find?_cons]
    cases hn:(f.name==nm)
    ·rw [cond_false]
     exact ih (i+1) (by omega) (by omega)
    ·rfl
 have:=loop N 0 (by omega) (by omega)
 rw [List.drop_zero] at this
 exact this
def rth:Except Int Ak→Th
 | .ok x=> .done x.plain x.head x.tail
 | .error _=>th0
def rwy:Except Int Ak→Int
 | .ok _=>0
 | .error y=>y
section
variable{p:AN}{m:Nat}
theorem Ob{c:Nat}{e:AD}{ρ:Nm}{r:Except Int Ak}{c':Nat}(h:Lk p m c e ρ r c'): ∀y,r= .error y→y≠0:=by
 induction h with
 |fuel=>rintro y ⟨⟩;decide
 |fail=>rintro y ⟨⟩;decide
 |num=>rintro y ⟨⟩
 |tru=>rintro y ⟨⟩
 |fls=>rintro y ⟨⟩
 |nil=>rintro y ⟨⟩
 |vdone=>rintro y ⟨⟩
 |cons=>rintro y ⟨⟩
 |vlater _ _ _ _ ih=>exact ih
 |call _ _ _ _ _ ih=>exact ih
 |ifE _ _ _ _ ih=>exact ih
 |ifT _ _ _ _ _ _ _ ih=>exact ih
 |ifF _ _ _ _ _ _ _ ih=>exact ih
 |caE _ _ _ _ ih=>exact ih
 |caN _ _ _ _ _ _ _ ih=>exact ih
 |caC _ _ _ _ _ _ _ ih=>exact ih
 |lt _ _ _ _ ih=>exact ih
 |stE _ _ _ _ ih=>exact ih
 |stV _ _ _ _ _ _ ih=>exact ih
 |unE _ _ _ _ ih=>exact ih
 |biE _ _ _ _ ih=>exact ih
 |biE2 _ _ _ _ _ _ ih=>exact ih
 | @un c e ρ a x c' r=>
  intro y hy
  unfold fin at hy
  cases hr:(r.2 != 0)
  ·rw [hr] at hy;cases hy
  ·rw [hr] at hy;cases hy;exact J8 hr
 | @bi c e ρ a b x c1 z c' r=>
  intro y hy
  unfold fin at hy
  cases hr:(r.2 != 0)
  ·rw [hr] at hy;cases hy
  ·rw [hr] at hy;cases hy;exact J8 hr
theorem WR{N:Nat}{c y:Int}{e:AD}{ρ:Nm}(hy:y≠0):ref11_Machine_look (N+1) ⟨p,m,c,y⟩ e ρ=some (th0,⟨p,m,c,y⟩):=by
 show BD _ N ⟨p,m,c,y⟩ e ρ=_
 unfold BD
 rw [show (((Af.mk p m c y).why != 0))=true by simpa using hy];rfl
theorem Pr{φ:AR}{N:Nat}{c:Nat}{e:AD}{ρ:Nm}(h:c<m)(h1:e.op≠1):BD φ N ⟨p,m,c,0⟩ e ρ=Bv φ N ⟨p,m,c,0⟩ e ρ (bif e.op==2 then e.op==2 else e.op==3):=by
 unfold BD
 rw [show (((Af.mk p m c 0).why != 0))=false from rfl,cond_false,show decide ((Af.mk p m c 0).cost≥(Af.mk p m c 0).most)=false from decide_eq_false (by simp only;omega),cond_false,show (e.op==1)=false by simpa using h1,cond_false]
 cases (e.op==2)<;>rfl
theorem ABX{φ:AR}{N:Nat}{c:Nat}{e:AD}{ρ:Nm}(h:c<m)(hm:m≤16384)(ho:(8≤e.op∧e.op≤17)∨(19≤e.op∧e.op≤22)):BD φ N ⟨p,m,c,0⟩ e ρ=φ.ref11_Machine_inside ⟨p,m,((c+1:Nat):Int),0⟩ e ρ:=by
 rw [Pr h (by omega),show (e.op==2)=false by simp;omega,show (e.op==3)=false by simp;omega]
 unfold Bv
 rw [cond_false,cond_false,show (e.op==4)=false by simp;omega,show (e.op==5)=false by simp;omega,show (e.op==6)=false by simp;omega,show (e.op==7)=false by simp;omega,show (e.op==18)=false by simp;omega]
 simp only [cond_false]
 rw [wr (by omega) (by omega),show (c:Int)+1=((c+1:Nat):Int) by omega]
 show ((φ.ref11_Machine_inside ⟨p,m,((c+1:Nat):Int),0⟩ e ρ).bind fun x824=>some (x824.1,x824.2))=_
 cases φ.ref11_Machine_inside ⟨p,m,((c+1:Nat):Int),0⟩ e ρ<;>rfl
theorem Vq(hp:WP p)(hm:m≤16384){c:Nat}{e:AD}{ρ:Nm}{r:Except Int Ak}{c':Nat}(h:Lk p m c e ρ r c'):
  Ev fun N=>ref11_Machine_look N ⟨p,m,c,0⟩ e ρ=some (rth r,⟨p,m,c',rwy r⟩):=by
 have w1: ∀c:Nat,c<m→IntKind.i64.wrap ((c:Int)+1)=((c+1:Nat):Int):=fun c h=>by rw [wr (by omega) (by omega)];omega
 have go: ∀{c:Nat} {e:AD} {ρ:Nm} {r:Except Int Ak} {c':Nat},c<m→(8≤e.op∧e.op≤17)∨(19≤e.op∧e.op≤22)→(Ev fun N=>BH (AR.at N) N ⟨p,m,((c+1:Nat):Int),0⟩ e ρ=some (rth r,⟨p,m,c',rwy r⟩))→
   Ev fun N=>ref11_Machine_look N ⟨p,m,c,0⟩ e ρ=some (rth r,⟨p,m,c',rwy r⟩):=fun {c e ρ r c'} h ho hE=>by
  refine Ev.down 2 (hE.mono fun N hN=>?_)
  show BD (AR.at (N+1)) (N+1) ⟨p,m,c,0⟩ e ρ=_
  rw [ABX h hm ho]
  exact hN
 induction h with
 | @fuel c e ρ h=>
  refine Ev.down 1 (Ev.all fun N=>?_)
  show BD _ N ⟨p,m,c,0⟩ e ρ=_
  unfold BD
  rw [show (((Af.mk p m c 0).why != 0))=false from rfl,cond_false,show decide ((Af.mk p m c 0).cost≥(Af.mk p m c 0).most)=true from decide_eq_true (by simp only;omega)];rfl
 | @num c e ρ h ho=>
  refine Ev.down 1 (Ev.all fun N=>?_)
  show BD _ N ⟨p,m,c,0⟩ e ρ=_
  unfold BD
  rw [show (((Af.mk p m c 0).why != 0))=false from rfl,cond_false,show decide ((Af.mk p m c 0).cost≥(Af.mk p m c 0).most)=false from decide_eq_false (by simp only;omega),ho,w1 c h];rfl
 | @tru c e ρ h ho=>
  refine Ev.down 1 (Ev.all fun N=>?_)
  show BD _ N ⟨p,m,c,0⟩ e ρ=_
  rw [Pr h (by omega)];unfold Bv;rw [ho,w1 c h];rfl
 | @fls c e ρ h ho=>
  refine Ev.down 1 (Ev.all fun N=>?_)
  show BD _ N ⟨p,m,c,0⟩ e ρ=_
  rw [Pr h (by omega)];unfold Bv;rw [ho,w1 c h];rfl
 | @nil c e ρ h ho=>
  refine Ev.down 1 (Ev.all fun N=>?_)
  show BD _ N ⟨p,m,c,0⟩ e ρ=_
  rw [Pr h (by omega)];unfold Bv;rw [ho,w1 c h];rfl
 | @fail c e ρ h ho=>
  refine Ev.down 1 (Ev.all fun N=>?_)
  show BD _ N ⟨p,m,c,0⟩ e ρ=_
  rw [Pr h (by omega)];unfold Bv;rw [ho,w1 c h];rfl
 | @vdone c e ρ x h ho hf=>
  refine Ev.down 2 (((RO hf).up 1).mono fun N hN=>?_)
  show BD _ (N+1) ⟨p,m,c,0⟩ e ρ=_
  rw [Pr h (by omega)];unfold Bv;rw [ho,w1 c h]
  show ((LH (N+1) ρ e.name).bind fun x132=>_)=_
  rw [hN.2];rfl
 | @vlater c e ρ e' ρ' r c' h ho hf _ ih=>
  refine Ev.down 2 ((((RO hf).up 1).and ih).mono fun N hN=>?_)
  show BD _ (N+1) ⟨p,m,c,0⟩ e ρ=_
  rw [Pr h (by omega)];unfold Bv;rw [ho,w1 c h]
  show ((LH (N+1) ρ e.name).bind fun x132=>_)=_
  rw [hN.1.2]
  show (((ref11_Machine_look N ⟨p,m,((c+1:Nat):Int),0⟩ e' ρ').bind fun x131=>some (x131.1,x131.2)).bind fun x142=>some (x142.1,x142.2))=_
  rw [hN.2];rfl
 | @call c e ρ f r c' h ho hf hl _ ih=>
  have hfm:f∈p.funcs:=List.mem_of_find?_eq_some hf
  have hps:=(hp.fns f hfm).pars
  have hpl:=hp.len
  have loop: ∀(N k:Nat) (i:Nat) (acc:Nm),i≤f.params.length→f.params.length<i+k→ref11_Machine_look N ⟨p,m,((c+1:Nat):Int),0⟩ f.body (Sg ρ (f.params.drop i) (e.args.drop i) acc)=some (rth r,⟨p,m,c',rwy r⟩)→
    Hw (AR.at N) ⟨p,m,c,0⟩ e ρ f.params f.body.op f.body.name f.body.tail f.body.type_ f.body.num f.body.args f.body.at_ k acc (i:Int)=some (rth r,⟨p,m,c',rwy r⟩):=by
   intro N k
   induction k with
   |zero=>intro i acc _ _;omega
   |succ k ihk=>
    intro i acc hi hk hN
    show I1 _ ⟨p,m,c,0⟩ e ρ f.params f.body.op f.body.name f.body.tail f.body.type_ f.body.num f.body.args f.body.at_ (Hw _ ⟨p,m,c,0⟩ e ρ f.params f.body.op f.body.name f.body.tail f.body.type_ f.body.num f.body.args f.body.at_ k) acc i=_
    unfold I1
    cases hd':decide ((i:Int)< (e.args.length:Int))
    ·have hd':=Df hd'
     have hi':i=f.params.length:=by omega
     rw [cond_false,w1 c h,PH]
     have e1:f.params.drop i=[]:=by rw [hi'];exact List.drop_length
     rw [e1] at hN
     have e2:Sg ρ [] (e.args.drop i) acc=acc:=by cases e.args.drop i<;>rfl
     rw [e2] at hN
     show ((ref11_Machine_look N ⟨p,m,((c+1:Nat):Int),0⟩ f.body acc).bind fun x493=>_)=_
     rw [hN];rfl
    ·have hd':=CD hd'
     have i1:i<f.params.length:=by omega
     obtain ⟨x,hx,hx'⟩:=Er (xs:=f.params) (i:=(i:Int)) (by omega) (by omega)
     obtain ⟨a,ha,ha'⟩:=Er (xs:=e.args) (i:=(i:Int)) (by omega) hd'
     rw [cond_true,hx,Option.bind_some,ha,Option.bind_some,wr (by omega) (by omega),show (i:Int)+1=((i+1:Nat):Int) by omega]
     refine ihk (i+1) (.bind x.name (.later a ρ) acc) (by omega) (by omega) ?_
     rw [Int.toNat_natCast] at hx' ha'
     rw [KS hx',KS ha'] at hN
     exact hN
  refine Ev.down 1 ((ih.and (L7 (f.params.length+p.funcs.length+2))).mono fun N hN=>?_)
  show BD _ N ⟨p,m,c,0⟩ e ρ=_
  rw [Pr h (by omega)];unfold Bv;rw [ho]
  show ((Kx N p e.name).bind fun x551=>Kr (AR.at N) N ⟨p,m,c,0⟩ e ρ x551.1.params x551.1.body.op x551.1.body.name x551.1.body.tail x551.1.body.type_ x551.1.body.num x551.1.body.args x551.1.body.at_)=_
  rw [RP (by omega) (by omega),hf,Option.bind_some]
  exact loop N N 0 .nil (by omega) (by omega) hN.1
 | @cons c e ρ a b h ho ha=>
  refine Ev.down 1 (Ev.all fun N=>?_)
  show BD _ N ⟨p,m,c,0⟩ e ρ=_
  rw [Pr h (by omega)];unfold Bv Ks;rw [ho,w1 c h,ha];rfl
 | @ifE c e ρ a b d y c' h ho ha h1 ih=>
  have hy:=Ob h1 y rfl
  refine go h (by omega) (Ev.down 1 ((ih.up 1).mono fun N hN=>?_))
  unfold BH;rw [ho,ha]
  show ((ref11_Machine_look (N+1) ⟨p,m,((c+1:Nat):Int),0⟩ a ρ).bind fun x44=>_)=_
  rw [hN]
  show ((ref11_Machine_look (N+1) ⟨p,m,c',y⟩ d ρ).bind fun x154=>_)=_
  rw [WR hy];rfl
 | @ifT c e ρ a b d x c1 r c' h ho ha _ hb _ ih1 ih2=>
  refine go h (by omega) ((ih1.and ih2).mono fun N hN=>?_)
  unfold BH;rw [ho,ha]
  show ((ref11_Machine_look N ⟨p,m,((c+1:Nat):Int),0⟩ a ρ).bind fun x44=>_)=_
  rw [hN.1]
  show (bif x.plain.bool then ((ref11_Machine_look N ⟨p,m,c1,0⟩ b ρ).bind fun x154=>some (x154.1,x154.2)) else _)=_
  rw [hb,cond_true,hN.2];rfl
 | @ifF c e ρ a b d x c1 r c' h ho ha _ hb _ ih1 ih2=>
  refine go h (by omega) ((ih1.and ih2).mono fun N hN=>?_)
  unfold BH;rw [ho,ha]
  show ((ref11_Machine_look N ⟨p,m,((c+1:Nat):Int),0⟩ a ρ).bind fun x44=>_)=_
  rw [hN.1]
  show (bif x.plain.bool then _ else ((ref11_Machine_look N ⟨p,m,c1,0⟩ d ρ).bind fun x154=>some (x154.1,x154.2)))=_
  rw [hb,cond_false,hN.2];rfl
 | @caE c e ρ a b d y c' h ho ha h1 ih=>
  have hy:=Ob h1 y rfl
  refine go h (by omega) (Ev.down 1 ((ih.up 1).mono fun N hN=>?_))
  unfold BH;rw [ho,ha]
  show ((ref11_Machine_look (N+1) ⟨p,m,((c+1:Nat):Int),0⟩ a ρ).bind fun x44=>_)=_
  rw [hN,Option.bind_some]
  show (bif (y != 0) then DD (AR.at (N+1)) e ρ (th0,⟨p,m,c',y⟩) true else _)=_
  rw [show (y != 0)=true by simpa using hy,cond_true]
  unfold DD
  rw [ha]
  show ((ref11_Machine_look (N+1) ⟨p,m,c',y⟩ b ρ).bind fun x273=>_)=_
  rw [WR hy];rfl
 | @caN c e ρ a b d x c1 r c' h ho ha _ hb _ ih1 ih2=>
  refine go h (by omega) ((ih1.and ih2).mono fun N hN=>?_)
  unfold BH;rw [ho,ha]
  show ((ref11_Machine_look N ⟨p,m,((c+1:Nat):Int),0⟩ a ρ).bind fun x44=>_)=_
  rw [hN.1,Option.bind_some]
  show DD (AR.at N) e ρ (.done x.plain x.head x.tail,⟨p,m,c1,0⟩) (!!x.head.isNil)=_
  unfold DD
  rw [ha,hb]
  show ((ref11_Machine_look N ⟨p,m,c1,0⟩ b ρ).bind fun x273=>_)=_
  rw [hN.2];rfl
 | @caC c e ρ a b d x c1 r c' h ho ha _ hb _ ih1 ih2=>
  refine go h (by omega) ((ih1.and ih2).mono fun N hN=>?_)
  unfold BH;rw [ho,ha]
  show ((ref11_Machine_look N ⟨p,m,((c+1:Nat):Int),0⟩ a ρ).bind fun x44=>_)=_
  rw [hN.1,Option.bind_some]
  show DD (AR.at N) e ρ (.done x.plain x.head x.tail,⟨p,m,c1,0⟩) (!!x.head.isNil)=_
  unfold DD
  rw [ha,hb]
  show ((ref11_Machine_look N ⟨p,m,c1,0⟩ d (.bind e.tail x.tail (.bind e.name x.head ρ))).bind fun x273=>_)=_
  rw [hN.2];rfl
 | @lt c e ρ a b r c' h ho ha _ ih=>
  refine go h (by omega) (ih.mono fun N hN=>?_)
  unfold BH
  rw [ho,ha,show ((21:Int)==19)=false from rfl,cond_false,show ((21:Int)==20)=false from rfl,cond_false,show ((21:Int)==21)=true from rfl,cond_true,show idx [a,b] 0=some a from rfl,Option.bind_some,show idx [a,b] 1=some b from rfl,Option.bind_some]
  show ((ref11_Machine_look N ⟨p,m,((c+1:Nat):Int),0⟩ b (.letrec e.name a ρ)).bind fun x735=>_)=_
  rw [hN];rfl
 | @stE c e ρ a b y c' h ho ha h1 ih=>
  have hy:=Ob h1 y rfl
  refine go h (by omega) (Ev.down 1 ((ih.up 1).mono fun N hN=>?_))
  unfold BH;rw [ho,ha]
  show ((ref11_Machine_look (N+1) ⟨p,m,((c+1:Nat):Int),0⟩ a ρ).bind fun x44=>_)=_
  rw [hN]
  show ((ref11_Machine_look (N+1) ⟨p,m,c',y⟩ b (.bind e.name th0 ρ)).bind fun x154=>_)=_
  rw [WR hy];rfl
 | @stV c e ρ a b x c1 r c' h ho ha _ _ ih1 ih2=>
  refine go h (by omega) ((ih1.and ih2).mono fun N hN=>?_)
  unfold BH;rw [ho,ha]
  show ((ref11_Machine_look N ⟨p,m,((c+1:Nat):Int),0⟩ a ρ).bind fun x44=>_)=_
  rw [hN.1]
  show ((ref11_Machine_look N ⟨p,m,c1,0⟩ b (.bind e.name (.done x.plain x.head x.tail) ρ)).bind fun x154=>_)=_
  rw [hN.2];rfl
 | @unE c e ρ a y c' h ho ha h1 ih=>
  have hy:=Ob h1 y rfl
  refine go h (by omega) (Ev.down 3 ((ih.up 3).mono fun N hN=>?_))
  unfold BH
  rw [show (e.op==19)=false by simp;omega,show (e.op==20)=false by simp;omega,show (e.op==21)=false by simp;omega,show (e.op==22)=false by simp;omega]
  show As (AR.at (N+3)) (N+3) e ρ (BJ (AR.at (N+3)) (N+3) e ρ (N+2)) [] 0 p.funcs m ((c+1:Nat):Int) 0=_
  unfold As
  rw [ha]
  show ((ref11_Machine_look (N+3) ⟨p,m,((c+1:Nat):Int),0⟩ a ρ).bind fun x44=>_)=_
  rw [hN,Option.bind_some]
  show As (AR.at (N+3)) (N+3) e ρ (BJ (AR.at (N+3)) (N+3) e ρ (N+1)) [M2] 1 p.funcs m c' y=_
  unfold As
  rw [ha]
  show (bif (y != 0) then _ else _)=_
  rw [show (y != 0)=true by simpa using hy];rfl
 | @un c e ρ a x c' r h ho ha _ hr ih=>
  refine go h (by omega) (Ev.down 3 (((ih.up 3).and (L7 (2^54))).mono fun N hN=>?_))
  unfold BH
  rw [show (e.op==19)=false by simp;omega,show (e.op==20)=false by simp;omega,show (e.op==21)=false by simp;omega,show (e.op==22)=false by simp;omega]
  have hA:=(hr (N+3) (by have:=hN.2;omega)).2
  generalize hop:e.op=op at*
  show As (AR.at (N+3)) (N+3) e ρ (BJ (AR.at (N+3)) (N+3) e ρ (N+2)) [] 0 p.funcs m ((c+1:Nat):Int) 0=_
  unfold As
  rw [ha]
  show ((ref11_Machine_look (N+3) ⟨p,m,((c+1:Nat):Int),0⟩ a ρ).bind fun x44=>_)=_
  rw [hN.1,Option.bind_some]
  show As (AR.at (N+3)) (N+3) e ρ (BJ (AR.at (N+3)) (N+3) e ρ (N+1)) [x.plain] 1 p.funcs m c' 0=_
  unfold As
  rw [ha,hop]
  show ((GB (N+3) op [x.plain]).bind fun x1299=>bif (x1299.2 != 0) then _ else _)=_
  rw [hA,Option.bind_some,fin]
  cases (r.2 != 0)<;>rfl
 | @biE c e ρ a b y c' h ho ha h1 ih=>
  have hy:=Ob h1 y rfl
  refine go h (by omega) (Ev.down 3 ((ih.up 3).mono fun N hN=>?_))
  unfold BH
  rw [show (e.op==19)=false by simp;omega,show (e.op==20)=false by simp;omega,show (e.op==21)=false by simp;omega,show (e.op==22)=false by simp;omega]
  show As (AR.at (N+3)) (N+3) e ρ (BJ (AR.at (N+3)) (N+3) e ρ (N+2)) [] 0 p.funcs m ((c+1:Nat):Int) 0=_
  unfold As
  rw [ha]
  show ((ref11_Machine_look (N+3) ⟨p,m,((c+1:Nat):Int),0⟩ a ρ).bind fun x44=>_)=_
  rw [hN,Option.bind_some]
  show As (AR.at (N+3)) (N+3) e ρ (BJ (AR.at (N+3)) (N+3) e ρ (N+1)) [M2] 1 p.funcs m c' y=_
  unfold As
  rw [ha]
  show ((ref11_Machine_look (N+3) ⟨p,m,c',y⟩ b ρ).bind fun x44=>_)=_
  rw [WR hy,Option.bind_some]
  show As (AR.at (N+3)) (N+3) e ρ (BJ (AR.at (N+3)) (N+3) e ρ N) [M2,M2] 2 p.funcs m c' y=_
  unfold As
  rw [ha]
  show (bif (y != 0) then _ else _)=_
  rw [show (y != 0)=true by simpa using hy];rfl
 | @biE2 c e ρ a b x c1 y c' h ho ha _ h2 ih1 ih2=>
  have hy:=Ob h2 y rfl
  refine go h (by omega) (Ev.down 3 (((ih1.up 3).and (ih2.up 3)).mono fun N hN=>?_))
  unfold BH
  rw [show (e.op==19)=false by simp;omega,show (e.op==20)=false by simp;omega,show (e.op==21)=false by simp;omega,show (e.op==22)=false by simp;omega]
  show As (AR.at (N+3)) (N+3) e ρ (BJ (AR.at (N+3)) (N+3) e ρ (N+2)) [] 0 p.funcs m ((c+1:Nat):Int) 0=_
  unfold As
  rw [ha]
  show ((ref11_Machine_look (N+3) ⟨p,m,((c+1:Nat):Int),0⟩ a ρ).bind fun x44=>_)=_
  rw [hN.1,Option.bind_some]
  show As (AR.at (N+3)) (N+3) e ρ (BJ (AR.at (N+3)) (N+3) e ρ (N+1)) [x.plain] 1 p.funcs m c1 0=_
  unfold As
  rw [ha]
  show ((ref11_Machine_look (N+3) ⟨p,m,c1,0⟩ b ρ).bind fun x44=>_)=_
  rw [hN.2,Option.bind_some]
  show As (AR.at (N+3)) (N+3) e ρ (BJ (AR.at (N+3)) (N+3) e ρ N) [x.plain,M2] 2 p.funcs m c' y=_
  unfold As
  rw [ha]
  show (bif (y != 0) then _ else _)=_
  rw [show (y != 0)=true by simpa using hy];rfl
 | @bi c e ρ a b x c1 z c' r h ho ha _ _ hr ih1 ih2=>
  refine go h (by omega) (Ev.down 3 ((((ih1.up 3).and (ih2.up 3)).and (L7 (2^54))).mono fun N hN=>?_))
  unfold BH
  rw [show (e.op==19)=false by simp;omega,show (e.op==20)=false by simp;omega,show (e.op==21)=false by simp;omega,show (e.op==22)=false by simp;omega]
  have hA:=(hr (N+3) (by have:=hN.2;omega)).2
  generalize hop:e.op=op at*
  show As (AR.at (N+3)) (N+3) e ρ (BJ (AR.at (N+3)) (N+3) e ρ (N+2)) [] 0 p.funcs m ((c+1:Nat):Int) 0=_
  unfold As
  rw [ha]
  show ((ref11_Machine_look (N+3) ⟨p,m,((c+1:Nat):Int),0⟩ a ρ).bind fun x44=>_)=_
  rw [hN.1.1,Option.bind_some]
  show As (AR.at (N+3)) (N+3) e ρ (BJ (AR.at (N+3)) (N+3) e ρ (N+1)) [x.plain] 1 p.funcs m c1 0=_
  unfold As
  rw [ha]
  show ((ref11_Machine_look (N+3) ⟨p,m,c1,0⟩ b ρ).bind fun x44=>_)=_
  rw [hN.1.2,Option.bind_some]
  show As (AR.at (N+3)) (N+3) e ρ (BJ (AR.at (N+3)) (N+3) e ρ N) [x.plain,z.plain] 2 p.funcs m c' 0=_
  unfold As
  rw [ha,hop]
  show ((GB (N+3) op [x.plain,z.plain]).bind fun x1299=>bif (x1299.2 != 0) then _ else _)=_
  rw [hA,Option.bind_some,fin]
  cases (r.2 != 0)<;>rfl
end
end Fth
namespace Fth
open Go
def QT(Γ:List AH)(nm:List UInt8):Option Int:=(Γ.find? fun x=>x.name==nm).map (·.type_)
def Win(Γ:List AH)(e:AD)(i:Nat):List AH:=
 if e.op=21∨(e.op=22∧i=1) then ⟨e.name,e.type_,0⟩::Γ else if e.op=20∧i=2 then ⟨e.tail,3,0⟩::⟨e.name,1,0⟩::Γ else Γ
def Wan(p:AN)(e:AD)(i:Nat)(t:Int):Int:=
 if e.op=14 then 2 else if e.op=18∧i=1 then 3 else if e.op=7 then (match (hd p e.name).bind fun f=>f.params[i]? with |some x=>x.type_|none=>1)
 else if e.op=19 then (if i=0 then 2 else t) else if e.op=20 then (if i=0 then 3 else t) else if e.op=21∨e.op=22 then (if i=0 then e.type_ else t) else 1
structure OwT(p:AN)(Γ:List AH)(e:AD)(t:Int):Prop where
 n:(e.op=1∨(8≤e.op∧e.op≤11)∨(15≤e.op∧e.op≤17))→t=1
 b:(e.op=2∨e.op=3∨(12≤e.op∧e.op≤14))→t=2
 l:(e.op=4∨e.op=18)→t=3
 f:e.op=5→t=e.type_
 v:e.op=6→QT Γ e.name=some t
 c:e.op=7→∃f,hd p e.name=some f∧f.params.length=e.args.length∧f.type_=t
inductive WTy(p:AN):List AH→AD→Int→Prop
 |mk (Γ:List AH) (e:AD) (t:Int) (ho:OwT p Γ e t) (hs: ∀i a,e.args[i]?=some a→WTy p (Win Γ e i) a (Wan p e i t)):WTy p Γ e t
theorem WTy.own{p Γ e t}(h:WTy p Γ e t):OwT p Γ e t:=by cases h;assumption
theorem WTy.sub{p Γ e t}(h:WTy p Γ e t): ∀i a,e.args[i]?=some a→WTy p (Win Γ e i) a (Wan p e i t):=by cases h;assumption
def ch:Th→Nat
 | .done _ _ t=>1+ch t
 |_=>0
mutual
inductive EOK(p:AN)(L:Nat):List AH→Nm→Prop
 |nil:EOK p L [] .nil
 |bind (x:AH) (Γ:List AH) (t:Th) (ρ:Nm) (ht:TOK p L x.type_ t) (he:EOK p L Γ ρ):EOK p L (x::Γ) (.bind x.name t ρ)
 |letrec (x:AH) (Γ:List AH) (e:AD) (ρ:Nm) (hw:WTy p (x::Γ) e x.type_) (hwe:WE e) (ht:1≤x.type_∧x.type_≤3) (he:EOK p L Γ ρ):EOK p L (x::Γ) (.letrec x.name e ρ)
inductive TOK(p:AN)(L:Nat):Int→Th→Prop
 |val (t:Int) (v:AG) (hv:VV t v) (h3:t=3→v.list=[]):TOK p L t (.done v .nil .nil)
 |pair (h t:Th) (h1:TOK p L 1 h) (h2:TOK p L 3 t) (hc:ch t<L):TOK p L 3 (.done v0 h t)
 |later (Γ:List AH) (ρ:Nm) (e:AD) (t:Int) (he:EOK p L Γ ρ) (hw:WTy p Γ e t) (hwe:WE e) (ht:1≤t∧t≤3):TOK p L t (.later e ρ)
end
section
variable{p:AN}{L m:Nat}
theorem WS{t:Int}{h:Th}(hh:TOK p L t h):h.isNil=false:=by cases hh<;>rfl
theorem Ps{t:Int}{x:Ak}(h:TOK p L t (.done x.plain x.head x.tail))(h3:t≠3):VV t x.plain:=by
 obtain ⟨pl,hh,tl⟩:=x
 cases h with
 |val _ _ hv _=>exact hv
 |pair=>exact absurd rfl h3
theorem ABD{nm:List UInt8}: ∀(Γ:List AH) (ρ:Nm) (t:Int),EOK p L Γ ρ→QT Γ nm=some t→∃th,fnd nm ρ=some th∧TOK p L t th:=by
 intro Γ
 induction Γ with
 |nil=>intro ρ t _ h;simp [QT] at h
 |cons x Γ ih=>
  intro ρ t he h
  unfold QT at h
  rw [List.find?_cons] at h
  cases he with
  |bind _ _ th ρ ht he=>
   rw [fnd]
   cases hn:(x.name==nm)
   ·rw [hn] at h
    exact ih ρ t he h
   ·rw [hn] at h
    cases h
    exact ⟨th,rfl,ht⟩
  |letrec _ _ e ρ hw hwe ht he=>
   rw [fnd]
   cases hn:(x.name==nm)
   ·rw [hn] at h
    exact ih ρ t he h
   ·rw [hn] at h
    cases h
    exact ⟨_,rfl,.later (x::Γ) _ _ _ (.letrec x Γ e ρ hw hwe ht he) hw hwe ht⟩
theorem YD{Γ:List AH}{ρ:Nm}(hρ:EOK p L Γ ρ): ∀(ps:List AH) (zs:List AD) (Δ:List AH) (acc:Nm),ps.length=zs.length→EOK p L Δ acc→
  (∀(i:Nat) (x:AH) (a:AD),ps[i]?=some x→zs[i]?=some a→WTy p Γ a x.type_∧WE a∧1≤x.type_∧x.type_≤3)→EOK p L (ps.reverse++Δ) (Sg ρ ps zs acc):=by
 intro ps
 induction ps with
 |nil=>intro zs Δ acc h he _;cases zs with
  |nil=>exact he
  |cons=>cases h
 |cons x ps ih=>
  intro zs Δ acc h he ha
  cases zs with
  |nil=>cases h
  |cons a zs=>
   have h0:=ha 0 x a rfl rfl
   have:=ih zs (x::Δ) (.bind x.name (.later a ρ) acc) (by simpa using h) (.bind x Δ _ acc (.later Γ ρ a x.type_ hρ h0.1 h0.2.1 h0.2.2) he) fun i y b h1 h2=>ha (i+1) y b h1 h2
   rw [List.reverse_cons,List.append_assoc]
   exact this
def Rt(p:AN)(L m:Nat)(t:Int)(r:Except Int Ak)(c c':Nat):Prop:=
 match r with
 | .ok x=>TOK p L t (.done x.plain x.head x.tail)∧c<c'
 | .error y=>(y=60∧c'=m)∨((y=50∨y=51∨y=52)∧c<c')
theorem Rt.back{t t':Int}{r:Except Int Ak}{c c1 c':Nat}(h:Rt p L m t r c1 c')(hc:c≤c1)(ht:t=t'):Rt p L m t' r c c':=by
 subst ht
 cases r with
 |ok x=>exact ⟨h.1,by have:=h.2;omega⟩
 |error y=>exact h.imp id fun h=>⟨h.1,by have:=h.2;omega⟩
theorem Rt.err{t t':Int}{y:Int}{c c1 c':Nat}(h:Rt p L m t (.error y) c1 c')(hc:c≤c1):Rt p L m t' (.error y) c c':=
 Or.imp id (fun h=>⟨h.1,by have:=h.2;omega⟩) h
theorem QU{α:Type}{l:List α}(h:l.length=2): ∃a b,l=[a,b]:=by
 match l,h with
 | [a,b],_=>exact ⟨a,b,rfl⟩
theorem Si{α:Type}{l:List α}(h:l.length=3): ∃a b c,l=[a,b,c]:=by
 match l,h with
 | [a,b,c],_=>exact ⟨a,b,c,rfl⟩
theorem ABE{α:Type}{l:List α}(h:l.length=1): ∃a,l=[a]:=by
 match l,h with
 | [a],_=>exact ⟨a,rfl⟩
theorem YE(hp:WP p)(hS: ∀f∈p.funcs,WTy p f.params.reverse f.body f.type_)(hL:1≤L): ∀(k c:Nat),m - c≤k→c≤m→∀(Γ:List AH) (e:AD) (ρ:Nm) (t:Int),EOK p L Γ ρ→WTy p Γ e t→WE e→1≤t∧t≤3→
  ∃r c',Lk p m c e ρ r c'∧c≤c'∧c'≤m∧Rt p L m t r c c':=by
 intro k
 induction k with
 |zero=>
  intro c hk hc Γ e ρ t _ _ _ _
  exact ⟨_,_,.fuel (by omega),by omega,hc,.inl ⟨rfl,by omega⟩⟩
 |succ k ih=>
  intro c hk hc Γ e ρ t hρ hw he ht
  rcases Nat.lt_or_ge c m with h|h
  rotate_left
  ·exact ⟨_,_,.fuel h,by omega,hc,.inl ⟨rfl,by omega⟩⟩
  have ow:=hw.own
  have sb:=hw.sub
  have se:=he.sub
  have mem: ∀{i:Nat} {a:AD},e.args[i]?=some a→WE a:=fun h=>se _ (List.mem_of_getElem? h)
  rcases he.ar with ⟨h1,h2,h3⟩|h7| ⟨h1,h2,h3⟩| ⟨h1,h2,h3⟩| ⟨h1,h3⟩| ⟨h1,h2,h3⟩| ⟨h1,h2,h3⟩
  ·have hh:e.op=1∨e.op=2∨e.op=3∨e.op=4∨e.op=5∨e.op=6:=by omega
   rcases hh with ho|ho|ho|ho|ho|ho
   ·refine ⟨_,_,.num h ho,by omega,by omega,?_,by omega⟩
    rw [ow.n (.inl ho)]
    exact .val 1 _ (.inl ⟨rfl,rfl,he.num ho,rfl,rfl⟩) fun h=>by cases h
   ·refine ⟨_,_,.tru h ho,by omega,by omega,?_,by omega⟩
    rw [ow.b (.inl ho)]
    exact .val 2 _ (W0 _) fun h=>by cases h
   ·refine ⟨_,_,.fls h ho,by omega,by omega,?_,by omega⟩
    rw [ow.b (.inr (.inl ho))]
    exact .val 2 _ (W0 _) fun h=>by cases h
   ·refine ⟨_,_,.nil h ho,by omega,by omega,?_,by omega⟩
    rw [ow.l (.inl ho)]
    exact .val 3 _ (.inr (.inr ⟨rfl,rfl,rfl,rfl,by simp⟩)) fun _=>rfl
   ·exact ⟨_,_,.fail h ho,by omega,by omega,.inr ⟨.inr (.inr rfl),by omega⟩⟩
   ·obtain ⟨th,hf,htok⟩:=ABD Γ ρ t hρ (ow.v ho)
    cases th with
    |nil=>cases htok
    |done pl hh tl=>exact ⟨_,_,.vdone (x:=⟨pl,hh,tl⟩) h ho hf,by omega,by omega,htok,by omega⟩
    |later e' ρ'=>
     cases htok with
     |later Γ' _ _ _ he' hw' hwe' ht'=>
      obtain ⟨r,c',h1,h2,h3,h4⟩:=ih (c+1) (by omega) (by omega) Γ' e' ρ' t he' hw' hwe' ht'
      exact ⟨r,c',.vlater h ho hf h1,by omega,h3,h4.back (by omega) rfl⟩
  ·obtain ⟨f,hf,hl,hft⟩:=ow.c h7
   have hfm:f∈p.funcs:=List.mem_of_find?_eq_some hf
   have hfn:=hp.fns f hfm
   have henv:=YD hρ f.params e.args [] .nil hl .nil fun i x a hx ha=>by
    have h1:=sb i a ha
    have e1:Win Γ e i=Γ:=by unfold Win;rw [if_neg (by omega),if_neg (by omega)]
    have e2:Wan p e i t=x.type_:=by
     unfold Wan
     rw [if_neg (by omega),if_neg (by omega),if_pos h7,hf]
     show (match f.params[i]? with |some x=>x.type_|none=>1)=_
     rw [hx]
    rw [e1,e2] at h1
    exact ⟨h1,mem ha,hfn.ptyp x (List.mem_of_getElem? hx)⟩
   rw [List.append_nil] at henv
   obtain ⟨r,c',h1,h2,h3,h4⟩:=ih (c+1) (by omega) (by omega) _ f.body _ f.type_ henv (hS f hfm) hfn.body hfn.typ
   exact ⟨r,c',.call h h7 hf hl h1,by omega,h3,h4.back (by omega) hft⟩
  ·
   obtain ⟨a,b,ha⟩:=QU h3
   have wa:=sb 0 a (by rw [ha];rfl)
   have wb:=sb 1 b (by rw [ha];rfl)
   have e1: ∀i,Win Γ e i=Γ:=fun i=>by unfold Win;rw [if_neg (by omega),if_neg (by omega)]
   have e2: ∀i,Wan p e i t=1:=fun i=>by unfold Wan;rw [if_neg (by omega),if_neg (by omega),if_neg (by omega),if_neg (by omega),if_neg (by omega),if_neg (by omega)]
   rw [e1,e2] at wa wb
   obtain ⟨r1,c1,l1,l2,l3,l4⟩:=ih (c+1) (by omega) (by omega) Γ a ρ 1 hρ wa (mem (i:=0) (by rw [ha];rfl)) (by omega)
   cases r1 with
   |error y=>exact ⟨_,c1,.biE h ⟨h1,h2⟩ ha l1,by omega,l3,l4.err (by omega)⟩
   |ok x=>
    obtain ⟨r2,c2,k1,k2,k3,k4⟩:=ih c1 (by omega) l3 Γ b ρ 1 hρ wb (mem (i:=1) (by rw [ha];rfl)) (by omega)
    cases r2 with
    |error y=>exact ⟨_,c2,.biE2 h ⟨h1,h2⟩ ha l1 k1,by omega,k3,k4.err (by omega)⟩
    |ok z=>
     have vx:VV 1 x.plain:=Ps l4.1 (by decide)
     have vz:VV 1 z.plain:=Ps k4.1 (by decide)
     obtain ⟨r,hr,hA⟩:=U6 (op:=e.op) (args:=[x.plain,z.plain]) (.inl ⟨h1,h2,_,_,vx,vz,rfl⟩)
     refine ⟨fin r,c2,.bi h ⟨h1,h2⟩ ha l1 k1 hA,by omega,k3,?_⟩
     unfold fin
     rcases hr with ⟨hr0,hv⟩| ⟨hr0,_⟩
     ·rw [show (r.2 != 0)=false by rw [hr0];rfl]
      have hT:opT e.op=t:=by
       unfold opT
       rcases Decidable.em (e.op=12∨e.op=13∨e.op=14) with ho|ho
       ·rw [if_pos ho,ow.b (by omega)]
       ·rw [if_neg ho,ow.n (by omega)]
      refine ⟨.val t _ (hT▸hv) fun h3=>?_,by omega⟩
      have:=hT
      unfold opT at this
      split at this<;>omega
     ·rw [show (r.2 != 0)=true by simp;omega]
      exact .inr ⟨by omega,by omega⟩
  ·
   obtain ⟨a,ha⟩:=ABE h3
   have wa:=sb 0 a (by rw [ha];rfl)
   have e1: ∀i,Win Γ e i=Γ:=fun i=>by unfold Win;rw [if_neg (by omega),if_neg (by omega)]
   have e2:Wan p e 0 t=if e.op=14 then 2 else 1:=by
    unfold Wan
    rcases Decidable.em (e.op=14) with ho|ho
    ·rw [if_pos ho,if_pos ho]
    ·rw [if_neg ho,if_neg ho,if_neg (by omega),if_neg (by omega),if_neg (by omega),if_neg (by omega),if_neg (by omega)]
   rw [e1,e2] at wa
   obtain ⟨r1,c1,l1,l2,l3,l4⟩:=ih (c+1) (by omega) (by omega) Γ a ρ _ hρ wa (mem (i:=0) (by rw [ha];rfl)) (by split<;>omega)
   cases r1 with
   |error y=>exact ⟨_,c1,.unE h ⟨h1,h2⟩ ha l1,by omega,l3,l4.err (by omega)⟩
   |ok x=>
    have vx:VV (if e.op=14 then 2 else 1) x.plain:=Ps l4.1 (by split<;>decide)
    have hargs:(8≤e.op∧e.op≤13∧∃a b,VV 1 a∧VV 1 b∧[x.plain]=[a,b])∨(e.op=14∧∃a,VV 2 a∧[x.plain]=[a])∨(15≤e.op∧e.op≤17∧∃a,VV 1 a∧[x.plain]=[a]):=by
     rcases Decidable.em (e.op=14) with ho|ho
     ·rw [if_pos ho] at vx;exact .inr (.inl ⟨ho,_,vx,rfl⟩)
     ·rw [if_neg ho] at vx;exact .inr (.inr ⟨by omega,by omega,_,vx,rfl⟩)
    obtain ⟨r,hr,hA⟩:=U6 hargs
    refine ⟨fin r,c1,.un h ⟨h1,h2⟩ ha l1 hA,by omega,l3,?_⟩
    unfold fin
    rcases hr with ⟨hr0,hv⟩| ⟨hr0,_⟩
    ·rw [show (r.2 != 0)=false by rw [hr0];rfl]
     have hT:opT e.op=t:=by
      unfold opT
      rcases Decidable.em (e.op=12∨e.op=13∨e.op=14) with ho|ho
      ·rw [if_pos ho,ow.b (by omega)]
      ·rw [if_neg ho,ow.n (by omega)]
     refine ⟨.val t _ (hT▸hv) fun h3=>?_,by omega⟩
     have:=hT
     unfold opT at this
     split at this<;>omega
    ·rw [show (r.2 != 0)=true by simp;omega]
     exact .inr ⟨by omega,by omega⟩
  ·
   obtain ⟨a,b,ha⟩:=QU h3
   have wa:=sb 0 a (by rw [ha];rfl)
   have wb:=sb 1 b (by rw [ha];rfl)
   have e1: ∀i,Win Γ e i=Γ:=fun i=>by unfold Win;rw [if_neg (by omega),if_neg (by omega)]
   have e2:Wan p e 0 t=1:=by unfold Wan;rw [if_neg (by omega),if_neg (by omega),if_neg (by omega),if_neg (by omega),if_neg (by omega),if_neg (by omega)]
   have e3:Wan p e 1 t=3:=by unfold Wan;rw [if_neg (by omega),if_pos ⟨h1,rfl⟩]
   rw [e1,e2] at wa
   rw [e1,e3] at wb
   refine ⟨_,_,.cons h h1 ha,by omega,by omega,?_,by omega⟩
   rw [ow.l (.inr h1)]
   exact .pair _ _ (.later Γ ρ a 1 hρ wa (mem (i:=0) (by rw [ha];rfl)) (by omega)) (.later Γ ρ b 3 hρ wb (mem (i:=1) (by rw [ha];rfl)) (by omega)) (by simp only [ch];omega)
  ·obtain ⟨a,b,d,ha⟩:=Si h3
   have wa:=sb 0 a (by rw [ha];rfl)
   have wb:=sb 1 b (by rw [ha];rfl)
   have wd:=sb 2 d (by rw [ha];rfl)
   have ma:=mem (i:=0) (a:=a) (by rw [ha];rfl)
   have mb:=mem (i:=1) (a:=b) (by rw [ha];rfl)
   have md:=mem (i:=2) (a:=d) (by rw [ha];rfl)
   rcases (show e.op=19∨e.op=20 by omega) with ho|ho
   ·have e1: ∀i,Win Γ e i=Γ:=fun i=>by unfold Win;rw [if_neg (by omega),if_neg (by omega)]
    have e2: ∀i,Wan p e i t=if i=0 then 2 else t:=fun i=>by unfold Wan;rw [if_neg (by omega),if_neg (by omega),if_neg (by omega),if_pos ho]
    rw [e1,e2] at wa wb wd
    obtain ⟨r1,c1,l1,l2,l3,l4⟩:=ih (c+1) (by omega) (by omega) Γ a ρ 2 hρ wa ma (by omega)
    cases r1 with
    |error y=>exact ⟨_,c1,.ifE h ho ha l1,by omega,l3,l4.err (by omega)⟩
    |ok x=>
     cases hb:x.plain.bool
     ·obtain ⟨r2,c2,k1,k2,k3,k4⟩:=ih c1 (by omega) l3 Γ d ρ t hρ wd md ht
      exact ⟨r2,c2,.ifF h ho ha l1 hb k1,by omega,k3,k4.back (by omega) rfl⟩
     ·obtain ⟨r2,c2,k1,k2,k3,k4⟩:=ih c1 (by omega) l3 Γ b ρ t hρ wb mb ht
      exact ⟨r2,c2,.ifT h ho ha l1 hb k1,by omega,k3,k4.back (by omega) rfl⟩
   ·have e1: ∀i,i≠2→Win Γ e i=Γ:=fun i hi=>by unfold Win;rw [if_neg (by omega),if_neg (by omega)]
    have e1':Win Γ e 2=⟨e.tail,3,0⟩::⟨e.name,1,0⟩::Γ:=by unfold Win;rw [if_neg (by omega),if_pos ⟨ho,rfl⟩]
    have e2: ∀i,Wan p e i t=if i=0 then 3 else t:=fun i=>by unfold Wan;rw [if_neg (by omega),if_neg (by omega),if_neg (by omega),if_neg (by omega),if_pos ho]
    rw [e1 _ (by omega),e2] at wa wb
    rw [e1',e2] at wd
    obtain ⟨r1,c1,l1,l2,l3,l4⟩:=ih (c+1) (by omega) (by omega) Γ a ρ 3 hρ wa ma (by omega)
    cases r1 with
    |error y=>exact ⟨_,c1,.caE h ho ha l1,by omega,l3,l4.err (by omega)⟩
    |ok x=>
     obtain ⟨pl,hx,tx⟩:=x
     have hl4:=l4.1
     simp only at hl4
     generalize hT:(3:Int)=T3 at hl4
     cases hl4 with
     |val _ _ hv h3=>
      obtain ⟨r2,c2,k1,k2,k3,k4⟩:=ih c1 (by omega) l3 Γ b ρ t hρ wb mb ht
      exact ⟨r2,c2,.caN h ho ha l1 rfl k1,by omega,k3,k4.back (by omega) rfl⟩
     |pair _ _ t1 t2 hc=>
      have henv:EOK p L (⟨e.tail,3,0⟩::⟨e.name,1,0⟩::Γ) (.bind e.tail tx (.bind e.name hx ρ)):= .bind ⟨e.tail,3,0⟩ _ _ _ t2 (.bind ⟨e.name,1,0⟩ _ _ _ t1 hρ)
      obtain ⟨r2,c2,k1,k2,k3,k4⟩:=ih c1 (by omega) l3 _ d _ t henv wd md ht
      exact ⟨r2,c2,.caC h ho ha l1 (WS t1) k1,by omega,k3,k4.back (by omega) rfl⟩
  ·obtain ⟨a,b,ha⟩:=QU h3
   have wa:=sb 0 a (by rw [ha];rfl)
   have wb:=sb 1 b (by rw [ha];rfl)
   have ma:=mem (i:=0) (a:=a) (by rw [ha];rfl)
   have mb:=mem (i:=1) (a:=b) (by rw [ha];rfl)
   have e2: ∀i,Wan p e i t=if i=0 then e.type_ else t:=fun i=>by unfold Wan;rw [if_neg (by omega),if_neg (by omega),if_neg (by omega),if_neg (by omega),if_neg (by omega),if_pos (by omega)]
   have et:=he.typ (by omega)
   rcases (show e.op=21∨e.op=22 by omega) with ho|ho
   ·have e1: ∀i,Win Γ e i=⟨e.name,e.type_,0⟩::Γ:=fun i=>by unfold Win;rw [if_pos (.inl ho)]
    rw [e1,e2] at wa wb
    have henv:EOK p L (⟨e.name,e.type_,0⟩::Γ) (.letrec e.name a ρ):= .letrec ⟨e.name,e.type_,0⟩ Γ a ρ wa ma et hρ
    obtain ⟨r2,c2,k1,k2,k3,k4⟩:=ih (c+1) (by omega) (by omega) _ b _ t henv wb mb ht
    exact ⟨r2,c2,.lt h ho ha k1,by omega,k3,k4.back (by omega) rfl⟩
   ·have e1:Win Γ e 0=Γ:=by unfold Win;rw [if_neg (by omega),if_neg (by omega)]
    have e1':Win Γ e 1=⟨e.name,e.type_,0⟩::Γ:=by unfold Win;rw [if_pos (.inr ⟨ho,rfl⟩)]
    rw [e1,e2] at wa
    rw [e1',e2] at wb
    obtain ⟨r1,c1,l1,l2,l3,l4⟩:=ih (c+1) (by omega) (by omega) Γ a ρ _ hρ wa ma et
    cases r1 with
    |error y=>exact ⟨_,c1,.stE h ho ha l1,by omega,l3,l4.err (by omega)⟩
    |ok x=>
     have henv:EOK p L (⟨e.name,e.type_,0⟩::Γ) (.bind e.name (.done x.plain x.head x.tail) ρ):= .bind ⟨e.name,e.type_,0⟩ Γ _ ρ l4.1 hρ
     obtain ⟨r2,c2,k1,k2,k3,k4⟩:=ih c1 (by omega) l3 _ b _ t henv wb mb ht
     exact ⟨r2,c2,.stV h ho ha l1 k1,by omega,k3,k4.back (by omega) rfl⟩
end
end Fth
namespace Fth
open Go
inductive Tg(p:AN)(m:Nat):Nat→Th→Except Int Ak→Nat→Prop
 |done {c:Nat} {x:Ak}:Tg p m c (.done x.plain x.head x.tail) (.ok x) c
 |later {c e ρ r c'} (h:Lk p m c e ρ r c'):Tg p m c (.later e ρ) r c'
inductive Wl(p:AN)(m:Nat):Nat→Th→Th→List (Nat×Nat)→Except Int AG→Nat→Prop
 |hE {c h t acc y c'} (hb:acc.length≤34000000000) (h1:Tg p m c h (.error y) c'):Wl p m c h t acc (.error y) c'
 |tE {c h t acc x c1 y c'} (hb:acc.length≤34000000000) (h1:Tg p m c h (.ok x) c1) (h2:Tg p m c1 t (.error y) c'):Wl p m c h t acc (.error y) c'
 |stop {c h t acc x c1 z c'} (hb:acc.length≤34000000000) (h1:Tg p m c h (.ok x) c1) (h2:Tg p m c1 t (.ok z) c') (hz:z.head.isNil=true):Wl p m c h t acc (.ok ⟨3,(0,0),false,acc++[x.plain.num]⟩) c'
 |go {c h t acc x c1 z c2 r c'} (hb:acc.length≤34000000000) (h1:Tg p m c h (.ok x) c1) (h2:Tg p m c1 t (.ok z) c2) (hz:z.head.isNil=false) (h3:Wl p m c2 z.head z.tail (acc++[x.plain.num]) r c'):Wl p m c h t acc r c'
inductive Wh(p:AN)(m:Nat):Nat→Ak→Except Int AG→Nat→Prop
 |plain {c x} (hx:x.head.isNil=true):Wh p m c x (.ok x.plain) c
 |list {c x r c'} (hx:x.head.isNil=false) (h:Wl p m c x.head x.tail [] r c'):Wh p m c x r c'
inductive Rn(p:AN)(m:Nat):AD→Nm→Except Int AG→Nat→Prop
 |err {e ρ y c'} (h:Lk p m 0 e ρ (.error y) c'):Rn p m e ρ (.error y) c'
 |val {e ρ x c1 r c'} (h:Lk p m 0 e ρ (.ok x) c1) (h2:Wh p m c1 x r c'):Rn p m e ρ r c'
def rwv:Except Int AG→Int
 | .ok _=>0
 | .error y=>y
section
variable{p:AN}{m:Nat}{mp:Ae}
theorem YF{c:Nat}{h:Th}{r:Except Int Ak}{c':Nat}(ht:Tg p m c h r c'): ∀y,r= .error y→y≠0:=by
 cases ht with
 |done=>rintro y ⟨⟩
 |later h=>exact Ob h
theorem NU(hp:WP p)(hmp:Mpp p mp)(hm:m≤16384){c:Nat}{h:Th}{r:Except Int Ak}{c':Nat}(ht:Tg p m c h r c'):Ev fun N=>mean_callth N p.funcs c m mp h=some (r,p.funcs,(c':Int),(m:Int)):=by
 cases ht with
 |done=>exact Ev.down 1 (Ev.all fun N=>rfl)
 |later h=>
  rename_i e ρ
  refine Ev.down 2 ((Pq hp hmp hm h).mono fun N hN=>?_)
  show ((mean_run_look N p.funcs c m mp e ρ).bind fun x29=>IR x29.1 (fun y43=>some ((Except.error y43:Except Int Ak),x29.2.1,x29.2.2.1,x29.2.2.2)) fun r45=>some ((Except.ok r45:Except Int Ak),x29.2.1,x29.2.2.1,x29.2.2.2))=_
  rw [hN]
  exact Oa _ _
theorem PK(hp:WP p)(hm:m≤16384){c:Nat}{h:Th}{r:Except Int Ak}{c':Nat}(ht:Tg p m c h r c'):Ev fun N=>ref11_Machine_of N ⟨p,m,c,0⟩ h=some (rth r,⟨p,m,c',rwy r⟩):=by
 cases ht with
 |done=>exact Ev.down 1 (Ev.all fun N=>rfl)
 |later h=>
  rename_i e ρ
  refine Ev.down 1 ((Vq hp hm h).mono fun N hN=>?_)
  show ((ref11_Machine_look N ⟨p,m,c,0⟩ e ρ).bind fun x131=>some (x131.1,x131.2))=_
  rw [hN];rfl
theorem Zd{N:Nat}{c y:Int}{h:Th}(hy:y≠0):ref11_Machine_of (N+1) ⟨p,m,c,y⟩ h=some (h,⟨p,m,c,y⟩):=by
 show KN _ N ⟨p,m,c,y⟩ h=_
 unfold KN
 rw [show (((Af.mk p m c y).why != 0))=true by simpa using hy];rfl
theorem Sj{acc:List (Nat×Nat)}{z:Nat×Nat}(h:acc.length≤34000000000):GD 16 acc [z]=some ():=by
 obtain ⟨u,hu,_⟩:=F1 (b:=16) (xs:=acc) (ys:=[z]) (by decide) (by simp;omega)
 exact hu
theorem Ze(hp:WP p)(hmp:Mpp p mp)(hm:m≤16384){c:Nat}{h t:Th}{acc:List (Nat×Nat)}{r:Except Int AG}{c':Nat}(hw:Wl p m c h t acc r c')(hn:h.isNil=false):
  ∃k0,Ev fun N=>∀k,k0≤k→∀(a:Int) (b:Nat×Nat) (d:Bool) (l:List (Nat×Nat)),DY N mp k p.funcs c m a b d l h t acc=some (r,p.funcs,(c':Int),(m:Int)):=by
 induction hw with
 | @hE c h t acc y c' hb h1=>
  refine ⟨1,(NU hp hmp hm h1).mono fun N hN k hk a b d l=>?_⟩
  obtain ⟨k,rfl⟩: ∃j,k=j+1:=⟨k - 1,by omega⟩
  show CH N mp (DY N mp k) p.funcs c m a b d l h t acc=_
  unfold CH
  rw [hn,hN];rfl
 | @tE c h t acc x c1 y c' hb h1 h2=>
  refine ⟨1,((NU hp hmp hm h1).and (NU hp hmp hm h2)).mono fun N hN k hk a b d l=>?_⟩
  obtain ⟨k,rfl⟩: ∃j,k=j+1:=⟨k - 1,by omega⟩
  show CH N mp (DY N mp k) p.funcs c m a b d l h t acc=_
  unfold CH
  rw [hn,hN.1]
  show ((GD 16 acc [x.plain.num]).bind fun _=>(mean_callth N p.funcs c1 m mp t).bind fun x730=>_)=_
  rw [Sj hb,Option.bind_some,hN.2];rfl
 | @stop c h t acc x c1 z c' hb h1 h2 hz=>
  refine ⟨2,((NU hp hmp hm h1).and (NU hp hmp hm h2)).mono fun N hN k hk a b d l=>?_⟩
  obtain ⟨k,rfl⟩: ∃j,k=j+2:=⟨k - 2,by omega⟩
  show CH N mp (DY N mp (k+1)) p.funcs c m a b d l h t acc=_
  unfold CH
  rw [hn,hN.1]
  show ((GD 16 acc [x.plain.num]).bind fun _=>(mean_callth N p.funcs c1 m mp t).bind fun x730=>_)=_
  rw [Sj hb,Option.bind_some,hN.2]
  show CH N mp (DY N mp k) p.funcs c' m z.plain.type_ z.plain.num z.plain.bool z.plain.list z.head z.tail (acc++[x.plain.num])=_
  unfold CH
  rw [hz];rfl
 | @go c h t acc x c1 z c2 r c' hb h1 h2 hz _ ih=>
  obtain ⟨k0,ih⟩:=ih hz
  refine ⟨k0+1,(((NU hp hmp hm h1).and (NU hp hmp hm h2)).and ih).mono fun N hN k hk a b d l=>?_⟩
  obtain ⟨k,rfl⟩: ∃j,k=j+1:=⟨k - 1,by omega⟩
  show CH N mp (DY N mp k) p.funcs c m a b d l h t acc=_
  unfold CH
  rw [hn,hN.1.1]
  show ((GD 16 acc [x.plain.num]).bind fun _=>(mean_callth N p.funcs c1 m mp t).bind fun x730=>_)=_
  rw [Sj hb,Option.bind_some,hN.1.2]
  exact hN.2 k (by omega) _ _ _ _
theorem US(hp:WP p)(hmp:Mpp p mp)(hm:m≤16384){c:Nat}{x:Ak}{r:Except Int AG}{c':Nat}(hw:Wh p m c x r c'):Ev fun N=>Dr N p.funcs c m mp x=some (r,p.funcs,(c':Int),(m:Int)):=by
 cases hw with
 |plain hx=>
  refine Ev.all fun N=>?_
  unfold Dr
  rw [hx];rfl
 |list hx h=>
  obtain ⟨k0,h⟩:=Ze hp hmp hm h hx
  refine (h.and (L7 k0)).mono fun N hN=>?_
  unfold Dr
  rw [hx]
  exact hN.1 N hN.2 _ _ _ _
theorem ABF(hp:WP p)(hm:m≤16384){c:Nat}{h t:Th}{acc:List (Nat×Nat)}{r:Except Int AG}{c':Nat}(hw:Wl p m c h t acc r c')(hn:h.isNil=false):
  ∃k0,Ev fun N=>∀k,k0≤k→∀(pl:AG),∃v,B0 N k (.done pl h t) p.funcs m c 0 acc=some (v,⟨p,m,c',rwv r⟩)∧∀u,r= .ok u→v=u:=by
 induction hw with
 | @hE c h t acc y c' hb h1=>
  have hy:=YF h1 y rfl
  refine ⟨2,Ev.down 1 (((PK hp hm h1).up 1).mono fun N hN k hk pl=>?_)⟩
  obtain ⟨k,rfl⟩: ∃j,k=j+2:=⟨k - 2,by omega⟩
  refine ⟨⟨3,(0,0),false,acc++[M2.num]⟩,?_,fun u h=>by cases h⟩
  show Bj (N+1) (.done pl h t) p.funcs m c 0 acc (B0 (N+1) (k+1)) (!h.isNil)=_
  unfold Bj
  rw [hn]
  show ((ref11_Machine_of (N+1) ⟨p,m,c,0⟩ h).bind fun x764=>_)=_
  rw [hN]
  show ((GD 16 acc [M2.num]).bind fun _=>(ref11_Machine_of (N+1) ⟨p,m,c',y⟩ t).bind fun x901=>_)=_
  rw [Sj hb,Option.bind_some,Zd hy,Option.bind_some]
  show Ds (N+1) (B0 (N+1) k) t p.funcs m c' y (acc++[M2.num])=_
  unfold Ds
  rw [show (y==0)=false by simpa using hy];rfl
 | @tE c h t acc x c1 y c' hb h1 h2=>
  have hy:=YF h2 y rfl
  refine ⟨2,(((PK hp hm h1).and (PK hp hm h2)).mono fun N hN k hk pl=>?_)⟩
  obtain ⟨k,rfl⟩: ∃j,k=j+2:=⟨k - 2,by omega⟩
  refine ⟨⟨3,(0,0),false,acc++[x.plain.num]⟩,?_,fun u h=>by cases h⟩
  show Bj N (.done pl h t) p.funcs m c 0 acc (B0 N (k+1)) (!h.isNil)=_
  unfold Bj
  rw [hn]
  show ((ref11_Machine_of N ⟨p,m,c,0⟩ h).bind fun x764=>_)=_
  rw [hN.1]
  show ((GD 16 acc [x.plain.num]).bind fun _=>(ref11_Machine_of N ⟨p,m,c1,0⟩ t).bind fun x901=>_)=_
  rw [Sj hb,Option.bind_some,hN.2,Option.bind_some]
  show Ds N (B0 N k) th0 p.funcs m c' y (acc++[x.plain.num])=_
  unfold Ds
  rw [show (y==0)=false by simpa using hy];rfl
 | @stop c h t acc x c1 z c' hb h1 h2 hz=>
  refine ⟨2,(((PK hp hm h1).and (PK hp hm h2)).mono fun N hN k hk pl=>?_)⟩
  obtain ⟨k,rfl⟩: ∃j,k=j+2:=⟨k - 2,by omega⟩
  refine ⟨⟨3,(0,0),false,acc++[x.plain.num]⟩,?_,fun u h=>by cases h;rfl⟩
  show Bj N (.done pl h t) p.funcs m c 0 acc (B0 N (k+1)) (!h.isNil)=_
  unfold Bj
  rw [hn]
  show ((ref11_Machine_of N ⟨p,m,c,0⟩ h).bind fun x764=>_)=_
  rw [hN.1]
  show ((GD 16 acc [x.plain.num]).bind fun _=>(ref11_Machine_of N ⟨p,m,c1,0⟩ t).bind fun x901=>_)=_
  rw [Sj hb,Option.bind_some,hN.2,Option.bind_some]
  show Bj N (.done z.plain z.head z.tail) p.funcs m c' 0 (acc++[x.plain.num]) (B0 N k) (!z.head.isNil)=_
  unfold Bj
  rw [hz];rfl
 | @go c h t acc x c1 z c2 r c' hb h1 h2 hz _ ih=>
  obtain ⟨k0,ih⟩:=ih hz
  refine ⟨k0+1,((((PK hp hm h1).and (PK hp hm h2)).and ih).mono fun N hN k hk pl=>?_)⟩
  obtain ⟨k,rfl⟩: ∃j,k=j+1:=⟨k - 1,by omega⟩
  obtain ⟨v,hv,hv'⟩:=hN.2 k (by omega) z.plain
  refine ⟨v,?_,hv'⟩
  show Bj N (.done pl h t) p.funcs m c 0 acc (B0 N k) (!h.isNil)=_
  unfold Bj
  rw [hn]
  show ((ref11_Machine_of N ⟨p,m,c,0⟩ h).bind fun x764=>_)=_
  rw [hN.1.1]
  show ((GD 16 acc [x.plain.num]).bind fun _=>(ref11_Machine_of N ⟨p,m,c1,0⟩ t).bind fun x901=>_)=_
  rw [Sj hb,Option.bind_some,hN.1.2]
  exact hv
theorem ABG(hp:WP p)(hm:m≤16384){c:Nat}{x:Ak}{r:Except Int AG}{c':Nat}(hw:Wh p m c x r c'):Ev fun N=>∃v,HP N ⟨p,m,c,0⟩ (.done x.plain x.head x.tail)=some (v,⟨p,m,c',rwv r⟩)∧∀u,r= .ok u→v=u:=by
 cases hw with
 |plain hx=>
  refine Ev.all fun N=>⟨x.plain,?_,fun u h=>by cases h;rfl⟩
  show Fw N ⟨p,m,c,0⟩ (.done x.plain x.head x.tail) (!!x.head.isNil)=_
  rw [hx];rfl
 |list hx h=>
  obtain ⟨k0,h⟩:=ABF hp hm h hx
  refine (h.and (L7 k0)).mono fun N hN=>?_
  obtain ⟨v,hv,hv'⟩:=hN.1 N hN.2 x.plain
  refine ⟨v,?_,hv'⟩
  show Fw N ⟨p,m,c,0⟩ (.done x.plain x.head x.tail) (!!x.head.isNil)=_
  rw [hx]
  exact hv
def Rv(m:Nat)(t:Int)(r:Except Int AG)(c':Nat):Prop:=
 match r with
 | .ok v=>VV t v∧0<c'∧v.list.length≤34000000001
 | .error y=>(y=60∧c'=m)∨((y=50∨y=51∨y=52)∧0<c')
variable{L:Nat}
theorem QV(hp:WP p)(hS: ∀f∈p.funcs,WTy p f.params.reverse f.body f.type_)(hL:1≤L){c:Nat}(hc:c≤m){t:Int}{h:Th}(ht:TOK p L t h):
  ∃r c',Tg p m c h r c'∧c≤c'∧c'≤m∧(∀y,r= .error y→(y=60∧c'=m)∨((y=50∨y=51∨y=52)∧c<c'))∧(∀x,r= .ok x→TOK p L t (.done x.plain x.head x.tail)∧(c<c'∨(c'=c∧ch x.tail<ch h))):=by
 cases ht with
 |val _ v hv h3=>exact ⟨_,_,.done (x:=⟨v,.nil,.nil⟩),by omega,hc,fun y h=>(by cases h),fun x h=>by cases h;exact ⟨.val t v hv h3,.inr ⟨rfl,by simp [ch]⟩⟩⟩
 |pair a b h1 h2 h3=>exact ⟨_,_,.done (x:=⟨v0,a,b⟩),by omega,hc,fun y h=>(by cases h),fun x h=>by cases h;exact ⟨.pair a b h1 h2 h3,.inr ⟨rfl,by simp [ch]⟩⟩⟩
 |later Γ ρ e _ he hw hwe ht=>
  obtain ⟨r,c',l1,l2,l3,l4⟩:=YE hp hS hL (m - c) c (by omega) hc Γ e ρ t he hw hwe ht
  refine ⟨r,c',.later l1,l2,l3,fun y h=>?_,fun x h=>?_⟩
  ·subst h;exact l4
  ·subst h;exact ⟨l4.1,.inl l4.2⟩
theorem ABH(hp:WP p)(hS: ∀f∈p.funcs,WTy p f.params.reverse f.body f.type_)(hL:1≤L): ∀(k n c:Nat) (h t:Th) (acc:List (Nat×Nat)),m - c≤k→ch t≤n→c≤m→TOK p L 1 h→TOK p L 3 t→acc.length+ch t+(L+1)*(m - c)≤34000000000→(∀z∈acc,Gn z)→
  ∃r c',Wl p m c h t acc r c'∧c≤c'∧c'≤m∧(∀y,r= .error y→(y=60∧c'=m)∨((y=50∨y=51∨y=52)∧c<c'))∧∀v,r= .ok v→VV 3 v∧v.list.length≤34000000001:=by
 intro k
 induction k with
 |zero=>
  intro n
  induction n with
  |zero=>
   intro c h t acc hk hn hc h1 h3 hb hg
   obtain ⟨r,c1,t1,t2,t3,t4,t5⟩:=QV hp hS hL hc h1
   cases r with
   |error y=>exact ⟨_,c1,.hE (by omega) t1,t2,t3,fun z hz=>by cases hz;exact t4 y rfl,fun v hv=>by cases hv⟩
   |ok x=>
    have hc1:c1=c:=by omega
    obtain ⟨r2,c2,s1,s2,s3,s4,s5⟩:=QV hp hS hL t3 h3
    cases r2 with
    |error y=>exact ⟨_,c2,.tE (by omega) t1 s1,by omega,s3,fun z hz=>by cases hz;rw [hc1] at s4;exact s4 y rfl,fun v hv=>by cases hv⟩
    |ok z=>have:=(s5 z rfl).2;omega
  |succ n ih=>
   intro c h t acc hk hn hc h1 h3 hb hg
   obtain ⟨r,c1,t1,t2,t3,t4,t5⟩:=QV hp hS hL hc h1
   cases r with
   |error y=>exact ⟨_,c1,.hE (by omega) t1,t2,t3,fun z hz=>by cases hz;exact t4 y rfl,fun v hv=>by cases hv⟩
   |ok x=>
    have hc1:c1=c:=by omega
    have vx:=Ps (t5 x rfl).1 (by decide)
    obtain ⟨a,ha,hae⟩:=vv1 vx
    have gx:Gn x.plain.num:=by rw [hae];exact .of ha
    obtain ⟨r2,c2,s1,s2,s3,s4,s5⟩:=QV hp hS hL t3 h3
    cases r2 with
    |error y=>exact ⟨_,c2,.tE (by omega) t1 s1,by omega,s3,fun z hz=>by cases hz;rw [hc1] at s4;exact s4 y rfl,fun v hv=>by cases hv⟩
    |ok z=>
     have s6:=s5 z rfl
     have hg': ∀w∈acc++[x.plain.num],Gn w:=fun w hw=>by
      rcases List.mem_append.1 hw with hw|hw
      ·exact hg w hw
      ·simp at hw;subst hw;exact gx
     obtain ⟨zp,zh,zt⟩:=z
     cases hz:zh.isNil
     ·have hp2:TOK p L 1 zh∧TOK p L 3 zt:=by
       have:=s6.1
       simp only at this
       generalize (3:Int)=T3 at this
       cases this with
       |val=>cases hz
       |pair _ _ a b _=>exact ⟨a,b⟩
      have hch:ch zt<ch t:=by have:=s6.2;simp only at this;omega
      obtain ⟨r,c',w1,w2,w3,w4,w5⟩:=ih c2 zh zt (acc++[x.plain.num]) (by omega) (by omega) s3 hp2.1 hp2.2 (by rw [List.length_append,List.length_singleton,show m - c2=m - c by omega];omega) hg'
      exact ⟨r,c',.go (by omega) t1 s1 hz w1,by omega,w3,fun y hy=>(w4 y hy).imp id fun h=>⟨h.1,by omega⟩,w5⟩
     ·exact ⟨_,c2,.stop (by omega) t1 s1 hz,by omega,s3,fun y h=>(by cases h),fun v hv=>by cases hv;exact ⟨.inr (.inr ⟨rfl,rfl,rfl,rfl,hg'⟩),by simp;omega⟩⟩
 |succ k ihk=>
  intro n
  induction n using Nat.strongRecOn with
  |ind n ih=>
   intro c h t acc hk hn hc h1 h3 hb hg
   obtain ⟨r,c1,t1,t2,t3,t4,t5⟩:=QV hp hS hL hc h1
   cases r with
   |error y=>exact ⟨_,c1,.hE (by omega) t1,t2,t3,fun z hz=>by cases hz;exact t4 y rfl,fun v hv=>by cases hv⟩
   |ok x=>
    have vx:=Ps (t5 x rfl).1 (by decide)
    obtain ⟨a,ha,hae⟩:=vv1 vx
    have gx:Gn x.plain.num:=by rw [hae];exact .of ha
    obtain ⟨r2,c2,s1,s2,s3,s4,s5⟩:=QV hp hS hL t3 h3
    cases r2 with
    |error y=>exact ⟨_,c2,.tE (by omega) t1 s1,by omega,s3,fun z hz=>by cases hz;exact (s4 y rfl).imp id fun h=>⟨h.1,by omega⟩,fun v hv=>by cases hv⟩
    |ok z=>
     have s6:=s5 z rfl
     have hg': ∀w∈acc++[x.plain.num],Gn w:=fun w hw=>by
      rcases List.mem_append.1 hw with hw|hw
      ·exact hg w hw
      ·simp at hw;subst hw;exact gx
     obtain ⟨zp,zh,zt⟩:=z
     cases hz:zh.isNil
     ·have hp2:TOK p L 1 zh∧TOK p L 3 zt∧ch zt<L:=by
       have:=s6.1
       simp only at this
       generalize (3:Int)=T3 at this
       cases this with
       |val=>cases hz
       |pair _ _ a b c=>exact ⟨a,b,c⟩
      rcases Nat.lt_or_ge c c2 with hlt|hge
      ·have hmul:(L+1)*(m - c2)+(L+1)≤(L+1)*(m - c):=by
        have:=Nat.mul_le_mul_left (L+1) (show m - c2+1≤m - c by omega)
        rw [Nat.mul_add,Nat.mul_one] at this;exact this
       obtain ⟨r,c',w1,w2,w3,w4,w5⟩:=ihk (ch zt) c2 zh zt (acc++[x.plain.num]) (by omega) (by omega) s3 hp2.1 hp2.2.1 (by rw [List.length_append,List.length_singleton];omega) hg'
       exact ⟨r,c',.go (by omega) t1 s1 hz w1,by omega,w3,fun y hy=>(w4 y hy).imp id fun h=>⟨h.1,by omega⟩,w5⟩
      ·have hch:ch zt<ch t:=by have:=s6.2;simp only at this;omega
       obtain ⟨r,c',w1,w2,w3,w4,w5⟩:=ih (ch zt) (by omega) c2 zh zt (acc++[x.plain.num]) (by omega) (by omega) s3 hp2.1 hp2.2.1 (by rw [List.length_append,List.length_singleton,show m - c2=m - c by omega];omega) hg'
       exact ⟨r,c',.go (by omega) t1 s1 hz w1,by omega,w3,fun y hy=>(w4 y hy).imp id fun h=>⟨h.1,by omega⟩,w5⟩
     ·exact ⟨_,c2,.stop (by omega) t1 s1 hz,by omega,s3,fun y h=>(by cases h),fun v hv=>by cases hv;exact ⟨.inr (.inr ⟨rfl,rfl,rfl,rfl,hg'⟩),by simp;omega⟩⟩
theorem ABI(hp:WP p)(hS: ∀f∈p.funcs,WTy p f.params.reverse f.body f.type_)(hL:1≤L)(hL2:L≤1100000)(hm:m≤16384){Γ:List AH}{e:AD}{ρ:Nm}{t:Int}(he:EOK p L Γ ρ)(hw:WTy p Γ e t)(hwe:WE e)(ht:1≤t∧t≤3):
  ∃r c',Rn p m e ρ r c'∧c'≤m∧Rv m t r c':=by
 obtain ⟨r,c1,l1,l2,l3,l4⟩:=YE hp hS hL (m - 0) 0 (Nat.le_refl _) (Nat.zero_le _) Γ e ρ t he hw hwe ht
 cases r with
 |error y=>exact ⟨_,c1,.err l1,l3,l4⟩
 |ok x=>
  obtain ⟨xp,xh,xt⟩:=x
  obtain ⟨h4,h5⟩:=l4
  simp only at h4
  cases hz:xh.isNil
  ·generalize hT:t=T at h4
   cases h4 with
   |val=>cases hz
   |pair _ _ a b hc=>
    subst hT
    have hmul:(L+1)*(m - c1)≤1100001*16384:=Nat.mul_le_mul (by omega) (by omega)
    obtain ⟨r,c',w1,w2,w3,w4,w5⟩:=ABH hp hS hL (m - c1) (ch xt) c1 xh xt [] (Nat.le_refl _) (Nat.le_refl _) l3 a b (by simp only [List.length_nil];omega) (by simp)
    refine ⟨r,c',.val l1 (.list hz w1),w3,?_⟩
    cases r with
    |ok v=>exact ⟨(w5 v rfl).1,by omega,(w5 v rfl).2⟩
    |error y=>exact (w4 y rfl).imp id fun h=>⟨h.1,by omega⟩
  ·generalize hT:t=T at h4
   cases h4 with
   |val _ v hv h3=>
    have hn:xp.list=[]:=by
     rcases hv with ⟨_,_,_,_,h⟩| ⟨_,_,_,h⟩| ⟨h,_⟩
     ·exact h
     ·exact h
     ·exact h3 h
    exact ⟨_,c1,.val l1 (.plain hz),l3,hv,h5,by simp only;rw [hn];simp⟩
   |pair _ _ a b hc=>rw [WS a] at hz;cases hz
end
end Fth
namespace Fth
open Go
def E2(p:Nat→Nat→Prop):Prop:=∃n,∀N k,n≤N→n≤k→p N k
theorem E2.and{p q:Nat→Nat→Prop}(hp:E2 p)(hq:E2 q):E2 fun N k=>p N k∧q N k:=by
 obtain ⟨n,hn⟩:=hp;obtain ⟨m,hm⟩:=hq
 exact ⟨n+m,fun N k h h'=>⟨hn N k (by omega) (by omega),hm N k (by omega) (by omega)⟩⟩
theorem E2.mono{p q:Nat→Nat→Prop}(hp:E2 p)(h: ∀N k,p N k→q N k):E2 q:=let ⟨n,hn⟩:=hp;⟨n,fun N k a b=>h N k (hn N k a b)⟩
theorem E2.of{p:Nat→Prop}(h:Ev p):E2 fun N _=>p N:=let ⟨n,hn⟩:=h;⟨n,fun N _ a _=>hn N a⟩
theorem E2.diag{p:Nat→Nat→Prop}(h:E2 p):Ev fun N=>p N N:=let ⟨n,hn⟩:=h;⟨n,fun N a=>hn N N a a⟩
theorem YG{p:Nat→Nat→Prop}(h:E2 fun N k=>p N (k+1)):E2 p:=by
 obtain ⟨n,hn⟩:=h
 refine ⟨n+1,fun N k a b=>?_⟩
 obtain ⟨j,rfl⟩: ∃j,k=j+1:=⟨k - 1,by omega⟩
 exact hn N j (by omega) (by omega)
def ET{α:Type}(f:Nat→Option α)(Q:α→Prop):Prop:=∃r,Q r∧Ev fun N=>f N=some r
def EL{α:Type}(f:Nat→Nat→Option α)(Q:α→Prop):Prop:=∃r,Q r∧E2 fun N k=>f N k=some r
section
variable{α β:Type}
theorem ET.of{x:Option α}{Q:α→Prop}(h:T x Q):ET (fun _=>x) Q:=by obtain ⟨r,e,h⟩:=h;exact ⟨r,h,Ev.all fun _=>e⟩
theorem ET.some{r:α}{Q:α→Prop}(h:Q r):ET (fun _=>Option.some r) Q:=⟨r,h,Ev.all fun _=>rfl⟩
theorem ET.bind{f:Nat→Option α}{g:Nat→α→Option β}{P:α→Prop}{Q:β→Prop}(h:ET f P)(k: ∀a,P a→ET (fun N=>g N a) Q):ET (fun N=>(f N).bind (g N)) Q:=by
 obtain ⟨a,ha,hE⟩:=h
 obtain ⟨b,hb,hE2⟩:=k a ha
 exact ⟨b,hb,(hE.and hE2).mono fun N h=>by show (f N).bind (g N)=_;rw [h.1];exact h.2⟩
theorem ET.cond{c:Bool}{f g:Nat→Option α}{Q:α→Prop}(h1:c=true→ET f Q)(h2:c=false→ET g Q):ET (fun N=>bif c then f N else g N) Q:=by
 cases c
 ·exact h2 rfl
 ·exact h1 rfl
theorem ET.mono{f:Nat→Option α}{P Q:α→Prop}(h:ET f P)(k: ∀a,P a→Q a):ET f Q:=let ⟨r,hr,e⟩:=h;⟨r,k r hr,e⟩
theorem ET.down{f:Nat→Option α}{Q:α→Prop}(h:ET (fun N=>f (N+1)) Q):ET f Q:=let ⟨r,hr,e⟩:=h;⟨r,hr,Ev.down 1 e⟩
theorem ET.cg{f g:Nat→Option α}{Q:α→Prop}(h:ET f Q)(e: ∀N,g N=f N):ET g Q:=by
 have:g=f:=funext e
 rw [this];exact h
theorem Qj{f:Nat→Option α}{Q:α→Prop}(n:Nat)(h: ∃r,Q r∧∀N,n≤N→f N=Option.some r):ET f Q:=let ⟨r,hr,e⟩:=h;⟨r,hr,⟨n,e⟩⟩
theorem EL.bind{f:Nat→Option α}{g:Nat→Nat→α→Option β}{P:α→Prop}{Q:β→Prop}(h:ET f P)(k: ∀a,P a→EL (fun N k=>g N k a) Q):EL (fun N k=>(f N).bind (g N k)) Q:=by
 obtain ⟨a,ha,hE⟩:=h
 obtain ⟨b,hb,hE2⟩:=k a ha
 exact ⟨b,hb,((E2.of hE).and hE2).mono fun N k h=>by show (f N).bind (g N k)=_;rw [h.1];exact h.2⟩
theorem EL.cond{c:Bool}{f g:Nat→Nat→Option α}{Q:α→Prop}(h1:c=true→EL f Q)(h2:c=false→EL g Q):EL (fun N k=>bif c then f N k else g N k) Q:=by
 cases c
 ·exact h2 rfl
 ·exact h1 rfl
theorem ET.eq{x:Option α}{a:α}{g:Nat→α→Option β}{Q:β→Prop}(h:x=Option.some a)(k:ET (fun N=>g N a) Q):ET (fun N=>x.bind (g N)) Q:=by subst h;exact k
theorem EL.eq{x:Option α}{a:α}{g:Nat→Nat→α→Option β}{Q:β→Prop}(h:x=Option.some a)(k:EL (fun N k=>g N k a) Q):EL (fun N k=>x.bind (g N k)) Q:=by subst h;exact k
theorem ET.tb{x:Option α}{g:Nat→α→Option β}{P:α→Prop}{Q:β→Prop}(h:T x P)(k: ∀a,P a→ET (fun N=>g N a) Q):ET (fun N=>x.bind (g N)) Q:=by obtain ⟨a,e,ha⟩:=h;exact .eq e (k a ha)
theorem EL.tb{x:Option α}{g:Nat→Nat→α→Option β}{P:α→Prop}{Q:β→Prop}(h:T x P)(k: ∀a,P a→EL (fun N k=>g N k a) Q):EL (fun N k=>x.bind (g N k)) Q:=by obtain ⟨a,e,ha⟩:=h;exact .eq e (k a ha)
theorem EL.of{f:Nat→Option α}{Q:α→Prop}(h:ET f Q):EL (fun N _=>f N) Q:=let ⟨r,hr,e⟩:=h;⟨r,hr,E2.of e⟩
theorem EL.some{r:α}{Q:α→Prop}(h:Q r):EL (fun _ _=>Option.some r) Q:=⟨r,h,⟨0,fun _ _ _ _=>rfl⟩⟩
theorem EL.down{f:Nat→Nat→Option α}{Q:α→Prop}(h:EL (fun N k=>f N (k+1)) Q):EL f Q:=let ⟨r,hr,e⟩:=h;⟨r,hr,YG e⟩
theorem EL.diag{f:Nat→Nat→Option α}{Q:α→Prop}(h:EL f Q):ET (fun N=>f N N) Q:=let ⟨r,hr,e⟩:=h;⟨r,hr,e.diag⟩
theorem EL.mono{f:Nat→Nat→Option α}{P Q:α→Prop}(h:EL f P)(k: ∀a,P a→Q a):EL f Q:=let ⟨r,hr,e⟩:=h;⟨r,k r hr,e⟩
end
theorem TZ{s:List UInt8}: ∀(m:Ae) (i j:Nat),(KP s m i).map (·.2)=(KP s m j).map (·.2):=by
 intro m
 induction m with
 |nil=>intro i j;rfl
 |cons x m ih=>
  intro i j
  obtain ⟨k,v⟩:=x
  simp only [KP]
  cases (s==k)
  ·exact ih _ _
  ·rfl
theorem U7(m:Ae)(s:List UInt8):CJ m s=((KP s m 0).map (·.2)).getD 0:=by
 unfold CJ
 cases KP s m 0<;>rfl
theorem Sk(s:List UInt8):CJ [] s=0:=rfl
theorem Mz(k:List UInt8)(v:Int)(m:Ae)(s:List UInt8):CJ ((k,v)::m) s=bif s==k then v else CJ m s:=by
 rw [U7,U7]
 simp only [KP]
 cases (s==k)
 ·simp only [cond_false];rw [TZ m 1 0]
 ·rfl
theorem U8(m:Ae)(s:List UInt8):Na m s=((KP s m 0).map (·.2)).isSome:=by
 unfold Na
 cases KP s m 0<;>rfl
theorem M0(k:List UInt8)(v:Int)(m:Ae)(s:List UInt8):Na ((k,v)::m) s=bif s==k then true else Na m s:=by
 rw [U8,U8]
 simp only [KP]
 cases (s==k)
 ·simp only [cond_false];rw [TZ m 1 0]
 ·rfl
theorem Ll(s:List UInt8)(v:Int)(m:Ae)(t:List UInt8):CJ (Ko s v m) t=bif t==s then v else CJ m t:=by
 induction m with
 |nil=>exact Mz s v [] t
 |cons x m ih=>
  obtain ⟨k,u⟩:=x
  rw [Ko]
  cases h:(s==k)
  ·rw [cond_false,Mz,Mz,ih]
   cases h1:(t==k)
   ·rfl
   ·have:t=k:=by simpa using h1
    have h2:(t==s)=false:=by
     rw [this];simp only [beq_eq_false_iff_ne,ne_eq] at h ⊢;exact fun e=>h e.symm
    rw [h2];rfl
  ·have e:s=k:=by simpa using h
   subst e
   rw [cond_true,Mz,Mz]
   cases (t==s)<;>rfl
theorem W2(s:List UInt8)(v:Int)(m:Ae)(t:List UInt8):Na (Ko s v m) t=bif t==s then true else Na m t:=by
 induction m with
 |nil=>exact M0 s v [] t
 |cons x m ih=>
  obtain ⟨k,u⟩:=x
  rw [Ko]
  cases h:(s==k)
  ·rw [cond_false,M0,M0,ih]
   cases h1:(t==k)
   ·rfl
   ·have:t=k:=by simpa using h1
    have h2:(t==s)=false:=by
     rw [this];simp only [beq_eq_false_iff_ne,ne_eq] at h ⊢;exact fun e=>h e.symm
    rw [h2];rfl
  ·have e:s=k:=by simpa using h
   subst e
   rw [cond_true,M0,M0]
   cases (t==s)<;>rfl
end Fth
namespace Fth
open Go
def bnd(e:AD)(i:Nat):List (List UInt8):=if e.op=21∨(e.op=22∧i=1) then [e.name] else if e.op=20∧i=2 then [e.name,e.tail] else []
def JK(p:AN)(e:AD):Prop:=e.op=7→∃f,hd p e.name=some f∧f.params.length=e.args.length
inductive Sc(p:AN):(List UInt8→Prop)→AD→Prop
 |mk (B:List UInt8→Prop) (e:AD) (hv:e.op=6→B e.name) (hc:JK p e) (hs: ∀i a,e.args[i]?=some a→Sc p (fun s=>s∈bnd e i∨B s) a):Sc p B e
theorem YH{p:AN}{B:List UInt8→Prop}{e:AD}:Sc p B e↔(e.op=6→B e.name)∧JK p e∧∀i a,e.args[i]?=some a→Sc p (fun s=>s∈bnd e i∨B s) a:=
 ⟨fun h=>by cases h with |mk _ _ a b c=>exact ⟨a,b,c⟩,fun h=> .mk B e h.1 h.2.1 h.2.2⟩
def FN(p:AN):Prop:=∀i f,p.funcs[i]?=some f→f.name∉(p.funcs.take i).map (·.name)
def PN(f:AK):Prop:=∀i x,f.params[i]?=some x→x.name∉(f.params.take i).map (·.name)
def Zf(p:AN):Prop:=FN p∧∀f∈p.funcs,PN f∧Sc p (fun s=>s∈f.params.map (·.name)) f.body
def Pl(p:AN)(mp:Ae):Prop:=∀nm,(hd p nm=none∧CJ mp nm=0)∨∃(i:Nat) (f:AK),p.funcs[i]?=some f∧hd p nm=some f∧CJ mp nm=(i:Int)+1
theorem Pv{y a:Int}{flt:AE}(hy:y≠0):T (Db y a flt) fun r=>r.why≠0:=by
 unfold Db IZ
 exact T.cond (fun _=>T.cond (fun _=> .some hy) fun h=>by cases h) fun h=>T.cond (fun _=> .some hy) fun _=> .some (BY h)
section
variable{p:AN}{mpl:Ae}(hpl:Pl p mpl)(hlen:p.funcs.length≤1000000)
include hpl hlen
theorem YI{e:AD}{mi:Ae}{flt:AE}:T (FE e mi mpl flt p) fun r=>r.why=0↔flt.why=0∧(e.op=6→CJ mi e.name≠0)∧JK p e:=by
 have j3: ∀b,(e.op≠6)→(b=false↔JK p e)→T (GN e flt b) fun r=>r.why=0↔flt.why=0∧(e.op=6→CJ mi e.name≠0)∧JK p e:=by
  intro b h6 hb
  unfold GN
  refine T.cond (fun h=>T.bind (Pv (by decide)) fun r hr=> .some ?_) fun h=> .some ?_
  ·subst h
   exact ⟨fun h=>absurd h hr,fun h=>by have:=hb.2 h.2.2;cases this⟩
  ·subst h
   exact ⟨fun h=>⟨h,fun h'=>absurd h' h6,hb.1 rfl⟩,fun h=>h.1⟩
 have j2:e.op≠6→e.op≠7→T (FW e mpl flt p false) fun r=>r.why=0↔flt.why=0∧(e.op=6→CJ mi e.name≠0)∧JK p e:=by
  intro h6 h7
  unfold FW
  refine T.cond (fun h=>by cases h) fun _=>T.cond (fun h=>absurd (Bu h) h7) fun _=>j3 _ h6 ⟨fun _ h=>absurd h h7,fun _=>rfl⟩
 have j1:e.op≠6→T (GO e mpl flt p false) fun r=>r.why=0↔flt.why=0∧(e.op=6→CJ mi e.name≠0)∧JK p e:=by
  intro h6
  unfold GO
  refine T.cond (fun h=>by cases h) fun _=>T.cond (fun h=>?_) fun h=>j2 h6 (BY h)
  have h7:=Bu h
  unfold FW
  rcases hpl e.name with ⟨hn,h0⟩| ⟨i,f,hi,hf,hm⟩
  ·rw [h0]
   refine T.cond (fun _=>T.bind (Pv (by decide)) fun r hr=> .some ⟨fun h=>absurd h hr,fun h=>?_⟩) fun h=>by cases h
   obtain ⟨f,hf,_⟩:=h.2.2 h7
   rw [hn] at hf;cases hf
  ·rw [hm]
   have hil:=(List.getElem?_eq_some_iff.1 hi).1
   refine T.cond (fun h=>by have:=Bu h;omega) fun _=>T.cond (fun _=>?_) fun h=>absurd h7 (BY h)
   rw [wr (x:=(i:Int)+1 - 1) (by omega) (by omega),show (i:Int)+1 - 1=(i:Int) by omega]
   refine T.eq (B1 hi) (j3 _ h6 ⟨fun h _=>⟨f,hf,?_⟩,fun h=>?_⟩)
   ·have:=Iu h;omega
   ·obtain ⟨g,hg,hl⟩:=h h7
    rw [hf] at hg;cases hg
    simp;omega
 unfold FE
 refine T.cond (fun h=>?_) fun h=>j1 (BY h)
 have h6:=Bu h
 unfold GO
 refine T.cond (fun h=>T.bind (Pv (by decide)) fun r hr=> .some ⟨fun h=>absurd h hr,fun h'=>absurd (Bu h) (h'.2.1 h6)⟩) fun h=>T.cond (fun h=>by have:=Bu h;omega) fun h7=>?_
 unfold FW
 refine T.cond (fun h=>by cases h) fun _=>T.cond (fun h=>by have:=Bu h;omega) fun _=>?_
 unfold GN
 refine T.cond (fun h=>by cases h) fun _=> .some ⟨fun h'=>⟨h',fun _=>BY h,fun h7=>by omega⟩,fun h=>h.1⟩
omit hpl hlen in
theorem WU(e:AD)(i:Nat):Gw e (i:Int)=some (bnd e i):=by
 unfold Gw Ia JT bnd
 have e1:((i:Int)==1)=decide (i=1):=by rw [Bool.eq_iff_iff];simp;omega
 have e2:((i:Int)==2)=decide (i=2):=by rw [Bool.eq_iff_iff];simp;omega
 rw [e1,e2]
 cases h1:(e.op==21)
 ·have h1:=BY h1
  cases h2:(e.op==22)
  ·have h2:=BY h2
   rw [if_neg (by omega)]
   cases h3:(e.op==20)
   ·have h3:=BY h3
    rw [if_neg (by omega)];rfl
   ·have h3:=Bu h3
    cases h4:decide (i=2)
    ·have h4:=Df h4;rw [if_neg (by omega)];rfl
    ·have h4:=CD h4;rw [if_pos ⟨h3,h4⟩];rfl
  ·have h2:=Bu h2
   cases h3:decide (i=1)
   ·have h3:=Df h3
    rw [if_neg (by omega),if_neg (by omega),show (e.op==20)=false by simp;omega];rfl
   ·have h3:=CD h3
    rw [if_pos (.inr ⟨h2,h3⟩)];rfl
 ·have h1:=Bu h1
  rw [if_pos (.inl h1)];rfl
omit hpl hlen in
theorem Zg(e:AD)(i:Nat):Qf e (i:Int)=some (bnd e i):=WU e i
omit hpl hlen in
theorem WV(e:AD)(i:Nat):(bnd e i).length≤2:=by
 unfold bnd;split
 ·simp
 ·split<;>simp
theorem Zh: ∀(n:Nat) (e:AD),EF e≤n→∀(C:List (List UInt8)) (mi:Ae) (flt:AE),(∀s,CJ mi s=(C.count s:Int))→C.length+2*n≤1000000000→
  ET (fun N=>scope_walk N e mi mpl flt p) fun r=>(∀s,CJ r.1 s=(C.count s:Int))∧(r.2.why=0↔flt.why=0∧Sc p (fun s=>s∈C) e):=by
 intro n
 induction n with
 |zero=>intro e he;have:=Li e;omega
 |succ n ih=>
  intro e he C mi flt hmi hC
  have hal:=L8 e.args
  have hes:=OX e
  refine ET.down ?_
  show ET (fun N=>Jn (Aw.at N) N e mi mpl flt p) _
  unfold Jn
  refine ET.bind (.of (YI hpl hlen)) fun f1 hf1=>?_
  have cc: ∀s,(C.count s:Int)≠0↔s∈C:=fun s=>by
   have:=List.count_pos_iff (a:=s) (l:=C)
   constructor
   ·intro h;exact this.1 (by omega)
   ·intro h;have:=this.2 h;omega
  have loop: ∀(j i:Nat),i+j=e.args.length→∀(mi:Ae) (f2:AE),(∀s,CJ mi s=(C.count s:Int))→
    EL (fun N k=>CN (Aw.at N) N e mpl p k (i:Int) mi f2.why f2.at_) fun r=>(∀s,CJ r.1 s=(C.count s:Int))∧(r.2.why=0↔f2.why=0∧∀i' a,i≤i'→e.args[i']?=some a→Sc p (fun s=>s∈bnd e i'∨s∈C) a):=by
   intro j
   induction j with
   |zero=>
    intro i hi mi f2 hmi
    refine EL.down ?_
    show EL (fun N k=>Hn (Aw.at N) N e mpl p (CN (Aw.at N) N e mpl p k) i mi f2.why f2.at_) _
    unfold Hn
    refine EL.cond (fun h=>by have:=CD h;omega) fun _=> .some ⟨hmi,fun h=>⟨h,fun i' a hi' ha=>?_⟩,fun h=>h.1⟩
    have:=(List.getElem?_eq_some_iff.1 ha).1
    omega
   |succ j ihj=>
    intro i hi mi f2 hmi
    refine EL.down ?_
    show EL (fun N k=>Hn (Aw.at N) N e mpl p (CN (Aw.at N) N e mpl p k) i mi f2.why f2.at_) _
    unfold Hn
    refine EL.cond (fun _=>?_) fun h=>by have:=Df h;omega
    have hil:i<e.args.length:=by omega
    obtain ⟨a,ha⟩: ∃a,e.args[i]?=some a:=⟨_,List.getElem?_eq_getElem hil⟩
    have has:=NR (List.mem_of_getElem? ha)
    refine EL.eq (B1 ha) (EL.eq (WU e i) ?_)
    have hbl:=WV e i
    have l3: ∀(q t:Nat),t+q=(bnd e i).length→∀(m3:Ae) (w:Ae×AE),(∀s,CJ m3 s=(((bnd e i).drop t).count s+C.count s:Nat))→
      E2 (fun N k=>True)→∀(R:Ae×AE→Prop),(∀m4,(∀s,CJ m4 s=(C.count s:Int))→EL (fun N k=>CN (Aw.at N) N e mpl p k ((i+1:Nat):Int) m4 w.2.why w.2.at_) R)→
      ∃r,R r∧∃n0,∀N k kk,n0≤N→n0≤k→n0≤kk→Ha i (CN (Aw.at N) N e mpl p k) (bnd e i) w kk (t:Int) m3=some r:=by
     intro q
     induction q with
     |zero=>
      intro t ht m3 w hm3 _ R hR
      have hd0:(bnd e i).drop t=[]:=List.drop_eq_nil_of_le (by omega)
      obtain ⟨r,hr,n0,hn0⟩:=hR m3 (fun s=>by rw [hm3,hd0];simp)
      refine ⟨r,hr,n0+1,fun N k kk h1 h2 h3=>?_⟩
      obtain ⟨kk,rfl⟩: ∃j,kk=j+1:=⟨kk - 1,by omega⟩
      show Hl i (CN (Aw.at N) N e mpl p k) (bnd e i) w (Ha i (CN (Aw.at N) N e mpl p k) (bnd e i) w kk) t m3=_
      unfold Hl
      rw [show decide ((t:Int)< ((bnd e i).length:Int))=false from decide_eq_false (by omega),cond_false,wr (by omega) (by omega),show (i:Int)+1=((i+1:Nat):Int) by omega]
      exact hn0 N k (by omega) (by omega)
     |succ q ihq=>
      intro t ht m3 w hm3 ht2 R hR
      have htl:t< (bnd e i).length:=by omega
      obtain ⟨s0,hs0⟩: ∃s0,(bnd e i)[t]?=some s0:=⟨_,List.getElem?_eq_getElem htl⟩
      have hdr:=KS hs0
      have h0:=hm3 s0
      have hc1:((bnd e i).drop t).count s0+C.count s0≤2+C.length:=by
       have a1:=List.count_le_length (a:=s0) (l:=(bnd e i).drop t)
       have a2:=List.count_le_length (a:=s0) (l:=C)
       simp at a1;omega
      obtain ⟨r,hr,n0,hn0⟩:=ihq (t+1) (by omega) (Ko s0 (CJ m3 s0 - 1) m3) w (fun s=>by
       rw [Ll]
       cases hs:(s==s0)
       ·rw [cond_false,hm3,hdr,List.count_cons_of_ne (fun e=>by subst e;simp at hs)]
       ·have:s=s0:=by simpa using hs
        subst this
        rw [cond_true,hm3,hdr,List.count_cons_self];omega) ht2 R hR
      refine ⟨r,hr,n0+1,fun N k kk h1 h2 h3=>?_⟩
      obtain ⟨kk,rfl⟩: ∃j,kk=j+1:=⟨kk - 1,by omega⟩
      show Hl i (CN (Aw.at N) N e mpl p k) (bnd e i) w (Ha i (CN (Aw.at N) N e mpl p k) (bnd e i) w kk) t m3=_
      unfold Hl
      rw [show decide ((t:Int)< ((bnd e i).length:Int))=true from decide_eq_true (by omega),cond_true,B1 hs0,Option.bind_some,wr (x:=(t:Int)+1) (by omega) (by omega),wr (x:=CJ m3 s0 - 1) (by omega) (by omega),show (t:Int)+1=((t+1:Nat):Int) by omega]
      exact hn0 N k kk (by omega) (by omega) (by omega)
    have l2: ∀(q t:Nat),t+q=(bnd e i).length→∀(m2:Ae),(∀s,CJ m2 s=(((bnd e i).take t).count s+C.count s:Nat))→
      ∃r:Ae×AE,((∀s,CJ r.1 s=(C.count s:Int))∧(r.2.why=0↔f2.why=0∧∀i' a,i≤i'→e.args[i']?=some a→Sc p (fun s=>s∈bnd e i'∨s∈C) a))∧
       ∃n0,∀N k kk,n0≤N→n0≤k→n0≤kk→Hb (Aw.at N) N mpl p i f2.why f2.at_ (CN (Aw.at N) N e mpl p k) a (bnd e i) kk (t:Int) m2=some r:=by
     intro q
     induction q with
     |zero=>
      intro t ht m2 hm2
      have htk:(bnd e i).take t=bnd e i:=List.take_of_length_le (by omega)
      obtain ⟨w,hw,hE⟩:=ih a (by omega) (bnd e i++C) m2 ⟨f2.why,f2.at_⟩ (fun s=>by rw [hm2,htk,List.count_append]) (by rw [List.length_append];omega)
      obtain ⟨n1,hn1⟩:=hE
      obtain ⟨r,hr,n0,hn0⟩:=l3 (bnd e i).length 0 (by omega) w.1 w (fun s=>by rw [hw.1,List.drop_zero,List.count_append]) ⟨0,fun _ _ _ _=>trivial⟩ (fun r=>(∀s,CJ r.1 s=(C.count s:Int))∧(r.2.why=0↔f2.why=0∧∀i' a,i≤i'→e.args[i']?=some a→Sc p (fun s=>s∈bnd e i'∨s∈C) a)) fun m4 hm4=>(ihj (i+1) (by omega) m4 w.2 hm4).mono fun r hr=>⟨hr.1,by
       rw [hr.2,hw.2]
       have eB:(fun s=>s∈bnd e i++C)=fun s=>s∈bnd e i∨s∈C:=funext fun s=>propext List.mem_append
       rw [eB]
       constructor
       ·rintro ⟨⟨h1,h2⟩,h3⟩
        refine ⟨h1,fun i' a' hi' ha'=>?_⟩
        rcases Nat.eq_or_lt_of_le hi' with rfl|hlt
        ·rw [ha] at ha';cases ha';exact h2
        ·exact h3 i' a' hlt ha'
       ·rintro ⟨h1,h2⟩
        exact ⟨⟨h1,h2 i a (Nat.le_refl _) ha⟩,fun i' a' hi' ha'=>h2 i' a' (by omega) ha'⟩⟩
      refine ⟨r,hr,n0+n1+1,fun N k kk h1 h2 h3=>?_⟩
      obtain ⟨kk,rfl⟩: ∃j,kk=j+1:=⟨kk - 1,by omega⟩
      show Hm (Aw.at N) N mpl p i f2.why f2.at_ (CN (Aw.at N) N e mpl p k) a (bnd e i) (Hb (Aw.at N) N mpl p i f2.why f2.at_ (CN (Aw.at N) N e mpl p k) a (bnd e i) kk) t m2=_
      unfold Hm
      rw [show decide ((t:Int)< ((bnd e i).length:Int))=false from decide_eq_false (by omega),cond_false]
      show ((scope_walk N a m2 mpl ⟨f2.why,f2.at_⟩ p).bind fun x649=>_)=_
      have ew:scope_walk N a m2 mpl ⟨f2.why,f2.at_⟩ p=some w:=hn1 N (by omega)
      rw [ew,Option.bind_some]
      exact hn0 N k N (by omega) (by omega) (by omega)
     |succ q ihq=>
      intro t ht m2 hm2
      have htl:t< (bnd e i).length:=by omega
      obtain ⟨s0,hs0⟩: ∃s0,(bnd e i)[t]?=some s0:=⟨_,List.getElem?_eq_getElem htl⟩
      have htk:(bnd e i).take (t+1)=(bnd e i).take t++[s0]:=by rw [List.take_add_one,hs0];rfl
      have h0:=hm2 s0
      have hc1:((bnd e i).take t).count s0+C.count s0≤2+C.length:=by
       have a1:=List.count_le_length (a:=s0) (l:=(bnd e i).take t)
       have a2:=List.count_le_length (a:=s0) (l:=C)
       simp at a1;omega
      obtain ⟨r,hr,n0,hn0⟩:=ihq (t+1) (by omega) (Ko s0 (CJ m2 s0+1) m2) fun s=>by
       rw [Ll,htk,List.count_append]
       cases hs:(s==s0)
       ·rw [cond_false,hm2,List.count_cons_of_ne (fun e=>by subst e;simp at hs)];simp
       ·have:s=s0:=by simpa using hs
        subst this
        rw [cond_true,hm2,List.count_singleton_self];omega
      refine ⟨r,hr,n0+1,fun N k kk h1 h2 h3=>?_⟩
      obtain ⟨kk,rfl⟩: ∃j,kk=j+1:=⟨kk - 1,by omega⟩
      show Hm (Aw.at N) N mpl p i f2.why f2.at_ (CN (Aw.at N) N e mpl p k) a (bnd e i) (Hb (Aw.at N) N mpl p i f2.why f2.at_ (CN (Aw.at N) N e mpl p k) a (bnd e i) kk) t m2=_
      unfold Hm
      rw [show decide ((t:Int)< ((bnd e i).length:Int))=true from decide_eq_true (by omega),cond_true,B1 hs0,Option.bind_some,wr (x:=(t:Int)+1) (by omega) (by omega),wr (x:=CJ m2 s0+1) (by omega) (by omega),show (t:Int)+1=((t+1:Nat):Int) by omega]
      exact hn0 N k kk (by omega) (by omega) (by omega)
    obtain ⟨r,hr,n0,hn0⟩:=l2 (bnd e i).length 0 (by omega) mi fun s=>by rw [hmi];simp
    exact ⟨r,hr,n0,fun N k h1 h2=>hn0 N k N h1 h2 h1⟩
  refine (loop e.args.length 0 (by omega) mi f1 hmi).diag.mono fun r hr=>⟨hr.1,?_⟩
  rw [hr.2,hf1,hmi,YH,cc]
  constructor
  ·rintro ⟨⟨h1,h2,h3⟩,h4⟩;exact ⟨h1,h2,h3,fun i a ha=>h4 i a (Nat.zero_le _) ha⟩
  ·rintro ⟨h1,h2,h3,h4⟩;exact ⟨⟨h1,h2,h3⟩,fun i a _ ha=>h4 i a ha⟩
end
end Fth
namespace Fth
open Go
theorem RQ{p:AN}{nm:List UInt8}{i:Nat}{f:AK}(hi:p.funcs[i]?=some f)(hn:f.name=nm)(h:nm∉(p.funcs.take i).map (·.name)):hd p nm=some f:=by
 unfold hd
 rw [List.find?_eq_some_iff_getElem]
 obtain ⟨hl,he⟩:=List.getElem?_eq_some_iff.1 hi
 refine ⟨by simpa using hn,i,hl,he,fun j hj=>?_⟩
 simp only [Bool.not_eq_true',beq_eq_false_iff_ne,ne_eq]
 intro e
 refine h (List.mem_map.2 ⟨p.funcs[j],?_,e⟩)
 rw [List.mem_take_iff_getElem]
 exact ⟨j,by omega,rfl⟩
theorem UT{p:AN}{nm:List UInt8}(h:nm∉p.funcs.map (·.name)):hd p nm=none:=by
 unfold hd
 rw [List.find?_eq_none]
 intro f hf e
 exact h (List.mem_map.2 ⟨f,hf,by simpa using e⟩)
section
variable{p:AN}
theorem Zi(hlen:p.funcs.length≤50000)(hb: ∀f∈p.funcs,EF f.body≤1000000∧f.params.length≤1000000):ET (fun N=>Hc N p) fun r=>r.why=0↔Zf p:=by
 have bodies: ∀(mpl:Ae),Pl p mpl→∀(j i:Nat),i+j=p.funcs.length→∀(f0:AE),
   EL (fun N k=>Cj N p mpl k (i:Int) f0.why f0.at_) fun r=>r.why=0↔f0.why=0∧∀i' f,i≤i'→p.funcs[i']?=some f→PN f∧Sc p (fun s=>s∈f.params.map (·.name)) f.body:=by
  intro mpl hpl j
  induction j with
  |zero=>
   intro i hi f0
   refine EL.down ?_
   show EL (fun N k=>HG N p mpl (Cj N p mpl k) i f0.why f0.at_) _
   unfold HG
   refine EL.cond (fun h=>by have:=CD h;omega) fun _=> .some ⟨fun h=>⟨h,fun i' f hi' hf=>?_⟩,fun h=>h.1⟩
   have:=(List.getElem?_eq_some_iff.1 hf).1
   omega
  |succ j ihj=>
   intro i hi f0
   refine EL.down ?_
   show EL (fun N k=>HG N p mpl (Cj N p mpl k) i f0.why f0.at_) _
   unfold HG
   refine EL.cond (fun _=>?_) fun h=>by have:=Df h;omega
   obtain ⟨f,hf⟩: ∃f,p.funcs[i]?=some f:=⟨_,List.getElem?_eq_getElem (by omega)⟩
   have hfb:=hb f (List.mem_of_getElem? hf)
   refine EL.eq (B1 hf) ?_
   have pars: ∀(q t:Nat),t+q=f.params.length→∀(f2:AE) (m:Ae),(∀s,CJ m s=(((f.params.take t).map (·.name)).count s:Int))→
     ∃r:AE,(r.why=0↔f2.why=0∧(∀i' x,t≤i'→f.params[i']?=some x→x.name∉(f.params.take i').map (·.name))∧Sc p (fun s=>s∈f.params.map (·.name)) f.body∧∀i' f,i+1≤i'→p.funcs[i']?=some f→PN f∧Sc p (fun s=>s∈f.params.map (·.name)) f.body)∧
      ∃n0,∀N k kk,n0≤N→n0≤k→n0≤kk→FF N p mpl i (Cj N p mpl k) f kk (t:Int) f2.why f2.at_ m=some r:=by
    intro q
    induction q with
    |zero=>
     intro t ht f2 m hm
     have htk:f.params.take t=f.params:=List.take_of_length_le (by omega)
     obtain ⟨w,hw,n1,hn1⟩:=Zh hpl (by omega) (EF f.body) f.body (Nat.le_refl _) (f.params.map (·.name)) m ⟨f2.why,f2.at_⟩ (fun s=>by rw [hm,htk]) (by rw [List.length_map];omega)
     obtain ⟨r,hr,n0,hn0⟩:=ihj (i+1) (by omega) w.2
     refine ⟨r,?_,n0+n1+1,fun N k kk h1 h2 h3=>?_⟩
     ·rw [hr,hw.2]
      constructor
      ·rintro ⟨⟨h1,h2⟩,h3⟩
       exact ⟨h1,fun i' x hi' hx=>by have:=(List.getElem?_eq_some_iff.1 hx).1;omega,h2,h3⟩
      ·rintro ⟨h1,_,h2,h3⟩;exact ⟨⟨h1,h2⟩,h3⟩
     ·obtain ⟨kk,rfl⟩: ∃j,kk=j+1:=⟨kk - 1,by omega⟩
      show FL N p mpl i (Cj N p mpl k) f (FF N p mpl i (Cj N p mpl k) f kk) t f2.why f2.at_ m=_
      unfold FL
      have ew:scope_walk N f.body m mpl ⟨f2.why,f2.at_⟩ p=some w:=hn1 N (by omega)
      rw [show decide ((t:Int)< (f.params.length:Int))=false from decide_eq_false (by omega),cond_false,PH,ew,Option.bind_some,wr (by omega) (by omega),show (i:Int)+1=((i+1:Nat):Int) by omega]
      exact hn0 N k (by omega) (by omega)
    |succ q ihq=>
     intro t ht f2 m hm
     obtain ⟨x,hx⟩: ∃x,f.params[t]?=some x:=⟨_,List.getElem?_eq_getElem (by omega)⟩
     have htk:(f.params.take (t+1)).map (·.name)=(f.params.take t).map (·.name)++[x.name]:=by rw [List.take_add_one,hx];simp
     have hcl:=List.count_le_length (a:=x.name) (l:=(f.params.take t).map (·.name))
     simp only [List.length_map,List.length_take] at hcl
     have hm': ∀s,CJ (Ko x.name (CJ m x.name+1) m) s=(((f.params.take (t+1)).map (·.name)).count s:Int):=fun s=>by
      rw [Ll,htk,List.count_append]
      cases hs:(s==x.name)
      ·rw [cond_false,hm,List.count_cons_of_ne (fun e=>by subst e;simp at hs)];simp
      ·have:s=x.name:=by simpa using hs
       subst this
       rw [cond_true,hm,List.count_singleton_self];omega
     have next: ∀f3:AE,(f3.why=0↔f2.why=0∧x.name∉(f.params.take t).map (·.name))→∃r:AE,(r.why=0↔f2.why=0∧(∀i' x,t≤i'→f.params[i']?=some x→x.name∉(f.params.take i').map (·.name))∧Sc p (fun s=>s∈f.params.map (·.name)) f.body∧∀i' f,i+1≤i'→p.funcs[i']?=some f→PN f∧Sc p (fun s=>s∈f.params.map (·.name)) f.body)∧
       ∃n0,∀N k kk,n0≤N→n0≤k→n0≤kk→Ic (t:Int) m (FF N p mpl i (Cj N p mpl k) f kk) x f3.why f3.at_=some r:=by
      intro f3 hf3
      obtain ⟨r,hr,n0,hn0⟩:=ihq (t+1) (by omega) f3 _ hm'
      refine ⟨r,?_,n0,fun N k kk h1 h2 h3=>?_⟩
      ·rw [hr,hf3]
       constructor
       ·rintro ⟨⟨h1,h2⟩,h3,h4⟩
        refine ⟨h1,fun i' y hi' hy=>?_,h4⟩
        rcases Nat.eq_or_lt_of_le hi' with rfl|hlt
        ·rw [hx] at hy;cases hy;exact h2
        ·exact h3 i' y hlt hy
       ·rintro ⟨h1,h2,h3⟩
        exact ⟨⟨h1,h2 t x (Nat.le_refl _) hx⟩,fun i' y hi' hy=>h2 i' y (by omega) hy,h3⟩
      ·unfold Ic
       have:=hm x.name
       rw [wr (x:=(t:Int)+1) (by omega) (by omega),wr (x:=CJ m x.name+1) (by omega) (by omega),show (t:Int)+1=((t+1:Nat):Int) by omega]
       exact hn0 N k kk h1 h2 h3
     have hcnt:=List.count_pos_iff (a:=x.name) (l:=(f.params.take t).map (·.name))
     cases hpos:decide (CJ m x.name>0)
     ·have hpos':=Df hpos
      obtain ⟨r,hr,n0,hn0⟩:=next f2 ⟨fun h=>⟨h,fun h'=>by have:=hcnt.2 h';rw [hm] at hpos';omega⟩,fun h=>h.1⟩
      refine ⟨r,hr,n0+1,fun N k kk h1 h2 h3=>?_⟩
      obtain ⟨kk,rfl⟩: ∃j,kk=j+1:=⟨kk - 1,by omega⟩
      show FL N p mpl i (Cj N p mpl k) f (FF N p mpl i (Cj N p mpl k) f kk) t f2.why f2.at_ m=_
      unfold FL
      rw [show decide ((t:Int)< (f.params.length:Int))=true from decide_eq_true (by omega),cond_true,B1 hx,Option.bind_some,hpos,cond_false]
      exact hn0 N k kk (by omega) (by omega) (by omega)
     ·have hpos':=CD hpos
      obtain ⟨f3,e3,h3⟩:=Pv (y:=30) (a:=x.at_) (flt:=⟨f2.why,f2.at_⟩) (by decide)
      obtain ⟨r,hr,n0,hn0⟩:=next f3 ⟨fun h=>absurd h h3,fun h=>absurd (hcnt.1 (by rw [hm] at hpos';omega)) h.2⟩
      refine ⟨r,hr,n0+1,fun N k kk h1 h2 h3=>?_⟩
      obtain ⟨kk,rfl⟩: ∃j,kk=j+1:=⟨kk - 1,by omega⟩
      show FL N p mpl i (Cj N p mpl k) f (FF N p mpl i (Cj N p mpl k) f kk) t f2.why f2.at_ m=_
      unfold FL
      rw [show decide ((t:Int)< (f.params.length:Int))=true from decide_eq_true (by omega),cond_true,B1 hx,Option.bind_some,hpos,cond_true,e3,Option.bind_some]
      exact hn0 N k kk (by omega) (by omega) (by omega)
   obtain ⟨r,hr,n0,hn0⟩:=pars f.params.length 0 (by omega) f0 [] fun s=>by simp [Sk]
   refine ⟨r,hr.trans ?_,n0,fun N k h1 h2=>hn0 N k N h1 h2 h1⟩
   constructor
   ·rintro ⟨h1,h2,h3,h4⟩
    refine ⟨h1,fun i' g hi' hg=>?_⟩
    rcases Nat.eq_or_lt_of_le hi' with rfl|hlt
    ·rw [hf] at hg;cases hg;exact ⟨fun i x hx=>h2 i x (Nat.zero_le _) hx,h3⟩
    ·exact h4 i' g hlt hg
   ·rintro ⟨h1,h2⟩
    have:=h2 i f (Nat.le_refl _) hf
    exact ⟨h1,fun i' x _ hx=>this.1 i' x hx,this.2,fun i' g hi' hg=>h2 i' g (by omega) hg⟩
 have places: ∀(j i:Nat),i+j=p.funcs.length→∀(f0:AE) (m:Ae),(∀nm,(nm∉(p.funcs.take i).map (·.name)∧CJ m nm=0)∨∃(k:Nat) (f:AK),k<i∧p.funcs[k]?=some f∧hd p nm=some f∧CJ m nm=(k:Int)+1)→
   EL (fun N k=>Gy N p k (i:Int) f0.why f0.at_ m) fun r=>r.why=0↔f0.why=0∧(∀i' f,i≤i'→p.funcs[i']?=some f→f.name∉(p.funcs.take i').map (·.name))∧∀f∈p.funcs,PN f∧Sc p (fun s=>s∈f.params.map (·.name)) f.body:=by
  intro j
  induction j with
  |zero=>
   intro i hi f0 m hm
   have htk:p.funcs.take i=p.funcs:=List.take_of_length_le (by omega)
   refine EL.down ?_
   show EL (fun N k=>HH N p (Gy N p k) i f0.why f0.at_ m) _
   unfold HH
   refine EL.cond (fun h=>by have:=CD h;omega) fun _=>?_
   have hpl:Pl p m:=fun nm=>by
    rcases hm nm with ⟨h1,h2⟩| ⟨k,f,h1,h2,h3,h4⟩
    ·rw [htk] at h1;exact .inl ⟨UT h1,h2⟩
    ·exact .inr ⟨k,f,h2,h3,h4⟩
   refine EL.of ((bodies m hpl p.funcs.length 0 (by omega) f0).diag.mono fun r hr=>?_)
   rw [hr]
   constructor
   ·rintro ⟨h1,h2⟩
    refine ⟨h1,fun i' f hi' hf=>by have:=(List.getElem?_eq_some_iff.1 hf).1;omega,fun f hf=>?_⟩
    obtain ⟨i',hi'⟩:=List.mem_iff_getElem?.1 hf
    exact h2 i' f (Nat.zero_le _) hi'
   ·rintro ⟨h1,_,h2⟩
    exact ⟨h1,fun i' f _ hf=>h2 f (List.mem_of_getElem? hf)⟩
  |succ j ihj=>
   intro i hi f0 m hm
   obtain ⟨f,hf⟩: ∃f,p.funcs[i]?=some f:=⟨_,List.getElem?_eq_getElem (by omega)⟩
   have htk:(p.funcs.take (i+1)).map (·.name)=(p.funcs.take i).map (·.name)++[f.name]:=by rw [List.take_add_one,hf];simp
   refine EL.down ?_
   show EL (fun N k=>HH N p (Gy N p k) i f0.why f0.at_ m) _
   unfold HH
   refine EL.cond (fun _=>?_) fun h=>by have:=Df h;omega
   refine EL.eq (B1 hf) ?_
   have e1:IntKind.i64.wrap ((i:Int)+1)=((i+1:Nat):Int):=by rw [wr (by omega) (by omega)];omega
   refine EL.cond (fun h=>?_) fun h=>?_
   ·have h:=CD h
    refine EL.tb (Pv (by decide)) fun f3 h3=>?_
    unfold Ib
    rw [e1]
    have hin:f.name∈(p.funcs.take i).map (·.name):=by
     rcases hm f.name with ⟨_,h2⟩| ⟨k,g,h1,h2,h3,h4⟩
     ·omega
     ·have hgn:g.name=f.name:=by unfold hd at h3;have:=List.find?_some h3;simpa using this
      rw [←hgn]
      refine List.mem_map.2 ⟨g,?_,rfl⟩
      rw [List.mem_take_iff_getElem]
      obtain ⟨hkl,hke⟩:=List.getElem?_eq_some_iff.1 h2
      exact ⟨k,by omega,hke⟩
    refine (ihj (i+1) (by omega) f3 m fun nm=>?_).mono fun r hr=>?_
    ·rcases hm nm with ⟨h1,h2⟩| ⟨k,g,h1,h2,h3,h4⟩
     ·refine .inl ⟨fun h'=>?_,h2⟩
      rw [htk] at h'
      rcases List.mem_append.1 h' with h'|h'
      ·exact h1 h'
      ·simp at h';subst h';exact h1 hin
     ·exact .inr ⟨k,g,by omega,h2,h3,h4⟩
    ·rw [hr]
     exact ⟨fun h=>absurd h.1 h3,fun h=>absurd hin (h.2.1 i f (Nat.le_refl _) hf)⟩
   ·have h:=Df h
    unfold Ib
    rw [e1]
    have hout:f.name∉(p.funcs.take i).map (·.name):=by
     rcases hm f.name with ⟨h1,_⟩| ⟨k,g,h1,h2,h3,h4⟩
     ·exact h1
     ·omega
    refine (ihj (i+1) (by omega) f0 (Ko f.name ((i+1:Nat):Int) m) fun nm=>?_).mono fun r hr=>?_
    ·rw [Ll]
     cases hn:(nm==f.name)
     ·have hne:nm≠f.name:=by simpa using hn
      rw [cond_false]
      rcases hm nm with ⟨h1,h2⟩| ⟨k,g,h1,h2,h3,h4⟩
      ·refine .inl ⟨fun h'=>?_,h2⟩
       rw [htk] at h'
       rcases List.mem_append.1 h' with h'|h'
       ·exact h1 h'
       ·simp at h';exact hne h'
      ·exact .inr ⟨k,g,by omega,h2,h3,h4⟩
     ·have hne:nm=f.name:=by simpa using hn
      subst hne
      rw [cond_true]
      exact .inr ⟨i,f,by omega,hf,RQ hf rfl hout,by omega⟩
    ·rw [hr]
     constructor
     ·rintro ⟨h1,h2,h3⟩
      refine ⟨h1,fun i' g hi' hg=>?_,h3⟩
      rcases Nat.eq_or_lt_of_le hi' with rfl|hlt
      ·rw [hf] at hg;cases hg;exact hout
      ·exact h2 i' g hlt hg
     ·rintro ⟨h1,h2,h3⟩
      exact ⟨h1,fun i' g hi' hg=>h2 i' g (by omega) hg,h3⟩
 refine (places p.funcs.length 0 (by omega) ⟨0,0⟩ [] fun nm=> .inl ⟨by simp,Sk nm⟩).diag.mono fun r hr=>?_
 rw [hr]
 constructor
 ·rintro ⟨_,h1,h2⟩;exact ⟨fun i f hf=>h1 i f (Nat.zero_le _) hf,h2⟩
 ·rintro ⟨h1,h2⟩;exact ⟨rfl,fun i f _ hf=>h1 i f hf,h2⟩
end
end Fth
