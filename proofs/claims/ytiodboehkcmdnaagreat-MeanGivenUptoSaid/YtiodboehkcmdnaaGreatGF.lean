/- Part 6 of the proof: what it says holds of the given program; no condition. -/
import Derived.Test.YtiodboehkcmdnaaGreatProg
import Derived.KernelRfl
import Derived.Test.YtiodboehkcmdnaaGreatGE
set_option linter.all false
set_option exponentiation.threshold 3000
namespace Fth
open Go Go.Proofs Sh
set_option maxRecDepth 100000
set_option maxHeartbeats 8000000
def law11_part.At(m:Col)(a:World)(f:Nat→(Nat×Nat)→Option AB):Prop:=
 ∀{c d e},f c d=some e→
  Calls PG 70 #[Fl c,Cx d] a fun n g=>∃h l,n=.returned (Ag l)∧AS [] m a h g∧AJ.rep h.F g l e
def law11_part.Spec(f:Nat→(Nat×Nat)→Option AB):Prop:=
 ∀a c,law11_part.At a c f
structure Ci.Good(a:Ci):Prop where
 law11_part:law11_part.Spec a.law11_part
theorem TV(s:Ci)(ab:Nat)(ac:Ci.Good s)(f:Col)(ad:World)(g:∀b,f b<10):law11_part.At f ad (I6 s ab):=by
 intro c h a0 d
 rw [I6] at d
 refine Ay Tryz.func70 rfl Tryz.ntmps70 rfl fun B l a1=>Sr<|Ef<|AU f 20 By rfl fun m ae a2 n o=>AA<|AY<|Sr<|Vm<|Vr (.bool (flt_ c (0:Nat)))<|AA<|Cn d (fun af d=>?_) fun af d=>?_
 refine Sr<|Vx (v:=Ag [I 1,Sb ([]:Bts),Sb ([]:Bts),I 0,Cx (((0,0):Nat×Nat)),.slice none 0 0,I 0]) (Bp By Jn rfl (.cons rfl rfl rfl .nil))<|Vm<|Vr (Fl (Op.negFloat .f64 c))<|Vm<|Bi d fun a ag d=>Ca (Cg [Fl (Op.negFloat .f64 c),Cx h] rfl) (ac.law11_part m ae ag) ?_
 rintro _ a3 ⟨ah,a4,rfl,u,ai⟩
 obtain ⟨p,q,rfl,w⟩:=E1 (Ai ai)
 refine Ef<|Bf (cs:=[I 1,Sb ([]:Bts),Sb ([]:Bts),I 0,Cx (((0,0):Nat×Nat)),.slice none 0 0,I 0,I a.op,Sb a.name,Sb a.tail,I a.type_,Cx a.num,Sl p a.args q,I a.at_]) ah 21 [[I 1,Sb ([]:Bts),Sb ([]:Bts),I 0,Cx (((0,0):Nat×Nat)),.slice none 0 0,I 0],[I a.op,Sb a.name,Sb a.tail,I a.type_,Cx a.num,Sl p a.args q,I a.at_]] C9 By rfl rfl (.cons rfl rfl rfl (.cons rfl rfl rfl .nil)) rfl fun aj ak e al r=>have am:=Ss AJ w r;have y:Own AJ 56 aj ak 21 (.slice (some ⟨e,0,none⟩) 2 2) ([(AB.mk 1 ([]:Bts) ([]:Bts) 0 ((0,0):Nat×Nat) [] 0),a]:List AB):=Own.lit (css:=[[I 1,Sb ([]:Bts),Sb ([]:Bts),I 0,Cx (((0,0):Nat×Nat)),.slice none 0 0,I 0],[I a.op,Sb a.name,Sb a.tail,I a.type_,Cx a.num,Sl p a.args q,I a.at_]]) al rfl rfl rfl (AQ (Ab (x:=(AB.mk 1 ([]:Bts) ([]:Bts) 0 ((0,0):Nat×Nat) [] 0)) Bd) (AQ (Ab (x:=a) am) Au)) (Av rfl (Av rfl CP)) rfl;Vx (v:=Ag [I 9,Sb ([]:Bts),Sb ([]:Bts),I 0,Cx (((0,0):Nat×Nat)),Sl (some ⟨e,0,none⟩) (([(AB.mk 1 ([]:Bts) ([]:Bts) 0 ((0,0):Nat×Nat) [] 0),a]:List AB)) 2,I 0]) (Bp By Jn rfl (.cons rfl rfl rfl (.cons rfl rfl rfl .nil)))<|have an:=Y2 n u r;Eu<|BB (vs:=[I 9,Sb ([]:Bts),Sb ([]:Bts),I 0,Cx (((0,0):Nat×Nat)),Sl (some ⟨e,0,none⟩) (([(AB.mk 1 ([]:Bts) ([]:Bts) 0 ((0,0):Nat×Nat) [] 0),a]:List AB)) 2,I 0]) (cs':=[I 9,Sb ([]:Bts),Sb ([]:Bts),I 0,Cx (((0,0):Nat×Nat)),Sl (some ⟨e,0,none⟩) (([(AB.mk 1 ([]:Bts) ([]:Bts) 0 ((0,0):Nat×Nat) [] 0),a]:List AB)) 2,I 0]) CV rfl rfl rfl rfl (AP rfl (AP rfl (AP rfl (AP rfl (AP rfl (AP (Own.one y) (AP rfl BO))))))) an dcd rfl rfl fun a6 ao z=>AA<|AW<|have ap:=Os y z; ?_
 obtain ⟨aq,aa,ar⟩:=Own.freeze (S:=[21]) ap dcd dcd
 obtain rfl:=AN d
 refine have au:=Bs ao aa;O1 B l rfl (.agg BA rfl rfl (Bw au))<|⟨aq,[I 9,Sb ([]:Bts),Sb ([]:Bts),I 0,Cx (((0,0):Nat×Nat)),Sl (some ⟨e,0,none⟩) (([(AB.mk 1 ([]:Bts) ([]:Bts) 0 ((0,0):Nat×Nat) [] 0),a]:List AB)) 2,I 0],rfl,Ho (T4 (Mo [20,21] o) u r z aa) g,(Ab (x:=(AB.mk 9 ([]:Bts) ([]:Bts) 0 ((0,0):Nat×Nat) ([(AB.mk 1 ([]:Bts) ([]:Bts) 0 ((0,0):Nat×Nat) [] 0),a]:List AB) 0)) ar)⟩
 refine WC.skip<|AY<|Sr<|Vm<|Vx (v:=Fl h.1) (Run.real rfl)<|Vr (.bool (feq h.1 (0:Nat)))<|AA<|Cn d (fun av d=>?_) fun av d=>?_
 refine Sr<|Vm<|Vx (v:=Cx (((0:Nat),c))) (Run.complex rfl rfl)<|Vx (v:=Ag [I 1,Sb ([]:Bts),Sb ([]:Bts),I 0,Cx (((0:Nat),c)),.slice none 0 0,I 0]) (Bp By Jn rfl (.cons rfl rfl rfl (.cons rfl rfl rfl .nil)))<|Eu<|St CV n rfl rfl rfl rfl fun a7 aw ax=>AA<|AW ?_
 obtain rfl:=AN d
 refine O1 B l rfl (.agg BA rfl rfl (Bw aw))<|⟨m,[I 1,Sb ([]:Bts),Sb ([]:Bts),I 0,Cx (((0:Nat),c)),.slice none 0 0,I 0],rfl,Ho (Tn (Mo [20] o) ax) g,(Ab (x:=(AB.mk 1 ([]:Bts) ([]:Bts) 0 ((0:Nat),c) [] 0)) Bd)⟩
 refine WC.skip<|Sr<|Vm<|Vx (v:=Cx ((c,(0:Nat)))) (Run.complex rfl rfl)<|Vx (v:=Ag [I 1,Sb ([]:Bts),Sb ([]:Bts),I 0,Cx ((c,(0:Nat))),.slice none 0 0,I 0]) (Bp By Jn rfl (.cons rfl rfl rfl (.cons rfl rfl rfl .nil)))<|Eu<|St CV n rfl rfl rfl rfl fun a8 ay az=>AA<|AW ?_
 obtain rfl:=AN d
 refine O1 B l rfl (.agg BA rfl rfl (Bw ay))<|⟨m,[I 1,Sb ([]:Bts),Sb ([]:Bts),I 0,Cx ((c,(0:Nat))),.slice none 0 0,I 0],rfl,Ho (Tn (Mo [20] o) az) g,(Ab (x:=(AB.mk 1 ([]:Bts) ([]:Bts) 0 (c,(0:Nat)) [] 0)) Bd)⟩
theorem TW(a:Ci)(d:Nat)(f:Ci.Good a):law11_part.Spec (I6 a d):=lk0 (TV a d f)
theorem Ci.good:∀a,Ci.Good (Ci.at a)
 |0=>⟨by intro c d;intros;(try intro _);intros;exact A6 (by assumption)⟩
 |n+1=>⟨TW _ n (Ci.good n)⟩
theorem PZ(a:Nat):law11_part.Spec (law11_part a):=(Ci.good a).law11_part
def GK.At(l:Col)(a:World)(f:(Nat×Nat)→Option AB):Prop:=
 ∀{c d},f c=some d→
  Calls PG 46 #[Cx c] a fun m e=>∃g h,m=.returned (Ag h)∧AS [] l a g e∧AJ.rep g.F e h d
def GK.Spec(f:(Nat×Nat)→Option AB):Prop:=
 ∀a c,GK.At a c f
theorem SA(h:Nat)(l:Col)(aa:World)(ab:∀b,l b<10):GK.At l aa (GK h):=by
 intro f a1 d
 rw [GK] at d
 refine Ay Tryz.func46 rfl Tryz.ntmps46 rfl fun B ac a2=>Sr<|Ef<|AU l 20 By rfl fun ad ae a3 af ag=>AA<|Sr<|Vm<|Vx (v:=Fl f.1) (Run.real rfl)<|Bi d fun a ah d=>Ca (Cg [Fl f.1,Cx (((4607182418800017408,0):Nat×Nat))] rfl) (PZ h ad ae ah) ?_
 rintro _ ai ⟨aj,a4,rfl,r,ak⟩
 obtain ⟨m,n,rfl,s⟩:=E1 (Ai ak)
 refine Vm<|Vx (v:=Fl f.2) (Run.imag rfl)<|Bi d fun c al d=>Ca (Cg [Fl f.2,Cx (((0,4607182418800017408):Nat×Nat))] rfl) (PZ h aj ai al) ?_
 rintro _ a6 ⟨am,a7,rfl,o,an⟩
 obtain ⟨p,q,rfl,u⟩:=E1 (Ai an)
 refine Ef<|Bf (cs:=[I a.op,Sb a.name,Sb a.tail,I a.type_,Cx a.num,Sl m a.args n,I a.at_,I c.op,Sb c.name,Sb c.tail,I c.type_,Cx c.num,Sl p c.args q,I c.at_]) am 21 [[I a.op,Sb a.name,Sb a.tail,I a.type_,Cx a.num,Sl m a.args n,I a.at_],[I c.op,Sb c.name,Sb c.tail,I c.type_,Cx c.num,Sl p c.args q,I c.at_]] C9 By rfl rfl (.cons rfl rfl rfl (.cons rfl rfl rfl .nil)) rfl fun ao ap e aq g=>have ar:=Ss AJ u g;have au:=K2 AJ s o g;have w:Own AJ 56 ao ap 21 (.slice (some ⟨e,0,none⟩) 2 2) ([a,c]:List AB):=Own.lit (css:=[[I a.op,Sb a.name,Sb a.tail,I a.type_,Cx a.num,Sl m a.args n,I a.at_],[I c.op,Sb c.name,Sb c.tail,I c.type_,Cx c.num,Sl p c.args q,I c.at_]]) aq rfl rfl rfl (AQ (Ab (x:=a) au) (AQ (Ab (x:=c) ar) Au)) (Av rfl (Av rfl CP)) rfl;Vx (v:=Ag [I 8,Sb ([]:Bts),Sb ([]:Bts),I 0,Cx (((0,0):Nat×Nat)),Sl (some ⟨e,0,none⟩) (([a,c]:List AB)) 2,I 0]) (Bp By Jn rfl (.cons rfl rfl rfl (.cons rfl rfl rfl .nil)))<|have av:=Y3 af r o g;Eu<|BB (vs:=[I 8,Sb ([]:Bts),Sb ([]:Bts),I 0,Cx (((0,0):Nat×Nat)),Sl (some ⟨e,0,none⟩) (([a,c]:List AB)) 2,I 0]) (cs':=[I 8,Sb ([]:Bts),Sb ([]:Bts),I 0,Cx (((0,0):Nat×Nat)),Sl (some ⟨e,0,none⟩) (([a,c]:List AB)) 2,I 0]) CV rfl rfl rfl rfl (AP rfl (AP rfl (AP rfl (AP rfl (AP rfl (AP (Own.one w) (AP rfl BO))))))) av dcd rfl rfl fun a9 aw y=>AA<|AW<|have ax:=Os w y; ?_
 obtain ⟨ay,z,az⟩:=Own.freeze (S:=[21]) ax dcd dcd
 obtain rfl:=AN d
 refine have a0:=Bs aw z;O1 B ac rfl (.agg BA rfl rfl (Bw a0))<|⟨ay,[I 8,Sb ([]:Bts),Sb ([]:Bts),I 0,Cx (((0,0):Nat×Nat)),Sl (some ⟨e,0,none⟩) (([a,c]:List AB)) 2,I 0],rfl,Ho (Tn (T4 (Mo [20,21] ag) r o g y) z) ab,(Ab (x:=(AB.mk 8 ([]:Bts) ([]:Bts) 0 ((0,0):Nat×Nat) ([a,c]:List AB) 0)) az)⟩
theorem Oz(c:Nat):GK.Spec (GK c):=lk0 (SA c)
def Ds.At(c:Col)(a:World)(f:AH→Option AB):Prop:=
 ∀{d e g},f d=some g→A1.rep c.F a e d→
  Calls PG 25 #[Ag e] a fun n h=>∃l m,n=.returned (Ag m)∧AS [] c a l h∧AJ.rep l.F h m g
def Ds.Spec(f:AH→Option AB):Prop:=
 ∀a c,Ds.At a c f
theorem QM(o:Nat)(am:Col)(bi:World)(ad:∀b,am b<10):Ds.At am bi (Ds o):=by
 intro l c3 au a bj
 rw [Ds] at a
 obtain ⟨c5,c6,rfl,av⟩:=E1 (Bm bj)
 refine Ay Tryz.func25 rfl Tryz.ntmps25 rfl fun B ae q=>Sr<|Ef<|BX am 20 rfl rfl fun bk c7 bl bm w=>Ef<|AU bk 21 By rfl fun af bn bo ag r=>AA<|AY<|Sr<|Vx (Fz I7 rfl)<|have y:=Bs bm r;Vx (Ld EB rfl (Bc y rfl))<|Vr (.bool (l.type_==2))<|AA<|Cn a (fun bp a=>?_) fun bp a=>?_
 refine AY<|Sr<|Vx (Fd Ka rfl)<|Vx (Ld N2 rfl (Bc y rfl))<|AA<|Cn a (fun bq a=>?_) fun bq a=>?_
 refine Sr<|Vx (v:=Ag [I 2,Sb ([]:Bts),Sb ([]:Bts),I 0,Cx (((0,0):Nat×Nat)),.slice none 0 0,I 0]) (Bp By Jn rfl (.cons rfl rfl rfl .nil))<|Eu<|St CV ag rfl rfl rfl rfl fun c8 br bt=>AA<|AW ?_
 obtain rfl:=AN a
 refine O1 B ae rfl (.agg BA rfl rfl (Bw br))<|⟨af,[I 2,Sb ([]:Bts),Sb ([]:Bts),I 0,Cx (((0,0):Nat×Nat)),.slice none 0 0,I 0],rfl,Ho (T2 (Mo [21] w) r bt) ad,(Ab (x:=(AB.mk 2 ([]:Bts) ([]:Bts) 0 ((0,0):Nat×Nat) [] 0)) Bd)⟩
 refine WC.skip<|Sr<|Vx (v:=Ag [I 3,Sb ([]:Bts),Sb ([]:Bts),I 0,Cx (((0,0):Nat×Nat)),.slice none 0 0,I 0]) (Bp By Jn rfl (.cons rfl rfl rfl .nil))<|Eu<|St CV ag rfl rfl rfl rfl fun c9 bu bv=>AA<|AW ?_
 obtain rfl:=AN a
 refine O1 B ae rfl (.agg BA rfl rfl (Bw bu))<|⟨af,[I 3,Sb ([]:Bts),Sb ([]:Bts),I 0,Cx (((0,0):Nat×Nat)),.slice none 0 0,I 0],rfl,Ho (T2 (Mo [21] w) r bv) ad,(Ab (x:=(AB.mk 3 ([]:Bts) ([]:Bts) 0 ((0,0):Nat×Nat) [] 0)) Bd)⟩
 refine WC.skip<|AY<|Sr<|Vx (Fz I7 rfl)<|Vx (Ld EB rfl (Bc y rfl))<|Vr (.bool (l.type_==1))<|AA<|Cn a (fun bw a=>?_) fun bw a=>?_
 refine Sr<|Vx (Fd Hp rfl)<|Vx (Ld Hq rfl (Bc y rfl))<|Bi a fun f bx a=>Ca (Cg [Cx l.num] rfl) (Oz o af bn bx) ?_
 rintro _ da ⟨bz,db,rfl,aw,b0⟩
 obtain ⟨ay,az,rfl,ax⟩:=E1 (Ai b0)
 refine have b1:=Bs ag aw;Eu<|St CV b1 rfl rfl rfl rfl fun de b2 a0=>AA<|AW ?_
 obtain rfl:=AN a
 refine O1 B ae rfl (.agg BA rfl rfl (Bw b2))<|have b3:=Ss AJ ax a0;⟨bz,[I f.op,Sb f.name,Sb f.tail,I f.type_,Cx f.num,Sl ay f.args az,I f.at_],rfl,Ho (T3 (Mo [21] w) r aw a0) ad,(Ab (x:=f) b3)⟩
 refine WC.skip<|Sr<|Vx (v:=Ag [I 4,Sb ([]:Bts),Sb ([]:Bts),I 0,Cx (((0,0):Nat×Nat)),.slice none 0 0,I 0]) (Bp By Jn rfl (.cons rfl rfl rfl .nil))<|Ef<|AU af 22 By rfl fun a1 df a2 b4 ah=>Eu<|St CV b4 rfl rfl rfl rfl fun b5 b6 ai=>AA<|AY<|Sr<|Vx (Fd EU rfl)<|have a3:=Y2 y ah ai;Vx (Ld In rfl (Bc a3 rfl))<|have a4:=K4 Kd.cpx av w r ah ai; ?_
 obtain ⟨dg,dh,b7⟩:=AR a4
 refine Vx (v:=I (l.list.length:Int)) (Ll IH b7)<|Vr (I (Wr ((l.list.length:Int) - 1)))<|Va (I (Wr ((l.list.length:Int) - 1)))<|AA<|Ad<|Bj (fun p b8 aj=>∃a5 ak m e d g h,b8=Env.puts a5 [(1,Pt bl 0),(2,Pt bo 0),(3,Pt a2 0),(4,I m)]∧FR o l p m e d=some au∧AS [22,23] a1 b5 ak aj∧Own AJ 56 ak aj 23 (Sl g d h) d∧Bk ak aj 22 a2 [I e,Sb ([]:Bts),Sb ([]:Bts),I 0,Cx (((0,0):Nat×Nat)),Sl g d h,I 0] 56) o ?_ ?_
 exact ⟨_,a1,(Wr ((l.list.length:Int) - 1)),4,([]:List AB),none,0,Pu,a,(AS.refl [22,23] _ _),Own.nil,b6⟩
 rintro p _ aj ⟨a5,ak,m,e,d,g,h,rfl,a,z,an,a6⟩
 rcases p with _|p
 exact A6 a
 refine have a:Gk o l (FR o l p) m e d=some au:=a; ?_
 obtain ⟨di,a7⟩:∃s,s=FR o l p:=⟨_,rfl⟩
 rw [←a7,Gk] at a
 refine AY<|Sr<|Vm<|Vr (.bool (decide (m≥0)))<|AA<|Cn a (fun b9 a=>?_) fun b9 a=>?_
 refine WC.skip<|AY<|Ad ?_
 obtain ⟨ao,al,ca⟩:=Own.freeze (S:=[23]) an dcd dcd
 refine B8 Eg (qs 0 5 (.q 6 (.one 5 (.one 7 (.q 8 (.one 9 .nil)))))) [9] [] ao (by kernel_rfl) fun a8 aa=>Qx q rfl (fun _ _=>Fd EU rfl)<|have cb:=Y3 a3 z al aa;Qx q rfl (fun _ ⟨_,n⟩=>Ld In rfl (Bc (Bs cb n) rfl))<|Qx q rfl (v:=I m) (fun _ _=>Mv rfl)<|Bi a fun a9 cc a=>have cd:=K3 Kd.cpx a4 z al aa; ?_
 obtain ⟨cf,cg,dj,ba,ch,ci,cj,ck,ap⟩:=BG (κ:=Kd.cpx) cd cc
 replace ap:A3 ao a8 cf (cg+m.toNat*1) ba:=ap
 obtain rfl:=(show ba=[Cx a9] from ck)
 refine Qx q rfl (fun _ _=>Ix IH ch rfl ci cj)<|Qx q rfl (fun _ ⟨_,n⟩=>Ld Hq rfl (A3.cell0 (Es ap n) rfl))<|have bb:=Y2 a6 al aa;Qx q rfl (fun _ ⟨_,n⟩=>Lx BA rfl rfl (Bw (Bs bb n)))<|A5 rfl<|Bi a fun c cl a=>BM rfl (.none rfl) rfl rfl (Cg [Cx a9] rfl)<|Calls.mono (Oz o ao a8 cl) ?_
 rintro _ dk ⟨cm,dl,rfl,ab,cn⟩
 obtain ⟨aq,ar,rfl,bc⟩:=E1 (Ai cn)
 refine ⟨_,rfl,⟨_,(Mo [] ab)⟩,?_⟩
 refine A5 rfl<|Aw rfl (.none rfl) rfl rfl<|Bf (cs:=[I c.op,Sb c.name,Sb c.tail,I c.type_,Cx c.num,Sl aq c.args ar,I c.at_,I e,Sb ([]:Bts),Sb ([]:Bts),I 0,Cx (((0,0):Nat×Nat)),Sl g d h,I 0]) cm 23 [[I c.op,Sb c.name,Sb c.tail,I c.type_,Cx c.num,Sl aq c.args ar,I c.at_],[I e,Sb ([]:Bts),Sb ([]:Bts),I 0,Cx (((0,0):Nat×Nat)),Sl g d h,I 0]] C9 By rfl rfl (.cons rfl rfl rfl (.cons rfl rfl rfl .nil)) rfl fun bd co u cq ac=>have cr:=K3 AJ ca aa ab ac;have ct:=Ss AJ bc ac;have be:Own AJ 56 bd co 23 (.slice (some ⟨u,0,none⟩) 2 2) ([c,(AB.mk e ([]:Bts) ([]:Bts) 0 ((0,0):Nat×Nat) d 0)]:List AB):=Own.lit (css:=[[I c.op,Sb c.name,Sb c.tail,I c.type_,Cx c.num,Sl aq c.args ar,I c.at_],[I e,Sb ([]:Bts),Sb ([]:Bts),I 0,Cx (((0,0):Nat×Nat)),Sl g d h,I 0]]) cq rfl rfl rfl (AQ (Ab (x:=c) ct) (AQ (Ab (x:=(AB.mk e ([]:Bts) ([]:Bts) 0 ((0,0):Nat×Nat) d 0)) cr) Au)) (Av rfl (Av rfl CP)) rfl;⟨⟨_,(Tn (Mo [] ab) ac)⟩,?_⟩
 refine Qx q rfl (v:=Ag [I 18,Sb ([]:Bts),Sb ([]:Bts),I 0,Cx (((0,0):Nat×Nat)),Sl (some ⟨u,0,none⟩) (([c,(AB.mk e ([]:Bts) ([]:Bts) 0 ((0,0):Nat×Nat) d 0)]:List AB)) 2,I 0]) (fun _ _=>Bv (cs:=[I 18,Sb ([]:Bts),Sb ([]:Bts),I 0,Cx (((0,0):Nat×Nat)),Sl (some ⟨u,0,none⟩) (([c,(AB.mk e ([]:Bts) ([]:Bts) 0 ((0,0):Nat×Nat) d 0)]:List AB)) 2,I 0]) [I 0,Sb ([]:Bts),Sb ([]:Bts),I 0,Cx (((0,0):Nat×Nat)),.slice none 0 0,I 0] By Jn rfl (.cons rfl rfl rfl (.cons rfl rfl rfl .nil)) rfl rfl)<|CX dcd<|WY.one<|have cu:=Y2 bb ab ac;BC rfl (.none rfl) rfl<|BB (vs:=[I 18,Sb ([]:Bts),Sb ([]:Bts),I 0,Cx (((0,0):Nat×Nat)),Sl (some ⟨u,0,none⟩) (([c,(AB.mk e ([]:Bts) ([]:Bts) 0 ((0,0):Nat×Nat) d 0)]:List AB)) 2,I 0]) (cs':=[I 18,Sb ([]:Bts),Sb ([]:Bts),I 0,Cx (((0,0):Nat×Nat)),Sl (some ⟨u,0,none⟩) (([c,(AB.mk e ([]:Bts) ([]:Bts) 0 ((0,0):Nat×Nat) d 0)]:List AB)) 2,I 0]) CV rfl rfl rfl rfl (AP rfl (AP rfl (AP rfl (AP rfl (AP rfl (AP (Own.one be) (AP rfl BO))))))) cu dcd rfl rfl fun dn cv bf=>WY.nil<|AM<|Vm<|Vr (I (Wr (m - 1)))<|Va (I (Wr (m - 1)))<|AA<|have cw:=Os be bf;⟨p,Nat.lt_succ_self p,_,bd,(Wr (m - 1)),18,([c,(AB.mk e ([]:Bts) ([]:Bts) 0 ((0,0):Nat×Nat) d 0)]:List AB),(some ⟨u,0,none⟩),2,Pu,(a7▸a),(Tn (T4 (Mo [22,23] z) al aa ab ac) bf),cw,cv⟩
 refine BZ<|Sr<|Vx (Lx BA rfl rfl (Bw a6))<|have cx:=Y3 ag ah ai z;Eu<|BB (vs:=[I e,Sb ([]:Bts),Sb ([]:Bts),I 0,Cx (((0,0):Nat×Nat)),Sl g d h,I 0]) (cs':=[I e,Sb ([]:Bts),Sb ([]:Bts),I 0,Cx (((0,0):Nat×Nat)),Sl g d h,I 0]) CV rfl rfl rfl rfl (AP rfl (AP rfl (AP rfl (AP rfl (AP rfl (AP (Own.one an) (AP rfl BO))))))) cx dcd rfl rfl fun dp cy bg=>AA<|AW<|have cz:=Os an bg; ?_
 obtain ⟨c0,bh,c1⟩:=Own.freeze (S:=[23]) cz dcd dcd
 obtain rfl:=AN a
 refine have c2:=Bs cy bh;O1 B ae rfl (.agg BA rfl rfl (Bw c2))<|⟨c0,[I e,Sb ([]:Bts),Sb ([]:Bts),I 0,Cx (((0,0):Nat×Nat)),Sl g d h,I 0],rfl,Ho (T2 (T4 (Mo [21,22,23] w) r ah ai z) bg bh) ad,(Ab (x:=(AB.mk e ([]:Bts) ([]:Bts) 0 ((0,0):Nat×Nat) d 0)) c1)⟩
theorem Q7(c:Nat):Ds.Spec (Ds c):=lk0 (QM c)
def CC.At(c:Col)(a:World)(f:D5→Option Bool):Prop:=
 ∀{d e g},f d=some g→NP.rep c.F a e d→
  Calls PG 9 #[Ag e] a fun h l=>∃m,h=.returned (.bool g)∧AS [] c a m l
def CC.Spec(f:D5→Option Bool):Prop:=
 ∀a c,CC.At a c f
theorem PO(ac:Nat)(ee:Col)(jd:World)(cd:∀b,ee b<10):CC.At ee jd (CC ac):=by
 intro aj r2 a8 c je
 rw [CC] at c
 obtain ⟨f8,f9,rfl,f7⟩:=E1 (P6 je)
 refine Ay Tryz.func9 rfl Tryz.ntmps9 rfl fun B cf o=>Sr<|Ef<|BX ee 20 rfl rfl fun jf jg d0 jh b2=>Va (.bool false)<|AA<|AY<|Sr<|Bi c fun ji jj c=>Ca (Cg [] rfl) (TJ ac jf jg jj) ?_
 rintro _ jk ⟨ga,rfl,bl⟩
 refine Vr (.bool (!ji))<|AA<|Cn c (fun jl c=>?_) fun jl c=>?_
 refine Sr<|Va (.bool false)<|AA<|AW ?_
 obtain rfl:=AN c
 refine O1 B cf rfl (.tmp rfl)<|⟨ga,rfl,Ho (Tn (Mo [] b2) bl) cd⟩
 refine WC.skip<|Sr<|have gb:=Bs jh bl;Vx (Lx AAS rfl rfl (Bw gb))<|have jm:=K2 Kd.u8 f7 b2 bl;Bi c fun e jn c=>Ca (Cg [Ag [Sl f8 aj.text f9,Sb aj.name,Sb aj.args]] rfl) (M3 ac ga jk jn (P5 (x:=aj) jm)) ?_
 rintro _ r4 ⟨jo,r5,r6,rfl,cg,jp,ef⟩
 obtain ⟨bm,bn,rfl,gc⟩:=E1 (BN jp)
 obtain ⟨a1,a2,rfl⟩:=AR ef
 refine Vm<|Vr (Ag [Sl bm e.1.funcs bn])<|Vr (Sl a1 e.2.1 a2)<|Vr (.bool e.2.2)<|Ef<|AU jo 21 DS rfl fun jq r8 d1 jr a9=>have js:=Ss AI gc a9;Eu<|St EZ jr rfl rfl rfl rfl fun jt d2 ba=>Va (Sl a1 e.2.1 a2)<|Va (.bool e.2.2)<|AA<|Sr<|Vx (Lx Gl rfl rfl (Bw d2))<|Vx (Fd Vn rfl)<|have gd:=Y3 gb cg a9 ba;Vx (Ld CS rfl (Bc gd rfl))<|have am:=Ss AI js ba;Bi c fun a ju c=>Ca (Cg [Ag [Sl bm e.1.funcs bn],Sb aj.name] rfl) (NI ac jq jt ju (BH (x:=e.1) am)) ?_
 rintro _ r9 ⟨jv,sa,rfl,u,jw⟩
 obtain ⟨sb,sc,rfl,ge,gf⟩:=DA jw
 obtain ⟨eg,eh,rfl⟩:=AR ge
 obtain ⟨ei,ej,rfl⟩:=AR gf
 refine Vm<|Vr (Ag [Sb a.1.name,Sl eg a.1.params eh,I a.1.type_,I a.1.body.op,Sb a.1.body.name,Sb a.1.body.tail,I a.1.body.type_,Cx a.1.body.num,Sl ei a.1.body.args ej,I a.1.body.at_,I a.1.at_])<|Vr (.bool a.2)<|Ef<|AU jv 22 Fs rfl fun d3 sd gg jx q=>have jy:=Ss Aa ge q;have jz:=Ss AJ gf q;Eu<|St LD jx rfl rfl rfl rfl fun gh gi r=>Va (.bool a.2)<|AA<|AY<|An (fun ao gj=>∃ad d4 ek,ao=Env.puts ad [(1,Pt d0 0),(3,Pt d1 0),(4,Sl a1 e.2.1 a2),(6,Pt gg 0),(46,.bool ek)]∧F6 ac aj e a ek=some a8∧AS [] d3 gh d4 gj) ?_ ?_
 refine AM<|Vm<|Vr (.bool (!e.2.2))<|Vm<|Bo c (fun bo c=>?_) fun bo c=>?_
 refine Pg bo<|Pg bo<|Vp bo<|Vm<|Pg rfl<|Pg rfl<|Pg rfl<|Pg rfl<|Vr (.bool true)<|Vm<|Pg rfl<|Pg rfl<|Pg rfl<|Pg rfl<|Vr (.bool true)<|AA<|⟨_,d3,true,Pu,c,Rf⟩
 refine Gm bo<|Gr bo (.bool (!a.2))<|Vp bo<|Vm<|Bo c (fun au c=>?_) fun au c=>?_
 refine Pg au<|Pg au<|Pg au<|Pg au<|Vp au<|Vm<|Pg rfl<|Pg rfl<|Pg rfl<|Pg rfl<|Vr (.bool true)<|AA<|⟨_,d3,true,Pu,c,Rf⟩
 refine have j0:=Y3 d2 u q r;Gx au (Lx Gl rfl rfl (Bw j0))<|have j1:=K3 AI am u q r;Bi c fun d5 j2 c=>B7 (.guard (t:=false) (b:=false) rfl rfl rfl rfl (Cb au)) rfl rfl (Cg [Ag [Sl bm e.1.funcs bn]] rfl)<|Calls.mono (Oy ac d3 gh j2 (BH (x:=e.1) j1)) ?_
 rintro _ j3 ⟨gk,se,rfl,b3,j4⟩
 obtain rfl:=Aq j4
 refine ⟨_,rfl,?_⟩
 refine Gx au (v:=I d5.why) (Js (cs:=[I d5.why,I d5.at_]) SZ rfl rfl)<|Gr au (.bool (d5.why != 0))<|Vp au<|Vm<|Bo c (fun av c=>?_) fun av c=>?_
 refine Pg av<|Pg av<|Pg av<|Pg av<|Vp av<|AA<|⟨_,gk,true,Pu,c,(Mo [] b3)⟩
 refine have j5:=Bs gi b3;Gx av (Lx Lc rfl rfl (Bw j5))<|Gm av<|have j6:=K2 Aa jy r b3;have j7:=K2 AJ jz r b3;have j8:=K2 A1 (K4 A1 ef a9 ba u q) r b3;Bi c fun gl j9 c=>B7 (.guard (t:=false) (b:=false) rfl rfl rfl rfl (Cb av)) rfl rfl (Cg [Ag [Sb a.1.name,Sl eg a.1.params eh,I a.1.type_,I a.1.body.op,Sb a.1.body.name,Sb a.1.body.tail,I a.1.body.type_,Cx a.1.body.num,Sl ei a.1.body.args ej,I a.1.body.at_,I a.1.at_],Sl a1 e.2.1 a2] rfl)<|Calls.mono (UO ac gk j3 j9 (Fa (x:=a.1) j6 j7) j8) ?_
 rintro _ sf ⟨ka,rfl,kb⟩
 refine ⟨_,rfl,?_⟩
 refine Gr av (.bool (!gl))<|Vp av<|AA<|⟨_,ka,(!gl),Pu,c,(Tn (Mo [] b3) kb)⟩
 rintro _ gj ⟨ad,d4,ek,rfl,c,y⟩
 rw [F6] at c
 refine Cn c (fun kc c=>?_) fun kc c=>?_
 refine Sr<|Va (.bool true)<|AA<|AW ?_
 obtain rfl:=AN c
 refine O1 B cf rfl (.tmp rfl)<|⟨d4,rfl,Ho (T4 (T4 (Mo [21,22] b2) bl cg a9 ba) u q r y) cd⟩
 refine WC.skip<|Sr<|Vx (Fz L9 rfl)<|have gm:=Bs gi y;Vx (Ld CS rfl (Bc gm rfl))<|Vx (v:=Ag [I 7,Sb a.1.name,Sb ([]:Bts),I 0,Cx (((0,0):Nat×Nat)),.slice none 0 0,I 0]) (Bp By Jn rfl (.cons rfl rfl rfl (.cons rfl rfl rfl .nil)))<|Ef<|AU d4 23 By rfl fun gn sg go kd ae=>Eu<|St CV kd rfl rfl rfl rfl fun ke kf af=>AA<|Sr<|Va (I 0)<|AA<|AY<|Sr<|Va (I 0)<|AA<|Ad<|Bj (fun bb ao ch=>∃ad bc ax ay d h l,ao=Env.puts ad [(1,Pt d0 0),(3,Pt d1 0),(4,Sl a1 e.2.1 a2),(6,Pt gg 0),(8,Pt go 0),(9,I ax),(10,I ay)]∧EI ac aj e a bb ax ay d=some a8∧AS [23,25] gn ke bc ch∧Own AJ 56 bc ch 25 (Sl h d l) d∧Bk bc ch 23 go [I 7,Sb a.1.name,Sb ([]:Bts),I 0,Cx (((0,0):Nat×Nat)),Sl h d l,I 0] 56) ac ?_ ?_
 exact ⟨_,gn,0,0,([]:List AB),none,0,Pu,c,(AS.refl [23,25] _ _),Own.nil,kf⟩
 rintro bb _ ch ⟨ad,bc,ax,ay,d,h,l,rfl,c,z,gp,gq⟩
 rcases bb with _|bb
 exact A6 c
 refine have c:FY ac aj e a (EI ac aj e a bb) ax ay d=some a8:=c; ?_
 obtain ⟨sh,gr⟩:∃s,s=EI ac aj e a bb:=⟨_,rfl⟩
 rw [←gr,FY] at c
 refine AY<|Sr<|Vm<|Vm<|have el:=Ss A1 (K4 A1 (K4 A1 ef a9 ba u q) r y ae af) z; ?_
 obtain ⟨si,sj,kg⟩:=AR el
 refine Vx (v:=I (e.2.1.length:Int)) (Ll KG kg)<|Vr (.bool (decide (ay< (e.2.1.length:Int))))<|AA<|Cn c (fun kh c=>?_) fun kh c=>?_
 refine WC.skip<|AY<|Ad<|AY<|B8 Eg (qs 0 6 (.one 6 (.one 7 (.one 8 (.q 9 (.one 10 .nil)))))) [10] [25] bc (by kernel_rfl) fun gs d6=>Qx o rfl (fun _ _=>Fd Bh rfl)<|have gt:=Bs gq d6;Qx o rfl (fun _ ⟨_,m⟩=>Ld EC rfl (Bc (Bs gt m) rfl))<|Qx o rfl (v:=Sl a1 e.2.1 a2) (fun _ _=>Mv rfl)<|Qx o rfl (v:=I ay) (fun _ _=>Mv rfl)<|Bi c fun ap ki c=>have kj:=Ss A1 el d6; ?_
 obtain ⟨kk,kl,sk,km,gu,gv,gw,kn,d7⟩:=BG (κ:=A1) kj ki
 replace d7:A3 bc gs kk (kl+ay.toNat*4) km:=d7
 obtain ⟨gx,gy,rfl,em⟩:=E1 (Bm kn)
 refine Qx o rfl (fun _ _=>Ix KG gu rfl gv gw)<|Qx o rfl (fun _ ⟨_,m⟩=>Lx DX rfl rfl (A3.part0 (Es d7 m) [I ap.type_,Cx ap.num,.bool ap.bool,Sl gx ap.list gy] rfl))<|A5 rfl<|Bi c fun p ko c=>BM rfl (.none rfl) rfl rfl (Cg [Ag [I ap.type_,Cx ap.num,.bool ap.bool,Sl gx ap.list gy]] rfl)<|Calls.mono (Q7 ac bc gs ko (BD (x:=ap) em)) ?_
 rintro _ sm ⟨kp,sn,rfl,bd,kq⟩
 obtain ⟨en,eo,rfl,gz⟩:=E1 (Ai kq)
 refine ⟨_,rfl,⟨_,(Mo [25] bd)⟩,?_⟩
 refine A5 rfl<|Aw rfl (.none rfl) rfl rfl<|Bf (cs:=[I p.op,Sb p.name,Sb p.tail,I p.type_,Cx p.num,Sl en p.args eo,I p.at_]) kp 24 [[I p.op,Sb p.name,Sb p.tail,I p.type_,Cx p.num,Sl en p.args eo,I p.at_]] C9 By rfl rfl (.cons rfl rfl rfl .nil) rfl fun kr ks kt ku be=>have kv:=Ss AJ gz be;have kw:Own AJ 56 kr ks 24 (.slice (some ⟨kt,0,none⟩) 1 1) ([p]:List AB):=Own.lit (css:=[[I p.op,Sb p.name,Sb p.tail,I p.type_,Cx p.num,Sl en p.args eo,I p.at_]]) ku rfl rfl rfl (AQ (Ab (x:=p) kv) Au) (Av rfl CP) rfl;⟨⟨_,(Tn (Mo [25] bd) be)⟩,?_⟩
 refine A5 rfl<|have kx:=Os (Os (Os gp d6) bd) be;Bi c fun sp g0 c=>Aw rfl (.none rfl) rfl rfl<|Az (κ:=AJ) rfl rfl kx dcd Wi (BL kw) (CF g0) (CK g0) fun sq ky sr ep ci=>?_
 obtain ⟨eq,er,rfl⟩:=Own.len ep
 refine ⟨⟨_,(T2 (Mo [25] bd) be ci)⟩,?_⟩
 refine Qx o rfl (fun _ _=>Fd Bh rfl)<|CX dcd<|WY.one<|have kz:=Y3 gt bd be ci;BC rfl (.none rfl) rfl<|BB (vs:=[Sl eq ((d++([p]:List AB))) er]) (cs':=[I 7,Sb a.1.name,Sb ([]:Bts),I 0,Cx (((0,0):Nat×Nat)),Sl eq ((d++([p]:List AB))) er,I 0]) Qk rfl rfl rfl rfl (AP (Own.one ep) BO) kz dcd rfl rfl fun ss k0 d8=>WY.nil<|AM<|Vm<|Vm<|Vm<|Vx (Ix KG gu rfl gv gw)<|Vx (Fd EU rfl)<|have k1:=Es (Es (Es (Es d7 bd) be) ci) d8;Vx (Ld In rfl (A3.cell (k:=3) k1 rfl))<|have k2:=K4 Kd.cpx em bd be ci d8; ?_
 obtain ⟨st,su,k3⟩:=AR k2
 refine Vx (v:=I (ap.list.length:Int)) (Ll IH k3)<|Vr (I (Wr (ax+(ap.list.length:Int))))<|Va (I (Wr (ax+(ap.list.length:Int))))<|AA<|AM<|Vm<|Vr (I (Wr (ay+1)))<|Va (I (Wr (ay+1)))<|AA<|have k4:=Os ep d8;⟨bb,Nat.lt_succ_self bb,_,ky,(Wr (ax+(ap.list.length:Int))),(Wr (ay+1)),(d++([p]:List AB)),eq,er,Pu,(gr▸c),(Tn (T4 (Mo [23,25] z) d6 bd be ci) d8),k4,k0⟩
 refine BZ<|An (fun ao b4=>∃ad cj ck az bp bq,ao=Env.puts ad [(1,Pt d0 0),(3,Pt d1 0),(4,Sl a1 e.2.1 a2),(9,I ax),(11,Pt ck 0)]∧F5 ac aj e ax az=some a8∧AS [25,26,28] bc ch cj b4∧Own AI 58 cj b4 26 (Sl bp az bq) az∧Bk cj b4 28 ck [Sl bp az bq] 28) ?_ ?_
 obtain ⟨d9,n,a3⟩:=Own.freeze (S:=[25]) gp dcd dcd
 refine B8 Eg (.q 1 (.q 2 (qs 4 4 (.three 0 8 11 (.three 3 8 11 (.two 8 11 (.two 9 11 (.q 10 (.one 11 (.one 12 .nil))) (.one 9 (.q 10 (.one 12 .nil)))) (.one 8 (.one 9 (.q 10 (.one 12 .nil))))) (.two 3 11 (.two 9 11 (.q 10 (.one 11 (.one 12 .nil))) (.one 9 (.q 10 (.one 12 .nil)))) (.one 3 (.one 9 (.q 10 (.one 12 .nil))))) (.two 3 8 (.one 8 (.one 9 (.q 10 (.one 12 .nil)))) (.one 3 (.one 9 (.q 10 (.one 12 .nil)))))) (.two 0 11 (.two 3 11 (.two 9 11 (.q 10 (.one 11 (.one 12 .nil))) (.one 9 (.q 10 (.one 12 .nil)))) (.one 3 (.one 9 (.q 10 (.one 12 .nil))))) (.one 0 (.one 3 (.one 9 (.q 10 (.one 12 .nil)))))) (.two 0 8 (.two 3 8 (.one 8 (.one 9 (.q 10 (.one 12 .nil)))) (.one 3 (.one 9 (.q 10 (.one 12 .nil))))) (.one 0 (.one 3 (.one 9 (.q 10 (.one 12 .nil)))))))))) [12] [26] d9 (by kernel_rfl) fun sv g=>Qx o rfl (fun _ _=>Fz EA rfl)<|have k5:=Bs (Y4 (Y4 d2 u q r y) ae af z n) g;Qx o rfl (fun _ ⟨_,m⟩=>Ld GP rfl (Bc (Bs k5 m) rfl))<|Qx o rfl (fun _ _=>Fd NS rfl)<|have k6:=Bs (Y4 gm ae af z n) g;Qx o rfl (fun _ ⟨_,m⟩=>Ld EB rfl (Bc (Bs k6 m) rfl))<|have k7:=Y2 gq n g;Qx o rfl (fun _ ⟨_,m⟩=>Lx BA rfl rfl (Bw (Bs k7 m)))<|Qx o rfl (v:=Ag [Sb ([122,122]:Bts),.slice none 0 0,I a.1.type_,I 7,Sb a.1.name,Sb ([]:Bts),I 0,Cx (((0,0):Nat×Nat)),Sl h d l,I 0,I 0]) (fun _ _=>Bv (cs:=[Sb ([122,122]:Bts),.slice none 0 0,I a.1.type_,I 7,Sb a.1.name,Sb ([]:Bts),I 0,Cx (((0,0):Nat×Nat)),Sl h d l,I 0,I 0]) [Sb ([]:Bts),.slice none 0 0,I 0,I 0,Sb ([]:Bts),Sb ([]:Bts),I 0,Cx (((0,0):Nat×Nat)),.slice none 0 0,I 0,I 0] Fs Wm rfl (.cons rfl rfl rfl (.cons rfl rfl rfl (.cons rfl rfl rfl .nil))) rfl rfl)<|P4 rfl rfl rfl ?_ ?_ ?_
 refine Aw rfl (.none rfl) rfl rfl<|Bf (cs:=[]) d9 26 [] DY Fs rfl rfl .nil rfl fun es k8 k9 la f=>have cl:Own AI 58 es k8 26 (.slice (some ⟨k9,0,none⟩) 0 0) ([]:List AE):=Own.lit (css:=[]) la rfl rfl rfl Au CP rfl;⟨⟨_,(Mo [26] f)⟩,?_⟩
 refine P4 rfl rfl rfl ?_ ?_ ?_
 refine have lb:=K2 AI (K4 AI (K4 AI am u q r y) ae af z n) g f;Bi c fun sw g1 c=>Aw rfl (.none rfl) rfl rfl<|Az (κ:=AI) rfl rfl cl dcd HK (Cl lb) (CF g1) (CK g1) fun sx g2 sy ea an=>?_
 obtain ⟨sz,s0,rfl⟩:=Own.len ea
 refine ⟨⟨_,(Tn (Mo [26] f) an)⟩,?_⟩
 refine KE rfl rfl ?_ ?_
 refine Aw rfl (.none rfl) rfl rfl<|Bf (cs:=[Sb ([122,122]:Bts),.slice none 0 0,I a.1.type_,I 7,Sb a.1.name,Sb ([]:Bts),I 0,Cx (((0,0):Nat×Nat)),Sl h d l,I 0,I 0]) g2 27 [[Sb ([122,122]:Bts),.slice none 0 0,I a.1.type_,I 7,Sb a.1.name,Sb ([]:Bts),I 0,Cx (((0,0):Nat×Nat)),Sl h d l,I 0,I 0]] DY Fs rfl rfl (.cons rfl rfl rfl .nil) rfl fun g3 lc ld le a0=>have lf:=K4 AJ a3 g f an a0;have g4:Own AI 58 g3 lc 27 (.slice (some ⟨ld,0,none⟩) 1 1) ([(AE.mk ([122,122]:Bts) [] a.1.type_ (AB.mk 7 a.1.name ([]:Bts) 0 ((0,0):Nat×Nat) d 0) 0)]:List AE):=Own.lit (css:=[[Sb ([122,122]:Bts),.slice none 0 0,I a.1.type_,I 7,Sb a.1.name,Sb ([]:Bts),I 0,Cx (((0,0):Nat×Nat)),Sl h d l,I 0,I 0]]) le rfl rfl rfl (AQ (Fa (x:=(AE.mk ([122,122]:Bts) [] a.1.type_ (AB.mk 7 a.1.name ([]:Bts) 0 ((0,0):Nat×Nat) d 0) 0)) Bd lf) Au) (Av rfl CP) rfl;⟨⟨_,(T2 (Mo [26] f) an a0)⟩,?_⟩
 refine KE rfl rfl ?_ ?_
 refine have lg:=Os ea a0;Bi c fun s1 g5 c=>Aw rfl (.none rfl) rfl rfl<|Az (κ:=AI) rfl rfl lg dcd HK (BL g4) (CF g5) (CK g5) fun s2 lh s3 g6 et=>?_
 obtain ⟨cm,cn,rfl⟩:=Own.len g6
 refine ⟨⟨_,(T3 (Mo [26] f) an a0 et)⟩,?_⟩
 refine Qx o rfl (v:=Ag [Sl cm (((([]:List AE)++e.1.funcs)++([(AE.mk ([122,122]:Bts) [] a.1.type_ (AB.mk 7 a.1.name ([]:Bts) 0 ((0,0):Nat×Nat) d 0) 0)]:List AE))) cn]) (fun _ _=>Bv (cs:=[Sl cm (((([]:List AE)++e.1.funcs)++([(AE.mk ([122,122]:Bts) [] a.1.type_ (AB.mk 7 a.1.name ([]:Bts) 0 ((0,0):Nat×Nat) d 0) 0)]:List AE))) cn]) [.slice none 0 0] DS KF rfl (.cons rfl rfl rfl .nil) rfl rfl)<|A5 rfl<|Aw rfl (.none rfl) rfl rfl<|AU lh 28 DS rfl fun li s4 lj lk eu=>⟨⟨_,(T4 (Mo [26] f) an a0 et eu)⟩,?_⟩
 refine CX dcd<|WY.one<|have g7:=Os g6 eu;BC rfl (.none rfl) rfl<|BB (vs:=[Sl cm (((([]:List AE)++e.1.funcs)++([(AE.mk ([122,122]:Bts) [] a.1.type_ (AB.mk 7 a.1.name ([]:Bts) 0 ((0,0):Nat×Nat) d 0) 0)]:List AE))) cn]) (cs':=[Sl cm (((([]:List AE)++e.1.funcs)++([(AE.mk ([122,122]:Bts) [] a.1.type_ (AB.mk 7 a.1.name ([]:Bts) 0 ((0,0):Nat×Nat) d 0) 0)]:List AE))) cn]) EZ rfl rfl rfl rfl (AP (Own.one g7) BO) lk dcd rfl rfl fun s5 ll g8=>WY.nil<|have lm:=Os g7 g8;⟨_,li,lj,((([]:List AE)++e.1.funcs)++([(AE.mk ([122,122]:Bts) [] a.1.type_ (AB.mk 7 a.1.name ([]:Bts) 0 ((0,0):Nat×Nat) d 0) 0)]:List AE)),cm,cn,Pu,c,(T3 (T4 (Mo [25,26,28] n) g f an a0) et eu g8),lm,ll⟩
 refine Aw rfl (.none rfl) rfl rfl<|AU g3 28 DS rfl fun s6 s7 ln lo co=>⟨⟨_,(T3 (Mo [26] f) an a0 co)⟩,?_⟩
 refine A5 rfl<|have lp:=Os (Os ea a0) co;have lq:=Os g4 co;Bi c fun s8 g9 c=>Aw rfl (.none rfl) rfl rfl<|Az (κ:=AI) rfl rfl lp dcd HK (BL lq) (CF g9) (CK g9) fun s9 lr ta ew ex=>?_
 obtain ⟨cq,cr,rfl⟩:=Own.len ew
 refine ⟨⟨_,(T4 (Mo [26] f) an a0 co ex)⟩,?_⟩
 refine Qx o rfl (v:=Ag [Sl cq (((([]:List AE)++e.1.funcs)++([(AE.mk ([122,122]:Bts) [] a.1.type_ (AB.mk 7 a.1.name ([]:Bts) 0 ((0,0):Nat×Nat) d 0) 0)]:List AE))) cr]) (fun _ _=>Bv (cs:=[Sl cq (((([]:List AE)++e.1.funcs)++([(AE.mk ([122,122]:Bts) [] a.1.type_ (AB.mk 7 a.1.name ([]:Bts) 0 ((0,0):Nat×Nat) d 0) 0)]:List AE))) cr]) [.slice none 0 0] DS KF rfl (.cons rfl rfl rfl .nil) rfl rfl)<|CX dcd<|WY.one<|have ls:=Bs lo ex;BC rfl (.none rfl) rfl<|BB (vs:=[Sl cq (((([]:List AE)++e.1.funcs)++([(AE.mk ([122,122]:Bts) [] a.1.type_ (AB.mk 7 a.1.name ([]:Bts) 0 ((0,0):Nat×Nat) d 0) 0)]:List AE))) cr]) (cs':=[Sl cq (((([]:List AE)++e.1.funcs)++([(AE.mk ([122,122]:Bts) [] a.1.type_ (AB.mk 7 a.1.name ([]:Bts) 0 ((0,0):Nat×Nat) d 0) 0)]:List AE))) cr]) EZ rfl rfl rfl rfl (AP (Own.one ew) BO) ls dcd rfl rfl fun tb lt ha=>WY.nil<|have lu:=Os ew ha;⟨_,lr,ln,((([]:List AE)++e.1.funcs)++([(AE.mk ([122,122]:Bts) [] a.1.type_ (AB.mk 7 a.1.name ([]:Bts) 0 ((0,0):Nat×Nat) d 0) 0)]:List AE)),cq,cr,Pu,c,(T3 (T4 (Mo [25,26,28] n) g f an a0) co ex ha),lu,lt⟩
 refine Aw rfl (.none rfl) rfl rfl<|AU g2 28 DS rfl fun lv tc lw lx b5=>⟨⟨_,(T2 (Mo [26] f) an b5)⟩,?_⟩
 refine A5 rfl<|Aw rfl (.none rfl) rfl rfl<|Bf (cs:=[Sb ([122,122]:Bts),.slice none 0 0,I a.1.type_,I 7,Sb a.1.name,Sb ([]:Bts),I 0,Cx (((0,0):Nat×Nat)),Sl h d l,I 0,I 0]) lv 27 [[Sb ([122,122]:Bts),.slice none 0 0,I a.1.type_,I 7,Sb a.1.name,Sb ([]:Bts),I 0,Cx (((0,0):Nat×Nat)),Sl h d l,I 0,I 0]] DY Fs rfl rfl (.cons rfl rfl rfl .nil) rfl fun ly lz l0 l1 b6=>have l2:=Ss AJ (K4 AJ a3 g f an b5) b6;have l3:Own AI 58 ly lz 27 (.slice (some ⟨l0,0,none⟩) 1 1) ([(AE.mk ([122,122]:Bts) [] a.1.type_ (AB.mk 7 a.1.name ([]:Bts) 0 ((0,0):Nat×Nat) d 0) 0)]:List AE):=Own.lit (css:=[[Sb ([122,122]:Bts),.slice none 0 0,I a.1.type_,I 7,Sb a.1.name,Sb ([]:Bts),I 0,Cx (((0,0):Nat×Nat)),Sl h d l,I 0,I 0]]) l1 rfl rfl rfl (AQ (Fa (x:=(AE.mk ([122,122]:Bts) [] a.1.type_ (AB.mk 7 a.1.name ([]:Bts) 0 ((0,0):Nat×Nat) d 0) 0)) Bd l2) Au) (Av rfl CP) rfl;⟨⟨_,(T3 (Mo [26] f) an b5 b6)⟩,?_⟩
 refine A5 rfl<|have l4:=Os (Os ea b5) b6;Bi c fun td hb c=>Aw rfl (.none rfl) rfl rfl<|Az (κ:=AI) rfl rfl l4 dcd HK (BL l3) (CF hb) (CK hb) fun te l5 tf ey ez=>?_
 obtain ⟨ct,cu,rfl⟩:=Own.len ey
 refine ⟨⟨_,(T4 (Mo [26] f) an b5 b6 ez)⟩,?_⟩
 refine Qx o rfl (v:=Ag [Sl ct (((([]:List AE)++e.1.funcs)++([(AE.mk ([122,122]:Bts) [] a.1.type_ (AB.mk 7 a.1.name ([]:Bts) 0 ((0,0):Nat×Nat) d 0) 0)]:List AE))) cu]) (fun _ _=>Bv (cs:=[Sl ct (((([]:List AE)++e.1.funcs)++([(AE.mk ([122,122]:Bts) [] a.1.type_ (AB.mk 7 a.1.name ([]:Bts) 0 ((0,0):Nat×Nat) d 0) 0)]:List AE))) cu]) [.slice none 0 0] DS KF rfl (.cons rfl rfl rfl .nil) rfl rfl)<|CX dcd<|WY.one<|have l6:=Y2 lx b6 ez;BC rfl (.none rfl) rfl<|BB (vs:=[Sl ct (((([]:List AE)++e.1.funcs)++([(AE.mk ([122,122]:Bts) [] a.1.type_ (AB.mk 7 a.1.name ([]:Bts) 0 ((0,0):Nat×Nat) d 0) 0)]:List AE))) cu]) (cs':=[Sl ct (((([]:List AE)++e.1.funcs)++([(AE.mk ([122,122]:Bts) [] a.1.type_ (AB.mk 7 a.1.name ([]:Bts) 0 ((0,0):Nat×Nat) d 0) 0)]:List AE))) cu]) EZ rfl rfl rfl rfl (AP (Own.one ey) BO) l6 dcd rfl rfl fun tg l7 hc=>WY.nil<|have l8:=Os ey hc;⟨_,l5,lw,((([]:List AE)++e.1.funcs)++([(AE.mk ([122,122]:Bts) [] a.1.type_ (AB.mk 7 a.1.name ([]:Bts) 0 ((0,0):Nat×Nat) d 0) 0)]:List AE)),ct,cu,Pu,c,(T3 (T4 (Mo [25,26,28] n) g f an b5) b6 ez hc),l8,l7⟩
 refine Aw rfl (.none rfl) rfl rfl<|Bf (cs:=[Sb ([122,122]:Bts),.slice none 0 0,I a.1.type_,I 7,Sb a.1.name,Sb ([]:Bts),I 0,Cx (((0,0):Nat×Nat)),Sl h d l,I 0,I 0]) es 27 [[Sb ([122,122]:Bts),.slice none 0 0,I a.1.type_,I 7,Sb a.1.name,Sb ([]:Bts),I 0,Cx (((0,0):Nat×Nat)),Sl h d l,I 0,I 0]] DY Fs rfl rfl (.cons rfl rfl rfl .nil) rfl fun hd l9 ma mb ah=>have mc:=K3 AJ a3 g f ah;have e0:Own AI 58 hd l9 27 (.slice (some ⟨ma,0,none⟩) 1 1) ([(AE.mk ([122,122]:Bts) [] a.1.type_ (AB.mk 7 a.1.name ([]:Bts) 0 ((0,0):Nat×Nat) d 0) 0)]:List AE):=Own.lit (css:=[[Sb ([122,122]:Bts),.slice none 0 0,I a.1.type_,I 7,Sb a.1.name,Sb ([]:Bts),I 0,Cx (((0,0):Nat×Nat)),Sl h d l,I 0,I 0]]) mb rfl rfl rfl (AQ (Fa (x:=(AE.mk ([122,122]:Bts) [] a.1.type_ (AB.mk 7 a.1.name ([]:Bts) 0 ((0,0):Nat×Nat) d 0) 0)) Bd mc) Au) (Av rfl CP) rfl;⟨⟨_,(Tn (Mo [26] f) ah)⟩,?_⟩
 refine KE rfl rfl ?_ ?_
 refine have md:=Os cl ah;have me:=K3 AI (K4 AI (K4 AI am u q r y) ae af z n) g f ah;Bi c fun th he c=>Aw rfl (.none rfl) rfl rfl<|Az (κ:=AI) rfl rfl md dcd HK (Cl me) (CF he) (CK he) fun ti mf tj e1 a4=>?_
 obtain ⟨tk,tl,rfl⟩:=Own.len e1
 refine ⟨⟨_,(T2 (Mo [26] f) ah a4)⟩,?_⟩
 refine KE rfl rfl ?_ ?_
 refine have mg:=Os e0 a4;Bi c fun tm hf c=>Aw rfl (.none rfl) rfl rfl<|Az (κ:=AI) rfl rfl e1 dcd HK (BL mg) (CF hf) (CK hf) fun tn mh to hg e2=>?_
 obtain ⟨cv,cw,rfl⟩:=Own.len hg
 refine ⟨⟨_,(T3 (Mo [26] f) ah a4 e2)⟩,?_⟩
 refine Qx o rfl (v:=Ag [Sl cv (((([]:List AE)++e.1.funcs)++([(AE.mk ([122,122]:Bts) [] a.1.type_ (AB.mk 7 a.1.name ([]:Bts) 0 ((0,0):Nat×Nat) d 0) 0)]:List AE))) cw]) (fun _ _=>Bv (cs:=[Sl cv (((([]:List AE)++e.1.funcs)++([(AE.mk ([122,122]:Bts) [] a.1.type_ (AB.mk 7 a.1.name ([]:Bts) 0 ((0,0):Nat×Nat) d 0) 0)]:List AE))) cw]) [.slice none 0 0] DS KF rfl (.cons rfl rfl rfl .nil) rfl rfl)<|A5 rfl<|Aw rfl (.none rfl) rfl rfl<|AU mh 28 DS rfl fun mi tp mj mk e3=>⟨⟨_,(T4 (Mo [26] f) ah a4 e2 e3)⟩,?_⟩
 refine CX dcd<|WY.one<|have hh:=Os hg e3;BC rfl (.none rfl) rfl<|BB (vs:=[Sl cv (((([]:List AE)++e.1.funcs)++([(AE.mk ([122,122]:Bts) [] a.1.type_ (AB.mk 7 a.1.name ([]:Bts) 0 ((0,0):Nat×Nat) d 0) 0)]:List AE))) cw]) (cs':=[Sl cv (((([]:List AE)++e.1.funcs)++([(AE.mk ([122,122]:Bts) [] a.1.type_ (AB.mk 7 a.1.name ([]:Bts) 0 ((0,0):Nat×Nat) d 0) 0)]:List AE))) cw]) EZ rfl rfl rfl rfl (AP (Own.one hh) BO) mk dcd rfl rfl fun tq ml hi=>WY.nil<|have mm:=Os hh hi;⟨_,mi,mj,((([]:List AE)++e.1.funcs)++([(AE.mk ([122,122]:Bts) [] a.1.type_ (AB.mk 7 a.1.name ([]:Bts) 0 ((0,0):Nat×Nat) d 0) 0)]:List AE)),cv,cw,Pu,c,(T3 (T4 (Mo [25,26,28] n) g f ah a4) e2 e3 hi),mm,ml⟩
 refine Aw rfl (.none rfl) rfl rfl<|AU mf 28 DS rfl fun tr ts mn mo cx=>⟨⟨_,(T3 (Mo [26] f) ah a4 cx)⟩,?_⟩
 refine A5 rfl<|have mp:=Os e1 cx;have mq:=Os (Os e0 a4) cx;Bi c fun tt hj c=>Aw rfl (.none rfl) rfl rfl<|Az (κ:=AI) rfl rfl mp dcd HK (BL mq) (CF hj) (CK hj) fun tu mr tw e4 e5=>?_
 obtain ⟨cy,cz,rfl⟩:=Own.len e4
 refine ⟨⟨_,(T4 (Mo [26] f) ah a4 cx e5)⟩,?_⟩
 refine Qx o rfl (v:=Ag [Sl cy (((([]:List AE)++e.1.funcs)++([(AE.mk ([122,122]:Bts) [] a.1.type_ (AB.mk 7 a.1.name ([]:Bts) 0 ((0,0):Nat×Nat) d 0) 0)]:List AE))) cz]) (fun _ _=>Bv (cs:=[Sl cy (((([]:List AE)++e.1.funcs)++([(AE.mk ([122,122]:Bts) [] a.1.type_ (AB.mk 7 a.1.name ([]:Bts) 0 ((0,0):Nat×Nat) d 0) 0)]:List AE))) cz]) [.slice none 0 0] DS KF rfl (.cons rfl rfl rfl .nil) rfl rfl)<|CX dcd<|WY.one<|have ms:=Bs mo e5;BC rfl (.none rfl) rfl<|BB (vs:=[Sl cy (((([]:List AE)++e.1.funcs)++([(AE.mk ([122,122]:Bts) [] a.1.type_ (AB.mk 7 a.1.name ([]:Bts) 0 ((0,0):Nat×Nat) d 0) 0)]:List AE))) cz]) (cs':=[Sl cy (((([]:List AE)++e.1.funcs)++([(AE.mk ([122,122]:Bts) [] a.1.type_ (AB.mk 7 a.1.name ([]:Bts) 0 ((0,0):Nat×Nat) d 0) 0)]:List AE))) cz]) EZ rfl rfl rfl rfl (AP (Own.one e4) BO) ms dcd rfl rfl fun tx mt hk=>WY.nil<|have mu:=Os e4 hk;⟨_,mr,mn,((([]:List AE)++e.1.funcs)++([(AE.mk ([122,122]:Bts) [] a.1.type_ (AB.mk 7 a.1.name ([]:Bts) 0 ((0,0):Nat×Nat) d 0) 0)]:List AE)),cy,cz,Pu,c,(T3 (T4 (Mo [25,26,28] n) g f ah a4) cx e5 hk),mu,mt⟩
 refine Aw rfl (.none rfl) rfl rfl<|AU hd 28 DS rfl fun ty tz mv mw br=>⟨⟨_,(T2 (Mo [26] f) ah br)⟩,?_⟩
 refine A5 rfl<|have mx:=Os (Os cl ah) br;have my:=K4 AI (K4 AI (K4 AI am u q r y) ae af z n) g f ah br;Bi c fun t0 hl c=>Aw rfl (.none rfl) rfl rfl<|Az (κ:=AI) rfl rfl mx dcd HK (Cl my) (CF hl) (CK hl) fun t1 t2 t3 hm c0=>?_
 obtain ⟨t4,t5,rfl⟩:=Own.len hm
 refine ⟨⟨_,(T3 (Mo [26] f) ah br c0)⟩,?_⟩
 refine A5 rfl<|have mz:=Os (Os e0 br) c0;Bi c fun t6 hn c=>Aw rfl (.none rfl) rfl rfl<|Az (κ:=AI) rfl rfl hm dcd HK (BL mz) (CF hn) (CK hn) fun t7 m0 t8 e6 e7=>?_
 obtain ⟨c1,c2,rfl⟩:=Own.len e6
 refine ⟨⟨_,(T4 (Mo [26] f) ah br c0 e7)⟩,?_⟩
 refine Qx o rfl (v:=Ag [Sl c1 (((([]:List AE)++e.1.funcs)++([(AE.mk ([122,122]:Bts) [] a.1.type_ (AB.mk 7 a.1.name ([]:Bts) 0 ((0,0):Nat×Nat) d 0) 0)]:List AE))) c2]) (fun _ _=>Bv (cs:=[Sl c1 (((([]:List AE)++e.1.funcs)++([(AE.mk ([122,122]:Bts) [] a.1.type_ (AB.mk 7 a.1.name ([]:Bts) 0 ((0,0):Nat×Nat) d 0) 0)]:List AE))) c2]) [.slice none 0 0] DS KF rfl (.cons rfl rfl rfl .nil) rfl rfl)<|CX dcd<|WY.one<|have m1:=Y2 mw c0 e7;BC rfl (.none rfl) rfl<|BB (vs:=[Sl c1 (((([]:List AE)++e.1.funcs)++([(AE.mk ([122,122]:Bts) [] a.1.type_ (AB.mk 7 a.1.name ([]:Bts) 0 ((0,0):Nat×Nat) d 0) 0)]:List AE))) c2]) (cs':=[Sl c1 (((([]:List AE)++e.1.funcs)++([(AE.mk ([122,122]:Bts) [] a.1.type_ (AB.mk 7 a.1.name ([]:Bts) 0 ((0,0):Nat×Nat) d 0) 0)]:List AE))) c2]) EZ rfl rfl rfl rfl (AP (Own.one e6) BO) m1 dcd rfl rfl fun t9 m2 ho=>WY.nil<|have m3:=Os e6 ho;⟨_,m0,mv,((([]:List AE)++e.1.funcs)++([(AE.mk ([122,122]:Bts) [] a.1.type_ (AB.mk 7 a.1.name ([]:Bts) 0 ((0,0):Nat×Nat) d 0) 0)]:List AE)),c1,c2,Pu,c,(T3 (T4 (Mo [25,26,28] n) g f ah br) c0 e7 ho),m3,m2⟩
 refine Aw rfl (.none rfl) rfl rfl<|AU es 28 DS rfl fun m4 ua hp hq ak=>⟨⟨_,(Tn (Mo [26] f) ak)⟩,?_⟩
 refine KE rfl rfl ?_ ?_
 refine have m5:=Os cl ak;have m6:=K3 AI (K4 AI (K4 AI am u q r y) ae af z n) g f ak;Bi c fun ub hr c=>Aw rfl (.none rfl) rfl rfl<|Az (κ:=AI) rfl rfl m5 dcd HK (Cl m6) (CF hr) (CK hr) fun uc m7 ud hs b7=>?_
 obtain ⟨ue,uf,rfl⟩:=Own.len hs
 refine ⟨⟨_,(T2 (Mo [26] f) ak b7)⟩,?_⟩
 refine A5 rfl<|Aw rfl (.none rfl) rfl rfl<|Bf (cs:=[Sb ([122,122]:Bts),.slice none 0 0,I a.1.type_,I 7,Sb a.1.name,Sb ([]:Bts),I 0,Cx (((0,0):Nat×Nat)),Sl h d l,I 0,I 0]) m7 27 [[Sb ([122,122]:Bts),.slice none 0 0,I a.1.type_,I 7,Sb a.1.name,Sb ([]:Bts),I 0,Cx (((0,0):Nat×Nat)),Sl h d l,I 0,I 0]] DY Fs rfl rfl (.cons rfl rfl rfl .nil) rfl fun m8 m9 na nb b8=>have nc:=Ss AJ (K4 AJ a3 g f ak b7) b8;have nd:Own AI 58 m8 m9 27 (.slice (some ⟨na,0,none⟩) 1 1) ([(AE.mk ([122,122]:Bts) [] a.1.type_ (AB.mk 7 a.1.name ([]:Bts) 0 ((0,0):Nat×Nat) d 0) 0)]:List AE):=Own.lit (css:=[[Sb ([122,122]:Bts),.slice none 0 0,I a.1.type_,I 7,Sb a.1.name,Sb ([]:Bts),I 0,Cx (((0,0):Nat×Nat)),Sl h d l,I 0,I 0]]) nb rfl rfl rfl (AQ (Fa (x:=(AE.mk ([122,122]:Bts) [] a.1.type_ (AB.mk 7 a.1.name ([]:Bts) 0 ((0,0):Nat×Nat) d 0) 0)) Bd nc) Au) (Av rfl CP) rfl;⟨⟨_,(T3 (Mo [26] f) ak b7 b8)⟩,?_⟩
 refine A5 rfl<|have ne:=Os hs b8;Bi c fun ug ht c=>Aw rfl (.none rfl) rfl rfl<|Az (κ:=AI) rfl rfl ne dcd HK (BL nd) (CF ht) (CK ht) fun uh nf ui e8 e9=>?_
 obtain ⟨c3,c4,rfl⟩:=Own.len e8
 refine ⟨⟨_,(T4 (Mo [26] f) ak b7 b8 e9)⟩,?_⟩
 refine Qx o rfl (v:=Ag [Sl c3 (((([]:List AE)++e.1.funcs)++([(AE.mk ([122,122]:Bts) [] a.1.type_ (AB.mk 7 a.1.name ([]:Bts) 0 ((0,0):Nat×Nat) d 0) 0)]:List AE))) c4]) (fun _ _=>Bv (cs:=[Sl c3 (((([]:List AE)++e.1.funcs)++([(AE.mk ([122,122]:Bts) [] a.1.type_ (AB.mk 7 a.1.name ([]:Bts) 0 ((0,0):Nat×Nat) d 0) 0)]:List AE))) c4]) [.slice none 0 0] DS KF rfl (.cons rfl rfl rfl .nil) rfl rfl)<|CX dcd<|WY.one<|have ng:=Y3 hq b7 b8 e9;BC rfl (.none rfl) rfl<|BB (vs:=[Sl c3 (((([]:List AE)++e.1.funcs)++([(AE.mk ([122,122]:Bts) [] a.1.type_ (AB.mk 7 a.1.name ([]:Bts) 0 ((0,0):Nat×Nat) d 0) 0)]:List AE))) c4]) (cs':=[Sl c3 (((([]:List AE)++e.1.funcs)++([(AE.mk ([122,122]:Bts) [] a.1.type_ (AB.mk 7 a.1.name ([]:Bts) 0 ((0,0):Nat×Nat) d 0) 0)]:List AE))) c4]) EZ rfl rfl rfl rfl (AP (Own.one e8) BO) ng dcd rfl rfl fun uj nh hu=>WY.nil<|have ni:=Os e8 hu;⟨_,nf,hp,((([]:List AE)++e.1.funcs)++([(AE.mk ([122,122]:Bts) [] a.1.type_ (AB.mk 7 a.1.name ([]:Bts) 0 ((0,0):Nat×Nat) d 0) 0)]:List AE)),c3,c4,Pu,c,(T3 (T4 (Mo [25,26,28] n) g f ak b7) b8 e9 hu),ni,nh⟩
 refine Aw rfl (.none rfl) rfl rfl<|Bf (cs:=[Sb ([122,122]:Bts),.slice none 0 0,I a.1.type_,I 7,Sb a.1.name,Sb ([]:Bts),I 0,Cx (((0,0):Nat×Nat)),Sl h d l,I 0,I 0]) m4 27 [[Sb ([122,122]:Bts),.slice none 0 0,I a.1.type_,I 7,Sb a.1.name,Sb ([]:Bts),I 0,Cx (((0,0):Nat×Nat)),Sl h d l,I 0,I 0]] DY Fs rfl rfl (.cons rfl rfl rfl .nil) rfl fun nj nk nl nm bf=>have np:=K4 AJ a3 g f ak bf;have nq:Own AI 58 nj nk 27 (.slice (some ⟨nl,0,none⟩) 1 1) ([(AE.mk ([122,122]:Bts) [] a.1.type_ (AB.mk 7 a.1.name ([]:Bts) 0 ((0,0):Nat×Nat) d 0) 0)]:List AE):=Own.lit (css:=[[Sb ([122,122]:Bts),.slice none 0 0,I a.1.type_,I 7,Sb a.1.name,Sb ([]:Bts),I 0,Cx (((0,0):Nat×Nat)),Sl h d l,I 0,I 0]]) nm rfl rfl rfl (AQ (Fa (x:=(AE.mk ([122,122]:Bts) [] a.1.type_ (AB.mk 7 a.1.name ([]:Bts) 0 ((0,0):Nat×Nat) d 0) 0)) Bd np) Au) (Av rfl CP) rfl;⟨⟨_,(T2 (Mo [26] f) ak bf)⟩,?_⟩
 refine A5 rfl<|have nr:=Os (Os cl ak) bf;have ns:=K4 AI (K4 AI (K4 AI am u q r y) ae af z n) g f ak bf;Bi c fun uk hw c=>Aw rfl (.none rfl) rfl rfl<|Az (κ:=AI) rfl rfl nr dcd HK (Cl ns) (CF hw) (CK hw) fun ul um un hx c5=>?_
 obtain ⟨uo,up,rfl⟩:=Own.len hx
 refine ⟨⟨_,(T3 (Mo [26] f) ak bf c5)⟩,?_⟩
 refine A5 rfl<|have nt:=Os nq c5;Bi c fun uq hy c=>Aw rfl (.none rfl) rfl rfl<|Az (κ:=AI) rfl rfl hx dcd HK (BL nt) (CF hy) (CK hy) fun ur nu us fa fb=>?_
 obtain ⟨c6,c7,rfl⟩:=Own.len fa
 refine ⟨⟨_,(T4 (Mo [26] f) ak bf c5 fb)⟩,?_⟩
 refine Qx o rfl (v:=Ag [Sl c6 (((([]:List AE)++e.1.funcs)++([(AE.mk ([122,122]:Bts) [] a.1.type_ (AB.mk 7 a.1.name ([]:Bts) 0 ((0,0):Nat×Nat) d 0) 0)]:List AE))) c7]) (fun _ _=>Bv (cs:=[Sl c6 (((([]:List AE)++e.1.funcs)++([(AE.mk ([122,122]:Bts) [] a.1.type_ (AB.mk 7 a.1.name ([]:Bts) 0 ((0,0):Nat×Nat) d 0) 0)]:List AE))) c7]) [.slice none 0 0] DS KF rfl (.cons rfl rfl rfl .nil) rfl rfl)<|CX dcd<|WY.one<|have nv:=Y3 hq bf c5 fb;BC rfl (.none rfl) rfl<|BB (vs:=[Sl c6 (((([]:List AE)++e.1.funcs)++([(AE.mk ([122,122]:Bts) [] a.1.type_ (AB.mk 7 a.1.name ([]:Bts) 0 ((0,0):Nat×Nat) d 0) 0)]:List AE))) c7]) (cs':=[Sl c6 (((([]:List AE)++e.1.funcs)++([(AE.mk ([122,122]:Bts) [] a.1.type_ (AB.mk 7 a.1.name ([]:Bts) 0 ((0,0):Nat×Nat) d 0) 0)]:List AE))) c7]) EZ rfl rfl rfl rfl (AP (Own.one fa) BO) nv dcd rfl rfl fun ut nw hz=>WY.nil<|have nx:=Os fa hz;⟨_,nu,hp,((([]:List AE)++e.1.funcs)++([(AE.mk ([122,122]:Bts) [] a.1.type_ (AB.mk 7 a.1.name ([]:Bts) 0 ((0,0):Nat×Nat) d 0) 0)]:List AE)),c6,c7,Pu,c,(T3 (T4 (Mo [25,26,28] n) g f ak bf) c5 fb hz),nx,nw⟩
 refine Aw rfl (.none rfl) rfl rfl<|Bf (cs:=[Sb ([122,122]:Bts),.slice none 0 0,I a.1.type_,I 7,Sb a.1.name,Sb ([]:Bts),I 0,Cx (((0,0):Nat×Nat)),Sl h d l,I 0,I 0]) d9 27 [[Sb ([122,122]:Bts),.slice none 0 0,I a.1.type_,I 7,Sb a.1.name,Sb ([]:Bts),I 0,Cx (((0,0):Nat×Nat)),Sl h d l,I 0,I 0]] DY Fs rfl rfl (.cons rfl rfl rfl .nil) rfl fun fc ny n0 n1 w=>have n2:=K2 AJ a3 g w;have eb:Own AI 58 fc ny 27 (.slice (some ⟨n0,0,none⟩) 1 1) ([(AE.mk ([122,122]:Bts) [] a.1.type_ (AB.mk 7 a.1.name ([]:Bts) 0 ((0,0):Nat×Nat) d 0) 0)]:List AE):=Own.lit (css:=[[Sb ([122,122]:Bts),.slice none 0 0,I a.1.type_,I 7,Sb a.1.name,Sb ([]:Bts),I 0,Cx (((0,0):Nat×Nat)),Sl h d l,I 0,I 0]]) n1 rfl rfl rfl (AQ (Fa (x:=(AE.mk ([122,122]:Bts) [] a.1.type_ (AB.mk 7 a.1.name ([]:Bts) 0 ((0,0):Nat×Nat) d 0) 0)) Bd n2) Au) (Av rfl CP) rfl;⟨⟨_,(Mo [26] w)⟩,?_⟩
 refine KE rfl rfl ?_ ?_
 refine Aw rfl (.none rfl) rfl rfl<|Bf (cs:=[]) fc 26 [] DY Fs rfl rfl .nil rfl fun h0 n4 n5 n6 ai=>have h1:Own AI 58 h0 n4 26 (.slice (some ⟨n5,0,none⟩) 0 0) ([]:List AE):=Own.lit (css:=[]) n6 rfl rfl rfl Au CP rfl;⟨⟨_,(Tn (Mo [26] w) ai)⟩,?_⟩
 refine KE rfl rfl ?_ ?_
 refine have n7:=K3 AI (K4 AI (K4 AI am u q r y) ae af z n) g w ai;Bi c fun uu h2 c=>Aw rfl (.none rfl) rfl rfl<|Az (κ:=AI) rfl rfl h1 dcd HK (Cl n7) (CF h2) (CK h2) fun uv n8 uw fd a5=>?_
 obtain ⟨ux,uy,rfl⟩:=Own.len fd
 refine ⟨⟨_,(T2 (Mo [26] w) ai a5)⟩,?_⟩
 refine KE rfl rfl ?_ ?_
 refine have oa:=Os (Os eb ai) a5;Bi c fun uz h3 c=>Aw rfl (.none rfl) rfl rfl<|Az (κ:=AI) rfl rfl fd dcd HK (BL oa) (CF h3) (CK h3) fun u0 ob u2 h4 fe=>?_
 obtain ⟨c8,c9,rfl⟩:=Own.len h4
 refine ⟨⟨_,(T3 (Mo [26] w) ai a5 fe)⟩,?_⟩
 refine Qx o rfl (v:=Ag [Sl c8 (((([]:List AE)++e.1.funcs)++([(AE.mk ([122,122]:Bts) [] a.1.type_ (AB.mk 7 a.1.name ([]:Bts) 0 ((0,0):Nat×Nat) d 0) 0)]:List AE))) c9]) (fun _ _=>Bv (cs:=[Sl c8 (((([]:List AE)++e.1.funcs)++([(AE.mk ([122,122]:Bts) [] a.1.type_ (AB.mk 7 a.1.name ([]:Bts) 0 ((0,0):Nat×Nat) d 0) 0)]:List AE))) c9]) [.slice none 0 0] DS KF rfl (.cons rfl rfl rfl .nil) rfl rfl)<|A5 rfl<|Aw rfl (.none rfl) rfl rfl<|AU ob 28 DS rfl fun oc u3 od oe ff=>⟨⟨_,(T4 (Mo [26] w) ai a5 fe ff)⟩,?_⟩
 refine CX dcd<|WY.one<|have h5:=Os h4 ff;BC rfl (.none rfl) rfl<|BB (vs:=[Sl c8 (((([]:List AE)++e.1.funcs)++([(AE.mk ([122,122]:Bts) [] a.1.type_ (AB.mk 7 a.1.name ([]:Bts) 0 ((0,0):Nat×Nat) d 0) 0)]:List AE))) c9]) (cs':=[Sl c8 (((([]:List AE)++e.1.funcs)++([(AE.mk ([122,122]:Bts) [] a.1.type_ (AB.mk 7 a.1.name ([]:Bts) 0 ((0,0):Nat×Nat) d 0) 0)]:List AE))) c9]) EZ rfl rfl rfl rfl (AP (Own.one h5) BO) oe dcd rfl rfl fun u4 og h6=>WY.nil<|have oh:=Os h5 h6;⟨_,oc,od,((([]:List AE)++e.1.funcs)++([(AE.mk ([122,122]:Bts) [] a.1.type_ (AB.mk 7 a.1.name ([]:Bts) 0 ((0,0):Nat×Nat) d 0) 0)]:List AE)),c8,c9,Pu,c,(T3 (T4 (Mo [25,26,28] n) g w ai a5) fe ff h6),oh,og⟩
 refine Aw rfl (.none rfl) rfl rfl<|AU n8 28 DS rfl fun u5 u6 oi oj da=>⟨⟨_,(T3 (Mo [26] w) ai a5 da)⟩,?_⟩
 refine A5 rfl<|have ok:=Os fd da;have ol:=Os (Os (Os eb ai) a5) da;Bi c fun u7 h7 c=>Aw rfl (.none rfl) rfl rfl<|Az (κ:=AI) rfl rfl ok dcd HK (BL ol) (CF h7) (CK h7) fun u8 om va fg fh=>?_
 obtain ⟨db,dc,rfl⟩:=Own.len fg
 refine ⟨⟨_,(T4 (Mo [26] w) ai a5 da fh)⟩,?_⟩
 refine Qx o rfl (v:=Ag [Sl db (((([]:List AE)++e.1.funcs)++([(AE.mk ([122,122]:Bts) [] a.1.type_ (AB.mk 7 a.1.name ([]:Bts) 0 ((0,0):Nat×Nat) d 0) 0)]:List AE))) dc]) (fun _ _=>Bv (cs:=[Sl db (((([]:List AE)++e.1.funcs)++([(AE.mk ([122,122]:Bts) [] a.1.type_ (AB.mk 7 a.1.name ([]:Bts) 0 ((0,0):Nat×Nat) d 0) 0)]:List AE))) dc]) [.slice none 0 0] DS KF rfl (.cons rfl rfl rfl .nil) rfl rfl)<|CX dcd<|WY.one<|have oo:=Bs oj fh;BC rfl (.none rfl) rfl<|BB (vs:=[Sl db (((([]:List AE)++e.1.funcs)++([(AE.mk ([122,122]:Bts) [] a.1.type_ (AB.mk 7 a.1.name ([]:Bts) 0 ((0,0):Nat×Nat) d 0) 0)]:List AE))) dc]) (cs':=[Sl db (((([]:List AE)++e.1.funcs)++([(AE.mk ([122,122]:Bts) [] a.1.type_ (AB.mk 7 a.1.name ([]:Bts) 0 ((0,0):Nat×Nat) d 0) 0)]:List AE))) dc]) EZ rfl rfl rfl rfl (AP (Own.one fg) BO) oo dcd rfl rfl fun vb op h8=>WY.nil<|have oq:=Os fg h8;⟨_,om,oi,((([]:List AE)++e.1.funcs)++([(AE.mk ([122,122]:Bts) [] a.1.type_ (AB.mk 7 a.1.name ([]:Bts) 0 ((0,0):Nat×Nat) d 0) 0)]:List AE)),db,dc,Pu,c,(T3 (T4 (Mo [25,26,28] n) g w ai a5) da fh h8),oq,op⟩
 refine Aw rfl (.none rfl) rfl rfl<|AU h0 28 DS rfl fun vc vd os ot bt=>⟨⟨_,(T2 (Mo [26] w) ai bt)⟩,?_⟩
 refine A5 rfl<|have ou:=Os h1 bt;have ov:=K4 AI (K4 AI (K4 AI am u q r y) ae af z n) g w ai bt;Bi c fun ve h9 c=>Aw rfl (.none rfl) rfl rfl<|Az (κ:=AI) rfl rfl ou dcd HK (Cl ov) (CF h9) (CK h9) fun vf vg vh ia de=>?_
 obtain ⟨vi,vj,rfl⟩:=Own.len ia
 refine ⟨⟨_,(T3 (Mo [26] w) ai bt de)⟩,?_⟩
 refine A5 rfl<|have ow:=Os (Os (Os eb ai) bt) de;Bi c fun vk ib c=>Aw rfl (.none rfl) rfl rfl<|Az (κ:=AI) rfl rfl ia dcd HK (BL ow) (CF ib) (CK ib) fun vl ox vm fi fj=>?_
 obtain ⟨df,dg,rfl⟩:=Own.len fi
 refine ⟨⟨_,(T4 (Mo [26] w) ai bt de fj)⟩,?_⟩
 refine Qx o rfl (v:=Ag [Sl df (((([]:List AE)++e.1.funcs)++([(AE.mk ([122,122]:Bts) [] a.1.type_ (AB.mk 7 a.1.name ([]:Bts) 0 ((0,0):Nat×Nat) d 0) 0)]:List AE))) dg]) (fun _ _=>Bv (cs:=[Sl df (((([]:List AE)++e.1.funcs)++([(AE.mk ([122,122]:Bts) [] a.1.type_ (AB.mk 7 a.1.name ([]:Bts) 0 ((0,0):Nat×Nat) d 0) 0)]:List AE))) dg]) [.slice none 0 0] DS KF rfl (.cons rfl rfl rfl .nil) rfl rfl)<|CX dcd<|WY.one<|have oy:=Y2 ot de fj;BC rfl (.none rfl) rfl<|BB (vs:=[Sl df (((([]:List AE)++e.1.funcs)++([(AE.mk ([122,122]:Bts) [] a.1.type_ (AB.mk 7 a.1.name ([]:Bts) 0 ((0,0):Nat×Nat) d 0) 0)]:List AE))) dg]) (cs':=[Sl df (((([]:List AE)++e.1.funcs)++([(AE.mk ([122,122]:Bts) [] a.1.type_ (AB.mk 7 a.1.name ([]:Bts) 0 ((0,0):Nat×Nat) d 0) 0)]:List AE))) dg]) EZ rfl rfl rfl rfl (AP (Own.one fi) BO) oy dcd rfl rfl fun vn oz ic=>WY.nil<|have o0:=Os fi ic;⟨_,ox,os,((([]:List AE)++e.1.funcs)++([(AE.mk ([122,122]:Bts) [] a.1.type_ (AB.mk 7 a.1.name ([]:Bts) 0 ((0,0):Nat×Nat) d 0) 0)]:List AE)),df,dg,Pu,c,(T3 (T4 (Mo [25,26,28] n) g w ai bt) de fj ic),o0,oz⟩
 refine Aw rfl (.none rfl) rfl rfl<|AU fc 28 DS rfl fun o1 vo o2 o6 bu=>⟨⟨_,(Tn (Mo [26] w) bu)⟩,?_⟩
 refine A5 rfl<|Aw rfl (.none rfl) rfl rfl<|Bf (cs:=[]) o1 26 [] DY Fs rfl rfl .nil rfl fun o7 o8 pa pb bv=>have pc:Own AI 58 o7 o8 26 (.slice (some ⟨pa,0,none⟩) 0 0) ([]:List AE):=Own.lit (css:=[]) pb rfl rfl rfl Au CP rfl;⟨⟨_,(T2 (Mo [26] w) bu bv)⟩,?_⟩
 refine A5 rfl<|have pd:=K4 AI (K4 AI (K4 AI am u q r y) ae af z n) g w bu bv;Bi c fun vp id c=>Aw rfl (.none rfl) rfl rfl<|Az (κ:=AI) rfl rfl pc dcd HK (Cl pd) (CF id) (CK id) fun vq vr vt ie dh=>?_
 obtain ⟨vu,vv,rfl⟩:=Own.len ie
 refine ⟨⟨_,(T3 (Mo [26] w) bu bv dh)⟩,?_⟩
 refine A5 rfl<|have pe:=Os (Os (Os eb bu) bv) dh;Bi c fun vw ig c=>Aw rfl (.none rfl) rfl rfl<|Az (κ:=AI) rfl rfl ie dcd HK (BL pe) (CF ig) (CK ig) fun vx pf vy fk fl=>?_
 obtain ⟨di,dj,rfl⟩:=Own.len fk
 refine ⟨⟨_,(T4 (Mo [26] w) bu bv dh fl)⟩,?_⟩
 refine Qx o rfl (v:=Ag [Sl di (((([]:List AE)++e.1.funcs)++([(AE.mk ([122,122]:Bts) [] a.1.type_ (AB.mk 7 a.1.name ([]:Bts) 0 ((0,0):Nat×Nat) d 0) 0)]:List AE))) dj]) (fun _ _=>Bv (cs:=[Sl di (((([]:List AE)++e.1.funcs)++([(AE.mk ([122,122]:Bts) [] a.1.type_ (AB.mk 7 a.1.name ([]:Bts) 0 ((0,0):Nat×Nat) d 0) 0)]:List AE))) dj]) [.slice none 0 0] DS KF rfl (.cons rfl rfl rfl .nil) rfl rfl)<|CX dcd<|WY.one<|have pg:=Y3 o6 bv dh fl;BC rfl (.none rfl) rfl<|BB (vs:=[Sl di (((([]:List AE)++e.1.funcs)++([(AE.mk ([122,122]:Bts) [] a.1.type_ (AB.mk 7 a.1.name ([]:Bts) 0 ((0,0):Nat×Nat) d 0) 0)]:List AE))) dj]) (cs':=[Sl di (((([]:List AE)++e.1.funcs)++([(AE.mk ([122,122]:Bts) [] a.1.type_ (AB.mk 7 a.1.name ([]:Bts) 0 ((0,0):Nat×Nat) d 0) 0)]:List AE))) dj]) EZ rfl rfl rfl rfl (AP (Own.one fk) BO) pg dcd rfl rfl fun vz ph ih=>WY.nil<|have pi:=Os fk ih;⟨_,pf,o2,((([]:List AE)++e.1.funcs)++([(AE.mk ([122,122]:Bts) [] a.1.type_ (AB.mk 7 a.1.name ([]:Bts) 0 ((0,0):Nat×Nat) d 0) 0)]:List AE)),di,dj,Pu,c,(T3 (T4 (Mo [25,26,28] n) g w bu bv) dh fl ih),pi,ph⟩
 refine Aw rfl (.none rfl) rfl rfl<|AU d9 28 DS rfl fun ii v1 fm fn aa=>⟨⟨_,(Mo [26] aa)⟩,?_⟩
 refine KE rfl rfl ?_ ?_
 refine Aw rfl (.none rfl) rfl rfl<|Bf (cs:=[]) ii 26 [] DY Fs rfl rfl .nil rfl fun ij pj pk pl al=>have ik:Own AI 58 ij pj 26 (.slice (some ⟨pk,0,none⟩) 0 0) ([]:List AE):=Own.lit (css:=[]) pl rfl rfl rfl Au CP rfl;⟨⟨_,(Tn (Mo [26] aa) al)⟩,?_⟩
 refine KE rfl rfl ?_ ?_
 refine have pm:=K3 AI (K4 AI (K4 AI am u q r y) ae af z n) g aa al;Bi c fun v2 il c=>Aw rfl (.none rfl) rfl rfl<|Az (κ:=AI) rfl rfl ik dcd HK (Cl pm) (CF il) (CK il) fun v3 pn v4 im b9=>?_
 obtain ⟨v5,v6,rfl⟩:=Own.len im
 refine ⟨⟨_,(T2 (Mo [26] aa) al b9)⟩,?_⟩
 refine A5 rfl<|Aw rfl (.none rfl) rfl rfl<|Bf (cs:=[Sb ([122,122]:Bts),.slice none 0 0,I a.1.type_,I 7,Sb a.1.name,Sb ([]:Bts),I 0,Cx (((0,0):Nat×Nat)),Sl h d l,I 0,I 0]) pn 27 [[Sb ([122,122]:Bts),.slice none 0 0,I a.1.type_,I 7,Sb a.1.name,Sb ([]:Bts),I 0,Cx (((0,0):Nat×Nat)),Sl h d l,I 0,I 0]] DY Fs rfl rfl (.cons rfl rfl rfl .nil) rfl fun po pp pq pr ca=>have ps:=Ss AJ (K4 AJ a3 g aa al b9) ca;have pt:Own AI 58 po pp 27 (.slice (some ⟨pq,0,none⟩) 1 1) ([(AE.mk ([122,122]:Bts) [] a.1.type_ (AB.mk 7 a.1.name ([]:Bts) 0 ((0,0):Nat×Nat) d 0) 0)]:List AE):=Own.lit (css:=[[Sb ([122,122]:Bts),.slice none 0 0,I a.1.type_,I 7,Sb a.1.name,Sb ([]:Bts),I 0,Cx (((0,0):Nat×Nat)),Sl h d l,I 0,I 0]]) pr rfl rfl rfl (AQ (Fa (x:=(AE.mk ([122,122]:Bts) [] a.1.type_ (AB.mk 7 a.1.name ([]:Bts) 0 ((0,0):Nat×Nat) d 0) 0)) Bd ps) Au) (Av rfl CP) rfl;⟨⟨_,(T3 (Mo [26] aa) al b9 ca)⟩,?_⟩
 refine A5 rfl<|have pu:=Os im ca;Bi c fun v7 io c=>Aw rfl (.none rfl) rfl rfl<|Az (κ:=AI) rfl rfl pu dcd HK (BL pt) (CF io) (CK io) fun v8 pv v9 fo fp=>?_
 obtain ⟨dk,dl,rfl⟩:=Own.len fo
 refine ⟨⟨_,(T4 (Mo [26] aa) al b9 ca fp)⟩,?_⟩
 refine Qx o rfl (v:=Ag [Sl dk (((([]:List AE)++e.1.funcs)++([(AE.mk ([122,122]:Bts) [] a.1.type_ (AB.mk 7 a.1.name ([]:Bts) 0 ((0,0):Nat×Nat) d 0) 0)]:List AE))) dl]) (fun _ _=>Bv (cs:=[Sl dk (((([]:List AE)++e.1.funcs)++([(AE.mk ([122,122]:Bts) [] a.1.type_ (AB.mk 7 a.1.name ([]:Bts) 0 ((0,0):Nat×Nat) d 0) 0)]:List AE))) dl]) [.slice none 0 0] DS KF rfl (.cons rfl rfl rfl .nil) rfl rfl)<|CX dcd<|WY.one<|have pw:=Y4 fn al b9 ca fp;BC rfl (.none rfl) rfl<|BB (vs:=[Sl dk (((([]:List AE)++e.1.funcs)++([(AE.mk ([122,122]:Bts) [] a.1.type_ (AB.mk 7 a.1.name ([]:Bts) 0 ((0,0):Nat×Nat) d 0) 0)]:List AE))) dl]) (cs':=[Sl dk (((([]:List AE)++e.1.funcs)++([(AE.mk ([122,122]:Bts) [] a.1.type_ (AB.mk 7 a.1.name ([]:Bts) 0 ((0,0):Nat×Nat) d 0) 0)]:List AE))) dl]) EZ rfl rfl rfl rfl (AP (Own.one fo) BO) pw dcd rfl rfl fun wa px ip=>WY.nil<|have py:=Os fo ip;⟨_,pv,fm,((([]:List AE)++e.1.funcs)++([(AE.mk ([122,122]:Bts) [] a.1.type_ (AB.mk 7 a.1.name ([]:Bts) 0 ((0,0):Nat×Nat) d 0) 0)]:List AE)),dk,dl,Pu,c,(T3 (T4 (Mo [25,26,28] n) g aa al b9) ca fp ip),py,px⟩
 refine Aw rfl (.none rfl) rfl rfl<|Bf (cs:=[Sb ([122,122]:Bts),.slice none 0 0,I a.1.type_,I 7,Sb a.1.name,Sb ([]:Bts),I 0,Cx (((0,0):Nat×Nat)),Sl h d l,I 0,I 0]) ij 27 [[Sb ([122,122]:Bts),.slice none 0 0,I a.1.type_,I 7,Sb a.1.name,Sb ([]:Bts),I 0,Cx (((0,0):Nat×Nat)),Sl h d l,I 0,I 0]] DY Fs rfl rfl (.cons rfl rfl rfl .nil) rfl fun pz p0 p1 p2 bg=>have p3:=K4 AJ a3 g aa al bg;have p4:Own AI 58 pz p0 27 (.slice (some ⟨p1,0,none⟩) 1 1) ([(AE.mk ([122,122]:Bts) [] a.1.type_ (AB.mk 7 a.1.name ([]:Bts) 0 ((0,0):Nat×Nat) d 0) 0)]:List AE):=Own.lit (css:=[[Sb ([122,122]:Bts),.slice none 0 0,I a.1.type_,I 7,Sb a.1.name,Sb ([]:Bts),I 0,Cx (((0,0):Nat×Nat)),Sl h d l,I 0,I 0]]) p2 rfl rfl rfl (AQ (Fa (x:=(AE.mk ([122,122]:Bts) [] a.1.type_ (AB.mk 7 a.1.name ([]:Bts) 0 ((0,0):Nat×Nat) d 0) 0)) Bd p3) Au) (Av rfl CP) rfl;⟨⟨_,(T2 (Mo [26] aa) al bg)⟩,?_⟩
 refine A5 rfl<|have p5:=Os ik bg;have p6:=K4 AI (K4 AI (K4 AI am u q r y) ae af z n) g aa al bg;Bi c fun wb iq c=>Aw rfl (.none rfl) rfl rfl<|Az (κ:=AI) rfl rfl p5 dcd HK (Cl p6) (CF iq) (CK iq) fun wc wd we ir dm=>?_
 obtain ⟨wf,wg,rfl⟩:=Own.len ir
 refine ⟨⟨_,(T3 (Mo [26] aa) al bg dm)⟩,?_⟩
 refine A5 rfl<|have p7:=Os p4 dm;Bi c fun wh it c=>Aw rfl (.none rfl) rfl rfl<|Az (κ:=AI) rfl rfl ir dcd HK (BL p7) (CF it) (CK it) fun wi p8 wj fq fr=>?_
 obtain ⟨dn,dp,rfl⟩:=Own.len fq
 refine ⟨⟨_,(T4 (Mo [26] aa) al bg dm fr)⟩,?_⟩
 refine Qx o rfl (v:=Ag [Sl dn (((([]:List AE)++e.1.funcs)++([(AE.mk ([122,122]:Bts) [] a.1.type_ (AB.mk 7 a.1.name ([]:Bts) 0 ((0,0):Nat×Nat) d 0) 0)]:List AE))) dp]) (fun _ _=>Bv (cs:=[Sl dn (((([]:List AE)++e.1.funcs)++([(AE.mk ([122,122]:Bts) [] a.1.type_ (AB.mk 7 a.1.name ([]:Bts) 0 ((0,0):Nat×Nat) d 0) 0)]:List AE))) dp]) [.slice none 0 0] DS KF rfl (.cons rfl rfl rfl .nil) rfl rfl)<|CX dcd<|WY.one<|have p9:=Y4 fn al bg dm fr;BC rfl (.none rfl) rfl<|BB (vs:=[Sl dn (((([]:List AE)++e.1.funcs)++([(AE.mk ([122,122]:Bts) [] a.1.type_ (AB.mk 7 a.1.name ([]:Bts) 0 ((0,0):Nat×Nat) d 0) 0)]:List AE))) dp]) (cs':=[Sl dn (((([]:List AE)++e.1.funcs)++([(AE.mk ([122,122]:Bts) [] a.1.type_ (AB.mk 7 a.1.name ([]:Bts) 0 ((0,0):Nat×Nat) d 0) 0)]:List AE))) dp]) EZ rfl rfl rfl rfl (AP (Own.one fq) BO) p9 dcd rfl rfl fun wk qa iu=>WY.nil<|have qb:=Os fq iu;⟨_,p8,fm,((([]:List AE)++e.1.funcs)++([(AE.mk ([122,122]:Bts) [] a.1.type_ (AB.mk 7 a.1.name ([]:Bts) 0 ((0,0):Nat×Nat) d 0) 0)]:List AE)),dn,dp,Pu,c,(T3 (T4 (Mo [25,26,28] n) g aa al bg) dm fr iu),qb,qa⟩
 refine Aw rfl (.none rfl) rfl rfl<|Bf (cs:=[Sb ([122,122]:Bts),.slice none 0 0,I a.1.type_,I 7,Sb a.1.name,Sb ([]:Bts),I 0,Cx (((0,0):Nat×Nat)),Sl h d l,I 0,I 0]) ii 27 [[Sb ([122,122]:Bts),.slice none 0 0,I a.1.type_,I 7,Sb a.1.name,Sb ([]:Bts),I 0,Cx (((0,0):Nat×Nat)),Sl h d l,I 0,I 0]] DY Fs rfl rfl (.cons rfl rfl rfl .nil) rfl fun iv qc qd qe bh=>have qf:=K3 AJ a3 g aa bh;have qg:Own AI 58 iv qc 27 (.slice (some ⟨qd,0,none⟩) 1 1) ([(AE.mk ([122,122]:Bts) [] a.1.type_ (AB.mk 7 a.1.name ([]:Bts) 0 ((0,0):Nat×Nat) d 0) 0)]:List AE):=Own.lit (css:=[[Sb ([122,122]:Bts),.slice none 0 0,I a.1.type_,I 7,Sb a.1.name,Sb ([]:Bts),I 0,Cx (((0,0):Nat×Nat)),Sl h d l,I 0,I 0]]) qe rfl rfl rfl (AQ (Fa (x:=(AE.mk ([122,122]:Bts) [] a.1.type_ (AB.mk 7 a.1.name ([]:Bts) 0 ((0,0):Nat×Nat) d 0) 0)) Bd qf) Au) (Av rfl CP) rfl;⟨⟨_,(Tn (Mo [26] aa) bh)⟩,?_⟩
 refine A5 rfl<|Aw rfl (.none rfl) rfl rfl<|Bf (cs:=[]) iv 26 [] DY Fs rfl rfl .nil rfl fun qh qi qj qk bw=>have ql:Own AI 58 qh qi 26 (.slice (some ⟨qj,0,none⟩) 0 0) ([]:List AE):=Own.lit (css:=[]) qk rfl rfl rfl Au CP rfl;⟨⟨_,(T2 (Mo [26] aa) bh bw)⟩,?_⟩
 refine A5 rfl<|have qm:=K4 AI (K4 AI (K4 AI am u q r y) ae af z n) g aa bh bw;Bi c fun wl iw c=>Aw rfl (.none rfl) rfl rfl<|Az (κ:=AI) rfl rfl ql dcd HK (Cl qm) (CF iw) (CK iw) fun wm wn wo ix dq=>?_
 obtain ⟨wp,wq,rfl⟩:=Own.len ix
 refine ⟨⟨_,(T3 (Mo [26] aa) bh bw dq)⟩,?_⟩
 refine A5 rfl<|have qn:=Os (Os qg bw) dq;Bi c fun wr iy c=>Aw rfl (.none rfl) rfl rfl<|Az (κ:=AI) rfl rfl ix dcd HK (BL qn) (CF iy) (CK iy) fun ws qo wt fs ft=>?_
 obtain ⟨dr,ds,rfl⟩:=Own.len fs
 refine ⟨⟨_,(T4 (Mo [26] aa) bh bw dq ft)⟩,?_⟩
 refine Qx o rfl (v:=Ag [Sl dr (((([]:List AE)++e.1.funcs)++([(AE.mk ([122,122]:Bts) [] a.1.type_ (AB.mk 7 a.1.name ([]:Bts) 0 ((0,0):Nat×Nat) d 0) 0)]:List AE))) ds]) (fun _ _=>Bv (cs:=[Sl dr (((([]:List AE)++e.1.funcs)++([(AE.mk ([122,122]:Bts) [] a.1.type_ (AB.mk 7 a.1.name ([]:Bts) 0 ((0,0):Nat×Nat) d 0) 0)]:List AE))) ds]) [.slice none 0 0] DS KF rfl (.cons rfl rfl rfl .nil) rfl rfl)<|CX dcd<|WY.one<|have qp:=Y4 fn bh bw dq ft;BC rfl (.none rfl) rfl<|BB (vs:=[Sl dr (((([]:List AE)++e.1.funcs)++([(AE.mk ([122,122]:Bts) [] a.1.type_ (AB.mk 7 a.1.name ([]:Bts) 0 ((0,0):Nat×Nat) d 0) 0)]:List AE))) ds]) (cs':=[Sl dr (((([]:List AE)++e.1.funcs)++([(AE.mk ([122,122]:Bts) [] a.1.type_ (AB.mk 7 a.1.name ([]:Bts) 0 ((0,0):Nat×Nat) d 0) 0)]:List AE))) ds]) EZ rfl rfl rfl rfl (AP (Own.one fs) BO) qp dcd rfl rfl fun wu qq iz=>WY.nil<|have qr:=Os fs iz;⟨_,qo,fm,((([]:List AE)++e.1.funcs)++([(AE.mk ([122,122]:Bts) [] a.1.type_ (AB.mk 7 a.1.name ([]:Bts) 0 ((0,0):Nat×Nat) d 0) 0)]:List AE)),dr,ds,Pu,c,(T3 (T4 (Mo [25,26,28] n) g aa bh bw) dq ft iz),qr,qq⟩
 rintro _ b4 ⟨ad,cj,ck,az,bp,bq,rfl,c,bx,i0,fu⟩
 rw [F5] at c
 refine AY<|An (fun ao dt=>∃ad cb fv bi du dv,ao=Env.puts ad [(1,Pt d0 0),(3,Pt d1 0),(4,Sl a1 e.2.1 a2),(11,Pt ck 0),(92,.bool fv)]∧F4 ac aj e fv bi=some a8∧AS [26] cj b4 cb dt∧Slc AI cb.F dt (Sl du bi dv) bi∧Bk cb dt 28 ck [Sl du bi dv] 28) ?_ ?_
 refine AM<|Vm<|Vr (.bool (decide (ax>200)))<|Vm<|Bo c (fun aw c=>?_) fun aw c=>?_
 refine Pg aw<|Pg aw<|Pg aw<|Pg aw<|Vp aw<|AA ?_
 obtain ⟨qs,i1,qt⟩:=Own.freeze (S:=[26]) i0 dcd dcd
 refine have qu:=Bs fu i1;⟨_,qs,true,az,bp,bq,Pu,c,(Mo [26] i1),qt,qu⟩
 refine Gx aw (Lx Gl rfl rfl (Bw fu)) ?_
 obtain ⟨qv,i2,i3⟩:=Own.freeze (S:=[26]) i0 dcd dcd
 refine Bi c fun dw qw c=>B7 (.guard (t:=false) (b:=false) rfl rfl rfl rfl (Cb aw)) rfl rfl (Cg [Ag [Sl bp az bq]] rfl)<|Calls.mono (Oy ac qv b4 qw (BH (x:=(AL.mk az)) i3)) ?_
 rintro _ wv ⟨qx,ww,rfl,fw,qy⟩
 obtain rfl:=Aq qy
 refine ⟨_,rfl,?_⟩
 refine Gx aw (v:=I dw.why) (Js (cs:=[I dw.why,I dw.at_]) SZ rfl rfl)<|Gr aw (.bool (dw.why != 0))<|Vp aw<|AA<|have qz:=Ss AI i3 fw;have q0:=Y2 fu i2 fw;⟨_,qx,(dw.why != 0),az,bp,bq,Pu,c,(Tn (Mo [26] i2) fw),qz,q0⟩
 rintro _ dt ⟨ad,cb,fv,bi,du,dv,rfl,c,bz,q1,q2⟩
 rw [F4] at c
 refine Cn c (fun q3 c=>?_) fun q3 c=>?_
 refine Sr<|Va (.bool true)<|AA<|AW ?_
 obtain rfl:=AN c
 refine O1 B cf rfl (.tmp rfl)<|⟨cb,rfl,Ho (Tn (T4 (T4 (T4 (Mo [21,22,23,25,26,28] b2) bl cg a9 ba) u q r y) ae af z bx) bz) cd⟩
 refine WC.skip<|Sr<|have q4:=Bs (Y4 (Y4 d2 u q r y) ae af z bx) bz;Vx (Lx Gl rfl rfl (Bw q4))<|Vx (Fd Vn rfl)<|have q5:=Bs (Y4 (Y4 gd u q r y) ae af z bx) bz;Vx (Ld CS rfl (Bc q5 rfl))<|Vm<|have q6:=Ss AI (K4 AI (K4 AI am u q r y) ae af z bx) bz;have q7:=K2 A1 el bx bz;Bi c fun ab q8 c=>Ca (Cg [Ag [Sl bm e.1.funcs bn],Sb aj.name,Sl a1 e.2.1 a2,I 1000] rfl) (MP ac cb dt q8 (BH (x:=e.1) q6) q7) ?_
 rintro _ wx ⟨q9,wy,rfl,ec,ra⟩
 obtain ⟨i5,i6,rfl,i4⟩:=E1 (Lw ra)
 refine Ef<|AU q9 29 Mg rfl fun rb w0 rc rd dx=>have re:=Ss Kd.cpx i4 dx;Eu<|St M7 rd rfl rfl rfl rfl fun rf fx dy=>AA<|Sr<|have rg:=Y3 q2 ec dx dy;Vx (Lx Gl rfl rfl (Bw rg))<|have rh:=K3 AI q1 ec dx dy;Bi c fun ag ri c=>Ca (Cg [Ag [Sl du bi dv],Sb ([122,122]:Bts),.slice none 0 0,I 16384] rfl) (MP ac rb rf ri (BH (x:=(AL.mk bi)) rh) Bd) ?_
 rintro _ w1 ⟨rj,w2,rfl,cc,rk⟩
 obtain ⟨i8,i9,rfl,i7⟩:=E1 (Lw rk)
 refine Ef<|AU rj 30 Mg rfl fun fy w4 rl rm b0=>have rn:=Ss Kd.cpx i7 b0;Eu<|St M7 rm rfl rfl rfl rfl fun ro fz b1=>AA<|AY<|An (fun ao dz=>∃ad bj f0,ao=Env.puts ad [(12,Pt rc 0),(13,Pt rl 0),(107,.bool f0)]∧F3 ac ab ag f0=some a8∧AS [] fy ro bj dz) ?_ ?_
 refine AM<|Vx (Fz L7 rfl)<|have rp:=Y3 fx cc b0 b1;Vx (Ld LE rfl (Bc rp rfl))<|Vr (.bool (ab.why==60))<|Vm<|Bo c (fun a6 c=>?_) fun a6 c=>?_
 refine Pg a6<|Pg a6<|Pg a6<|Vp a6<|AA<|⟨_,fy,true,Pu,c,Rf⟩
 refine Gx a6 (Fz L7 rfl)<|Gx a6 (Ld LE rfl (Bc fz rfl))<|Gr a6 (.bool (ag.why==60))<|Vp a6<|AA<|⟨_,fy,(ag.why==60),Pu,c,Rf⟩
 rintro _ dz ⟨ad,bj,f0,rfl,c,bk⟩
 rw [F3] at c
 refine Cn c (fun rq c=>?_) fun rq c=>?_
 refine An (fun ao ja=>∃ad f1 f2,ao=Env.puts ad [(2,.bool f2)]∧Jy f2=some a8∧AS [] bj dz f1 ja) ?_ ?_
 refine AM<|Vx (Fz L7 rfl)<|have rr:=Bs fz bk;Vx (Ld LE rfl (Bc rr rfl))<|Vr (.bool (ag.why != 0))<|Vm<|Bo c (fun a7 c=>?_) fun a7 c=>?_
 refine Pg a7<|Pg a7<|Pg a7<|Vp a7<|Va (.bool true)<|AA<|⟨_,bj,true,Pu,c,Rf⟩
 refine Gx a7 (Fz L7 rfl)<|have rs:=Y4 fx cc b0 b1 bk;Gx a7 (Ld LE rfl (Bc rs rfl))<|Gr a7 (.bool (ab.why != 0))<|Vp a7<|Va (.bool (ab.why != 0))<|AA<|⟨_,bj,(ab.why != 0),Pu,c,Rf⟩
 rintro _ ja ⟨ad,f1,f2,rfl,c,rt⟩
 rw [Jy] at c
 refine AW ?_
 obtain rfl:=AN c
 refine O1 B cf rfl (.tmp rfl)<|⟨f1,rfl,Ho (Tn (T4 (T4 (T4 (T4 (T4 (Mo [21,22,23,25,26,28,29,30] b2) bl cg a9 ba) u q r y) ae af z bx) bz ec dx dy) cc b0 b1 bk) rt) cd⟩
 refine WC.skip<|An (fun ao jb=>∃ad f3 f4,ao=Env.puts ad [(2,.bool f4)]∧HJ f4=some a8∧AS [] bj dz f3 jb) ?_ ?_
 refine AM<|Vx (Fz L7 rfl)<|have f5:=Y4 fx cc b0 b1 bk;Vx (Ld LE rfl (Bc f5 rfl))<|Vx (Fz L7 rfl)<|have f6:=Bs fz bk;Vx (Ld LE rfl (Bc f6 rfl))<|Vr (.bool (ab.why==ag.why))<|Vm<|Bo c (fun aq c=>?_) fun aq c=>?_
 refine Gx aq (Fd P8 rfl)<|Gx aq (Lx DX rfl rfl (Bk.part f5 1 [I ab.value.type_,Cx ab.value.num,.bool ab.value.bool,Sl i5 ab.value.list i6] rfl))<|Gx aq (Fd P8 rfl)<|Gx aq (Lx DX rfl rfl (Bk.part f6 1 [I ag.value.type_,Cx ag.value.num,.bool ag.value.bool,Sl i8 ag.value.list i9] rfl))<|have ru:=Ss Kd.cpx (K4 Kd.cpx re dy cc b0 b1) bk;have rx:=K2 Kd.cpx rn b1 bk;Bi c fun w5 ry c=>B7 (.guard (t:=true) (b:=true) rfl rfl rfl rfl (Cb aq)) rfl rfl (Cg [Ag [I ab.value.type_,Cx ab.value.num,.bool ab.value.bool,Sl i5 ab.value.list i6],Ag [I ag.value.type_,Cx ag.value.num,.bool ag.value.bool,Sl i8 ag.value.list i9]] rfl)<|Calls.mono (TU ac bj dz ry (BD (x:=(AH.mk ab.value.type_ ab.value.num ab.value.bool ab.value.list)) ru) (BD (x:=(AH.mk ag.value.type_ ag.value.num ag.value.bool ag.value.list)) rx)) ?_
 rintro _ w6 ⟨jc,rfl,ed⟩
 refine ⟨_,rfl,?_⟩
 refine Vp aq<|Vm<|Bo c (fun ar c=>?_) fun ar c=>?_
 refine Gx ar (Fd P9 rfl)<|have rz:=Bs f6 ed;Gx ar (Ld CD rfl (Bc rz rfl))<|Gx ar (Fd P9 rfl)<|have r0:=Bs f5 ed;Gx ar (Ld CD rfl (Bc r0 rfl))<|Gr ar (.bool (decide (ag.moves>ab.moves)))<|Vp ar<|Va (.bool (decide (ag.moves>ab.moves)))<|AA<|⟨_,jc,(decide (ag.moves>ab.moves)),Pu,c,(Mo [] ed)⟩
 refine Pg ar<|Pg ar<|Pg ar<|Pg ar<|Pg ar<|Vp ar<|Va (.bool false)<|AA<|⟨_,jc,false,Pu,c,(Mo [] ed)⟩
 refine Pg aq<|Pg aq<|Pg aq<|Pg aq<|Pg aq<|Vp aq<|Vm<|Pg rfl<|Pg rfl<|Pg rfl<|Pg rfl<|Pg rfl<|Vr (.bool false)<|Va (.bool false)<|AA<|⟨_,bj,false,Pu,c,Rf⟩
 rintro _ jb ⟨ad,f3,f4,rfl,c,r1⟩
 rw [HJ] at c
 refine AW ?_
 obtain rfl:=AN c
 refine O1 B cf rfl (.tmp rfl)<|⟨f3,rfl,Ho (Tn (T4 (T4 (T4 (T4 (T4 (Mo [21,22,23,25,26,28,29,30] b2) bl cg a9 ba) u q r y) ae af z bx) bz ec dx dy) cc b0 b1 bk) r1) cd⟩
theorem Pw(c:Nat):CC.Spec (CC c):=lk0 (PO c)
end Fth
namespace Fth
open Go
def T{α:Type}(x:Option α)(Q:α→Prop):Prop:=∃a,x=some a∧Q a
section
variable{α β:Type}{x:Option α}{f:α→Option β}{P:α→Prop}{Q:β→Prop}
theorem T.some{a:α}(h:P a):T (.some a) P:=⟨a,rfl,h⟩
theorem T.bind(h:T x P)(k: ∀a,P a→T (f a) Q):T (x.bind f) Q:=by
 obtain ⟨a,rfl,ha⟩:=h
 exact k a ha
theorem T.eq{a:α}(h:x= .some a)(k:T (f a) Q):T (x.bind f) Q:=by subst h;exact k
theorem T.mono{P':α→Prop}(h:T x P)(k: ∀a,P a→P' a):T x P':=by obtain ⟨a,e,ha⟩:=h;exact ⟨a,e,k a ha⟩
theorem T.cond{c:Bool}{x y:Option α}(h1:c=true→T x P)(h2:c=false→T y P):T (bif c then x else y) P:=by
 cases c
 ·exact h2 rfl
 ·exact h1 rfl
end
def Ev(p:Nat→Prop):Prop:=∃n,∀N,n≤N→p N
theorem Ev.and{p q:Nat→Prop}(hp:Ev p)(hq:Ev q):Ev fun N=>p N∧q N:=by
 obtain ⟨n,hn⟩:=hp;obtain ⟨m,hm⟩:=hq
 exact ⟨n+m,fun N h=>⟨hn N om,hm N om⟩⟩
theorem Ev.mono{p q:Nat→Prop}(hp:Ev p)(h: ∀N,p N→q N):Ev q:=let ⟨n,hn⟩:=hp;⟨n,fun N hN=>h N (hn N hN)⟩
theorem Ev.all{p:Nat→Prop}(h: ∀N,p N):Ev p:=⟨0,fun N _=>h N⟩
theorem Ev.get{p:Nat→Prop}(hp:Ev p): ∃N,p N:=let ⟨n,hn⟩:=hp;⟨n,hn n (Nat.le_refl n)⟩
theorem MJ(n:Nat):Ev fun N=>n≤N:=⟨n,fun _ h=>h⟩
theorem wr{x:Int}(h1: -9223372036854775808≤x)(h2:x≤9223372036854775807):IntKind.i64.wrap x=x:=by
 simp only [IntKind.wrap,IntKind.signed,IntKind.bits]
 simp
 omega
theorem FV{α:Type}{xs:List α}{i:Int}(h0:0≤i)(h1:i<xs.length):T (idx xs i) fun x=>xs[i.toNat]?= .some x:=by
 refine ⟨xs[i.toNat]'om,?_,?_⟩
 ·rw [idx,if_pos h0];exact List.getElem?_eq_getElem _
 ·exact List.getElem?_eq_getElem _
theorem CA{α:Type}{xs:List α}{i:Nat}{x:α}(h:xs[i]?= .some x):idx xs (i:Int)= .some x:=by
 rw [idx,if_pos om];exact h
theorem NK{α:Type}{xs:List α}{lo hi:Int}(h0:0≤lo)(h1:lo≤hi)(h2:hi≤xs.length):T (sub xs lo hi) fun ys=>ys=(xs.drop lo.toNat).take (hi.toNat - lo.toNat):=by
 rw [sub,if_pos ⟨h0,h1,h2⟩];exact .some rfl
theorem Ff{α:Type}{b:Nat}{xs ys:List α}(hb:b≤4096)(h:xs.length+ys.length≤34359738368):T (GS b xs ys) fun _=>True:=by
 rw [GS,if_pos]
 ·exact .some trivial
 ·refine ⟨?_,om⟩
  calc (xs.length+ys.length)*b≤34359738368*4096:=Nat.mul_le_mul h hb
   _≤140737488355328:=by decide
theorem L4{xs ys:List UInt8}(h:xs.length+ys.length≤34359738368):T (Pc xs ys) fun zs=>zs=xs++ys:=by
 rw [Pc,if_pos om];exact .some rfl
theorem YS{n:Int}(h:n≠0):T (nz n) fun _=>True:=by rw [nz,if_neg h];exact .some trivial
theorem CO{p:Prop}[Decidable p](h:decide p=true):p:=of_decide_eq_true h
theorem Do{p:Prop}[Decidable p](h:decide p=false): ¬p:=of_decide_eq_false h
theorem B9{x y:Int}(h:(x==y)=true):x=y:=by simpa using h
theorem Bn{x y:Int}(h:(x==y)=false):x≠y:=by simpa using h
theorem Li{x y:Int}(h:(x != y)=true):x≠y:=by simpa using h
theorem Jp{x y:Int}(h:(x != y)=false):x=y:=by simpa using h
end Fth
namespace Fth
open Go
def Gf(x:Nat)(n:Int):Prop:=x=FloatKind.f64.nearest n∧ -16777216≤n∧n≤16777216
def Gn(z:Nat×Nat):Prop:=∃a b,Gf z.1 a∧Gf z.2 b
theorem YT(c:UInt8):T (HU c) fun _=>True:=by
 unfold HU IV
 repeat (first|exact T.some trivial|refine T.cond (fun _=>?_) (fun _=>?_))
theorem Xk(c:UInt8):T (GW c) fun _=>True:=by
 unfold GW Gw
 repeat (first|exact T.some trivial|refine T.cond (fun _=>?_) (fun _=>?_))
theorem Vz(c:UInt8):T (Gy c) fun _=>True:=by
 unfold Gy KL
 repeat (first|exact T.some trivial|refine T.cond (fun _=>?_) (fun _=>?_))
theorem AAp{N:Nat}{t:List UInt8}{at_:Int}(h0:0≤at_)(h1:at_≤t.length)(hl:t.length≤34359738368)(hN:t.length+2≤N):
  T (IS N t at_) fun n=>0≤n∧at_+n≤t.length:=by
 have key: ∀(k:Nat) (n:Int),0≤n→at_+n≤t.length→(t.length:Int) - (at_+n)<k→T (Eb t at_ k n) fun n=>0≤n∧at_+n≤t.length:=by
  intro k
  induction k with
  |zero=>intro n h2 h3 h4;omega
  |succ k ih=>
   intro n h2 h3 h4
   show T (GR t at_ (Eb t at_ k) n) _
   unfold GR
   have fin:T (GX n (Eb t at_ k) false) fun n=>0≤n∧at_+n≤t.length:= .some ⟨h2,h3⟩
   rw [wr (x:=at_+n) om om]
   refine T.cond (fun h=>?_) (fun _=>fin)
   have h:=CO h
   have go: ∀b,T (GX n (Eb t at_ k) b) fun n=>0≤n∧at_+n≤t.length:=by
    intro b
    cases b
    ·exact fin
    ·show T (Eb t at_ k (IntKind.i64.wrap (n+1))) _
     rw [wr om om]
     exact ih _ om om om
   refine T.bind (FV om h) fun c _=>T.bind (Xk c) fun b _=>?_
   refine T.cond (fun _=>go _) fun _=>T.bind (Vz c) fun b _=>T.cond (fun _=>go _) fun _=>go _
 exact key N 0 om om om
theorem AAq(e:Int):((u8c e).toNat:Int)≤255:=by have:=(u8c e).toNat_lt;omega
theorem V0{N:Nat}{t:List UInt8}(hl:t.length≤34359738368)(hN:t.length+2≤N):
  T (El N t) fun x=> -16777217≤x.1∧x.1≤16777217∧0≤x.2∧x.2≤t.length:=by
 have key: ∀(i:Int),0≤i→∀(k:Nat) (n p:Int),0≤n→n≤16777217→0≤p→p≤t.length→(t.length:Int) - p<k→T (EJ t i k n p) fun x=> -16777217≤x.1∧x.1≤16777217∧0≤x.2∧x.2≤t.length:=by
  intro i hi k
  induction k with
  |zero=>intro n p _ _ _ _ _;omega
  |succ k ih=>
   intro n p h1 h2 h3 h4 h5
   show T (E8 t i (EJ t i k) n p) _
   unfold E8
   have fin:T (Ek t i n p (EJ t i k) false) fun x=> -16777217≤x.1∧x.1≤16777217∧0≤x.2∧x.2≤t.length:=by
    unfold Ek
    refine T.cond (fun h=>by cases h) fun _=>T.cond (fun _=> .some ⟨om,om,om,om⟩) fun _=>T.cond (fun _=>?_) fun _=>?_
    ·refine .some ⟨?_,?_,h3,h4⟩<;>simp only<;>rw [wr om om]<;>omega
    ·exact .some ⟨by simp only;omega,by simp only;omega,h3,h4⟩
   refine T.cond (fun h=>?_) fun _=>fin
   have h:=CO h
   refine T.bind (FV h3 h) fun c _=>T.cond (fun _=>?_) fun _=>fin
   refine T.bind (FV h3 h) fun c' _=>?_
   generalize decide (((c').toNat:Int)≤(((57:UInt8)).toNat:Int))=b
   cases b
   ·exact fin
   ·unfold Ek
    refine T.cond (fun _=>?_) fun h=>by cases h
    refine T.bind (FV h3 h) fun c'' _=>?_
    generalize hc:(((c'').toNat:Int) - (((48:UInt8)).toNat:Int))=e
    have:=AAq e
    have hu:(0:Int)≤((u8c e).toNat:Int):=om
    rw [wr (x:=p+1) om om,wr (x:=10*n) om om,wr (x:=((u8c e).toNat:Int)) om om,wr (x:=10*n+((u8c e).toNat:Int)) om om]
    split
    ·exact ih _ _ om om om om om
    ·exact ih _ _ om om om om om
 unfold El
 have j5: ∀b,(b=true→1≤t.length)→T (HV N t b) fun x=> -16777217≤x.1∧x.1≤16777217∧0≤x.2∧x.2≤t.length:=by
  intro b hb
  refine T.cond (fun h=>?_) fun _=>?_
  ·have:=hb h
   exact key 1 om N 0 1 om om om om om
  ·exact key 0 om N 0 0 om om om om om
 refine T.cond (fun h=>?_) fun _=>j5 _ fun h=>by cases h
 have h:=CO h
 exact T.bind (FV om om) fun c _=>j5 _ fun _=>om
theorem ABV(n:Aj):T (HW n) fun x=>x.2=0→ -16777216≤n.re∧n.re≤16777216∧ -16777216≤n.im∧n.im≤16777216:=by
 unfold HW
 have bad:T (Jq n true) fun x=>x.2=0→ -16777216≤n.re∧n.re≤16777216∧ -16777216≤n.im∧n.im≤16777216:= .some fun h=>by cases h
 refine T.cond (fun _=>bad) fun h1=>T.cond (fun _=>bad) fun h2=>T.cond (fun _=>bad) fun h3=>?_
 have h1:=Do h1;have h2:=Do h2;have h3:=Do h3
 cases h4:decide (n.im>16777216)
 ·have h4:=Do h4
  exact .some fun _=>⟨om,om,om,om⟩
 ·exact bad
theorem TX: ∀(n N:Nat) (a:Int),n<N→0≤a→a<10^n*10→n≤40→a≤1000000000000→T (ref01_digits N a) fun s=>s.length≤n+1:=by
 intro n
 induction n with
 |zero=>
  intro N a hN h0 h1 _ _
  obtain ⟨N,rfl⟩: ∃m,N=m+1:=⟨N - 1,om⟩
  show T (DL _ N a) _
  unfold DL
  refine T.cond (fun h=>?_) fun _=>?_
  ·have:=CO h;omega
  refine T.bind (YS om) fun _ _=>T.cond (fun h=>?_) fun _=> .some (by simp)
  have:=CO h;omega
 |succ n ih=>
  intro N a hN h0 h1 h2 h3
  obtain ⟨N,rfl⟩: ∃m,N=m+1:=⟨N - 1,om⟩
  show T (DL _ N a) _
  unfold DL
  refine T.cond (fun h=>?_) fun _=>?_
  ·have:=CO h;omega
  refine T.bind (YS om) fun _ _=>T.cond (fun h=>?_) fun _=> .some (by simp)
  have h:=CO h
  have hd:a.tdiv 10=a / 10:=Int.tdiv_eq_ediv_of_nonneg h0
  refine T.bind (YS om) fun _ _=>?_
  rw [hd,wr (x:=a / 10) om om]
  have hlt:a / 10<10^n*10:=by
   rw [Int.pow_succ] at h1
   omega
  refine T.bind (ih N (a / 10) om om hlt om om) fun s hs=>T.bind (L4 (by simp;omega)) fun z hz=> .some ?_
  subst hz;simp;omega
theorem UY{N:Nat}{a:Int}(hN:40≤N)(h0: -1000000000000≤a)(h1:a≤1000000000000):T (ref01_digits N a) fun s=>s.length≤40:=by
 rcases Int.lt_or_le a 0 with h|h
 ·obtain ⟨N,rfl⟩: ∃m,N=m+1:=⟨N - 1,om⟩
  show T (DL _ N a) _
  unfold DL
  refine T.cond (fun _=>?_) fun h'=>?_
  ·rw [wr (x:=0 - a) om om]
   refine T.bind (TX 13 N (0 - a) om om om om om) fun s hs=>T.bind (L4 (by simp;omega)) fun z hz=> .some ?_
   subst hz;simp;omega
  ·have:=Do h';omega
 ·exact (TX 13 N a om h om om om).mono fun s hs=>om
theorem XA{N:Nat}{n:Aj}(hN:40≤N)(h1: -16777216≤n.re)(h2:n.re≤16777216)(h3: -16777216≤n.im)(h4:n.im≤16777216):T (F2 N n) fun s=>s.length≤100:=by
 have hr:=UY (N:=N) (a:=n.re) hN om om
 have hi:=UY (N:=N) (a:=n.im) hN om om
 unfold F2
 refine T.cond (fun _=>T.bind hr fun s hs=> .some om) fun _=>T.cond (fun _=>T.bind hi fun s hs=>T.bind (L4 (by simp;omega)) fun z hz=> .some (by subst hz;simp;omega)) fun _=>T.cond (fun _=>?_) fun _=>?_
 ·refine T.bind hr fun s hs=>T.bind (L4 (by simp;omega)) fun z hz=>T.bind hi fun s' hs'=>?_
  subst hz
  refine T.bind (L4 (by simp;omega)) fun z hz=>T.bind (L4 (by subst hz;simp;omega)) fun z' hz'=> .some ?_
  subst hz;subst hz';simp;omega
 ·refine T.bind hr fun s hs=>T.bind hi fun s' hs'=>T.bind (L4 om) fun z hz=>T.bind (L4 (by subst hz;simp;omega)) fun z' hz'=> .some ?_
  subst hz;subst hz';simp;omega
theorem Q8{N:Nat}{t:List UInt8}(hl:t.length≤34359738368)(hN:t.length+40≤N):
  T (EX N t) fun x=>x.2=0→ -16777216≤x.1.re∧x.1.re≤16777216∧ -16777216≤x.1.im∧x.1.im≤16777216:=by
 have j1: ∀(a b:Int),T (Fi N t a b) fun x=>x.2=0→ -16777216≤x.1.re∧x.1.re≤16777216∧ -16777216≤x.1.im∧x.1.im≤16777216:=by
  intro a b
  unfold Fi
  refine T.bind (ABV _) fun x hx=>T.cond (fun _=> .some fun h=>by cases h) fun h=>?_
  have h:=hx (Jp h)
  refine T.bind (XA om h.1 h.2.1 h.2.2.1 h.2.2.2) fun s _=>T.cond (fun _=> .some fun h=>by cases h) fun _=> .some fun _=>h
 unfold EX
 refine T.bind (V0 hl om) fun x hx=>T.cond (fun _=> .some fun h=>by cases h) fun _=>?_
 refine T.bind (NK hx.2.2.1 hx.2.2.2 om) fun s hs=>T.cond (fun _=>j1 _ _) fun _=>T.cond (fun h=>?_) fun _=>j1 _ _
 have hsl:s.length≤t.length:=by subst hs;simp
 have hs0:s≠[]:=by intro e;subst e;simp at h
 have hpos:0<s.length:=List.length_pos_iff.2 hs0
 have j3: ∀(u:List UInt8),u.length≤s.length→T (HX N t x u) fun x=>x.2=0→ -16777216≤x.1.re∧x.1.re≤16777216∧ -16777216≤x.1.im∧x.1.im≤16777216:=
  fun u hu=>T.bind (V0 om om) fun y _=>j1 _ _
 refine T.bind (FV om om) fun c _=>T.cond (fun _=>?_) fun _=>j3 _ om
 refine T.bind (NK om om om) fun u hu=>j3 _ ?_
 subst hu;simp
theorem V1{N:Nat}{s:List UInt8}(hN:20≤N):T (Dc N s) fun _=>True:=by
 obtain ⟨N,rfl⟩: ∃m,N=m+20:=⟨N - 20,om⟩
 unfold Dc
 refine T.bind (P:=fun l=>l.length=19) (.some rfl) fun l hl=>?_
 have key: ∀(k:Nat) (i:Int),0≤i→(19:Int) - i<k→i≤19→T (Db s l k i) fun _=>True:=by
  intro k
  induction k with
  |zero=>intro i _ _ _;omega
  |succ k ih=>
   intro i h1 h2 h3
   show T (Dp s l (Db s l k) i) _
   unfold Dp
   refine T.cond (fun h=>?_) fun _=> .some trivial
   have h:=CO h
   refine T.bind (FV h1 h) fun c _=>T.cond (fun _=> .some trivial) fun _=>?_
   rw [wr om om]
   exact ih _ om om om
 exact key _ 0 om om om
theorem Zg{t:List UInt8}{p:Int}(hl:t.length≤34359738368)(h0:0≤p)(h1:p<t.length):T (IX t p) fun n=>0≤n∧p+n≤t.length:=by
 have one: ∀b,T (Dq b) fun n=>0≤n∧p+n≤t.length:=fun b=>T.cond (fun _=> .some ⟨om,om⟩) fun _=> .some ⟨om,om⟩
 have j1f:T (Fj t p false) fun n=>0≤n∧p+n≤t.length:=by
  unfold Fj
  refine T.cond (fun h=>by cases h) fun _=>T.bind (FV h0 h1) fun c _=>?_
  repeat (first|exact one _|refine T.cond (fun _=>?_) (fun _=>?_))
 have j1: ∀b,(b=true→p+1<t.length)→T (Fj t p b) fun n=>0≤n∧p+n≤t.length:=by
  intro b hb
  cases b
  ·exact j1f
  ·have:=hb rfl
   exact .some ⟨om,om⟩
 unfold IX
 rw [wr om om]
 refine T.cond (fun h=>?_) fun _=>j1f
 have h:=CO h
 refine T.bind (FV h0 h1) fun c _=>T.cond (fun _=>?_) fun _=>?_
 ·refine T.bind (FV om h) fun d _=>T.cond (fun _=>j1 _ fun _=>h) fun _=>T.cond (fun _=>j1 _ fun _=>h) fun _=>j1f
 ·exact T.cond (fun _=>T.bind (FV om h) fun d _=>j1 _ fun _=>h) fun _=>j1f
def Gm(m:Af):Prop:=m.kind≠4∧(m.kind=2→Gn m.num)
theorem ABk{n:Aj}(h: -16777216≤n.re∧n.re≤16777216∧ -16777216≤n.im∧n.im≤16777216):T (F7 n) Gn:= .some ⟨n.re,n.im,⟨rfl,h.1,h.2.1⟩,⟨rfl,h.2.2.1,h.2.2.2⟩⟩
theorem AAr{N:Nat}{t:List UInt8}{p:Int}(hl:t.length≤34359738368)(hN:t.length+40≤N)(h0:0≤p)(h1:p<t.length):
  T (Hv N t p) fun x=>x.2=true→Gm x.1∧0<x.1.text.length∧p+x.1.text.length≤t.length:=by
 unfold Hv
 refine T.bind (AAp h0 om hl om) fun n hn=>?_
 rw [wr (x:=p+n) om om]
 refine T.bind (NK h0 om om) fun s hs=>?_
 have hsl:(s.length:Int)=n:=by subst hs;simp;omega
 have j2: ∀b,T (IC N t p n s b) fun x=>x.2=true→Gm x.1∧0<x.1.text.length∧p+x.1.text.length≤t.length:=by
  intro b
  unfold IC
  refine T.cond (fun _=> .some fun h=>by cases h) fun _=>T.cond (fun h=>?_) fun _=>?_
  ·have h:=CO h
   refine T.bind (V1 om) fun b _=>T.cond (fun _=> .some fun _=>⟨⟨by simp,by simp⟩,by simp only;omega,by simp only;omega⟩) fun _=> .some fun _=>⟨⟨by simp,by simp⟩,by simp only;omega,by simp only;omega⟩
  ·refine T.bind (Zg hl h0 h1) fun k hk=>?_
   rw [wr (x:=p+k) om om]
   refine T.bind (NK h0 om om) fun u hu=> .some fun h=>?_
   have h:=CO h
   have hul:(u.length:Int)=k:=by subst hu;simp;omega
   exact ⟨⟨by simp,by simp⟩,by simp only;omega,by simp only;omega⟩
 have j1: ∀b,(b=true→0<n)→T (ID N t p n s b) fun x=>x.2=true→Gm x.1∧0<x.1.text.length∧p+x.1.text.length≤t.length:=by
  intro b hb
  unfold ID
  refine T.cond (fun h=>?_) fun _=>T.cond (fun _=>T.bind (FV h0 h1) fun c _=>j2 _) fun _=>j2 _
  have hp:=hb h
  refine T.bind (Q8 om om) fun x hx=>?_
  refine .some (a:=_) fun h=>?_
  have hz:=hx (B9 h)
  exact ⟨⟨by simp,fun _=>⟨x.1.re,x.1.im,⟨rfl,hz.1,hz.2.1⟩,⟨rfl,hz.2.2.1,hz.2.2.2⟩⟩⟩,by simp only;omega,by simp only;omega⟩
 refine T.cond (fun h=>?_) fun _=>j1 _ fun h=>by cases h
 have h:=CO h
 exact T.bind (FV h0 h1) fun c _=>T.bind (Vz c) fun b _=>j1 _ fun _=>h
def GM(ms:List Af):Prop:=∃l e,ms=l++[e]∧e.kind=4∧∀m∈l,Gm m
theorem YU{N:Nat}{t:List UInt8}(hl:t.length≤1000000000)(hN:t.length+50≤N):
  T (F8 N t) fun x=>x.2<0→GM x.1∧x.1.length≤t.length+1:=by
 have key: ∀(k:Nat) (ms:List Af) (p:Int),0≤p→p≤t.length→(t.length:Int) - p<k→(∀m∈ms,Gm m)→ms.length≤p→T (Dd N t k ms p) fun x=>x.2<0→GM x.1∧x.1.length≤t.length+1:=by
  intro k
  induction k with
  |zero=>intro ms p _ _ _ _ _;omega
  |succ k ih=>
   intro ms p h0 h1 h2 hm hml
   show T (FA N t (Dd N t k) ms p) _
   unfold FA
   refine T.cond (fun h=>?_) fun _=>?_
   ·have h:=CO h
    refine T.bind (FV h0 h) fun c hc=>T.bind (YT c) fun b _=>T.cond (fun _=>?_) fun _=>T.cond (fun hsharp=>?_) fun _=>?_
    ·rw [wr om om]
     exact ih _ _ om om om hm om
    ·
     have inner: ∀(j:Nat) (q:Int),p≤q→q≤t.length→(t.length:Int) - q<j→(q=p∨p<q)→T (Em t ms (Dd N t k) j q) fun x=>x.2<0→GM x.1∧x.1.length≤t.length+1:=by
      intro j
      induction j with
      |zero=>intro q _ _ _ _;omega
      |succ j ihj=>
       intro q hq1 hq2 hq3 hq4
       show T (E9 t ms (Dd N t k) (Em t ms (Dd N t k) j) q) _
       unfold E9
       refine T.cond (fun hq=>?_) fun hq=>?_
       ·have hq:=CO hq
        refine T.bind (FV om hq) fun d hd=>?_
        unfold HY
        refine T.cond (fun _=>?_) fun hnl=>?_
        ·rw [wr om om]
         exact ihj _ om om om om
        ·have hnl:=Jp hnl
         have hsharp:=B9 hsharp
         rcases hq4 with rfl|hq4
         ·rw [hd] at hc;cases hc
          rw [hsharp] at hnl
          exact absurd hnl (by decide)
         ·exact ih _ _ om om om hm om
       ·have hq:=Do hq
        have hpq:p<q:=om
        exact ih _ _ om om om hm om
     exact inner N p om om om (.inl rfl)
    ·refine T.bind (AAr om om h0 h) fun x hx=>T.cond (fun _=> .some fun h=>by simp only at h;omega) fun hb=>?_
     have hx:=hx (by simpa using hb)
     refine T.bind (Ff om (by simp;omega)) fun _ _=>?_
     rw [wr om om]
     refine ih _ _ om om om (fun m hm'=>?_) (by simp;omega)
     rcases List.mem_append.1 hm' with h'|h'
     ·exact hm m h'
     ·simp at h';subst h';exact hx.1
   ·refine T.bind (Ff om (by simp;omega)) fun _ _=> .some fun _=>⟨⟨ms,_,rfl,rfl,hm⟩,by simp;omega⟩
 exact key N [] 0 om om om (fun m h=>by cases h) (by simp)
end Fth
namespace Fth
open Go
theorem Px(e:AB):AB.mk e.op e.name e.tail e.type_ e.num e.args e.at_=e:=by cases e;rfl
mutual
def DZ:AB→Nat
 | ⟨_,_,_,_,_,l,_⟩=>1+CL l
def CL:List AB→Nat
 | []=>0
 |e::l=>DZ e+CL l
end
theorem O0(e:AB):DZ e=1+CL e.args:=by cases e;simp [DZ]
theorem JN(l m:List AB):CL (l++m)=CL l+CL m:=by
 induction l with
 |nil=>simp [CL]
 |cons e l ih=>simp [CL,ih];omega
theorem Nt(e:AB):CL [e]=DZ e:=by simp [CL]
theorem MT(e:AB):1≤DZ e:=by rw [O0];omega
theorem Nu{l:List AB}{e:AB}(h:e∈l):DZ e≤CL l:=by
 induction l with
 |nil=>cases h
 |cons x l ih=>
  rcases List.mem_cons.1 h with rfl|h
  ·simp [CL]
  ·have:=ih h;simp only [CL];omega
theorem Mj(l:List AB):l.length≤CL l:=by
 induction l with
 |nil=>simp
 |cons x l ih=>have:=MT x;simp only [CL,List.length_cons];omega
def Ar(op:Int)(n:Nat):Prop:=
 (1≤op∧op≤6∧n=0)∨op=7∨(8≤op∧op≤13∧n=2)∨(14≤op∧op≤17∧n=1)∨(op=18∧n=2)∨(19≤op∧op≤20∧n=3)∨(21≤op∧op≤22∧n=2)
inductive WE:AB→Prop
 |mk (e:AB) (ha:Ar e.op e.args.length) (hn:e.op=1→Gn e.num) (ht:e.op=5∨e.op=21∨e.op=22→1≤e.type_∧e.type_≤3) (hs: ∀a∈e.args,WE a):WE e
theorem WE.ar{e:AB}(h:WE e):Ar e.op e.args.length:=by cases h;assumption
theorem WE.num{e:AB}(h:WE e):e.op=1→Gn e.num:=by cases h;assumption
theorem WE.typ{e:AB}(h:WE e):e.op=5∨e.op=21∨e.op=22→1≤e.type_∧e.type_≤3:=by cases h;assumption
theorem WE.sub{e:AB}(h:WE e): ∀a∈e.args,WE a:=by cases h;assumption
section
variable{ms:List Af}
def Rd(ms:List Af)(r:AD):Prop:=r.marks=ms∧0≤r.at_∧r.at_<ms.length
theorem VJ(hM:GM ms){i:Nat}{m:Af}(h:ms[i]?=some m):(m.kind≠4→i+1<ms.length)∧(m.kind=2→Gn m.num):=by
 obtain ⟨l,e,rfl,he,hl⟩:=hM
 rcases Nat.lt_or_ge i l.length with hi|hi
 ·rw [List.getElem?_append_left hi] at h
  have:=hl m (List.mem_of_getElem? h)
  exact ⟨fun _=>by simp;omega,this.2⟩
 ·rw [List.getElem?_append_right hi] at h
  have h0:i - l.length=0:=by
   rcases Nat.eq_zero_or_pos (i - l.length) with h'|h'
   ·exact h'
   ·rw [List.getElem?_eq_none (by simp;omega)] at h;cases h
  rw [h0] at h
  simp at h
  subst h
  exact ⟨fun h=>absurd he h,fun h=>by rw [he] at h;exact absurd h (by decide)⟩
theorem K6{r:AD}(hr:Rd ms r):T (BW r) fun m=>ms[r.at_.toNat]?=some m:=by
 obtain ⟨rfl,h0,h1⟩:=hr
 exact T.bind (FV h0 h1) fun m hm=> .some hm
theorem Nv{r:AD}{y:Int}(hr:Rd ms r)(hy:y≠0):T (Br r y) fun r'=>Rd ms r'∧r'.at_=r.at_∧r'.why≠0:=by
 unfold Br
 refine T.cond (fun _=>T.bind (K6 (ms:=ms) (r:=AD.mk _ _ _ _ _ _) hr) fun m _=> .some ⟨hr,rfl,hy⟩) fun h=> .some ⟨hr,rfl,Bn h⟩
def KH(r:AD):AD:=⟨r.marks,r.at_+1,r.why,r.where_,r.l,r.nest⟩
theorem N4(hM:GM ms){r:AD}{s:List UInt8}(hr:Rd ms r):T (Bb r s) fun b=>b=true→r.why=0∧r.at_+1<ms.length:=by
 unfold Bb
 refine T.bind (K6 hr) fun m hm=>T.cond (fun hw=>?_) fun _=> .some fun h=>by cases h
 have hw:=B9 hw
 have h2:=(VJ hM hm).1
 have:=hr.2.1
 refine T.cond (fun hk=> .some fun _=>⟨hw,?_⟩) fun _=>T.cond (fun hk=> .some fun _=>⟨hw,?_⟩) fun _=> .some fun h=>by cases h
 ·have:=h2 (by rw [B9 hk];decide);omega
 ·have:=h2 (by rw [B9 hk];decide);omega
variable(hlen:ms.length≤1000000000)
include hlen
theorem M5{r:AD}(hr:Rd ms r):(AD.mk r.marks (IntKind.i64.wrap (r.at_+1)) r.why r.where_ (Ae.mk r.l.text r.l.funcs r.l.arity r.l.nest) r.nest)=KH r:=by
 rw [wr (by have:=hr.2.1;omega) (by have:=hr.2.2;omega)];rfl
theorem Nw(hM:GM ms){r:AD}{s:List UInt8}(hr:Rd ms r):T (Bt r s) fun x=>(x.1=true→r.why=0∧x.2=KH r∧Rd ms (KH r))∧(x.1=false→x.2=r):=by
 unfold Bt
 refine T.bind (N4 hM hr) fun b hb=>T.cond (fun h=> .some ⟨fun h=>(by cases h),fun _=>rfl⟩) fun h=>?_
 rw [M5 hlen hr]
 have:=hb (by simpa using h)
 exact .some ⟨fun _=>⟨this.1,rfl,hr.1,by show 0≤r.at_+1;have:=hr.2.1;omega,this.2⟩,fun h=>by cases h⟩
theorem Iq(hM:GM ms){r:AD}{s:List UInt8}(hr:Rd ms r):T (A4 r s) fun r'=>Rd ms r'∧r.at_≤r'.at_∧(r'.why=0→r.why=0∧r'.at_=r.at_+1):=by
 unfold A4
 refine T.bind (Nw hlen hM hr) fun x hx=>T.cond (fun h=>?_) fun h=>?_
 ·have e:=hx.2 (by simpa using h)
  rw [e]
  refine T.bind (Nv hr (by decide)) fun r' hr'=> .some ⟨hr'.1,by rw [hr'.2.1];omega,fun h=>absurd h hr'.2.2⟩
 ·obtain ⟨h0,e,h1⟩:=hx.1 (by simpa using h)
  rw [e]
  exact .some ⟨h1,by show r.at_≤r.at_+1;omega,fun _=>⟨h0,rfl⟩⟩
theorem QN(hM:GM ms){r:AD}(hr:Rd ms r):T (CG r) fun x=>Rd ms x.2∧r.at_≤x.2.at_∧(x.2.why=0→r.why=0∧x.2.at_=r.at_+1):=by
 unfold CG
 refine T.bind (K6 hr) fun m hm=>?_
 have bad:T (F9 r m true) fun x=>Rd ms x.2∧r.at_≤x.2.at_∧(x.2.why=0→r.why=0∧x.2.at_=r.at_+1):=
  T.bind (Nv hr (by decide)) fun r' hr'=> .some ⟨hr'.1,by simp only;rw [hr'.2.1];omega,fun h=>absurd h hr'.2.2⟩
 refine T.cond (fun _=>bad) fun hw=>?_
 cases hk:(m.kind != 0)
 ·unfold F9
  rw [M5 hlen hr]
  have h2:=(VJ hM hm).1 (by rw [Jp hk];decide)
  have:=hr.2.1
  exact .some ⟨⟨hr.1,by show 0≤r.at_+1;omega,by show r.at_+1<_;omega⟩,by show r.at_≤r.at_+1;omega,fun _=>⟨Jp hw,rfl⟩⟩
 ·exact bad
theorem VK(hM:GM ms){r:AD}{N:Nat}(hN:5≤N)(hr:Rd ms r):T (CJ N r) fun x=>Rd ms x.2∧r.at_≤x.2.at_∧(x.2.why=0→r.why=0∧x.2.at_=r.at_+1∧1≤x.1∧x.1≤3):=by
 have key: ∀(k:Nat) (i:Int),0≤i→i≤3→3 - i<k→T (CI k i r.marks r.at_ r.why r.where_ r.l.text r.l.funcs r.l.arity r.l.nest r.nest) fun x=>Rd ms x.2∧r.at_≤x.2.at_∧(x.2.why=0→r.why=0∧x.2.at_=r.at_+1∧1≤x.1∧x.1≤3):=by
  intro k
  induction k with
  |zero=>intro i _ _ _;omega
  |succ k ih=>
   intro i h0 h1 h2
   show T (DC (CI k) i r.marks r.at_ r.why r.where_ r.l.text r.l.funcs r.l.arity r.l.nest r.nest) _
   unfold DC
   refine T.cond (fun h=>?_) fun h=>?_
   ·have h:=CO h
    have h:i<3:=h
    refine T.bind (FV h0 (by simpa using h)) fun s _=>T.bind (Nw hlen hM (r:=r) hr) fun x hx=>T.cond (fun hb=>?_) fun hb=>?_
    ·obtain ⟨h3,e,h4⟩:=hx.1 hb
     rw [e,wr om om]
     exact .some ⟨h4,by show r.at_≤r.at_+1;omega,fun _=>⟨h3,rfl,by simp only;omega,by simp only;omega⟩⟩
    ·rw [hx.2 hb,wr om om]
     exact ih _ om om om
   ·exact T.bind (Nv (r:=r) hr (by decide)) fun r' hr'=> .some ⟨hr'.1,by simp only;rw [hr'.2.1];omega,fun h=>absurd h hr'.2.2⟩
 exact key N 0 om om om
omit hlen
def EP(ms:List Af)(r:AD)(x:AB×AD):Prop:=Rd ms x.2∧r.at_≤x.2.at_∧(x.2.why=0→r.why=0∧WE x.1∧(DZ x.1:Int)≤x.2.at_ - r.at_)
def Fu(ms:List Af)(n:Nat)(r:AD)(lvl:Int):Prop:=lvl≤n∧(r.why=0→20*((ms.length:Int) - r.at_)+lvl≤n)
structure PSp(ms:List Af)(n:Nat)(φ:AC):Prop where
 expr: ∀r,Rd ms r→Fu ms n r 18→T (φ.ref04_reader_expr r) (EP ms r)
 cons: ∀r,Rd ms r→Fu ms n r 17→T (φ.ref04_reader_cons r) (EP ms r)
 comp: ∀r,Rd ms r→Fu ms n r 16→T (φ.ref04_reader_comp r) (EP ms r)
 sum: ∀r,Rd ms r→Fu ms n r 15→T (φ.ref04_reader_sum r) (EP ms r)
 term: ∀r,Rd ms r→Fu ms n r 14→T (φ.ref04_reader_term r) (EP ms r)
 unit: ∀r,Rd ms r→Fu ms n r 13→T (φ.ref04_reader_unit r) (EP ms r)
 named: ∀r m,Rd ms r→r.why=0→Fu ms n r 12→T (φ.ref04_reader_named r m) fun x=>Rd ms x.2∧r.at_≤x.2.at_∧(x.2.why=0→WE x.1∧(DZ x.1:Int)≤x.2.at_ - r.at_+1)
 parts: ∀r l,Rd ms r→l.length≤3→Fu ms n r 19→T (φ.ref04_reader_parts r l) fun x=>Rd ms x.2∧r.at_≤x.2.at_∧(x.2.why=0→(l≠[]→r.why=0)∧x.1.length=l.length∧(∀a∈x.1,WE a)∧(CL x.1:Int)≤x.2.at_ - r.at_)
 branches: ∀r e,Rd ms r→Fu ms n r 19→T (φ.ref04_reader_branches r e) fun x=>Rd ms x.1∧r.at_≤x.1.at_∧(x.1.why=0→r.why=0∧WE x.2∧(DZ x.2:Int)≤x.1.at_ - r.at_+1)
theorem Fu.le{n m:Nat}{r r':AD}{l l':Int}(h:Fu ms n r l)(ha:r.at_≤r'.at_)(hw:r'.why=0→r.why=0)(hl:l'+n≤l+m):Fu ms m r' l':=by
 obtain ⟨h1,h2⟩:=h
 exact ⟨om,fun h=>by have:=h2 (hw h);omega⟩
theorem Fu.lt{n m:Nat}{r r':AD}{l l':Int}(h:Fu ms n r l)(ha:r.at_<r'.at_)(hw:r.why=0)(h1:r.at_<ms.length)(hl:l'+n≤l+20+m):Fu ms m r' l':=by
 obtain ⟨h1,h2⟩:=h
 have:=h2 hw
 exact ⟨om,fun _=>om⟩
theorem WE.two{op:Int}{a b:AB}{nm tl:List UInt8}{ty:Int}{z:Nat×Nat}{p:Int}(ho:(8≤op∧op≤13)∨op=18)(ha:WE a)(hb:WE b):WE ⟨op,nm,tl,ty,z,[a,b],p⟩:=by
 refine .mk _ ?_ (fun h=>?_) (fun h=>?_) fun x hx=>?_
 ·rcases ho with ho|ho
  ·exact .inr (.inr (.inl ⟨ho.1,ho.2,rfl⟩))
  ·exact .inr (.inr (.inr (.inr (.inl ⟨ho,rfl⟩))))
 ·simp only at h;omega
 ·simp only at h;omega
 ·simp at hx;rcases hx with rfl|rfl<;>assumption
section
variable(hlen:ms.length≤1000000000)(hM:GM ms){n:Nat}{φ:AC}(hφ:PSp ms n φ)
include hlen hM hφ
theorem AAs{r:AD}(hr:Rd ms r)(hf:Fu ms (n+1) r 17):T (Cu φ n r) (EP ms r):=by
 unfold Cu
 refine T.bind (hφ.comp r hr (hf.le om id om)) fun x hx=>T.bind (K6 hx.1) fun m _=>T.bind (Nw hlen hM hx.1) fun y hy=>T.cond (fun hb=>?_) fun hb=>?_
 ·rw [hy.2 (by simpa using hb)]
  exact .some hx
 ·obtain ⟨h0,e,h1⟩:=hy.1 (by simpa using hb)
  rw [e]
  have h2:=hx.2.2 h0
  have h3:=hx.2.1
  refine T.bind (hφ.cons _ h1 (hf.lt (by show r.at_<x.2.at_+1;omega) h2.1 hr.2.2 om)) fun z hz=>?_
  refine .some (a:=_) ⟨hz.1,by have:=hz.2.1;simp only [KH] at this;simp only;omega,fun hw=>?_⟩
  have hz':=hz.2.2 hw
  refine ⟨h2.1,.two (.inr rfl) h2.2.1 hz'.2.1,?_⟩
  have hz1:=hz'.2.2
  simp only [KH] at hz1
  simp only [DZ,CL]
  omega
theorem AAt{r:AD}(hr:Rd ms r)(hf:Fu ms (n+1) r 16):T (Cv φ n r) (EP ms r):=by
 unfold Cv
 refine T.bind (hφ.sum r hr (hf.le om id om)) fun x hx=>T.bind (K6 hx.1) fun m _=>T.bind (N4 hM hx.1) fun b _=>?_
 have go: ∀op:Int,8≤op∧op≤13→T (Dj φ x m op) (EP ms r):=by
  intro op hop
  have yes: ∀y:AD,x.2.why=0→y=KH x.2→Rd ms y→T (EE φ x m op false y.marks y.at_ y.why y.where_ y.l.text y.l.funcs y.l.arity y.l.nest y.nest) (EP ms r):=by
   rintro y h0 rfl h1
   have h2:=hx.2.2 h0
   have h3:=hx.2.1
   refine T.cond (fun h=>by cases h) fun _=>T.bind (hφ.sum (KH x.2) h1 (hf.lt (by show r.at_<x.2.at_+1;omega) h2.1 hr.2.2 om)) fun z hz=>?_
   refine .some (a:=_) ⟨hz.1,by have:=hz.2.1;simp only [KH] at this;simp only;omega,fun hw=>?_⟩
   have hz':=hz.2.2 hw
   refine ⟨h2.1,.two (.inl hop) h2.2.1 hz'.2.1,?_⟩
   have hz1:=hz'.2.2
   simp only [KH] at hz1
   simp only [DZ,CL]
   omega
  unfold Dj
  refine T.bind (Nw hlen hM hx.1) fun y hy=>T.cond (fun hb=>?_) fun hb=>?_
  ·rw [hy.2 (by simpa using hb)]
   refine T.bind (Nw hlen hM hx.1) fun y hy=>?_
   cases hb:y.1
   ·rw [hy.2 hb]
    exact .some hx
   ·obtain ⟨h0,e,h1⟩:=hy.1 hb
    exact yes _ h0 e (e▸h1)
  ·obtain ⟨h0,e,h1⟩:=hy.1 (by simpa using hb)
   exact yes _ h0 e (e▸h1)
 exact T.cond (fun _=>go 13 ⟨om,om⟩) fun _=>go 12 ⟨om,om⟩
theorem ABW{r:AD}(hr:Rd ms r)(hf:Fu ms (n+1) r 15):T (DM φ n r) (EP ms r):=by
 unfold DM
 refine T.bind (hφ.term r hr (hf.le om id om)) fun x hx=>?_
 have key: ∀(k:Nat) (x:AB×AD),EP ms r x→1≤k→(x.2.why=0→(ms.length:Int) - x.2.at_<k)→T (Bq φ k x.2.marks x.2.at_ x.2.why x.2.where_ x.2.l.text x.2.l.funcs x.2.l.arity x.2.l.nest x.2.nest x.1.op x.1.name x.1.tail x.1.type_ x.1.num x.1.args x.1.at_) (EP ms r):=by
  intro k
  induction k with
  |zero=>intro x _ _ _;omega
  |succ k ih=>
   intro x hx _ hk
   have go: ∀b,(b=true→x.2.why=0∧x.2.at_+1<ms.length)→T (Dz φ x.2.marks x.2.at_ x.2.why x.2.where_ x.2.l.text x.2.l.funcs x.2.l.arity x.2.l.nest x.2.nest x.1.op x.1.name x.1.tail x.1.type_ x.1.num x.1.args x.1.at_ (Bq φ k) b) (EP ms r):=by
    intro b hb
    unfold Dz
    refine T.cond (fun h=>?_) fun _=> .some (by rw [Px];exact hx)
    obtain ⟨h0,h1⟩:=hb h
    have h2:=hx.2.2 h0
    have h3:=hx.2.1
    have hk:=hk h0
    have hbr:Rd ms (KH x.2):=⟨hx.1.1,by show 0≤x.2.at_+1;have:=hx.1.2.1;omega,h1⟩
    refine T.bind (K6 (r:=x.2) hx.1) fun m _=>?_
    rw [M5 hlen hx.1]
    refine T.bind (hφ.term (KH x.2) hbr (hf.lt (by show r.at_<x.2.at_+1;omega) h2.1 hr.2.2 om)) fun z hz=>?_
    have hz1:=hz.2.1
    simp only [KH] at hz1
    have fin: ∀op:Int,8≤op∧op≤13→T (Dy x.1.op x.1.name x.1.tail x.1.type_ x.1.num x.1.args x.1.at_ (Bq φ k) m z op) (EP ms r):=by
     intro op hop
     unfold Dy
     rw [Px]
     refine ih (⟨op,[],[],0,(0,0),[x.1,z.1],m.at_⟩,z.2) ⟨hz.1,by simp only;omega,fun hw=>?_⟩ ?_ fun hw=>?_
     ·have hz':=hz.2.2 hw
      have hz2:=hz'.2.2
      simp only [KH] at hz2
      exact ⟨h2.1,.two (.inl hop) h2.2.1 hz'.2.1,by simp only [DZ,CL];omega⟩
     ·have:=hx.1.2.2;omega
     ·simp only;omega
    exact T.cond (fun _=>fin 9 ⟨om,om⟩) fun _=>fin 8 ⟨om,om⟩
   show T (DE φ (Bq φ k) x.2.marks x.2.at_ x.2.why x.2.where_ x.2.l.text x.2.l.funcs x.2.l.arity x.2.l.nest x.2.nest x.1.op x.1.name x.1.tail x.1.type_ x.1.num x.1.args x.1.at_) _
   unfold DE
   exact T.bind (N4 hM (r:=x.2) hx.1) fun b hb=>T.cond (fun h=>go true fun _=>hb h) fun _=>T.bind (N4 hM (r:=x.2) hx.1) fun b hb=>go b hb
 refine key n x hx (by have:=hf.1;omega) fun hw=>?_
 have h2:=hx.2.2 hw
 have h3:=hf.2 h2.1
 have:=hx.2.1
 have:=hr.2.2
 omega
theorem AAu{r:AD}(hr:Rd ms r)(hf:Fu ms (n+1) r 14):T (Cw φ n r) (EP ms r):=by
 unfold Cw
 refine T.bind (hφ.unit r hr (hf.le om id om)) fun x hx=>?_
 have key: ∀(k:Nat) (x:AB×AD),EP ms r x→1≤k→(x.2.why=0→(ms.length:Int) - x.2.at_<k)→T (Be φ k x.2.marks x.2.at_ x.2.why x.2.where_ x.2.l.text x.2.l.funcs x.2.l.arity x.2.l.nest x.2.nest x.1.op x.1.name x.1.tail x.1.type_ x.1.num x.1.args x.1.at_) (EP ms r):=by
  intro k
  induction k with
  |zero=>intro x _ _ _;omega
  |succ k ih=>
   intro x hx _ hk
   have go: ∀b,(b=true→x.2.why=0∧x.2.at_+1<ms.length)→T (Dl φ x.2.marks x.2.at_ x.2.why x.2.where_ x.2.l.text x.2.l.funcs x.2.l.arity x.2.l.nest x.2.nest x.1.op x.1.name x.1.tail x.1.type_ x.1.num x.1.args x.1.at_ (Be φ k) b) (EP ms r):=by
    intro b hb
    unfold Dl
    refine T.cond (fun h=>?_) fun _=> .some (by rw [Px];exact hx)
    obtain ⟨h0,h1⟩:=hb h
    have h2:=hx.2.2 h0
    have h3:=hx.2.1
    have hk:=hk h0
    have hbr:Rd ms (KH x.2):=⟨hx.1.1,by show 0≤x.2.at_+1;have:=hx.1.2.1;omega,h1⟩
    refine T.bind (K6 (r:=x.2) hx.1) fun m _=>?_
    rw [M5 hlen hx.1]
    refine T.bind (hφ.unit (KH x.2) hbr (hf.lt (by show r.at_<x.2.at_+1;omega) h2.1 hr.2.2 om)) fun z hz=>?_
    have hz1:=hz.2.1
    simp only [KH] at hz1
    have fin: ∀op:Int,8≤op∧op≤13→T (Dk x.1.op x.1.name x.1.tail x.1.type_ x.1.num x.1.args x.1.at_ (Be φ k) m z op) (EP ms r):=by
     intro op hop
     unfold Dk
     rw [Px]
     refine ih (⟨op,[],[],0,(0,0),[x.1,z.1],m.at_⟩,z.2) ⟨hz.1,by simp only;omega,fun hw=>?_⟩ ?_ fun hw=>?_
     ·have hz':=hz.2.2 hw
      have hz2:=hz'.2.2
      simp only [KH] at hz2
      exact ⟨h2.1,.two (.inl hop) h2.2.1 hz'.2.1,by simp only [DZ,CL];omega⟩
     ·have:=hx.1.2.2;omega
     ·simp only;omega
    exact T.cond (fun _=>fin 11 ⟨om,om⟩) fun _=>fin 10 ⟨om,om⟩
   show T (Cq φ (Be φ k) x.2.marks x.2.at_ x.2.why x.2.where_ x.2.l.text x.2.l.funcs x.2.l.arity x.2.l.nest x.2.nest x.1.op x.1.name x.1.tail x.1.type_ x.1.num x.1.args x.1.at_) _
   unfold Cq
   exact T.bind (N4 hM (r:=x.2) hx.1) fun b hb=>T.cond (fun h=>go true fun _=>hb h) fun _=>T.bind (N4 hM (r:=x.2) hx.1) fun b hb=>go b hb
 refine key n x hx (by have:=hf.1;omega) fun hw=>?_
 have h2:=hx.2.2 hw
 have h3:=hf.2 h2.1
 have:=hx.2.1
 have:=hr.2.2
 omega
omit hφ hM hlen in
theorem Zh(s:List UInt8):T (Hx s) fun o=>o=0∨(2≤o∧o≤5)∨(14≤o∧o≤17):=by
 unfold Hx
 repeat (first|exact T.some om|refine T.cond (fun _=>?_) (fun _=>?_))
theorem AAv{r:AD}(hr:Rd ms r)(hf:Fu ms (n+1) r 13):T (Cy φ n r) (EP ms r):=by
 unfold Cy
 have h1:=hr.2.1
 have h2:=hr.2.2
 refine T.bind (K6 hr) fun m hm=>T.cond (fun h=> .some ⟨hr,by simp only;omega,fun h'=>absurd h' (Li h)⟩) fun hw=>?_
 have hw:=Jp hw
 have hm':=VJ hM hm
 refine T.cond (fun hk=>?_) fun hk2=>T.cond (fun hk=>?_) fun hk0=>?_
 ·rw [M5 hlen hr]
  have hk:=B9 hk
  have h3:=hm'.1 (by rw [hk];decide)
  refine .some (a:=_) ⟨⟨hr.1,by show 0≤r.at_+1;omega,by show r.at_+1<_;omega⟩,by show r.at_≤r.at_+1;omega,fun _=>⟨hw,.mk _ (.inl ⟨by simp,by simp,rfl⟩) (fun _=>hm'.2 hk) (fun h=>by simp at h) (fun a h=>by simp at h),?_⟩⟩
  simp only [DZ,CL,KH];omega
 ·rw [M5 hlen hr]
  have hk:=B9 hk
  have h3:=hm'.1 (by rw [hk];decide)
  have hbr:Rd ms (KH r):=⟨hr.1,by show 0≤r.at_+1;omega,by show r.at_+1<_;omega⟩
  refine T.bind (hφ.named (KH r) m hbr hw (hf.lt (by show r.at_<r.at_+1;omega) hw h2 om)) fun x hx=>?_
  have hx1:=hx.2.1
  simp only [KH] at hx1
  refine .some (a:=_) ⟨hx.1,by simp only;omega,fun h=>⟨hw,(hx.2.2 h).1,?_⟩⟩
  have:=(hx.2.2 h).2
  simp only [KH] at this
  simp only;omega
 ·have hk2:=Bn hk2
  have hk0:=Bn hk0
  refine T.bind (Nw hlen hM hr) fun x hx=>T.cond (fun hb=>?_) fun hb=>?_
  ·obtain ⟨_,e,hbr⟩:=hx.1 hb
   rw [e]
   refine T.bind (hφ.expr (KH r) hbr (hf.lt (by show r.at_<r.at_+1;omega) hw h2 om)) fun y hy=>T.bind (Iq hlen hM hy.1) fun r' hr'=>?_
   have hy1:=hy.2.1
   simp only [KH] at hy1
   refine .some (a:=_) ⟨hr'.1,by have:=hr'.2.1;simp only;omega,fun h=>?_⟩
   have h3:=hr'.2.2 h
   have h4:=hy.2.2 h3.1
   have h5:=h4.2.2
   simp only [KH] at h5
   exact ⟨hw,h4.2.1,by simp only;omega⟩
  ·have bad:T (DF φ n m x true) (EP ms r):=by
    unfold DF
    refine T.cond (fun _=>?_) fun h=>by cases h
    rw [hx.2 hb]
    exact T.bind (Nv hr (by decide)) fun r' hr'=> .some ⟨hr'.1,by simp only;rw [hr'.2.1];omega,fun h=>absurd h hr'.2.2⟩
   refine T.cond (fun _=>bad) fun hk1=>?_
   have hk1:=Jp hk1
   have h3:=hm'.1 (by rw [hk1];decide)
   have hbr:Rd ms (KH r):=⟨hr.1,by show 0≤r.at_+1;omega,by show r.at_+1<_;omega⟩
   obtain ⟨o,ho,ho'⟩:=Zh m.text
   refine T.eq ho ?_
   cases hz:(o==0)
   ·have hz:=Bn hz
    unfold DF
    refine T.cond (fun h=>by cases h) fun _=>T.eq ho ?_
    unfold Eo
    rw [hx.2 hb,M5 hlen hr]
    have fin: ∀(r':AD) (ty:Int) (l:List AB),Rd ms r'→r.at_≤r'.at_→(r'.why=0→Ar o l.length∧(o=5→1≤ty∧ty≤3)∧(∀a∈l,WE a)∧(1+CL l:Int)≤r'.at_ - r.at_)→
      T (GA o [] [] (0,0) m.at_ r'.marks r'.at_ r'.why r'.where_ r'.l.text r'.l.funcs r'.l.arity r'.l.nest r'.nest ty l) (EP ms r):=by
     intro r' ty l h1 h2 h3
     refine .some (a:=_) ⟨h1,h2,fun h=>⟨hw,?_,?_⟩⟩
     ·obtain ⟨ha,ht,hl,_⟩:=h3 h
      exact .mk _ ha (fun h=>by simp only at h;omega) (fun h=>ht (by simp only at h;omega)) hl
     ·have:=(h3 h).2.2.2
      simp only [DZ];omega
    have j4:14≤o∧o≤17→T (CM φ (x.1,r) o [] [] 0 (0,0) m.at_ true) (EP ms r):=by
     intro ho2
     unfold CM
     refine T.cond (fun _=>?_) fun h=>by cases h
     rw [M5 hlen hr]
     refine T.bind (Iq hlen hM hbr) fun r1 hr1=>?_
     have e1:=hr1.2.1
     simp only [KH] at e1
     refine T.bind (hφ.expr r1 hr1.1 (hf.lt om hw h2 om)) fun y hy=>T.bind (Iq hlen hM hy.1) fun r2 hr2=>fin r2 0 [y.1] hr2.1 (by have:=hr2.2.1;have:=hy.2.1;omega) fun h=>?_
     have h5:=hr2.2.2 h
     have h6:=hy.2.2 h5.1
     refine ⟨.inr (.inr (.inr (.inl ⟨ho2.1,ho2.2,rfl⟩))),fun h=>om,fun a ha=>by simp at ha;subst ha;exact h6.2.1,?_⟩
     have:=h6.2.2
     rw [Nt];omega
    have ex:x=(x.1,r):=by rw [←hx.2 hb]
    rw [ex]
    refine T.cond (fun h5=>?_) fun h5=>?_
    ·have h5:=B9 h5
     have:=hf.1
     refine T.bind (VK hlen hM om hbr) fun y hy=>fin y.2 y.1 [] hy.1 (by have:=hy.2.1;simp only [KH] at this;omega) fun h=>?_
     have h6:=hy.2.2 h
     refine ⟨.inl ⟨om,om,rfl⟩,fun _=>⟨h6.2.2.1,h6.2.2.2⟩,fun a h=>by simp at h,?_⟩
     have:=h6.2.1
     simp only [KH] at this
     simp only [CL];omega
    ·have h5:=Bn h5
     refine T.cond (fun h=>by rw [h];exact j4 (by have:=B9 h;omega)) fun hn1=>T.cond (fun h=>by rw [h];exact j4 (by have:=B9 h;omega)) fun hn2=>T.cond (fun h=>by rw [h];exact j4 (by have:=B9 h;omega)) fun hn3=>?_
     cases h17:(o==17)
     ·have:=Bn hn1;have:=Bn hn2;have:=Bn hn3;have:=Bn h17
      unfold CM
      refine T.cond (fun h=>by cases h) fun _=>?_
      dsimp only
      rw [wr (x:=r.at_+1) om om]
      refine fin (KH r) 0 [] hbr (by show r.at_≤r.at_+1;omega) fun _=>⟨.inl ⟨om,om,rfl⟩,fun h=>om,fun a h=>by simp at h,by simp only [CL,KH];omega⟩
     ·exact j4 (by have:=B9 h17;omega)
   ·exact bad
theorem Zi{r:AD}{m:Af}(hr:Rd ms r)(hw:r.why=0)(hf:Fu ms (n+1) r 12):T (Cf φ n r m) fun x=>Rd ms x.2∧r.at_≤x.2.at_∧(x.2.why=0→WE x.1∧(DZ x.1:Int)≤x.2.at_ - r.at_+1):=by
 unfold Cf
 have h2:=hr.2.2
 have h1:=hr.2.1
 refine T.bind (Nw hlen hM hr) fun x hx=>T.cond (fun hb=>?_) fun hb=>?_
 ·rw [hx.2 (by simpa using hb)]
  exact .some ⟨hr,by simp only;omega,fun _=>⟨.mk _ (.inl ⟨by simp,by simp,rfl⟩) (fun h=>by simp at h) (fun h=>by simp at h) (fun a h=>by simp at h),by simp only [DZ,CL];omega⟩⟩
 ·obtain ⟨_,e,hbr⟩:=hx.1 (by simpa using hb)
  have key: ∀(k:Nat) (s:AD) (l:List AB),Rd ms s→r.at_+1≤s.at_→1≤k→(s.why=0→(ms.length:Int) - s.at_<k)→(s.why=0→(∀a∈l,WE a)∧(CL l:Int)≤s.at_ - r.at_)→
    T (Ba φ m k s.marks s.at_ s.why s.where_ s.l.text s.l.funcs s.l.arity s.l.nest s.nest l) fun x=>Rd ms x.2∧r.at_≤x.2.at_∧(x.2.why=0→WE x.1∧(DZ x.1:Int)≤x.2.at_ - r.at_+1):=by
   intro k
   induction k with
   |zero=>intro s l _ _ _ _;omega
   |succ k ih=>
    intro s l hs hat _ hk hl
    show T (CZ φ m (Ba φ m k) s.marks s.at_ s.why s.where_ s.l.text s.l.funcs s.l.arity s.l.nest s.nest l) _
    unfold CZ
    have fin:T (DP φ m s.marks s.at_ s.why s.where_ s.l.text s.l.funcs s.l.arity s.l.nest s.nest l (Ba φ m k) false) fun x=>Rd ms x.2∧r.at_≤x.2.at_∧(x.2.why=0→WE x.1∧(DZ x.1:Int)≤x.2.at_ - r.at_+1):=by
     unfold DP
     refine T.cond (fun h=>by cases h) fun _=>T.bind (Iq hlen hM (r:=s) hs) fun r' hr'=> .some ⟨hr'.1,by have:=hr'.2.1;simp only;omega,fun h=>?_⟩
     have h3:=hr'.2.2 h
     have h4:=hl h3.1
     exact ⟨.mk _ (.inr (.inl rfl)) (fun h=>by simp at h) (fun h=>by simp at h) h4.1,by simp only [DZ];omega⟩
    refine T.cond (fun hsw=>?_) fun _=>fin
    have hsw:=B9 hsw
    refine T.bind (N4 hM (r:=s) hs) fun b _=>?_
    cases b
    ·have go: ∀s':AD,Rd ms s'→s.at_≤s'.at_→T (DO φ l (Ba φ m k) s'.marks s'.at_ s'.why s'.where_ s'.l.text s'.l.funcs s'.l.arity s'.l.nest s'.nest) fun x=>Rd ms x.2∧r.at_≤x.2.at_∧(x.2.why=0→WE x.1∧(DZ x.1:Int)≤x.2.at_ - r.at_+1):=by
      intro s' hs' hle
      unfold DO
      have h5:=hs.2.2
      refine T.bind (hφ.expr s' hs' (hf.lt om hw h2 om)) fun y hy=>?_
      have hy1:=hy.2.1
      have hll':=hl hsw
      have hlen':=Mj l
      refine T.bind (Ff om (by simp;omega)) fun _ _=>ih y.2 (l++[y.1]) hy.1 om ?_ (fun h=>?_) fun h=>?_
      ·have:=hk hsw;omega
      ·have:=hy.2.2 h;have:=MT y.1;have:=hk hsw;omega
      ·have h6:=hy.2.2 h
       refine ⟨fun a ha=>?_,?_⟩
       ·rcases List.mem_append.1 ha with ha|ha
        ·exact hll'.1 a ha
        ·simp at ha;subst ha;exact h6.2.1
       ·rw [JN,Nt];omega
     refine T.cond (fun _=>T.cond (fun _=>T.bind (Iq hlen hM (r:=s) hs) fun s' hs'=>go s' hs'.1 hs'.2.1) fun _=>go s hs om) fun h=>by cases h
    ·exact fin
  rw [e]
  refine key n (KH r) [] hbr (by show r.at_+1≤r.at_+1;omega) (by have:=hf.1;omega) (fun _=>?_) fun _=>⟨fun a h=>by simp at h,by simp only [CL,KH];omega⟩
  have:=hf.2 hw
  simp only [KH];omega
theorem Zj{r:AD}{ws:List (List UInt8)}(hr:Rd ms r)(hl3:ws.length≤3)(hf:Fu ms (n+1) r 19):T (Ce φ n r ws) fun x=>Rd ms x.2∧r.at_≤x.2.at_∧(x.2.why=0→(ws≠[]→r.why=0)∧x.1.length=ws.length∧(∀a∈x.1,WE a)∧(CL x.1:Int)≤x.2.at_ - r.at_):=by
 unfold Ce
 have key: ∀(k i:Nat) (l:List AB) (s:AD),i≤ws.length→ws.length<i+k→l.length=i→Rd ms s→r.at_≤s.at_→(s.why=0→r.why=0∧(∀a∈l,WE a)∧(CL l:Int)≤s.at_ - r.at_)→
   T (Bg φ ws k l (i:Int) s.marks s.at_ s.why s.where_ s.l.text s.l.funcs s.l.arity s.l.nest s.nest) fun x=>Rd ms x.2∧r.at_≤x.2.at_∧(x.2.why=0→(ws≠[]→r.why=0)∧x.1.length=ws.length∧(∀a∈x.1,WE a)∧(CL x.1:Int)≤x.2.at_ - r.at_):=by
  intro k
  induction k with
  |zero=>intro i l s _ _;omega
  |succ k ih=>
   intro i l s hi hk hli hs hat hw
   show T (CY φ ws (Bg φ ws k) l i s.marks s.at_ s.why s.where_ s.l.text s.l.funcs s.l.arity s.l.nest s.nest) _
   unfold CY
   refine T.cond (fun h=>?_) fun h=>?_
   ·have h:=CO h
    have go: ∀s':AD,Rd ms s'→s.at_≤s'.at_→(s'.why=0→s.why=0)→T (DN φ l i (Bg φ ws k) s'.marks s'.at_ s'.why s'.where_ s'.l.text s'.l.funcs s'.l.arity s'.l.nest s'.nest) fun x=>Rd ms x.2∧r.at_≤x.2.at_∧(x.2.why=0→(ws≠[]→r.why=0)∧x.1.length=ws.length∧(∀a∈x.1,WE a)∧(CL x.1:Int)≤x.2.at_ - r.at_):=by
     intro s' hs' hle hw'
     unfold DN
     refine T.bind (hφ.expr s' hs' (hf.le om (fun h=>(hw (hw' h)).1) om)) fun y hy=>T.bind (Ff om (by simp;omega)) fun _ _=>?_
     rw [wr om om,show (i:Int)+1=((i+1:Nat):Int) by omega]
     refine ih (i+1) (l++[y.1]) y.2 om om (by simp;omega) hy.1 (by have:=hy.2.1;omega) fun h=>?_
     have h1:=hy.2.2 h
     have h2:=hw (hw' h1.1)
     refine ⟨h2.1,fun a ha=>?_,?_⟩
     ·rcases List.mem_append.1 ha with ha|ha
      ·exact h2.2.1 a ha
      ·simp at ha;subst ha;exact h1.2.1
     ·rw [JN,Nt];have:=h1.2.2;have:=h2.2.2;omega
    refine T.bind (FV om h) fun w _=>T.cond (fun _=>T.bind (Iq hlen hM (r:=s) hs) fun s' hs'=>go s' hs'.1 hs'.2.1 fun h=>(hs'.2.2 h).1) fun _=>go s hs om id
   ·have h:=Do h
    exact .some ⟨hs,hat,fun h'=>⟨fun _=>(hw h').1,by simp only;omega,(hw h').2.1,(hw h').2.2⟩⟩
 cases ws with
 |nil=>
  obtain ⟨n,rfl⟩: ∃m,n=m+1:=⟨n - 1,by have:=hf.1;omega⟩
  exact .some ⟨hr,by simp only;omega,fun _=>⟨fun h=>absurd rfl h,rfl,fun a h=>(by cases h),by simp [CL]⟩⟩
 |cons w ws=>
  rcases Decidable.em (r.why=0) with h|h
  ·exact key n 0 [] r om (by have:=hf.1;omega) rfl hr om fun _=>⟨h,fun a h=>(by cases h),by simp [CL]⟩
  ·exact key n 0 [] r om (by have:=hf.1;omega) rfl hr om fun h'=>absurd h' h
theorem Wq{r:AD}{e:AB}(hr:Rd ms r)(hf:Fu ms (n+1) r 19):T (B1 φ n r e) fun x=>Rd ms x.1∧r.at_≤x.1.at_∧(x.1.why=0→r.why=0∧WE x.2∧(DZ x.2:Int)≤x.1.at_ - r.at_+1):=by
 unfold B1
 refine T.bind (hφ.expr r hr (hf.le om id om)) fun a ha=>T.bind (Iq hlen hM ha.1) fun r1 h1=>T.bind (Iq hlen hM h1.1) fun r2 h2=>T.bind (Iq hlen hM h2.1) fun r3 h3=>?_
 have a1:=ha.2.1;have b1:=h1.2.1;have b2:=h2.2.1;have b3:=h3.2.1
 refine T.bind (hφ.expr r3 h3.1 (hf.le om (fun h=>(ha.2.2 (h1.2.2 (h2.2.2 (h3.2.2 h).1).1).1).1) om)) fun b hb=>T.bind (Iq hlen hM hb.1) fun r4 h4=>T.bind (QN hlen hM h4.1) fun x5 h5=>T.bind (Iq hlen hM h5.1) fun r6 h6=>T.bind (QN hlen hM h6.1) fun x7 h7=>T.bind (Iq hlen hM h7.1) fun r8 h8=>?_
 have a2:=hb.2.1;have b4:=h4.2.1;have b5:=h5.2.1;have b6:=h6.2.1;have b7:=h7.2.1;have b8:=h8.2.1
 have back:r8.why=0→b.2.why=0:=fun h=>(h4.2.2 (h5.2.2 (h6.2.2 (h7.2.2 (h8.2.2 h).1).1).1).1).1
 have back2:r3.why=0→a.2.why=0:=fun h=>(h1.2.2 (h2.2.2 (h3.2.2 h).1).1).1
 refine T.bind (hφ.expr r8 h8.1 (hf.le om (fun h=>(ha.2.2 (back2 (hb.2.2 (back h)).1)).1) om)) fun c hc=>?_
 have a3:=hc.2.1
 refine .some (a:=_) ⟨hc.1,by simp only;omega,fun h=>?_⟩
 have p3:=hc.2.2 h
 have p2:=hb.2.2 (back p3.1)
 have p1:=ha.2.2 (back2 p2.1)
 have e1:=p1.2.2;have e2:=p2.2.2;have e3:=p3.2.2
 refine ⟨p1.1,.mk _ (.inr (.inr (.inr (.inr (.inr (.inl ⟨by simp,by simp,rfl⟩)))))) (fun h=>by simp at h) (fun h=>by simp at h) fun x hx=>?_,?_⟩
 ·simp at hx
  rcases hx with rfl|rfl|rfl
  ·exact p1.2.1
  ·exact p2.2.1
  ·exact p3.2.1
 ·simp only [DZ,CL];omega
theorem AAw{r:AD}(hr:Rd ms r)(hf:Fu ms (n+1) r 18):T (Ct φ n r) (EP ms r):=by
 unfold Ct
 have hr1:=hr.2.1
 have hr2:=hr.2.2
 refine T.bind (K6 hr) fun m hm=>?_
 have out: ∀(bd:Bool) (y:AD) (e:AB),Rd ms y→r.at_≤y.at_→(y.why=0→r.why=0∧WE e∧(DZ e:Int)≤y.at_ - r.at_)→
   T (En bd y.marks y.at_ y.why y.where_ y.l.text y.l.funcs y.l.arity y.l.nest y.nest e.op e.name e.tail e.type_ e.num e.args e.at_) (EP ms r):=by
  intro bd y e hy hat hw
  unfold En HZ
  rw [Px]
  exact T.cond (fun _=> .some ⟨hy,hat,hw⟩) fun _=> .some ⟨hy,hat,hw⟩
 have j7: ∀(bd:Bool) (y:AD) (op:Int),21≤op∧op≤22→Rd ms y→y.at_=r.at_→y.why=0→r.why=0→Rd ms (KH y)→∀nn:Int,T (De φ n m bd y.marks y.at_ y.why y.where_ y.l.text y.l.funcs y.l.arity y.l.nest nn op) (EP ms r):=by
  intro bd y op hop hy hat hw hrw hby nn
  unfold De
  rw [wr (x:=y.at_+1) (by have:=hy.2.1;omega) (by have:=hy.2.2;omega)]
  have hby':Rd ms (AD.mk y.marks (y.at_+1) y.why y.where_ (Ae.mk y.l.text y.l.funcs y.l.arity y.l.nest) nn):=hby
  refine T.bind (QN hlen hM hby') fun x hx=>?_
  have h1:=hf.1
  refine T.bind (VK hlen hM om hx.1) fun t ht=>?_
  have x1:=hx.2.1;have t1:=ht.2.1
  simp only at x1
  refine T.bind (hφ.parts t.2 _ ht.1 (by simp) (hf.lt om hrw hr2 om)) fun l hl=>?_
  have l1:=hl.2.1
  refine out bd l.2 ⟨op,x.1.text,[],t.1,(0,0),l.1,m.at_⟩ hl.1 om fun h=>?_
  have p:=hl.2.2 h
  have q:=ht.2.2 (p.1 (by simp))
  refine ⟨hrw,.mk _ (.inr (.inr (.inr (.inr (.inr (.inr ⟨hop.1,hop.2,p.2.1⟩)))))) (fun h=>by simp only at h;omega) (fun _=>⟨q.2.2.1,q.2.2.2⟩) p.2.2.1,?_⟩
  have:=p.2.2.2
  simp only [DZ];omega
 have j4: ∀(bd:Bool) (y:AD),Rd ms y→y.at_=r.at_→y.why=0→r.why=0→Rd ms (KH y)→∀nn:Int,T (Df φ n m bd y.marks y.at_ y.why y.where_ y.l.text y.l.funcs y.l.arity y.l.nest nn) (EP ms r):=by
  intro bd y hy hat hw hrw hby nn
  unfold Df
  have hby':Rd ms (AD.mk y.marks (y.at_+1) y.why y.where_ (Ae.mk y.l.text y.l.funcs y.l.arity y.l.nest) nn):=hby
  refine T.cond (fun _=>?_) fun _=>T.cond (fun _=>?_) fun _=>T.cond (fun _=>j7 bd y 22 ⟨om,om⟩ hy hat hw hrw hby nn) fun _=>j7 bd y 21 ⟨om,om⟩ hy hat hw hrw hby nn
  ·rw [wr (x:=y.at_+1) (by have:=hy.2.1;omega) (by have:=hy.2.2;omega)]
   refine T.bind (hφ.parts _ _ hby' (by simp) (hf.lt (by show r.at_<y.at_+1;omega) hrw hr2 om)) fun l hl=>?_
   have l1:=hl.2.1
   simp only at l1
   refine out bd l.2 ⟨19,[],[],0,(0,0),l.1,m.at_⟩ hl.1 om fun h=>?_
   have p:=hl.2.2 h
   refine ⟨hrw,.mk _ (.inr (.inr (.inr (.inr (.inr (.inl ⟨by simp,by simp,p.2.1⟩)))))) (fun h=>by simp at h) (fun h=>by simp at h) p.2.2.1,?_⟩
   have:=p.2.2.2
   simp only at this
   simp only [DZ];omega
  ·rw [wr (x:=y.at_+1) (by have:=hy.2.1;omega) (by have:=hy.2.2;omega)]
   refine T.bind (hφ.branches _ _ hby' (hf.lt (by show r.at_<y.at_+1;omega) hrw hr2 om)) fun l hl=>?_
   have l1:=hl.2.1
   simp only at l1
   refine out bd l.1 l.2 hl.1 om fun h=>?_
   have p:=hl.2.2 h
   have:=p.2.2
   simp only at this
   exact ⟨hrw,p.2.1,om⟩
 have j2: ∀(bd:Bool) (y:AD),Rd ms y→y.at_=r.at_→(y.why=0→r.why=0)→(bd=true→y.why=0→Rd ms (KH y))→T (Dh φ n m bd y.marks y.at_ y.why y.where_ y.l.text y.l.funcs y.l.arity y.l.nest y.nest) (EP ms r):=by
  intro bd y hy hat hw hb
  unfold Dh
  refine T.cond (fun h=> .some ⟨hy,by simp only;omega,fun h'=>absurd h' (Li h)⟩) fun h=>?_
  have h:=Jp h
  have hrw:=hw h
  refine T.cond (fun hbd=>?_) fun hbd=>?_
  ·refine T.bind (N4 hM (r:=y) hy) fun c hc=>?_
   unfold Dg
   refine T.cond (fun _=>?_) fun hc'=>T.cond (fun h'=>by rw [h'] at hbd;cases hbd) fun _=>?_
   ·refine T.bind (hφ.cons y hy (hf.le om (fun _=>hrw) om)) fun z hz=> .some ⟨hz.1,by have:=hz.2.1;simp only;omega,fun h=>?_⟩
    have:=hz.2.2 h
    exact ⟨hrw,this.2.1,by have:=this.2.2;simp only;omega⟩
   ·have hc1:=hc (by simpa using hc')
    exact j4 bd y hy hat h hrw ⟨hy.1,by show 0≤y.at_+1;omega,hc1.2⟩ y.nest
  ·have hbd:bd=true:=by simpa using hbd
   unfold Dg
   refine T.cond (fun h=>by cases h) fun _=>T.cond (fun _=>j4 bd y hy hat h hrw (hb hbd h) _) fun h'=>by rw [h'] at hbd;cases hbd
 have j8: ∀(bd c:Bool),(bd=true→r.why=0∧r.at_+1<ms.length)→T (Di φ n r m bd c) (EP ms r):=by
  intro bd c hb
  unfold Di
  refine T.cond (fun _=>T.bind (Nv hr (by decide)) fun y hy=>j2 bd y hy.1 hy.2.1 (fun h=>absurd h hy.2.2) fun _ h=>absurd h hy.2.2) fun _=>j2 bd r hr rfl id fun h _=>⟨hr.1,by show 0≤r.at_+1;omega,(hb h).2⟩
 have j1: ∀(bd:Bool),(bd=true→r.why=0∧r.at_+1<ms.length)→T (DD φ n r m bd) (EP ms r):=by
  intro bd hb
  unfold DD
  exact T.cond (fun _=>j8 bd _ hb) fun _=>j8 bd _ hb
 refine T.bind (N4 hM hr) fun b hb=>T.cond (fun h=>j1 true fun _=>hb h) fun _=>T.bind (N4 hM hr) fun b hb=>T.cond (fun h=>j1 true fun _=>hb h) fun _=>T.bind (N4 hM hr) fun b hb=>j1 b hb
omit hφ in
theorem psp: ∀n,PSp ms n (AC.at n)
 |0=>⟨fun r _ h=>absurd h.1 (by decide),fun r _ h=>absurd h.1 (by decide),fun r _ h=>absurd h.1 (by decide),fun r _ h=>absurd h.1 (by decide),fun r _ h=>absurd h.1 (by decide),fun r _ h=>absurd h.1 (by decide),fun r _ _ _ h=>absurd h.1 (by decide),fun r _ _ _ h=>absurd h.1 (by decide),fun r _ _ h=>absurd h.1 (by decide)⟩
 |n+1=>
  have hp:=psp n
  ⟨fun _ hr hf=>AAw hlen hM hp hr hf,fun _ hr hf=>AAs hlen hM hp hr hf,fun _ hr hf=>AAt hlen hM hp hr hf,fun _ hr hf=>ABW hlen hM hp hr hf,fun _ hr hf=>AAu hlen hM hp hr hf,fun _ hr hf=>AAv hlen hM hp hr hf,
   fun _ _ hr hw hf=>Zi hlen hM hp hr hw hf,fun _ _ hr hl hf=>Zj hlen hM hp hr hl hf,fun _ _ hr hf=>Wq hlen hM hp hr hf⟩
end
end
end Fth
namespace Fth
open Go
structure WFn(f:AE):Prop where
 body:WE f.body
 size:DZ f.body≤1000000
 pars:f.params.length≤1000000
 typ:1≤f.type_∧f.type_≤3
 ptyp: ∀x∈f.params,1≤x.type_∧x.type_≤3
structure WP(p:AL):Prop where
 fns: ∀f∈p.funcs,WFn f
 len:p.funcs.length≤50000
structure WFt(f:AE):Prop where
 body:WE f.body
 size:DZ f.body≤900000
 pars:f.params.length≤50000
 typ:1≤f.type_∧f.type_≤3
 ptyp: ∀x∈f.params,1≤x.type_∧x.type_≤3
structure WPt(p:AL):Prop where
 fns: ∀f∈p.funcs,WFt f
 len:p.funcs.length≤49000
theorem WPt.wp{p:AL}(h:WPt p):WP p:=
 ⟨fun f hf=>let g:=h.fns f hf;⟨g.body,Nat.le_trans g.size (by decide),Nat.le_trans g.pars (by decide),g.typ,g.ptyp⟩,Nat.le_trans h.len (by decide)⟩
section
variable{ms:List Af}(hlen:ms.length≤40000)(hM:GM ms){N:Nat}(hN:1000000≤N)
include hlen hM hN
theorem AAx{r:AD}{k:Int}(hr:Rd ms r):T (Cp N r k) fun x=>Rd ms x.2∧r.at_≤x.2.at_∧(x.2.why=0→r.why=0∧r.at_<x.2.at_∧WFt x.1):=by
 have hlen':ms.length≤1000000000:=om
 have hps:=psp hlen' hM N
 have fu: ∀r,Rd ms r→Fu ms N r 18:=fun r hr=>⟨om,fun _=>by have:=hr.2.1;omega⟩
 have j1: ∀s:AD,Rd ms s→r.at_≤s.at_→(s.why=0→r.why=0)→T (D2 N s.marks s.at_ s.why s.where_ s.l.text s.l.funcs s.l.arity s.l.nest s.nest) fun x=>Rd ms x.2∧r.at_≤x.2.at_∧(x.2.why=0→r.why=0∧r.at_<x.2.at_∧WFt x.1):=by
  intro s hs hat hw
  unfold D2
  refine T.bind (QN hlen' hM (r:=s) hs) fun x hx=>T.bind (Iq hlen' hM hx.1) fun s1 h1=>?_
  have x1:=hx.2.1;have a1:=h1.2.1
  have hw1:s1.why=0→r.why=0∧r.at_<s1.at_:=fun h=>by
   have p:=h1.2.2 h
   have q:=hx.2.2 p.1
   exact ⟨hw q.1,by have:=q.2;omega⟩
  have key: ∀(k:Nat) (s:AD) (l:List AK),Rd ms s→s1.at_≤s.at_→(s.why=0→s1.why=0)→1≤k→(s.why=0→(ms.length:Int) - s.at_<k)→(s.why=0→l.length≤s.at_)→(s.why=0→∀x∈l,1≤x.type_∧x.type_≤3)→
    T (BY N x k s.marks s.at_ s.why s.where_ s.l.text s.l.funcs s.l.arity s.l.nest s.nest l) fun x=>Rd ms x.2∧r.at_≤x.2.at_∧(x.2.why=0→r.why=0∧r.at_<x.2.at_∧WFt x.1):=by
   intro k
   induction k with
   |zero=>intro s l _ _ _ _ _;omega
   |succ k ih=>
    intro s l hs hat hw _ hk hl ht
    show T (DG N x (BY N x k) s.marks s.at_ s.why s.where_ s.l.text s.l.funcs s.l.arity s.l.nest s.nest l) _
    unfold DG
    have fin:T (DU N x s.marks s.at_ s.why s.where_ s.l.text s.l.funcs s.l.arity s.l.nest s.nest l (BY N x k) false) fun x=>Rd ms x.2∧r.at_≤x.2.at_∧(x.2.why=0→r.why=0∧r.at_<x.2.at_∧WFt x.1):=by
     unfold DU
     refine T.cond (fun h=>by cases h) fun _=>T.bind (Iq hlen' hM (r:=s) hs) fun s2 h2=>T.bind (Iq hlen' hM h2.1) fun s3 h3=>T.bind (VK hlen' hM om h3.1) fun t ht4=>T.bind (Iq hlen' hM ht4.1) fun s5 h5=>T.bind (hps.expr s5 h5.1 (fu _ h5.1)) fun b hb=>T.bind (Iq hlen' hM hb.1) fun s6 h6=>?_
     have b2:=h2.2.1;have b3:=h3.2.1;have b4:=ht4.2.1;have b5:=h5.2.1;have b6:=hb.2.1;have b7:=h6.2.1
     refine .some (a:=_) ⟨h6.1,by simp only;omega,fun h=>?_⟩
     have p1:=h6.2.2 h
     have p2:=hb.2.2 p1.1
     have p3:=h5.2.2 p2.1
     have p4:=ht4.2.2 p3.1
     have p5:=h3.2.2 p4.1
     have p6:=h2.2.2 p5.1
     have p7:=hw1 (hw p6.1)
     have sz:=p2.2.2
     have e1:=h6.1.2.2
     have e2:=hs.2.1
     have e3:=hl p6.1
     have e4:=hs.2.2
     have e5:=h5.1.2.1
     exact ⟨p7.1,by simp only;omega,⟨p2.2.1,by simp only;omega,by simp only;omega,p4.2.2,ht p6.1⟩⟩
    refine T.cond (fun hsw=>?_) fun _=>fin
    have hsw:=B9 hsw
    refine T.bind (N4 hM (r:=s) hs) fun b _=>?_
    cases b
    ·have j5: ∀s':AD,Rd ms s'→s.at_≤s'.at_→T (D0 N l (BY N x k) s'.marks s'.at_ s'.why s'.where_ s'.l.text s'.l.funcs s'.l.arity s'.l.nest s'.nest) fun x=>Rd ms x.2∧r.at_≤x.2.at_∧(x.2.why=0→r.why=0∧r.at_<x.2.at_∧WFt x.1):=by
      intro s' hs' hle
      unfold D0
      have hl':=hl hsw
      have hs2:=hs.2.2
      refine T.bind (QN hlen' hM (r:=s') hs') fun y hy=>T.bind (VK hlen' hM om hy.1) fun t ht'=>T.bind (Ff om (by simp;omega)) fun _ _=>?_
      have y1:=hy.2.1;have t1:=ht'.2.1
      refine ih t.2 (l++[_]) ht'.1 om (fun _=>hw hsw) ?_ (fun h=>?_) (fun h=>?_) fun h z hz=>?_
      ·have:=hk hsw;omega
      ·have p:=ht'.2.2 h;have q:=hy.2.2 p.1;have:=hk hsw;omega
      ·have p:=ht'.2.2 h;rw [List.length_append,List.length_singleton];omega
      ·rcases List.mem_append.1 hz with hz|hz
       ·exact ht hsw z hz
       ·simp at hz;subst hz;exact (ht'.2.2 h).2.2
     have j6: ∀(s':AD) (c:Bool),Rd ms s'→s.at_≤s'.at_→T (DT N l (BY N x k) s'.marks s'.at_ s'.why s'.where_ s'.l.text s'.l.funcs s'.l.arity s'.l.nest s'.nest c) fun x=>Rd ms x.2∧r.at_≤x.2.at_∧(x.2.why=0→r.why=0∧r.at_<x.2.at_∧WFt x.1):=by
      intro s' c hs' hle
      unfold DT
      exact T.cond (fun _=>T.bind (Nv (r:=s') hs' (by decide)) fun s2 h2=>j5 s2 h2.1 (by rw [h2.2.1];exact hle)) fun _=>j5 s' hs' hle
     have j4: ∀(s':AD),Rd ms s'→s.at_≤s'.at_→T (D1 N l (BY N x k) s'.marks s'.at_ s'.why s'.where_ s'.l.text s'.l.funcs s'.l.arity s'.l.nest s'.nest) fun x=>Rd ms x.2∧r.at_≤x.2.at_∧(x.2.why=0→r.why=0∧r.at_<x.2.at_∧WFt x.1):=by
      intro s' hs' hle
      unfold D1
      exact T.cond (fun _=>T.bind (K6 (r:=s') hs') fun m _=>T.cond (fun _=>j6 s' _ hs' hle) fun _=>j6 s' _ hs' hle) fun _=>j6 s' _ hs' hle
     unfold DU
     exact T.cond (fun _=>T.cond (fun _=>T.bind (Iq hlen' hM (r:=s) hs) fun s' h'=>j4 s' h'.1 h'.2.1) fun _=>j4 s hs om) fun h=>by cases h
    ·exact fin
  refine key N s1 [] h1.1 om id om (fun _=>?_) (fun _=>?_) fun _ x h=>by cases h
  ·have:=h1.1.2.1;omega
  ·have:=h1.1.2.1;simp;omega
 have j7: ∀c,T (D3 N r c) fun x=>Rd ms x.2∧r.at_≤x.2.at_∧(x.2.why=0→r.why=0∧r.at_<x.2.at_∧WFt x.1):=by
  intro c
  unfold D3
  exact T.cond (fun _=>T.bind (Nv hr (by decide)) fun s h=>j1 s h.1 (by rw [h.2.1];omega) fun h'=>absurd h' h.2.2) fun _=>j1 r hr om id
 unfold Cp
 exact T.bind (K6 hr) fun m _=>T.cond (fun _=>j7 _) fun _=>j7 _
theorem Ws{r:AD}(hr:Rd ms r):T (Bu N r) fun x=>x.2.why=0→WPt x.1:=by
 have hlen':ms.length≤1000000000:=om
 have key: ∀(k:Nat) (s:AD) (l:List AE),Rd ms s→1≤k→(s.why=0→(ms.length:Int) - s.at_<k)→(s.why=0→l.length≤s.at_)→(s.why=0→∀f∈l,WFt f)→
   T (BS N k s.marks s.at_ s.why s.where_ s.l.text s.l.funcs s.l.arity s.l.nest s.nest l) fun x=>x.2.why=0→WPt x.1:=by
  intro k
  induction k with
  |zero=>intro s l _ _;omega
  |succ k ih=>
   intro s l hs _ hk hl hf
   show T (CE N (BS N k) s.marks s.at_ s.why s.where_ s.l.text s.l.funcs s.l.arity s.l.nest s.nest l) _
   unfold CE
   have h2:=hs.2.2
   have fin:T (B3 N s.marks s.at_ s.why s.where_ s.l.text s.l.funcs s.l.arity s.l.nest s.nest l (BS N k) false) fun x=>x.2.why=0→WPt x.1:=by
    refine .some (a:=_) fun h=>⟨hf h,?_⟩
    have:=hl h;simp only;omega
   refine T.cond (fun hw=>?_) fun _=>fin
   have hw:=B9 hw
   have go:T (B3 N s.marks s.at_ s.why s.where_ s.l.text s.l.funcs s.l.arity s.l.nest s.nest l (BS N k) true) fun x=>x.2.why=0→WPt x.1:=by
    unfold B3
    refine T.cond (fun _=>?_) fun h=>by cases h
    have hl':=hl hw
    have hk':=hk hw
    refine T.bind (AAx hlen hM hN (r:=s) hs) fun x hx=>T.bind (Ff om (by simp;omega)) fun _ _=>ih x.2 (l++[x.1]) hx.1 om (fun h=>?_) (fun h=>?_) fun h f hf'=>?_
    ·have:=(hx.2.2 h).2.1;omega
    ·have:=(hx.2.2 h).2.1;rw [List.length_append,List.length_singleton];omega
    ·rcases List.mem_append.1 hf' with hf'|hf'
     ·exact hf hw f hf'
     ·simp at hf';subst hf';exact (hx.2.2 h).2.2
   refine T.cond (fun _=>go) fun _=>T.bind (K6 (r:=s) hs) fun m _=>?_
   generalize (m.kind != 4)=b
   cases b
   ·exact fin
   ·exact go
 unfold Bu
 refine key N r [] hr om (fun _=>by have:=hr.2.1;omega) (fun _=>by have:=hr.2.1;simp;omega) fun _ f h=>by cases h
omit hM hN hlen
theorem Xl{N:Nat}(hN:1000000≤N)(t:List UInt8):T (Fc N t ⟨32768,32768,32768,32768⟩) fun x=>WPt x.1:=by
 have wp0:WPt (AL.mk []):=⟨fun f h=>(by cases h),Nat.zero_le _⟩
 unfold Fc
 refine T.cond (fun _=> .some wp0) fun h=>?_
 have h:=Do h
 simp at h
 refine T.bind (YU om om) fun x hx=>T.cond (fun _=> .some wp0) fun h2=>?_
 have h2:=Do h2
 have hx:=hx om
 have hr:Rd x.1 (AD.mk x.1 0 0 0 (Ae.mk (if (32768:Int)< (if (32768:Int)<0 then 0 else 32768) then 32768 else (if (32768:Int)<0 then 0 else 32768)) 32768 32768 32768) 0):=by
  refine ⟨rfl,by simp,?_⟩
  obtain ⟨⟨l,e,he,_⟩,_⟩:=hx
  rw [he];simp
 refine T.bind (Ws om hx.1 hN hr) fun y hy=>T.cond (fun h=> .some wp0) fun h=> .some (hy (Jp h))
end
end Fth
namespace Fth
open Go Ieee
def Wd(d:Datum)(n:Int):Prop:=∃(s:Bool) (k:Nat),d= .number s (n.natAbs*2^k) (-(k:Int))∧(n≠0→s=decide (n<0))
def Wp(d:Datum)(n:Int):Prop:=∃k:Nat,d= .number (decide (n<0)) (n.natAbs*2^k) (-(k:Int))
theorem Wp.wd{d:Datum}{n:Int}(h:Wp d n):Wd d n:=let ⟨k,h⟩:=h;⟨_,k,h,fun _=>rfl⟩
theorem Wd.wp{d:Datum}{n:Int}(h:Wd d n)(h0:n≠0):Wp d n:=by obtain ⟨s,k,h,hs⟩:=h;exact ⟨k,by rw [h,hs h0]⟩
def fw(s:Bool)(m:Nat):Nat:=double.word s ((m.log2+1022)*2^52+m*2^(52 - m.log2))
theorem K7{m:Nat}(h0:0<m)(h:m<2^53):m.log2≤52:=by
 have h1:=Nat.log2_self_le (n:=m) om
 have h2:2^m.log2<2^53:=Nat.lt_of_le_of_lt h1 h
 have:=(Nat.pow_lt_pow_iff_right (by decide:1<2)).1 h2
 omega
theorem MQ{m:Nat}(h0:0<m)(h:m<2^53):2^52≤m*2^(52 - m.log2)∧m*2^(52 - m.log2)<2^53:=by
 have hl:=K7 h0 h
 have h1:=Nat.log2_self_le (n:=m) om
 have h2:=Nat.lt_log2_self (n:=m)
 have e1:2^m.log2*2^(52 - m.log2)=2^52:=by rw [←Nat.pow_add];congr 1;omega
 have e2:2^(m.log2+1)*2^(52 - m.log2)=2^53:=by rw [←Nat.pow_add];congr 1;omega
 constructor
 ·rw [←e1];exact Nat.mul_le_mul_right _ h1
 ·rw [←e2];exact Nat.mul_lt_mul_of_pos_right h2 (Nat.pow_pos (by decide))
theorem Mk{m k:Nat}(h0:0<m):(m*2^k).log2=m.log2+k:=by
 have h1:=Nat.log2_self_le (n:=m) om
 have h2:=Nat.lt_log2_self (n:=m)
 rw [Nat.log2_eq_iff (Nat.ne_of_gt (Nat.mul_pos h0 (Nat.pow_pos (by decide))))]
 rw [Nat.pow_add,show m.log2+k+1=(m.log2+1)+k by omega,Nat.pow_add]
 exact ⟨Nat.mul_le_mul_right _ h1,Nat.mul_lt_mul_of_pos_right h2 (Nat.pow_pos (by decide))⟩
theorem V2{s:Bool}{q d:Nat}(h:d≤(q*2^d).log2+2):Toward.even.cut s (q*2^d) d=q:=by
 simp only [Toward.cut,Nat.min_eq_left h,Nat.one_shiftLeft]
 have hp:0<2^d:=Nat.pow_pos (by decide)
 have e1:q*2^d / 2^d=q:=Nat.mul_div_cancel _ hp
 have e2:q*2^d % 2^d=0:=Nat.mul_mod_left _ _
 rw [e1,e2]
 simp
theorem UZ{s:Bool}{m k:Nat}(h0:0<m)(h:m<2^53):double.nearest s (m*2^k) (-(k:Int))=fw s m:=by
 have hl:=K7 h0 h
 have hpos: ¬(m*2^k=0):=Nat.ne_of_gt (Nat.mul_pos h0 (Nat.pow_pos (by decide)))
 have hlast:max (-(k:Int)+((m*2^k).log2:Nat) - (double.fractionBits:Nat)) double.leastPlace=(m.log2:Int) - 52:=by
  rw [Mk h0]
  simp only [double,Format.leastPlace]
  omega
 have hkept:Toward.even.cut s ((m*2^k) <<< (-(k:Int) - ((m.log2:Int) - 52)).toNat) (((m.log2:Int) - 52) - -(k:Int)).toNat=m*2^(52 - m.log2):=by
  rw [Nat.shiftLeft_eq]
  rcases Nat.le_total k (52 - m.log2) with hk|hk
  ·have e1:(-(k:Int) - ((m.log2:Int) - 52)).toNat=52 - m.log2 - k:=om
   have e2:(((m.log2:Int) - 52) - -(k:Int)).toNat=0:=om
   rw [e1,e2,Nat.mul_assoc,←Nat.pow_add,show k+(52 - m.log2 - k)=52 - m.log2 by omega]
   have:=V2 (s:=s) (q:=m*2^(52 - m.log2)) (d:=0) om
   simpa using this
  ·have e1:(-(k:Int) - ((m.log2:Int) - 52)).toNat=0:=om
   obtain ⟨d,hd⟩: ∃d,k=(52 - m.log2)+d:=⟨k - (52 - m.log2),om⟩
   have e2:(((m.log2:Int) - 52) - -(k:Int)).toNat=d:=om
   rw [e1,e2,Nat.pow_zero,Nat.mul_one,hd,Nat.pow_add,←Nat.mul_assoc]
   refine V2 ?_
   rw [Nat.mul_assoc,←Nat.pow_add,Mk h0]
   omega
 have hb:=MQ h0 h
 simp only [Format.nearest,hpos,if_false,hlast,hkept,fw]
 congr 1
 have e3:((m.log2:Int) - 52 - double.leastPlace).toNat=m.log2+1022:=by simp only [double,Format.leastPlace];omega
 rw [e3]
 have e4:double.binade=2^52:=rfl
 have e5:double.infRung=2047*2^52:=by decide
 rw [e4,e5]
 omega
theorem TY{s:Bool}{k:Int}:double.nearest s 0 k=double.word s 0:=by simp [Format.nearest]
theorem XB{s:Bool}{m:Nat}(h0:0<m)(h:m<2^53):double.read (fw s m)= .number s (m*2^(52 - m.log2)) (-((52 - m.log2:Nat):Int)):=by
 have hl:=K7 h0 h
 have hb:=MQ h0 h
 have e0:double.signWeight=2^63:=by decide
 have e4:double.binade=2^52:=rfl
 have e5:double.infRung=2047*2^52:=by decide
 have e6:double.leastPlace= -1074:=by decide
 generalize hq:m*2^(52 - m.log2)=q at*
 generalize hL:m.log2=L at*
 have hw:fw s m=(if s then 2^63 else 0)+((L+1022)*2^52+q):=by
  simp only [fw,Format.word,hq,hL,e0];cases s<;>simp
 have hr:fw s m % 2^63=(L+1022)*2^52+q:=by rw [hw];cases s<;>simp<;>omega
 have hn:(fw s m / 2^63 % 2==1)=s:=by rw [hw];cases s<;>simp<;>omega
 simp only [Format.read,e0,hr,hn,e4,e5,e6]
 rw [if_neg om,if_pos om]
 congr 1
 ·omega
 ·omega
theorem Wt(n:Int):FloatKind.f64.nearest n=double.nearest (decide (n<0)) n.natAbs 0:=rfl
theorem Ke{n:Int}(h0:n≠0)(h:n.natAbs<2^53):FloatKind.f64.nearest n=fw (decide (n<0)) n.natAbs:=by
 rw [Wt]
 have:=UZ (s:=decide (n<0)) (m:=n.natAbs) (k:=0) om h
 simpa using this
theorem PI:FloatKind.f64.nearest 0=0:=by decide
theorem MR{n:Int}(h:n.natAbs<2^53):Wp (double.read (FloatKind.f64.nearest n)) n:=by
 rcases Decidable.em (n=0) with h0|h0
 ·subst h0;exact ⟨1074,by rw [PI,Int.natAbs_zero,Nat.zero_mul];decide⟩
 ·rw [Ke h0 h,XB om h];exact ⟨_,rfl⟩
theorem TZ{d:Datum}{n:Int}(h:n.natAbs<2^53)(hd:Wp d n):double.write d=FloatKind.f64.nearest n:=by
 obtain ⟨k,rfl⟩:=hd
 rcases Decidable.em (n=0) with h0|h0
 ·subst h0;simp only [Int.natAbs_zero,Nat.zero_mul,Format.write];rw [TY];decide
 ·rw [Ke h0 h];exact UZ om h
def Fz(x:Nat)(n:Int):Prop:=x=FloatKind.f64.nearest n∨(n=0∧x=9223372036854775808)
theorem Fz.of{n:Int}:Fz (FloatKind.f64.nearest n) n:= .inl rfl
theorem Fz.eq{x:Nat}{n:Int}(h:Fz x n)(h0:n≠0):x=FloatKind.f64.nearest n:=h.resolve_right fun h'=>h0 h'.1
theorem Fz.read{x:Nat}{n:Int}(hx:Fz x n)(h:n.natAbs<2^53):Wd (double.read x) n:=by
 rcases hx with rfl| ⟨rfl,rfl⟩
 ·exact (MR h).wd
 ·exact ⟨true,1074,by rw [Int.natAbs_zero,Nat.zero_mul];decide,fun h=>absurd rfl h⟩
theorem Fz.write{d:Datum}{n:Int}(hd:Wd d n)(h:n.natAbs<2^53):Fz (double.write d) n:=by
 rcases Decidable.em (n=0) with h0|h0
 ·subst h0
  obtain ⟨s,k,rfl,_⟩:=hd
  simp only [Int.natAbs_zero,Nat.zero_mul,Format.write]
  rw [TY]
  cases s
  ·exact .inl (by decide)
  ·exact .inr ⟨rfl,by decide⟩
 ·exact .inl (TZ h (hd.wp h0))
theorem MU{s:Bool}{n:Int}{k:Nat}(hs:n≠0→s=decide (n<0))(up:Nat):signed s (n.natAbs*2^k) up=n*2^(k+up):=by
 rw [signed,Nat.shiftLeft_eq,Nat.mul_assoc,←Nat.pow_add]
 rcases Decidable.em (n=0) with h0|h0
 ·subst h0;simp
 ·rw [hs h0]
  rcases Int.lt_or_le n 0 with h|h
  ·simp only [h,decide_true,if_true]
   rw [Int.natCast_mul,Int.natCast_pow,show ((n.natAbs:Nat):Int)= -n by omega,Int.neg_mul,Int.neg_neg];rfl
  ·have: ¬n<0:=om
   simp only [this,decide_false,if_false,Bool.false_eq_true]
   rw [Int.natCast_mul,Int.natCast_pow,show ((n.natAbs:Nat):Int)=n by omega];rfl
theorem natAbs_pow(n:Int)(k:Nat):(n*2^k).natAbs=n.natAbs*2^k:=by
 rw [Int.natAbs_mul,Int.natAbs_pow];rfl
theorem XC{n:Int}{k:Nat}:n*2^k<0↔n<0:=by
 have hp:(0:Int)<2^k:=Int.pow_pos (by decide)
 constructor
 ·intro h
  rcases Int.lt_or_le n 0 with h'|h'
  ·exact h'
  ·have:=Int.mul_nonneg h' (Int.le_of_lt hp);omega
 ·intro h;exact Int.mul_neg_of_neg_of_pos h hp
theorem Ta{n:Int}{k:Nat}:n*2^k=0↔n=0:=by
 have hp:(2:Int)^k≠0:=Int.ne_of_gt (Int.pow_pos (by decide))
 constructor
 ·intro h;rcases Int.mul_eq_zero.1 h with h|h
  ·exact h
  ·exact absurd h hp
 ·intro h;rw [h];simp
theorem Wu{c d:Datum}{a b:Int}(hc:Wd c a)(hd:Wd d b): ∃e,c.sum d=some e∧Wd e (a+b)∧(Wp c a∨Wp d b→Wp e (a+b)):=by
 obtain ⟨s,k,rfl,hs⟩:=hc
 obtain ⟨t,j,rfl,ht⟩:=hd
 refine ⟨_,rfl,?_⟩
 have e1:min (-(k:Int)) (-(j:Int))= -((max k j:Nat):Int):=om
 rw [e1]
 have e2:((-(k:Int)) - -((max k j:Nat):Int)).toNat=max k j - k:=om
 have e3:((-(j:Int)) - -((max k j:Nat):Int)).toNat=max k j - j:=om
 rw [e2,e3,MU hs,MU ht,show k+(max k j - k)=max k j by omega,show j+(max k j - j)=max k j by omega,←Int.add_mul]
 generalize max k j=M
 refine ⟨⟨_,M,by rw [natAbs_pow],fun h=>?_⟩,fun h=>⟨M,?_⟩⟩
 ·rw [if_neg (by rw [Ta];exact h)];simp [XC]
 ·rw [natAbs_pow]
  congr 1
  rcases Decidable.em (a+b=0) with h0|h0
  ·rw [if_pos (by rw [Ta];exact h0),h0]
   simp only [Int.lt_irrefl,decide_false,Bool.and_eq_false_iff]
   rcases Decidable.em (a=0) with ha|ha
   ·have hb:b=0:=om
    rcases h with ⟨k',h⟩| ⟨j',h⟩
    ·injection h with h _ _;left;rw [h,ha];decide
    ·injection h with h _ _;right;rw [h,hb];decide
   ·rw [hs ha,ht om]
    simp only [decide_eq_false_iff_not];omega
  ·rw [if_neg (by rw [Ta];exact h0)];simp [XC]
theorem AAy{d:Datum}{b:Int}(hd:Wd d b):Wd d.opposite (-b):=by
 obtain ⟨t,j,rfl,ht⟩:=hd
 refine ⟨!t,j,by simp [Datum.opposite],fun h=>?_⟩
 rw [ht om]
 rcases Int.lt_or_le b 0 with h'|h'
 ·simp [h'];omega
 ·have h1: ¬b<0:=om
  have h2: -b<0:=om
  simp [h1];omega
theorem Zk{c d:Datum}{a b:Int}(hc:Wd c a)(hd:Wd d b): ∃e,c.product d=some e∧Wd e (a*b):=by
 obtain ⟨s,k,rfl,hs⟩:=hc
 obtain ⟨t,j,rfl,ht⟩:=hd
 refine ⟨_,rfl,s^^t,k+j,?_,fun h=>?_⟩
 ·congr 1
  ·rw [Int.natAbs_mul,Nat.pow_add];simp only [Nat.mul_assoc,Nat.mul_left_comm]
  ·omega
 ·have ha:a≠0:=fun e=>h (by rw [e];simp)
  have hb:b≠0:=fun e=>h (by rw [e];simp)
  rw [hs ha,ht hb]
  rcases Int.lt_or_le a 0 with h1|h1<;>rcases Int.lt_or_le b 0 with h2|h2
  ·have:=Int.mul_pos_of_neg_of_neg h1 h2
   simp [h1,h2];omega
  ·have:=Int.mul_neg_of_neg_of_pos h1 (show 0<b by omega)
   have h3: ¬b<0:=om
   simp [h1,h3,this]
  ·have:=Int.mul_neg_of_pos_of_neg (show 0<a by omega) h2
   have h3: ¬a<0:=om
   simp [h2,h3,this]
  ·have:=Int.mul_pos (show 0<a by omega) (show 0<b by omega)
   have h3: ¬a<0:=om
   have h4: ¬b<0:=om
   simp [h3,h4];omega
theorem YV{c d:Datum}{a b:Int}(hc:Wd c a)(hd:Wd d b):c.order d=some (compare a b):=by
 obtain ⟨s,k,rfl,hs⟩:=hc
 obtain ⟨t,j,rfl,ht⟩:=hd
 simp only [Datum.order]
 have e1:min (-(k:Int)) (-(j:Int))= -((max k j:Nat):Int):=om
 rw [e1]
 have e2:((-(k:Int)) - -((max k j:Nat):Int)).toNat=max k j - k:=om
 have e3:((-(j:Int)) - -((max k j:Nat):Int)).toNat=max k j - j:=om
 rw [e2,e3,MU hs,MU ht,show k+(max k j - k)=max k j by omega,show j+(max k j - j)=max k j by omega]
 generalize max k j=M
 have hp:(0:Int)<2^M:=Int.pow_pos (by decide)
 congr 1
 simp only [compare,compareOfLessAndEq]
 have hlt:a*2^M<b*2^M↔a<b:=Int.mul_lt_mul_right hp
 have:a*2^M=b*2^M↔a=b:=by
  constructor
  ·intro h;exact Int.eq_of_mul_eq_mul_right (Int.ne_of_gt hp) h
  ·rintro rfl;rfl
 simp only [hlt,this]
section
variable{x y:Nat}{a b:Int}
theorem Fz.add(hx:Fz x a)(hy:Fz y b)(ha:a.natAbs<2^53)(hb:b.natAbs<2^53)(h:(a+b).natAbs<2^53): ∃z,FloatKind.f64.format.add x y=some z∧Fz z (a+b):=by
 obtain ⟨e,he,hw,_⟩:=Wu (hx.read ha) (hy.read hb)
 refine ⟨double.write e,?_,Fz.write hw h⟩
 show ((double.read x).sum (double.read y)).map double.write=_
 rw [he];rfl
theorem Fz.add0(hx:Fz x a)(ha:a.natAbs<2^53):FloatKind.f64.format.add x 0=some (FloatKind.f64.nearest a):=by
 obtain ⟨e,he,_,hw⟩:=Wu (hx.read ha) (MR (n:=0) (by decide)).wd
 have hw:=hw (.inr (MR (n:=0) (by decide)))
 rw [Int.add_zero] at hw
 show ((double.read x).sum (double.read 0)).map double.write=_
 rw [PI] at he
 rw [he]
 exact congrArg some (TZ ha hw)
theorem Fz.sub(hx:Fz x a)(hy:Fz y b)(ha:a.natAbs<2^53)(hb:b.natAbs<2^53)(h:(a - b).natAbs<2^53): ∃z,FloatKind.f64.format.sub x y=some z∧Fz z (a - b):=by
 obtain ⟨e,he,hw,_⟩:=Wu (hx.read ha) (AAy (hy.read hb))
 refine ⟨double.write e,?_,Fz.write (by rwa [Int.sub_eq_add_neg]) h⟩
 show ((double.read x).sum (double.read y).opposite).map double.write=_
 rw [he];rfl
theorem Fz.mul(hx:Fz x a)(hy:Fz y b)(ha:a.natAbs<2^53)(hb:b.natAbs<2^53)(h:(a*b).natAbs<2^53): ∃z,FloatKind.f64.format.mul x y=some z∧Fz z (a*b):=by
 obtain ⟨e,he,hw⟩:=Zk (hx.read ha) (hy.read hb)
 refine ⟨double.write e,?_,Fz.write hw h⟩
 show ((double.read x).product (double.read y)).map double.write=_
 rw [he];rfl
theorem Fz.order(hx:Fz x a)(hy:Fz y b)(ha:a.natAbs<2^53)(hb:b.natAbs<2^53):FloatKind.f64.format.order x y=some (compare a b):=
 YV (hx.read ha) (hy.read hb)
theorem Tc{a b:Int}:(compare a b= .lt)↔a<b:=by
 simp only [compare,compareOfLessAndEq];split<;>simp_all;split<;>simp_all
theorem YW{a b:Int}:(compare a b= .eq)↔a=b:=by
 simp only [compare,compareOfLessAndEq];split
 ·simp;omega
 ·split<;>simp_all
theorem AAz{a b:Int}:(compare a b= .gt)↔b<a:=by
 simp only [compare,compareOfLessAndEq];split
 ·simp;omega
 ·split
  ·simp;omega
  ·simp;omega
theorem Fz.feq(hx:Fz x a)(hy:Fz y b)(ha:a.natAbs<2^53)(hb:b.natAbs<2^53):feq x y=decide (a=b):=by
 rw [Fth.feq,hx.order hy ha hb,Bool.eq_iff_iff];simp [YW]
theorem Fz.fne(hx:Fz x a)(hy:Fz y b)(ha:a.natAbs<2^53)(hb:b.natAbs<2^53):fne x y= !decide (a=b):=by
 rw [Fth.fne,hx.order hy ha hb,Bool.eq_iff_iff];simp [YW]
theorem Fz.flt(hx:Fz x a)(hy:Fz y b)(ha:a.natAbs<2^53)(hb:b.natAbs<2^53):flt_ x y=decide (a<b):=by
 rw [Fth.flt_,hx.order hy ha hb,Bool.eq_iff_iff];simp [Tc]
theorem Fz.fle(hx:Fz x a)(hy:Fz y b)(ha:a.natAbs<2^53)(hb:b.natAbs<2^53):fle x y=decide (a≤b):=by
 rw [Fth.fle,hx.order hy ha hb,Bool.eq_iff_iff];simp [Tc];omega
theorem Fz.fge(hx:Fz x a)(hy:Fz y b)(ha:a.natAbs<2^53)(hb:b.natAbs<2^53):fge x y=decide (b≤a):=by
 rw [Fth.fge,hx.order hy ha hb,Bool.eq_iff_iff];simp [AAz];omega
end
end Fth
namespace Fth
open Go Ieee
theorem Td{s:Bool}{m k:Nat}:Toward.zero.cut s (m*2^k) k=m:=by
 rcases Nat.eq_zero_or_pos m with h|h
 ·subst h;simp [Toward.cut]
 ·have hl:=Mk (k:=k) h
  simp only [Toward.cut,Nat.one_shiftLeft,Nat.min_eq_left (show k≤(m*2^k).log2+2 by omega)]
  rw [Nat.mul_div_cancel _ (Nat.pow_pos (by decide))]
  simp
theorem V3{d:Datum}{n:Int}(h:Wd d n):Wd (d.integral .zero) n:=by
 obtain ⟨s,k,rfl,hs⟩:=h
 refine ⟨s,0,?_,hs⟩
 have e:(-(k:Int)).toNat=0:=om
 have e2:(- -(k:Int)).toNat=k:=om
 simp only [Datum.integral,e,e2,Nat.shiftLeft_zero,Td]
 simp
theorem V4{d:Datum}{n:Int}(h:Wp d n):Wp (d.integral .zero) n:=by
 obtain ⟨k,rfl⟩:=h
 refine ⟨0,?_⟩
 have e:(-(k:Int)).toNat=0:=om
 have e2:(- -(k:Int)).toNat=k:=om
 simp only [Datum.integral,e,e2,Nat.shiftLeft_zero,Td]
 simp
theorem YX{d:Datum}{n:Int}(h:Wd d n):d.toInt .zero=some n:=by
 have h':=V3 h
 obtain ⟨s,k,rfl,hs⟩:=h
 have e:(-(k:Int)).toNat=0:=om
 have e2:(- -(k:Int)).toNat=k:=om
 simp only [Datum.toInt,Datum.integral,e,e2,Nat.shiftLeft_zero,Td]
 have:=MU (k:=0) hs 0
 simpa using this
theorem YY{n:Int}(h1: -16777216≤n)(h2:n≤16777216):n.natAbs<2^53:=om
theorem m24:(13938640846711685120:Nat)=FloatKind.f64.nearest (-16777216):=by decide
theorem p24:(4715268809856909312:Nat)=FloatKind.f64.nearest 16777216:=by decide
theorem z0:(0:Nat)=FloatKind.f64.nearest 0:=by decide
theorem fz0:Fz 0 0:= .inl z0
theorem Zl{n:Int}(h:n.natAbs<2^53):Ic (FloatKind.f64.nearest n)=some (FloatKind.f64.nearest n):=by
 have hr:=MR h
 have hi:=V4 hr
 have hw:=TZ h hi
 have:SS (FloatKind.f64.nearest n)=some (FloatKind.f64.nearest n):=by
  obtain ⟨k,hk⟩:=hr
  unfold SS
  have e:FloatKind.f64.decode (FloatKind.f64.nearest n)= .number (decide (n<0)) (n.natAbs*2^k) (-(k:Int)):=hk
  rw [e]
  rw [hk] at hw
  exact congrArg some hw
 unfold Ic
 rw [this];rfl
theorem XD{n:Int}(h:n.natAbs<2^53):G0 (FloatKind.f64.nearest n)=some (decide (-16777216≤n∧n≤16777216)):=by
 have hx:Fz (FloatKind.f64.nearest n) n:= .of
 unfold G0 Hi
 rw [m24,p24,hx.fge .of h (by decide),hx.fle .of h (by decide),Zl h]
 simp only [Option.bind_some]
 rw [hx.feq .of h h,hx.fne fz0 h (by decide)]
 cases h1:decide (-16777216≤n)
 ·have:=Do h1
  simp [this]
 ·cases h2:decide (n≤16777216)
  ·have:=Do h2;simp [this]
  ·have h1:=CO h1;have h2:=CO h2
   simp only [decide_true,cond_true,h1,h2,and_self]
   cases h0:decide (n=0)
   ·rfl
   ·have h0:=CO h0;subst h0;decide
theorem XE{a b:Int}(ha:a.natAbs<2^53)(hb:b.natAbs<2^53):Bz (FloatKind.f64.nearest a,FloatKind.f64.nearest b)=some (decide ((-16777216≤a∧a≤16777216)∧(-16777216≤b∧b≤16777216))):=by
 unfold Bz KO
 simp only [XD ha,XD hb,Option.bind_some]
 cases h:decide (-16777216≤a∧a≤16777216)
 ·have:=Do h;simp [this]
 ·have:=CO h;simp [this]
def rn(n:Aj):Nat×Nat:=(FloatKind.f64.nearest n.re,FloatKind.f64.nearest n.im)
def Gu(n:Aj):Prop:=(-16777216≤n.re∧n.re≤16777216)∧(-16777216≤n.im∧n.im≤16777216)
instance (n:Aj):Decidable (Gu n):=inferInstanceAs (Decidable (_∧_))
theorem Py(z:Nat×Nat):Gn z↔∃n,Gu n∧z=rn n:=by
 constructor
 ·rintro ⟨a,b,⟨h1,h2,h3⟩,h4,h5,h6⟩
  exact ⟨⟨a,b⟩,⟨⟨h2,h3⟩,h5,h6⟩,by rw [rn,←h1,←h4]⟩
 ·rintro ⟨n,h,rfl⟩
  exact ⟨n.re,n.im,⟨rfl,h.1.1,h.1.2⟩,rfl,h.2.1,h.2.2⟩
theorem Gn.of{n:Aj}(h:Gu n):Gn (rn n):=(Py _).2 ⟨n,h,rfl⟩
theorem Gu.re{n:Aj}(h:Gu n):n.re.natAbs<2^53:=YY h.1.1 h.1.2
theorem Gu.im{n:Aj}(h:Gu n):n.im.natAbs<2^53:=YY h.2.1 h.2.2
theorem J8{n:Aj}(h:Gu n):Bz (rn n)=some true:=by
 rw [rn,XE h.re h.im];congr 1;exact decide_eq_true h
theorem YZ{n:Int}(h1: -16777216≤n)(h2:n≤16777216):Hy (FloatKind.f64.nearest n)=some (n,true):=by
 have h:=YY h1 h2
 have hx:Fz (FloatKind.f64.nearest n) n:= .of
 have e1:f2i .i64 (FloatKind.f64.nearest n)=some n:=by
  unfold f2i
  have:(FloatKind.f64.decode (FloatKind.f64.nearest n)).toInt .zero=some n:=YX (hx.read h)
  rw [this]
  simp only [IntKind.min,IntKind.max,IntKind.signed,IntKind.bits]
  rw [if_pos]
  simp only [if_true];omega
 unfold Hy HN
 rw [m24,p24,hx.fge .of h (by decide),hx.fle .of h (by decide),hx.feq fz0 h (by decide),e1]
 simp only [h1,h2,decide_true,cond_true,Option.bind_some,Bool.not_true,cond_false]
 rw [hx.feq .of h h]
 cases h0:decide (n=0)
 ·simp
 ·have h0:=CO h0;subst h0;decide
theorem Ua{n:Aj}(h:Gu n):Ec (rn n)=some (n,true):=by
 unfold Ec
 simp only [rn,YZ h.1.1 h.1.2,YZ h.2.1 h.2.2,Option.bind_some]
 rfl
theorem Ya{z:Nat×Nat}(h:Gn z): ∃n,Gu n∧z=rn n∧Ec z=some (n,true):=by
 obtain ⟨n,hn,rfl⟩:=(Py z).1 h
 exact ⟨n,hn,rfl,Ua hn⟩
def inn(n:Aj):Aj×Int:=if Gu n then (n,0) else (⟨0,0⟩,50)
theorem XF(n:Aj):HW n=some (inn n):=by
 unfold HW Jq inn
 cases h1:decide (n.re< -16777216)
 ·cases h2:decide (n.re>16777216)
  ·cases h3:decide (n.im< -16777216)
   ·cases h4:decide (n.im>16777216)
    ·have:=Do h1;have:=Do h2;have:=Do h3;have:=Do h4
     rw [if_pos (show Gu n from ⟨⟨om,om⟩,om,om⟩)];rfl
    ·have:=CO h4;rw [if_neg (show¬Gu n by unfold Gu;omega)];rfl
   ·have:=CO h3;rw [if_neg (show¬Gu n by unfold Gu;omega)];rfl
  ·have:=CO h2;rw [if_neg (show¬Gu n by unfold Gu;omega)];rfl
 ·have:=CO h1;rw [if_neg (show¬Gu n by unfold Gu;omega)];rfl
theorem O3{x y:Nat}{a b:Int}(hx:Fz x a)(hy:Fz y b)(ha:a.natAbs<2^53)(hb:b.natAbs<2^53):Ex (x,y)=some (rn (inn ⟨a,b⟩).1,(inn ⟨a,b⟩).2):=by
 unfold Ex
 simp only [hx.add0 ha,hy.add0 hb,Option.bind_some,XE ha hb]
 unfold inn
 cases h:decide ((-16777216≤a∧a≤16777216)∧(-16777216≤b∧b≤16777216))
 ·have h:=Do h
  rw [if_neg (show¬Gu ⟨a,b⟩ from h)]
  simp only [Bool.not_false,cond_true]
  congr 1
 ·have h:=CO h
  rw [if_pos (show Gu ⟨a,b⟩ from h)]
  rfl
theorem Fz.re{a:Aj}(_h:Gu a):Fz (rn a).1 a.re:= .inl rfl
theorem Fz.im{a:Aj}(_h:Gu a):Fz (rn a).2 a.im:= .inl rfl
section
variable{a b:Aj}(ha:Gu a)(hb:Gu b)
include ha hb
theorem AA0:Jc (rn a) (rn b)=some (rn (inn ⟨a.re+b.re,a.im+b.im⟩).1,(inn ⟨a.re+b.re,a.im+b.im⟩).2):=by
 obtain ⟨⟨h1,h2⟩,h3,h4⟩:=ha
 obtain ⟨⟨h5,h6⟩,h7,h8⟩:=hb
 have ha:Gu a:=⟨⟨h1,h2⟩,h3,h4⟩
 have hb:Gu b:=⟨⟨h5,h6⟩,h7,h8⟩
 obtain ⟨z,hz,hz'⟩:=(Fz.re ha).add (Fz.re hb) ha.re hb.re om
 obtain ⟨y,hy,hy'⟩:=(Fz.im ha).add (Fz.im hb) ha.im hb.im om
 unfold Jc LN
 simp only [J8 ha,J8 hb,Option.bind_some,Bool.not_true,cond_false,cadd,hz,hy,O3 hz' hy' om om]
theorem AA1:Jd (rn a) (rn b)=some (rn (inn ⟨a.re - b.re,a.im - b.im⟩).1,(inn ⟨a.re - b.re,a.im - b.im⟩).2):=by
 obtain ⟨⟨h1,h2⟩,h3,h4⟩:=ha
 obtain ⟨⟨h5,h6⟩,h7,h8⟩:=hb
 have ha:Gu a:=⟨⟨h1,h2⟩,h3,h4⟩
 have hb:Gu b:=⟨⟨h5,h6⟩,h7,h8⟩
 obtain ⟨z,hz,hz'⟩:=(Fz.re ha).sub (Fz.re hb) ha.re hb.re om
 obtain ⟨y,hy,hy'⟩:=(Fz.im ha).sub (Fz.im hb) ha.im hb.im om
 unfold Jd LO
 simp only [J8 ha,J8 hb,Option.bind_some,Bool.not_true,cond_false,csub,hz,hy,O3 hz' hy' om om]
end
theorem Lj{x y:Int}{A B:Nat}(hx:x.natAbs≤A)(hy:y.natAbs≤B):(x*y).natAbs≤A*B:=by
 rw [Int.natAbs_mul];exact Nat.mul_le_mul hx hy
theorem Gu.reA{n:Aj}(h:Gu n):n.re.natAbs≤16777216:=by have:=h.1;omega
theorem Gu.imA{n:Aj}(h:Gu n):n.im.natAbs≤16777216:=by have:=h.2;omega
theorem VL{x1 x2 y1 y2:Nat}{a1 a2 b1 b2:Int}(h1:Fz x1 a1)(h2:Fz x2 a2)(h3:Fz y1 b1)(h4:Fz y2 b2)(l1:a1.natAbs≤16777216)(l2:a2.natAbs≤16777216)(l3:b1.natAbs≤16777216)(l4:b2.natAbs≤16777216):
  ∃z1 z2,cmul (x1,x2) (y1,y2)=some (z1,z2)∧Fz z1 (a1*b1 - a2*b2)∧Fz z2 (a1*b2+a2*b1)∧(a1*b1 - a2*b2).natAbs≤562949953421312∧(a1*b2+a2*b1).natAbs≤562949953421312:=by
 have m1:=Lj l1 l3
 have m2:=Lj l2 l4
 have m3:=Lj l1 l4
 have m4:=Lj l2 l3
 obtain ⟨p,hp,hp'⟩:=h1.mul h3 om om om
 obtain ⟨q,hq,hq'⟩:=h2.mul h4 om om om
 obtain ⟨r,hr,hr'⟩:=hp'.sub hq' om om om
 obtain ⟨s,hs,hs'⟩:=h1.mul h4 om om om
 obtain ⟨t,ht,ht'⟩:=h2.mul h3 om om om
 obtain ⟨u,hu,hu'⟩:=hs'.add ht' om om om
 refine ⟨r,u,?_,hr',hu',om,om⟩
 simp only [cmul,hp,hq,hr,hs,ht,hu,Option.bind_some]
section
variable{a b:Aj}(ha:Gu a)(hb:Gu b)
include ha hb
theorem AA2:Je (rn a) (rn b)=some (rn (inn ⟨a.re*b.re - a.im*b.im,a.re*b.im+a.im*b.re⟩).1,(inn ⟨a.re*b.re - a.im*b.im,a.re*b.im+a.im*b.re⟩).2):=by
 obtain ⟨z1,z2,hz,h1,h2,l1,l2⟩:=VL (Fz.re ha) (Fz.im ha) (Fz.re hb) (Fz.im hb) ha.reA ha.imA hb.reA hb.imA
 unfold Je LP
 have e:cmul (rn a) (rn b)=some (z1,z2):=hz
 simp only [J8 ha,J8 hb,Option.bind_some,Bool.not_true,cond_false,e,O3 h1 h2 om om]
theorem Zm:Ig (rn a) (rn b)=some ((decide (a.re<b.re)||(decide (a.re=b.re)&&decide (a.im<b.im))),0):=by
 unfold Ig Ku
 simp only [J8 ha,J8 hb,Option.bind_some,Bool.not_true,cond_false]
 rw [(Fz.re ha).fne (Fz.re hb) ha.re hb.re,(Fz.re ha).flt (Fz.re hb) ha.re hb.re,(Fz.im ha).flt (Fz.im hb) ha.im hb.im]
 cases h:decide (a.re=b.re)
 ·simp
 ·have h:=CO h
  simp [h]
theorem Yb:ceq (rn a) (rn b)=(decide (a.re=b.re)&&decide (a.im=b.im)):=by
 rw [ceq,(Fz.re ha).feq (Fz.re hb) ha.re hb.re,(Fz.im ha).feq (Fz.im hb) ha.im hb.im]
end
theorem Te{x:Nat}{a:Int}(h:Fz x a)(ha:a.natAbs<2^53):Fz (Op.negFloat .f64 x) (-a):=by
 have e: ∀y:Nat,Op.negFloat .f64 y=y ^^^ 9223372036854775808:=fun y=>rfl
 rw [e]
 rcases Decidable.em (a=0) with h0|h0
 ·subst h0
  rcases h with rfl| ⟨_,rfl⟩
  ·exact .inr ⟨rfl,by decide⟩
  ·exact .inl (by decide)
 ·have h':=h.eq h0
  subst h'
  left
  rw [Ke h0 ha,Ke (n:= -a) om om,Int.natAbs_neg]
  have hb:=MQ (m:=a.natAbs) om ha
  have hl:=K7 (m:=a.natAbs) om ha
  simp only [fw,Format.word]
  have hs:double.signWeight=2^63:=by decide
  rw [hs]
  generalize a.natAbs.log2=L at*
  generalize a.natAbs*2^(52 - L)=q at*
  have hr:(L+1022)*2^52+q<2^63:=om
  obtain ⟨r,hrr⟩: ∃r,(L+1022)*2^52+q=r:=⟨_,rfl⟩
  simp only [hrr] at hr ⊢
  have x1:r ^^^ 9223372036854775808=2^63+r:=by
   have h1:=Nat.two_pow_add_eq_or_of_lt hr 1
   rw [Nat.mul_one] at h1
   rw [h1,show (9223372036854775808:Nat)=2^63 by decide]
   refine Nat.eq_of_testBit_eq fun i=>?_
   rw [Nat.testBit_xor,Nat.testBit_or,Nat.testBit_two_pow]
   by_cases hi:63=i
   ·subst hi;simp [Nat.testBit_lt_two_pow hr]
   ·simp [hi]
  have x2:(2^63+r) ^^^ 9223372036854775808=r:=by
   rw [←x1,Nat.xor_assoc,Nat.xor_self,Nat.xor_zero]
  rcases Int.lt_or_le a 0 with hn|hn
  ·have h2: ¬(-a<0):=om
   simp only [hn,h2,decide_true,decide_false,if_true,Bool.false_eq_true,if_false]
   exact x2
  ·have h1: ¬(a<0):=om
   have h2: -a<0:=om
   simp only [h1,h2,decide_true,decide_false,if_true,Bool.false_eq_true,if_false]
   exact x1
theorem Zn{a:Aj}(ha:Gu a):H3 (rn a)=some (rn ⟨a.re,-a.im⟩,0):=by
 unfold H3
 have hn:Gu ⟨a.re,-a.im⟩:=by obtain ⟨⟨h1,h2⟩,h3,h4⟩:=ha;exact ⟨⟨h1,h2⟩,by simp only;omega,by simp only;omega⟩
 have:=O3 (Fz.re ha) (Te (Fz.im ha) ha.im) ha.re (by have:=ha.im;omega)
 simp only [J8 ha,Option.bind_some,Bool.not_true,cond_false,this,inn,if_pos hn]
end Fth
namespace Fth
open Go Ieee
theorem wu{x:Int}(h1:0≤x)(h2:x<18446744073709551616):IntKind.u64.wrap x=x:=by
 simp only [IntKind.wrap,IntKind.signed,IntKind.bits]
 simp
 omega
theorem O4{x:Nat}(h:x<2^64):(BitVec.ofInt 64 (x:Int)).toNat=x:=by
 rw [BitVec.toNat_ofInt];omega
theorem Zo{x y:Nat}(hx:x<2^64)(hy:y<2^64):Ej .u64 (x:Int) (y:Int)=((x&&& y:Nat):Int):=by
 have hb:(x&&& y)<2^64:=Nat.lt_of_le_of_lt Nat.and_le_left hx
 have e:(BitVec.ofInt IntKind.u64.bits (x:Int)&&& BitVec.ofInt IntKind.u64.bits (y:Int)).toNat=x&&& y:=by
  show (BitVec.ofInt 64 (x:Int)&&& BitVec.ofInt 64 (y:Int)).toNat=_
  rw [BitVec.toNat_and,O4 hx,O4 hy]
 rw [Ej,e,wu om om]
theorem Yc{x y:Nat}(hx:x<2^64)(hy:y<2^64):Ln .u64 (x:Int) (y:Int)=((x|||y:Nat):Int):=by
 have hb:(x|||y)<2^64:=Nat.or_lt_two_pow hx hy
 have e:(BitVec.ofInt IntKind.u64.bits (x:Int)|||BitVec.ofInt IntKind.u64.bits (y:Int)).toNat=x|||y:=by
  show (BitVec.ofInt 64 (x:Int)|||BitVec.ofInt 64 (y:Int)).toNat=_
  rw [BitVec.toNat_or,O4 hx,O4 hy]
 rw [Ln,e,wu om om]
theorem Pz{x y:Nat}(hx:x<2^64)(hy:y<2^64):Cm .u64 (x:Int) (y:Int)=((x&&& (2^64 - 1 - y):Nat):Int):=by
 have hb:(x&&& (2^64 - 1 - y))<2^64:=Nat.lt_of_le_of_lt Nat.and_le_left hx
 have e:(BitVec.ofInt IntKind.u64.bits (x:Int)&&& ~~~ BitVec.ofInt IntKind.u64.bits (y:Int)).toNat=x&&& (2^64 - 1 - y):=by
  show (BitVec.ofInt 64 (x:Int)&&& ~~~ BitVec.ofInt 64 (y:Int)).toNat=_
  rw [BitVec.toNat_and,BitVec.toNat_not,O4 hx,O4 hy]
 rw [Cm,e,wu om om]
theorem Zp{x n:Nat}(h:x<2^n):x&&& 2^n=0:=by
 refine Nat.eq_of_testBit_eq fun i=>?_
 rw [Nat.testBit_and,Nat.testBit_two_pow,Nat.zero_testBit]
 by_cases hi:n=i
 ·subst hi;simp [Nat.testBit_lt_two_pow h]
 ·simp [hi]
theorem XG{x:Nat}(h:x<2^63):H9 x=some x:=by
 unfold H9
 have:=Pz (x:=x) (y:=9223372036854775808) om om
 rw [show ((9223372036854775808:Nat):Int)=9223372036854775808 from rfl] at this
 rw [this]
 have e:(2^64 - 1 - 9223372036854775808:Nat)=2^63 - 1:=by decide
 rw [e,Nat.and_two_pow_sub_one_eq_mod,Nat.mod_eq_of_lt h];rfl
theorem Zq{r:Nat}(h:r<2^63):H9 (2^63+r)=some r:=by
 unfold H9
 have:=Pz (x:=2^63+r) (y:=9223372036854775808) om om
 rw [show ((9223372036854775808:Nat):Int)=9223372036854775808 from rfl] at this
 rw [this]
 have e:(2^64 - 1 - 9223372036854775808:Nat)=2^63 - 1:=by decide
 rw [e,Nat.and_two_pow_sub_one_eq_mod,Nat.add_mod_left,Nat.mod_eq_of_lt h];rfl
theorem XH{m:Nat}(h0:0<m)(h:m<2^53):fw false m<2^63∧fw false m / 2^52=m.log2+1023∧fw false m % 2^52=m*2^(52 - m.log2) - 2^52∧fw true m=2^63+fw false m:=by
 have hb:=MQ h0 h
 have hl:=K7 h0 h
 have hs:double.signWeight=2^63:=by decide
 simp only [fw,Format.word,hs,if_true,Bool.false_eq_true,if_false]
 generalize m*2^(52 - m.log2)=q at*
 refine ⟨?_,?_,?_,trivial⟩<;>omega
theorem Yd{x:Nat}{a:Int}(h:Fz x a)(ha:a.natAbs<2^53):H9 x=some (FloatKind.f64.nearest a.natAbs):=by
 rcases Decidable.em (a=0) with h0|h0
 ·subst h0
  rcases h with rfl| ⟨_,rfl⟩<;>decide
 ·rw [h.eq h0,Ke h0 ha,Ke (n:=(a.natAbs:Int)) om om]
  have hb:=XH (m:=a.natAbs) om ha
  have e:((a.natAbs:Int)).natAbs=a.natAbs:=rfl
  have e2:decide ((a.natAbs:Int)<0)=false:=by simp
  rw [e,e2]
  cases h1:decide (a<0)
  ·exact XG hb.1
  ·rw [hb.2.2.2];exact Zq hb.1
theorem Xm{x:Nat}{a:Int}(h:Fz x a)(ha:a.natAbs<2^53):fgt x 9218868437227405311=false:=by
 obtain ⟨s,k,hk,hs⟩:=h.read ha
 have hm:double.read 9218868437227405311= .number false 9007199254740991 971:=by decide
 have:FloatKind.f64.format.order x 9218868437227405311=some (compare (signed s (a.natAbs*2^k) 0) (signed false 9007199254740991 (971+k))):=by
  show (double.read x).order (double.read 9218868437227405311)=_
  rw [hk,hm]
  simp only [Datum.order]
  have e1:min (-(k:Int)) 971= -(k:Int):=om
  rw [e1]
  have e2:(-(k:Int) - -(k:Int)).toNat=0:=om
  have e3:((971:Int) - -(k:Int)).toNat=971+k:=om
  rw [e2,e3]
 rw [fgt,this,MU hs]
 have h1:signed false 9007199254740991 (971+k)=9007199254740991*(2^971*2^k):=by
  simp only [signed,Bool.false_eq_true,if_false,Nat.shiftLeft_eq]
  rw [Int.natCast_mul,Int.natCast_pow,Int.pow_add];rfl
 rw [h1]
 have h2:a*2^(k+0)<9007199254740991*(2^971*2^k):=by
  rw [Nat.add_zero,←Int.mul_assoc]
  have hp:(0:Int)<2^k:=Int.pow_pos (by decide)
  refine Int.mul_lt_mul_of_pos_right ?_ hp
  have hp2:(4:Int)≤2^971:=by
   have:(2:Int)^2≤2^971:=by exact_mod_cast Nat.pow_le_pow_right (by decide:0<2) (by omega:2≤971)
   simpa using this
  generalize (2:Int)^971=q at*
  omega
 have h3:=Tc.2 h2
 rw [h3];rfl
theorem Wv{x:Nat}{a:Int}(h:Fz x a)(ha:a.natAbs<2^53):HG x 0=some false:=by
 unfold HG KC
 simp only [Yd h ha,Option.bind_some]
 rw [Xm (a:=(a.natAbs:Int)) .of om];rfl
theorem VM{x:Nat}{a:Int}(h:Fz x a)(ha:a.natAbs<2^53):Gc x=some false:=by
 unfold Gc
 rw [h.fne h ha ha];simp
theorem Ye{m:Nat}(h0:0<m)(h:m<2^53):flt_ (fw false m) 4503599627370496=false:=by
 have hl:=K7 h0 h
 have hb:=MQ h0 h
 have hm:double.read 4503599627370496= .number false 4503599627370496 (-1074):=by decide
 have:FloatKind.f64.format.order (fw false m) 4503599627370496=some (compare (signed false (m*2^(52 - m.log2)) (1074 - (52 - m.log2))) (signed false 4503599627370496 0)):=by
  show (double.read (fw false m)).order (double.read 4503599627370496)=_
  rw [XB h0 h,hm]
  simp only [Datum.order]
  have e1:min (-((52 - m.log2:Nat):Int)) (-1074)= -1074:=om
  rw [e1]
  have e2:(-((52 - m.log2:Nat):Int) - -1074).toNat=1074 - (52 - m.log2):=om
  have e3:((-1074:Int) - -1074).toNat=0:=om
  rw [e2,e3]
 rw [flt_,this]
 simp only [signed,Bool.false_eq_true,if_false,Nat.shiftLeft_eq,Nat.pow_zero,Nat.mul_one]
 generalize m*2^(52 - m.log2)=q at*
 have hp:1≤2^(1074 - (52 - m.log2)):=Nat.pow_pos (by decide)
 generalize 2^(1074 - (52 - m.log2))=p at*
 have:q*1≤q*p:=Nat.mul_le_mul_left _ hp
 cases hc:compare ((q*p:Nat):Int) ((4503599627370496:Nat):Int)
 ·have:=Tc.1 hc;omega
 ·rfl
 ·rfl
theorem QO{m:Nat}(h0:0<m)(h:m<2^53):EO (fw false m)=some (fw false m,0):=by
 unfold EO
 rw [XG (XH h0 h).1,Option.bind_some,Ye h0 h,cond_false]
theorem M6{m:Nat}(h0:0<m)(h:m<2^53):FloatKind.f64.nearest (m:Int)=fw false m:=by
 have e:decide ((m:Int)<0)=false:=decide_eq_false om
 have:=Ke (n:=(m:Int)) om om
 rw [e] at this
 exact this
theorem QP{m:Nat}(h0:0<m)(h:m<2^53):Fz (fw false m) m:= .inl (M6 h0 h).symm
theorem AAK{f e:Nat}(hf:f<2^52):f|||e*2^52=e*2^52+f:=by
 have h:=Nat.two_pow_add_eq_or_of_lt hf e
 rw [Nat.mul_comm e,h,Nat.or_comm]
theorem XI{x:Nat}(h:x<2^63):Cm .u64 ((x:Nat):Int) 9218868437227405312=((x % 2^52:Nat):Int):=by
 have:=Pz (x:=x) (y:=9218868437227405312) om om
 rw [show ((9218868437227405312:Nat):Int)=9218868437227405312 from rfl] at this
 rw [this]
 have e:(2^64 - 1 - 9218868437227405312:Nat)=2^63||| (2^52 - 1):=by decide
 rw [e,Nat.and_or_distrib_left,Zp h,Nat.zero_or,Nat.and_two_pow_sub_one_eq_mod]
theorem AAL(x:Nat):shr .u64 ((x:Nat):Int) 52=((x / 2^52:Nat):Int):=by
 have e:min (52:Int).toNat IntKind.u64.bits=52:=by decide
 rw [shr,e,Int.fdiv_eq_ediv_of_nonneg _ (by decide)];rfl
theorem ABl{x:Nat}(h:x<2^63):Ej .u64 (shr .u64 ((x:Nat):Int) 52) 2047=((x / 2^52:Nat):Int):=by
 rw [AAL]
 have:=Zo (x:=x / 2^52) (y:=2047) om om
 rw [show ((2047:Nat):Int)=2047 from rfl] at this
 rw [this]
 have e:(2047:Nat)=2^11 - 1:=by decide
 rw [e,Nat.and_two_pow_sub_one_eq_mod,Nat.mod_eq_of_lt om]
theorem AA3{m:Nat}(h0:0<m)(h:m<2^53):feq (fw false m) 0=false:=by
 rw [(QP h0 h).feq fz0 om (by decide)];simp;omega
theorem V5{m:Nat}(h0:0<m)(h:m<2^53):H4 (fw false m)=some (1021*2^52+m*2^(52 - m.log2),(m.log2:Int)+1):=by
 have hl:=K7 h0 h
 have hb:=MQ h0 h
 have hf:=XH h0 h
 have hz:=QP h0 h
 unfold H4 JE Kp
 rw [AA3 h0 h,Wv hz om,VM hz om,QO h0 h]
 have nn52:nn 52=some ():=rfl
 simp only [cond_false,Option.bind_some,nn52,XI hf.1,ABl hf.1,hf.2.1]
 have hr:=Yc (x:=fw false m % 2^52) (y:=4602678819172646912) om om
 rw [show ((4602678819172646912:Nat):Int)=4602678819172646912 from rfl] at hr
 rw [hr,show (4602678819172646912:Nat)=1022*2^52 by decide,AAK om,hf.2.2.1]
 generalize m*2^(52 - m.log2)=q at*
 refine congrArg some (Prod.ext ?_ ?_)
 ·simp only [Int.toNat_natCast];omega
 ·dsimp only
  rw [wr (x:=((m.log2+1023:Nat):Int)) om om,wr (x:=((m.log2+1023:Nat):Int) - 1023) om om,wr (x:=((m.log2+1023:Nat):Int) - 1023+1) om om,wr om om];omega
theorem Zr{x:Nat}(h:x<2^11):Ej .i64 (x:Int) 2047=(x:Int):=by
 have e:(BitVec.ofInt IntKind.i64.bits (x:Int)&&& BitVec.ofInt IntKind.i64.bits (2047:Int)).toNat=x:=by
  show (BitVec.ofInt 64 (x:Int)&&& BitVec.ofInt 64 ((2047:Nat):Int)).toNat=_
  rw [BitVec.toNat_and,O4 om,O4 om,show (2047:Nat)=2^11 - 1 by decide,Nat.and_two_pow_sub_one_eq_mod,Nat.mod_eq_of_lt h]
 rw [Ej,e,wr om om]
theorem ABX{x:Nat}(h:x<2^11):shl .u64 (x:Int) 52=((x*2^52:Nat):Int):=by
 have e:min (52:Int).toNat IntKind.u64.bits=52:=by decide
 rw [shl,e,wu om om];omega
theorem Ww{m k:Nat}(h0:0<m)(hb:2^52≤m*2^(52 - m.log2))(hl2:m.log2+k≤52):(m.log2+k+1023)*2^52+(m*2^(52 - m.log2) - 2^52)=fw false (m*2^k):=by
 have e7:m*2^k*2^(52 - (m.log2+k))=m*2^(52 - m.log2):=by
  rw [Nat.mul_assoc,←Nat.pow_add];congr 2;omega
 simp only [fw,Format.word,Mk h0,e7,Bool.false_eq_true,if_false]
 generalize m*2^(52 - m.log2)=q at*
 omega
theorem Yf{m k:Nat}(h0:0<m)(h:m*2^k<2^53):If (fw false m) (k:Int)=some (fw false (m*2^k)):=by
 have hm:m<2^53:=Nat.lt_of_le_of_lt (Nat.le_mul_of_pos_right m (Nat.pow_pos (by decide))) h
 have h1:0<m*2^k:=Nat.mul_pos h0 (Nat.pow_pos (by decide))
 have hl:=K7 h0 hm
 have hl2:=K7 h1 h
 rw [Mk h0] at hl2
 have e3:IntKind.i64.wrap (IntKind.i64.wrap ((k:Int)+0)+IntKind.i64.wrap (((m.log2+1023:Nat):Int) - 1023))=(m.log2+k:Nat):=by
  rw [wr (x:=(k:Int)+0) om om,wr (x:=((m.log2+1023:Nat):Int) - 1023) om om,wr om om];omega
 have hL:m.log2+1023<2^11:=om
 have hL2:m.log2+k+1023<2^11:=om
 have e6a:0≤((m.log2+k+1023:Nat):Int):=om
 have e6b:((m.log2+k+1023:Nat):Int)<18446744073709551616:=om
 have e7:fw false m % 2^52<2^64:=Nat.lt_trans (Nat.mod_lt _ (Nat.pow_pos (by decide))) (by decide)
 have e8:(m.log2+k+1023)*2^52<2^64:=Nat.lt_of_lt_of_le (Nat.mul_lt_mul_of_pos_right hL2 (Nat.pow_pos (by decide))) (by decide)
 have d1:decide (((m.log2+k:Nat):Int)< -1075)=false:=by simp;omega
 have d2:decide (((m.log2+k:Nat):Int)>1023)=false:=by simp;omega
 have d3:decide (((m.log2+k:Nat):Int)< -1022)=false:=by simp;omega
 have e4:IntKind.i64.wrap (((m.log2+k:Nat):Int)+1023)=((m.log2+k+1023:Nat):Int):=by rw [wr om om];omega
 have hb:=MQ h0 hm
 have hf:=XH h0 hm
 have hz:=QP h0 hm
 have nn52:nn 52=some ():=rfl
 unfold If JF
 rw [AA3 h0 hm,cond_false,Wv hz om,Option.bind_some,cond_false,VM hz om,Option.bind_some]
 unfold Ks
 rw [cond_false,QO h0 hm,Option.bind_some,nn52,Option.bind_some]
 have e1:IntKind.i64.wrap (shr .u64 ((fw false m:Nat):Int) 52)=((fw false m / 2^52:Nat):Int):=by
  rw [AAL,hf.2.1,wr om om]
 have e2:Ej .i64 ((fw false m / 2^52:Nat):Int) 2047=((m.log2+1023:Nat):Int):=by rw [hf.2.1];exact Zr hL
 dsimp only
 rw [e1,e2,e3]
 rw [d1,cond_false,d2,cond_false,d3,cond_false]
 unfold Kr
 rw [nn52,Option.bind_some]
 dsimp only
 have e5:=ABX hL2
 rw [e4,wu e6a e6b,e5,XI hf.1,Yc e7 e8,AAK (Nat.mod_lt _ (Nat.pow_pos (by decide))),hf.2.2.1,Int.toNat_natCast]
 have e6:=Ww h0 hb.1 hl2
 rw [e6]
 have one:Fz 4607182418800017408 1:= .inl (by decide)
 obtain ⟨z,hz1,hz2⟩:=one.mul (QP h1 h) (by decide) om om
 rw [Int.one_mul] at hz2
 rw [hz1,hz2.eq om,M6 h1 h];rfl
theorem Zs{p q:Nat}(hp:2^52≤p)(hp':p<2^53)(hq:2^52≤q)(hq':q<2^53):flt_ (1021*2^52+p) (1021*2^52+q)=decide (p<q):=by
 have rd: ∀p,2^52≤p→p<2^53→double.read (1021*2^52+p)= .number false p (-53):=by
  intro p h1 h2
  have e0:double.signWeight=2^63:=by decide
  have e4:double.binade=2^52:=rfl
  have e5:double.infRung=2047*2^52:=by decide
  have e6:double.leastPlace= -1074:=by decide
  have hr:(1021*2^52+p) % 2^63=1021*2^52+p:=om
  have hn:((1021*2^52+p) / 2^63 % 2==1)=false:=by simp;omega
  simp only [Format.read,e0,hr,hn,e4,e5,e6]
  rw [if_neg om,if_pos om]
  congr 1
  ·omega
  ·omega
 have:FloatKind.f64.format.order (1021*2^52+p) (1021*2^52+q)=some (compare (p:Int) (q:Int)):=by
  show (double.read _).order (double.read _)=_
  rw [rd p hp hp',rd q hq hq']
  simp [Datum.order,signed]
 rw [flt_,this,Bool.eq_iff_iff]
 simp [Tc]
theorem Yg{n r j:Nat}{R:Nat→Option Nat}{B:Nat→Nat}(h0:0<n)(hj:n*2^j≤r)(hr:r<2^53){e1:Nat×Int}
  (ih: ∀w,Fz w ((r - n*2^j:Nat):Int)→∃z,R w=some (B z)∧Fz z (((r - n*2^j) % n:Nat):Int)) (hj53:j<53) (he:e1.2=(n.log2:Int)+1) (_hn:n.log2≤52):
  ∃z,KR (fw false n) e1 (fw false r) R ((n.log2:Int)+1+j)=some (B z)∧Fz z ((r % n:Nat):Int):=by
 have hpj:0<n*2^j:=Nat.mul_pos h0 (Nat.pow_pos (by decide))
 have hnj:n*2^j<2^53:=Nat.lt_of_le_of_lt hj hr
 have hr0:0<r:=Nat.lt_of_lt_of_le hpj hj
 have e:IntKind.i64.wrap ((n.log2:Int)+1+j - e1.2)=(j:Int):=by rw [he,wr om om];omega
 have e2:((r:Int) - ((n*2^j:Nat):Int))=((r - n*2^j:Nat):Int):=om
 have k1:(r:Int).natAbs<2^53:=hr
 have k2:((n*2^j:Nat):Int).natAbs<2^53:=hnj
 have k3:((r:Int) - ((n*2^j:Nat):Int)).natAbs<2^53:=by rw [e2];exact Nat.lt_of_le_of_lt (Nat.sub_le _ _) hr
 have hm:(r - n*2^j) % n=r % n:=by
  conv=>rhs;rw [←Nat.sub_add_cancel hj]
  rw [Nat.add_mul_mod_self_left]
 unfold KR
 rw [e,Yf h0 hnj,Option.bind_some]
 obtain ⟨z,hz1,hz2⟩:=(QP hr0 hr).sub (QP hpj hnj) k1 k2 k3
 rw [hz1,Option.bind_some]
 rw [e2] at hz2
 obtain ⟨z',h1,h2⟩:=ih z hz2
 rw [hm] at h2
 exact ⟨z',h1,h2⟩
theorem Wx{n r:Nat}(hn:n.log2≤52)(hr:r.log2≤52)(hle:n.log2≤r.log2)(hq:n*2^(52 - n.log2)≤r*2^(52 - r.log2)):n*2^(r.log2 - n.log2)≤r:=by
 have h1:n*2^(r.log2 - n.log2)*2^(52 - r.log2)=n*2^(52 - n.log2):=by
  rw [Nat.mul_assoc,←Nat.pow_add];congr 2;omega
 have h2:n*2^(r.log2 - n.log2)*2^(52 - r.log2)≤r*2^(52 - r.log2):=by rw [h1];exact hq
 exact Nat.le_of_mul_le_mul_right h2 (Nat.pow_pos (by decide))
theorem Wy{n r:Nat}(hr0:0<r)(hlt:n.log2<r.log2):n*2^(r.log2 - n.log2 - 1)≤r:=by
 have h1:n*2^(r.log2 - n.log2 - 1)<2^(n.log2+1)*2^(r.log2 - n.log2 - 1):=Nat.mul_lt_mul_of_pos_right Nat.lt_log2_self (Nat.pow_pos (by decide))
 rw [←Nat.pow_add,show n.log2+1+(r.log2 - n.log2 - 1)=r.log2 by omega] at h1
 exact Nat.le_trans (Nat.le_of_lt h1) (Nat.log2_self_le om)
theorem Xn{n r:Nat}(h0:0<n)(h:n≤r):n.log2≤r.log2:=by
 have h1:=Nat.log2_self_le (n:=n) om
 have h2:=Nat.lt_log2_self (n:=r)
 have h3:2^n.log2<2^(r.log2+1):=om
 have:=(Nat.pow_lt_pow_iff_right (by decide:1<2)).1 h3
 omega
theorem V6{x n:Nat}(h0:0<n)(hlt:n<2^53): ∀(k w r:Nat),Fz w (r:Int)→r<2^53→r<k→
  ∃z,Jr x (fw false n) (1021*2^52+n*2^(52 - n.log2),(n.log2:Int)+1) k w=some (bif flt_ x 0 then Op.negFloat .f64 z else z)∧Fz z ((r % n:Nat):Int):=by
 intro k
 have bn:=MQ h0 hlt
 have ln:=K7 h0 hlt
 have lnI:(n:Int).natAbs<2^53:=hlt
 obtain ⟨c,hc0⟩: ∃c:Nat×Int,c=(1021*2^52+n*2^(52 - n.log2),(n.log2:Int)+1):=⟨_,rfl⟩
 rw [←hc0]
 have c1:c.1=1021*2^52+n*2^(52 - n.log2):=by rw [hc0]
 have c2:c.2=(n.log2:Int)+1:=by rw [hc0]
 clear hc0
 induction k with
 |zero=>intro w r _ _ h;exact absurd h (Nat.not_lt_zero _)
 |succ k ih=>
  intro w r hw hr hk
  have lrI:(r:Int).natAbs<2^53:=hr
  show∃z,LR x (fw false n) c (Jr x (fw false n) c k) w=some _∧_
  unfold LR
  rw [hw.fge (QP h0 hlt) lrI lnI]
  cases hc:decide ((n:Int)≤(r:Int))
  ·have hc:=Do hc
   refine ⟨w,?_,by rw [Nat.mod_eq_of_lt om];exact hw⟩
   rw [cond_false]
   cases flt_ x 0<;>rfl
  ·have hc:n≤r:=by have:=CO hc;omega
   have hr0:0<r:=Nat.lt_of_lt_of_le h0 hc
   have hwr:w=fw false r:=by rw [hw.eq om,M6 hr0 hr]
   subst hwr
   have br:=MQ hr0 hr
   have lr:=K7 hr0 hr
   have hLe:=Xn h0 hc
   rw [cond_true,V5 hr0 hr,Option.bind_some]
   dsimp only
   rw [c1,Zs br.1 br.2 bn.1 bn.2]
   have step: ∀j:Nat,n*2^j≤r→j<53→∃z,KR (fw false n) c (fw false r) (Jr x (fw false n) c k) ((n.log2:Int)+1+j)=some (bif flt_ x 0 then Op.negFloat .f64 z else z)∧Fz z ((r % n:Nat):Int):=by
    intro j hj hj53
    have hpj:0<n*2^j:=Nat.mul_pos h0 (Nat.pow_pos (by decide))
    exact Yg h0 hj hr (fun w hw=>ih w _ hw (Nat.lt_of_le_of_lt (Nat.sub_le _ _) hr) om) hj53 c2 ln
   cases hq:decide (r*2^(52 - r.log2)<n*2^(52 - n.log2))
   ·have hq:=Do hq
    obtain ⟨z,h1,h2⟩:=step _ (Wx ln lr hLe (Nat.le_of_not_lt hq)) om
    refine ⟨z,?_,h2⟩
    have e:(r.log2:Int)+1=(n.log2:Int)+1+((r.log2 - n.log2:Nat):Int):=om
    rw [cond_false,e]
    exact h1
   ·have hq:=CO hq
    have hLt:n.log2<r.log2:=by
     rcases Nat.lt_or_ge n.log2 r.log2 with h|h
     ·exact h
     ·have e:n.log2=r.log2:=Nat.le_antisymm hLe h
      rw [e] at hq
      exact absurd (Nat.lt_of_mul_lt_mul_right hq) (Nat.not_lt.2 hc)
    obtain ⟨z,h1,h2⟩:=step _ (Wy hr0 hLt) om
    refine ⟨z,?_,h2⟩
    have e:IntKind.i64.wrap ((r.log2:Int)+1 - 1)=(n.log2:Int)+1+((r.log2 - n.log2 - 1:Nat):Int):=by rw [wr om om];omega
    rw [cond_true,e]
    exact h1
theorem Yh{N x y:Nat}{a n:Int}(hN:2^54≤N)(hx:Fz x a)(hy:Fz y n)(ha:a.natAbs<2^53)(hn0:0<n)(hn:n<2^53): ∃z,J2 N x y=some z∧Fz z (a.tmod n):=by
 obtain ⟨n,rfl⟩: ∃m:Nat,n=m:=⟨n.toNat,om⟩
 have h0:0<n:=om
 have hlt:n<2^53:=om
 have lnI:(n:Int).natAbs<2^53:=hlt
 have h254: ∀q:Nat,q<2^53→q<N:=fun q h=>om
 clear hN hn hn0
 have ey:=M6 h0 hlt
 have hyy:y=fw false n:=by rw [hy.eq om,ey]
 subst hyy
 have eabs:=Yd (QP h0 hlt) lnI
 rw [show ((n:Int).natAbs:Int)=(n:Int) from rfl,ey] at eabs
 have nz0:(0:Int).natAbs<2^53:=by decide
 unfold J2 Kt
 rw [AA3 h0 hlt,cond_false,Wv hx ha,Option.bind_some,cond_false,VM hx ha,Option.bind_some,cond_false,VM (QP h0 hlt) lnI,Option.bind_some]
 unfold KS
 rw [cond_false,eabs,Option.bind_some,V5 h0 hlt,Option.bind_some,hx.flt fz0 ha nz0]
 cases hs:decide (a<0)
 ·have hs':=Do hs
  have ea:((a.toNat:Nat):Int)=a:=om
  have hxa:Fz x ((a.toNat:Nat):Int):=by rw [ea];exact hx
  have la:a.toNat<2^53:=om
  obtain ⟨z,h1,h2⟩:=V6 (x:=x) h0 hlt N x a.toNat hxa la (h254 _ la)
  rw [hx.flt fz0 ha nz0,hs] at h1
  refine ⟨z,?_,?_⟩
  ·rw [cond_false]
   unfold LH
   rw [h1];rfl
  ·have e:((a.toNat % n:Nat):Int)=a.tmod n:=by rw [Int.tmod_eq_emod_of_nonneg om,Int.natCast_emod,ea]
   rw [e] at h2;exact h2
 ·have hs':=CO hs
  have ea:((a.natAbs:Nat):Int)= -a:=om
  have hxa:Fz (Op.negFloat .f64 x) ((a.natAbs:Nat):Int):=by rw [ea];exact Te hx ha
  obtain ⟨z,h1,h2⟩:=V6 (x:=x) h0 hlt N (Op.negFloat .f64 x) a.natAbs hxa ha (h254 _ ha)
  rw [hx.flt fz0 ha nz0,hs] at h1
  have hm:(((a.natAbs % n:Nat):Int)).natAbs<2^53:=Nat.lt_of_le_of_lt (Nat.mod_le _ _) ha
  refine ⟨Op.negFloat .f64 z,?_,?_⟩
  ·rw [cond_true]
   unfold LH
   rw [h1];rfl
  ·have h3:=Te h2 hm
   have e: -((a.natAbs % n:Nat):Int)=a.tmod n:=by
    rw [show a= -(a.natAbs:Int) by omega,Int.neg_tmod,Int.tmod_eq_emod_of_nonneg om,Int.natCast_emod,Int.natAbs_neg]
    rfl
   rw [e] at h3;exact h3
theorem Yi{x y:Nat}{a n c:Int}(hx:Fz x a)(hy:Fz y n)(ha:a.natAbs<2^53)(hn0:0<n)(hn:n<2^53)(hc:a=c*n): ∃z,FloatKind.f64.format.div x y=some z∧Fz z c:=by
 obtain ⟨s,k,hk,hs⟩:=hx.read ha
 obtain ⟨t,j,hj,ht⟩:=hy.read (show n.natAbs<2^53 by omega)
 have ht':t=false:=by rw [ht om];simp;omega
 subst ht'
 have hcl:c.natAbs<2^53:=by
  have h1:a.natAbs=c.natAbs*n.natAbs:=by rw [hc,Int.natAbs_mul]
  have h2:c.natAbs*1≤c.natAbs*n.natAbs:=Nat.mul_le_mul_left _ om
  omega
 have main: ∃e,(double.read x).quotient (double.fractionBits+2) (double.read y)=some e∧Wd e c:=by
  rw [hk,hj]
  simp only [Datum.quotient]
  have hp:0<n.natAbs*2^j:=Nat.mul_pos om (Nat.pow_pos (by decide))
  rw [if_neg om]
  have hlog:j≤k+(double.fractionBits+2+(n.natAbs*2^j).log2 - (a.natAbs*2^k).log2):=by
   have e1:double.fractionBits+2=54:=rfl
   rw [e1,Mk om]
   rcases Nat.eq_zero_or_pos a.natAbs with h|h
   ·rw [h];simp;omega
   ·have:=K7 h ha
    rw [Mk h];omega
  generalize double.fractionBits+2+(n.natAbs*2^j).log2 - (a.natAbs*2^k).log2=more at*
  have e2:(a.natAbs*2^k) <<< more=c.natAbs*2^(k+more - j)*(n.natAbs*2^j):=by
   rw [Nat.shiftLeft_eq,hc,Int.natAbs_mul]
   have:2^k*2^more=2^(k+more - j)*2^j:=by rw [←Nat.pow_add,←Nat.pow_add];congr 1;omega
   calc c.natAbs*n.natAbs*2^k*2^more=c.natAbs*n.natAbs*(2^k*2^more):=by rw [Nat.mul_assoc]
    _=c.natAbs*n.natAbs*(2^(k+more - j)*2^j):=by rw [this]
    _=c.natAbs*2^(k+more - j)*(n.natAbs*2^j):=by simp only [Nat.mul_assoc,Nat.mul_left_comm]
  rw [e2,Nat.mul_div_cancel _ hp,Nat.mul_mod_left]
  refine ⟨_,rfl,s,k+more - j+1,?_,fun h=>?_⟩
  ·simp only [bne_self_eq_false,Bool.toNat_false,Nat.add_zero,Bool.bne_false]
   congr 1
   ·rw [Nat.pow_succ];simp only [Nat.mul_comm,Nat.mul_left_comm]
   ·omega
  ·rw [hs (by rw [hc];exact Int.mul_ne_zero h om),hc]
   have:c*n<0↔c<0:=by
    constructor
    ·intro h1
     rcases Int.lt_or_le c 0 with h2|h2
     ·exact h2
     ·have:=Int.mul_nonneg h2 (Int.le_of_lt hn0);omega
    ·intro h1;exact Int.mul_neg_of_neg_of_pos h1 hn0
   simp [this]
 obtain ⟨e,he,hw⟩:=main
 refine ⟨double.write e,?_,Fz.write hw hcl⟩
 show ((double.read x).quotient (double.fractionBits+2) (double.read y)).map double.write=_
 rw [he];rfl
theorem XJ(a b:Int):(a.tmod b).natAbs≤a.natAbs:=by rw [Int.natAbs_tmod];exact Nat.mod_le _ _
theorem SF(a b:Int):(a.tdiv b).natAbs≤a.natAbs:=by rw [Int.natAbs_tdiv];exact Nat.div_le_self _ _
def quo(a b:Aj):Aj×Int:=
 let n:=b.re*b.re+b.im*b.im
 let x:=a.re*b.re+a.im*b.im
 let y:=a.im*b.re - a.re*b.im
 if n=0∨x.tmod n≠0∨y.tmod n≠0 then (⟨0,0⟩,51) else inn ⟨x.tdiv n,y.tdiv n⟩
section
variable{a b:Aj}(ha:Gu a)(hb:Gu b)
include ha hb
theorem AA4(h: ¬(b.re=0∧b.im=0)):0<b.re*b.re+b.im*b.im:=by
 have h1:0≤b.re*b.re:=by
  rcases Int.le_total 0 b.re with h|h
  ·exact Int.mul_nonneg h h
  ·exact Int.mul_nonneg_of_nonpos_of_nonpos h h
 have h2:0≤b.im*b.im:=by
  rcases Int.le_total 0 b.im with h|h
  ·exact Int.mul_nonneg h h
  ·exact Int.mul_nonneg_of_nonpos_of_nonpos h h
 rcases Decidable.em (b.re*b.re=0) with h3|h3
 ·rcases Decidable.em (b.im*b.im=0) with h4|h4
  ·refine absurd ⟨?_,?_⟩ h
   ·rcases Int.mul_eq_zero.1 h3 with h|h<;>exact h
   ·rcases Int.mul_eq_zero.1 h4 with h|h<;>exact h
  ·omega
 ·omega
theorem AA5{N:Nat}(hN:2^54≤N):Jf N (rn a) (rn b)=some (rn (quo a b).1,(quo a b).2):=by
 unfold Jf LU
 simp only [J8 ha,J8 hb,Option.bind_some,Bool.not_true,cond_false]
 have hz:ceq (rn b) (0,0)=(decide (b.re=0)&&decide (b.im=0)):=by
  rw [ceq,(Fz.re hb).feq fz0 hb.re (by decide),(Fz.im hb).feq fz0 hb.im (by decide)]
 rw [hz]
 cases h0:(decide (b.re=0)&&decide (b.im=0))
 ·simp only [cond_false]
  have hne: ¬(b.re=0∧b.im=0):=by
   intro h;rw [h.1,h.2] at h0;simp at h0
  have hn:=AA4 ha hb hne
  have hni:=Te (Fz.im hb) hb.im
  have hia:(-b.im).natAbs≤16777216:=by have:=hb.imA;omega
  obtain ⟨p1,p2,hp,q1,q2,l1,l2⟩:=VL (Fz.re ha) (Fz.im ha) (Fz.re hb) hni ha.reA ha.imA hb.reA hia
  obtain ⟨n1,n2,hm,q3,_,l3,_⟩:=VL (Fz.re hb) (Fz.im hb) (Fz.re hb) hni hb.reA hb.imA hb.reA hia
  have e1:a.re*b.re - a.im* -b.im=a.re*b.re+a.im*b.im:=by rw [Int.mul_neg];omega
  have e2:a.re* -b.im+a.im*b.re=a.im*b.re - a.re*b.im:=by rw [Int.mul_neg];omega
  have e3:b.re*b.re - b.im* -b.im=b.re*b.re+b.im*b.im:=by rw [Int.mul_neg];omega
  rw [e1] at q1 l1;rw [e2] at q2 l2;rw [e3] at q3 l3
  have ep:cmul (rn a) ((rn b).1,Op.negFloat .f64 (rn b).2)=some (p1,p2):=hp
  have em:cmul (rn b) ((rn b).1,Op.negFloat .f64 (rn b).2)=some (n1,n2):=hm
  obtain ⟨z1,hz1,w1⟩:=Yh hN q1 q3 om hn om
  obtain ⟨z2,hz2,w2⟩:=Yh hN q2 q3 om hn om
  have b1:=XJ (a.re*b.re+a.im*b.im) (b.re*b.re+b.im*b.im)
  have b2:=XJ (a.im*b.re - a.re*b.im) (b.re*b.re+b.im*b.im)
  simp only [ep,em,Option.bind_some,hz1,hz2]
  rw [w1.fne fz0 om (by decide),w2.fne fz0 om (by decide)]
  unfold LT quo
  simp only
  cases h1:decide ((a.re*b.re+a.im*b.im).tmod (b.re*b.re+b.im*b.im)=0)
  ·have h1:=Do h1
   rw [if_pos (.inr (.inl h1))]
   rfl
  ·have h1:=CO h1
   simp only [Bool.not_true,cond_false]
   cases h2:decide ((a.im*b.re - a.re*b.im).tmod (b.re*b.re+b.im*b.im)=0)
   ·have h2:=Do h2
    rw [if_pos (.inr (.inr h2))]
    rfl
   ·have h2:=CO h2
    rw [if_neg (by rintro (h|h|h)<;>omega)]
    simp only [Bool.not_true,cond_false]
    have c1:a.re*b.re+a.im*b.im=(a.re*b.re+a.im*b.im).tdiv (b.re*b.re+b.im*b.im)*(b.re*b.re+b.im*b.im):=by
     have:=Int.tmod_add_tdiv_mul (a.re*b.re+a.im*b.im) (b.re*b.re+b.im*b.im);omega
    have c2:a.im*b.re - a.re*b.im=(a.im*b.re - a.re*b.im).tdiv (b.re*b.re+b.im*b.im)*(b.re*b.re+b.im*b.im):=by
     have:=Int.tmod_add_tdiv_mul (a.im*b.re - a.re*b.im) (b.re*b.re+b.im*b.im);omega
    obtain ⟨d1,hd1,v1⟩:=Yi q1 q3 om hn om c1
    obtain ⟨d2,hd2,v2⟩:=Yi q2 q3 om hn om c2
    have k1:=SF (a.re*b.re+a.im*b.im) (b.re*b.re+b.im*b.im)
    have k2:=SF (a.im*b.re - a.re*b.im) (b.re*b.re+b.im*b.im)
    simp only [hd1,hd2,Option.bind_some,O3 v1 v2 om om]
 ·simp only [Bool.and_eq_true,decide_eq_true_eq] at h0
  unfold quo
  simp only
  rw [if_pos (.inl (by rw [h0.1,h0.2];rfl))]
  rfl
theorem Zt:PE a b=some (quo a b):=by
 have m1:=Lj hb.reA hb.reA
 have m2:=Lj hb.imA hb.imA
 have m3:=Lj ha.reA hb.reA
 have m4:=Lj ha.imA hb.imA
 have m5:=Lj ha.imA hb.reA
 have m6:=Lj ha.reA hb.imA
 unfold PE MN
 rw [wr (x:=b.re*b.re) om om,wr (x:=b.im*b.im) om om,wr (x:=a.re*b.re) om om,wr (x:=a.im*b.im) om om,wr (x:=a.im*b.re) om om,wr (x:=a.re*b.im) om om,
  wr (x:=b.re*b.re+b.im*b.im) om om,wr (x:=a.re*b.re+a.im*b.im) om om,wr (x:=a.im*b.re - a.re*b.im) om om]
 have k1:=SF (a.re*b.re+a.im*b.im) (b.re*b.re+b.im*b.im)
 have k2:=SF (a.im*b.re - a.re*b.im) (b.re*b.re+b.im*b.im)
 rw [wr (x:=(a.re*b.re+a.im*b.im).tdiv (b.re*b.re+b.im*b.im)) om om,wr (x:=(a.im*b.re - a.re*b.im).tdiv (b.re*b.re+b.im*b.im)) om om]
 unfold quo
 simp only
 cases h0:(b.re*b.re+b.im*b.im==0)
 ·have h0:=Bn h0
  have hnz:nz (b.re*b.re+b.im*b.im)=some ():=by rw [nz,if_neg h0]
  simp only [cond_false,hnz,Option.bind_some]
  cases h1:((a.re*b.re+a.im*b.im).tmod (b.re*b.re+b.im*b.im) != 0)
  ·have h1:=Jp h1
   simp only [cond_false]
   cases h2:((a.im*b.re - a.re*b.im).tmod (b.re*b.re+b.im*b.im) != 0)
   ·have h2:=Jp h2
    rw [if_neg (by rintro (h|h|h)<;>contradiction),XF]
    rfl
   ·have h2:=Li h2
    rw [if_pos (.inr (.inr h2))];rfl
  ·have h1:=Li h1
   rw [if_pos (.inr (.inl h1))];rfl
 ·have h0:=B9 h0
  rw [if_pos (.inl h0)];rfl
end
end Fth
namespace Fth
open Go
def VV(t:Int)(v:AH):Prop:=
 (t=1∧v.type_=1∧Gn v.num∧v.bool=false∧v.list=[])∨(t=2∧v.type_=2∧v.num=(0,0)∧v.list=[])∨
 (t=3∧v.type_=3∧v.num=(0,0)∧v.bool=false∧∀z∈v.list,Gn z)
def GV(v:AH):Prop:=Gn v.num∧(∀z∈v.list,Gn z)∧v.list.length≤1000000000000
def chk(v:AH):Bool:=
 bif v.type_==1 then !v.bool&&v.list.isEmpty else bif v.type_==2 then decide (v.num=(0,0))&&v.list.isEmpty else bif v.type_==3 then decide (v.num=(0,0))&& !v.bool else false
theorem gn0:Gn (0,0):=⟨0,0,⟨z0,by decide,by decide⟩,⟨z0,by decide,by decide⟩⟩
theorem Yj{v:AH}(h:GV v):chk v=true↔VV v.type_ v:=by
 obtain ⟨h1,h2,_⟩:=h
 unfold chk VV
 cases e1:(v.type_==1)
 ·have e1:=Bn e1
  cases e2:(v.type_==2)
  ·have e2:=Bn e2
   cases e3:(v.type_==3)
   ·have e3:=Bn e3
    simp [e1,e2,e3]
   ·have e3:=B9 e3
    simp [e3];intro _ _;exact fun z w hz=>h2 (z,w) hz
  ·have e2:=B9 e2
   simp [e2]
 ·have e1:=B9 e1
  simp [e1,h1]
theorem VV.gv{t:Int}{v:AH}(h:VV t v)(hl:v.list.length≤1000000000000):GV v:=by
 rcases h with ⟨_,_,h,_,h'⟩| ⟨_,_,h,h'⟩| ⟨_,_,h,_,h'⟩
 ·exact ⟨h,by rw [h'];simp,hl⟩
 ·exact ⟨by rw [h];exact gn0,by rw [h'];simp,hl⟩
 ·exact ⟨by rw [h];exact gn0,h',hl⟩
theorem VV.type{t:Int}{v:AH}(h:VV t v):v.type_=t:=by
 rcases h with ⟨h1,h2,_⟩| ⟨h1,h2,_⟩| ⟨h1,h2,_⟩<;>rw [h1,h2]
theorem ABY{z:Nat×Nat}(h:Gn z):ceq z (0,0)=decide (z=(0,0)):=by
 obtain ⟨n,hn,rfl⟩:=(Py z).1 h
 have e1:=(Fz.re hn).feq fz0 hn.re (by decide)
 have e2:=(Fz.im hn).feq fz0 hn.im (by decide)
 rw [ceq]
 dsimp only
 rw [e1,e2,Bool.eq_iff_iff]
 simp only [Bool.and_eq_true,decide_eq_true_eq]
 constructor
 ·rintro ⟨h1,h2⟩
  rw [rn,h1,h2,PI]
 ·intro h
  have h1:FloatKind.f64.nearest n.re=0:=congrArg Prod.fst h
  have h2:FloatKind.f64.nearest n.im=0:=congrArg Prod.snd h
  have f0:feq 0 0=true:=by decide
  have k1:(rn n).1=0:=h1
  have k2:(rn n).2=0:=h2
  rw [k1,f0] at e1
  rw [k2,f0] at e2
  exact ⟨CO e1.symm,CO e2.symm⟩
theorem V7{z:Nat×Nat}(h:Gn z):Bz z=some true:=by
 obtain ⟨n,hn,rfl⟩:=(Py z).1 h
 exact J8 hn
theorem NV{N:Nat}{v:AH}(h:GV v)(hN:v.list.length+2≤N):DH N v=some (bif chk v then 0 else 3):=by
 obtain ⟨h1,h2,h3⟩:=h
 have loop: ∀(k:Nat) (b:Bool) (i:Nat),i≤v.list.length→v.list.length<i+k→Id v k b (i:Int)=some (bif b then 0 else 3):=by
  intro k
  induction k with
  |zero=>intro b i _ _;omega
  |succ k ih=>
   intro b i hi hk
   show J1 v (Id v k) b i=_
   unfold J1 KP EN
   cases hc:decide ((i:Int)< (v.list.length:Int))
   ·rw [cond_false];cases b<;>rfl
   ·have hc:=CO hc
    obtain ⟨z,hz,hz'⟩:=FV (xs:=v.list) (i:=(i:Int)) om hc
    rw [cond_true,hz,Option.bind_some,wr om om,show (i:Int)+1=((i+1:Nat):Int) by omega]
    have hg:=h2 z (List.mem_of_getElem? hz')
    rw [V7 hg,Option.bind_some]
    cases b
    ·exact ih false (i+1) om om
    ·exact ih true (i+1) om om
 have loop0:=fun b=>loop N b 0 om om
 have he:((v.list.length:Int)==0)=v.list.isEmpty:=by cases v.list<;>simp;omega
 unfold DH EN Jb chk
 rw [V7 h1,Option.bind_some,ABY h1,he]
 cases e1:(v.type_==1)
 ·rw [cond_false,cond_false]
  cases e2:(v.type_==2)
  ·rw [cond_false,cond_false]
   cases e3:(v.type_==3)
   ·rfl
   ·rw [cond_true,cond_true,Option.bind_some,cond_true]
    cases decide (v.num=(0,0))
    ·exact loop0 false
    ·exact loop0 (!v.bool)
  ·rw [cond_true,cond_true,Option.bind_some,cond_true]
   cases decide (v.num=(0,0))
   ·rfl
   ·cases v.list.isEmpty<;>rfl
 ·rw [cond_true,cond_true,cond_true]
  cases v.bool
  ·cases v.list.isEmpty<;>rfl
  ·rfl
theorem MB{N:Nat}{v:AH}(h:GV v)(hN:v.list.length+2≤N):B4 N v=some (chk v):=by
 obtain ⟨h1,h2,h3⟩:=h
 have he:((v.list.length:Int)==0)=v.list.isEmpty:=by cases v.list<;>simp;omega
 have loop: ∀(k i:Nat),i≤v.list.length→v.list.length<i+k→Ep v k true (i:Int)=some (chk v):=by
  intro k
  induction k with
  |zero=>intro i _ _;omega
  |succ k ih=>
   intro i hi hk
   show FC v (Ep v k) true i=_
   unfold FC Hc JT JU JV
   cases hc:decide ((i:Int)< (v.list.length:Int))
   ·rw [cond_false,ABY h1,he]
    unfold chk
    cases e1:(v.type_==1)
    ·rw [cond_false,cond_false]
     cases e2:(v.type_==2)
     ·rw [cond_false,cond_false]
      cases e3:(v.type_==3)
      ·rfl
      ·cases decide (v.num=(0,0))<;>rfl
     ·cases decide (v.num=(0,0))<;>rfl
    ·cases v.bool<;>rfl
   ·have hc:=CO hc
    obtain ⟨z,hz,hz'⟩:=FV (xs:=v.list) (i:=(i:Int)) om hc
    rw [cond_true,hz,Option.bind_some,wr om om,show (i:Int)+1=((i+1:Nat):Int) by omega]
    obtain ⟨n,_,_,hn⟩:=Ya (h2 z (List.mem_of_getElem? hz'))
    rw [hn,Option.bind_some,cond_true]
    exact ih (i+1) om om
 obtain ⟨n,_,_,hn⟩:=Ya h1
 unfold B4
 rw [hn,Option.bind_some]
 exact loop N 0 om om
def v0:AH:=⟨0,(0,0),false,[]⟩
def nv(x:Aj×Int):AH×Int:=if x.2=0 then (⟨1,rn x.1,false,[]⟩,0) else (v0,x.2)
theorem Zu(x:Aj×Int):Dw (rn x.1) x.2=some (nv x):=by
 unfold Dw nv
 cases h:(x.2 != 0)
 ·rw [if_pos (Jp h)];rfl
 ·rw [if_neg (Li h)];rfl
theorem VN(x:Aj×Int):Ee x.1 x.2=some (nv x):=by
 unfold Ee nv
 cases h:(x.2 != 0)
 ·rw [if_pos (Jp h)];rfl
 ·rw [if_neg (Li h)];rfl
def two(op:Int)(a b:Aj):AH×Int:=
 if op=8 then nv (inn ⟨a.re+b.re,a.im+b.im⟩) else if op=9 then nv (inn ⟨a.re - b.re,a.im - b.im⟩)
 else if op=10 then nv (inn ⟨a.re*b.re - a.im*b.im,a.re*b.im+a.im*b.re⟩) else if op=11 then nv (quo a b)
 else if op=12 then (⟨2,(0,0),decide (a.re=b.re)&&decide (a.im=b.im),[]⟩,0)
 else (⟨2,(0,0),decide (a.re<b.re)||(decide (a.re=b.re)&&decide (a.im<b.im)),[]⟩,0)
theorem Yk{N:Nat}{op:Int}{a b:Aj}(hN:2^54≤N)(ha:Gu a)(hb:Gu b):J3 N op (rn a) (rn b)=some (two op a b):=by
 unfold J3 two
 rw [AA0 ha hb,AA1 ha hb,AA2 ha hb,AA5 ha hb hN,Yb ha hb,Zm ha hb]
 simp only [Option.bind_some,Zu]
 cases h1:(op==8)
 ·rw [if_neg (Bn h1)]
  cases h2:(op==9)
  ·rw [if_neg (Bn h2)]
   cases h3:(op==10)
   ·rw [if_neg (Bn h3)]
    cases h4:(op==11)
    ·rw [if_neg (Bn h4)]
     cases h5:(op==12)
     ·rw [if_neg (Bn h5)];rfl
     ·rw [if_pos (B9 h5)];rfl
    ·rw [if_pos (B9 h4)];rfl
   ·rw [if_pos (B9 h3)];rfl
  ·rw [if_pos (B9 h2)];rfl
 ·rw [if_pos (B9 h1)];rfl
section
variable{a b:Aj}(ha:Gu a)(hb:Gu b)
include ha hb
theorem Zv:PB a b=some (inn ⟨a.re+b.re,a.im+b.im⟩):=by
 obtain ⟨⟨h1,h2⟩,h3,h4⟩:=ha
 obtain ⟨⟨h5,h6⟩,h7,h8⟩:=hb
 unfold PB
 rw [wr om om,wr om om,XF];rfl
theorem Zw:PC a b=some (inn ⟨a.re - b.re,a.im - b.im⟩):=by
 obtain ⟨⟨h1,h2⟩,h3,h4⟩:=ha
 obtain ⟨⟨h5,h6⟩,h7,h8⟩:=hb
 unfold PC
 rw [wr om om,wr om om,XF];rfl
theorem Zx:PD a b=some (inn ⟨a.re*b.re - a.im*b.im,a.re*b.im+a.im*b.re⟩):=by
 have m3:=Lj ha.reA hb.reA
 have m4:=Lj ha.imA hb.imA
 have m5:=Lj ha.imA hb.reA
 have m6:=Lj ha.reA hb.imA
 unfold PD
 rw [wr (x:=a.re*b.re) om om,wr (x:=a.im*b.im) om om,wr (x:=a.im*b.re) om om,wr (x:=a.re*b.im) om om,wr om om,wr om om,XF];rfl
theorem Yl:Nd a b=some (decide (a.re<b.re)||(decide (a.re=b.re)&&decide (a.im<b.im))):=by
 unfold Nd L1
 have e:(a.re==b.re)=decide (a.re=b.re):=by rw [Bool.eq_iff_iff];simp
 rw [e]
 cases decide (a.re<b.re)
 ·cases decide (a.re=b.re)<;>rfl
 ·rfl
end
theorem Ym{op:Int}(h:8≤op∧op≤13):H2 op=some (2,1)∧M0 op=some (2,1):=by
 have:op=8∨op=9∨op=10∨op=11∨op=12∨op=13:=om
 rcases this with rfl|rfl|rfl|rfl|rfl|rfl<;>exact ⟨rfl,rfl⟩
theorem Yn{op:Int}(h:15≤op∧op≤17):H2 op=some (1,1)∧M0 op=some (1,1):=by
 have:op=15∨op=16∨op=17:=om
 rcases this with rfl|rfl|rfl<;>exact ⟨rfl,rfl⟩
def CW(a:Aj):AH:=⟨1,rn a,false,[]⟩
theorem Xo{a:Aj}(ha:Gu a):GV (CW a):=⟨.of ha,by simp [CW],by simp [CW]⟩
theorem Ub(a:Aj):chk (CW a)=true:=rfl
def I9(c:Bool):AH:=⟨2,(0,0),c,[]⟩
theorem Zy(b:Bool):GV (I9 b):=⟨gn0,by simp [I9],by simp [I9]⟩
theorem Yo{N:Nat}{op:Int}{a b:Aj}(hN:2^54≤N)(h:8≤op∧op≤13)(ha:Gu a)(hb:Gu b):
  D7 N op [CW a,CW b]=some (two op a b)∧G4 N op [CW a,CW b]=some (two op a b):=by
 obtain ⟨M,rfl⟩: ∃M,N=M+3:=⟨N - 3,om⟩
 have c1:DH (M+3) (CW a)=some 0:=by rw [NV (Xo ha) (by simp [CW]),Ub];rfl
 have c2:DH (M+3) (CW b)=some 0:=by rw [NV (Xo hb) (by simp [CW]),Ub];rfl
 have d1:B4 (M+3) (CW a)=some true:=by rw [MB (Xo ha) (by simp [CW]),Ub]
 have d2:B4 (M+3) (CW b)=some true:=by rw [MB (Xo hb) (by simp [CW]),Ub]
 have o1:Ec (CW a).num=some (a,true):=Ua ha
 have o2:Ec (CW b).num=some (b,true):=Ua hb
 constructor
 ·unfold D7
  rw [(Ym h).1,Option.bind_some]
  show Ch (M+3) op [CW a,CW b] (2,1) (DV (M+3) op [CW a,CW b] (2,1) (M+2)) 0=_
  unfold Ch
  show (DH (M+3) (CW a)).bind (fun x208=>IM 0 (DV (M+3) op [CW a,CW b] (2,1) (M+2)) (x208 != 0))=_
  rw [c1,Option.bind_some]
  show Ch (M+3) op [CW a,CW b] (2,1) (DV (M+3) op [CW a,CW b] (2,1) (M+1)) 1=_
  unfold Ch
  show (DH (M+3) (CW b)).bind (fun x208=>IM 1 (DV (M+3) op [CW a,CW b] (2,1) (M+1)) (x208 != 0))=_
  rw [c2,Option.bind_some]
  show Ch (M+3) op [CW a,CW b] (2,1) (DV (M+3) op [CW a,CW b] (2,1) M) 2=_
  unfold Ch
  have hop:(op==14)=false∧(op==15)=false∧(op==16)=false∧(op==17)=false:=by
   refine ⟨?_,?_,?_,?_⟩<;>(simp;omega)
  rw [hop.1,hop.2.1,hop.2.2.1,hop.2.2.2]
  show (J3 (M+3) op (rn a) (rn b)).bind (fun x321=>some (x321.1,x321.2))=_
  rw [Yk hN ha hb];rfl
 ·unfold G4
  rw [(Ym h).2,Option.bind_some]
  show Cr (M+3) op [CW a,CW b] (2,1) (Bx (M+3) op [CW a,CW b] (2,1) (M+2)) true [] 0=_
  unfold Cr
  show (B4 (M+3) (CW a)).bind (fun x412=>bif x412 then (Fr [CW a,CW b] [] 0 (Bx (M+3) op [CW a,CW b] (2,1) (M+2)) true) else (Fr [CW a,CW b] [] 0 (Bx (M+3) op [CW a,CW b] (2,1) (M+2)) false))=_
  rw [d1,Option.bind_some,cond_true]
  show (Ec (CW a).num).bind (fun x354=>(GS 16 ([]:List Aj) [x354.1]).bind fun _=>Bx (M+3) op [CW a,CW b] (2,1) (M+2) true ([]++[x354.1]) (IntKind.i64.wrap (0+1)))=_
  rw [o1,Option.bind_some]
  show Cr (M+3) op [CW a,CW b] (2,1) (Bx (M+3) op [CW a,CW b] (2,1) (M+1)) true [a] 1=_
  unfold Cr
  show (B4 (M+3) (CW b)).bind (fun x412=>bif x412 then (Fr [CW a,CW b] [a] 1 (Bx (M+3) op [CW a,CW b] (2,1) (M+1)) true) else (Fr [CW a,CW b] [a] 1 (Bx (M+3) op [CW a,CW b] (2,1) (M+1)) false))=_
  rw [d2,Option.bind_some,cond_true]
  show (Ec (CW b).num).bind (fun x354=>(GS 16 [a] [x354.1]).bind fun _=>Bx (M+3) op [CW a,CW b] (2,1) (M+1) true ([a]++[x354.1]) (IntKind.i64.wrap (1+1)))=_
  rw [o2,Option.bind_some]
  show Cr (M+3) op [CW a,CW b] (2,1) (Bx (M+3) op [CW a,CW b] (2,1) M) true [a,b] 2=_
  unfold Cr two
  have e:(a.re==b.re&&a.im==b.im)=(decide (a.re=b.re)&&decide (a.im=b.im)):=by rw [Bool.eq_iff_iff];simp
  have hh:op=8∨op=9∨op=10∨op=11∨op=12∨op=13:=om
  rcases hh with rfl|rfl|rfl|rfl|rfl|rfl
  ·show ((PB a b).bind fun x504=>(Ee x504.1 x504.2).bind fun x511=>some (x511.1,x511.2))=_
   rw [Zv ha hb,Option.bind_some,VN];rfl
  ·show ((PC a b).bind fun x504=>(Ee x504.1 x504.2).bind fun x511=>some (x511.1,x511.2))=_
   rw [Zw ha hb,Option.bind_some,VN];rfl
  ·show ((PD a b).bind fun x504=>(Ee x504.1 x504.2).bind fun x511=>some (x511.1,x511.2))=_
   rw [Zx ha hb,Option.bind_some,VN];rfl
  ·show ((PE a b).bind fun x504=>(Ee x504.1 x504.2).bind fun x511=>some (x511.1,x511.2))=_
   rw [Zt ha hb,Option.bind_some,VN];rfl
  ·show some ((⟨2,(0,0),(a.re==b.re&&a.im==b.im),[]⟩:AH),(0:Int))=_
   rw [e];rfl
  ·show ((Nd a b).bind fun x1013=>(M1 x1013).bind fun x1018=>some (x1018.1,x1018.2))=_
   rw [Yl ha hb];rfl
theorem XK{op:Int}(h:op=14):H2 op=some (1,2)∧M0 op=some (1,2):=by subst h;exact ⟨rfl,rfl⟩
theorem AA6{N:Nat}{c:Bool}{op:Int}(h:op=14)(hN:10≤N):D7 N op [I9 c]=some (I9 !c,0):=by
 obtain ⟨M,rfl⟩: ∃M,N=M+3:=⟨N - 3,om⟩
 clear hN
 have c1:DH (M+3) (I9 c)=some 0:=by rw [NV (Zy c) (by simp [I9])];rfl
 have d1:B4 (M+3) (I9 c)=some true:=by rw [MB (Zy c) (by simp [I9])];rfl
 have o1:Ec (I9 c).num=some (⟨0,0⟩,true):=Ua (n:=⟨0,0⟩) ⟨⟨by decide,by decide⟩,by decide,by decide⟩
 unfold D7
 rw [(XK h).1,Option.bind_some]
 show Ch (M+3) op [I9 c] (1,2) (DV (M+3) op [I9 c] (1,2) (M+2)) 0=_
 unfold Ch
 show (DH (M+3) (I9 c)).bind (fun x208=>IM 0 (DV (M+3) op [I9 c] (1,2) (M+2)) (x208 != 0))=_
 rw [c1,Option.bind_some]
 show Ch (M+3) op [I9 c] (1,2) (DV (M+3) op [I9 c] (1,2) (M+1)) 1=_
 unfold Ch
 have h1:decide ((1:Int)< (([I9 c].length:Nat):Int))=false:=rfl
 have h2:idx [I9 c] 0=some (I9 c):=rfl
 have h3:(op==14)=true:=by rw [h];rfl
 rw [h1,cond_false,h2,Option.bind_some,h3,cond_true]
 rfl
theorem ABZ{N:Nat}{c:Bool}{op:Int}(h:op=14)(hN:10≤N):G4 N op [I9 c]=some (I9 !c,0):=by
 obtain ⟨M,rfl⟩: ∃M,N=M+3:=⟨N - 3,om⟩
 clear hN
 have c1:DH (M+3) (I9 c)=some 0:=by rw [NV (Zy c) (by simp [I9])];rfl
 have d1:B4 (M+3) (I9 c)=some true:=by rw [MB (Zy c) (by simp [I9])];rfl
 have o1:Ec (I9 c).num=some (⟨0,0⟩,true):=Ua (n:=⟨0,0⟩) ⟨⟨by decide,by decide⟩,by decide,by decide⟩
 unfold G4
 rw [(XK h).2,Option.bind_some]
 show Cr (M+3) op [I9 c] (1,2) (Bx (M+3) op [I9 c] (1,2) (M+2)) true [] 0=_
 unfold Cr
 show (B4 (M+3) (I9 c)).bind (fun x412=>bif x412 then (Fr [I9 c] [] 0 (Bx (M+3) op [I9 c] (1,2) (M+2)) true) else (Fr [I9 c] [] 0 (Bx (M+3) op [I9 c] (1,2) (M+2)) false))=_
 rw [d1,Option.bind_some,cond_true]
 show (Ec (I9 c).num).bind (fun x354=>(GS 16 ([]:List Aj) [x354.1]).bind fun _=>Bx (M+3) op [I9 c] (1,2) (M+2) true ([]++[x354.1]) (IntKind.i64.wrap (0+1)))=_
 rw [o1,Option.bind_some]
 show Cr (M+3) op [I9 c] (1,2) (Bx (M+3) op [I9 c] (1,2) (M+1)) true [⟨0,0⟩] 1=_
 unfold Cr
 have h1:decide ((1:Int)< ((1,2):Int×Int).1)=false:=rfl
 rw [cond_true,h1]
 unfold Ma
 have h2:idx [I9 c] 0=some (I9 c):=rfl
 have h3:(op==14)=true:=by rw [h];rfl
 have k1:(op==8)=false:=by rw [h];rfl
 have k2:(op==9)=false:=by rw [h];rfl
 have k3:(op==10)=false:=by rw [h];rfl
 have k4:(op==11)=false:=by rw [h];rfl
 have k5:(op==12)=false:=by rw [h];rfl
 have k6:(op==13)=false:=by rw [h];rfl
 rw [cond_false,Bool.not_true,cond_false,k1,cond_false,k2,cond_false,k3,cond_false,k4,cond_false,k5,cond_false,k6,cond_false,h3,cond_true,h2,Option.bind_some]
 rfl
theorem Zz{N:Nat}{c:Bool}(hN:2^54≤N):D7 N 14 [I9 c]=some (I9 !c,0)∧G4 N 14 [I9 c]=some (I9 !c,0):=⟨AA6 rfl om,ABZ rfl om⟩
theorem nv0(x:Int):CW ⟨x,0⟩=⟨1,(FloatKind.f64.nearest x,0),false,[]⟩:=by rw [CW,rn,PI]
def uno(op:Int)(a:Aj):AH×Int:=(CW (if op=15 then ⟨a.re,0⟩ else if op=16 then ⟨a.im,0⟩ else ⟨a.re,-a.im⟩),0)
theorem AA7{N:Nat}{op:Int}{a:Aj}(hN:2^54≤N)(h:15≤op∧op≤17)(ha:Gu a):D7 N op [CW a]=some (uno op a)∧G4 N op [CW a]=some (uno op a):=by
 obtain ⟨M,rfl⟩: ∃M,N=M+3:=⟨N - 3,om⟩
 have c1:DH (M+3) (CW a)=some 0:=by rw [NV (Xo ha) (by simp [CW]),Ub];rfl
 have d1:B4 (M+3) (CW a)=some true:=by rw [MB (Xo ha) (by simp [CW]),Ub]
 have o1:Ec (CW a).num=some (a,true):=Ua ha
 have hh:op=15∨op=16∨op=17:=om
 constructor
 ·unfold D7
  rw [(Yn h).1,Option.bind_some]
  show Ch (M+3) op [CW a] (1,1) (DV (M+3) op [CW a] (1,1) (M+2)) 0=_
  unfold Ch
  show (DH (M+3) (CW a)).bind (fun x208=>IM 0 (DV (M+3) op [CW a] (1,1) (M+2)) (x208 != 0))=_
  rw [c1,Option.bind_some]
  show Ch (M+3) op [CW a] (1,1) (DV (M+3) op [CW a] (1,1) (M+1)) 1=_
  unfold Ch uno
  rcases hh with rfl|rfl|rfl
  ·rw [if_pos rfl,nv0];rfl
  ·rw [if_neg (by decide),if_pos rfl,nv0];rfl
  ·rw [if_neg (by decide),if_neg (by decide)]
   show ((H3 (rn a)).bind fun x279=>(Dw x279.1 x279.2).bind fun x284=>some (x284.1,x284.2))=_
   rw [Zn ha];rfl
 ·unfold G4
  rw [(Yn h).2,Option.bind_some]
  show Cr (M+3) op [CW a] (1,1) (Bx (M+3) op [CW a] (1,1) (M+2)) true [] 0=_
  unfold Cr
  show (B4 (M+3) (CW a)).bind (fun x412=>bif x412 then (Fr [CW a] [] 0 (Bx (M+3) op [CW a] (1,1) (M+2)) true) else (Fr [CW a] [] 0 (Bx (M+3) op [CW a] (1,1) (M+2)) false))=_
  rw [d1,Option.bind_some,cond_true]
  show (Ec (CW a).num).bind (fun x354=>(GS 16 ([]:List Aj) [x354.1]).bind fun _=>Bx (M+3) op [CW a] (1,1) (M+2) true ([]++[x354.1]) (IntKind.i64.wrap (0+1)))=_
  rw [o1,Option.bind_some]
  show Cr (M+3) op [CW a] (1,1) (Bx (M+3) op [CW a] (1,1) (M+1)) true [a] 1=_
  unfold Cr uno
  rcases hh with rfl|rfl|rfl
  ·rw [if_pos rfl];rfl
  ·rw [if_neg (by decide),if_pos rfl];rfl
  ·rw [if_neg (by decide),if_neg (by decide)]
   show ((Ee ⟨a.re,IntKind.i64.wrap (0 - a.im)⟩ 0).bind fun x1213=>some (x1213.1,x1213.2))=_
   have:=ha.imA
   rw [wr om om,Int.zero_sub];rfl
def Res(t:Int)(r:AH×Int):Prop:=(r.2=0∧VV t r.1)∨((r.2=50∨r.2=51)∧r.1=v0)
theorem AA8{a:Aj}(h:Gu a):VV 1 (CW a):= .inl ⟨rfl,rfl,.of h,rfl,rfl⟩
theorem VO{x:Aj×Int}(h:(x.2=0∧Gu x.1)∨x.2=50∨x.2=51):Res 1 (nv x):=by
 unfold nv
 rcases h with ⟨h1,h2⟩|h
 ·rw [if_pos h1];exact .inl ⟨rfl,AA8 h2⟩
 ·rw [if_neg om];exact .inr ⟨h,rfl⟩
theorem VP(n:Aj):((inn n).2=0∧Gu (inn n).1)∨(inn n).2=50∨(inn n).2=51:=by
 unfold inn
 rcases Decidable.em (Gu n) with h|h
 ·rw [if_pos h];exact .inl ⟨rfl,h⟩
 ·rw [if_neg h];exact .inr (.inl rfl)
theorem AA9(a b:Aj):((quo a b).2=0∧Gu (quo a b).1)∨(quo a b).2=50∨(quo a b).2=51:=by
 unfold quo
 simp only
 split
 ·exact .inr (.inr rfl)
 ·exact VP _
theorem Xp(b:Bool):VV 2 ⟨2,(0,0),b,[]⟩:= .inr (.inl ⟨rfl,rfl,rfl,rfl⟩)
def opT(op:Int):Int:=if op=12∨op=13∨op=14 then 2 else 1
theorem vv1{v:AH}(h:VV 1 v): ∃a,Gu a∧v=CW a:=by
 rcases h with ⟨_,h1,h2,h3,h4⟩| ⟨h,_⟩| ⟨h,_⟩
 ·obtain ⟨n,hn,e⟩:=(Py _).1 h2
  refine ⟨n,hn,?_⟩
  cases v;simp only at h1 h2 h3 h4 e;rw [CW,h1,h3,h4,e]
 ·cases h
 ·cases h
theorem vv2{v:AH}(h:VV 2 v):v=⟨2,(0,0),v.bool,[]⟩:=by
 rcases h with ⟨h,_⟩| ⟨_,h1,h2,h3⟩| ⟨h,_⟩
 ·cases h
 ·cases v;simp only at h1 h2 h3;rw [h1,h2,h3]
 ·cases h
theorem V8{op:Int}{args:List AH}(h:(8≤op∧op≤13∧∃a b,VV 1 a∧VV 1 b∧args=[a,b])∨(op=14∧∃a,VV 2 a∧args=[a])∨(15≤op∧op≤17∧∃a,VV 1 a∧args=[a])):
  ∃r,Res (opT op) r∧∀N,2^54≤N→D7 N op args=some r∧G4 N op args=some r:=by
 rcases h with ⟨h1,h2,x,y,hx,hy,rfl⟩| ⟨rfl,x,hx,rfl⟩| ⟨h1,h2,x,hx,rfl⟩
 ·obtain ⟨a,ha,rfl⟩:=vv1 hx
  obtain ⟨b,hb,rfl⟩:=vv1 hy
  refine ⟨two op a b,?_,fun N hN=>Yo hN ⟨h1,h2⟩ ha hb⟩
  unfold two opT
  have hh:op=8∨op=9∨op=10∨op=11∨op=12∨op=13:=om
  rcases hh with rfl|rfl|rfl|rfl|rfl|rfl
  ·exact VO (VP _)
  ·exact VO (VP _)
  ·exact VO (VP _)
  ·exact VO (AA9 a b)
  ·exact .inl ⟨rfl,Xp _⟩
  ·exact .inl ⟨rfl,Xp _⟩
 ·rw [vv2 hx]
  exact ⟨(I9 !x.bool,0),.inl ⟨rfl,Xp _⟩,fun N hN=>Zz hN⟩
 ·obtain ⟨a,ha,rfl⟩:=vv1 hx
  refine ⟨uno op a,?_,fun N hN=>AA7 hN ⟨h1,h2⟩ ha⟩
  have e:opT op=1:=by unfold opT;rw [if_neg om]
  rw [e]
  refine .inl ⟨rfl,AA8 ?_⟩
  obtain ⟨⟨l1,l2⟩,l3,l4⟩:=ha
  split
  ·exact ⟨⟨l1,l2⟩,by simp,by simp⟩
  ·split
   ·exact ⟨⟨l3,l4⟩,by simp,by simp⟩
   ·exact ⟨⟨l1,l2⟩,by simp only;omega,by simp only;omega⟩
end Fth
namespace Fth
open Go
theorem Yp{N:Nat}{t:List UInt8}(hl:t.length≤10000000)(hN:t.length+3≤N):T (GB N t) fun ws=>ws.length≤t.length+1∧∀w∈ws,w.length≤t.length:=by
 have key: ∀(k:Nat) (ws:List (List UInt8)) (f i:Int),0≤f→f≤i+1→0≤i→i≤t.length+1→(t.length:Int)+1 - i<k→ws.length≤i→(∀w∈ws,w.length≤t.length)→T (EK t k ws f i) fun ws=>ws.length≤t.length+1∧∀w∈ws,w.length≤t.length:=by
  intro k
  induction k with
  |zero=>intro ws f i _ _ _ _ _;omega
  |succ k ih=>
   intro ws f i h1 h2 h3 h4 h5 h6 h7
   show T (FB t (EK t k) ws f i) _
   unfold FB
   refine T.cond (fun h=>?_) fun h=>?_
   ·have h:=CO h
    have e1:IntKind.i64.wrap (i+1)=i+1:=wr om om
    have go: ∀b,T (GY t ws f i (EK t k) b) fun ws=>ws.length≤t.length+1∧∀w∈ws,w.length≤t.length:=by
     intro b
     unfold GY Hb Ha
     rw [e1]
     refine T.cond (fun _=>ih _ _ _ h1 om om om om om h7) fun _=>T.cond (fun hgt=>?_) fun _=>ih _ _ _ om om om om om om h7
     have hgt:=CO hgt
     refine T.bind (NK h1 om h) fun w hw=>T.bind (Ff om (by simp;omega)) fun _ _=>ih _ _ _ om om om om om (by simp;omega) fun x hx=>?_
     rcases List.mem_append.1 hx with hx|hx
     ·exact h7 x hx
     ·simp at hx;subst hx;subst hw;simp;omega
    exact T.cond (fun hi=>T.bind (FV h3 (CO hi)) fun c _=>go _) fun _=>go _
   ·have h:=Do h
    exact .some ⟨om,h7⟩
 exact key N [] 0 0 om om om om om (by simp) (by simp)
theorem Uc{N:Nat}{z:Nat×Nat}(hN:40≤N)(h:Gn z):T (EF N z) fun s=>s.length≤100:=by
 obtain ⟨n,hn,rfl,ho⟩:=Ya h
 unfold EF
 exact T.eq ho (T.bind (XA hN hn.1.1 hn.1.2 hn.2.1 hn.2.2) fun s hs=> .some hs)
theorem Yq{N:Nat}{v:AH}(h:GV v)(hl:v.list.length≤20000000)(hN:v.list.length+50≤N):T (GZ N v) fun _=>True:=by
 unfold GZ
 refine T.eq (MB h om) (T.cond (fun _=> .some trivial) fun _=>T.cond (fun _=>T.bind (Uc om h.1) fun _ _=> .some trivial) fun _=>T.cond (fun _=>T.cond (fun _=> .some trivial) fun _=> .some trivial) fun _=>?_)
 have key: ∀(k:Nat) (s:List UInt8) (i:Int),0≤i→i≤v.list.length→(v.list.length:Int) - i<k→(s.length:Int)≤101*i→T (FD N v k s i) fun _=>True:=by
  intro k
  induction k with
  |zero=>intro s i _ _ _;omega
  |succ k ih=>
   intro s i h0 h1 h2 h3
   show T (Fk N v (FD N v k) s i) _
   unfold Fk
   refine T.cond (fun hi=>?_) fun _=>T.bind (L4 (by simp;omega)) fun u hu=>T.bind (L4 (by subst hu;simp;omega)) fun _ _=> .some trivial
   have hi:=CO hi
   have go: ∀s':List UInt8,(s'.length:Int)≤101*i+1→T (HO N v i (FD N v k) s') fun _=>True:=by
    intro s' hs'
    unfold HO
    refine T.bind (FV h0 hi) fun z hz=>T.bind (Uc om (h.2.1 z (List.mem_of_getElem? hz))) fun u hu=>T.bind (Ff om om) fun _ _=>?_
    rw [wr om om]
    exact ih _ _ om om om (by simp;omega)
   exact T.cond (fun _=>T.bind (Ff om (by simp;omega)) fun _ _=>go _ (by simp;omega)) fun _=>go _ om
 exact key N [] 0 om om om (by simp)
theorem Xq{N:Nat}{t:List UInt8}(hl:t.length≤10000000)(hN:t.length+100≤N):T (Fe N t) fun x=>x.2=0→VV x.1.type_ x.1∧x.1.list.length≤t.length+1:=by
 have j1: ∀b,T (Ga N t b) fun x=>x.2=0→VV x.1.type_ x.1∧x.1.list.length≤t.length+1:=by
  intro b
  unfold Ga
  refine T.cond (fun _=> .some fun _=>⟨Xp _,by simp⟩) fun _=>T.bind (Q8 om om) fun x hx=>T.cond (fun h=>?_) fun _=>?_
  ·have hx:=hx (B9 h)
   refine .some (a:=_) fun _=>⟨AA8 (a:=x.1) ⟨⟨hx.1,hx.2.1⟩,hx.2.2.1,hx.2.2.2⟩,by simp⟩
  ·have j2: ∀b,(b=false→2≤t.length)→T (Fm N t x b) fun x=>x.2=0→VV x.1.type_ x.1∧x.1.list.length≤t.length+1:=by
    intro b hb
    unfold Fm
    refine T.cond (fun _=> .some fun h=>by cases h) fun h=>?_
    have h2:=hb h
    rw [wr om om]
    refine T.bind (NK om om om) fun u hu=>?_
    have hul:u.length≤t.length:=by subst hu;simp;omega
    refine T.bind (Yp om om) fun ws hws=>?_
    have key: ∀(k:Nat) (i a b:Int) (l:List (Nat×Nat)),0≤i→i≤ws.length→(ws.length:Int) - i<k→(l.length:Int)=i→(∀z∈l,Gn z)→T (Er N t ws k i a b l) fun x=>x.2=0→VV x.1.type_ x.1∧x.1.list.length≤t.length+1:=by
     intro k
     induction k with
     |zero=>intro i a b l _ _ _;omega
     |succ k ih=>
      intro i a b l h0 h1 h3 h4 h5
      show T (FE N t ws (Er N t ws k) i a b l) _
      unfold FE
      refine T.cond (fun hi=>?_) fun _=>?_
      ·have hi:=CO hi
       refine T.bind (FV h0 hi) fun w hw=>?_
       have hwl:=hws.2 w (List.mem_of_getElem? hw)
       refine T.bind (Q8 om om) fun y hy=>T.cond (fun _=> .some fun h=>by cases h) fun h=>?_
       have hy:=hy (Jp h)
       refine T.bind (ABk hy) fun z hz=>T.bind (Ff om (by simp;omega)) fun _ _=>?_
       rw [wr om om]
       refine ih _ _ _ _ om om om (by simp;omega) fun q hq=>?_
       rcases List.mem_append.1 hq with hq|hq
       ·exact h5 q hq
       ·simp at hq;subst hq;exact hz
      ·have gv:GV ⟨3,(0,0),false,l⟩:=⟨gn0,h5,by simp only;omega⟩
       refine T.bind (Yq gv (by simp only;omega) (by simp only;omega)) fun _ _=>T.cond (fun _=> .some fun h=>by cases h) fun _=> .some fun _=>⟨.inr (.inr ⟨rfl,rfl,rfl,rfl,h5⟩),by simp only;omega⟩
    exact key N 0 _ _ [] om om om (by simp) (by simp)
   refine T.cond (fun _=>j2 _ fun h=>by cases h) fun h=>?_
   have h:=Do h
   refine T.bind (FV om om) fun c _=>T.cond (fun _=>j2 _ fun h=>by cases h) fun _=>?_
   rw [wr om om]
   exact T.bind (FV om om) fun c _=>j2 _ fun _=>om
 unfold Fe
 exact T.cond (fun _=>j1 _) fun _=>j1 _
def LV(l:List AH):Prop:=(∀v∈l,VV v.type_ v∧v.list.length≤1048577)∧l.length≤1048576
theorem Yr{N:Nat}{t:List UInt8}(hl:t.length≤1048576)(hN:t.length+200≤N):T (GC N t) fun x=>x.2=0→LV x.1:=by
 have outer: ∀(k:Nat) (l:List AH) (i:Int),0≤i→i≤t.length→(t.length:Int) - i<k→(l.length:Int)≤i→(∀v∈l,VV v.type_ v∧v.list.length≤1048577)→T (CQ N t k l i) fun x=>x.2=0→LV x.1:=by
  intro k
  induction k with
  |zero=>intro l i _ _ _;omega
  |succ k ih=>
   intro l i h0 h1 h2 h3 h4
   show T (FG N t (CQ N t k) l i) _
   unfold FG
   refine T.cond (fun hi=>?_) fun hi=> .some fun _=>⟨h4,by have:=Do hi;simp only;omega⟩
   have hi:=CO hi
   refine T.bind (FV h0 hi) fun c hc=>T.cond (fun _=>?_) fun hb=>?_
   ·rw [wr om om]
    exact ih _ _ om om om om h4
   ·have hb:=Bn hb
    refine T.bind (FV h0 hi) fun c' _=>?_
    have inner: ∀(j:Nat) (p:Int) (b:Bool),i≤p→p≤t.length→(t.length:Int) - p<j→(p=i∨i<p)→T (D6 N t l i (CQ N t k) j p b) fun x=>x.2=0→LV x.1:=by
     intro j
     induction j with
     |zero=>intro p b _ _ _;omega
     |succ j ihj=>
      intro p b hp1 hp2 hp3 hp4
      show T (FF N t l i (CQ N t k) (D6 N t l i (CQ N t k) j) p b) _
      unfold FF
      have on:p<t.length→T (EM N t l i (CQ N t k) p b (D6 N t l i (CQ N t k) j) true) fun x=>x.2=0→LV x.1:=by
       intro hp
       unfold EM Hd
       rw [wr (x:=p+1) om om]
       refine T.cond (fun _=>T.bind (FV om hp) fun d _=>T.cond (fun _=>ihj _ _ om om om om) fun _=>ihj _ _ om om om om) fun h=>by cases h
      have off:i<p→T (EM N t l i (CQ N t k) p b (D6 N t l i (CQ N t k) j) false) fun x=>x.2=0→LV x.1:=by
       intro hp
       unfold EM
       refine T.cond (fun h=>by cases h) fun _=>T.bind (NK h0 om hp2) fun u hu=>?_
       have hul:u.length≤t.length:=by subst hu;simp;omega
       refine T.bind (Xq om om) fun x hx=>T.cond (fun _=> .some fun h=>by cases h) fun h=>?_
       have hx:=hx (Jp h)
       refine T.bind (Ff om (by simp;omega)) fun _ _=>ih _ _ om om om (by simp;omega) fun v hv=>?_
       rcases List.mem_append.1 hv with hv|hv
       ·exact h4 v hv
       ·simp at hv;subst hv;exact ⟨hx.1,by have:=hx.2;omega⟩
      refine T.cond (fun hp=>?_) fun hp=>?_
      ·have hp:=CO hp
       refine T.cond (fun _=>on hp) fun _=>T.bind (FV om hp) fun d hd=>?_
       cases hne:(((d.toNat:Nat):Int) != (((32:UInt8).toNat:Nat):Int))
       ·have hne:=Jp hne
        refine off ?_
        rcases hp4 with rfl|hp4
        ·rw [hd] at hc;cases hc;exact absurd hne hb
        ·exact hp4
       ·exact on hp
      ·have hp:=Do hp
       exact off om
    exact inner N i _ om om om (.inl rfl)
 exact outer N [] 0 om om om (by simp) (by simp)
theorem Z0{N:Nat}{a:D5}(hl:a.args.length≤1048576)(hN:20000000≤N):T (B5 N a) fun x=>WPt x.1∧(x.2.2=true→LV x.2.1):=by
 unfold B5 Gb I2
 refine T.bind (P:=fun l=>l=⟨32768,32768,32768,32768⟩) (.some rfl) fun l hlm=>?_
 subst hlm
 refine T.bind (Xl om a.text) fun x hx=>T.bind (Yr hl om) fun y hy=>T.cond (fun h=> .some ⟨hx,fun h'=>hy (B9 h')⟩) fun _=> .some ⟨hx,fun h'=>(by cases h')⟩
end Fth
namespace Fth
open Go
theorem Ev.up{p:Nat→Prop}(k:Nat)(h:Ev p):Ev fun N=>p (N+k):=let ⟨n,hn⟩:=h;⟨n,fun N hN=>hn _ om⟩
theorem Ev.down{p:Nat→Prop}(k:Nat)(h:Ev fun N=>p (N+k)):Ev p:=by
 obtain ⟨n,hn⟩:=h
 refine ⟨n+k,fun N hN=>?_⟩
 have:=hn (N - k) om
 dsimp only at this
 rwa [Nat.sub_add_cancel om] at this
def hd(p:AL)(nm:List UInt8):Option AE:=p.funcs.find? fun f=>f.name==nm
def fnd(nm:List UInt8):Nm→Option Th
 | .nil=>none
 | .bind n t o=>bif n==nm then some t else fnd nm o
 | .letrec n e o=>bif n==nm then some (.later e (.letrec n e o)) else fnd nm o
theorem SG{nm:List UInt8}{ρ:Nm}{th:Th}(h:fnd nm ρ=some th):Ev fun N=>Da N ρ nm=some th∧L6 N ρ nm=some th:=by
 revert h
 refine Nm.rec (motive_1:=fun ρ=>fnd nm ρ=some th→Ev fun N=>Da N ρ nm=some th∧L6 N ρ nm=some th) (motive_2:=fun _=>True) ?_ ?_ ?_ ?_ ?_ ?_ ρ
 ·intro h;cases h
 ·intro n t o _ ih h
  rw [fnd] at h
  cases hn:(n==nm)
  ·rw [hn] at h
   refine Ev.down 1 ((ih h).mono fun N hN=>?_)
   constructor
   ·show (bif !(n==nm) then EH nm N o else some t)=_
    rw [hn];exact hN.1
   ·show (bif !(n==nm) then Ji nm N o else some t)=_
    rw [hn];exact hN.2
  ·rw [hn] at h
   refine Ev.down 1 (Ev.all fun N=>?_)
   constructor
   ·show (bif !(n==nm) then EH nm N o else some t)=_
    rw [hn];exact h
   ·show (bif !(n==nm) then Ji nm N o else some t)=_
    rw [hn];exact h
 ·intro n e o ih h
  rw [fnd] at h
  cases hn:(n==nm)
  ·rw [hn] at h
   refine Ev.down 1 ((ih h).mono fun N hN=>?_)
   constructor
   ·show (bif !(n==nm) then EH nm N o else some (.later e (.letrec n e o)))=_
    rw [hn];exact hN.1
   ·show (bif !(n==nm) then Ji nm N o else some (.later e (.letrec n e o)))=_
    rw [hn];exact hN.2
  ·rw [hn] at h
   refine Ev.down 1 (Ev.all fun N=>?_)
   constructor
   ·show (bif !(n==nm) then EH nm N o else some (.later e (.letrec n e o)))=_
    rw [hn];exact h
   ·show (bif !(n==nm) then Ji nm N o else some (.later e (.letrec n e o)))=_
    rw [hn];exact h
 ·trivial
 ·intros;trivial
 ·intros;trivial
def Pa(ρ:Nm):List AK→List AB→Nm→Nm
 |x::ps,a::bs,acc=>Pa ρ ps bs (.bind x.name (.later a ρ) acc)
 |_,_,acc=>acc
def Ap(op:Int)(args:List AH)(r:AH×Int):Prop:=∀N,2^54≤N→D7 N op args=some r∧G4 N op args=some r
def fin(r:AH×Int):Except Int Al:=bif r.2 != 0 then .error r.2 else .ok ⟨r.1,.nil,.nil⟩
def plain(v:AH):Except Int Al:= .ok ⟨v,.nil,.nil⟩
inductive Lk(p:AL)(m:Nat):Nat→AB→Nm→Except Int Al→Nat→Prop
 |fuel {c e ρ} (h:m≤c):Lk p m c e ρ (.error 60) c
 |num {c e ρ} (h:c<m) (ho:e.op=1):Lk p m c e ρ (plain ⟨1,e.num,false,[]⟩) (c+1)
 |tru {c e ρ} (h:c<m) (ho:e.op=2):Lk p m c e ρ (plain ⟨2,(0,0),true,[]⟩) (c+1)
 |fls {c e ρ} (h:c<m) (ho:e.op=3):Lk p m c e ρ (plain ⟨2,(0,0),false,[]⟩) (c+1)
 |nil {c e ρ} (h:c<m) (ho:e.op=4):Lk p m c e ρ (plain ⟨3,(0,0),false,[]⟩) (c+1)
 |fail {c e ρ} (h:c<m) (ho:e.op=5):Lk p m c e ρ (.error 52) (c+1)
 |vdone {c e ρ x} (h:c<m) (ho:e.op=6) (hf:fnd e.name ρ=some (.done x.plain x.head x.tail)):Lk p m c e ρ (.ok x) (c+1)
 |vlater {c e ρ e' ρ' r c'} (h:c<m) (ho:e.op=6) (hf:fnd e.name ρ=some (.later e' ρ')) (h1:Lk p m (c+1) e' ρ' r c'):Lk p m c e ρ r c'
 |call {c e ρ f r c'} (h:c<m) (ho:e.op=7) (hf:hd p e.name=some f) (hl:f.params.length=e.args.length) (h1:Lk p m (c+1) f.body (Pa ρ f.params e.args .nil) r c'):Lk p m c e ρ r c'
 |cons {c e ρ a b} (h:c<m) (ho:e.op=18) (ha:e.args=[a,b]):Lk p m c e ρ (.ok ⟨v0,.later a ρ,.later b ρ⟩) (c+1)
 |ifE {c e ρ a b d y c'} (h:c<m) (ho:e.op=19) (ha:e.args=[a,b,d]) (h1:Lk p m (c+1) a ρ (.error y) c'):Lk p m c e ρ (.error y) c'
 |ifT {c e ρ a b d x c1 r c'} (h:c<m) (ho:e.op=19) (ha:e.args=[a,b,d]) (h1:Lk p m (c+1) a ρ (.ok x) c1) (hb:x.plain.bool=true) (h2:Lk p m c1 b ρ r c'):Lk p m c e ρ r c'
 |ifF {c e ρ a b d x c1 r c'} (h:c<m) (ho:e.op=19) (ha:e.args=[a,b,d]) (h1:Lk p m (c+1) a ρ (.ok x) c1) (hb:x.plain.bool=false) (h2:Lk p m c1 d ρ r c'):Lk p m c e ρ r c'
 |caE {c e ρ a b d y c'} (h:c<m) (ho:e.op=20) (ha:e.args=[a,b,d]) (h1:Lk p m (c+1) a ρ (.error y) c'):Lk p m c e ρ (.error y) c'
 |caN {c e ρ a b d x c1 r c'} (h:c<m) (ho:e.op=20) (ha:e.args=[a,b,d]) (h1:Lk p m (c+1) a ρ (.ok x) c1) (hb:x.head.isNil=true) (h2:Lk p m c1 b ρ r c'):Lk p m c e ρ r c'
 |caC {c e ρ a b d x c1 r c'} (h:c<m) (ho:e.op=20) (ha:e.args=[a,b,d]) (h1:Lk p m (c+1) a ρ (.ok x) c1) (hb:x.head.isNil=false) (h2:Lk p m c1 d (.bind e.tail x.tail (.bind e.name x.head ρ)) r c'):Lk p m c e ρ r c'
 |lt {c e ρ a b r c'} (h:c<m) (ho:e.op=21) (ha:e.args=[a,b]) (h1:Lk p m (c+1) b (.letrec e.name a ρ) r c'):Lk p m c e ρ r c'
 |stE {c e ρ a b y c'} (h:c<m) (ho:e.op=22) (ha:e.args=[a,b]) (h1:Lk p m (c+1) a ρ (.error y) c'):Lk p m c e ρ (.error y) c'
 |stV {c e ρ a b x c1 r c'} (h:c<m) (ho:e.op=22) (ha:e.args=[a,b]) (h1:Lk p m (c+1) a ρ (.ok x) c1) (h2:Lk p m c1 b (.bind e.name (.done x.plain x.head x.tail) ρ) r c'):Lk p m c e ρ r c'
 |unE {c e ρ a y c'} (h:c<m) (ho:14≤e.op∧e.op≤17) (ha:e.args=[a]) (h1:Lk p m (c+1) a ρ (.error y) c'):Lk p m c e ρ (.error y) c'
 |un {c e ρ a x c' r} (h:c<m) (ho:14≤e.op∧e.op≤17) (ha:e.args=[a]) (h1:Lk p m (c+1) a ρ (.ok x) c') (hr:Ap e.op [x.plain] r):Lk p m c e ρ (fin r) c'
 |biE {c e ρ a b y c'} (h:c<m) (ho:8≤e.op∧e.op≤13) (ha:e.args=[a,b]) (h1:Lk p m (c+1) a ρ (.error y) c'):Lk p m c e ρ (.error y) c'
 |biE2 {c e ρ a b x c1 y c'} (h:c<m) (ho:8≤e.op∧e.op≤13) (ha:e.args=[a,b]) (h1:Lk p m (c+1) a ρ (.ok x) c1) (h2:Lk p m c1 b ρ (.error y) c'):Lk p m c e ρ (.error y) c'
 |bi {c e ρ a b x c1 z c' r} (h:c<m) (ho:8≤e.op∧e.op≤13) (ha:e.args=[a,b]) (h1:Lk p m (c+1) a ρ (.ok x) c1) (h2:Lk p m c1 b ρ (.ok z) c') (hr:Ap e.op [x.plain,z.plain] r):Lk p m c e ρ (fin r) c'
theorem O5{α:Type}(r:Except Int α){β:Type}(b:β):JO r (fun y=>some ((Except.error y:Except Int α),b)) (fun x=>some ((Except.ok x:Except Int α),b))=some (r,b):=by cases r<;>rfl
def Mpp(p:AL)(mp:Ao):Prop:=∀nm f,hd p nm=some f→idx p.funcs (Ck mp nm)=some f
section
variable{φ:AZ}{N:Nat}{fs:List AE}{c m:Int}{mp:Ao}{e:AB}{ρ:Nm}
theorem Kf(h:c<m):A9 φ N fs c m mp e ρ=CT φ N fs c m mp e ρ:=by
 unfold A9
 rw [show decide (c≥m)=false from decide_eq_false om];rfl
theorem JA(h:(8≤e.op∧e.op≤17)∨(19≤e.op∧e.op≤22)):CT φ N fs c m mp e ρ=φ.mean_run_parts fs (IntKind.i64.wrap (c+1)) m mp e ρ:=by
 unfold CT Ki
 rw [show (e.op==1)=false by simp;omega,show (e.op==2)=false by simp;omega,show (e.op==3)=false by simp;omega,show (e.op==4)=false by simp;omega,show (e.op==5)=false by simp;omega,show (e.op==6)=false by simp;omega,show (e.op==7)=false by simp;omega,show (e.op==18)=false by simp;omega]
 simp only [cond_false]
 cases φ.mean_run_parts fs (IntKind.i64.wrap (c+1)) m mp e ρ with
 |none=>rfl
 |some x=>exact O5 x.1 x.2
end
section
variable{p:AL}{mp:Ao}{m:Nat}
theorem QQ(hp:WP p)(hmp:Mpp p mp)(hm:m≤16384){c:Nat}{e:AB}{ρ:Nm}{r:Except Int Al}{c':Nat}(h:Lk p m c e ρ r c'):
  Ev fun N=>mean_run_look N p.funcs c m mp e ρ=some (r,p.funcs,(c':Int),(m:Int)):=by
 have w1: ∀c:Nat,c<m→IntKind.i64.wrap ((c:Int)+1)=((c+1:Nat):Int):=fun c h=>by rw [wr om om];omega
 have lt: ∀c:Nat,c<m→(c:Int)< (m:Int):=fun c h=>om
 induction h with
 | @fuel c e ρ h=>
  refine Ev.down 1 (Ev.all fun N=>?_)
  show A9 _ N p.funcs c m mp e ρ=_
  unfold A9
  rw [show decide ((c:Int)≥(m:Int))=true from decide_eq_true om];rfl
 | @num c e ρ h ho=>
  refine Ev.down 1 (Ev.all fun N=>?_)
  show A9 _ N p.funcs c m mp e ρ=_
  rw [Kf (lt c h)];unfold CT;rw [ho,w1 c h];rfl
 | @tru c e ρ h ho=>
  refine Ev.down 1 (Ev.all fun N=>?_)
  show A9 _ N p.funcs c m mp e ρ=_
  rw [Kf (lt c h)];unfold CT;rw [ho,w1 c h];rfl
 | @fls c e ρ h ho=>
  refine Ev.down 1 (Ev.all fun N=>?_)
  show A9 _ N p.funcs c m mp e ρ=_
  rw [Kf (lt c h)];unfold CT;rw [ho,w1 c h];rfl
 | @nil c e ρ h ho=>
  refine Ev.down 1 (Ev.all fun N=>?_)
  show A9 _ N p.funcs c m mp e ρ=_
  rw [Kf (lt c h)];unfold CT;rw [ho,w1 c h];rfl
 | @fail c e ρ h ho=>
  refine Ev.down 1 (Ev.all fun N=>?_)
  show A9 _ N p.funcs c m mp e ρ=_
  rw [Kf (lt c h)];unfold CT;rw [ho,w1 c h];rfl
 | @vdone c e ρ x h ho hf=>
  refine Ev.down 2 (((SG hf).up 1).mono fun N hN=>?_)
  show A9 _ (N+1) p.funcs c m mp e ρ=_
  rw [Kf (lt c h)];unfold CT;rw [ho,w1 c h]
  show ((Da (N+1) ρ e.name).bind fun x1087=>_)=_
  rw [hN.1];rfl
 | @vlater c e ρ e' ρ' r c' h ho hf _ ih=>
  refine Ev.down 3 ((((SG hf).up 2).and ih).mono fun N hN=>?_)
  show A9 _ (N+2) p.funcs c m mp e ρ=_
  rw [Kf (lt c h)];unfold CT;rw [ho,w1 c h]
  show ((Da (N+2) ρ e.name).bind fun x1087=>_)=_
  rw [hN.1.1]
  show (((mean_run_look N p.funcs ((c+1:Nat):Int) m mp e' ρ').bind fun x29=>JO x29.1 (fun y43=>some ((Except.error y43:Except Int Al),x29.2.1,x29.2.2.1,x29.2.2.2)) fun r45=>some ((Except.ok r45:Except Int Al),x29.2.1,x29.2.2.1,x29.2.2.2)).bind fun x1098=>JO x1098.1 (fun y1116=>some ((Except.error y1116:Except Int Al),x1098.2.1,x1098.2.2.1,x1098.2.2.2)) fun r1118=>some ((Except.ok r1118:Except Int Al),x1098.2.1,x1098.2.2.1,x1098.2.2.2))=_
  rw [hN.2,Option.bind_some]
  dsimp only
  rw [O5,Option.bind_some]
  exact O5 _ _
 | @call c e ρ f r c' h ho hf hl _ ih=>
  have hfm:f∈p.funcs:=List.mem_of_find?_eq_some hf
  have hps:=(hp.fns f hfm).pars
  have loop: ∀(N k i:Nat) (acc:Nm),i≤f.params.length→f.params.length<i+k→mean_run_look N p.funcs ((c+1:Nat):Int) m mp f.body (Pa ρ (f.params.drop i) (e.args.drop i) acc)=some (r,p.funcs,(c':Int),(m:Int))→
    GJ (AZ.at N) p.funcs c m mp e ρ f k acc (i:Int)=some (r,p.funcs,(c':Int),(m:Int)):=by
   intro N k
   induction k with
   |zero=>intro i acc _ _;omega
   |succ k ihk=>
    intro i acc hi hk hN
    show I4 _ p.funcs c m mp e ρ f (GJ _ p.funcs c m mp e ρ f k) acc i=_
    unfold I4
    cases hd':decide ((i:Int)< (f.params.length:Int))
    ·have hd':=Do hd'
     have hi':i=f.params.length:=om
     rw [cond_false,w1 c h,Px]
     have e1:f.params.drop i=[]:=by rw [hi'];exact List.drop_length
     rw [e1] at hN
     have e2:Pa ρ [] (e.args.drop i) acc=acc:=by cases e.args.drop i<;>rfl
     rw [e2] at hN
     show ((mean_run_look N p.funcs ((c+1:Nat):Int) m mp f.body acc).bind fun x1655=>_)=_
     rw [hN]
     exact O5 _ _
    ·have hd':=CO hd'
     have i1:i<f.params.length:=om
     have i2:i<e.args.length:=om
     obtain ⟨x,hx,hx'⟩:=FV (xs:=f.params) (i:=(i:Int)) om hd'
     obtain ⟨a,ha,ha'⟩:=FV (xs:=e.args) (i:=(i:Int)) om om
     rw [cond_true,hx,Option.bind_some,ha,Option.bind_some,wr om om,show (i:Int)+1=((i+1:Nat):Int) by omega]
     refine ihk (i+1) (.bind x.name (.later a ρ) acc) om om ?_
     have e1:f.params.drop i=x::f.params.drop (i+1):=by
      rw [List.drop_eq_getElem_cons i1];congr 1
      have:=List.getElem?_eq_getElem i1
      rw [Int.toNat_natCast,this] at hx';exact Option.some.inj hx'
     have e2:e.args.drop i=a::e.args.drop (i+1):=by
      rw [List.drop_eq_getElem_cons i2];congr 1
      have:=List.getElem?_eq_getElem i2
      rw [Int.toNat_natCast,this] at ha';exact Option.some.inj ha'
     rw [e1,e2] at hN
     exact hN
  refine Ev.down 1 ((ih.and (MJ (f.params.length+1))).mono fun N hN=>?_)
  show A9 _ N p.funcs c m mp e ρ=_
  rw [Kf (lt c h)];unfold CT;rw [ho]
  show ((idx p.funcs (Ck mp e.name)).bind fun x1151=>GJ _ p.funcs c m mp e ρ x1151 N Nm.nil 0)=_
  rw [hmp _ _ hf,Option.bind_some]
  exact loop N N 0 .nil om om hN.1
 | @cons c e ρ a b h ho ha=>
  refine Ev.down 1 (Ev.all fun N=>?_)
  show A9 _ N p.funcs c m mp e ρ=_
  rw [Kf (lt c h)];unfold CT;rw [ho,w1 c h,ha];rfl
 | @ifE c e ρ a b d y c' h ho ha _ ih=>
  refine Ev.down 2 (ih.mono fun N hN=>?_)
  show A9 _ (N+1) p.funcs c m mp e ρ=_
  rw [Kf (lt c h),JA om,w1 c h]
  show A0 (AZ.at N) N p.funcs ((c+1:Nat):Int) m mp e ρ=_
  unfold A0;rw [ho,ha]
  show ((mean_run_look N p.funcs ((c+1:Nat):Int) m mp a ρ).bind fun x51=>_)=_
  rw [hN];rfl
 | @ifT c e ρ a b d x c1 r c' h ho ha _ hb _ ih1 ih2=>
  refine Ev.down 2 ((ih1.and ih2).mono fun N hN=>?_)
  show A9 _ (N+1) p.funcs c m mp e ρ=_
  rw [Kf (lt c h),JA om,w1 c h]
  show A0 (AZ.at N) N p.funcs ((c+1:Nat):Int) m mp e ρ=_
  unfold A0;rw [ho,ha]
  show ((mean_run_look N p.funcs ((c+1:Nat):Int) m mp a ρ).bind fun x51=>JO x51.1 _ fun r67=>bif r67.plain.bool then _ else _)=_
  rw [hN.1,Option.bind_some]
  show (bif x.plain.bool then ((mean_run_look N p.funcs (c1:Int) m mp b ρ).bind fun x107=>_) else _)=_
  rw [hb,cond_true,hN.2]
  exact O5 _ _
 | @ifF c e ρ a b d x c1 r c' h ho ha _ hb _ ih1 ih2=>
  refine Ev.down 2 ((ih1.and ih2).mono fun N hN=>?_)
  show A9 _ (N+1) p.funcs c m mp e ρ=_
  rw [Kf (lt c h),JA om,w1 c h]
  show A0 (AZ.at N) N p.funcs ((c+1:Nat):Int) m mp e ρ=_
  unfold A0;rw [ho,ha]
  show ((mean_run_look N p.funcs ((c+1:Nat):Int) m mp a ρ).bind fun x51=>JO x51.1 _ fun r67=>bif r67.plain.bool then _ else _)=_
  rw [hN.1,Option.bind_some]
  show (bif x.plain.bool then _ else ((mean_run_look N p.funcs (c1:Int) m mp d ρ).bind fun x107=>_))=_
  rw [hb,cond_false,hN.2]
  exact O5 _ _
 | @caE c e ρ a b d y c' h ho ha _ ih=>
  refine Ev.down 2 (ih.mono fun N hN=>?_)
  show A9 _ (N+1) p.funcs c m mp e ρ=_
  rw [Kf (lt c h),JA om,w1 c h]
  show A0 (AZ.at N) N p.funcs ((c+1:Nat):Int) m mp e ρ=_
  unfold A0;rw [ho,ha]
  show ((mean_run_look N p.funcs ((c+1:Nat):Int) m mp a ρ).bind fun x51=>_)=_
  rw [hN];rfl
 | @caN c e ρ a b d x c1 r c' h ho ha _ hb _ ih1 ih2=>
  refine Ev.down 2 ((ih1.and ih2).mono fun N hN=>?_)
  show A9 _ (N+1) p.funcs c m mp e ρ=_
  rw [Kf (lt c h),JA om,w1 c h]
  show A0 (AZ.at N) N p.funcs ((c+1:Nat):Int) m mp e ρ=_
  unfold A0;rw [ho,ha]
  show ((mean_run_look N p.funcs ((c+1:Nat):Int) m mp a ρ).bind fun x51=>JO x51.1 _ fun r67=>bif Th.isNil r67.head then _ else _)=_
  rw [hN.1,Option.bind_some]
  show (bif Th.isNil x.head then ((mean_run_look N p.funcs (c1:Int) m mp b ρ).bind fun x107=>_) else _)=_
  rw [hb,cond_true,hN.2]
  exact O5 _ _
 | @caC c e ρ a b d x c1 r c' h ho ha _ hb _ ih1 ih2=>
  refine Ev.down 2 ((ih1.and ih2).mono fun N hN=>?_)
  show A9 _ (N+1) p.funcs c m mp e ρ=_
  rw [Kf (lt c h),JA om,w1 c h]
  show A0 (AZ.at N) N p.funcs ((c+1:Nat):Int) m mp e ρ=_
  unfold A0;rw [ho,ha]
  show ((mean_run_look N p.funcs ((c+1:Nat):Int) m mp a ρ).bind fun x51=>JO x51.1 _ fun r67=>bif Th.isNil r67.head then _ else _)=_
  rw [hN.1,Option.bind_some]
  show (bif Th.isNil x.head then _ else ((mean_run_look N p.funcs (c1:Int) m mp d (.bind e.tail x.tail (.bind e.name x.head ρ))).bind fun x107=>_))=_
  rw [hb,cond_false,hN.2]
  exact O5 _ _
 | @lt c e ρ a b r c' h ho ha _ ih=>
  refine Ev.down 2 (ih.mono fun N hN=>?_)
  show A9 _ (N+1) p.funcs c m mp e ρ=_
  rw [Kf (lt c h),JA om,w1 c h]
  show A0 (AZ.at N) N p.funcs ((c+1:Nat):Int) m mp e ρ=_
  unfold A0;rw [ho,ha]
  have ea:JD a=some a:=rfl
  rw [show ((21:Int)==19)=false from rfl,cond_false,show ((21:Int)==20)=false from rfl,cond_false,show ((21:Int)==21)=true from rfl,cond_true,show idx [a,b] 0=some a from rfl,Option.bind_some,ea,Option.bind_some,show idx [a,b] 1=some b from rfl,Option.bind_some]
  show ((mean_run_look N p.funcs ((c+1:Nat):Int) m mp b (.letrec e.name a ρ)).bind fun x662=>_)=_
  rw [hN]
  exact O5 _ _
 | @stE c e ρ a b y c' h ho ha _ ih=>
  refine Ev.down 2 (ih.mono fun N hN=>?_)
  show A9 _ (N+1) p.funcs c m mp e ρ=_
  rw [Kf (lt c h),JA om,w1 c h]
  show A0 (AZ.at N) N p.funcs ((c+1:Nat):Int) m mp e ρ=_
  unfold A0;rw [ho,ha]
  show ((mean_run_look N p.funcs ((c+1:Nat):Int) m mp a ρ).bind fun x51=>_)=_
  rw [hN];rfl
 | @stV c e ρ a b x c1 r c' h ho ha _ _ ih1 ih2=>
  refine Ev.down 2 ((ih1.and ih2).mono fun N hN=>?_)
  show A9 _ (N+1) p.funcs c m mp e ρ=_
  rw [Kf (lt c h),JA om,w1 c h]
  show A0 (AZ.at N) N p.funcs ((c+1:Nat):Int) m mp e ρ=_
  unfold A0;rw [ho,ha]
  show ((mean_run_look N p.funcs ((c+1:Nat):Int) m mp a ρ).bind fun x51=>_)=_
  rw [hN.1,Option.bind_some]
  show ((mean_run_look N p.funcs (c1:Int) m mp b (.bind e.name (.done x.plain x.head x.tail) ρ)).bind fun x107=>_)=_
  rw [hN.2]
  exact O5 _ _
 | @unE c e ρ a y c' h ho ha _ ih=>
  refine Ev.down 5 ((ih.up 3).mono fun N hN=>?_)
  show A9 _ (N+4) p.funcs c m mp e ρ=_
  rw [Kf (lt c h),JA om,w1 c h]
  show A0 (AZ.at (N+3)) (N+3) p.funcs ((c+1:Nat):Int) m mp e ρ=_
  unfold A0
  rw [show (e.op==19)=false by simp;omega,show (e.op==20)=false by simp;omega,show (e.op==21)=false by simp;omega,show (e.op==22)=false by simp;omega]
  show BK _ (N+3) mp e ρ _ [] 0 p.funcs ((c+1:Nat):Int) m=_
  unfold BK
  rw [ha]
  show ((mean_run_look (N+3) p.funcs ((c+1:Nat):Int) m mp a ρ).bind fun x51=>_)=_
  rw [hN];rfl
 | @un c e ρ a x c' r h ho ha _ hr ih=>
  refine Ev.down 5 (((ih.up 3).and (MJ (2^54))).mono fun N hN=>?_)
  show A9 _ (N+4) p.funcs c m mp e ρ=_
  rw [Kf (lt c h),JA om,w1 c h]
  show A0 (AZ.at (N+3)) (N+3) p.funcs ((c+1:Nat):Int) m mp e ρ=_
  unfold A0
  rw [show (e.op==19)=false by simp;omega,show (e.op==20)=false by simp;omega,show (e.op==21)=false by simp;omega,show (e.op==22)=false by simp;omega]
  have hA:=(hr (N+3) (by have:=hN.2;omega)).1
  generalize hop:e.op=op at*
  show BK _ (N+3) mp e ρ (DJ (AZ.at (N+3)) (N+3) mp e ρ (N+2)) [] 0 p.funcs ((c+1:Nat):Int) m=_
  unfold BK
  rw [ha]
  show ((mean_run_look (N+3) p.funcs ((c+1:Nat):Int) m mp a ρ).bind fun x51=>_)=_
  rw [hN.1,Option.bind_some]
  show BK _ (N+3) mp e ρ (DJ (AZ.at (N+3)) (N+3) mp e ρ (N+1)) [x.plain] 1 p.funcs (c':Int) m=_
  unfold BK
  rw [ha,hop]
  show ((D7 (N+3) op [x.plain]).bind fun x1312=>bif (x1312.2 != 0) then _ else _)=_
  rw [hA,Option.bind_some,fin]
  cases (r.2 != 0)<;>rfl
 | @biE c e ρ a b y c' h ho ha _ ih=>
  refine Ev.down 5 ((ih.up 3).mono fun N hN=>?_)
  show A9 _ (N+4) p.funcs c m mp e ρ=_
  rw [Kf (lt c h),JA om,w1 c h]
  show A0 (AZ.at (N+3)) (N+3) p.funcs ((c+1:Nat):Int) m mp e ρ=_
  unfold A0
  rw [show (e.op==19)=false by simp;omega,show (e.op==20)=false by simp;omega,show (e.op==21)=false by simp;omega,show (e.op==22)=false by simp;omega]
  show BK _ (N+3) mp e ρ _ [] 0 p.funcs ((c+1:Nat):Int) m=_
  unfold BK
  rw [ha]
  show ((mean_run_look (N+3) p.funcs ((c+1:Nat):Int) m mp a ρ).bind fun x51=>_)=_
  rw [hN];rfl
 | @biE2 c e ρ a b x c1 y c' h ho ha _ _ ih1 ih2=>
  refine Ev.down 5 (((ih1.up 3).and (ih2.up 3)).mono fun N hN=>?_)
  show A9 _ (N+4) p.funcs c m mp e ρ=_
  rw [Kf (lt c h),JA om,w1 c h]
  show A0 (AZ.at (N+3)) (N+3) p.funcs ((c+1:Nat):Int) m mp e ρ=_
  unfold A0
  rw [show (e.op==19)=false by simp;omega,show (e.op==20)=false by simp;omega,show (e.op==21)=false by simp;omega,show (e.op==22)=false by simp;omega]
  show BK _ (N+3) mp e ρ (DJ (AZ.at (N+3)) (N+3) mp e ρ (N+2)) [] 0 p.funcs ((c+1:Nat):Int) m=_
  unfold BK
  rw [ha]
  show ((mean_run_look (N+3) p.funcs ((c+1:Nat):Int) m mp a ρ).bind fun x51=>_)=_
  rw [hN.1,Option.bind_some]
  show BK _ (N+3) mp e ρ (DJ (AZ.at (N+3)) (N+3) mp e ρ (N+1)) [x.plain] 1 p.funcs (c1:Int) m=_
  unfold BK
  rw [ha]
  show ((mean_run_look (N+3) p.funcs (c1:Int) m mp b ρ).bind fun x51=>_)=_
  rw [hN.2];rfl
 | @bi c e ρ a b x c1 z c' r h ho ha _ _ hr ih1 ih2=>
  refine Ev.down 5 ((((ih1.up 3).and (ih2.up 3)).and (MJ (2^54))).mono fun N hN=>?_)
  show A9 _ (N+4) p.funcs c m mp e ρ=_
  rw [Kf (lt c h),JA om,w1 c h]
  show A0 (AZ.at (N+3)) (N+3) p.funcs ((c+1:Nat):Int) m mp e ρ=_
  unfold A0
  rw [show (e.op==19)=false by simp;omega,show (e.op==20)=false by simp;omega,show (e.op==21)=false by simp;omega,show (e.op==22)=false by simp;omega]
  have hA:=(hr (N+3) (by have:=hN.2;omega)).1
  generalize hop:e.op=op at*
  show BK _ (N+3) mp e ρ (DJ (AZ.at (N+3)) (N+3) mp e ρ (N+2)) [] 0 p.funcs ((c+1:Nat):Int) m=_
  unfold BK
  rw [ha]
  show ((mean_run_look (N+3) p.funcs ((c+1:Nat):Int) m mp a ρ).bind fun x51=>_)=_
  rw [hN.1.1,Option.bind_some]
  show BK _ (N+3) mp e ρ (DJ (AZ.at (N+3)) (N+3) mp e ρ (N+1)) [x.plain] 1 p.funcs (c1:Int) m=_
  unfold BK
  rw [ha]
  show ((mean_run_look (N+3) p.funcs (c1:Int) m mp b ρ).bind fun x51=>_)=_
  rw [hN.1.2,Option.bind_some]
  show BK _ (N+3) mp e ρ (DJ (AZ.at (N+3)) (N+3) mp e ρ N) [x.plain,z.plain] 2 p.funcs (c':Int) m=_
  unfold BK
  rw [ha,hop]
  show ((D7 (N+3) op [x.plain,z.plain]).bind fun x1312=>bif (x1312.2 != 0) then _ else _)=_
  rw [hA,Option.bind_some,fin]
  cases (r.2 != 0)<;>rfl
end
end Fth
namespace Fth
open Go
def th0:Th:= .later ⟨0,[],[],0,(0,0),[],0⟩ .nil
def f0:AE:=⟨[],[],0,⟨0,[],[],0,(0,0),[],0⟩,0⟩
def hdR(o:Option AE):AE×Bool:=match o with |some f=>(f,true)|none=>(f0,false)
theorem LJ{α:Type}{l:List α}{i:Nat}{x:α}(h:l[i]?=some x):l.drop i=x::l.drop (i+1):=by
 obtain ⟨hi,rfl⟩:=List.getElem?_eq_some_iff.1 h
 exact List.drop_eq_getElem_cons hi
theorem QR{p:AL}{nm:List UInt8}{N:Nat}(hl:p.funcs.length≤1000000)(hN:p.funcs.length+2≤N):Ey N p nm=some (hdR (hd p nm)):=by
 have loop: ∀(k i:Nat),i≤p.funcs.length→p.funcs.length<i+k→JI p nm k (i:Int)=some (hdR ((p.funcs.drop i).find? fun f=>f.name==nm)):=by
  intro k
  induction k with
  |zero=>intro i _ _;omega
  |succ k ih=>
   intro i hi hk
   show KW p nm (JI p nm k) i=_
   unfold KW
   cases hc:decide ((i:Int)< (p.funcs.length:Int))
   ·have hc:=Do hc
    rw [cond_false,List.drop_eq_nil_of_le om];rfl
   ·have hc:=CO hc
    obtain ⟨f,hf,hf'⟩:=FV (xs:=p.funcs) (i:=(i:Int)) om hc
    rw [cond_true,hf,Option.bind_some,wr om om,show (i:Int)+1=((i+1:Nat):Int) by omega,LJ (by rwa [Int.toNat_natCast] at hf'),List.find?_cons]
    cases hn:(f.name==nm)
    ·rw [cond_false]
     exact ih (i+1) om om
    ·rfl
 have:=loop N 0 om om
 rw [List.drop_zero] at this
 exact this
def rth:Except Int Al→Th
 | .ok x=> .done x.plain x.head x.tail
 | .error _=>th0
def rwy:Except Int Al→Int
 | .ok _=>0
 | .error y=>y
section
variable{p:AL}{m:Nat}
theorem O6{c:Nat}{e:AB}{ρ:Nm}{r:Except Int Al}{c':Nat}(h:Lk p m c e ρ r c'): ∀y,r= .error y→y≠0:=by
 induction h with
 |fuel=>rintro y ⟨⟩;decide
 |fail=>rintro y ⟨⟩;decide
 |num=>rintro y ⟨⟩
 |tru=>rintro y ⟨⟩
 |fls=>rintro y ⟨⟩
 |nil=>rintro y ⟨⟩
 |vdone=>rintro y ⟨⟩
 |cons=>rintro y ⟨⟩
 |vlater _ _ _ _ ih=>exact ih
 |call _ _ _ _ _ ih=>exact ih
 |ifE _ _ _ _ ih=>exact ih
 |ifT _ _ _ _ _ _ _ ih=>exact ih
 |ifF _ _ _ _ _ _ _ ih=>exact ih
 |caE _ _ _ _ ih=>exact ih
 |caN _ _ _ _ _ _ _ ih=>exact ih
 |caC _ _ _ _ _ _ _ ih=>exact ih
 |lt _ _ _ _ ih=>exact ih
 |stE _ _ _ _ ih=>exact ih
 |stV _ _ _ _ _ _ ih=>exact ih
 |unE _ _ _ _ ih=>exact ih
 |biE _ _ _ _ ih=>exact ih
 |biE2 _ _ _ _ _ _ ih=>exact ih
 | @un c e ρ a x c' r=>
  intro y hy
  unfold fin at hy
  cases hr:(r.2 != 0)
  ·rw [hr] at hy;cases hy
  ·rw [hr] at hy;cases hy;exact Li hr
 | @bi c e ρ a b x c1 z c' r=>
  intro y hy
  unfold fin at hy
  cases hr:(r.2 != 0)
  ·rw [hr] at hy;cases hy
  ·rw [hr] at hy;cases hy;exact Li hr
theorem XL{N:Nat}{c y:Int}{e:AB}{ρ:Nm}(hy:y≠0):ref11_Machine_look (N+1) ⟨p,m,c,y⟩ e ρ=some (th0,⟨p,m,c,y⟩):=by
 show BI _ N ⟨p,m,c,y⟩ e ρ=_
 unfold BI
 rw [show (((Ak.mk p m c y).why != 0))=true by simpa using hy];rfl
theorem QS{φ:AT}{N c:Nat}{e:AB}{ρ:Nm}(h:c<m)(h1:e.op≠1):BI φ N ⟨p,m,c,0⟩ e ρ=CB φ N ⟨p,m,c,0⟩ e ρ (bif e.op==2 then e.op==2 else e.op==3):=by
 unfold BI
 rw [show (((Ak.mk p m c 0).why != 0))=false from rfl,cond_false,show decide ((Ak.mk p m c 0).cost≥(Ak.mk p m c 0).most)=false from decide_eq_false (by simp only;omega),cond_false,show (e.op==1)=false by simpa using h1,cond_false]
 cases (e.op==2)<;>rfl
theorem ABa{φ:AT}{N c:Nat}{e:AB}{ρ:Nm}(h:c<m)(hm:m≤16384)(ho:(8≤e.op∧e.op≤17)∨(19≤e.op∧e.op≤22)):BI φ N ⟨p,m,c,0⟩ e ρ=φ.ref11_Machine_inside ⟨p,m,((c+1:Nat):Int),0⟩ e ρ:=by
 rw [QS h om,show (e.op==2)=false by simp;omega,show (e.op==3)=false by simp;omega]
 unfold CB
 rw [cond_false,cond_false,show (e.op==4)=false by simp;omega,show (e.op==5)=false by simp;omega,show (e.op==6)=false by simp;omega,show (e.op==7)=false by simp;omega,show (e.op==18)=false by simp;omega]
 simp only [cond_false]
 rw [wr om om,show (c:Int)+1=((c+1:Nat):Int) by omega]
 show ((φ.ref11_Machine_inside ⟨p,m,((c+1:Nat):Int),0⟩ e ρ).bind fun x824=>some (x824.1,x824.2))=_
 cases φ.ref11_Machine_inside ⟨p,m,((c+1:Nat):Int),0⟩ e ρ<;>rfl
theorem Wz(hp:WP p)(hm:m≤16384){c:Nat}{e:AB}{ρ:Nm}{r:Except Int Al}{c':Nat}(h:Lk p m c e ρ r c'):
  Ev fun N=>ref11_Machine_look N ⟨p,m,c,0⟩ e ρ=some (rth r,⟨p,m,c',rwy r⟩):=by
 have w1: ∀c:Nat,c<m→IntKind.i64.wrap ((c:Int)+1)=((c+1:Nat):Int):=fun c h=>by rw [wr om om];omega
 have go: ∀{c:Nat} {e:AB} {ρ:Nm} {r:Except Int Al} {c':Nat},c<m→(8≤e.op∧e.op≤17)∨(19≤e.op∧e.op≤22)→(Ev fun N=>BQ (AT.at N) N ⟨p,m,((c+1:Nat):Int),0⟩ e ρ=some (rth r,⟨p,m,c',rwy r⟩))→
   Ev fun N=>ref11_Machine_look N ⟨p,m,c,0⟩ e ρ=some (rth r,⟨p,m,c',rwy r⟩):=fun {c e ρ r c'} h ho hE=>by
  refine Ev.down 2 (hE.mono fun N hN=>?_)
  show BI (AT.at (N+1)) (N+1) ⟨p,m,c,0⟩ e ρ=_
  rw [ABa h hm ho]
  exact hN
 induction h with
 | @fuel c e ρ h=>
  refine Ev.down 1 (Ev.all fun N=>?_)
  show BI _ N ⟨p,m,c,0⟩ e ρ=_
  unfold BI
  rw [show (((Ak.mk p m c 0).why != 0))=false from rfl,cond_false,show decide ((Ak.mk p m c 0).cost≥(Ak.mk p m c 0).most)=true from decide_eq_true (by simp only;omega)];rfl
 | @num c e ρ h ho=>
  refine Ev.down 1 (Ev.all fun N=>?_)
  show BI _ N ⟨p,m,c,0⟩ e ρ=_
  unfold BI
  rw [show (((Ak.mk p m c 0).why != 0))=false from rfl,cond_false,show decide ((Ak.mk p m c 0).cost≥(Ak.mk p m c 0).most)=false from decide_eq_false (by simp only;omega),ho,w1 c h];rfl
 | @tru c e ρ h ho=>
  refine Ev.down 1 (Ev.all fun N=>?_)
  show BI _ N ⟨p,m,c,0⟩ e ρ=_
  rw [QS h om];unfold CB;rw [ho,w1 c h];rfl
 | @fls c e ρ h ho=>
  refine Ev.down 1 (Ev.all fun N=>?_)
  show BI _ N ⟨p,m,c,0⟩ e ρ=_
  rw [QS h om];unfold CB;rw [ho,w1 c h];rfl
 | @nil c e ρ h ho=>
  refine Ev.down 1 (Ev.all fun N=>?_)
  show BI _ N ⟨p,m,c,0⟩ e ρ=_
  rw [QS h om];unfold CB;rw [ho,w1 c h];rfl
 | @fail c e ρ h ho=>
  refine Ev.down 1 (Ev.all fun N=>?_)
  show BI _ N ⟨p,m,c,0⟩ e ρ=_
  rw [QS h om];unfold CB;rw [ho,w1 c h];rfl
 | @vdone c e ρ x h ho hf=>
  refine Ev.down 2 (((SG hf).up 1).mono fun N hN=>?_)
  show BI _ (N+1) ⟨p,m,c,0⟩ e ρ=_
  rw [QS h om];unfold CB;rw [ho,w1 c h]
  show ((L6 (N+1) ρ e.name).bind fun x132=>_)=_
  rw [hN.2];rfl
 | @vlater c e ρ e' ρ' r c' h ho hf _ ih=>
  refine Ev.down 2 ((((SG hf).up 1).and ih).mono fun N hN=>?_)
  show BI _ (N+1) ⟨p,m,c,0⟩ e ρ=_
  rw [QS h om];unfold CB;rw [ho,w1 c h]
  show ((L6 (N+1) ρ e.name).bind fun x132=>_)=_
  rw [hN.1.2]
  show (((ref11_Machine_look N ⟨p,m,((c+1:Nat):Int),0⟩ e' ρ').bind fun x131=>some (x131.1,x131.2)).bind fun x142=>some (x142.1,x142.2))=_
  rw [hN.2];rfl
 | @call c e ρ f r c' h ho hf hl _ ih=>
  have hfm:f∈p.funcs:=List.mem_of_find?_eq_some hf
  have hps:=(hp.fns f hfm).pars
  have hpl:=hp.len
  have loop: ∀(N k i:Nat) (acc:Nm),i≤f.params.length→f.params.length<i+k→ref11_Machine_look N ⟨p,m,((c+1:Nat):Int),0⟩ f.body (Pa ρ (f.params.drop i) (e.args.drop i) acc)=some (rth r,⟨p,m,c',rwy r⟩)→
    Ip (AT.at N) ⟨p,m,c,0⟩ e ρ f.params f.body.op f.body.name f.body.tail f.body.type_ f.body.num f.body.args f.body.at_ k acc (i:Int)=some (rth r,⟨p,m,c',rwy r⟩):=by
   intro N k
   induction k with
   |zero=>intro i acc _ _;omega
   |succ k ihk=>
    intro i acc hi hk hN
    show Jx _ ⟨p,m,c,0⟩ e ρ f.params f.body.op f.body.name f.body.tail f.body.type_ f.body.num f.body.args f.body.at_ (Ip _ ⟨p,m,c,0⟩ e ρ f.params f.body.op f.body.name f.body.tail f.body.type_ f.body.num f.body.args f.body.at_ k) acc i=_
    unfold Jx
    cases hd':decide ((i:Int)< (e.args.length:Int))
    ·have hd':=Do hd'
     have hi':i=f.params.length:=om
     rw [cond_false,w1 c h,Px]
     have e1:f.params.drop i=[]:=by rw [hi'];exact List.drop_length
     rw [e1] at hN
     have e2:Pa ρ [] (e.args.drop i) acc=acc:=by cases e.args.drop i<;>rfl
     rw [e2] at hN
     show ((ref11_Machine_look N ⟨p,m,((c+1:Nat):Int),0⟩ f.body acc).bind fun x493=>_)=_
     rw [hN];rfl
    ·have hd':=CO hd'
     have i1:i<f.params.length:=om
     obtain ⟨x,hx,hx'⟩:=FV (xs:=f.params) (i:=(i:Int)) om om
     obtain ⟨a,ha,ha'⟩:=FV (xs:=e.args) (i:=(i:Int)) om hd'
     rw [cond_true,hx,Option.bind_some,ha,Option.bind_some,wr om om,show (i:Int)+1=((i+1:Nat):Int) by omega]
     refine ihk (i+1) (.bind x.name (.later a ρ) acc) om om ?_
     rw [Int.toNat_natCast] at hx' ha'
     rw [LJ hx',LJ ha'] at hN
     exact hN
  refine Ev.down 1 ((ih.and (MJ (f.params.length+p.funcs.length+2))).mono fun N hN=>?_)
  show BI _ N ⟨p,m,c,0⟩ e ρ=_
  rw [QS h om];unfold CB;rw [ho]
  show ((Ey N p e.name).bind fun x551=>Lp (AT.at N) N ⟨p,m,c,0⟩ e ρ x551.1.params x551.1.body.op x551.1.body.name x551.1.body.tail x551.1.body.type_ x551.1.body.num x551.1.body.args x551.1.body.at_)=_
  rw [QR om om,hf,Option.bind_some]
  exact loop N N 0 .nil om om hN.1
 | @cons c e ρ a b h ho ha=>
  refine Ev.down 1 (Ev.all fun N=>?_)
  show BI _ N ⟨p,m,c,0⟩ e ρ=_
  rw [QS h om];unfold CB Lq;rw [ho,w1 c h,ha];rfl
 | @ifE c e ρ a b d y c' h ho ha h1 ih=>
  have hy:=O6 h1 y rfl
  refine go h om (Ev.down 1 ((ih.up 1).mono fun N hN=>?_))
  unfold BQ;rw [ho,ha]
  show ((ref11_Machine_look (N+1) ⟨p,m,((c+1:Nat):Int),0⟩ a ρ).bind fun x44=>_)=_
  rw [hN]
  show ((ref11_Machine_look (N+1) ⟨p,m,c',y⟩ d ρ).bind fun x154=>_)=_
  rw [XL hy];rfl
 | @ifT c e ρ a b d x c1 r c' h ho ha _ hb _ ih1 ih2=>
  refine go h om ((ih1.and ih2).mono fun N hN=>?_)
  unfold BQ;rw [ho,ha]
  show ((ref11_Machine_look N ⟨p,m,((c+1:Nat):Int),0⟩ a ρ).bind fun x44=>_)=_
  rw [hN.1]
  show (bif x.plain.bool then ((ref11_Machine_look N ⟨p,m,c1,0⟩ b ρ).bind fun x154=>some (x154.1,x154.2)) else _)=_
  rw [hb,cond_true,hN.2];rfl
 | @ifF c e ρ a b d x c1 r c' h ho ha _ hb _ ih1 ih2=>
  refine go h om ((ih1.and ih2).mono fun N hN=>?_)
  unfold BQ;rw [ho,ha]
  show ((ref11_Machine_look N ⟨p,m,((c+1:Nat):Int),0⟩ a ρ).bind fun x44=>_)=_
  rw [hN.1]
  show (bif x.plain.bool then _ else ((ref11_Machine_look N ⟨p,m,c1,0⟩ d ρ).bind fun x154=>some (x154.1,x154.2)))=_
  rw [hb,cond_false,hN.2];rfl
 | @caE c e ρ a b d y c' h ho ha h1 ih=>
  have hy:=O6 h1 y rfl
  refine go h om (Ev.down 1 ((ih.up 1).mono fun N hN=>?_))
  unfold BQ;rw [ho,ha]
  show ((ref11_Machine_look (N+1) ⟨p,m,((c+1:Nat):Int),0⟩ a ρ).bind fun x44=>_)=_
  rw [hN,Option.bind_some]
  show (bif (y != 0) then DQ (AT.at (N+1)) e ρ (th0,⟨p,m,c',y⟩) true else _)=_
  rw [show (y != 0)=true by simpa using hy,cond_true]
  unfold DQ
  rw [ha]
  show ((ref11_Machine_look (N+1) ⟨p,m,c',y⟩ b ρ).bind fun x273=>_)=_
  rw [XL hy];rfl
 | @caN c e ρ a b d x c1 r c' h ho ha _ hb _ ih1 ih2=>
  refine go h om ((ih1.and ih2).mono fun N hN=>?_)
  unfold BQ;rw [ho,ha]
  show ((ref11_Machine_look N ⟨p,m,((c+1:Nat):Int),0⟩ a ρ).bind fun x44=>_)=_
  rw [hN.1,Option.bind_some]
  show DQ (AT.at N) e ρ (.done x.plain x.head x.tail,⟨p,m,c1,0⟩) (!!x.head.isNil)=_
  unfold DQ
  rw [ha,hb]
  show ((ref11_Machine_look N ⟨p,m,c1,0⟩ b ρ).bind fun x273=>_)=_
  rw [hN.2];rfl
 | @caC c e ρ a b d x c1 r c' h ho ha _ hb _ ih1 ih2=>
  refine go h om ((ih1.and ih2).mono fun N hN=>?_)
  unfold BQ;rw [ho,ha]
  show ((ref11_Machine_look N ⟨p,m,((c+1:Nat):Int),0⟩ a ρ).bind fun x44=>_)=_
  rw [hN.1,Option.bind_some]
  show DQ (AT.at N) e ρ (.done x.plain x.head x.tail,⟨p,m,c1,0⟩) (!!x.head.isNil)=_
  unfold DQ
  rw [ha,hb]
  show ((ref11_Machine_look N ⟨p,m,c1,0⟩ d (.bind e.tail x.tail (.bind e.name x.head ρ))).bind fun x273=>_)=_
  rw [hN.2];rfl
 | @lt c e ρ a b r c' h ho ha _ ih=>
  refine go h om (ih.mono fun N hN=>?_)
  unfold BQ
  rw [ho,ha,show ((21:Int)==19)=false from rfl,cond_false,show ((21:Int)==20)=false from rfl,cond_false,show ((21:Int)==21)=true from rfl,cond_true,show idx [a,b] 0=some a from rfl,Option.bind_some,show idx [a,b] 1=some b from rfl,Option.bind_some]
  show ((ref11_Machine_look N ⟨p,m,((c+1:Nat):Int),0⟩ b (.letrec e.name a ρ)).bind fun x735=>_)=_
  rw [hN];rfl
 | @stE c e ρ a b y c' h ho ha h1 ih=>
  have hy:=O6 h1 y rfl
  refine go h om (Ev.down 1 ((ih.up 1).mono fun N hN=>?_))
  unfold BQ;rw [ho,ha]
  show ((ref11_Machine_look (N+1) ⟨p,m,((c+1:Nat):Int),0⟩ a ρ).bind fun x44=>_)=_
  rw [hN]
  show ((ref11_Machine_look (N+1) ⟨p,m,c',y⟩ b (.bind e.name th0 ρ)).bind fun x154=>_)=_
  rw [XL hy];rfl
 | @stV c e ρ a b x c1 r c' h ho ha _ _ ih1 ih2=>
  refine go h om ((ih1.and ih2).mono fun N hN=>?_)
  unfold BQ;rw [ho,ha]
  show ((ref11_Machine_look N ⟨p,m,((c+1:Nat):Int),0⟩ a ρ).bind fun x44=>_)=_
  rw [hN.1]
  show ((ref11_Machine_look N ⟨p,m,c1,0⟩ b (.bind e.name (.done x.plain x.head x.tail) ρ)).bind fun x154=>_)=_
  rw [hN.2];rfl
 | @unE c e ρ a y c' h ho ha h1 ih=>
  have hy:=O6 h1 y rfl
  refine go h om (Ev.down 3 ((ih.up 3).mono fun N hN=>?_))
  unfold BQ
  rw [show (e.op==19)=false by simp;omega,show (e.op==20)=false by simp;omega,show (e.op==21)=false by simp;omega,show (e.op==22)=false by simp;omega]
  show As (AT.at (N+3)) (N+3) e ρ (BU (AT.at (N+3)) (N+3) e ρ (N+2)) [] 0 p.funcs m ((c+1:Nat):Int) 0=_
  unfold As
  rw [ha]
  show ((ref11_Machine_look (N+3) ⟨p,m,((c+1:Nat):Int),0⟩ a ρ).bind fun x44=>_)=_
  rw [hN,Option.bind_some]
  show As (AT.at (N+3)) (N+3) e ρ (BU (AT.at (N+3)) (N+3) e ρ (N+1)) [Na] 1 p.funcs m c' y=_
  unfold As
  rw [ha]
  show (bif (y != 0) then _ else _)=_
  rw [show (y != 0)=true by simpa using hy];rfl
 | @un c e ρ a x c' r h ho ha _ hr ih=>
  refine go h om (Ev.down 3 (((ih.up 3).and (MJ (2^54))).mono fun N hN=>?_))
  unfold BQ
  rw [show (e.op==19)=false by simp;omega,show (e.op==20)=false by simp;omega,show (e.op==21)=false by simp;omega,show (e.op==22)=false by simp;omega]
  have hA:=(hr (N+3) (by have:=hN.2;omega)).2
  generalize hop:e.op=op at*
  show As (AT.at (N+3)) (N+3) e ρ (BU (AT.at (N+3)) (N+3) e ρ (N+2)) [] 0 p.funcs m ((c+1:Nat):Int) 0=_
  unfold As
  rw [ha]
  show ((ref11_Machine_look (N+3) ⟨p,m,((c+1:Nat):Int),0⟩ a ρ).bind fun x44=>_)=_
  rw [hN.1,Option.bind_some]
  show As (AT.at (N+3)) (N+3) e ρ (BU (AT.at (N+3)) (N+3) e ρ (N+1)) [x.plain] 1 p.funcs m c' 0=_
  unfold As
  rw [ha,hop]
  show ((G4 (N+3) op [x.plain]).bind fun x1299=>bif (x1299.2 != 0) then _ else _)=_
  rw [hA,Option.bind_some,fin]
  cases (r.2 != 0)<;>rfl
 | @biE c e ρ a b y c' h ho ha h1 ih=>
  have hy:=O6 h1 y rfl
  refine go h om (Ev.down 3 ((ih.up 3).mono fun N hN=>?_))
  unfold BQ
  rw [show (e.op==19)=false by simp;omega,show (e.op==20)=false by simp;omega,show (e.op==21)=false by simp;omega,show (e.op==22)=false by simp;omega]
  show As (AT.at (N+3)) (N+3) e ρ (BU (AT.at (N+3)) (N+3) e ρ (N+2)) [] 0 p.funcs m ((c+1:Nat):Int) 0=_
  unfold As
  rw [ha]
  show ((ref11_Machine_look (N+3) ⟨p,m,((c+1:Nat):Int),0⟩ a ρ).bind fun x44=>_)=_
  rw [hN,Option.bind_some]
  show As (AT.at (N+3)) (N+3) e ρ (BU (AT.at (N+3)) (N+3) e ρ (N+1)) [Na] 1 p.funcs m c' y=_
  unfold As
  rw [ha]
  show ((ref11_Machine_look (N+3) ⟨p,m,c',y⟩ b ρ).bind fun x44=>_)=_
  rw [XL hy,Option.bind_some]
  show As (AT.at (N+3)) (N+3) e ρ (BU (AT.at (N+3)) (N+3) e ρ N) [Na,Na] 2 p.funcs m c' y=_
  unfold As
  rw [ha]
  show (bif (y != 0) then _ else _)=_
  rw [show (y != 0)=true by simpa using hy];rfl
 | @biE2 c e ρ a b x c1 y c' h ho ha _ h2 ih1 ih2=>
  have hy:=O6 h2 y rfl
  refine go h om (Ev.down 3 (((ih1.up 3).and (ih2.up 3)).mono fun N hN=>?_))
  unfold BQ
  rw [show (e.op==19)=false by simp;omega,show (e.op==20)=false by simp;omega,show (e.op==21)=false by simp;omega,show (e.op==22)=false by simp;omega]
  show As (AT.at (N+3)) (N+3) e ρ (BU (AT.at (N+3)) (N+3) e ρ (N+2)) [] 0 p.funcs m ((c+1:Nat):Int) 0=_
  unfold As
  rw [ha]
  show ((ref11_Machine_look (N+3) ⟨p,m,((c+1:Nat):Int),0⟩ a ρ).bind fun x44=>_)=_
  rw [hN.1,Option.bind_some]
  show As (AT.at (N+3)) (N+3) e ρ (BU (AT.at (N+3)) (N+3) e ρ (N+1)) [x.plain] 1 p.funcs m c1 0=_
  unfold As
  rw [ha]
  show ((ref11_Machine_look (N+3) ⟨p,m,c1,0⟩ b ρ).bind fun x44=>_)=_
  rw [hN.2,Option.bind_some]
  show As (AT.at (N+3)) (N+3) e ρ (BU (AT.at (N+3)) (N+3) e ρ N) [x.plain,Na] 2 p.funcs m c' y=_
  unfold As
  rw [ha]
  show (bif (y != 0) then _ else _)=_
  rw [show (y != 0)=true by simpa using hy];rfl
 | @bi c e ρ a b x c1 z c' r h ho ha _ _ hr ih1 ih2=>
  refine go h om (Ev.down 3 ((((ih1.up 3).and (ih2.up 3)).and (MJ (2^54))).mono fun N hN=>?_))
  unfold BQ
  rw [show (e.op==19)=false by simp;omega,show (e.op==20)=false by simp;omega,show (e.op==21)=false by simp;omega,show (e.op==22)=false by simp;omega]
  have hA:=(hr (N+3) (by have:=hN.2;omega)).2
  generalize hop:e.op=op at*
  show As (AT.at (N+3)) (N+3) e ρ (BU (AT.at (N+3)) (N+3) e ρ (N+2)) [] 0 p.funcs m ((c+1:Nat):Int) 0=_
  unfold As
  rw [ha]
  show ((ref11_Machine_look (N+3) ⟨p,m,((c+1:Nat):Int),0⟩ a ρ).bind fun x44=>_)=_
  rw [hN.1.1,Option.bind_some]
  show As (AT.at (N+3)) (N+3) e ρ (BU (AT.at (N+3)) (N+3) e ρ (N+1)) [x.plain] 1 p.funcs m c1 0=_
  unfold As
  rw [ha]
  show ((ref11_Machine_look (N+3) ⟨p,m,c1,0⟩ b ρ).bind fun x44=>_)=_
  rw [hN.1.2,Option.bind_some]
  show As (AT.at (N+3)) (N+3) e ρ (BU (AT.at (N+3)) (N+3) e ρ N) [x.plain,z.plain] 2 p.funcs m c' 0=_
  unfold As
  rw [ha,hop]
  show ((G4 (N+3) op [x.plain,z.plain]).bind fun x1299=>bif (x1299.2 != 0) then _ else _)=_
  rw [hA,Option.bind_some,fin]
  cases (r.2 != 0)<;>rfl
end
end Fth
namespace Fth
open Go
def Q9(Γ:List AK)(nm:List UInt8):Option Int:=(Γ.find? fun x=>x.name==nm).map (·.type_)
def Win(Γ:List AK)(e:AB)(i:Nat):List AK:=
 if e.op=21∨(e.op=22∧i=1) then ⟨e.name,e.type_,0⟩::Γ else if e.op=20∧i=2 then ⟨e.tail,3,0⟩::⟨e.name,1,0⟩::Γ else Γ
def Wan(p:AL)(e:AB)(i:Nat)(t:Int):Int:=
 if e.op=14 then 2 else if e.op=18∧i=1 then 3 else if e.op=7 then (match (hd p e.name).bind fun f=>f.params[i]? with |some x=>x.type_|none=>1)
 else if e.op=19 then (if i=0 then 2 else t) else if e.op=20 then (if i=0 then 3 else t) else if e.op=21∨e.op=22 then (if i=0 then e.type_ else t) else 1
structure OwT(p:AL)(Γ:List AK)(e:AB)(t:Int):Prop where
 n:(e.op=1∨(8≤e.op∧e.op≤11)∨(15≤e.op∧e.op≤17))→t=1
 b:(e.op=2∨e.op=3∨(12≤e.op∧e.op≤14))→t=2
 l:(e.op=4∨e.op=18)→t=3
 f:e.op=5→t=e.type_
 v:e.op=6→Q9 Γ e.name=some t
 c:e.op=7→∃f,hd p e.name=some f∧f.params.length=e.args.length∧f.type_=t
inductive WTy(p:AL):List AK→AB→Int→Prop
 |mk (Γ:List AK) (e:AB) (t:Int) (ho:OwT p Γ e t) (hs: ∀i a,e.args[i]?=some a→WTy p (Win Γ e i) a (Wan p e i t)):WTy p Γ e t
theorem WTy.own{p Γ e t}(h:WTy p Γ e t):OwT p Γ e t:=by cases h;assumption
theorem WTy.sub{p Γ e t}(h:WTy p Γ e t): ∀i a,e.args[i]?=some a→WTy p (Win Γ e i) a (Wan p e i t):=by cases h;assumption
def ch:Th→Nat
 | .done _ _ t=>1+ch t
 |_=>0
mutual
inductive EOK(p:AL)(L:Nat):List AK→Nm→Prop
 |nil:EOK p L [] .nil
 |bind (x:AK) (Γ:List AK) (t:Th) (ρ:Nm) (ht:TOK p L x.type_ t) (he:EOK p L Γ ρ):EOK p L (x::Γ) (.bind x.name t ρ)
 |letrec (x:AK) (Γ:List AK) (e:AB) (ρ:Nm) (hw:WTy p (x::Γ) e x.type_) (hwe:WE e) (ht:1≤x.type_∧x.type_≤3) (he:EOK p L Γ ρ):EOK p L (x::Γ) (.letrec x.name e ρ)
inductive TOK(p:AL)(L:Nat):Int→Th→Prop
 |val (t:Int) (v:AH) (hv:VV t v) (h3:t=3→v.list=[]):TOK p L t (.done v .nil .nil)
 |pair (h t:Th) (h1:TOK p L 1 h) (h2:TOK p L 3 t) (hc:ch t<L):TOK p L 3 (.done v0 h t)
 |later (Γ:List AK) (ρ:Nm) (e:AB) (t:Int) (he:EOK p L Γ ρ) (hw:WTy p Γ e t) (hwe:WE e) (ht:1≤t∧t≤3):TOK p L t (.later e ρ)
end
section
variable{p:AL}{L m:Nat}
theorem XM{t:Int}{h:Th}(hh:TOK p L t h):h.isNil=false:=by cases hh<;>rfl
theorem QT{t:Int}{x:Al}(h:TOK p L t (.done x.plain x.head x.tail))(h3:t≠3):VV t x.plain:=by
 obtain ⟨pl,hh,tl⟩:=x
 cases h with
 |val _ _ hv _=>exact hv
 |pair=>exact absurd rfl h3
theorem ABA{nm:List UInt8}: ∀(Γ:List AK) (ρ:Nm) (t:Int),EOK p L Γ ρ→Q9 Γ nm=some t→∃th,fnd nm ρ=some th∧TOK p L t th:=by
 intro Γ
 induction Γ with
 |nil=>intro ρ t _ h;simp [Q9] at h
 |cons x Γ ih=>
  intro ρ t he h
  unfold Q9 at h
  rw [List.find?_cons] at h
  cases he with
  |bind _ _ th ρ ht he=>
   rw [fnd]
   cases hn:(x.name==nm)
   ·rw [hn] at h
    exact ih ρ t he h
   ·rw [hn] at h
    cases h
    exact ⟨th,rfl,ht⟩
  |letrec _ _ e ρ hw hwe ht he=>
   rw [fnd]
   cases hn:(x.name==nm)
   ·rw [hn] at h
    exact ih ρ t he h
   ·rw [hn] at h
    cases h
    exact ⟨_,rfl,.later (x::Γ) _ _ _ (.letrec x Γ e ρ hw hwe ht he) hw hwe ht⟩
theorem Ys{Γ:List AK}{ρ:Nm}(hρ:EOK p L Γ ρ): ∀(ps:List AK) (zs:List AB) (Δ:List AK) (acc:Nm),ps.length=zs.length→EOK p L Δ acc→
  (∀(i:Nat) (x:AK) (a:AB),ps[i]?=some x→zs[i]?=some a→WTy p Γ a x.type_∧WE a∧1≤x.type_∧x.type_≤3)→EOK p L (ps.reverse++Δ) (Pa ρ ps zs acc):=by
 intro ps
 induction ps with
 |nil=>intro zs Δ acc h he _;cases zs with
  |nil=>exact he
  |cons=>cases h
 |cons x ps ih=>
  intro zs Δ acc h he ha
  cases zs with
  |nil=>cases h
  |cons a zs=>
   have h0:=ha 0 x a rfl rfl
   have:=ih zs (x::Δ) (.bind x.name (.later a ρ) acc) (by simpa using h) (.bind x Δ _ acc (.later Γ ρ a x.type_ hρ h0.1 h0.2.1 h0.2.2) he) fun i y b h1 h2=>ha (i+1) y b h1 h2
   rw [List.reverse_cons,List.append_assoc]
   exact this
def Rt(p:AL)(L m:Nat)(t:Int)(r:Except Int Al)(c c':Nat):Prop:=
 match r with
 | .ok x=>TOK p L t (.done x.plain x.head x.tail)∧c<c'
 | .error y=>(y=60∧c'=m)∨((y=50∨y=51∨y=52)∧c<c')
theorem Rt.back{t t':Int}{r:Except Int Al}{c c1 c':Nat}(h:Rt p L m t r c1 c')(hc:c≤c1)(ht:t=t'):Rt p L m t' r c c':=by
 subst ht
 cases r with
 |ok x=>exact ⟨h.1,by have:=h.2;omega⟩
 |error y=>exact h.imp id fun h=>⟨h.1,by have:=h.2;omega⟩
theorem Rt.err{t t' y:Int}{c c1 c':Nat}(h:Rt p L m t (.error y) c1 c')(hc:c≤c1):Rt p L m t' (.error y) c c':=
 Or.imp id (fun h=>⟨h.1,by have:=h.2;omega⟩) h
theorem RA{α:Type}{l:List α}(h:l.length=2): ∃a b,l=[a,b]:=by
 match l,h with
 | [a,b],_=>exact ⟨a,b,rfl⟩
theorem Tf{α:Type}{l:List α}(h:l.length=3): ∃a b c,l=[a,b,c]:=by
 match l,h with
 | [a,b,c],_=>exact ⟨a,b,c,rfl⟩
theorem ABB{α:Type}{l:List α}(h:l.length=1): ∃a,l=[a]:=by
 match l,h with
 | [a],_=>exact ⟨a,rfl⟩
theorem Yt(hp:WP p)(hS: ∀f∈p.funcs,WTy p f.params.reverse f.body f.type_)(hL:1≤L): ∀(k c:Nat),m - c≤k→c≤m→∀(Γ:List AK) (e:AB) (ρ:Nm) (t:Int),EOK p L Γ ρ→WTy p Γ e t→WE e→1≤t∧t≤3→
  ∃r c',Lk p m c e ρ r c'∧c≤c'∧c'≤m∧Rt p L m t r c c':=by
 intro k
 induction k with
 |zero=>
  intro c hk hc Γ e ρ t _ _ _ _
  exact ⟨_,_,.fuel om,om,hc,.inl ⟨rfl,om⟩⟩
 |succ k ih=>
  intro c hk hc Γ e ρ t hρ hw he ht
  rcases Nat.lt_or_ge c m with h|h
  rotate_left
  ·exact ⟨_,_,.fuel h,om,hc,.inl ⟨rfl,om⟩⟩
  have ow:=hw.own
  have sb:=hw.sub
  have se:=he.sub
  have mem: ∀{i:Nat} {a:AB},e.args[i]?=some a→WE a:=fun h=>se _ (List.mem_of_getElem? h)
  rcases he.ar with ⟨h1,h2,h3⟩|h7| ⟨h1,h2,h3⟩| ⟨h1,h2,h3⟩| ⟨h1,h3⟩| ⟨h1,h2,h3⟩| ⟨h1,h2,h3⟩
  ·have hh:e.op=1∨e.op=2∨e.op=3∨e.op=4∨e.op=5∨e.op=6:=om
   rcases hh with ho|ho|ho|ho|ho|ho
   ·refine ⟨_,_,.num h ho,om,om,?_,om⟩
    rw [ow.n (.inl ho)]
    exact .val 1 _ (.inl ⟨rfl,rfl,he.num ho,rfl,rfl⟩) fun h=>by cases h
   ·refine ⟨_,_,.tru h ho,om,om,?_,om⟩
    rw [ow.b (.inl ho)]
    exact .val 2 _ (Xp _) fun h=>by cases h
   ·refine ⟨_,_,.fls h ho,om,om,?_,om⟩
    rw [ow.b (.inr (.inl ho))]
    exact .val 2 _ (Xp _) fun h=>by cases h
   ·refine ⟨_,_,.nil h ho,om,om,?_,om⟩
    rw [ow.l (.inl ho)]
    exact .val 3 _ (.inr (.inr ⟨rfl,rfl,rfl,rfl,by simp⟩)) fun _=>rfl
   ·exact ⟨_,_,.fail h ho,om,om,.inr ⟨.inr (.inr rfl),om⟩⟩
   ·obtain ⟨th,hf,htok⟩:=ABA Γ ρ t hρ (ow.v ho)
    cases th with
    |nil=>cases htok
    |done pl hh tl=>exact ⟨_,_,.vdone (x:=⟨pl,hh,tl⟩) h ho hf,om,om,htok,om⟩
    |later e' ρ'=>
     cases htok with
     |later Γ' _ _ _ he' hw' hwe' ht'=>
      obtain ⟨r,c',h1,h2,h3,h4⟩:=ih (c+1) om om Γ' e' ρ' t he' hw' hwe' ht'
      exact ⟨r,c',.vlater h ho hf h1,om,h3,h4.back om rfl⟩
  ·obtain ⟨f,hf,hl,hft⟩:=ow.c h7
   have hfm:f∈p.funcs:=List.mem_of_find?_eq_some hf
   have hfn:=hp.fns f hfm
   have henv:=Ys hρ f.params e.args [] .nil hl .nil fun i x a hx ha=>by
    have h1:=sb i a ha
    have e1:Win Γ e i=Γ:=by unfold Win;rw [if_neg om,if_neg om]
    have e2:Wan p e i t=x.type_:=by
     unfold Wan
     rw [if_neg om,if_neg om,if_pos h7,hf]
     show (match f.params[i]? with |some x=>x.type_|none=>1)=_
     rw [hx]
    rw [e1,e2] at h1
    exact ⟨h1,mem ha,hfn.ptyp x (List.mem_of_getElem? hx)⟩
   rw [List.append_nil] at henv
   obtain ⟨r,c',h1,h2,h3,h4⟩:=ih (c+1) om om _ f.body _ f.type_ henv (hS f hfm) hfn.body hfn.typ
   exact ⟨r,c',.call h h7 hf hl h1,om,h3,h4.back om hft⟩
  ·
   obtain ⟨a,b,ha⟩:=RA h3
   have wa:=sb 0 a (by rw [ha];rfl)
   have wb:=sb 1 b (by rw [ha];rfl)
   have e1: ∀i,Win Γ e i=Γ:=fun i=>by unfold Win;rw [if_neg om,if_neg om]
   have e2: ∀i,Wan p e i t=1:=fun i=>by unfold Wan;rw [if_neg om,if_neg om,if_neg om,if_neg om,if_neg om,if_neg om]
   rw [e1,e2] at wa wb
   obtain ⟨r1,c1,l1,l2,l3,l4⟩:=ih (c+1) om om Γ a ρ 1 hρ wa (mem (i:=0) (by rw [ha];rfl)) om
   cases r1 with
   |error y=>exact ⟨_,c1,.biE h ⟨h1,h2⟩ ha l1,om,l3,l4.err om⟩
   |ok x=>
    obtain ⟨r2,c2,k1,k2,k3,k4⟩:=ih c1 om l3 Γ b ρ 1 hρ wb (mem (i:=1) (by rw [ha];rfl)) om
    cases r2 with
    |error y=>exact ⟨_,c2,.biE2 h ⟨h1,h2⟩ ha l1 k1,om,k3,k4.err om⟩
    |ok z=>
     have vx:VV 1 x.plain:=QT l4.1 (by decide)
     have vz:VV 1 z.plain:=QT k4.1 (by decide)
     obtain ⟨r,hr,hA⟩:=V8 (op:=e.op) (args:=[x.plain,z.plain]) (.inl ⟨h1,h2,_,_,vx,vz,rfl⟩)
     refine ⟨fin r,c2,.bi h ⟨h1,h2⟩ ha l1 k1 hA,om,k3,?_⟩
     unfold fin
     rcases hr with ⟨hr0,hv⟩| ⟨hr0,_⟩
     ·rw [show (r.2 != 0)=false by rw [hr0];rfl]
      have hT:opT e.op=t:=by
       unfold opT
       rcases Decidable.em (e.op=12∨e.op=13∨e.op=14) with ho|ho
       ·rw [if_pos ho,ow.b om]
       ·rw [if_neg ho,ow.n om]
      refine ⟨.val t _ (hT▸hv) fun h3=>?_,om⟩
      have:=hT
      unfold opT at this
      split at this<;>omega
     ·rw [show (r.2 != 0)=true by simp;omega]
      exact .inr ⟨om,om⟩
  ·
   obtain ⟨a,ha⟩:=ABB h3
   have wa:=sb 0 a (by rw [ha];rfl)
   have e1: ∀i,Win Γ e i=Γ:=fun i=>by unfold Win;rw [if_neg om,if_neg om]
   have e2:Wan p e 0 t=if e.op=14 then 2 else 1:=by
    unfold Wan
    rcases Decidable.em (e.op=14) with ho|ho
    ·rw [if_pos ho,if_pos ho]
    ·rw [if_neg ho,if_neg ho,if_neg om,if_neg om,if_neg om,if_neg om,if_neg om]
   rw [e1,e2] at wa
   obtain ⟨r1,c1,l1,l2,l3,l4⟩:=ih (c+1) om om Γ a ρ _ hρ wa (mem (i:=0) (by rw [ha];rfl)) (by split<;>omega)
   cases r1 with
   |error y=>exact ⟨_,c1,.unE h ⟨h1,h2⟩ ha l1,om,l3,l4.err om⟩
   |ok x=>
    have vx:VV (if e.op=14 then 2 else 1) x.plain:=QT l4.1 (by split<;>decide)
    have hargs:(8≤e.op∧e.op≤13∧∃a b,VV 1 a∧VV 1 b∧[x.plain]=[a,b])∨(e.op=14∧∃a,VV 2 a∧[x.plain]=[a])∨(15≤e.op∧e.op≤17∧∃a,VV 1 a∧[x.plain]=[a]):=by
     rcases Decidable.em (e.op=14) with ho|ho
     ·rw [if_pos ho] at vx;exact .inr (.inl ⟨ho,_,vx,rfl⟩)
     ·rw [if_neg ho] at vx;exact .inr (.inr ⟨om,om,_,vx,rfl⟩)
    obtain ⟨r,hr,hA⟩:=V8 hargs
    refine ⟨fin r,c1,.un h ⟨h1,h2⟩ ha l1 hA,om,l3,?_⟩
    unfold fin
    rcases hr with ⟨hr0,hv⟩| ⟨hr0,_⟩
    ·rw [show (r.2 != 0)=false by rw [hr0];rfl]
     have hT:opT e.op=t:=by
      unfold opT
      rcases Decidable.em (e.op=12∨e.op=13∨e.op=14) with ho|ho
      ·rw [if_pos ho,ow.b om]
      ·rw [if_neg ho,ow.n om]
     refine ⟨.val t _ (hT▸hv) fun h3=>?_,om⟩
     have:=hT
     unfold opT at this
     split at this<;>omega
    ·rw [show (r.2 != 0)=true by simp;omega]
     exact .inr ⟨om,om⟩
  ·
   obtain ⟨a,b,ha⟩:=RA h3
   have wa:=sb 0 a (by rw [ha];rfl)
   have wb:=sb 1 b (by rw [ha];rfl)
   have e1: ∀i,Win Γ e i=Γ:=fun i=>by unfold Win;rw [if_neg om,if_neg om]
   have e2:Wan p e 0 t=1:=by unfold Wan;rw [if_neg om,if_neg om,if_neg om,if_neg om,if_neg om,if_neg om]
   have e3:Wan p e 1 t=3:=by unfold Wan;rw [if_neg om,if_pos ⟨h1,rfl⟩]
   rw [e1,e2] at wa
   rw [e1,e3] at wb
   refine ⟨_,_,.cons h h1 ha,om,om,?_,om⟩
   rw [ow.l (.inr h1)]
   exact .pair _ _ (.later Γ ρ a 1 hρ wa (mem (i:=0) (by rw [ha];rfl)) om) (.later Γ ρ b 3 hρ wb (mem (i:=1) (by rw [ha];rfl)) om) (by simp only [ch];omega)
  ·obtain ⟨a,b,d,ha⟩:=Tf h3
   have wa:=sb 0 a (by rw [ha];rfl)
   have wb:=sb 1 b (by rw [ha];rfl)
   have wd:=sb 2 d (by rw [ha];rfl)
   have ma:=mem (i:=0) (a:=a) (by rw [ha];rfl)
   have mb:=mem (i:=1) (a:=b) (by rw [ha];rfl)
   have md:=mem (i:=2) (a:=d) (by rw [ha];rfl)
   rcases (show e.op=19∨e.op=20 by omega) with ho|ho
   ·have e1: ∀i,Win Γ e i=Γ:=fun i=>by unfold Win;rw [if_neg om,if_neg om]
    have e2: ∀i,Wan p e i t=if i=0 then 2 else t:=fun i=>by unfold Wan;rw [if_neg om,if_neg om,if_neg om,if_pos ho]
    rw [e1,e2] at wa wb wd
    obtain ⟨r1,c1,l1,l2,l3,l4⟩:=ih (c+1) om om Γ a ρ 2 hρ wa ma om
    cases r1 with
    |error y=>exact ⟨_,c1,.ifE h ho ha l1,om,l3,l4.err om⟩
    |ok x=>
     cases hb:x.plain.bool
     ·obtain ⟨r2,c2,k1,k2,k3,k4⟩:=ih c1 om l3 Γ d ρ t hρ wd md ht
      exact ⟨r2,c2,.ifF h ho ha l1 hb k1,om,k3,k4.back om rfl⟩
     ·obtain ⟨r2,c2,k1,k2,k3,k4⟩:=ih c1 om l3 Γ b ρ t hρ wb mb ht
      exact ⟨r2,c2,.ifT h ho ha l1 hb k1,om,k3,k4.back om rfl⟩
   ·have e1: ∀i,i≠2→Win Γ e i=Γ:=fun i hi=>by unfold Win;rw [if_neg om,if_neg om]
    have e1':Win Γ e 2=⟨e.tail,3,0⟩::⟨e.name,1,0⟩::Γ:=by unfold Win;rw [if_neg om,if_pos ⟨ho,rfl⟩]
    have e2: ∀i,Wan p e i t=if i=0 then 3 else t:=fun i=>by unfold Wan;rw [if_neg om,if_neg om,if_neg om,if_neg om,if_pos ho]
    rw [e1 _ om,e2] at wa wb
    rw [e1',e2] at wd
    obtain ⟨r1,c1,l1,l2,l3,l4⟩:=ih (c+1) om om Γ a ρ 3 hρ wa ma om
    cases r1 with
    |error y=>exact ⟨_,c1,.caE h ho ha l1,om,l3,l4.err om⟩
    |ok x=>
     obtain ⟨pl,hx,tx⟩:=x
     have hl4:=l4.1
     simp only at hl4
     generalize hT:(3:Int)=T3 at hl4
     cases hl4 with
     |val _ _ hv h3=>
      obtain ⟨r2,c2,k1,k2,k3,k4⟩:=ih c1 om l3 Γ b ρ t hρ wb mb ht
      exact ⟨r2,c2,.caN h ho ha l1 rfl k1,om,k3,k4.back om rfl⟩
     |pair _ _ t1 t2 hc=>
      have henv:EOK p L (⟨e.tail,3,0⟩::⟨e.name,1,0⟩::Γ) (.bind e.tail tx (.bind e.name hx ρ)):= .bind ⟨e.tail,3,0⟩ _ _ _ t2 (.bind ⟨e.name,1,0⟩ _ _ _ t1 hρ)
      obtain ⟨r2,c2,k1,k2,k3,k4⟩:=ih c1 om l3 _ d _ t henv wd md ht
      exact ⟨r2,c2,.caC h ho ha l1 (XM t1) k1,om,k3,k4.back om rfl⟩
  ·obtain ⟨a,b,ha⟩:=RA h3
   have wa:=sb 0 a (by rw [ha];rfl)
   have wb:=sb 1 b (by rw [ha];rfl)
   have ma:=mem (i:=0) (a:=a) (by rw [ha];rfl)
   have mb:=mem (i:=1) (a:=b) (by rw [ha];rfl)
   have e2: ∀i,Wan p e i t=if i=0 then e.type_ else t:=fun i=>by unfold Wan;rw [if_neg om,if_neg om,if_neg om,if_neg om,if_neg om,if_pos om]
   have et:=he.typ om
   rcases (show e.op=21∨e.op=22 by omega) with ho|ho
   ·have e1: ∀i,Win Γ e i=⟨e.name,e.type_,0⟩::Γ:=fun i=>by unfold Win;rw [if_pos (.inl ho)]
    rw [e1,e2] at wa wb
    have henv:EOK p L (⟨e.name,e.type_,0⟩::Γ) (.letrec e.name a ρ):= .letrec ⟨e.name,e.type_,0⟩ Γ a ρ wa ma et hρ
    obtain ⟨r2,c2,k1,k2,k3,k4⟩:=ih (c+1) om om _ b _ t henv wb mb ht
    exact ⟨r2,c2,.lt h ho ha k1,om,k3,k4.back om rfl⟩
   ·have e1:Win Γ e 0=Γ:=by unfold Win;rw [if_neg om,if_neg om]
    have e1':Win Γ e 1=⟨e.name,e.type_,0⟩::Γ:=by unfold Win;rw [if_pos (.inr ⟨ho,rfl⟩)]
    rw [e1,e2] at wa
    rw [e1',e2] at wb
    obtain ⟨r1,c1,l1,l2,l3,l4⟩:=ih (c+1) om om Γ a ρ _ hρ wa ma et
    cases r1 with
    |error y=>exact ⟨_,c1,.stE h ho ha l1,om,l3,l4.err om⟩
    |ok x=>
     have henv:EOK p L (⟨e.name,e.type_,0⟩::Γ) (.bind e.name (.done x.plain x.head x.tail) ρ):= .bind ⟨e.name,e.type_,0⟩ Γ _ ρ l4.1 hρ
     obtain ⟨r2,c2,k1,k2,k3,k4⟩:=ih c1 om l3 _ b _ t henv wb mb ht
     exact ⟨r2,c2,.stV h ho ha l1 k1,om,k3,k4.back om rfl⟩
end
end Fth
namespace Fth
open Go
inductive Tg(p:AL)(m:Nat):Nat→Th→Except Int Al→Nat→Prop
 |done {c:Nat} {x:Al}:Tg p m c (.done x.plain x.head x.tail) (.ok x) c
 |later {c e ρ r c'} (h:Lk p m c e ρ r c'):Tg p m c (.later e ρ) r c'
inductive Wl(p:AL)(m:Nat):Nat→Th→Th→List (Nat×Nat)→Except Int AH→Nat→Prop
 |hE {c h t acc y c'} (hb:acc.length≤34000000000) (h1:Tg p m c h (.error y) c'):Wl p m c h t acc (.error y) c'
 |tE {c h t acc x c1 y c'} (hb:acc.length≤34000000000) (h1:Tg p m c h (.ok x) c1) (h2:Tg p m c1 t (.error y) c'):Wl p m c h t acc (.error y) c'
 |stop {c h t acc x c1 z c'} (hb:acc.length≤34000000000) (h1:Tg p m c h (.ok x) c1) (h2:Tg p m c1 t (.ok z) c') (hz:z.head.isNil=true):Wl p m c h t acc (.ok ⟨3,(0,0),false,acc++[x.plain.num]⟩) c'
 |go {c h t acc x c1 z c2 r c'} (hb:acc.length≤34000000000) (h1:Tg p m c h (.ok x) c1) (h2:Tg p m c1 t (.ok z) c2) (hz:z.head.isNil=false) (h3:Wl p m c2 z.head z.tail (acc++[x.plain.num]) r c'):Wl p m c h t acc r c'
inductive Wh(p:AL)(m:Nat):Nat→Al→Except Int AH→Nat→Prop
 |plain {c x} (hx:x.head.isNil=true):Wh p m c x (.ok x.plain) c
 |list {c x r c'} (hx:x.head.isNil=false) (h:Wl p m c x.head x.tail [] r c'):Wh p m c x r c'
inductive Rn(p:AL)(m:Nat):AB→Nm→Except Int AH→Nat→Prop
 |err {e ρ y c'} (h:Lk p m 0 e ρ (.error y) c'):Rn p m e ρ (.error y) c'
 |val {e ρ x c1 r c'} (h:Lk p m 0 e ρ (.ok x) c1) (h2:Wh p m c1 x r c'):Rn p m e ρ r c'
def rwv:Except Int AH→Int
 | .ok _=>0
 | .error y=>y
section
variable{p:AL}{m:Nat}{mp:Ao}
theorem Yu{c:Nat}{h:Th}{r:Except Int Al}{c':Nat}(ht:Tg p m c h r c'): ∀y,r= .error y→y≠0:=by
 cases ht with
 |done=>rintro y ⟨⟩
 |later h=>exact O6 h
theorem Nx(hp:WP p)(hmp:Mpp p mp)(hm:m≤16384){c:Nat}{h:Th}{r:Except Int Al}{c':Nat}(ht:Tg p m c h r c'):Ev fun N=>mean_callth N p.funcs c m mp h=some (r,p.funcs,(c':Int),(m:Int)):=by
 cases ht with
 |done=>exact Ev.down 1 (Ev.all fun N=>rfl)
 |later h=>
  rename_i e ρ
  refine Ev.down 2 ((QQ hp hmp hm h).mono fun N hN=>?_)
  show ((mean_run_look N p.funcs c m mp e ρ).bind fun x29=>JO x29.1 (fun y43=>some ((Except.error y43:Except Int Al),x29.2.1,x29.2.2.1,x29.2.2.2)) fun r45=>some ((Except.ok r45:Except Int Al),x29.2.1,x29.2.2.1,x29.2.2.2))=_
  rw [hN]
  exact O5 _ _
theorem P0(hp:WP p)(hm:m≤16384){c:Nat}{h:Th}{r:Except Int Al}{c':Nat}(ht:Tg p m c h r c'):Ev fun N=>ref11_Machine_of N ⟨p,m,c,0⟩ h=some (rth r,⟨p,m,c',rwy r⟩):=by
 cases ht with
 |done=>exact Ev.down 1 (Ev.all fun N=>rfl)
 |later h=>
  rename_i e ρ
  refine Ev.down 1 ((Wz hp hm h).mono fun N hN=>?_)
  show ((ref11_Machine_look N ⟨p,m,c,0⟩ e ρ).bind fun x131=>some (x131.1,x131.2))=_
  rw [hN];rfl
theorem Z1{N:Nat}{c y:Int}{h:Th}(hy:y≠0):ref11_Machine_of (N+1) ⟨p,m,c,y⟩ h=some (h,⟨p,m,c,y⟩):=by
 show LC _ N ⟨p,m,c,y⟩ h=_
 unfold LC
 rw [show (((Ak.mk p m c y).why != 0))=true by simpa using hy];rfl
theorem Ti{acc:List (Nat×Nat)}{z:Nat×Nat}(h:acc.length≤34000000000):GS 16 acc [z]=some ():=by
 obtain ⟨u,hu,_⟩:=Ff (b:=16) (xs:=acc) (ys:=[z]) (by decide) (by simp;omega)
 exact hu
theorem Z2(hp:WP p)(hmp:Mpp p mp)(hm:m≤16384){c:Nat}{h t:Th}{acc:List (Nat×Nat)}{r:Except Int AH}{c':Nat}(hw:Wl p m c h t acc r c')(hn:h.isNil=false):
  ∃k0,Ev fun N=>∀k,k0≤k→∀(a:Int) (b:Nat×Nat) (d:Bool) (l:List (Nat×Nat)),Dn N mp k p.funcs c m a b d l h t acc=some (r,p.funcs,(c':Int),(m:Int)):=by
 induction hw with
 | @hE c h t acc y c' hb h1=>
  refine ⟨1,(Nx hp hmp hm h1).mono fun N hN k hk a b d l=>?_⟩
  obtain ⟨k,rfl⟩: ∃j,k=j+1:=⟨k - 1,om⟩
  show CU N mp (Dn N mp k) p.funcs c m a b d l h t acc=_
  unfold CU
  rw [hn,hN];rfl
 | @tE c h t acc x c1 y c' hb h1 h2=>
  refine ⟨1,((Nx hp hmp hm h1).and (Nx hp hmp hm h2)).mono fun N hN k hk a b d l=>?_⟩
  obtain ⟨k,rfl⟩: ∃j,k=j+1:=⟨k - 1,om⟩
  show CU N mp (Dn N mp k) p.funcs c m a b d l h t acc=_
  unfold CU
  rw [hn,hN.1]
  show ((GS 16 acc [x.plain.num]).bind fun _=>(mean_callth N p.funcs c1 m mp t).bind fun x730=>_)=_
  rw [Ti hb,Option.bind_some,hN.2];rfl
 | @stop c h t acc x c1 z c' hb h1 h2 hz=>
  refine ⟨2,((Nx hp hmp hm h1).and (Nx hp hmp hm h2)).mono fun N hN k hk a b d l=>?_⟩
  obtain ⟨k,rfl⟩: ∃j,k=j+2:=⟨k - 2,om⟩
  show CU N mp (Dn N mp (k+1)) p.funcs c m a b d l h t acc=_
  unfold CU
  rw [hn,hN.1]
  show ((GS 16 acc [x.plain.num]).bind fun _=>(mean_callth N p.funcs c1 m mp t).bind fun x730=>_)=_
  rw [Ti hb,Option.bind_some,hN.2]
  show CU N mp (Dn N mp k) p.funcs c' m z.plain.type_ z.plain.num z.plain.bool z.plain.list z.head z.tail (acc++[x.plain.num])=_
  unfold CU
  rw [hz];rfl
 | @go c h t acc x c1 z c2 r c' hb h1 h2 hz _ ih=>
  obtain ⟨k0,ih⟩:=ih hz
  refine ⟨k0+1,(((Nx hp hmp hm h1).and (Nx hp hmp hm h2)).and ih).mono fun N hN k hk a b d l=>?_⟩
  obtain ⟨k,rfl⟩: ∃j,k=j+1:=⟨k - 1,om⟩
  show CU N mp (Dn N mp k) p.funcs c m a b d l h t acc=_
  unfold CU
  rw [hn,hN.1.1]
  show ((GS 16 acc [x.plain.num]).bind fun _=>(mean_callth N p.funcs c1 m mp t).bind fun x730=>_)=_
  rw [Ti hb,Option.bind_some,hN.1.2]
  exact hN.2 k om _ _ _ _
theorem VQ(hp:WP p)(hmp:Mpp p mp)(hm:m≤16384){c:Nat}{x:Al}{r:Except Int AH}{c':Nat}(hw:Wh p m c x r c'):Ev fun N=>D8 N p.funcs c m mp x=some (r,p.funcs,(c':Int),(m:Int)):=by
 cases hw with
 |plain hx=>
  refine Ev.all fun N=>?_
  unfold D8
  rw [hx];rfl
 |list hx h=>
  obtain ⟨k0,h⟩:=Z2 hp hmp hm h hx
  refine (h.and (MJ k0)).mono fun N hN=>?_
  unfold D8
  rw [hx]
  exact hN.1 N hN.2 _ _ _ _
theorem ABC(hp:WP p)(hm:m≤16384){c:Nat}{h t:Th}{acc:List (Nat×Nat)}{r:Except Int AH}{c':Nat}(hw:Wl p m c h t acc r c')(hn:h.isNil=false):
  ∃k0,Ev fun N=>∀k,k0≤k→∀(pl:AH),∃v,CH N k (.done pl h t) p.funcs m c 0 acc=some (v,⟨p,m,c',rwv r⟩)∧∀u,r= .ok u→v=u:=by
 induction hw with
 | @hE c h t acc y c' hb h1=>
  have hy:=Yu h1 y rfl
  refine ⟨2,Ev.down 1 (((P0 hp hm h1).up 1).mono fun N hN k hk pl=>?_)⟩
  obtain ⟨k,rfl⟩: ∃j,k=j+2:=⟨k - 2,om⟩
  refine ⟨⟨3,(0,0),false,acc++[Na.num]⟩,?_,fun u h=>by cases h⟩
  show B0 (N+1) (.done pl h t) p.funcs m c 0 acc (CH (N+1) (k+1)) (!h.isNil)=_
  unfold B0
  rw [hn]
  show ((ref11_Machine_of (N+1) ⟨p,m,c,0⟩ h).bind fun x764=>_)=_
  rw [hN]
  show ((GS 16 acc [Na.num]).bind fun _=>(ref11_Machine_of (N+1) ⟨p,m,c',y⟩ t).bind fun x901=>_)=_
  rw [Ti hb,Option.bind_some,Z1 hy,Option.bind_some]
  show D9 (N+1) (CH (N+1) k) t p.funcs m c' y (acc++[Na.num])=_
  unfold D9
  rw [show (y==0)=false by simpa using hy];rfl
 | @tE c h t acc x c1 y c' hb h1 h2=>
  have hy:=Yu h2 y rfl
  refine ⟨2,(((P0 hp hm h1).and (P0 hp hm h2)).mono fun N hN k hk pl=>?_)⟩
  obtain ⟨k,rfl⟩: ∃j,k=j+2:=⟨k - 2,om⟩
  refine ⟨⟨3,(0,0),false,acc++[x.plain.num]⟩,?_,fun u h=>by cases h⟩
  show B0 N (.done pl h t) p.funcs m c 0 acc (CH N (k+1)) (!h.isNil)=_
  unfold B0
  rw [hn]
  show ((ref11_Machine_of N ⟨p,m,c,0⟩ h).bind fun x764=>_)=_
  rw [hN.1]
  show ((GS 16 acc [x.plain.num]).bind fun _=>(ref11_Machine_of N ⟨p,m,c1,0⟩ t).bind fun x901=>_)=_
  rw [Ti hb,Option.bind_some,hN.2,Option.bind_some]
  show D9 N (CH N k) th0 p.funcs m c' y (acc++[x.plain.num])=_
  unfold D9
  rw [show (y==0)=false by simpa using hy];rfl
 | @stop c h t acc x c1 z c' hb h1 h2 hz=>
  refine ⟨2,(((P0 hp hm h1).and (P0 hp hm h2)).mono fun N hN k hk pl=>?_)⟩
  obtain ⟨k,rfl⟩: ∃j,k=j+2:=⟨k - 2,om⟩
  refine ⟨⟨3,(0,0),false,acc++[x.plain.num]⟩,?_,fun u h=>by cases h;rfl⟩
  show B0 N (.done pl h t) p.funcs m c 0 acc (CH N (k+1)) (!h.isNil)=_
  unfold B0
  rw [hn]
  show ((ref11_Machine_of N ⟨p,m,c,0⟩ h).bind fun x764=>_)=_
  rw [hN.1]
  show ((GS 16 acc [x.plain.num]).bind fun _=>(ref11_Machine_of N ⟨p,m,c1,0⟩ t).bind fun x901=>_)=_
  rw [Ti hb,Option.bind_some,hN.2,Option.bind_some]
  show B0 N (.done z.plain z.head z.tail) p.funcs m c' 0 (acc++[x.plain.num]) (CH N k) (!z.head.isNil)=_
  unfold B0
  rw [hz];rfl
 | @go c h t acc x c1 z c2 r c' hb h1 h2 hz _ ih=>
  obtain ⟨k0,ih⟩:=ih hz
  refine ⟨k0+1,((((P0 hp hm h1).and (P0 hp hm h2)).and ih).mono fun N hN k hk pl=>?_)⟩
  obtain ⟨k,rfl⟩: ∃j,k=j+1:=⟨k - 1,om⟩
  obtain ⟨v,hv,hv'⟩:=hN.2 k om z.plain
  refine ⟨v,?_,hv'⟩
  show B0 N (.done pl h t) p.funcs m c 0 acc (CH N k) (!h.isNil)=_
  unfold B0
  rw [hn]
  show ((ref11_Machine_of N ⟨p,m,c,0⟩ h).bind fun x764=>_)=_
  rw [hN.1.1]
  show ((GS 16 acc [x.plain.num]).bind fun _=>(ref11_Machine_of N ⟨p,m,c1,0⟩ t).bind fun x901=>_)=_
  rw [Ti hb,Option.bind_some,hN.1.2]
  exact hv
theorem ABD(hp:WP p)(hm:m≤16384){c:Nat}{x:Al}{r:Except Int AH}{c':Nat}(hw:Wh p m c x r c'):Ev fun N=>∃v,IA N ⟨p,m,c,0⟩ (.done x.plain x.head x.tail)=some (v,⟨p,m,c',rwv r⟩)∧∀u,r= .ok u→v=u:=by
 cases hw with
 |plain hx=>
  refine Ev.all fun N=>⟨x.plain,?_,fun u h=>by cases h;rfl⟩
  show Gi N ⟨p,m,c,0⟩ (.done x.plain x.head x.tail) (!!x.head.isNil)=_
  rw [hx];rfl
 |list hx h=>
  obtain ⟨k0,h⟩:=ABC hp hm h hx
  refine (h.and (MJ k0)).mono fun N hN=>?_
  obtain ⟨v,hv,hv'⟩:=hN.1 N hN.2 x.plain
  refine ⟨v,?_,hv'⟩
  show Gi N ⟨p,m,c,0⟩ (.done x.plain x.head x.tail) (!!x.head.isNil)=_
  rw [hx]
  exact hv
def Rv(m:Nat)(t:Int)(r:Except Int AH)(c':Nat):Prop:=
 match r with
 | .ok v=>VV t v∧0<c'∧v.list.length≤34000000001
 | .error y=>(y=60∧c'=m)∨((y=50∨y=51∨y=52)∧0<c')
variable{L:Nat}
theorem RB(hp:WP p)(hS: ∀f∈p.funcs,WTy p f.params.reverse f.body f.type_)(hL:1≤L){c:Nat}(hc:c≤m){t:Int}{h:Th}(ht:TOK p L t h):
  ∃r c',Tg p m c h r c'∧c≤c'∧c'≤m∧(∀y,r= .error y→(y=60∧c'=m)∨((y=50∨y=51∨y=52)∧c<c'))∧(∀x,r= .ok x→TOK p L t (.done x.plain x.head x.tail)∧(c<c'∨(c'=c∧ch x.tail<ch h))):=by
 cases ht with
 |val _ v hv h3=>exact ⟨_,_,.done (x:=⟨v,.nil,.nil⟩),om,hc,fun y h=>(by cases h),fun x h=>by cases h;exact ⟨.val t v hv h3,.inr ⟨rfl,by simp [ch]⟩⟩⟩
 |pair a b h1 h2 h3=>exact ⟨_,_,.done (x:=⟨v0,a,b⟩),om,hc,fun y h=>(by cases h),fun x h=>by cases h;exact ⟨.pair a b h1 h2 h3,.inr ⟨rfl,by simp [ch]⟩⟩⟩
 |later Γ ρ e _ he hw hwe ht=>
  obtain ⟨r,c',l1,l2,l3,l4⟩:=Yt hp hS hL (m - c) c om hc Γ e ρ t he hw hwe ht
  refine ⟨r,c',.later l1,l2,l3,fun y h=>?_,fun x h=>?_⟩
  ·subst h;exact l4
  ·subst h;exact ⟨l4.1,.inl l4.2⟩
theorem ABE(hp:WP p)(hS: ∀f∈p.funcs,WTy p f.params.reverse f.body f.type_)(hL:1≤L): ∀(k n c:Nat) (h t:Th) (acc:List (Nat×Nat)),m - c≤k→ch t≤n→c≤m→TOK p L 1 h→TOK p L 3 t→acc.length+ch t+(L+1)*(m - c)≤34000000000→(∀z∈acc,Gn z)→
  ∃r c',Wl p m c h t acc r c'∧c≤c'∧c'≤m∧(∀y,r= .error y→(y=60∧c'=m)∨((y=50∨y=51∨y=52)∧c<c'))∧∀v,r= .ok v→VV 3 v∧v.list.length≤34000000001:=by
 intro k
 induction k with
 |zero=>
  intro n
  induction n with
  |zero=>
   intro c h t acc hk hn hc h1 h3 hb hg
   obtain ⟨r,c1,t1,t2,t3,t4,t5⟩:=RB hp hS hL hc h1
   cases r with
   |error y=>exact ⟨_,c1,.hE om t1,t2,t3,fun z hz=>by cases hz;exact t4 y rfl,fun v hv=>by cases hv⟩
   |ok x=>
    have hc1:c1=c:=om
    obtain ⟨r2,c2,s1,s2,s3,s4,s5⟩:=RB hp hS hL t3 h3
    cases r2 with
    |error y=>exact ⟨_,c2,.tE om t1 s1,om,s3,fun z hz=>by cases hz;rw [hc1] at s4;exact s4 y rfl,fun v hv=>by cases hv⟩
    |ok z=>have:=(s5 z rfl).2;omega
  |succ n ih=>
   intro c h t acc hk hn hc h1 h3 hb hg
   obtain ⟨r,c1,t1,t2,t3,t4,t5⟩:=RB hp hS hL hc h1
   cases r with
   |error y=>exact ⟨_,c1,.hE om t1,t2,t3,fun z hz=>by cases hz;exact t4 y rfl,fun v hv=>by cases hv⟩
   |ok x=>
    have hc1:c1=c:=om
    have vx:=QT (t5 x rfl).1 (by decide)
    obtain ⟨a,ha,hae⟩:=vv1 vx
    have gx:Gn x.plain.num:=by rw [hae];exact .of ha
    obtain ⟨r2,c2,s1,s2,s3,s4,s5⟩:=RB hp hS hL t3 h3
    cases r2 with
    |error y=>exact ⟨_,c2,.tE om t1 s1,om,s3,fun z hz=>by cases hz;rw [hc1] at s4;exact s4 y rfl,fun v hv=>by cases hv⟩
    |ok z=>
     have s6:=s5 z rfl
     have hg': ∀w∈acc++[x.plain.num],Gn w:=fun w hw=>by
      rcases List.mem_append.1 hw with hw|hw
      ·exact hg w hw
      ·simp at hw;subst hw;exact gx
     obtain ⟨zp,zh,zt⟩:=z
     cases hz:zh.isNil
     ·have hp2:TOK p L 1 zh∧TOK p L 3 zt:=by
       have:=s6.1
       simp only at this
       generalize (3:Int)=T3 at this
       cases this with
       |val=>cases hz
       |pair _ _ a b _=>exact ⟨a,b⟩
      have hch:ch zt<ch t:=by have:=s6.2;simp only at this;omega
      obtain ⟨r,c',w1,w2,w3,w4,w5⟩:=ih c2 zh zt (acc++[x.plain.num]) om om s3 hp2.1 hp2.2 (by rw [List.length_append,List.length_singleton,show m - c2=m - c by omega];omega) hg'
      exact ⟨r,c',.go om t1 s1 hz w1,om,w3,fun y hy=>(w4 y hy).imp id fun h=>⟨h.1,om⟩,w5⟩
     ·exact ⟨_,c2,.stop om t1 s1 hz,om,s3,fun y h=>(by cases h),fun v hv=>by cases hv;exact ⟨.inr (.inr ⟨rfl,rfl,rfl,rfl,hg'⟩),by simp;omega⟩⟩
 |succ k ihk=>
  intro n
  induction n using Nat.strongRecOn with
  |ind n ih=>
   intro c h t acc hk hn hc h1 h3 hb hg
   obtain ⟨r,c1,t1,t2,t3,t4,t5⟩:=RB hp hS hL hc h1
   cases r with
   |error y=>exact ⟨_,c1,.hE om t1,t2,t3,fun z hz=>by cases hz;exact t4 y rfl,fun v hv=>by cases hv⟩
   |ok x=>
    have vx:=QT (t5 x rfl).1 (by decide)
    obtain ⟨a,ha,hae⟩:=vv1 vx
    have gx:Gn x.plain.num:=by rw [hae];exact .of ha
    obtain ⟨r2,c2,s1,s2,s3,s4,s5⟩:=RB hp hS hL t3 h3
    cases r2 with
    |error y=>exact ⟨_,c2,.tE om t1 s1,om,s3,fun z hz=>by cases hz;exact (s4 y rfl).imp id fun h=>⟨h.1,om⟩,fun v hv=>by cases hv⟩
    |ok z=>
     have s6:=s5 z rfl
     have hg': ∀w∈acc++[x.plain.num],Gn w:=fun w hw=>by
      rcases List.mem_append.1 hw with hw|hw
      ·exact hg w hw
      ·simp at hw;subst hw;exact gx
     obtain ⟨zp,zh,zt⟩:=z
     cases hz:zh.isNil
     ·have hp2:TOK p L 1 zh∧TOK p L 3 zt∧ch zt<L:=by
       have:=s6.1
       simp only at this
       generalize (3:Int)=T3 at this
       cases this with
       |val=>cases hz
       |pair _ _ a b c=>exact ⟨a,b,c⟩
      rcases Nat.lt_or_ge c c2 with hlt|hge
      ·have hmul:(L+1)*(m - c2)+(L+1)≤(L+1)*(m - c):=by
        have:=Nat.mul_le_mul_left (L+1) (show m - c2+1≤m - c by omega)
        rw [Nat.mul_add,Nat.mul_one] at this;exact this
       obtain ⟨r,c',w1,w2,w3,w4,w5⟩:=ihk (ch zt) c2 zh zt (acc++[x.plain.num]) om om s3 hp2.1 hp2.2.1 (by rw [List.length_append,List.length_singleton];omega) hg'
       exact ⟨r,c',.go om t1 s1 hz w1,om,w3,fun y hy=>(w4 y hy).imp id fun h=>⟨h.1,om⟩,w5⟩
      ·have hch:ch zt<ch t:=by have:=s6.2;simp only at this;omega
       obtain ⟨r,c',w1,w2,w3,w4,w5⟩:=ih (ch zt) om c2 zh zt (acc++[x.plain.num]) om om s3 hp2.1 hp2.2.1 (by rw [List.length_append,List.length_singleton,show m - c2=m - c by omega];omega) hg'
       exact ⟨r,c',.go om t1 s1 hz w1,om,w3,fun y hy=>(w4 y hy).imp id fun h=>⟨h.1,om⟩,w5⟩
     ·exact ⟨_,c2,.stop om t1 s1 hz,om,s3,fun y h=>(by cases h),fun v hv=>by cases hv;exact ⟨.inr (.inr ⟨rfl,rfl,rfl,rfl,hg'⟩),by simp;omega⟩⟩
theorem ABF(hp:WP p)(hS: ∀f∈p.funcs,WTy p f.params.reverse f.body f.type_)(hL:1≤L)(hL2:L≤1100000)(hm:m≤16384){Γ:List AK}{e:AB}{ρ:Nm}{t:Int}(he:EOK p L Γ ρ)(hw:WTy p Γ e t)(hwe:WE e)(ht:1≤t∧t≤3):
  ∃r c',Rn p m e ρ r c'∧c'≤m∧Rv m t r c':=by
 obtain ⟨r,c1,l1,l2,l3,l4⟩:=Yt hp hS hL (m - 0) 0 (Nat.le_refl _) (Nat.zero_le _) Γ e ρ t he hw hwe ht
 cases r with
 |error y=>exact ⟨_,c1,.err l1,l3,l4⟩
 |ok x=>
  obtain ⟨xp,xh,xt⟩:=x
  obtain ⟨h4,h5⟩:=l4
  simp only at h4
  cases hz:xh.isNil
  ·generalize hT:t=T at h4
   cases h4 with
   |val=>cases hz
   |pair _ _ a b hc=>
    subst hT
    have hmul:(L+1)*(m - c1)≤1100001*16384:=Nat.mul_le_mul om om
    obtain ⟨r,c',w1,w2,w3,w4,w5⟩:=ABE hp hS hL (m - c1) (ch xt) c1 xh xt [] (Nat.le_refl _) (Nat.le_refl _) l3 a b (by simp only [List.length_nil];omega) (by simp)
    refine ⟨r,c',.val l1 (.list hz w1),w3,?_⟩
    cases r with
    |ok v=>exact ⟨(w5 v rfl).1,om,(w5 v rfl).2⟩
    |error y=>exact (w4 y rfl).imp id fun h=>⟨h.1,om⟩
  ·generalize hT:t=T at h4
   cases h4 with
   |val _ v hv h3=>
    have hn:xp.list=[]:=by
     rcases hv with ⟨_,_,_,_,h⟩| ⟨_,_,_,h⟩| ⟨h,_⟩
     ·exact h
     ·exact h
     ·exact h3 h
    exact ⟨_,c1,.val l1 (.plain hz),l3,hv,h5,by simp only;rw [hn];simp⟩
   |pair _ _ a b hc=>rw [XM a] at hz;cases hz
end
end Fth
namespace Fth
open Go
def E2(p:Nat→Nat→Prop):Prop:=∃n,∀N k,n≤N→n≤k→p N k
theorem E2.and{p q:Nat→Nat→Prop}(hp:E2 p)(hq:E2 q):E2 fun N k=>p N k∧q N k:=by
 obtain ⟨n,hn⟩:=hp;obtain ⟨m,hm⟩:=hq
 exact ⟨n+m,fun N k h h'=>⟨hn N k om om,hm N k om om⟩⟩
theorem E2.mono{p q:Nat→Nat→Prop}(hp:E2 p)(h: ∀N k,p N k→q N k):E2 q:=let ⟨n,hn⟩:=hp;⟨n,fun N k a b=>h N k (hn N k a b)⟩
theorem E2.of{p:Nat→Prop}(h:Ev p):E2 fun N _=>p N:=let ⟨n,hn⟩:=h;⟨n,fun N _ a _=>hn N a⟩
theorem E2.diag{p:Nat→Nat→Prop}(h:E2 p):Ev fun N=>p N N:=let ⟨n,hn⟩:=h;⟨n,fun N a=>hn N N a a⟩
theorem Yv{p:Nat→Nat→Prop}(h:E2 fun N k=>p N (k+1)):E2 p:=by
 obtain ⟨n,hn⟩:=h
 refine ⟨n+1,fun N k a b=>?_⟩
 obtain ⟨j,rfl⟩: ∃j,k=j+1:=⟨k - 1,om⟩
 exact hn N j om om
def ET{α:Type}(f:Nat→Option α)(Q:α→Prop):Prop:=∃r,Q r∧Ev fun N=>f N=some r
def EL{α:Type}(f:Nat→Nat→Option α)(Q:α→Prop):Prop:=∃r,Q r∧E2 fun N k=>f N k=some r
section
variable{α β:Type}
theorem ET.of{x:Option α}{Q:α→Prop}(h:T x Q):ET (fun _=>x) Q:=by obtain ⟨r,e,h⟩:=h;exact ⟨r,h,Ev.all fun _=>e⟩
theorem ET.some{r:α}{Q:α→Prop}(h:Q r):ET (fun _=>Option.some r) Q:=⟨r,h,Ev.all fun _=>rfl⟩
theorem ET.bind{f:Nat→Option α}{g:Nat→α→Option β}{P:α→Prop}{Q:β→Prop}(h:ET f P)(k: ∀a,P a→ET (fun N=>g N a) Q):ET (fun N=>(f N).bind (g N)) Q:=by
 obtain ⟨a,ha,hE⟩:=h
 obtain ⟨b,hb,hE2⟩:=k a ha
 exact ⟨b,hb,(hE.and hE2).mono fun N h=>by show (f N).bind (g N)=_;rw [h.1];exact h.2⟩
theorem ET.cond{c:Bool}{f g:Nat→Option α}{Q:α→Prop}(h1:c=true→ET f Q)(h2:c=false→ET g Q):ET (fun N=>bif c then f N else g N) Q:=by
 cases c
 ·exact h2 rfl
 ·exact h1 rfl
theorem ET.mono{f:Nat→Option α}{P Q:α→Prop}(h:ET f P)(k: ∀a,P a→Q a):ET f Q:=let ⟨r,hr,e⟩:=h;⟨r,k r hr,e⟩
theorem ET.down{f:Nat→Option α}{Q:α→Prop}(h:ET (fun N=>f (N+1)) Q):ET f Q:=let ⟨r,hr,e⟩:=h;⟨r,hr,Ev.down 1 e⟩
theorem ET.cg{f g:Nat→Option α}{Q:α→Prop}(h:ET f Q)(e: ∀N,g N=f N):ET g Q:=by
 have:g=f:=funext e
 rw [this];exact h
theorem RP{f:Nat→Option α}{Q:α→Prop}(n:Nat)(h: ∃r,Q r∧∀N,n≤N→f N=Option.some r):ET f Q:=let ⟨r,hr,e⟩:=h;⟨r,hr,⟨n,e⟩⟩
theorem EL.bind{f:Nat→Option α}{g:Nat→Nat→α→Option β}{P:α→Prop}{Q:β→Prop}(h:ET f P)(k: ∀a,P a→EL (fun N k=>g N k a) Q):EL (fun N k=>(f N).bind (g N k)) Q:=by
 obtain ⟨a,ha,hE⟩:=h
 obtain ⟨b,hb,hE2⟩:=k a ha
 exact ⟨b,hb,((E2.of hE).and hE2).mono fun N k h=>by show (f N).bind (g N k)=_;rw [h.1];exact h.2⟩
theorem EL.cond{c:Bool}{f g:Nat→Nat→Option α}{Q:α→Prop}(h1:c=true→EL f Q)(h2:c=false→EL g Q):EL (fun N k=>bif c then f N k else g N k) Q:=by
 cases c
 ·exact h2 rfl
 ·exact h1 rfl
theorem ET.eq{x:Option α}{a:α}{g:Nat→α→Option β}{Q:β→Prop}(h:x=Option.some a)(k:ET (fun N=>g N a) Q):ET (fun N=>x.bind (g N)) Q:=by subst h;exact k
theorem EL.eq{x:Option α}{a:α}{g:Nat→Nat→α→Option β}{Q:β→Prop}(h:x=Option.some a)(k:EL (fun N k=>g N k a) Q):EL (fun N k=>x.bind (g N k)) Q:=by subst h;exact k
theorem ET.tb{x:Option α}{g:Nat→α→Option β}{P:α→Prop}{Q:β→Prop}(h:T x P)(k: ∀a,P a→ET (fun N=>g N a) Q):ET (fun N=>x.bind (g N)) Q:=by obtain ⟨a,e,ha⟩:=h;exact .eq e (k a ha)
theorem EL.tb{x:Option α}{g:Nat→Nat→α→Option β}{P:α→Prop}{Q:β→Prop}(h:T x P)(k: ∀a,P a→EL (fun N k=>g N k a) Q):EL (fun N k=>x.bind (g N k)) Q:=by obtain ⟨a,e,ha⟩:=h;exact .eq e (k a ha)
theorem EL.of{f:Nat→Option α}{Q:α→Prop}(h:ET f Q):EL (fun N _=>f N) Q:=let ⟨r,hr,e⟩:=h;⟨r,hr,E2.of e⟩
theorem EL.some{r:α}{Q:α→Prop}(h:Q r):EL (fun _ _=>Option.some r) Q:=⟨r,h,⟨0,fun _ _ _ _=>rfl⟩⟩
theorem EL.down{f:Nat→Nat→Option α}{Q:α→Prop}(h:EL (fun N k=>f N (k+1)) Q):EL f Q:=let ⟨r,hr,e⟩:=h;⟨r,hr,Yv e⟩
theorem EL.diag{f:Nat→Nat→Option α}{Q:α→Prop}(h:EL f Q):ET (fun N=>f N N) Q:=let ⟨r,hr,e⟩:=h;⟨r,hr,e.diag⟩
theorem EL.mono{f:Nat→Nat→Option α}{P Q:α→Prop}(h:EL f P)(k: ∀a,P a→Q a):EL f Q:=let ⟨r,hr,e⟩:=h;⟨r,k r hr,e⟩
end
theorem Ud{s:List UInt8}: ∀(m:Ao) (i j:Nat),(LF s m i).map (·.2)=(LF s m j).map (·.2):=by
 intro m
 induction m with
 |nil=>intro i j;rfl
 |cons x m ih=>
  intro i j
  obtain ⟨k,v⟩:=x
  simp only [LF]
  cases (s==k)
  ·exact ih _ _
  ·rfl
theorem V9(m:Ao)(s:List UInt8):Ck m s=((LF s m 0).map (·.2)).getD 0:=by
 unfold Ck
 cases LF s m 0<;>rfl
theorem Tj(s:List UInt8):Ck [] s=0:=rfl
theorem NW(k:List UInt8)(v:Int)(m:Ao)(s:List UInt8):Ck ((k,v)::m) s=bif s==k then v else Ck m s:=by
 rw [V9,V9]
 simp only [LF]
 cases (s==k)
 ·simp only [cond_false];rw [Ud m 1 0]
 ·rfl
theorem WB(m:Ao)(s:List UInt8):N5 m s=((LF s m 0).map (·.2)).isSome:=by
 unfold N5
 cases LF s m 0<;>rfl
theorem NX(k:List UInt8)(v:Int)(m:Ao)(s:List UInt8):N5 ((k,v)::m) s=bif s==k then true else N5 m s:=by
 rw [WB,WB]
 simp only [LF]
 cases (s==k)
 ·simp only [cond_false];rw [Ud m 1 0]
 ·rfl
theorem MV(s:List UInt8)(v:Int)(m:Ao)(t:List UInt8):Ck (Lm s v m) t=bif t==s then v else Ck m t:=by
 induction m with
 |nil=>exact NW s v [] t
 |cons x m ih=>
  obtain ⟨k,u⟩:=x
  rw [Lm]
  cases h:(s==k)
  ·rw [cond_false,NW,NW,ih]
   cases h1:(t==k)
   ·rfl
   ·have:t=k:=by simpa using h1
    have h2:(t==s)=false:=by
     rw [this];simp only [beq_eq_false_iff_ne,ne_eq] at h ⊢;exact fun e=>h e.symm
    rw [h2];rfl
  ·have e:s=k:=by simpa using h
   subst e
   rw [cond_true,NW,NW]
   cases (t==s)<;>rfl
theorem Xr(s:List UInt8)(v:Int)(m:Ao)(t:List UInt8):N5 (Lm s v m) t=bif t==s then true else N5 m t:=by
 induction m with
 |nil=>exact NX s v [] t
 |cons x m ih=>
  obtain ⟨k,u⟩:=x
  rw [Lm]
  cases h:(s==k)
  ·rw [cond_false,NX,NX,ih]
   cases h1:(t==k)
   ·rfl
   ·have:t=k:=by simpa using h1
    have h2:(t==s)=false:=by
     rw [this];simp only [beq_eq_false_iff_ne,ne_eq] at h ⊢;exact fun e=>h e.symm
    rw [h2];rfl
  ·have e:s=k:=by simpa using h
   subst e
   rw [cond_true,NX,NX]
   cases (t==s)<;>rfl
end Fth
namespace Fth
open Go
def bnd(e:AB)(i:Nat):List (List UInt8):=if e.op=21∨(e.op=22∧i=1) then [e.name] else if e.op=20∧i=2 then [e.name,e.tail] else []
def KI(p:AL)(e:AB):Prop:=e.op=7→∃f,hd p e.name=some f∧f.params.length=e.args.length
inductive Sc(p:AL):(List UInt8→Prop)→AB→Prop
 |mk (B:List UInt8→Prop) (e:AB) (hv:e.op=6→B e.name) (hc:KI p e) (hs: ∀i a,e.args[i]?=some a→Sc p (fun s=>s∈bnd e i∨B s) a):Sc p B e
theorem Yw{p:AL}{B:List UInt8→Prop}{e:AB}:Sc p B e↔(e.op=6→B e.name)∧KI p e∧∀i a,e.args[i]?=some a→Sc p (fun s=>s∈bnd e i∨B s) a:=
 ⟨fun h=>by cases h with |mk _ _ a b c=>exact ⟨a,b,c⟩,fun h=> .mk B e h.1 h.2.1 h.2.2⟩
def FN(p:AL):Prop:=∀i f,p.funcs[i]?=some f→f.name∉(p.funcs.take i).map (·.name)
def PN(f:AE):Prop:=∀i x,f.params[i]?=some x→x.name∉(f.params.take i).map (·.name)
def Z3(p:AL):Prop:=FN p∧∀f∈p.funcs,PN f∧Sc p (fun s=>s∈f.params.map (·.name)) f.body
def Pl(p:AL)(mp:Ao):Prop:=∀nm,(hd p nm=none∧Ck mp nm=0)∨∃(i:Nat) (f:AE),p.funcs[i]?=some f∧hd p nm=some f∧Ck mp nm=(i:Int)+1
theorem QU{y a:Int}{flt:AF}(hy:y≠0):T (Dr y a flt) fun r=>r.why≠0:=by
 unfold Dr JW
 exact T.cond (fun _=>T.cond (fun _=> .some hy) fun h=>by cases h) fun h=>T.cond (fun _=> .some hy) fun _=> .some (Bn h)
section
variable{p:AL}{mpl:Ao}(hpl:Pl p mpl)(hlen:p.funcs.length≤1000000)
include hpl hlen
theorem Yx{e:AB}{mi:Ao}{flt:AF}:T (Fn e mi mpl flt p) fun r=>r.why=0↔flt.why=0∧(e.op=6→Ck mi e.name≠0)∧KI p e:=by
 have j3: ∀b,(e.op≠6)→(b=false↔KI p e)→T (HD e flt b) fun r=>r.why=0↔flt.why=0∧(e.op=6→Ck mi e.name≠0)∧KI p e:=by
  intro b h6 hb
  unfold HD
  refine T.cond (fun h=>T.bind (QU (by decide)) fun r hr=> .some ?_) fun h=> .some ?_
  ·subst h
   exact ⟨fun h=>absurd h hr,fun h=>by have:=hb.2 h.2.2;cases this⟩
  ·subst h
   exact ⟨fun h=>⟨h,fun h'=>absurd h' h6,hb.1 rfl⟩,fun h=>h.1⟩
 have j2:e.op≠6→e.op≠7→T (GD e mpl flt p false) fun r=>r.why=0↔flt.why=0∧(e.op=6→Ck mi e.name≠0)∧KI p e:=by
  intro h6 h7
  unfold GD
  refine T.cond (fun h=>by cases h) fun _=>T.cond (fun h=>absurd (B9 h) h7) fun _=>j3 _ h6 ⟨fun _ h=>absurd h h7,fun _=>rfl⟩
 have j1:e.op≠6→T (HE e mpl flt p false) fun r=>r.why=0↔flt.why=0∧(e.op=6→Ck mi e.name≠0)∧KI p e:=by
  intro h6
  unfold HE
  refine T.cond (fun h=>by cases h) fun _=>T.cond (fun h=>?_) fun h=>j2 h6 (Bn h)
  have h7:=B9 h
  unfold GD
  rcases hpl e.name with ⟨hn,h0⟩| ⟨i,f,hi,hf,hm⟩
  ·rw [h0]
   refine T.cond (fun _=>T.bind (QU (by decide)) fun r hr=> .some ⟨fun h=>absurd h hr,fun h=>?_⟩) fun h=>by cases h
   obtain ⟨f,hf,_⟩:=h.2.2 h7
   rw [hn] at hf;cases hf
  ·rw [hm]
   have hil:=(List.getElem?_eq_some_iff.1 hi).1
   refine T.cond (fun h=>by have:=B9 h;omega) fun _=>T.cond (fun _=>?_) fun h=>absurd h7 (Bn h)
   rw [wr (x:=(i:Int)+1 - 1) om om,show (i:Int)+1 - 1=(i:Int) by omega]
   refine T.eq (CA hi) (j3 _ h6 ⟨fun h _=>⟨f,hf,?_⟩,fun h=>?_⟩)
   ·have:=Jp h;omega
   ·obtain ⟨g,hg,hl⟩:=h h7
    rw [hf] at hg;cases hg
    simp;omega
 unfold Fn
 refine T.cond (fun h=>?_) fun h=>j1 (Bn h)
 have h6:=B9 h
 unfold HE
 refine T.cond (fun h=>T.bind (QU (by decide)) fun r hr=> .some ⟨fun h=>absurd h hr,fun h'=>absurd (B9 h) (h'.2.1 h6)⟩) fun h=>T.cond (fun h=>by have:=B9 h;omega) fun h7=>?_
 unfold GD
 refine T.cond (fun h=>by cases h) fun _=>T.cond (fun h=>by have:=B9 h;omega) fun _=>?_
 unfold HD
 refine T.cond (fun h=>by cases h) fun _=> .some ⟨fun h'=>⟨h',fun _=>Bn h,fun h7=>om⟩,fun h=>h.1⟩
omit hpl hlen in
theorem XN(e:AB)(i:Nat):He e (i:Int)=some (bnd e i):=by
 unfold He JX KM bnd
 have e1:((i:Int)==1)=decide (i=1):=by rw [Bool.eq_iff_iff];simp;omega
 have e2:((i:Int)==2)=decide (i=2):=by rw [Bool.eq_iff_iff];simp;omega
 rw [e1,e2]
 cases h1:(e.op==21)
 ·have h1:=Bn h1
  cases h2:(e.op==22)
  ·have h2:=Bn h2
   rw [if_neg om]
   cases h3:(e.op==20)
   ·have h3:=Bn h3
    rw [if_neg om];rfl
   ·have h3:=B9 h3
    cases h4:decide (i=2)
    ·have h4:=Do h4;rw [if_neg om];rfl
    ·have h4:=CO h4;rw [if_pos ⟨h3,h4⟩];rfl
  ·have h2:=B9 h2
   cases h3:decide (i=1)
   ·have h3:=Do h3
    rw [if_neg om,if_neg om,show (e.op==20)=false by simp;omega];rfl
   ·have h3:=CO h3
    rw [if_pos (.inr ⟨h2,h3⟩)];rfl
 ·have h1:=B9 h1
  rw [if_pos (.inl h1)];rfl
omit hpl hlen in
theorem Z4(e:AB)(i:Nat):IN e (i:Int)=some (bnd e i):=XN e i
omit hpl hlen in
theorem XO(e:AB)(i:Nat):(bnd e i).length≤2:=by
 unfold bnd;split
 ·simp
 ·split<;>simp
theorem Z5: ∀(n:Nat) (e:AB),DZ e≤n→∀(C:List (List UInt8)) (mi:Ao) (flt:AF),(∀s,Ck mi s=(C.count s:Int))→C.length+2*n≤1000000000→
  ET (fun N=>scope_walk N e mi mpl flt p) fun r=>(∀s,Ck r.1 s=(C.count s:Int))∧(r.2.why=0↔flt.why=0∧Sc p (fun s=>s∈C) e):=by
 intro n
 induction n with
 |zero=>intro e he;have:=MT e;omega
 |succ n ih=>
  intro e he C mi flt hmi hC
  have hal:=Mj e.args
  have hes:=O0 e
  refine ET.down ?_
  show ET (fun N=>Kh (Ax.at N) N e mi mpl flt p) _
  unfold Kh
  refine ET.bind (.of (Yx hpl hlen)) fun f1 hf1=>?_
  have cc: ∀s,(C.count s:Int)≠0↔s∈C:=fun s=>by
   have:=List.count_pos_iff (a:=s) (l:=C)
   constructor
   ·intro h;exact this.1 om
   ·intro h;have:=this.2 h;omega
  have loop: ∀(j i:Nat),i+j=e.args.length→∀(mi:Ao) (f2:AF),(∀s,Ck mi s=(C.count s:Int))→
    EL (fun N k=>Cc (Ax.at N) N e mpl p k (i:Int) mi f2.why f2.at_) fun r=>(∀s,Ck r.1 s=(C.count s:Int))∧(r.2.why=0↔f2.why=0∧∀i' a,i≤i'→e.args[i']?=some a→Sc p (fun s=>s∈bnd e i'∨s∈C) a):=by
   intro j
   induction j with
   |zero=>
    intro i hi mi f2 hmi
    refine EL.down ?_
    show EL (fun N k=>Ia (Ax.at N) N e mpl p (Cc (Ax.at N) N e mpl p k) i mi f2.why f2.at_) _
    unfold Ia
    refine EL.cond (fun h=>by have:=CO h;omega) fun _=> .some ⟨hmi,fun h=>⟨h,fun i' a hi' ha=>?_⟩,fun h=>h.1⟩
    have:=(List.getElem?_eq_some_iff.1 ha).1
    omega
   |succ j ihj=>
    intro i hi mi f2 hmi
    refine EL.down ?_
    show EL (fun N k=>Ia (Ax.at N) N e mpl p (Cc (Ax.at N) N e mpl p k) i mi f2.why f2.at_) _
    unfold Ia
    refine EL.cond (fun _=>?_) fun h=>by have:=Do h;omega
    have hil:i<e.args.length:=om
    obtain ⟨a,ha⟩: ∃a,e.args[i]?=some a:=⟨_,List.getElem?_eq_getElem hil⟩
    have has:=Nu (List.mem_of_getElem? ha)
    refine EL.eq (CA ha) (EL.eq (XN e i) ?_)
    have hbl:=XO e i
    have l3: ∀(q t:Nat),t+q=(bnd e i).length→∀(m3:Ao) (w:Ao×AF),(∀s,Ck m3 s=(((bnd e i).drop t).count s+C.count s:Nat))→
      E2 (fun N k=>True)→∀(R:Ao×AF→Prop),(∀m4,(∀s,Ck m4 s=(C.count s:Int))→EL (fun N k=>Cc (Ax.at N) N e mpl p k ((i+1:Nat):Int) m4 w.2.why w.2.at_) R)→
      ∃r,R r∧∃n0,∀N k kk,n0≤N→n0≤k→n0≤kk→II i (Cc (Ax.at N) N e mpl p k) (bnd e i) w kk (t:Int) m3=some r:=by
     intro q
     induction q with
     |zero=>
      intro t ht m3 w hm3 _ R hR
      have hd0:(bnd e i).drop t=[]:=List.drop_eq_nil_of_le om
      obtain ⟨r,hr,n0,hn0⟩:=hR m3 (fun s=>by rw [hm3,hd0];simp)
      refine ⟨r,hr,n0+1,fun N k kk h1 h2 h3=>?_⟩
      obtain ⟨kk,rfl⟩: ∃j,kk=j+1:=⟨kk - 1,om⟩
      show IY i (Cc (Ax.at N) N e mpl p k) (bnd e i) w (II i (Cc (Ax.at N) N e mpl p k) (bnd e i) w kk) t m3=_
      unfold IY
      rw [show decide ((t:Int)< ((bnd e i).length:Int))=false from decide_eq_false om,cond_false,wr om om,show (i:Int)+1=((i+1:Nat):Int) by omega]
      exact hn0 N k om om
     |succ q ihq=>
      intro t ht m3 w hm3 ht2 R hR
      have htl:t< (bnd e i).length:=om
      obtain ⟨s0,hs0⟩: ∃s0,(bnd e i)[t]?=some s0:=⟨_,List.getElem?_eq_getElem htl⟩
      have hdr:=LJ hs0
      have h0:=hm3 s0
      have hc1:((bnd e i).drop t).count s0+C.count s0≤2+C.length:=by
       have a1:=List.count_le_length (a:=s0) (l:=(bnd e i).drop t)
       have a2:=List.count_le_length (a:=s0) (l:=C)
       simp at a1;omega
      obtain ⟨r,hr,n0,hn0⟩:=ihq (t+1) om (Lm s0 (Ck m3 s0 - 1) m3) w (fun s=>by
       rw [MV]
       cases hs:(s==s0)
       ·rw [cond_false,hm3,hdr,List.count_cons_of_ne (fun e=>by subst e;simp at hs)]
       ·have:s=s0:=by simpa using hs
        subst this
        rw [cond_true,hm3,hdr,List.count_cons_self];omega) ht2 R hR
      refine ⟨r,hr,n0+1,fun N k kk h1 h2 h3=>?_⟩
      obtain ⟨kk,rfl⟩: ∃j,kk=j+1:=⟨kk - 1,om⟩
      show IY i (Cc (Ax.at N) N e mpl p k) (bnd e i) w (II i (Cc (Ax.at N) N e mpl p k) (bnd e i) w kk) t m3=_
      unfold IY
      rw [show decide ((t:Int)< ((bnd e i).length:Int))=true from decide_eq_true om,cond_true,CA hs0,Option.bind_some,wr (x:=(t:Int)+1) om om,wr (x:=Ck m3 s0 - 1) om om,show (t:Int)+1=((t+1:Nat):Int) by omega]
      exact hn0 N k kk om om om
    have l2: ∀(q t:Nat),t+q=(bnd e i).length→∀(m2:Ao),(∀s,Ck m2 s=(((bnd e i).take t).count s+C.count s:Nat))→
      ∃r:Ao×AF,((∀s,Ck r.1 s=(C.count s:Int))∧(r.2.why=0↔f2.why=0∧∀i' a,i≤i'→e.args[i']?=some a→Sc p (fun s=>s∈bnd e i'∨s∈C) a))∧
       ∃n0,∀N k kk,n0≤N→n0≤k→n0≤kk→IJ (Ax.at N) N mpl p i f2.why f2.at_ (Cc (Ax.at N) N e mpl p k) a (bnd e i) kk (t:Int) m2=some r:=by
     intro q
     induction q with
     |zero=>
      intro t ht m2 hm2
      have htk:(bnd e i).take t=bnd e i:=List.take_of_length_le om
      obtain ⟨w,hw,hE⟩:=ih a om (bnd e i++C) m2 ⟨f2.why,f2.at_⟩ (fun s=>by rw [hm2,htk,List.count_append]) (by rw [List.length_append];omega)
      obtain ⟨n1,hn1⟩:=hE
      obtain ⟨r,hr,n0,hn0⟩:=l3 (bnd e i).length 0 om w.1 w (fun s=>by rw [hw.1,List.drop_zero,List.count_append]) ⟨0,fun _ _ _ _=>trivial⟩ (fun r=>(∀s,Ck r.1 s=(C.count s:Int))∧(r.2.why=0↔f2.why=0∧∀i' a,i≤i'→e.args[i']?=some a→Sc p (fun s=>s∈bnd e i'∨s∈C) a)) fun m4 hm4=>(ihj (i+1) om m4 w.2 hm4).mono fun r hr=>⟨hr.1,by
       rw [hr.2,hw.2]
       have eB:(fun s=>s∈bnd e i++C)=fun s=>s∈bnd e i∨s∈C:=funext fun s=>propext List.mem_append
       rw [eB]
       constructor
       ·rintro ⟨⟨h1,h2⟩,h3⟩
        refine ⟨h1,fun i' a' hi' ha'=>?_⟩
        rcases Nat.eq_or_lt_of_le hi' with rfl|hlt
        ·rw [ha] at ha';cases ha';exact h2
        ·exact h3 i' a' hlt ha'
       ·rintro ⟨h1,h2⟩
        exact ⟨⟨h1,h2 i a (Nat.le_refl _) ha⟩,fun i' a' hi' ha'=>h2 i' a' om ha'⟩⟩
      refine ⟨r,hr,n0+n1+1,fun N k kk h1 h2 h3=>?_⟩
      obtain ⟨kk,rfl⟩: ∃j,kk=j+1:=⟨kk - 1,om⟩
      show IZ (Ax.at N) N mpl p i f2.why f2.at_ (Cc (Ax.at N) N e mpl p k) a (bnd e i) (IJ (Ax.at N) N mpl p i f2.why f2.at_ (Cc (Ax.at N) N e mpl p k) a (bnd e i) kk) t m2=_
      unfold IZ
      rw [show decide ((t:Int)< ((bnd e i).length:Int))=false from decide_eq_false om,cond_false]
      show ((scope_walk N a m2 mpl ⟨f2.why,f2.at_⟩ p).bind fun x649=>_)=_
      have ew:scope_walk N a m2 mpl ⟨f2.why,f2.at_⟩ p=some w:=hn1 N om
      rw [ew,Option.bind_some]
      exact hn0 N k N om om om
     |succ q ihq=>
      intro t ht m2 hm2
      have htl:t< (bnd e i).length:=om
      obtain ⟨s0,hs0⟩: ∃s0,(bnd e i)[t]?=some s0:=⟨_,List.getElem?_eq_getElem htl⟩
      have htk:(bnd e i).take (t+1)=(bnd e i).take t++[s0]:=by rw [List.take_add_one,hs0];rfl
      have h0:=hm2 s0
      have hc1:((bnd e i).take t).count s0+C.count s0≤2+C.length:=by
       have a1:=List.count_le_length (a:=s0) (l:=(bnd e i).take t)
       have a2:=List.count_le_length (a:=s0) (l:=C)
       simp at a1;omega
      obtain ⟨r,hr,n0,hn0⟩:=ihq (t+1) om (Lm s0 (Ck m2 s0+1) m2) fun s=>by
       rw [MV,htk,List.count_append]
       cases hs:(s==s0)
       ·rw [cond_false,hm2,List.count_cons_of_ne (fun e=>by subst e;simp at hs)];simp
       ·have:s=s0:=by simpa using hs
        subst this
        rw [cond_true,hm2,List.count_singleton_self];omega
      refine ⟨r,hr,n0+1,fun N k kk h1 h2 h3=>?_⟩
      obtain ⟨kk,rfl⟩: ∃j,kk=j+1:=⟨kk - 1,om⟩
      show IZ (Ax.at N) N mpl p i f2.why f2.at_ (Cc (Ax.at N) N e mpl p k) a (bnd e i) (IJ (Ax.at N) N mpl p i f2.why f2.at_ (Cc (Ax.at N) N e mpl p k) a (bnd e i) kk) t m2=_
      unfold IZ
      rw [show decide ((t:Int)< ((bnd e i).length:Int))=true from decide_eq_true om,cond_true,CA hs0,Option.bind_some,wr (x:=(t:Int)+1) om om,wr (x:=Ck m2 s0+1) om om,show (t:Int)+1=((t+1:Nat):Int) by omega]
      exact hn0 N k kk om om om
    obtain ⟨r,hr,n0,hn0⟩:=l2 (bnd e i).length 0 om mi fun s=>by rw [hmi];simp
    exact ⟨r,hr,n0,fun N k h1 h2=>hn0 N k N h1 h2 h1⟩
  refine (loop e.args.length 0 om mi f1 hmi).diag.mono fun r hr=>⟨hr.1,?_⟩
  rw [hr.2,hf1,hmi,Yw,cc]
  constructor
  ·rintro ⟨⟨h1,h2,h3⟩,h4⟩;exact ⟨h1,h2,h3,fun i a ha=>h4 i a (Nat.zero_le _) ha⟩
  ·rintro ⟨h1,h2,h3,h4⟩;exact ⟨⟨h1,h2,h3⟩,fun i a _ ha=>h4 i a ha⟩
end
end Fth
