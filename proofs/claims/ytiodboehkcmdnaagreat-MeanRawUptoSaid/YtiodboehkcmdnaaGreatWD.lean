/- Part 4 of the proof: what it says holds of the given program; no condition. -/
import Derived.Test.YtiodboehkcmdnaaGreatProg
import Derived.KernelRfl
import Derived.Test.YtiodboehkcmdnaaGreatWC
set_option linter.all false
set_option exponentiation.threshold 3000
namespace Fth
open Go Go.Proofs Sh
set_option maxRecDepth 100000
set_option maxHeartbeats 8000000
theorem Oo(a9:AG)(ba:Nat)(au:AG.Good a9)(y:Col)(ad:World)(z:∀b,y b<10){q:Nat}{n:(List AO)}{bt:Value}{g:(List AJ)}{bu:Value}{bb:Nat}{bc:Aq}{a3:Nat}{f:AD}{bv:List Value}{e:AE}{bw:List Value}{ae:Int×(List AO)×(List AJ)×AD}(ai:Bk y ad 1 q [.map (some bb),bt,bu,.func (.func 52) #[] [Pt a3 0].toArray] 134)(aa:Slc AI y.F ad bt n)(af:Own Ab 87 y ad 4 bu g)(a4:Mp y ad 2 bb bc)(ag:Bk y ad 3 a3 bv 63)(c0:An.rep y.F ad bv f)(c1:AH.rep y.F ad bw e)(a:HA a9 ba n g bc f e=some ae):
  Calls PG 87 #[Pt q 0,Ag bw] ad fun c2 ap=>∃aq bx bz b0,c2=.returned (I ae.1)∧AS [1,3,4] y ad aq ap∧Bk aq ap 1 q [.map (some bb),bx,bz,.func (.func 52) #[] [Pt a3 0].toArray] 134∧Slc AI aq.F ap bx ae.2.1∧Own Ab 87 aq ap 4 bz ae.2.2.1∧Bk aq ap 3 a3 b0 63∧An.rep aq.F ap b0 ae.2.2.2:=by
 rw [HA] at a
 obtain ⟨av,aw,rfl⟩:=AT aa
 obtain ⟨ax,ay,rfl⟩:=Own.len af
 obtain rfl:=As c0
 obtain ⟨a5,a6,rfl,az⟩:=E1 (Ae c1)
 refine Ay Tryz.func87 Z Tryz.ntmps87 Z fun B ab r=>Sr<|Ef<|A0 y 20 Z Z fun bd c3 b1 an d=>Va (I 0)<|AA<|AR<|Sr<|Vx (Fz C8 Z)<|Vx (Ld Ge Z (Bc an Z))<|AA<|Af<|Am (fun a0 aj=>∃ak o be,a0=Env.puts ak [(0,Pt q 0),(3,Pt b1 0),(7,I e.op),(8,.bool be)]∧FI a9 ba n g bc f e be=some ae∧AS [] bd c3 o aj) ?_ ?_
 refine Sr<|Vr (.bool (e.op==2))<|Va (.bool (e.op==2))<|AA<|Cn a (fun c4 a=>?_) fun c4 a=>?_
 refine WC.skip<|⟨_,bd,(e.op==2),Pu,a,Rf⟩
 refine AL<|Vr (.bool (e.op==3))<|Va (.bool (e.op==3))<|AA<|⟨_,bd,(e.op==3),Pu,a,Rf⟩
 rintro _ aj ⟨ak,o,be,rfl,a,c⟩
 rw [FI] at a
 refine Cn a (fun c5 a=>?_) fun c5 a=>?_
 refine Sr<|Va (I 2)<|AA<|AQ ?_
 obtain rfl:=AK a
 refine O1 B ab Z (.tmp Z)<|have c6:=Y2 ai d c;have c7:=K2 AI aa d c;have c8:=Os (Os af d) c;have c9:=Y2 ag d c;⟨o,Sl av n aw,Sl ax g ay,[I f.why,I f.at_],Z,Ho (Tn (Mo [] d) c) z,c6,c7,c8,c9,(Ak (x:=f))⟩
 refine Sr<|Vr (.bool (e.op==4))<|Va (.bool (e.op==4))<|AA<|Cn a (fun da a=>?_) fun da a=>?_
 refine Sr<|Va (I 3)<|AA<|AQ ?_
 obtain rfl:=AK a
 refine O1 B ab Z (.tmp Z)<|have db:=Y2 ai d c;have dc:=K2 AI aa d c;have de:=Os (Os af d) c;have df:=Y2 ag d c;⟨o,Sl av n aw,Sl ax g ay,[I f.why,I f.at_],Z,Ho (Tn (Mo [] d) c) z,db,dc,de,df,(Ak (x:=f))⟩
 refine Sr<|Vr (.bool (e.op==5))<|Va (.bool (e.op==5))<|AA<|Cn a (fun dg a=>?_) fun dg a=>?_
 refine Sr<|Vx (Fd Lg Z)<|have dh:=Bs an c;Vx (Ld Ed Z (Bc dh Z))<|Va (I e.type_)<|AA<|AQ ?_
 obtain rfl:=AK a
 refine O1 B ab Z (.tmp Z)<|have di:=Y2 ai d c;have dj:=K2 AI aa d c;have dk:=Os (Os af d) c;have dl:=Y2 ag d c;⟨o,Sl av n aw,Sl ax g ay,[I f.why,I f.at_],Z,Ho (Tn (Mo [] d) c) z,di,dj,dk,dl,(Ak (x:=f))⟩
 refine Sr<|Vr (.bool (e.op==6))<|Va (.bool (e.op==6))<|AA<|Cn a (fun dm a=>?_) fun dm a=>?_
 refine AR<|Sr<|Vm<|Vx (Nc Z)<|Vx (Fd Fk Z)<|have bf:=Y2 ai d c;Vx (Ld Ey Z (Bc bf Z))<|have bg:=Os (Os af d) c; ?_
 obtain ⟨g1,g2,dn⟩:=Own.len bg
 refine Vx (v:=I (g.length:Int)) (Ll D9 dn)<|Vr (I (Wr ((g.length:Int) - 1)))<|Va (I (Wr ((g.length:Int) - 1)))<|AA<|Af<|Bg (fun al a0 b2=>∃ak am u,a0=Env.puts ak [(0,Pt q 0),(3,Pt b1 0),(5,I u)]∧FH n g f e al u=some ae∧AS [] o aj am b2) ba ?_ ?_
 exact ⟨_,o,(Wr ((g.length:Int) - 1)),Pu,a,Rf⟩
 rintro al _ b2 ⟨ak,am,u,rfl,a,p⟩
 rcases al with _|al
 exact A5 a
 refine have a:HR n g f e (FH n g f e al) u=some ae:=a; ?_
 obtain ⟨g3,b3⟩:∃s,s=FH n g f e al:=⟨_,rfl⟩
 rw [←b3,HR] at a
 refine AR<|Sr<|Vm<|Vr (.bool (decide (u≥0)))<|AA<|Cn a (fun dp a=>?_) fun dp a=>?_
 refine WC.skip<|AR<|Af<|AR<|BW Cv (qs 0 11 .nil) [] [] am (by kernel_rfl) fun b4 ao=>Qx r Z (v:=Pt q 0) (fun _ _=>Mv Z)<|Qx r Z (fun _ _=>Nc Z)<|Qx r Z (fun _ _=>Fd Fk Z)<|have bh:=Y2 bf p ao;Qx r Z (fun _ ⟨_,m⟩=>Ld Ey Z (Bc (Bs bh m) Z))<|Qx r Z (v:=I u) (fun _ _=>Mv Z)<|Bi a fun dq dr a=>have bi:=Os (Os bg p) ao; ?_
 obtain ⟨ds,g4,dt,du,dv,dw,dx,bj⟩:=KL (κ:=Ab) bi dr
 replace bj:GD 4 am b4 ds (0+u.toNat*3) dt:=bj
 obtain rfl:=Ez dx
 refine Qx r Z (fun _ _=>Ix D9 du Z dv dw)<|Qx r Z (fun _ _=>Fz Lh Z)<|Qx r Z (fun _ ⟨_,m⟩=>Ld CG Z (GD.cell0 (GD.step bj m dcd) Z))<|Qx r Z (fun _ _=>Fd Di Z)<|have dy:=Y3 an c p ao;Qx r Z (fun _ ⟨_,m⟩=>Ld CG Z (Bc (Bs dy m) Z))<|Qx r Z (v:=.bool (dq.name==e.name)) (fun _ _=>Run.strEq Z Z)<|B9<|Cn a (fun dz a=>?_) fun dz a=>?_
 refine Sr<|Vm<|Vx (Nc Z)<|Vx (Fd Fk Z)<|Vx (Ld Ey Z (Bc bh Z))<|Vm<|Bi a fun d0 d1 a=>?_
 obtain ⟨d2,g5,d3,d4,d5,d6,d7,bk⟩:=KL (κ:=Ab) bi d1
 replace bk:GD 4 am b4 d2 (0+u.toNat*3) d3:=bk
 obtain rfl:=Ez d7
 refine Vx (Ix D9 d4 Z d5 d6)<|Vx (Fd Nw Z)<|Vx (Ld Ed Z (GD.cell (j:=1) bk Z))<|Va (I d0.type_)<|AA<|AQ ?_
 obtain rfl:=AK a
 refine O1 B ab Z (.tmp Z)<|have d8:=K4 AI aa d c p ao;have d9:=Y4 ag d c p ao;⟨am,Sl av n aw,Sl ax g ay,[I f.why,I f.at_],Z,Ho (T3 (Mo [] d) c p ao) z,bh,d8,bi,d9,(Ak (x:=f))⟩
 refine WC.skip<|AL<|Vm<|Vr (I (Wr (u - 1)))<|Va (I (Wr (u - 1)))<|AA<|⟨al,Nat.lt_succ_self al,_,am,(Wr (u - 1)),Pu,(b3▸a),(Tn (Mo [] p) ao)⟩
 refine Ba<|Sr<|Va (I 0)<|AA<|AQ ?_
 obtain rfl:=AK a
 refine O1 B ab Z (.tmp Z)<|have ea:=Bs bf p;have eb:=K3 AI aa d c p;have ec:=Os bg p;have ed:=Y3 ag d c p;⟨am,Sl av n aw,Sl ax g ay,[I f.why,I f.at_],Z,Ho (T2 (Mo [] d) c p) z,ea,eb,ec,ed,(Ak (x:=f))⟩
 refine Sr<|Vr (.bool (e.op==7))<|Va (.bool (e.op==7))<|AA<|Cn a (fun ee a=>?_) fun ee a=>?_
 refine Sr<|Vm<|have ef:=Bs an c;Vx (Lx A9 Z Z (Bw ef))<|have eg:=Y2 ai d c;have eh:=K2 AI aa d c;have ei:=Os (Os af d) c;have ej:=Ms (Ms a4 d) c;have ek:=Y2 ag d c;have el:=K2 AH az d c;Bi a fun ar em a=>Ca (Cg [Pt q 0,Ag [I e.op,Sb e.name,Sb e.tail,I e.type_,Cx e.num,Sl a5 e.args a6,I e.at_]] Z) (au.types_checker_call o aj (ko0_2:=4) em dcd dcd eg eh ei ej ek (Ak (x:=f)) (AW (x:=e) el)) ?_
 rintro _ g6 ⟨en,g7,g8,g9,rfl,eo,ep,b5,b6,eq,er⟩
 obtain ⟨es,et,rfl⟩:=AT b5
 obtain ⟨eu,ew,rfl⟩:=Own.len b6
 obtain rfl:=As er
 refine Va (I ar.1)<|AA<|AQ ?_
 obtain rfl:=AK a
 refine O1 B ab Z (.tmp Z)<|⟨en,Sl es ar.2.1 et,Sl eu ar.2.2.1 ew,[I ar.2.2.2.why,I ar.2.2.2.at_],Z,Ho (T2 (Mo [1,3,4] d) c eo) z,ep,b5,b6,eq,(Ak (x:=ar.2.2.2))⟩
 refine Sr<|Vr (.bool (e.op==14))<|Va (.bool (e.op==14))<|AA<|Cn a (fun ex a=>?_) fun ex a=>?_
 refine Sr<|Vm<|Vx (Fd BS Z)<|have ey:=Bs an c;Vx (Ld Cf Z (Bc ey Z))<|have ez:=Y2 ai d c;have e0:=K2 AI aa d c;have e1:=Os (Os af d) c;have e2:=Ms (Ms a4 d) c;have e3:=Y2 ag d c;have e4:=K2 AH az d c;Bi a fun a1 e5 a=>Ca (Cg [Pt q 0,I 2,Sl a5 e.args a6] Z) (au.types_checker_all o aj (ko0_2:=4) e5 dcd dcd ez e0 e1 e2 e3 (Ak (x:=f)) e4) ?_
 rintro _ ha ⟨e6,hb,hc,hd,rfl,e7,e8,b7,b8,e9,fa⟩
 obtain ⟨fb,fc,rfl⟩:=AT b7
 obtain ⟨fd,fe,rfl⟩:=Own.len b8
 obtain rfl:=As fa
 refine AA<|Sr<|Va (I 2)<|AA<|AQ ?_
 obtain rfl:=AK a
 refine O1 B ab Z (.tmp Z)<|⟨e6,Sl fb a1.1 fc,Sl fd a1.2.1 fe,[I a1.2.2.why,I a1.2.2.at_],Z,Ho (T2 (Mo [1,3,4] d) c e7) z,e8,b7,b8,e9,(Ak (x:=a1.2.2))⟩
 refine Sr<|Vr (.bool (e.op==18))<|Va (.bool (e.op==18))<|AA<|Cn a (fun ff a=>?_) fun ff a=>?_
 refine Sr<|Vm<|Vx (Fd BS Z)<|have b9:=Bs an c;Vx (Ld Cf Z (Bc b9 Z))<|Bi a fun h fg a=>have ca:=K2 AH az d c; ?_
 obtain ⟨fh,fi,he,fj,fk,fl,fm,fn,bl⟩:=A8 (κ:=AH) ca fg
 replace bl:Ax o aj fh (fi+(0:Int).toNat*7) fj:=bl
 obtain ⟨cc,cd,rfl,cb⟩:=E1 (Ae fn)
 refine Vx (Ix CH fk Z fl fm)<|Vx (Lx A9 Z Z (Ax.part0 bl [I h.op,Sb h.name,Sb h.tail,I h.type_,Cx h.num,Sl cc h.args cd,I h.at_] Z))<|have fo:=Y2 ai d c;have fp:=K2 AI aa d c;have fq:=Os (Os af d) c;have cf:=Ms (Ms a4 d) c;have fr:=Y2 ag d c;Bi a fun fs ft a=>Ca (Cg [Pt q 0,Ag [I h.op,Sb h.name,Sb h.tail,I h.type_,Cx h.num,Sl cc h.args cd,I h.at_],I 1] Z) (au.types_checker_want o aj (ko0_2:=4) ft dcd dcd fo fp fq cf fr (Ak (x:=f)) (AW (x:=h) cb)) ?_
 rintro _ cg ⟨ch,hg,hh,hi,rfl,a7,fu,ci,cj,fv,fw⟩
 obtain ⟨hj,hk,rfl⟩:=AT ci
 obtain ⟨hl,hm,rfl⟩:=Own.len cj
 obtain rfl:=As fw
 refine AA<|Sr<|Vm<|Vx (Fd BS Z)<|have fx:=Bs b9 a7;Vx (Ld Cf Z (Bc fx Z))<|Bi a fun l fy a=>have fz:=Ss AH ca a7; ?_
 obtain ⟨f0,f1,hn,f2,f3,f4,f5,f6,bm⟩:=A8 (κ:=AH) fz fy
 replace bm:Ax ch cg f0 (f1+(1:Int).toNat*7) f2:=bm
 obtain ⟨cl,cm,rfl,ck⟩:=E1 (Ae f6)
 refine Vx (Ix CH f3 Z f4 f5)<|Vx (Lx A9 Z Z (Ax.part0 bm [I l.op,Sb l.name,Sb l.tail,I l.type_,Cx l.num,Sl cl l.args cm,I l.at_] Z))<|have f7:=Ms cf a7;Bi a fun a2 f8 a=>Ca (Cg [Pt q 0,Ag [I l.op,Sb l.name,Sb l.tail,I l.type_,Cx l.num,Sl cl l.args cm,I l.at_],I 3] Z) (au.types_checker_want ch cg (ko0_2:=4) f8 dcd dcd fu ci cj f7 fv (Ak (x:=fs.2.2)) (AW (x:=l) ck)) ?_
 rintro _ hp ⟨f9,hq,hr,hs,rfl,ga,gb,cn,co,gc,gd⟩
 obtain ⟨ge,gf,rfl⟩:=AT cn
 obtain ⟨gg,gh,rfl⟩:=Own.len co
 obtain rfl:=As gd
 refine AA<|Sr<|Va (I 3)<|AA<|AQ ?_
 obtain rfl:=AK a
 refine O1 B ab Z (.tmp Z)<|⟨f9,Sl ge a2.1 gf,Sl gg a2.2.1 gh,[I a2.2.2.why,I a2.2.2.at_],Z,Ho (T3 (Mo [1,3,4] d) c a7 ga) z,gb,cn,co,gc,(Ak (x:=a2.2.2))⟩
 refine WC.skip<|Sr<|Vm<|Vx (Fd BS Z)<|have cq:=Bs an c;Vx (Ld Cf Z (Bc cq Z))<|have gi:=Y2 ai d c;have gj:=K2 AI aa d c;have gk:=Os (Os af d) c;have gl:=Ms (Ms a4 d) c;have gm:=Y2 ag d c;have gn:=K2 AH az d c;Bi a fun w go a=>Ca (Cg [Pt q 0,I 1,Sl a5 e.args a6] Z) (au.types_checker_all o aj (ko0_2:=4) go dcd dcd gi gj gk gl gm (Ak (x:=f)) gn) ?_
 rintro _ gp ⟨bn,ht,hu,hw,rfl,bo,cr,bp,bq,ct,gq⟩
 obtain ⟨cu,cv,rfl⟩:=AT bp
 obtain ⟨cw,cx,rfl⟩:=Own.len bq
 obtain rfl:=As gq
 refine AA<|AR<|Am (fun a0 cy=>∃ak a8 br,a0=Env.puts ak [(84,.bool br)]∧Hx w br=some ae∧AS [] bn gp a8 cy) ?_ ?_
 refine AL<|Vx (Fz C8 Z)<|have cz:=Bs cq bo;Vx (Ld Ge Z (Bc cz Z))<|Vr (.bool (e.op==12))<|Vm<|Bo a (fun ah a=>?_) fun ah a=>?_
 refine Pg ah<|Pg ah<|Pg ah<|Vp ah<|AA<|⟨_,bn,true,Pu,a,Rf⟩
 refine Gx ah (Fz C8 Z)<|Gx ah (Ld Ge Z (Bc cz Z))<|Gr ah (.bool (e.op==13))<|Vp ah<|AA<|⟨_,bn,(e.op==13),Pu,a,Rf⟩
 rintro _ cy ⟨ak,a8,br,rfl,a,ac⟩
 rw [Hx] at a
 refine Cn a (fun gr a=>?_) fun gr a=>?_
 refine Sr<|Va (I 2)<|AA<|AQ ?_
 obtain rfl:=AK a
 refine O1 B ab Z (.tmp Z)<|have gs:=Bs cr ac;have gt:=Ss AI bp ac;have gu:=Os bq ac;have gv:=Bs ct ac;⟨a8,Sl cu w.1 cv,Sl cw w.2.1 cx,[I w.2.2.why,I w.2.2.at_],Z,Ho (T3 (Mo [1,3,4] d) c bo ac) z,gs,gt,gu,gv,(Ak (x:=w.2.2))⟩
 refine WC.skip<|Sr<|Va (I 1)<|AA<|AQ ?_
 obtain rfl:=AK a
 refine O1 B ab Z (.tmp Z)<|have gw:=Bs cr ac;have gx:=Ss AI bp ac;have gy:=Os bq ac;have gz:=Bs ct ac;⟨a8,Sl cu w.1 cv,Sl cw w.2.1 cx,[I w.2.2.why,I w.2.2.at_],Z,Ho (T3 (Mo [1,3,4] d) c bo ac) z,gw,gx,gy,gz,(Ak (x:=w.2.2))⟩
theorem Oq(e:AG)(g:Nat)(o:AG.Good e):types_checker_own.Spec (HA e g):=by
 intro f h ai a aj ak al am ko0_2 an c ao ap d aq ar au av aw p hnd hnz l q r s m u w
 refine Calls.mono (Oo e g o (recol (see [a,c,d,ko0_2]) f) h (Fa (Nat.le_of_ble_eq_true Z) f) (BU l [a,c,d,ko0_2] (BP hnd hnz (i:=0) Z)) (Eo AI q [a,c,d,ko0_2]) (Im r [a,c,d,ko0_2] (BP hnd hnz (i:=3) Z)) (Fs s [a,c,d,ko0_2] (BP hnd hnz (i:=1) Z)) (BU m [a,c,d,ko0_2] (BP hnd hnz (i:=2) Z)) (BY An u [a,c,d,ko0_2]) (BY AH w [a,c,d,ko0_2]) p) ?_
 rintro ax ay ⟨y,z,aa,ab,ac,n,ad,ae,af,ag,ah⟩
 exact ⟨glue [a,c,d,ko0_2] h f y,z,aa,ab,ac,CA n (Fb Z Z),ED l ad dcd,HO AI ae,Jz (j:=3) af Z Z n,ED m ag dcd,Dm An ah⟩
theorem Ng(y:AG)(az:Nat)(a0:AG.Good y)(a:Col)(d:World)(a1:∀b,a b<10){z o:Nat}{aa:(List AO)}{ab:Value}{ac:(List AJ)}{ad:Value}{r:Nat}{ae:Aq}{p:Nat}{s:AD}{af:List Value}{ag:Nat}{ah:AE}{ai:List Value}{aj:Nat}{u:Int}{q:(List AO)×(List AJ)×AD}(a2:Bk a d 1 z [Pt o 0] 130)(a3:Bk a d 2 o [.map (some r),ab,ad,.func (.func 52) #[] [Pt p 0].toArray] 134)(ak:Slc AI a.F d ab aa)(al:Own Ab 87 a d 7 ad ac)(a4:Mp a d 3 r ae)(a5:Bk a d 4 p af 63)(a6:An.rep a.F d af s)(a7:Bk a d 5 ag ai 56)(a8:AH.rep a.F d ai ah)(a9:Bk a d 6 aj [I u] 34)(g:Fe y az aa ac ae s ah u=some q):
  Calls PG 84 #[Pt z 0,Pt ag 0,Pt aj 0] d fun ba h=>∃l am an ao,ba=.returned (.tuple #[])∧AS [2,4,7] a d l h∧Bk l h 2 o [.map (some r),am,an,.func (.func 52) #[] [Pt p 0].toArray] 134∧Slc AI l.F h am q.1∧Own Ab 87 l h 7 an q.2.1∧Bk l h 4 p ao 63∧An.rep l.F h ao q.2.2:=by
 rw [Fe] at g
 obtain ⟨b4,b5,rfl⟩:=AT ak
 obtain ⟨b6,b7,rfl⟩:=Own.len al
 obtain rfl:=As a6
 obtain ⟨b9,ca,rfl,ap⟩:=E1 (Ae a8)
 refine Ay Tryz.func84 Z Tryz.ntmps84 Z fun B bb m=>BW Cv (qs 0 6 (.one 6 .nil)) [] [2,4,7] a (by kernel_rfl) fun aq e=>have bc:=Bs a2 e;Qx m Z (fun _ ⟨_,f⟩=>Ld Ko Z (Bc (Bs bc f) Z))<|Qx m Z (fun _ _=>Fd BS Z)<|have bd:=Bs a7 e;Qx m Z (fun _ ⟨_,f⟩=>Ld Cf Z (Bc (Bs bd f) Z))<|Bi g fun c be g=>have bf:=Ss AH ap e; ?_
 obtain ⟨bg,bh,cb,bi,bj,bk,bl,bm,w⟩:=A8 (κ:=AH) bf be
 replace w:Ax a aq bg (bh+(2:Int).toNat*7) bi:=w
 obtain ⟨au,av,rfl,ar⟩:=E1 (Ae bm)
 refine Qx m Z (fun _ _=>Ix CH bj Z bk bl)<|Qx m Z (fun _ ⟨_,f⟩=>Lx A9 Z Z (Ax.part0 (Es w f) [I c.op,Sb c.name,Sb c.tail,I c.type_,Cx c.num,Sl au c.args av,I c.at_] Z))<|have bn:=Bs a9 e;Qx m Z (fun _ ⟨_,f⟩=>Ld Ed Z (Bc (Bs bn f) Z))<|A1 Z<|have bo:=Bs a3 e;have bp:=Ss AI ak e;have bq:=Os al e;have br:=Ms a4 e;have bt:=Bs a5 e;Bi g fun n bu g=>A3 Z (.none Z) Z Z (Cg [Pt o 0,Ag [I c.op,Sb c.name,Sb c.tail,I c.type_,Cx c.num,Sl au c.args av,I c.at_],I u] Z)<|Calls.mono (a0.types_checker_want a aq (ko0_2:=7) bu dcd dcd bo bp bq br bt (Ak (x:=s)) (AW (x:=c) ar)) ?_
 rintro _ cd ⟨bv,cf,cg,ch,rfl,aw,bw,ax,ay,bx,bz⟩
 obtain ⟨b0,b1,rfl⟩:=AT ax
 obtain ⟨b2,b3,rfl⟩:=Own.len ay
 obtain rfl:=As bz
 refine ⟨_,Z,⟨_,(Mo [2,4,7] aw)⟩,?_⟩
 refine B9 ?_
 obtain rfl:=AK g
 refine M9 (B:=B) bb<|M8 Z<|⟨bv,Sl b0 n.1 b1,Sl b2 n.2.1 b3,[I n.2.2.why,I n.2.2.at_],Z,Ho (Tn (Mo [2,4,7] e) aw) a1,bw,ax,ay,bx,(Ak (x:=n.2.2))⟩
theorem Nh(h:AG)(m:Nat)(r:AG.Good h):types_checker_want_1.Spec (Fe h m):=by
 intro l n ao a ap c aq ar au av ko1_2 aw d ax ay e az a0 a1 f a2 a3 a4 g a5 a6 s hnd hnz u o w y z p aa ab ac ad
 refine Calls.mono (Ng h m r (recol (see [a,c,d,e,f,g,ko1_2]) l) n (Fa (Nat.le_of_ble_eq_true Z) l) (BU u [a,c,d,e,f,g,ko1_2] (BP hnd hnz (i:=0) Z)) (BU o [a,c,d,e,f,g,ko1_2] (BP hnd hnz (i:=1) Z)) (Eo AI w [a,c,d,e,f,g,ko1_2]) (Im y [a,c,d,e,f,g,ko1_2] (BP hnd hnz (i:=6) Z)) (Fs z [a,c,d,e,f,g,ko1_2] (BP hnd hnz (i:=2) Z)) (BU p [a,c,d,e,f,g,ko1_2] (BP hnd hnz (i:=3) Z)) (BY An aa [a,c,d,e,f,g,ko1_2]) (BU ab [a,c,d,e,f,g,ko1_2] (BP hnd hnz (i:=4) Z)) (BY AH ac [a,c,d,e,f,g,ko1_2]) (BU ad [a,c,d,e,f,g,ko1_2] (BP hnd hnz (i:=5) Z)) s) ?_
 rintro a7 a8 ⟨ae,af,ag,ah,ai,q,aj,ak,al,am,an⟩
 exact ⟨glue [a,c,d,e,f,g,ko1_2] n l ae,af,ag,ah,ai,CA q (Fb Z Z),ED o aj dcd,HO AI ak,Jz (j:=6) al Z Z q,ED p am dcd,Dm An an⟩
theorem Ni(af:AG)(bf:Nat)(ag:AG.Good af)(c:Col)(g:World)(bg:∀b,c b<10){ah q:Nat}{ai:(List AO)}{aj:Value}{ak:(List AJ)}{al:Value}{w:Nat}{am:Aq}{s:Nat}{y:AD}{an:List Value}{ao:Nat}{z:AE}{ap:List Value}{aq:Nat}{aa:Int}{u:(List AO)×(List AJ)×AD}(bh:Bk c g 1 ah [Pt q 0] 130)(bi:Bk c g 2 q [.map (some w),aj,al,.func (.func 52) #[] [Pt s 0].toArray] 134)(ar:Slc AI c.F g aj ai)(au:Own Ab 87 c g 7 al ak)(bj:Mp c g 3 w am)(bk:Bk c g 4 s an 63)(bl:An.rep c.F g an y)(bm:Bk c g 5 ao ap 56)(bn:AH.rep c.F g ap z)(bo:Bk c g 6 aq [I aa] 34)(h:Ff af bf ai ak am y z aa=some u):
  Calls PG 85 #[Pt ah 0,Pt ao 0,Pt aq 0] g fun bp o=>∃p av aw ax,bp=.returned (.tuple #[])∧AS [2,4,7] c g p o∧Bk p o 2 q [.map (some w),av,aw,.func (.func 52) #[] [Pt s 0].toArray] 134∧Slc AI p.F o av u.1∧Own Ab 87 p o 7 aw u.2.1∧Bk p o 4 s ax 63∧An.rep p.F o ax u.2.2:=by
 rw [Ff] at h
 obtain ⟨c3,c4,rfl⟩:=AT ar
 obtain ⟨c5,c6,rfl⟩:=Own.len au
 obtain rfl:=As bl
 obtain ⟨c8,c9,rfl,ay⟩:=E1 (Ae bn)
 refine Ay Tryz.func85 Z Tryz.ntmps85 Z fun B bq f=>AR<|BW Cv (qs 0 7 (.one 7 .nil)) [] [2,4,7] c (by kernel_rfl) fun az l=>have a0:=Bs bh l;Qx f Z (fun _ ⟨_,a⟩=>Ld Ko Z (Bc (Bs a0 a) Z))<|Qx f Z (fun _ _=>Fd BS Z)<|have ab:=Bs bm l;Qx f Z (fun _ ⟨_,a⟩=>Ld Cf Z (Bc (Bs ab a) Z))<|Bi h fun d br h=>have a1:=Ss AH ay l; ?_
 obtain ⟨bt,bu,da,bv,bw,bx,bz,b0,ac⟩:=A8 (κ:=AH) a1 br
 replace ac:Ax c az bt (bu+(0:Int).toNat*7) bv:=ac
 obtain ⟨a3,a4,rfl,a2⟩:=E1 (Ae b0)
 refine Qx f Z (fun _ _=>Ix CH bw Z bx bz)<|Qx f Z (fun _ ⟨_,a⟩=>Lx A9 Z Z (Ax.part0 (Es ac a) [I d.op,Sb d.name,Sb d.tail,I d.type_,Cx d.num,Sl a3 d.args a4,I d.at_] Z))<|Qx f Z (fun _ _=>Fd Lg Z)<|Qx f Z (fun _ ⟨_,a⟩=>Ld Ed Z (Bc (Bs ab a) Z))<|A1 Z<|have b1:=Bs bi l;have b2:=Ss AI ar l;have b3:=Os au l;have a5:=Ms bj l;have b4:=Bs bk l;Bi h fun b5 b6 h=>A3 Z (.none Z) Z Z (Cg [Pt q 0,Ag [I d.op,Sb d.name,Sb d.tail,I d.type_,Cx d.num,Sl a3 d.args a4,I d.at_],I z.type_] Z)<|Calls.mono (ag.types_checker_want c az (ko0_2:=7) b6 dcd dcd b1 b2 b3 a5 b4 (Ak (x:=y)) (AW (x:=d) a2)) ?_
 rintro _ dc ⟨ad,de,df,dg,rfl,n,b7,a6,a7,b8,b9⟩
 obtain ⟨dh,di,rfl⟩:=AT a6
 obtain ⟨dj,dk,rfl⟩:=Own.len a7
 obtain rfl:=As b9
 refine ⟨_,Z,⟨_,(Mo [2,4,7] n)⟩,?_⟩
 refine B9<|BW Cv (qs 0 6 (.one 6 .nil)) [] [2,4,7] ad (by kernel_rfl) fun a8 m=>have ca:=Y2 a0 n m;Qx f Z (fun _ ⟨_,a⟩=>Ld Ko Z (Bc (Bs ca a) Z))<|Qx f Z (fun _ _=>Fd BS Z)<|have cb:=Y2 ab n m;Qx f Z (fun _ ⟨_,a⟩=>Ld Cf Z (Bc (Bs cb a) Z))<|Bi h fun e cc h=>have cd:=K2 AH a1 n m; ?_
 obtain ⟨cf,cg,dl,ch,ci,cj,ck,cl,ae⟩:=A8 (κ:=AH) cd cc
 replace ae:Ax ad a8 cf (cg+(1:Int).toNat*7) ch:=ae
 obtain ⟨ba,bb,rfl,a9⟩:=E1 (Ae cl)
 refine Qx f Z (fun _ _=>Ix CH ci Z cj ck)<|Qx f Z (fun _ ⟨_,a⟩=>Lx A9 Z Z (Ax.part0 (Es ae a) [I e.op,Sb e.name,Sb e.tail,I e.type_,Cx e.num,Sl ba e.args bb,I e.at_] Z))<|have cm:=Y3 bo l n m;Qx f Z (fun _ ⟨_,a⟩=>Ld Ed Z (Bc (Bs cm a) Z))<|A1 Z<|have cn:=Bs b7 m;have co:=Ss AI a6 m;have cq:=Os a7 m;have cr:=Ms (Ms a5 n) m;have ct:=Bs b8 m;Bi h fun r cu h=>A3 Z (.none Z) Z Z (Cg [Pt q 0,Ag [I e.op,Sb e.name,Sb e.tail,I e.type_,Cx e.num,Sl ba e.args bb,I e.at_],I aa] Z)<|Calls.mono (ag.types_checker_want ad a8 (ko0_2:=7) cu dcd dcd cn co cq cr ct (Ak (x:=b5.2.2)) (AW (x:=e) a9)) ?_
 rintro _ dn ⟨cv,dp,dq,dr,rfl,bc,cw,bd,be,cx,cy⟩
 obtain ⟨cz,c0,rfl⟩:=AT bd
 obtain ⟨c1,c2,rfl⟩:=Own.len be
 obtain rfl:=As cy
 refine ⟨_,Z,⟨_,(Mo [2,4,7] bc)⟩,?_⟩
 refine B9 ?_
 obtain rfl:=AK h
 refine M9 (B:=B) bq<|M8 Z<|⟨cv,Sl cz r.1 c0,Sl c1 r.2.1 c2,[I r.2.2.why,I r.2.2.at_],Z,Ho (T3 (Mo [2,4,7] l) n m bc) bg,cw,bd,be,cx,(Ak (x:=r.2.2))⟩
theorem Nj(h:AG)(m:Nat)(r:AG.Good h):types_checker_want_2.Spec (Ff h m):=by
 intro l n ao a ap c aq ar au av ko1_2 aw d ax ay e az a0 a1 f a2 a3 a4 g a5 a6 s hnd hnz u o w y z p aa ab ac ad
 refine Calls.mono (Ni h m r (recol (see [a,c,d,e,f,g,ko1_2]) l) n (Fa (Nat.le_of_ble_eq_true Z) l) (BU u [a,c,d,e,f,g,ko1_2] (BP hnd hnz (i:=0) Z)) (BU o [a,c,d,e,f,g,ko1_2] (BP hnd hnz (i:=1) Z)) (Eo AI w [a,c,d,e,f,g,ko1_2]) (Im y [a,c,d,e,f,g,ko1_2] (BP hnd hnz (i:=6) Z)) (Fs z [a,c,d,e,f,g,ko1_2] (BP hnd hnz (i:=2) Z)) (BU p [a,c,d,e,f,g,ko1_2] (BP hnd hnz (i:=3) Z)) (BY An aa [a,c,d,e,f,g,ko1_2]) (BU ab [a,c,d,e,f,g,ko1_2] (BP hnd hnz (i:=4) Z)) (BY AH ac [a,c,d,e,f,g,ko1_2]) (BU ad [a,c,d,e,f,g,ko1_2] (BP hnd hnz (i:=5) Z)) s) ?_
 rintro a7 a8 ⟨ae,af,ag,ah,ai,q,aj,ak,al,am,an⟩
 exact ⟨glue [a,c,d,e,f,g,ko1_2] n l ae,af,ag,ah,ai,CA q (Fb Z Z),ED o aj dcd,HO AI ak,Jz (j:=6) al Z Z q,ED p am dcd,Dm An an⟩
theorem Nk(y:AG)(az:Nat)(a0:AG.Good y)(a:Col)(d:World)(a1:∀b,a b<10){z o:Nat}{aa:(List AO)}{ab:Value}{ac:(List AJ)}{ad:Value}{r:Nat}{ae:Aq}{p:Nat}{s:AD}{af:List Value}{ag:Nat}{ah:AE}{ai:List Value}{aj:Nat}{u:Int}{q:(List AO)×(List AJ)×AD}(a2:Bk a d 1 z [Pt o 0] 130)(a3:Bk a d 2 o [.map (some r),ab,ad,.func (.func 52) #[] [Pt p 0].toArray] 134)(ak:Slc AI a.F d ab aa)(al:Own Ab 87 a d 7 ad ac)(a4:Mp a d 3 r ae)(a5:Bk a d 4 p af 63)(a6:An.rep a.F d af s)(a7:Bk a d 5 ag ai 56)(a8:AH.rep a.F d ai ah)(a9:Bk a d 6 aj [I u] 34)(g:Fg y az aa ac ae s ah u=some q):
  Calls PG 86 #[Pt z 0,Pt ag 0,Pt aj 0] d fun ba h=>∃l am an ao,ba=.returned (.tuple #[])∧AS [2,4,7] a d l h∧Bk l h 2 o [.map (some r),am,an,.func (.func 52) #[] [Pt p 0].toArray] 134∧Slc AI l.F h am q.1∧Own Ab 87 l h 7 an q.2.1∧Bk l h 4 p ao 63∧An.rep l.F h ao q.2.2:=by
 rw [Fg] at g
 obtain ⟨b4,b5,rfl⟩:=AT ak
 obtain ⟨b6,b7,rfl⟩:=Own.len al
 obtain rfl:=As a6
 obtain ⟨b9,ca,rfl,ap⟩:=E1 (Ae a8)
 refine Ay Tryz.func86 Z Tryz.ntmps86 Z fun B bb m=>BW Cv (qs 0 6 (.one 6 .nil)) [] [2,4,7] a (by kernel_rfl) fun aq e=>have bc:=Bs a2 e;Qx m Z (fun _ ⟨_,f⟩=>Ld Ko Z (Bc (Bs bc f) Z))<|Qx m Z (fun _ _=>Fd BS Z)<|have bd:=Bs a7 e;Qx m Z (fun _ ⟨_,f⟩=>Ld Cf Z (Bc (Bs bd f) Z))<|Bi g fun c be g=>have bf:=Ss AH ap e; ?_
 obtain ⟨bg,bh,cb,bi,bj,bk,bl,bm,w⟩:=A8 (κ:=AH) bf be
 replace w:Ax a aq bg (bh+(1:Int).toNat*7) bi:=w
 obtain ⟨au,av,rfl,ar⟩:=E1 (Ae bm)
 refine Qx m Z (fun _ _=>Ix CH bj Z bk bl)<|Qx m Z (fun _ ⟨_,f⟩=>Lx A9 Z Z (Ax.part0 (Es w f) [I c.op,Sb c.name,Sb c.tail,I c.type_,Cx c.num,Sl au c.args av,I c.at_] Z))<|have bn:=Bs a9 e;Qx m Z (fun _ ⟨_,f⟩=>Ld Ed Z (Bc (Bs bn f) Z))<|A1 Z<|have bo:=Bs a3 e;have bp:=Ss AI ak e;have bq:=Os al e;have br:=Ms a4 e;have bt:=Bs a5 e;Bi g fun n bu g=>A3 Z (.none Z) Z Z (Cg [Pt o 0,Ag [I c.op,Sb c.name,Sb c.tail,I c.type_,Cx c.num,Sl au c.args av,I c.at_],I u] Z)<|Calls.mono (a0.types_checker_want a aq (ko0_2:=7) bu dcd dcd bo bp bq br bt (Ak (x:=s)) (AW (x:=c) ar)) ?_
 rintro _ cd ⟨bv,cf,cg,ch,rfl,aw,bw,ax,ay,bx,bz⟩
 obtain ⟨b0,b1,rfl⟩:=AT ax
 obtain ⟨b2,b3,rfl⟩:=Own.len ay
 obtain rfl:=As bz
 refine ⟨_,Z,⟨_,(Mo [2,4,7] aw)⟩,?_⟩
 refine B9 ?_
 obtain rfl:=AK g
 refine M9 (B:=B) bb<|M8 Z<|⟨bv,Sl b0 n.1 b1,Sl b2 n.2.1 b3,[I n.2.2.why,I n.2.2.at_],Z,Ho (Tn (Mo [2,4,7] e) aw) a1,bw,ax,ay,bx,(Ak (x:=n.2.2))⟩
theorem Nl(h:AG)(m:Nat)(r:AG.Good h):types_checker_want_3.Spec (Fg h m):=by
 intro l n ao a ap c aq ar au av ko1_2 aw d ax ay e az a0 a1 f a2 a3 a4 g a5 a6 s hnd hnz u o w y z p aa ab ac ad
 refine Calls.mono (Nk h m r (recol (see [a,c,d,e,f,g,ko1_2]) l) n (Fa (Nat.le_of_ble_eq_true Z) l) (BU u [a,c,d,e,f,g,ko1_2] (BP hnd hnz (i:=0) Z)) (BU o [a,c,d,e,f,g,ko1_2] (BP hnd hnz (i:=1) Z)) (Eo AI w [a,c,d,e,f,g,ko1_2]) (Im y [a,c,d,e,f,g,ko1_2] (BP hnd hnz (i:=6) Z)) (Fs z [a,c,d,e,f,g,ko1_2] (BP hnd hnz (i:=2) Z)) (BU p [a,c,d,e,f,g,ko1_2] (BP hnd hnz (i:=3) Z)) (BY An aa [a,c,d,e,f,g,ko1_2]) (BU ab [a,c,d,e,f,g,ko1_2] (BP hnd hnz (i:=4) Z)) (BY AH ac [a,c,d,e,f,g,ko1_2]) (BU ad [a,c,d,e,f,g,ko1_2] (BP hnd hnz (i:=5) Z)) s) ?_
 rintro a7 a8 ⟨ae,af,ag,ah,ai,q,aj,ak,al,am,an⟩
 exact ⟨glue [a,c,d,e,f,g,ko1_2] n l ae,af,ag,ah,ai,CA q (Fb Z Z),ED o aj dcd,HO AI ak,Jz (j:=6) al Z Z q,ED p am dcd,Dm An an⟩
theorem OF(af:AG)(a7:Nat)(ci:AG.Good af)(p:Col)(u:World)(bm:∀b,p b<10){q:Nat}{ar:(List AO)}{bn:Value}{au:(List AJ)}{bo:Value}{aw:Nat}{g:Aq}{ak:Nat}{y:AD}{bp:List Value}{f:AE}{bq:List Value}{z:Int×(List AO)×(List AJ)×AD}(cj:Bk p u 1 q [.map (some aw),bn,bo,.func (.func 52) #[] [Pt ak 0].toArray] 134)(ax:Slc AI p.F u bn ar)(a8:Own Ab 87 p u 4 bo au)(ck:Mp p u 2 aw g)(br:Bk p u 3 ak bp 63)(cl:An.rep p.F u bp y)(cm:AH.rep p.F u bq f)(d:GT af a7 ar au g y f=some z):
  Calls PG 112 #[Pt q 0,Ag bq] u fun cn al=>∃am bt bu bv,cn=.returned (I z.1)∧AS [1,3,4] p u am al∧Bk am al 1 q [.map (some aw),bt,bu,.func (.func 52) #[] [Pt ak 0].toArray] 134∧Slc AI am.F al bt z.2.1∧Own Ab 87 am al 4 bu z.2.2.1∧Bk am al 3 ak bv 63∧An.rep am.F al bv z.2.2.2:=by
 rw [GT] at d
 obtain ⟨bw,bx,rfl⟩:=AT ax
 obtain ⟨bz,b0,rfl⟩:=Own.len a8
 obtain rfl:=As cl
 obtain ⟨e6,e7,rfl,a9⟩:=E1 (Ae cm)
 refine Ay Tryz.func112 Z Tryz.ntmps112 Z fun B b1 a=>Sr<|Ef<|A0 p 20 Z Z fun an e8 b2 co m=>Va (I 0)<|AA<|AR<|BW Cv (qs 0 8 .nil) [] [] an (by kernel_rfl) fun cq l=>Qx a Z (v:=Pt q 0) (fun _ _=>Mv Z)<|Qx a Z (fun _ _=>Nc Z)<|Qx a Z (fun _ _=>Fz U5 Z)<|have ay:=Y2 cj m l;Qx a Z (fun _ ⟨_,c⟩=>Ld O7 Z (Bc (Bs ay c) Z))<|Qx a Z (fun _ _=>Fd Di Z)<|have ba:=Bs co l;Qx a Z (fun _ ⟨_,c⟩=>Ld CG Z (Bc (Bs ba c) Z))<|have b3:=Ms (Ms ck m) l;Qx a Z (v:=I (Cu g f.name)) (fun _ ⟨_,c⟩=>KM LQ Z Z (Ms b3 c))<|Qx a Z (v:=I (Cu g f.name)) (fun _ _=>Run.assign Z)<|B9<|AR<|Am (fun bb az=>∃av ao bc,bb=Env.puts av [(0,Pt q 0),(3,Pt b2 0),(5,I (Cu g f.name)),(32,.bool bc)]∧Fr af a7 ar au g y f bc=some z∧AS [] an cq ao az) ?_ ?_
 refine BW Cv (qs 0 18 .nil) [] [] an (by kernel_rfl) fun cr ap=>Qx a Z (v:=I (Cu g f.name)) (fun _ _=>Mv Z)<|Qx a Z (v:=.bool ((Cu g f.name)==0)) (fun _ _=>Z)<|Qx a Z (v:=.bool ((Cu g f.name)==0)) (fun _ _=>Mv Z)<|Bo d (fun e d=>?_) fun e d=>?_
 refine Qp a Z e<|Qp a Z e<|Qp a Z e<|Qp a Z e<|Qp a Z e<|Qp a Z e<|Qp a Z e<|Qp a Z e<|Qp a Z e<|Qp a Z e<|Qp a Z e<|Qp a Z e<|Qp a Z e<|Qp a Z e<|Qx a Z (v:=.bool true) (fun _ _=>(Pk e))<|B9<|⟨_,an,true,Pu,d,(Mo [] ap)⟩
 refine Qg a Z e (v:=Pt q 0) (fun _ _=>Mv Z)<|Qg a Z e (fun _ _=>Nc Z)<|Qg a Z e (fun _ _=>Fd Qz Z)<|have ct:=Bs ay ap;Qg a Z e (fun _ ⟨_,c⟩=>Ld G8 Z (Bc (Bs ct c) Z))<|Qg a Z e (v:=I (Cu g f.name)) (fun _ _=>Mv Z)<|Qg a Z e (v:=I (Wr ((Cu g f.name) - 1))) (fun _ _=>Z)<|Bi d fun a0 cu d=>have cv:=K3 AI ax m l ap; ?_
 obtain ⟨cw,cx,e9,cy,cz,c0,c1,c2,bd⟩:=A8 (κ:=AI) cv cu
 replace bd:Ax an cr cw (cx+((Wr ((Cu g f.name) - 1))).toNat*11) cy:=bd
 obtain ⟨fa,fb,rfl,b4,c3⟩:=Cl c2
 obtain ⟨fc,fd,rfl⟩:=AT b4
 obtain ⟨fe,ff,rfl⟩:=AT c3
 refine Qg a Z e (fun _ _=>Ix GI cz Z c0 c1)<|Qg a Z e (fun _ _=>Fd EY Z)<|Qg a Z e (fun _ ⟨_,c⟩=>Ld Ey Z (Ax.cell (k:=1) (Es bd c) Z)) ?_
 obtain ⟨fg,fh,c4⟩:=AT b4
 refine Qg a Z e (v:=I (a0.params.length:Int)) (fun _ _=>Ll D9 c4)<|Qg a Z e (fun _ _=>Fd BS Z)<|have c5:=Bs ba ap;Qg a Z e (fun _ ⟨_,c⟩=>Ld Cf Z (Bc (Bs c5 c) Z))<|have c6:=K3 AH a9 m l ap; ?_
 obtain ⟨fi,fj,c7⟩:=AT c6
 refine Qg a Z e (v:=I (f.args.length:Int)) (fun _ _=>Ll CH c7)<|Qg a Z e (v:=.bool ((a0.params.length:Int) != (f.args.length:Int))) (fun _ _=>Z)<|Qx a Z (v:=.bool ((a0.params.length:Int) != (f.args.length:Int))) (fun _ _=>(Pk e))<|B9<|⟨_,an,((a0.params.length:Int) != (f.args.length:Int)),Pu,d,(Mo [] ap)⟩
 rintro _ az ⟨av,ao,bc,rfl,d,n⟩
 rw [Fr] at d
 refine Cn d (fun c8 d=>?_) fun c8 d=>?_
 refine Sr<|Va (I 0)<|AA<|AQ ?_
 obtain rfl:=AK d
 refine O1 B b1 Z (.tmp Z)<|have c9:=Bs ay n;have da:=K3 AI ax m l n;have db:=Os (Os (Os a8 m) l) n;have dc:=Y3 br m l n;⟨ao,Sl bw ar bx,Sl bz au b0,[I y.why,I y.at_],Z,Ho (T2 (Mo [] m) l n) bm,c9,da,db,dc,(Ak (x:=y))⟩
 refine WC.skip<|AR<|Sr<|Vm<|Vx (Nc Z)<|Vx (Fd Qz Z)<|have b5:=Bs ay n;Vx (Ld G8 Z (Bc b5 Z))<|Vm<|Vr (I (Wr ((Cu g f.name) - 1)))<|Bi d fun aa de d=>have b6:=K3 AI ax m l n; ?_
 obtain ⟨df,o80,fk,dg,dh,di,dj,dk,be⟩:=A8 (κ:=AI) b6 de
 replace be:Ax ao az df (o80+((Wr ((Cu g f.name) - 1))).toNat*11) dg:=be
 obtain ⟨fl,fm,rfl,bf,dl⟩:=Cl dk
 obtain ⟨dm,dn,rfl⟩:=AT bf
 obtain ⟨fn,fo,rfl⟩:=AT dl
 refine Vx (Ix GI dh Z di dj)<|Vx (Fd EY Z)<|Vx (Ld Ey Z (Ax.cell (k:=1) be Z)) ?_
 obtain ⟨fp,fq,dp⟩:=AT bf
 refine Vx (v:=I (aa.params.length:Int)) (Ll D9 dp)<|Vm<|AA<|Af<|Bg (fun ab bb ac=>∃av r o ag a1 a2 ah a3 a4 ai aj,bb=Env.puts av [(0,Pt q 0),(3,Pt b2 0),(5,I (Cu g f.name)),(41,Sl dm aa.params dn),(42,I (aa.params.length:Int)),(43,I o)]∧EB af g f aa ab o ag ah ai aj=some z∧AS [1,3,4,21] ao az r ac∧Slc AI r.F ac (Sl a1 ag a2) ag∧Own Ab 87 r ac 4 (Sl a3 ah a4) ah∧Bk r ac 1 q [.map (some aw),Sl a1 ag a2,Sl a3 ah a4,.func (.func 52) #[] [Pt ak 0].toArray] 134∧Bk r ac 3 ak [I ai,I aj] 63) a7 ?_ ?_
 refine have dq:=Os (Os (Os a8 m) l) n;have dr:=Y3 br m l n;⟨_,ao,0,ar,bw,bx,au,bz,b0,y.why,y.at_,Pu,d,(AS.refl [1,3,4,21] _ _),b6,dq,b5,dr⟩
 rintro ab _ ac ⟨av,r,o,ag,a1,a2,ah,a3,a4,ai,aj,rfl,d,aq,bg,b7,bh,b8⟩
 rcases ab with _|ab
 exact A5 d
 refine have d:Ea af g f aa (EB af g f aa ab) o ag ah ai aj=some z:=d; ?_
 obtain ⟨fr,b9⟩:∃s,s=EB af g f aa ab:=⟨_,rfl⟩
 rw [←b9,Ea] at d
 refine Sr<|Vr (.bool (decide (o< (aa.params.length:Int))))<|AA<|AR<|Cn d (fun ds d=>?_) fun ds d=>?_
 refine WC.skip<|AR<|Af<|Sr<|Vm<|Bi d fun a5 dt d=>have du:=Ss Ab bf aq; ?_
 obtain ⟨dv,dw,fs,dx,dy,dz,d0,d1,bi⟩:=A8 (κ:=Ab) du dt
 replace bi:Ax r ac dv (dw+o.toNat*3) dx:=bi
 obtain rfl:=Ez d1
 refine Vx (Ix D9 dy Z dz d0)<|Vx (Lx Xd Z Z (Ax.part0 bi [Sb a5.name,I a5.type_,I a5.at_] Z))<|Ef<|AY r 21 MG Z fun bj ft fu d2 ad=>Va (I o)<|Eu<|St Xg d2 Z Z Z Z fun fv d3 ae=>AA<|BW Cv (qs 0 8 (.one 8 .nil)) [] [1,3,4] bj (by kernel_rfl) fun ca w=>Qx a Z (v:=Pt q 0) (fun _ _=>Mv Z)<|Qx a Z (fun _ _=>Fd BS Z)<|have d4:=Bs (Y4 ba n aq ad ae) w;Qx a Z (fun _ ⟨_,c⟩=>Ld Cf Z (Bc (Bs d4 c) Z))<|Qx a Z (v:=I o) (fun _ _=>Mv Z)<|Bi d fun h d5 d=>have d6:=K3 AH (K4 AH a9 m l n aq) ad ae w; ?_
 obtain ⟨d7,d8,fw,d9,ea,eb,ec,ed,bk⟩:=A8 (κ:=AH) d6 d5
 replace bk:Ax bj ca d7 (d8+o.toNat*7) d9:=bk
 obtain ⟨cc,cd,rfl,cb⟩:=E1 (Ae ed)
 refine Qx a Z (fun _ _=>Ix CH ea Z eb ec)<|Qx a Z (fun _ ⟨_,c⟩=>Lx A9 Z Z (Ax.part0 (Es bk c) [I h.op,Sb h.name,Sb h.tail,I h.type_,Cx h.num,Sl cc h.args cd,I h.at_] Z))<|Qx a Z (fun _ _=>Fd Nw Z)<|have ee:=Bs d3 w;Qx a Z (fun _ ⟨_,c⟩=>Ld Ed Z (Bc (Bs ee c) Z))<|A1 Z<|have ef:=Y3 bh ad ae w;have eg:=K3 AI bg ad ae w;have eh:=Os (Os (Os b7 ad) ae) w;have ei:=Ms (Ms (Ms (Ms (Ms b3 n) aq) ad) ae) w;have ej:=Y3 b8 ad ae w;Bi d fun a6 ek d=>A3 Z (.none Z) Z Z (Cg [Pt q 0,Ag [I h.op,Sb h.name,Sb h.tail,I h.type_,Cx h.num,Sl cc h.args cd,I h.at_],I a5.type_] Z)<|Calls.mono (ci.types_checker_want bj ca (ko0_2:=4) ek dcd dcd ef eg eh ei ej (Ak (x:=(AD.mk ai aj))) (AW (x:=h) cb)) ?_
 rintro _ fy ⟨el,fz,f0,f1,rfl,cf,em,cg,ch,en,eo⟩
 obtain ⟨ep,eq,rfl⟩:=AT cg
 obtain ⟨er,es,rfl⟩:=Own.len ch
 obtain rfl:=As eo
 refine ⟨_,Z,⟨_,(Mo [1,3,4] cf)⟩,?_⟩
 refine B9<|AL<|Vr (I (Wr (o+1)))<|Vm<|AA<|⟨ab,Nat.lt_succ_self ab,_,el,(Wr (o+1)),a6.1,ep,eq,a6.2.1,er,es,a6.2.2.why,a6.2.2.at_,Pu,(b9▸d),(T4 (Mo [1,3,4,21] aq) ad ae w cf),cg,ch,em,en⟩
 refine Ba<|Sr<|Vm<|Vx (Nc Z)<|Vx (Fd Qz Z)<|Vx (Ld G8 Z (Bc bh Z))<|Vm<|Vr (I (Wr ((Cu g f.name) - 1)))<|Bi d fun et eu d=>?_
 obtain ⟨ew,ex,f2,ey,ez,e0,e1,e2,bl⟩:=A8 (κ:=AI) bg eu
 replace bl:Ax r ac ew (ex+((Wr ((Cu g f.name) - 1))).toNat*11) ey:=bl
 obtain ⟨f3,f4,rfl,e3,e4⟩:=Cl e2
 obtain ⟨f5,f6,rfl⟩:=AT e3
 obtain ⟨f7,f8,rfl⟩:=AT e4
 refine Vx (Ix GI ez Z e0 e1)<|Vx (Fd O0 Z)<|Vx (Ld Ed Z (Ax.cell (k:=2) bl Z))<|Va (I et.type_)<|AA<|AQ ?_
 obtain rfl:=AK d
 refine O1 B b1 Z (.tmp Z)<|⟨r,Sl a1 ag a2,Sl a3 ah a4,[I ai,I aj],Z,Ho (T3 (Mo [1,3,4,21] m) l n aq) bm,bh,bg,b7,b8,(Ak (x:=(AD.mk ai aj)))⟩
theorem OG(e:AG)(g:Nat)(o:AG.Good e):types_checker_call.Spec (GT e g):=by
 intro f h ai a aj ak al am ko0_2 an c ao ap d aq ar au av aw p hnd hnz l q r s m u w
 refine Calls.mono (OF e g o (recol (see [a,c,d,ko0_2]) f) h (Fa (Nat.le_of_ble_eq_true Z) f) (BU l [a,c,d,ko0_2] (BP hnd hnz (i:=0) Z)) (Eo AI q [a,c,d,ko0_2]) (Im r [a,c,d,ko0_2] (BP hnd hnz (i:=3) Z)) (Fs s [a,c,d,ko0_2] (BP hnd hnz (i:=1) Z)) (BU m [a,c,d,ko0_2] (BP hnd hnz (i:=2) Z)) (BY An u [a,c,d,ko0_2]) (BY AH w [a,c,d,ko0_2]) p) ?_
 rintro ax ay ⟨y,z,aa,ab,ac,n,ad,ae,af,ag,ah⟩
 exact ⟨glue [a,c,d,ko0_2] h f y,z,aa,ab,ac,CA n (Fb Z Z),ED l ad dcd,HO AI ae,Jz (j:=3) af Z Z n,ED m ag dcd,Dm An ah⟩
theorem AG.good:∀d,AG.Good (AG.at d)
 |0=>⟨by intro a c;intros;(try intro _);intros;exact A5 (by assumption),by intro a c;intros;(try intro _);intros;exact A5 (by assumption),by intro a c;intros;(try intro _);intros;exact A5 (by assumption),by intro a c;intros;(try intro _);intros;exact A5 (by assumption),by intro a c;intros;(try intro _);intros;exact A5 (by assumption),by intro a c;intros;(try intro _);intros;exact A5 (by assumption),by intro a c;intros;(try intro _);intros;exact A5 (by assumption),by intro a c;intros;(try intro _);intros;exact A5 (by assumption),by intro a c;intros;(try intro _);intros;exact A5 (by assumption),by intro a c;intros;(try intro _);intros;exact A5 (by assumption)⟩
 |n+1=>⟨OA _ n (AG.good n),Om _ n (AG.good n),PK _ n (AG.good n),OC _ n (AG.good n),OE _ n (AG.good n),Oq _ n (AG.good n),Nh _ n (AG.good n),Nj _ n (AG.good n),Nl _ n (AG.good n),OG _ n (AG.good n)⟩
theorem Ot(a:Nat):types_checker_want.Spec (types_checker_want a):=(AG.good a).types_checker_want
def HE.At(c:Col)(a:World)(f:AM→Option AD):Prop:=
 ∀{d e g},f d=some g→CK.rep c.F a e d→
  Calls PG 29 #[Ag e] a fun n h=>∃l m,n=.returned (Ag m)∧AS [] c a l h∧An.rep l.F h m g
def HE.Spec(f:AM→Option AD):Prop:=
 ∀a c,HE.At a c f
theorem R3(l:Nat)(au:Col)(bv:World)(a1:∀b,au b<10):HE.At au bv (HE l):=by
 intro e dw a2 c bw
 rw [HE] at c
 obtain ⟨n,o,rfl,a3⟩:=E1 (BV bw)
 refine Ay Tryz.func29 Z Tryz.ntmps29 Z fun B a4 dy=>?_
 refine Sr ?_
 refine Ef (A0 au 20 Z Z fun bx dz bz b0 av=>?_)
 refine Ef (AY bx 21 FM Z fun b1 b2 b3 a5 an=>?_)
 refine AA ?_
 refine Sr ?_
 have a6:=(Bs b0 an)
 refine Vx (v:=Ag [Sl n e.funcs o]) (Lx Gd Z Z (Bw a6)) ?_
 have a7:=(K2 AI a3 av an)
 obtain ⟨d,b4,c⟩:=bnd_sm c
 refine CT (.none Z) Z Z (Cg [Ag [Sl n e.funcs o]] Z) ?_
 refine Calls.mono (TM l b1 b2 b4 (BQ (x:=e) a7)) ?_
 rintro _ d0 ⟨b5,d1,rfl,ae,b6⟩
 obtain rfl:=As b6
 refine ⟨_,Z,?_⟩
 refine Ef (AY b5 22 FM Z fun a8 d2 p b7 af=>?_)
 refine Eu (St (vs:=[I d.why,I d.at_]) (cs':=[I d.why,I d.at_]) HK b7 Z Z Z Z fun b8 ao ag=>?_)
 refine AA ?_
 refine AR ?_
 refine Sr ?_
 refine Vx (v:=Pt p 0) (Fz ND Z) ?_
 refine Vx (v:=I d.why) (Ld NE Z (Bc ao Z)) ?_
 refine Vr (.bool (d.why != 0)) ?_
 refine AA ?_
 refine Cn c (fun b9 c=>?_) fun b9 c=>?_
 refine Sr ?_
 refine Vx (v:=Ag [I d.why,I d.at_]) (Lx K9 Z Z (Bw ao)) ?_
 have ca:=(Y3 a5 ae af ag)
 refine Eu (St (vs:=[I d.why,I d.at_]) (cs':=[I d.why,I d.at_]) HK ca Z Z Z Z fun d3 cb cc=>?_)
 refine AA ?_
 refine AQ ?_
 obtain rfl:=AK c
 refine YP (B:=B) a4 (Su Z (.agg K9 Z Z (Bw cb)) ?_)
 exact ⟨a8,[I d.why,I d.at_],Z,Ho (Tn (T4 (Mo [21,22] av) an ae af ag) cc) a1,(Ak (x:=d))⟩
 refine WC.skip ?_
 refine Sr ?_
 have a9:=(Y3 a6 ae af ag)
 refine Vx (v:=Ag [Sl n e.funcs o]) (Lx Gd Z Z (Bw a9)) ?_
 refine Vx (v:=.func (.func 52) #[] [Pt p 0].toArray) (IV (vs:=[Pt p 0]) Z) ?_
 have ba:=(K3 AI a7 ae af ag)
 obtain ⟨ah,cd,c⟩:=bnd_sm c
 refine CT (.none Z) Z Z (Cg [Ag [Sl n e.funcs o],.func (.func 52) #[] [Pt p 0].toArray] Z) ?_
 refine Calls.mono (UT l a8 b8 (kn1:=23) (kn2:=24) (ko1_2:=25) cd dcd dcd (BQ (x:=e) ba) ao (Ak (x:=d))) ?_
 rintro _ cf ⟨bb,q,bc,d4,d5,rfl,aj,d6,cg,bd,be,ch⟩
 obtain ⟨ci,cj,rfl⟩:=AT bd
 obtain ⟨ck,cl,rfl⟩:=Own.len be
 refine ⟨_,Z,?_⟩
 refine Va (Pt q 0) ?_
 refine AA ?_
 refine AR ?_
 refine Sr ?_
 refine Vx (v:=Pt bz 0) (Fz EX Z) ?_
 have cm:=(Bs a9 aj)
 refine Vx (v:=Sl n e.funcs o) (Ld G8 Z (Bc cm Z)) ?_
 have bf:=(Ss AI ba aj)
 obtain ⟨d7,d8,cn⟩:=AT bf
 refine Vx (v:=I (e.funcs.length:Int)) (Ll GI cn) ?_
 refine Vx (v:=I 0) (Mv Z) ?_
 refine AA ?_
 refine Af ?_
 refine Bg (fun r co u=>∃bg m h f g w ap aq ai aw ax,co=Env.puts bg [(2,Pt b3 0),(3,Pt p 0),(4,Pt q 0),(17,Sl n e.funcs o),(18,I (e.funcs.length:Int)),(19,I h)]∧Hy l e ah r h f g w ai=some a2∧AS [22,23,25,26] bb cf m u∧Slc AI m.F u (Sl ap w aq) w∧Own Ab 87 m u 25 (Sl aw ai ax) ai∧Bk m u 22 p [I f,I g] 63∧Bk m u 23 q [.map (some bc),Sl ap w aq,Sl aw ai ax,.func (.func 52) #[] [Pt p 0].toArray] 134) l ?_ ?_
 have cq:=(Bs ao aj)
 exact ⟨_,bb,0,d.why,d.at_,ah.2.1,ci,cj,ah.2.2.1,ck,cl,Pu,c,(AS.refl [22,23,25,26] _ _),bd,be,cq,cg⟩
 rintro r _ u ⟨bg,m,h,f,g,w,ap,aq,ai,aw,ax,rfl,c,ak,cr,d9,bh,ct⟩
 rcases r with _|r
 exact A5 c
 have c:IE l e ah (Hy l e ah r) h f g w ai=some a2:=c
 obtain ⟨ea,bi⟩:∃s,s=Hy l e ah r:=⟨_,rfl⟩
 rw [←bi,IE] at c
 refine Sr ?_
 refine Vr (.bool (decide (h< (e.funcs.length:Int)))) ?_
 refine AA ?_
 refine AR ?_
 refine Cn c (fun cu c=>?_) fun cu c=>?_
 refine WC.skip ?_
 refine AR ?_
 refine Af ?_
 refine Sr ?_
 obtain ⟨a,cv,c⟩:=bnd_sm c
 have cw:=(Ss AI bf ak)
 obtain ⟨bj,bk,eb,cx,cy,cz,c0,c1,ay⟩:=A8 (κ:=AI) cw cv
 replace ay:Ax m u bj (bk+h.toNat*11) cx:=ay
 obtain ⟨ec,ed,rfl,bl,bm⟩:=Cl c1
 obtain ⟨al,am,rfl⟩:=AT bl
 obtain ⟨y,z,rfl⟩:=AT bm
 refine Vx (v:=.pointer (some ⟨bj,bk+h.toNat*11,none⟩)) (Ix GI cy Z cz c0) ?_
 refine Vx (v:=Ag [Sb a.name,Sl al a.params am,I a.type_,I a.body.op,Sb a.body.name,Sb a.body.tail,I a.body.type_,Cx a.body.num,Sl y a.body.args z,I a.body.at_,I a.at_]) (Lx MD Z Z (Ax.part0 ay [Sb a.name,Sl al a.params am,I a.type_,I a.body.op,Sb a.body.name,Sb a.body.tail,I a.body.type_,Cx a.body.num,Sl y a.body.args z,I a.body.at_,I a.at_] Z)) ?_
 refine Ef (AY m 26 KS Z fun c2 ee az c3 aa=>?_)
 have c4:=(Ss Ab bl aa)
 have c5:=(Ss AH bm aa)
 refine Eu (St (vs:=[Sb a.name,Sl al a.params am,I a.type_,I a.body.op,Sb a.body.name,Sb a.body.tail,I a.body.type_,Cx a.body.num,Sl y a.body.args z,I a.body.at_,I a.at_]) (cs':=[Sb a.name,Sl al a.params am,I a.type_,I a.body.op,Sb a.body.name,Sb a.body.tail,I a.body.type_,Cx a.body.num,Sl y a.body.args z,I a.body.at_,I a.at_]) LB c3 Z Z Z Z fun c6 bn ab=>?_)
 refine AA ?_
 refine Sr ?_
 refine Vx (v:=Pt q 0) (Mv Z) ?_
 refine Vx (v:=Pt az 1) (Fd EY Z) ?_
 refine Vx (v:=Sl al a.params am) (Ld Ey Z (Bc bn Z)) ?_
 have c7:=(Ss Ab c4 ab)
 obtain ⟨ef,bo,c⟩:=bnd_sm c
 refine Ef (Bu (κ:=Ab) Z Z (Own.nil:Own Ab 87 c2 c6 25 _ _) dcd P7 (IU c7) (Et bo) (E6 bo) fun eg c8 eh a0 ac=>?_)
 obtain ⟨bp,bq,rfl⟩:=Own.len a0
 refine Vx (v:=Pt q 0) (Nc Z) ?_
 refine Vx (v:=Pt q 2) (Fd Fk Z) ?_
 have c9:=(Y3 ct aa ab ac)
 refine Eu (Bv (vs:=[Sl bp ((([]:List AJ)++a.params)) bq]) (cs':=[.map (some bc),Sl ap w aq,Sl bp ((([]:List AJ)++a.params)) bq,.func (.func 52) #[] [Pt p 0].toArray]) O6 Z Z Z Z (AX (Own.one a0) CJ) c9 dcd Z Z fun da db ad=>?_)
 refine AA ?_
 refine AL ?_
 refine Vx (v:=Pt q 0) (Mv Z) ?_
 refine Vx (v:=Pt az 3) (Fd ME Z) ?_
 have br:=(Y2 bn ac ad)
 refine Vx (v:=Ag [I a.body.op,Sb a.body.name,Sb a.body.tail,I a.body.type_,Cx a.body.num,Sl y a.body.args z,I a.body.at_]) (Lx A9 Z Z (Bk.part br 3 [I a.body.op,Sb a.body.name,Sb a.body.tail,I a.body.type_,Cx a.body.num,Sl y a.body.args z,I a.body.at_] Z)) ?_
 refine Vx (v:=Pt az 2) (Fd O0 Z) ?_
 refine Vx (v:=I a.type_) (Ld Ed Z (Bc br Z)) ?_
 have dc:=(K4 AI cr aa ab ac ad)
 have de:=(Os a0 ad)
 have df:=(Ms (Ms (Ms (Ms (Ms ch ak) aa) ab) ac) ad)
 have dg:=(Y4 bh aa ab ac ad)
 have dh:=(K3 AH c5 ab ac ad)
 obtain ⟨ar,di,c⟩:=bnd_sm c
 refine CT (.none Z) Z Z (Cg [Pt q 0,Ag [I a.body.op,Sb a.body.name,Sb a.body.tail,I a.body.type_,Cx a.body.num,Sl y a.body.args z,I a.body.at_],I a.type_] Z) ?_
 refine Calls.mono (Ot l c8 da (ko0_2:=25) di dcd dcd db dc de df dg (Ak (x:=(AD.mk f g))) (AW (x:=(AE.mk a.body.op a.body.name a.body.tail a.body.type_ a.body.num a.body.args a.body.at_)) dh)) ?_
 rintro _ ei ⟨dj,ej,ek,el,rfl,dk,dl,bt,bu,dm,dn⟩
 obtain ⟨dp,dq,rfl⟩:=AT bt
 obtain ⟨dr,ds,rfl⟩:=Own.len bu
 obtain rfl:=As dn
 refine ⟨_,Z,?_⟩
 refine AA ?_
 refine AL ?_
 refine Vr (I (Wr (h+1))) ?_
 refine Vx (v:=I (Wr (h+1))) (Mv Z) ?_
 refine AA ?_
 exact ⟨r,Nat.lt_succ_self r,_,dj,(Wr (h+1)),ar.2.2.why,ar.2.2.at_,ar.1,dp,dq,ar.2.1,dr,ds,Pu,(bi▸c),(Tn (T4 (Mo [22,23,25,26] ak) aa ab ac ad) dk),bt,bu,dm,dl⟩
 refine Ba ?_
 refine Sr ?_
 refine Vx (v:=Ag [I f,I g]) (Lx K9 Z Z (Bw bh)) ?_
 have dt:=(Bs (Y4 a5 ae af ag aj) ak)
 refine Eu (St (vs:=[I f,I g]) (cs':=[I f,I g]) HK dt Z Z Z Z fun em du dv=>?_)
 refine AA ?_
 refine AQ ?_
 obtain rfl:=AK c
 refine YP (B:=B) a4 (Su Z (.agg K9 Z Z (Bw du)) ?_)
 exact ⟨m,[I f,I g],Z,Ho (T3 (T4 (Mo [21,22,23,24,25,26] av) an ae af ag) aj ak dv) a1,(Ak (x:=(AD.mk f g)))⟩
theorem TO(c:Nat):HE.Spec (HE c):=lk0 (R3 c)
def IF.At(e:Col)(a:World)(f:Nat→Option Nat):Prop:=
 ∀{c d},f c=some d→
  Calls PG 113 #[Fl c] a fun g h=>∃l,g=.returned (Fl d)∧AS [] e a l h
def IF.Spec(f:Nat→Option Nat):Prop:=
 ∀a c,IF.At a c f
theorem TP(c:Col)(e:World)(f:∀b,c b<10):IF.At c e IF:=by
 intro g n a
 rw [IF] at a
 refine Ay Tryz.func113 Z Tryz.ntmps113 Z fun B l o=>Sr<|Va (Fl (0:Nat))<|AA<|AR<|WC.cond (t:=true) Z (fun h=>?_) (fun h=>by cases h)
 refine Sr<|Vm<|Bi a fun d m a=>Vx (v:=Fl d) (AAj (vs:=[Fl g]) Z (XX m))<|Va (Fl d)<|AA<|AQ ?_
 obtain rfl:=AK a
 refine O1 B l Z (.tmp Z)<|⟨c,Z,Ho Rf f⟩
theorem UU:IF.Spec IF:=lk0 (TP)
def IY.At(e:Col)(a:World)(f:Nat→Option Bool):Prop:=
 ∀{c d},f c=some d→
  Calls PG 114 #[Fl c] a fun g h=>∃l,g=.returned (.bool d)∧AS [] e a l h
def IY.Spec(f:Nat→Option Bool):Prop:=
 ∀a c,IY.At a c f
theorem RC(c:Col)(e:World)(f:∀b,c b<10):IY.At c e IY:=by
 intro a h d
 rw [IY] at d
 refine Ay Tryz.func114 Z Tryz.ntmps114 Z fun B g l=>Sr<|Va (.bool false)<|AA<|Sr<|Vm<|Vx (v:=.int .u64 ((a:Nat):Int)) (PA (vs:=[Fl a]) Z Z)<|Vr (I (Wr ((a:Nat):Int)))<|Vr (.bool (decide ((Wr ((a:Nat):Int))<0)))<|Va (.bool (decide ((Wr ((a:Nat):Int))<0)))<|AA<|AQ ?_
 obtain rfl:=AK d
 refine O1 B g Z (.tmp Z)<|⟨c,Z,Ho Rf f⟩
theorem R4:IY.Spec IY:=lk0 (RC)
def Er.At(e:Col)(a:World)(f:Nat→Option Bool):Prop:=
 ∀{c d},f c=some d→
  Calls PG 88 #[Fl c] a fun g h=>∃l,g=.returned (.bool d)∧AS [] e a l h
def Er.Spec(f:Nat→Option Bool):Prop:=
 ∀a c,Er.At a c f
theorem R5(g:Col)(l:World)(u:∀b,g b<10):Er.At g l Er:=by
 intro h w a
 rw [Er] at a
 refine Ay Tryz.func88 Z Tryz.ntmps88 Z fun B y ah=>Sr<|Va (.bool false)<|AA<|Am (fun z r=>∃s m n,z=Env.puts s [(2,.bool n)]∧Hz n=some w∧AS [] g l m r) ?_ ?_
 refine AL<|Vm<|Vr (.bool (fge h (13938640846711685120:Nat)))<|Vm<|Bo a (fun f a=>?_) fun f a=>?_
 refine Gm f<|Gr f (.bool (fle h (4715268809856909312:Nat)))<|Vp f<|Vm<|Bo a (fun d a=>?_) fun d a=>?_
 refine Gm d<|Gm d<|Bi a fun aa ab a=>CT (.guard (t:=true) (b:=true) Z Z Z Z (Cb d)) Z Z (Cg [Fl h] Z)<|Calls.mono (UU g l ab) ?_
 rintro _ ac ⟨o,rfl,p⟩
 refine ⟨_,Z,?_⟩
 refine Gr d (.bool (feq h aa))<|Vp d<|Vm<|Bo a (fun c a=>?_) fun c a=>?_
 refine Gm c<|Gr c (.bool (fne h (0:Nat)))<|Gm c<|Bo a (fun e a=>?_) fun e a=>?_
 refine Pg e<|Pg e<|Pg e<|Gp c e<|Vp c<|Va (.bool true)<|AA<|⟨_,o,true,Pu,a,(Mo [] p)⟩
 refine Gm e<|Bi a fun q ad a=>CT (.guard (t:=false) (b:=false) Z Z Z Z (Cb e)) Z Z (Cg [Fl h] Z)<|Calls.mono (R4 o ac ad) ?_
 rintro _ ai ⟨ae,rfl,af⟩
 refine ⟨_,Z,?_⟩
 refine Gr e (.bool (!q))<|Gp c e<|Vp c<|Va (.bool (!q))<|AA<|⟨_,ae,(!q),Pu,a,(Tn (Mo [] p) af)⟩
 refine Pg c<|Pg c<|Pg c<|Po<|Po<|Po<|Pg c<|Vp c<|Va (.bool false)<|AA<|⟨_,o,false,Pu,a,(Mo [] p)⟩
 refine Pg d<|Pg d<|Pg d<|Pg d<|Vp d<|Vm<|Pg Z<|Pg Z<|Pg Z<|Po<|Po<|Po<|Pg Z<|Vr (.bool false)<|Va (.bool false)<|AA<|⟨_,g,false,Pu,a,Rf⟩
 refine Pg f<|Pg f<|Vp f<|Vm<|Pg Z<|Pg Z<|Pg Z<|Pg Z<|Vr (.bool false)<|Vm<|Pg Z<|Pg Z<|Pg Z<|Po<|Po<|Po<|Pg Z<|Vr (.bool false)<|Va (.bool false)<|AA<|⟨_,g,false,Pu,a,Rf⟩
 rintro _ r ⟨s,m,n,rfl,a,ag⟩
 rw [Hz] at a
 refine AQ ?_
 obtain rfl:=AK a
 refine O1 B y Z (.tmp Z)<|⟨m,Z,Ho (Mo [] ag) u⟩
theorem PL:Er.Spec Er:=lk0 (R5)
def Bt.At(e:Col)(a:World)(f:(Nat×Nat)→Option Bool):Prop:=
 ∀{c d},f c=some d→
  Calls PG 54 #[Cx c] a fun g h=>∃l,g=.returned (.bool d)∧AS [] e a l h
def Bt.Spec(f:(Nat×Nat)→Option Bool):Prop:=
 ∀a c,Bt.At a c f
theorem R6(d:Col)(f:World)(q:∀b,d b<10):Bt.At d f Bt:=by
 intro e r a
 rw [Bt] at a
 refine Ay Tryz.func54 Z Tryz.ntmps54 Z fun B s ad=>Sr<|Va (.bool false)<|AA<|Am (fun u l=>∃m g h,u=Env.puts m [(2,.bool h)]∧J6 h=some r∧AS [] d f g l) ?_ ?_
 refine AL<|Vm<|Vx (v:=Fl e.1) (Run.real Z)<|Bi a fun ae w a=>Ca (Cg [Fl e.1] Z) (PL d f w) ?_
 rintro _ y ⟨n,rfl,o⟩
 refine Vm<|Bo a (fun c a=>?_) fun c a=>?_
 refine Gm c<|Gx c (v:=Fl e.2) (Run.imag Z)<|Bi a fun p z a=>CT (.guard (t:=true) (b:=true) Z Z Z Z (Cb c)) Z Z (Cg [Fl e.2] Z)<|Calls.mono (PL n y z) ?_
 rintro _ af ⟨aa,rfl,ab⟩
 refine ⟨_,Z,?_⟩
 refine Vp c<|Va (.bool p)<|AA<|⟨_,aa,p,Pu,a,(Tn (Mo [] o) ab)⟩
 refine Pg c<|Pg c<|Pg c<|Vp c<|Va (.bool false)<|AA<|⟨_,n,false,Pu,a,(Mo [] o)⟩
 rintro _ l ⟨m,g,h,rfl,a,ac⟩
 rw [J6] at a
 refine AQ ?_
 obtain rfl:=AK a
 refine O1 B s Z (.tmp Z)<|⟨g,Z,Ho (Mo [] ac) q⟩
theorem DI:Bt.Spec Bt:=lk0 (R6)
def Cr.At(c:Col)(a:World)(f:AF→Option Int):Prop:=
 ∀{d e g},f d=some g→Ao.rep c.F a e d→
  Calls PG 30 #[Ag e] a fun h l=>∃m,h=.returned (I g)∧AS [] c a m l
def Cr.Spec(f:AF→Option Int):Prop:=
 ∀a c,Cr.At a c f
theorem R7(am:Nat)(an:Col)(bd:World)(az:∀b,an b<10):Cr.At an bd (Cr am):=by
 intro c b9 y a be
 rw [Cr] at a
 obtain ⟨a0,a1,rfl,af⟩:=E1 (Az be)
 refine Ay Tryz.func30 Z Tryz.ntmps30 Z fun B a2 cb=>Sr<|Ef<|A0 an 20 Z Z fun w z bf o aa=>Va (I 0)<|AA<|Sr<|Va (.bool true)<|AA<|Am (fun q a3=>∃d ag ah,q=Env.puts d [(3,.bool ah)]∧Dz ah=some y∧AS [] w z ag a3) ?_ ?_
 refine Sr<|Vx (Fz Jd Z)<|Vx (Ld Ed Z (Bc o Z))<|AA<|Af<|Sr<|Vr (.bool (c.type_==1))<|Va (.bool (c.type_==1))<|AA<|Cn a (fun bg a=>?_) fun bg a=>?_
 refine AL<|Vx (Fd HT Z)<|Vx (Ld HL Z (Bc o Z))<|Bi a fun cc bh a=>Ca (Cg [Cx c.num] Z) (DI w z bh) ?_
 rintro _ cd ⟨ao,rfl,ab⟩
 refine Vm<|Bo a (fun h a=>?_) fun h a=>?_
 refine Gx h (Fd Ka Z)<|have a4:=Bs o ab;Gx h (Ld MF Z (Bc a4 Z))<|Gr h (.bool (!c.bool))<|Vp h<|Vm<|Bo a (fun e a=>?_) fun e a=>?_
 refine Gx e (Fd D8 Z)<|Gx e (Ld Ib Z (Bc a4 Z))<|have bi:=K2 Kd.cpx af aa ab; ?_
 obtain ⟨cf,cg,bj⟩:=AT bi
 refine Gx e (v:=I (c.list.length:Int)) (Ll IQ bj)<|Gr e (.bool ((c.list.length:Int)==0))<|Vp e<|Va (.bool ((c.list.length:Int)==0))<|AA<|⟨_,ao,((c.list.length:Int)==0),Pu,a,(Mo [] ab)⟩
 refine Pg e<|Pg e<|Pg e<|Pg e<|Vp e<|Va (.bool false)<|AA<|⟨_,ao,false,Pu,a,(Mo [] ab)⟩
 refine Pg h<|Pg h<|Pg h<|Vp h<|Vm<|Pg Z<|Pg Z<|Pg Z<|Pg Z<|Vr (.bool false)<|Va (.bool false)<|AA<|⟨_,ao,false,Pu,a,(Mo [] ab)⟩
 refine Sr<|Vr (.bool (c.type_==2))<|Va (.bool (c.type_==2))<|AA<|Cn a (fun bk a=>?_) fun bk a=>?_
 refine AL<|Vx (Fd HT Z)<|Vx (Ld HL Z (Bc o Z))<|Bi a fun ch bl a=>Ca (Cg [Cx c.num] Z) (DI w z bl) ?_
 rintro _ ci ⟨ap,rfl,ac⟩
 refine Vm<|Bo a (fun l a=>?_) fun l a=>?_
 refine Gx l (Fd HT Z)<|have a5:=Bs o ac;Gx l (Ld HL Z (Bc a5 Z))<|Gx l (v:=.bool (ceq c.num ((0,0):Nat×Nat))) (Run.ceq Z Z)<|Vp l<|Vm<|Bo a (fun f a=>?_) fun f a=>?_
 refine Gx f (Fd D8 Z)<|Gx f (Ld Ib Z (Bc a5 Z))<|have bm:=K2 Kd.cpx af aa ac; ?_
 obtain ⟨cj,ck,bn⟩:=AT bm
 refine Gx f (v:=I (c.list.length:Int)) (Ll IQ bn)<|Gr f (.bool ((c.list.length:Int)==0))<|Vp f<|Va (.bool ((c.list.length:Int)==0))<|AA<|⟨_,ap,((c.list.length:Int)==0),Pu,a,(Mo [] ac)⟩
 refine Pg f<|Pg f<|Pg f<|Pg f<|Vp f<|Va (.bool false)<|AA<|⟨_,ap,false,Pu,a,(Mo [] ac)⟩
 refine Pg l<|Pg l<|Pg l<|Vp l<|Vm<|Pg Z<|Pg Z<|Pg Z<|Pg Z<|Vr (.bool false)<|Va (.bool false)<|AA<|⟨_,ap,false,Pu,a,(Mo [] ac)⟩
 refine Sr<|Vr (.bool (c.type_==3))<|Va (.bool (c.type_==3))<|AA<|Cn a (fun bo a=>?_) fun bo a=>?_
 refine Am (fun q aq=>∃d ai aj,q=Env.puts d [(1,Pt bf 0),(3,.bool aj)]∧I2 am c aj=some y∧AS [] w z ai aq) ?_ ?_
 refine AL<|Vx (Fd HT Z)<|Vx (Ld HL Z (Bc o Z))<|Bi a fun cl bp a=>Ca (Cg [Cx c.num] Z) (DI w z bp) ?_
 rintro _ cm ⟨ar,rfl,ak⟩
 refine Vm<|Bo a (fun m a=>?_) fun m a=>?_
 refine Gx m (Fd HT Z)<|have a6:=Bs o ak;Gx m (Ld HL Z (Bc a6 Z))<|Gx m (v:=.bool (ceq c.num ((0,0):Nat×Nat))) (Run.ceq Z Z)<|Vp m<|Vm<|Bo a (fun n a=>?_) fun n a=>?_
 refine Gx n (Fd Ka Z)<|Gx n (Ld MF Z (Bc a6 Z))<|Gr n (.bool (!c.bool))<|Vp n<|Va (.bool (!c.bool))<|AA<|⟨_,ar,(!c.bool),Pu,a,(Mo [] ak)⟩
 refine Pg n<|Pg n<|Pg n<|Vp n<|Va (.bool false)<|AA<|⟨_,ar,false,Pu,a,(Mo [] ak)⟩
 refine Pg m<|Pg m<|Pg m<|Vp m<|Vm<|Pg Z<|Pg Z<|Pg Z<|Vr (.bool false)<|Va (.bool false)<|AA<|⟨_,ar,false,Pu,a,(Mo [] ak)⟩
 rintro _ aq ⟨d,ai,aj,rfl,a,au⟩
 rw [I2] at a
 refine Sr<|Vx (Fd D8 Z)<|have bq:=Bs o au;Vx (Ld Ib Z (Bc bq Z))<|have a7:=K2 Kd.cpx af aa au; ?_
 obtain ⟨cn,co,br⟩:=AT a7
 refine Vx (v:=I (c.list.length:Int)) (Ll IQ br)<|Vm<|AA<|Af<|Bg (fun p q ad=>∃d r ae g,q=Env.puts d [(3,.bool ae),(56,Sl a0 c.list a1),(57,I (c.list.length:Int)),(58,I g)]∧F4 c p ae g=some y∧AS [] ai aq r ad) am ?_ ?_
 exact ⟨_,ai,aj,0,Pu,a,Rf⟩
 rintro p _ ad ⟨d,r,ae,g,rfl,a,av⟩
 rcases p with _|p
 exact A5 a
 refine have a:IG c (F4 c p) ae g=some y:=a; ?_
 obtain ⟨bt,a8⟩:∃s,s=F4 c p:=⟨_,rfl⟩
 rw [←a8,IG] at a
 refine Sr<|Vr (.bool (decide (g< (c.list.length:Int))))<|AA<|AR<|Cn a (fun bu a=>?_) fun bu a=>?_
 refine WC.skip<|Am (fun q a9=>∃d aw al,q=Env.puts d [(3,.bool al),(56,Sl a0 c.list a1),(57,I (c.list.length:Int)),(58,I g)]∧J7 g bt al=some y∧AS [] r ad aw a9) ?_ ?_
 refine Af<|Sr<|Bi a fun ax bv a=>have bw:=Ss Kd.cpx a7 av; ?_
 obtain ⟨bx,bz,cq,ba,b0,b1,b2,b3,ay⟩:=A8 (κ:=Kd.cpx) bw bv
 replace ay:Ax r ad bx (bz+g.toNat*1) ba:=ay
 obtain rfl:=(show ba=[Cx ax] from b3)
 refine Vx (Ix IQ b0 Z b1 b2)<|Vx (Ld HL Z (Ax.cell0 ay Z))<|Va (Cx ax)<|AA<|AL<|Vm<|Vm<|Bo a (fun u a=>?_) fun u a=>?_
 refine Gm u<|Bi a fun bb b4 a=>CT (.guard (t:=true) (b:=true) Z Z Z Z (Cb u)) Z Z (Cg [Cx ax] Z)<|Calls.mono (DI r ad b4) ?_
 rintro _ cr ⟨b5,rfl,b6⟩
 refine ⟨_,Z,?_⟩
 refine Vp u<|Va (.bool bb)<|AA<|⟨_,b5,bb,Pu,a,(Mo [] b6)⟩
 refine Pg u<|Pg u<|Vp u<|Va (.bool false)<|AA<|⟨_,r,false,Pu,a,Rf⟩
 rintro _ a9 ⟨d,aw,al,rfl,a,b7⟩
 rw [J7] at a
 refine AL<|Vr (I (Wr (g+1)))<|Vm<|AA<|⟨p,Nat.lt_succ_self p,_,aw,al,(Wr (g+1)),Pu,(a8▸a),(Tn (Mo [] av) b7)⟩
 refine Ba<|⟨_,r,ae,Pu,a,(Tn (Mo [] au) av)⟩
 refine AL<|Va (.bool false)<|AA<|⟨_,w,false,Pu,a,Rf⟩
 rintro _ a3 ⟨d,ag,ah,rfl,a,bc⟩
 rw [Dz] at a
 refine AR<|Sr<|Vm<|Vr (.bool (!ah))<|AA<|Cn a (fun b8 a=>?_) fun b8 a=>?_
 refine Sr<|Va (I 3)<|AA<|AQ ?_
 obtain rfl:=AK a
 refine O1 B a2 Z (.tmp Z)<|⟨ag,Z,Ho (Tn (Mo [] aa) bc) az⟩
 refine WC.skip<|Sr<|Va (I 0)<|AA<|AQ ?_
 obtain rfl:=AK a
 refine O1 B a2 Z (.tmp Z)<|⟨ag,Z,Ho (Tn (Mo [] aa) bc) az⟩
theorem PM(c:Nat):Cr.Spec (Cr c):=lk0 (R7 c)
def Ip.At(c:Col)(a:World)(f:Aw→Option Th):Prop:=
 ∀{d e g},f d=some g→HS.rep c.F a e d→
  Calls PG 55 #[Ag e] a fun n h=>∃l m,n=.returned m∧AS [] c a l h∧MTh 89 90 l.F h m g
def Ip.Spec(f:Aw→Option Th):Prop:=
 ∀a c,Ip.At a c f
theorem UV(e:Col)(h:World)(l:∀b,e b<10):Ip.At e h Ip:=by
 intro a ae af f m
 rw [Ip] at f
 obtain ⟨ag,n,o,rfl,g,p,q⟩:=Dd m
 obtain ⟨r,s,rfl⟩:=AT g
 refine Ay Tryz.func55 Z Tryz.ntmps55 Z fun B u ah=>Sr<|Ef<|A0 e 20 Z Z fun ai aj c w d=>Va .nilFunc<|AA<|Sr<|Vx (v:=.func (.func 89) #[] [Pt c 0].toArray) (IV (vs:=[Pt c 0]) Z)<|Va (.func (.func 89) #[] [Pt c 0].toArray)<|AA<|AQ<|have y:=Ss Kd.cpx g d;have z:=Mt p d;have aa:=Mt q d; ?_
 obtain ⟨ab,ac,ad⟩:=MTh.layDone (L:=90) (cp:=[I a.plain.type_,Cx a.plain.num,.bool a.plain.bool,Sl r a.plain.list s]) (hv:=n) (tv:=o) w dcd (Al (x:=(AF.mk a.plain.type_ a.plain.num a.plain.bool a.plain.list)) y) z aa
 obtain rfl:=AK f
 refine O1 B u Z (.tmp Z)<|⟨ab,.func (.func 89) #[] [Pt c 0].toArray,Z,Ho (Tn (Mo [20] d) ac) l,ad⟩
theorem MI:Ip.Spec Ip:=by
 intro a c n o p d e
 refine Calls.mono (UV (recol (see []) a) c (Fa (Nat.le_of_ble_eq_true Z) a) d (BY HS e [])) ?_
 rintro q r ⟨f,g,h,l,m⟩
 exact ⟨glue [] c a f,g,h,CA l Mf,MTh.glue m⟩
def I3.At(c:Col)(a:World)(f:AF→Option Th):Prop:=
 ∀{d e g},f d=some g→Ao.rep c.F a e d→
  Calls PG 31 #[Ag e] a fun n h=>∃l m,n=.returned m∧AS [] c a l h∧MTh 89 90 l.F h m g
def I3.Spec(f:AF→Option Th):Prop:=
 ∀a c,I3.At a c f
theorem TQ(ab:Nat)(p:Col)(av:World)(ac:∀b,p b<10):I3.At p av (I3 ab):=by
 intro c bu ad a aw
 rw [I3] at a
 obtain ⟨r,u,rfl,q⟩:=E1 (Az aw)
 refine Ay Tryz.func31 Z Tryz.ntmps31 Z fun B ae bw=>Sr<|Ef<|A0 p 20 Z Z fun af ag ax w n=>Va .nilFunc<|AA<|AR<|Sr<|Vx (Fz Jd Z)<|Vx (Ld Ed Z (Bc w Z))<|Vr (.bool (c.type_ != 3))<|AA<|Cn a (fun ay a=>?_) fun ay a=>?_
 refine Sr<|Vx (Lx B0 Z Z (Bw w))<|Vx (v:=Ag [I c.type_,Cx c.num,.bool c.bool,Sl r c.list u,.nilFunc,.nilFunc]) (Bp LC Nb Z (.cons Z Z Z .nil))<|have az:=Ss Kd.cpx q n;Bi a fun bx a0 a=>Ca (Cg [Ag [I c.type_,Cx c.num,.bool c.bool,Sl r c.list u,.nilFunc,.nilFunc]] Z) (MI af ag a0 (Ct (x:=(Aw.mk c Th.nil Th.nil)) az MTh.nil MTh.nil)) ?_
 rintro _ bz ⟨a1,ah,rfl,a2,a3⟩
 refine Va ah<|AA<|AQ ?_
 obtain rfl:=AK a
 refine O1 B ae Z (.tmp Z)<|⟨a1,ah,Z,Ho (Tn (Mo [] n) a2) ac,a3⟩
 refine WC.skip<|Sr<|Vx (v:=Ag [I 3,Cx (((0,0):Nat×Nat)),.bool false,.slice none 0 0]) (Bp CS F7 Z (.cons Z Z Z .nil))<|Vx (v:=Ag [I 3,Cx (((0,0):Nat×Nat)),.bool false,.slice none 0 0,.nilFunc,.nilFunc]) (Bp LC Nb Z (.cons Z Z Z .nil))<|Bi a fun a4 a5 a=>Ca (Cg [Ag [I 3,Cx (((0,0):Nat×Nat)),.bool false,.slice none 0 0,.nilFunc,.nilFunc]] Z) (MI af ag a5 (Ct (x:=(Aw.mk (AF.mk 3 ((0,0):Nat×Nat) false []) Th.nil Th.nil)) BK MTh.nil MTh.nil)) ?_
 rintro _ a6 ⟨ai,aj,rfl,y,a7⟩
 refine Va aj<|AA<|AR<|Sr<|Vx (Fd D8 Z)<|have ak:=Bs w y;Vx (Ld Ib Z (Bc ak Z))<|have al:=K2 Kd.cpx q n y; ?_
 obtain ⟨b0,b1,a8⟩:=AT al
 refine Vx (v:=I (c.list.length:Int)) (Ll IQ a8)<|Vr (I (Wr ((c.list.length:Int) - 1)))<|Va (I (Wr ((c.list.length:Int) - 1)))<|AA<|Af<|Bg (fun e a9 h=>∃am g l f d,a9=Env.puts am [(1,Pt ax 0),(3,f),(4,I d)]∧Jj c e l d=some ad∧AS [] ai a6 g h∧MTh 89 90 g.F h f l) ab ?_ ?_
 exact ⟨_,ai,a4,aj,(Wr ((c.list.length:Int) - 1)),Pu,a,Rf,a7⟩
 rintro e _ h ⟨am,g,l,f,d,rfl,a,o,z⟩
 rcases e with _|e
 exact A5 a
 refine have a:Kv c (Jj c e) l d=some ad:=a; ?_
 obtain ⟨b2,an⟩:∃s,s=Jj c e:=⟨_,rfl⟩
 rw [←an,Kv] at a
 refine AR<|Sr<|Vm<|Vr (.bool (decide (d≥0)))<|AA<|Cn a (fun ba a=>?_) fun ba a=>?_
 refine WC.skip<|AR<|Af<|AL<|Vx (Fd D8 Z)<|have bb:=Bs ak o;Vx (Ld Ib Z (Bc bb Z))<|Vm<|Bi a fun m bc a=>have bd:=Ss Kd.cpx al o; ?_
 obtain ⟨be,o130,b3,ao,bf,bg,bh,bi,aa⟩:=A8 (κ:=Kd.cpx) bd bc
 replace aa:Ax g h be (o130+d.toNat*1) ao:=aa
 obtain rfl:=(show ao=[Cx m] from bi)
 refine Vx (Ix IQ bf Z bg bh)<|Vx (Ld HL Z (Ax.cell0 aa Z))<|Vx (v:=Ag [I 1,Cx m,.bool false,.slice none 0 0]) (Bp CS F7 Z (.cons Z Z Z (.cons Z Z Z .nil)))<|Vx (v:=Ag [I 1,Cx m,.bool false,.slice none 0 0,.nilFunc,.nilFunc]) (Bp LC Nb Z (.cons Z Z Z .nil))<|Bi a fun bj bk a=>Ca (Cg [Ag [I 1,Cx m,.bool false,.slice none 0 0,.nilFunc,.nilFunc]] Z) (MI g h bk (Ct (x:=(Aw.mk (AF.mk 1 m false []) Th.nil Th.nil)) BK MTh.nil MTh.nil)) ?_
 rintro _ bl ⟨bm,ap,rfl,aq,ar⟩
 refine Vm<|Vx (v:=Ag [I 0,Cx (((0,0):Nat×Nat)),.bool false,.slice none 0 0,ap,f]) (Bp LC Nb Z (.cons Z (Dk (MTh.one ar)) Z (.cons Z (Dk (MTh.one z)) Z .nil)))<|have bn:=Mt z aq;Bi a fun bo bp a=>Ca (Cg [Ag [I 0,Cx (((0,0):Nat×Nat)),.bool false,.slice none 0 0,ap,f]] Z) (MI bm bl bp (Ct (x:=(Aw.mk (AF.mk 0 ((0,0):Nat×Nat) false []) bj l)) BK ar bn)) ?_
 rintro _ b4 ⟨bq,au,rfl,br,bt⟩
 refine Va au<|AA<|AL<|Vm<|Vr (I (Wr (d - 1)))<|Va (I (Wr (d - 1)))<|AA<|⟨e,Nat.lt_succ_self e,_,bq,bo,au,(Wr (d - 1)),Pu,(an▸a),(T2 (Mo [] o) aq br),bt⟩
 refine Ba<|Sr<|Vm<|Va f<|AA<|AQ ?_
 obtain rfl:=AK a
 refine O1 B ae Z (.tmp Z)<|⟨g,f,Z,Ho (T2 (Mo [] n) y o) ac,z⟩
theorem UW(c:Nat):I3.Spec (I3 c):=by
 intro a d o p q e f
 refine Calls.mono (TQ c (recol (see []) a) d (Fa (Nat.le_of_ble_eq_true Z) a) e (BY Ao f [])) ?_
 rintro r s ⟨g,h,l,m,n⟩
 exact ⟨glue [] d a g,h,l,CA m Mf,MTh.glue n⟩
def Dl.At(c:Col)(a:World)(f:Nm→Bts→Option Th):Prop:=
 ∀{d v0 e g},f d e=some g→Gg 89 90 c.F a v0 d→
  Calls PG 56 #[v0,Sb e] a fun n h=>∃l m,n=.returned m∧AS [] c a l h∧MTh 89 90 l.F h m g
def Dl.Spec(f:Nm→Bts→Option Th):Prop:=
 ∀a c,Dl.At a c f
theorem Pq(r:Nat)(g:Col)(u:World)(ab:∀b,g b<10):Dl.At g u (Dl r):=by
 intro ac v0 d w a ad
 rw [Dl] at a
 refine Ay Tryz.func56 Z Tryz.ntmps56 Z fun B ae am=>Sr<|Va .nilFunc<|AA<|AR<|Af<|Bg (fun c af h=>∃y e l m,af=Env.puts y [(0,m),(1,Sb d)]∧Eb d c l=some w∧AS [] g u e h∧Gg 89 90 e.F h m l) r ?_ ?_
 exact ⟨_,g,ac,v0,Pu,a,Rf,ad⟩
 rintro c _ h ⟨y,e,l,m,rfl,a,z,ag⟩
 rcases c with _|c
 exact A5 a
 refine have a:LP d (Eb d c) l=some w:=a; ?_
 obtain ⟨an,aa⟩:∃s,s=Eb d c:=⟨_,rfl⟩
 rw [←aa,LP] at a
 refine AR<|Sr<|Vm<|Bi a fun n ah a=>?_
 obtain ⟨ai,o,p,q,f,aj,ak⟩:=Gg.el ag ah
 replace f:Ax e h ai 0 [Sb n.1,o,p]:=f
 refine Vx (Nc q)<|Vx (Fz ZM Z)<|Vx (Ld CG Z (Ax.cell0 f Z))<|Vm<|Vx (v:=.bool (!(n.1==d))) (Run.strNe Z Z)<|AA<|Cn a (fun al a=>?_) fun al a=>?_
 refine WC.skip<|Af<|AL<|Vm<|Vx (Nc q)<|Vx (Fd ZN Z)<|Vx (Ld ZS Z (Ax.cell (k:=2) f Z))<|Va p<|AA<|⟨c,Nat.lt_succ_self c,_,e,n.2.2,p,Pu,(aa▸a),(Mo [] z),ak⟩
 refine Ba<|Sr<|Vm<|Vx (Nc q)<|Vx (Fd W2 Z)<|Vx (Ld O8 Z (Ax.cell (k:=1) f Z))<|Va o<|AA<|AQ ?_
 obtain rfl:=AK a
 refine O1 B ae Z (.tmp Z)<|⟨e,o,Z,Ho (Mo [] z) ab,aj⟩
theorem QA(c:Nat):Dl.Spec (Dl c):=by
 intro a d o v0 p q e f
 refine Calls.mono (Pq c (recol (see []) a) d (Fa (Nat.le_of_ble_eq_true Z) a) e (Gg.recol f [])) ?_
 rintro r s ⟨g,h,l,m,n⟩
 exact ⟨glue [] d a g,h,l,CA m Mf,MTh.glue n⟩
def Ja.At(c:Col)(a:World)(f:Aw→Option Aw):Prop:=
 ∀{d e g v0 h},f d=some h→Ax c a e 0 g→HS.rep c.F a g d→v0.oneCell'=true→
  Calls PG 89 #[v0,Pt e 0] a fun o l=>∃m n,o=.returned (Ag n)∧AS [] c a m l∧HS.rep m.F l n h
def Ja.Spec(f:Aw→Option Aw):Prop:=
 ∀a c,Ja.At a c f
theorem R8(l:Col)(r:World)(s:∀b,l b<10):Ja.At l r Ja:=by
 intro a ag ah v0 ai m u w _p0
 rw [Ja] at m
 obtain ⟨aj,c,d,rfl,n,o,p⟩:=Dd w
 obtain ⟨e,f,rfl⟩:=AT n
 refine Ay Tryz.func89 Z Tryz.ntmps89 Z fun B y ak=>Sr<|Ef<|AY l 20 LC Z fun z al am aa g=>AA<|Sr<|have ab:=Es u g;Vx (Lx KF Z Z (Ax.part0 ab [I a.plain.type_,Cx a.plain.num,.bool a.plain.bool,Sl e a.plain.list f,c,d] Z))<|have q:=Ss Kd.cpx n g;Eu<|Bv (vs:=[I a.plain.type_,Cx a.plain.num,.bool a.plain.bool,Sl e a.plain.list f,c,d]) (cs':=[I a.plain.type_,Cx a.plain.num,.bool a.plain.bool,Sl e a.plain.list f,c,d]) Js Z Z Z Z (AX Z (AX Z (AX Z (AX (E8 q) (AX (MTh.one o) (AX (MTh.one p) CJ)))))) aa dcd Z Z fun an ac h=>AA<|AQ ?_
 obtain rfl:=AK m
 refine O1 B y Z (.agg KF Z Z (Bw ac))<|have ad:=Ss Kd.cpx q h;have ae:=Mt (Mt o g) h;have af:=Mt (Mt p g) h;⟨z,[I a.plain.type_,Cx a.plain.num,.bool a.plain.bool,Sl e a.plain.list f,c,d],Z,Ho (Tn (Mo [20] g) h) s,(Ct (x:=a) ad ae af)⟩
theorem TR:Ja.Spec Ja:=by
 intro a c p q r v0 s d e f g
 refine Calls.mono (R8 (recol (see []) a) c (Fa (Nat.le_of_ble_eq_true Z) a) d (P6 e []) (BY HS f []) g) ?_
 rintro u w ⟨h,l,m,n,o⟩
 exact ⟨glue [] c a h,l,m,CA n Mf,Dm HS o⟩
def Jk.Spec(f:AE→Option AE):Prop:=
 ∀g d {h l kn0 kn1 e m},f h=some m→[kn0,kn1].Nodup→0∉[kn0,kn1]→AH.rep g.F d l h→e.oneCell'=true→
  Calls PG 57 #[Ag l,e] d fun q a=>∃c n o p,q=.returned (.func (.func 90) #[] [Pt n 0,Pt o 0].toArray)∧AS [kn0,kn1] g d c a∧Bk c a kn0 n p 56∧AH.rep c.F a p m∧Bk c a kn1 o [e] 85
theorem TS(c:Col)(h:World)(y:∀b,c b<10){a:AE}{n:List Value}{l:Value}{o:AE}(z:AH.rep c.F h n a)(aa:l.oneCell'=true)(p:Jk a=some o):
  Calls PG 57 #[Ag n,l] h fun ab d=>∃e q r s,ab=.returned (.func (.func 90) #[] [Pt q 0,Pt r 0].toArray)∧AS [1,2] c h e d∧Bk e d 1 q s 56∧AH.rep e.F d s o∧Bk e d 2 r [l] 85:=by
 rw [Jk] at p
 obtain ⟨ac,ad,rfl,u⟩:=E1 (Ae z)
 refine Ay Tryz.func57 Z Tryz.ntmps57 Z fun B ae am=>Sr<|Ef<|A0 c 1 Z Z fun af an f ag w=>Ef<|A0 af 2 Z (Dk aa) fun ah ao g ai m=>Va .nilFunc<|AA<|Sr<|Vx (v:=.func (.func 90) #[] [Pt f 0,Pt g 0].toArray) (IV (vs:=[Pt f 0,Pt g 0]) Z)<|Va (.func (.func 90) #[] [Pt f 0,Pt g 0].toArray)<|AA<|AQ ?_
 obtain rfl:=AK p
 refine O1 B ae Z (.tmp Z)<|have aj:=Bs ag m;have ak:=K2 AH u w m;⟨ah,f,g,[I a.op,Sb a.name,Sb a.tail,I a.type_,Cx a.num,Sl ac a.args ad,I a.at_],Z,Ho (Tn (Mo [] w) m) y,aj,(AW (x:=a) ak),ai⟩
theorem Ma:Jk.Spec Jk:=by
 intro a d s u kn0 kn1 w y e hnd hnz f g
 refine Calls.mono (TS (recol (see [kn0,kn1]) a) d (Fa (Nat.le_of_ble_eq_true Z) a) (BY AH f [kn0,kn1]) g e) ?_
 rintro z aa ⟨h,l,m,n,o,c,p,q,r⟩
 exact ⟨glue [kn0,kn1] d a h,l,m,n,o,CA c (Fb Z Z),VR (j:=0) p Z Z c,Dm AH q,VR (j:=1) r Z Z c⟩
def IH.At(e:Col)(c:World)(f:Int→Option (Int×Int)):Prop:=
 ∀{d a},f d=some a→
  Calls PG 115 #[I d] c fun g h=>∃l,g=.returned (.tuple #[I a.1,I a.2])∧AS [] e c l h
def IH.Spec(f:Int→Option (Int×Int)):Prop:=
 ∀a c,IH.At a c f
theorem TT(g:Col)(u:World)(l:∀b,g b<10):IH.At g u IH:=by
 intro c w a
 rw [IH] at a
 refine Ay Tryz.func115 Z Tryz.ntmps115 Z fun B m ad=>Sr<|Va (I 0)<|Va (I 0)<|AA<|AR<|Af<|Am (fun p q=>∃h d r,p=Env.puts h [(0,I c),(4,.bool r)]∧MY c r=some w∧AS [] g u d q) ?_ ?_
 refine AL<|Vm<|Vr (.bool (decide (c≥8)))<|Vm<|Bo a (fun e a=>?_) fun e a=>?_
 refine Gm e<|Gr e (.bool (decide (c≤13)))<|Vp e<|Va (.bool (decide (c≤13)))<|AA<|⟨_,g,(decide (c≤13)),Pu,a,Rf⟩
 refine Pg e<|Pg e<|Vp e<|Va (.bool false)<|AA<|⟨_,g,false,Pu,a,Rf⟩
 rintro _ q ⟨h,d,r,rfl,a,n⟩
 rw [MY] at a
 refine Cn a (fun aa a=>?_) fun aa a=>?_
 refine Sr<|Va (I 2)<|Va (I 1)<|AA<|AQ ?_
 obtain rfl:=AK a
 refine O2 B m Z (.tmp Z) (.tmp Z)<|⟨d,Z,Ho (Mo [] n) l⟩
 refine Sr<|Vm<|Vr (.bool (c==14))<|Va (.bool (c==14))<|AA<|Cn a (fun ab a=>?_) fun ab a=>?_
 refine Sr<|Va (I 1)<|Va (I 2)<|AA<|AQ ?_
 obtain rfl:=AK a
 refine O2 B m Z (.tmp Z) (.tmp Z)<|⟨d,Z,Ho (Mo [] n) l⟩
 refine Am (fun p y=>∃h o s,p=Env.puts h [(14,.bool s)]∧MX s=some w∧AS [] d q o y) ?_ ?_
 refine AL<|Vm<|Vr (.bool (decide (c≥15)))<|Vm<|Bo a (fun f a=>?_) fun f a=>?_
 refine Gm f<|Gr f (.bool (decide (c≤17)))<|Vp f<|Va (.bool (decide (c≤17)))<|AA<|⟨_,d,(decide (c≤17)),Pu,a,Rf⟩
 refine Pg f<|Pg f<|Vp f<|Va (.bool false)<|AA<|⟨_,d,false,Pu,a,Rf⟩
 rintro _ y ⟨h,o,s,rfl,a,z⟩
 rw [MX] at a
 refine Cn a (fun ac a=>?_) fun ac a=>?_
 refine Sr<|Va (I 1)<|Va (I 1)<|AA<|AQ ?_
 obtain rfl:=AK a
 refine O2 B m Z (.tmp Z) (.tmp Z)<|⟨o,Z,Ho (Tn (Mo [] n) z) l⟩
 refine WC.skip<|Sr<|Va (I 0)<|Va (I 0)<|AA<|AQ ?_
 obtain rfl:=AK a
 refine O2 B m Z (.tmp Z) (.tmp Z)<|⟨o,Z,Ho (Tn (Mo [] n) z) l⟩
theorem UX:IH.Spec IH:=lk0 (TT)
def EC.At(m:Col)(c:World)(f:(Nat×Nat)→Int→Option (AF×Int)):Prop:=
 ∀{d e a},f d e=some a→
  Calls PG 116 #[Cx d,I e] c fun n g=>∃h l,n=.returned (.tuple #[Ag l,I a.2])∧AS [] m c h g∧Ao.rep h.F g l a.1
def EC.Spec(f:(Nat×Nat)→Int→Option (AF×Int)):Prop:=
 ∀a c,EC.At a c f
theorem R9(d:Col)(n:World)(e:∀b,d b<10):EC.At d n EC:=by
 intro c f u a
 rw [EC] at a
 refine Ay Tryz.func116 Z Tryz.ntmps116 Z fun B g w=>Sr<|Ef<|AY d 20 CS Z fun h y z l m=>Va (I 0)<|AA<|AR<|Sr<|Vm<|Vr (.bool (f != 0))<|AA<|Cn a (fun o a=>?_) fun o a=>?_
 refine Sr<|Vx (v:=Ag [I 0,Cx (((0,0):Nat×Nat)),.bool false,.slice none 0 0]) (Bp CS F7 Z .nil)<|Vm<|Eu<|St Cw l Z Z Z Z fun aa p q=>Va (I f)<|AA<|AQ ?_
 obtain rfl:=AK a
 refine O2 B g Z (.agg B0 Z Z (Bw p)) (.tmp Z)<|⟨h,[I 0,Cx (((0,0):Nat×Nat)),.bool false,.slice none 0 0],Z,Ho (Tn (Mo [20] m) q) e,(Al (x:=(AF.mk 0 ((0,0):Nat×Nat) false [])) BK)⟩
 refine WC.skip<|Sr<|Vm<|Vx (v:=Ag [I 1,Cx c,.bool false,.slice none 0 0]) (Bp CS F7 Z (.cons Z Z Z (.cons Z Z Z .nil)))<|Eu<|St Cw l Z Z Z Z fun ab r s=>Va (I 0)<|AA<|AQ ?_
 obtain rfl:=AK a
 refine O2 B g Z (.agg B0 Z Z (Bw r)) (.tmp Z)<|⟨h,[I 1,Cx c,.bool false,.slice none 0 0],Z,Ho (Tn (Mo [20] m) s) e,(Al (x:=(AF.mk 1 c false [])) BK)⟩
theorem JE:EC.Spec EC:=lk0 (R9)
def FJ.At(e:Col)(c:World)(f:(Nat×Nat)→Option ((Nat×Nat)×Int)):Prop:=
 ∀{d a},f d=some a→
  Calls PG 137 #[Cx d] c fun g h=>∃l,g=.returned (.tuple #[Cx a.1,I a.2])∧AS [] e c l h
def FJ.Spec(f:(Nat×Nat)→Option ((Nat×Nat)×Int)):Prop:=
 ∀a c,FJ.At a c f
theorem SA(e:Col)(f:World)(g:∀b,e b<10):FJ.At e f FJ:=by
 intro h u a
 rw [FJ] at a
 refine Ay Tryz.func137 Z Tryz.ntmps137 Z fun B l w=>Sr<|Va (Cx (((0,0):Nat×Nat)))<|Va (I 0)<|AA<|Sr<|Vm<|Vx (v:=Fl h.1) (Run.real Z)<|Bi a fun c o a=>Vx (v:=Fl c) (Run.fadd Z Z o)<|Vm<|Vx (v:=Fl h.2) (Run.imag Z)<|Bi a fun d p a=>Vx (v:=Fl d) (Run.fadd Z Z p)<|Vx (v:=Cx ((c,d))) (Run.complex Z Z)<|Va (Cx ((c,d)))<|AA<|AR<|Sr<|Vm<|Bi a fun q r a=>Ca (Cg [Cx ((c,d))] Z) (DI e f r) ?_
 rintro _ y ⟨m,rfl,n⟩
 refine Vr (.bool (!q))<|AA<|Cn a (fun s a=>?_) fun s a=>?_
 refine Sr<|Va (Cx (((0,0):Nat×Nat)))<|Va (I 50)<|AA<|AQ ?_
 obtain rfl:=AK a
 refine O2 B l Z (.tmp Z) (.tmp Z)<|⟨m,Z,Ho (Mo [] n) g⟩
 refine WC.skip<|Sr<|Vm<|Va (Cx ((c,d)))<|Va (I 0)<|AA<|AQ ?_
 obtain rfl:=AK a
 refine O2 B l Z (.tmp Z) (.tmp Z)<|⟨m,Z,Ho (Mo [] n) g⟩
theorem LE:FJ.Spec FJ:=lk0 (SA)
def II.At(e:Col)(c:World)(f:(Nat×Nat)→Option ((Nat×Nat)×Int)):Prop:=
 ∀{d a},f d=some a→
  Calls PG 117 #[Cx d] c fun g h=>∃l,g=.returned (.tuple #[Cx a.1,I a.2])∧AS [] e c l h
def II.Spec(f:(Nat×Nat)→Option ((Nat×Nat)×Int)):Prop:=
 ∀a c,II.At a c f
theorem TU(e:Col)(f:World)(g:∀b,e b<10):II.At e f II:=by
 intro c w a
 rw [II] at a
 refine Ay Tryz.func117 Z Tryz.ntmps117 Z fun B h y=>Sr<|Va (Cx (((0,0):Nat×Nat)))<|Va (I 0)<|AA<|AR<|Sr<|Vm<|Bi a fun n o a=>Ca (Cg [Cx c] Z) (DI e f o) ?_
 rintro _ p ⟨l,rfl,m⟩
 refine Vr (.bool (!n))<|AA<|Cn a (fun q a=>?_) fun q a=>?_
 refine Sr<|Va (Cx (((0,0):Nat×Nat)))<|Va (I 3)<|AA<|AQ ?_
 obtain rfl:=AK a
 refine O2 B h Z (.tmp Z) (.tmp Z)<|⟨l,Z,Ho (Mo [] m) g⟩
 refine WC.skip<|Sr<|Vm<|Vx (v:=Fl c.1) (Run.real Z)<|Vm<|Vx (v:=Fl c.2) (Run.imag Z)<|Vr (Fl (Op.negFloat .f64 c.2))<|Vx (v:=Cx ((c.1,(Op.negFloat .f64 c.2)))) (Run.complex Z Z)<|Bi a fun d r a=>Ca (Cg [Cx ((c.1,(Op.negFloat .f64 c.2)))] Z) (LE l p r) ?_
 rintro _ z ⟨s,rfl,u⟩
 refine Vr (Cx d.1)<|Vr (I d.2)<|Va (Cx d.1)<|Va (I d.2)<|AA<|AQ ?_
 obtain rfl:=AK a
 refine O2 B h Z (.tmp Z) (.tmp Z)<|⟨s,Z,Ho (Tn (Mo [] m) u) g⟩
theorem UY:II.Spec II:=lk0 (TU)
def J8.At(g:Col)(c:World)(f:(Nat×Nat)→(Nat×Nat)→Option ((Nat×Nat)×Int)):Prop:=
 ∀{d e a},f d e=some a→
  Calls PG 138 #[Cx d,Cx e] c fun h l=>∃m,h=.returned (.tuple #[Cx a.1,I a.2])∧AS [] g c m l
def J8.Spec(f:(Nat×Nat)→(Nat×Nat)→Option ((Nat×Nat)×Int)):Prop:=
 ∀a c,J8.At a c f
theorem UZ(d:Col)(g:World)(o:∀b,d b<10):J8.At d g J8:=by
 intro h l z a
 rw [J8] at a
 refine Ay Tryz.func138 Z Tryz.ntmps138 Z fun B p am=>Sr<|Va (Cx (((0,0):Nat×Nat)))<|Va (I 0)<|AA<|AR<|Am (fun aa m=>∃q e n,aa=Env.puts q [(0,Cx h),(1,Cx l),(13,.bool n)]∧Lz h l n=some z∧AS [] d g e m) ?_ ?_
 refine AL<|Vm<|Bi a fun ab ac a=>Ca (Cg [Cx h] Z) (DI d g ac) ?_
 rintro _ ad ⟨r,rfl,s⟩
 refine Vr (.bool (!ab))<|Vm<|Bo a (fun c a=>?_) fun c a=>?_
 refine Pg c<|Pg c<|Pg c<|Vp c<|AA<|⟨_,r,true,Pu,a,(Mo [] s)⟩
 refine Gm c<|Bi a fun u ae a=>CT (.guard (t:=false) (b:=false) Z Z Z Z (Cb c)) Z Z (Cg [Cx l] Z)<|Calls.mono (DI r ad ae) ?_
 rintro _ an ⟨af,rfl,ag⟩
 refine ⟨_,Z,?_⟩
 refine Gr c (.bool (!u))<|Vp c<|AA<|⟨_,af,(!u),Pu,a,(Tn (Mo [] s) ag)⟩
 rintro _ m ⟨q,e,n,rfl,a,w⟩
 rw [Lz] at a
 refine Cn a (fun ah a=>?_) fun ah a=>?_
 refine Sr<|Va (Cx (((0,0):Nat×Nat)))<|Va (I 3)<|AA<|AQ ?_
 obtain rfl:=AK a
 refine O2 B p Z (.tmp Z) (.tmp Z)<|⟨e,Z,Ho (Mo [] w) o⟩
 refine WC.skip<|Sr<|Vm<|Vm<|Bi a fun y ai a=>Vx (v:=Cx y) (Run.cadd Z Z ai)<|Bi a fun f aj a=>Ca (Cg [Cx y] Z) (LE e m aj) ?_
 rintro _ ao ⟨ak,rfl,al⟩
 refine Vr (Cx f.1)<|Vr (I f.2)<|Va (Cx f.1)<|Va (I f.2)<|AA<|AQ ?_
 obtain rfl:=AK a
 refine O2 B p Z (.tmp Z) (.tmp Z)<|⟨ak,Z,Ho (Tn (Mo [] w) al) o⟩
theorem Vq:J8.Spec J8:=lk0 (UZ)
def J9.At(g:Col)(c:World)(f:(Nat×Nat)→(Nat×Nat)→Option ((Nat×Nat)×Int)):Prop:=
 ∀{d e a},f d e=some a→
  Calls PG 139 #[Cx d,Cx e] c fun h l=>∃m,h=.returned (.tuple #[Cx a.1,I a.2])∧AS [] g c m l
def J9.Spec(f:(Nat×Nat)→(Nat×Nat)→Option ((Nat×Nat)×Int)):Prop:=
 ∀a c,J9.At a c f
theorem Ua(d:Col)(g:World)(o:∀b,d b<10):J9.At d g J9:=by
 intro h l z a
 rw [J9] at a
 refine Ay Tryz.func139 Z Tryz.ntmps139 Z fun B p am=>Sr<|Va (Cx (((0,0):Nat×Nat)))<|Va (I 0)<|AA<|AR<|Am (fun aa m=>∃q e n,aa=Env.puts q [(0,Cx h),(1,Cx l),(13,.bool n)]∧L0 h l n=some z∧AS [] d g e m) ?_ ?_
 refine AL<|Vm<|Bi a fun ab ac a=>Ca (Cg [Cx h] Z) (DI d g ac) ?_
 rintro _ ad ⟨r,rfl,s⟩
 refine Vr (.bool (!ab))<|Vm<|Bo a (fun c a=>?_) fun c a=>?_
 refine Pg c<|Pg c<|Pg c<|Vp c<|AA<|⟨_,r,true,Pu,a,(Mo [] s)⟩
 refine Gm c<|Bi a fun u ae a=>CT (.guard (t:=false) (b:=false) Z Z Z Z (Cb c)) Z Z (Cg [Cx l] Z)<|Calls.mono (DI r ad ae) ?_
 rintro _ an ⟨af,rfl,ag⟩
 refine ⟨_,Z,?_⟩
 refine Gr c (.bool (!u))<|Vp c<|AA<|⟨_,af,(!u),Pu,a,(Tn (Mo [] s) ag)⟩
 rintro _ m ⟨q,e,n,rfl,a,w⟩
 rw [L0] at a
 refine Cn a (fun ah a=>?_) fun ah a=>?_
 refine Sr<|Va (Cx (((0,0):Nat×Nat)))<|Va (I 3)<|AA<|AQ ?_
 obtain rfl:=AK a
 refine O2 B p Z (.tmp Z) (.tmp Z)<|⟨e,Z,Ho (Mo [] w) o⟩
 refine WC.skip<|Sr<|Vm<|Vm<|Bi a fun y ai a=>Vx (v:=Cx y) (Run.csub Z Z ai)<|Bi a fun f aj a=>Ca (Cg [Cx y] Z) (LE e m aj) ?_
 rintro _ ao ⟨ak,rfl,al⟩
 refine Vr (Cx f.1)<|Vr (I f.2)<|Va (Cx f.1)<|Va (I f.2)<|AA<|AQ ?_
 obtain rfl:=AK a
 refine O2 B p Z (.tmp Z) (.tmp Z)<|⟨ak,Z,Ho (Tn (Mo [] w) al) o⟩
theorem Vs:J9.Spec J9:=lk0 (Ua)
def KA.At(g:Col)(c:World)(f:(Nat×Nat)→(Nat×Nat)→Option ((Nat×Nat)×Int)):Prop:=
 ∀{d e a},f d e=some a→
  Calls PG 140 #[Cx d,Cx e] c fun h l=>∃m,h=.returned (.tuple #[Cx a.1,I a.2])∧AS [] g c m l
def KA.Spec(f:(Nat×Nat)→(Nat×Nat)→Option ((Nat×Nat)×Int)):Prop:=
 ∀a c,KA.At a c f
theorem Ub(d:Col)(g:World)(o:∀b,d b<10):KA.At d g KA:=by
 intro h l z a
 rw [KA] at a
 refine Ay Tryz.func140 Z Tryz.ntmps140 Z fun B p am=>Sr<|Va (Cx (((0,0):Nat×Nat)))<|Va (I 0)<|AA<|AR<|Am (fun aa m=>∃q e n,aa=Env.puts q [(0,Cx h),(1,Cx l),(13,.bool n)]∧L1 h l n=some z∧AS [] d g e m) ?_ ?_
 refine AL<|Vm<|Bi a fun ab ac a=>Ca (Cg [Cx h] Z) (DI d g ac) ?_
 rintro _ ad ⟨r,rfl,s⟩
 refine Vr (.bool (!ab))<|Vm<|Bo a (fun c a=>?_) fun c a=>?_
 refine Pg c<|Pg c<|Pg c<|Vp c<|AA<|⟨_,r,true,Pu,a,(Mo [] s)⟩
 refine Gm c<|Bi a fun u ae a=>CT (.guard (t:=false) (b:=false) Z Z Z Z (Cb c)) Z Z (Cg [Cx l] Z)<|Calls.mono (DI r ad ae) ?_
 rintro _ an ⟨af,rfl,ag⟩
 refine ⟨_,Z,?_⟩
 refine Gr c (.bool (!u))<|Vp c<|AA<|⟨_,af,(!u),Pu,a,(Tn (Mo [] s) ag)⟩
 rintro _ m ⟨q,e,n,rfl,a,w⟩
 rw [L1] at a
 refine Cn a (fun ah a=>?_) fun ah a=>?_
 refine Sr<|Va (Cx (((0,0):Nat×Nat)))<|Va (I 3)<|AA<|AQ ?_
 obtain rfl:=AK a
 refine O2 B p Z (.tmp Z) (.tmp Z)<|⟨e,Z,Ho (Mo [] w) o⟩
 refine WC.skip<|Sr<|Vm<|Vm<|Bi a fun y ai a=>Vx (v:=Cx y) (Run.cmul Z Z ai)<|Bi a fun f aj a=>Ca (Cg [Cx y] Z) (LE e m aj) ?_
 rintro _ ao ⟨ak,rfl,al⟩
 refine Vr (Cx f.1)<|Vr (I f.2)<|Va (Cx f.1)<|Va (I f.2)<|AA<|AQ ?_
 obtain rfl:=AK a
 refine O2 B p Z (.tmp Z) (.tmp Z)<|⟨ak,Z,Ho (Tn (Mo [] w) al) o⟩
theorem Vt:KA.Spec KA:=lk0 (Ub)
def IT.At(e:Col)(a:World)(f:Nat→Option Nat):Prop:=
 ∀{c d},f c=some d→
  Calls PG 145 #[Fl c] a fun g h=>∃l,g=.returned (Fl d)∧AS [] e a l h
def IT.Spec(f:Nat→Option Nat):Prop:=
 ∀a c,IT.At a c f
theorem Vu(c:Col)(e:World)(f:∀b,c b<10):IT.At c e IT:=by
 intro a h d
 rw [IT] at d
 refine Ay Tryz.func145 Z Tryz.ntmps145 Z fun B g l=>Sr<|Va (Fl (0:Nat))<|AA<|Sr<|Vm<|Vx (v:=.int .u64 ((a:Nat):Int)) (PA (vs:=[Fl a]) Z Z)<|Vr (.int .u64 (Cy .u64 ((a:Nat):Int) 9223372036854775808))<|Vx (v:=Fl (((Cy .u64 ((a:Nat):Int) 9223372036854775808)).toNat)) (O9 (vs:=[.int .u64 (Cy .u64 ((a:Nat):Int) 9223372036854775808)]) Z Z)<|Va (Fl (((Cy .u64 ((a:Nat):Int) 9223372036854775808)).toNat))<|AA<|AQ ?_
 obtain rfl:=AK d
 refine O1 B g Z (.tmp Z)<|⟨c,Z,Ho Rf f⟩
theorem PO:IT.Spec IT:=lk0 (Vu)
def HY.At(g:Col)(a:World)(f:Nat→Int→Option Bool):Prop:=
 ∀{c d e},f c d=some e→
  Calls PG 152 #[Fl c,I d] a fun h l=>∃m,h=.returned (.bool e)∧AS [] g a m l
def HY.Spec(f:Nat→Int→Option Bool):Prop:=
 ∀a c,HY.At a c f
theorem TV(c:Col)(f:World)(o:∀b,c b<10):HY.At c f HY:=by
 intro d h p a
 rw [HY] at a
 refine Ay Tryz.func152 Z Tryz.ntmps152 Z fun B q ab=>Sr<|Va (.bool false)<|AA<|Am (fun r l=>∃m g e,r=Env.puts m [(0,Fl e)]∧Kg e=some p∧AS [] c f g l) ?_ ?_
 refine Sr<|Vm<|Vr (.bool (h==0))<|AA<|Cn a (fun s a=>?_) fun s a=>?_
 refine AL<|Vm<|Bi a fun n u a=>Ca (Cg [Fl d] Z) (PO c f u) ?_
 rintro _ ac ⟨w,rfl,y⟩
 refine Va (Fl n)<|AA<|⟨_,w,n,Pu,a,(Mo [] y)⟩
 refine Sr<|Vm<|Vr (.bool (decide (h<0)))<|AA<|Cn a (fun z a=>?_) fun z a=>?_
 refine AL<|Vm<|Vr (Fl (Op.negFloat .f64 d))<|Va (Fl (Op.negFloat .f64 d))<|AA<|⟨_,c,(Op.negFloat .f64 d),Pu,a,Rf⟩
 refine WC.skip<|⟨_,c,d,Pu,a,Rf⟩
 rintro _ l ⟨m,g,e,rfl,a,aa⟩
 rw [Kg] at a
 refine Sr<|Vm<|Vr (.bool (fgt e (9218868437227405311:Nat)))<|Va (.bool (fgt e (9218868437227405311:Nat)))<|AA<|AQ ?_
 obtain rfl:=AK a
 refine O1 B q Z (.tmp Z)<|⟨g,Z,Ho (Mo [] aa) o⟩
theorem Nn:HY.Spec HY:=lk0 (TV)
def Gw.At(e:Col)(a:World)(f:Nat→Option Bool):Prop:=
 ∀{c d},f c=some d→
  Calls PG 153 #[Fl c] a fun g h=>∃l,g=.returned (.bool d)∧AS [] e a l h
def Gw.Spec(f:Nat→Option Bool):Prop:=
 ∀a c,Gw.At a c f
theorem TW(c:Col)(e:World)(f:∀b,c b<10):Gw.At c e Gw:=by
 intro a h d
 rw [Gw] at d
 refine Ay Tryz.func153 Z Tryz.ntmps153 Z fun B g l=>Sr<|Va (.bool false)<|AA<|Sr<|Vm<|Vm<|Vr (.bool (fne a a))<|Va (.bool (fne a a))<|AA<|AQ ?_
 obtain rfl:=AK d
 refine O1 B g Z (.tmp Z)<|⟨c,Z,Ho Rf f⟩
theorem Mb:Gw.Spec Gw:=lk0 (TW)
def L2.At(d:Col)(a:World)(f:Option Nat):Prop:=
 ∀{c},f=some c→
  Calls PG 154 #[] a fun e g=>∃h,e=.returned (Fl c)∧AS [] d a h g
def L2.Spec(f:Option Nat):Prop:=
 ∀a c,L2.At a c f
theorem Vv(a:Col)(d:World)(e:∀b,a b<10):L2.At a d L2:=by
 intro g c
 rw [L2] at c
 refine Ay Tryz.func154 Z Tryz.ntmps154 Z fun B f h=>Sr<|Va (Fl (0:Nat))<|AA<|Sr<|Vx (v:=Fl ((9221120237041090561:Int).toNat)) (O9 (vs:=[.int .u64 9221120237041090561]) Z Z)<|Va (Fl ((9221120237041090561:Int).toNat))<|AA<|AQ ?_
 obtain rfl:=AK c
 refine O1 B f Z (.tmp Z)<|⟨a,Z,Ho Rf e⟩
theorem W5:L2.Spec L2:=lk0 (Vv)
def Ej.At(e:Col)(c:World)(f:Nat→Option (Nat×Int)):Prop:=
 ∀{d a},f d=some a→
  Calls PG 164 #[Fl d] c fun g h=>∃l,g=.returned (.tuple #[Fl a.1,I a.2])∧AS [] e c l h
def Ej.Spec(f:Nat→Option (Nat×Int)):Prop:=
 ∀a c,Ej.At a c f
theorem QB(c:Col)(d:World)(e:∀b,c b<10):Ej.At c d Ej:=by
 intro f r a
 rw [Ej] at a
 refine Ay Tryz.func164 Z Tryz.ntmps164 Z fun B g s=>Sr<|Va (Fl (0:Nat))<|Va (I 0)<|AA<|AR<|Sr<|Vm<|Bi a fun n o a=>Ca (Cg [Fl f] Z) (PO c d o) ?_
 rintro _ u ⟨h,rfl,l⟩
 refine Vr (.bool (flt_ n (4503599627370496:Nat)))<|AA<|Cn a (fun p a=>?_) fun p a=>?_
 refine Sr<|Vm<|Bi a fun m q a=>Vx (v:=Fl m) (Run.fmul Z Z q)<|Va (Fl m)<|Va (I (-52:Int))<|AA<|AQ ?_
 obtain rfl:=AK a
 refine O2 B g Z (.tmp Z) (.tmp Z)<|⟨h,Z,Ho (Mo [] l) e⟩
 refine WC.skip<|Sr<|Vm<|Va (Fl f)<|Va (I 0)<|AA<|AQ ?_
 obtain rfl:=AK a
 refine O2 B g Z (.tmp Z) (.tmp Z)<|⟨h,Z,Ho (Mo [] l) e⟩
theorem NX:Ej.Spec Ej:=lk0 (QB)
def Jl.At(e:Col)(c:World)(f:Nat→Option (Nat×Int)):Prop:=
 ∀{d a},f d=some a→
  Calls PG 159 #[Fl d] c fun g h=>∃l,g=.returned (.tuple #[Fl a.1,I a.2])∧AS [] e c l h
def Jl.Spec(f:Nat→Option (Nat×Int)):Prop:=
 ∀a c,Jl.At a c f
theorem TX(f:Col)(h:World)(l:∀b,f b<10):Jl.At f h Jl:=by
 intro d w a
 rw [Jl] at a
 refine Ay Tryz.func159 Z Tryz.ntmps159 Z fun B m ak=>Sr<|Va (Fl (0:Nat))<|Va (I 0)<|AA<|AR<|Af<|Sr<|Vm<|Vr (.bool (feq d (0:Nat)))<|Va (.bool (feq d (0:Nat)))<|AA<|Cn a (fun y a=>?_) fun y a=>?_
 refine Sr<|Vm<|Va (Fl d)<|Va (I 0)<|AA<|AQ ?_
 obtain rfl:=AK a
 refine O2 B m Z (.tmp Z) (.tmp Z)<|⟨f,Z,Ho Rf l⟩
 refine Am (fun z n=>∃p g o,z=Env.puts p [(0,Fl d),(9,.bool o)]∧LR d o=some w∧AS [] f h g n) ?_ ?_
 refine AL<|Vm<|Bi a fun al aa a=>Ca (Cg [Fl d,I 0] Z) (Nn f h aa) ?_
 rintro _ ab ⟨q,rfl,r⟩
 refine Vm<|Bo a (fun e a=>?_) fun e a=>?_
 refine Pg e<|Pg e<|Vp e<|Va (.bool true)<|AA<|⟨_,q,true,Pu,a,(Mo [] r)⟩
 refine Gm e<|Bi a fun s ac a=>CT (.guard (t:=false) (b:=false) Z Z Z Z (Cb e)) Z Z (Cg [Fl d] Z)<|Calls.mono (Mb q ab ac) ?_
 rintro _ am ⟨ad,rfl,ae⟩
 refine ⟨_,Z,?_⟩
 refine Vp e<|Va (.bool s)<|AA<|⟨_,ad,s,Pu,a,(Tn (Mo [] r) ae)⟩
 rintro _ n ⟨p,g,o,rfl,a,u⟩
 rw [LR] at a
 refine Cn a (fun af a=>?_) fun af a=>?_
 refine Sr<|Vm<|Va (Fl d)<|Va (I 0)<|AA<|AQ ?_
 obtain rfl:=AK a
 refine O2 B m Z (.tmp Z) (.tmp Z)<|⟨g,Z,Ho (Mo [] u) l⟩
 refine WC.skip<|Sr<|Vm<|Bi a fun c ag a=>Ca (Cg [Fl d] Z) (NX g n ag) ?_
 rintro _ an ⟨ah,rfl,ai⟩
 refine Vm<|Vr (Fl c.1)<|Vr (I c.2)<|Va (Fl c.1)<|Va (I c.2)<|AA<|Sr<|Vm<|Vx (v:=.int .u64 ((c.1:Nat):Int)) (PA (vs:=[Fl c.1]) Z Z)<|Va (.int .u64 ((c.1:Nat):Int))<|AA<|Sr<|Vm<|Vm<|Bi a fun ao aj a=>Vx (v:=.int .u64 (shr .u64 ((c.1:Nat):Int) 52)) (Run.shr Z Z (VO aj))<|Vr (.int .u64 (E9 .u64 (shr .u64 ((c.1:Nat):Int) 52) 2047))<|Vr (I (Wr (E9 .u64 (shr .u64 ((c.1:Nat):Int) 52) 2047)))<|Vr (I (Wr ((Wr (E9 .u64 (shr .u64 ((c.1:Nat):Int) 52) 2047)) - 1023)))<|Vr (I (Wr ((Wr ((Wr (E9 .u64 (shr .u64 ((c.1:Nat):Int) 52) 2047)) - 1023))+1)))<|Vr (I (Wr (c.2+(Wr ((Wr ((Wr (E9 .u64 (shr .u64 ((c.1:Nat):Int) 52) 2047)) - 1023))+1)))))<|Va (I (Wr (c.2+(Wr ((Wr ((Wr (E9 .u64 (shr .u64 ((c.1:Nat):Int) 52) 2047)) - 1023))+1)))))<|AA<|Sr<|Vm<|Vr (.int .u64 (Cy .u64 ((c.1:Nat):Int) 9218868437227405312))<|Va (.int .u64 (Cy .u64 ((c.1:Nat):Int) 9218868437227405312))<|AA<|Sr<|Vm<|Vr (.int .u64 (MN .u64 (Cy .u64 ((c.1:Nat):Int) 9218868437227405312) 4602678819172646912))<|Va (.int .u64 (MN .u64 (Cy .u64 ((c.1:Nat):Int) 9218868437227405312) 4602678819172646912))<|AA<|Sr<|Vm<|Vx (v:=Fl (((MN .u64 (Cy .u64 ((c.1:Nat):Int) 9218868437227405312) 4602678819172646912)).toNat)) (O9 (vs:=[.int .u64 (MN .u64 (Cy .u64 ((c.1:Nat):Int) 9218868437227405312) 4602678819172646912)]) Z Z)<|Va (Fl (((MN .u64 (Cy .u64 ((c.1:Nat):Int) 9218868437227405312) 4602678819172646912)).toNat))<|AA<|AQ ?_
 obtain rfl:=AK a
 refine O2 B m Z (.tmp Z) (.tmp Z)<|⟨ah,Z,Ho (Tn (Mo [] u) ai) l⟩
theorem Uc:Jl.Spec Jl:=lk0 (TX)
def IJ.At(e:Col)(c:World)(f:Nat→Option (Nat×Int)):Prop:=
 ∀{d a},f d=some a→
  Calls PG 155 #[Fl d] c fun g h=>∃l,g=.returned (.tuple #[Fl a.1,I a.2])∧AS [] e c l h
def IJ.Spec(f:Nat→Option (Nat×Int)):Prop:=
 ∀a c,IJ.At a c f
theorem TY(d:Col)(e:World)(f:∀b,d b<10):IJ.At d e IJ:=by
 intro g p a
 rw [IJ] at a
 refine Ay Tryz.func155 Z Tryz.ntmps155 Z fun B l q=>Sr<|Va (Fl (0:Nat))<|Va (I 0)<|AA<|AR<|WC.cond (t:=false) Z (fun h=>by cases h) fun h=>WC.skip<|Sr<|Vm<|Bi a fun c m a=>Ca (Cg [Fl g] Z) (Uc d e m) ?_
 rintro _ r ⟨n,rfl,o⟩
 refine Vr (Fl c.1)<|Vr (I c.2)<|Va (Fl c.1)<|Va (I c.2)<|AA<|AQ ?_
 obtain rfl:=AK a
 refine O2 B l Z (.tmp Z) (.tmp Z)<|⟨n,Z,Ho (Mo [] o) f⟩
theorem P2:IJ.Spec IJ:=lk0 (TY)
def He.At(g:Col)(a:World)(f:Nat→Nat→Option Nat):Prop:=
 ∀{c d e},f c d=some e→
  Calls PG 146 #[Fl c,Fl d] a fun h l=>∃m,h=.returned (Fl e)∧AS [] g a m l
def He.Spec(f:Nat→Nat→Option Nat):Prop:=
 ∀a c,He.At a c f
theorem Qd(d:Col)(f:World)(g:∀b,d b<10):He.At d f He:=by
 intro a c l e
 rw [He] at e
 refine Ay Tryz.func146 Z Tryz.ntmps146 Z fun B h m=>Sr<|Va (Fl (0:Nat))<|AA<|Sr<|Vm<|Vx (v:=.int .u64 ((a:Nat):Int)) (PA (vs:=[Fl a]) Z Z)<|Vr (.int .u64 (Cy .u64 ((a:Nat):Int) 9223372036854775808))<|Vm<|Vx (v:=.int .u64 ((c:Nat):Int)) (PA (vs:=[Fl c]) Z Z)<|Vr (.int .u64 (E9 .u64 ((c:Nat):Int) 9223372036854775808))<|Vr (.int .u64 (MN .u64 (Cy .u64 ((a:Nat):Int) 9223372036854775808) (E9 .u64 ((c:Nat):Int) 9223372036854775808)))<|Vx (v:=Fl (((MN .u64 (Cy .u64 ((a:Nat):Int) 9223372036854775808) (E9 .u64 ((c:Nat):Int) 9223372036854775808))).toNat)) (O9 (vs:=[.int .u64 (MN .u64 (Cy .u64 ((a:Nat):Int) 9223372036854775808) (E9 .u64 ((c:Nat):Int) 9223372036854775808))]) Z Z)<|Va (Fl (((MN .u64 (Cy .u64 ((a:Nat):Int) 9223372036854775808) (E9 .u64 ((c:Nat):Int) 9223372036854775808))).toNat))<|AA<|AQ ?_
 obtain rfl:=AK e
 refine O1 B h Z (.tmp Z)<|⟨d,Z,Ho Rf g⟩
theorem RD:He.Spec He:=lk0 (Qd)
def LT.At(e:Col)(a:World)(f:Int→Option Nat):Prop:=
 ∀{c d},f c=some d→
  Calls PG 165 #[I c] a fun g h=>∃l,g=.returned (Fl d)∧AS [] e a l h
def LT.Spec(f:Int→Option Nat):Prop:=
 ∀a c,LT.At a c f
theorem Vw(d:Col)(f:World)(l:∀b,d b<10):LT.At d f LT:=by
 intro m n a
 rw [LT] at a
 refine Ay Tryz.func165 Z Tryz.ntmps165 Z fun B o s=>Sr<|Va (Fl (0:Nat))<|AA<|Sr<|Va (.int .u64 0)<|AA<|Am (fun p g=>∃h e c,p=Env.puts h [(3,.int .u64 c)]∧NS c=some n∧AS [] d f e g) ?_ ?_
 refine Sr<|Vm<|Vr (.bool (decide (m≥0)))<|AA<|Cn a (fun q a=>?_) fun q a=>?_
 refine AL<|Va (.int .u64 9218868437227405312)<|AA<|⟨_,d,9218868437227405312,Pu,a,Rf⟩
 refine AL<|Va (.int .u64 18442240474082181120)<|AA<|⟨_,d,18442240474082181120,Pu,a,Rf⟩
 rintro _ g ⟨h,e,c,rfl,a,r⟩
 rw [NS] at a
 refine Sr<|Vm<|Vx (v:=Fl (c.toNat)) (O9 (vs:=[.int .u64 c]) Z Z)<|Va (Fl (c.toNat))<|AA<|AQ ?_
 obtain rfl:=AK a
 refine O1 B o Z (.tmp Z)<|⟨e,Z,Ho (Mo [] r) l⟩
theorem Ra:LT.Spec LT:=lk0 (Vw)
def Jm.At(g:Col)(a:World)(f:Nat→Int→Option Nat):Prop:=
 ∀{c d e},f c d=some e→
  Calls PG 161 #[Fl c,I d] a fun h l=>∃m,h=.returned (Fl e)∧AS [] g a m l
def Jm.Spec(f:Nat→Int→Option Nat):Prop:=
 ∀a c,Jm.At a c f
theorem TZ(n:Col)(u:World)(h:∀b,n b<10):Jm.At n u Jm:=by
 intro f d ac a
 rw [Jm] at a
 refine Ay Tryz.func161 Z Tryz.ntmps161 Z fun B l bc=>Sr<|Va (Fl (0:Nat))<|AA<|AR<|Af<|Sr<|Vm<|Vr (.bool (feq f (0:Nat)))<|Va (.bool (feq f (0:Nat)))<|AA<|Cn a (fun ai a=>?_) fun ai a=>?_
 refine Sr<|Vm<|Va (Fl f)<|AA<|AQ ?_
 obtain rfl:=AK a
 refine O1 B l Z (.tmp Z)<|⟨n,Z,Ho Rf h⟩
 refine Am (fun w y=>∃o q z,w=Env.puts o [(0,Fl f),(1,I d),(12,.bool z)]∧LW f d z=some ac∧AS [] n u q y) ?_ ?_
 refine AL<|Vm<|Bi a fun bd aj a=>Ca (Cg [Fl f,I 0] Z) (Nn n u aj) ?_
 rintro _ ak ⟨ad,rfl,ae⟩
 refine Vm<|Bo a (fun g a=>?_) fun g a=>?_
 refine Pg g<|Pg g<|Vp g<|Va (.bool true)<|AA<|⟨_,ad,true,Pu,a,(Mo [] ae)⟩
 refine Gm g<|Bi a fun af al a=>CT (.guard (t:=false) (b:=false) Z Z Z Z (Cb g)) Z Z (Cg [Fl f] Z)<|Calls.mono (Mb ad ak al) ?_
 rintro _ be ⟨am,rfl,an⟩
 refine ⟨_,Z,?_⟩
 refine Vp g<|Va (.bool af)<|AA<|⟨_,am,af,Pu,a,(Tn (Mo [] ae) an)⟩
 rintro _ y ⟨o,q,z,rfl,a,p⟩
 rw [LW] at a
 refine Cn a (fun ao a=>?_) fun ao a=>?_
 refine Sr<|Vm<|Va (Fl f)<|AA<|AQ ?_
 obtain rfl:=AK a
 refine O1 B l Z (.tmp Z)<|⟨q,Z,Ho (Mo [] p) h⟩
 refine WC.skip<|Sr<|Vm<|Bi a fun c ap a=>Ca (Cg [Fl f] Z) (NX q y ap) ?_
 rintro _ r ⟨m,rfl,s⟩
 refine Vm<|Vr (Fl c.1)<|Vr (I c.2)<|Va (Fl c.1)<|Va (I c.2)<|AA<|Sr<|Vm<|Vm<|Vr (I (Wr (d+c.2)))<|Va (I (Wr (d+c.2)))<|AA<|Sr<|Vm<|Vx (v:=.int .u64 ((c.1:Nat):Int)) (PA (vs:=[Fl c.1]) Z Z)<|Va (.int .u64 ((c.1:Nat):Int))<|AA<|Sr<|Vm<|Vm<|Bi a fun bf aq a=>Vx (v:=.int .u64 (shr .u64 ((c.1:Nat):Int) 52)) (Run.shr Z Z (VO aq))<|Vr (I (Wr (shr .u64 ((c.1:Nat):Int) 52)))<|Vr (I (E9 .i64 (Wr (shr .u64 ((c.1:Nat):Int) 52)) 2047))<|Vr (I (Wr ((E9 .i64 (Wr (shr .u64 ((c.1:Nat):Int) 52)) 2047) - 1023)))<|Vr (I (Wr ((Wr (d+c.2))+(Wr ((E9 .i64 (Wr (shr .u64 ((c.1:Nat):Int) 52)) 2047) - 1023)))))<|Va (I (Wr ((Wr (d+c.2))+(Wr ((E9 .i64 (Wr (shr .u64 ((c.1:Nat):Int) 52)) 2047) - 1023)))))<|AA<|AR<|Sr<|Vm<|Vr (.bool (decide ((Wr ((Wr (d+c.2))+(Wr ((E9 .i64 (Wr (shr .u64 ((c.1:Nat):Int) 52)) 2047) - 1023))))< (-1075:Int))))<|AA<|Cn a (fun ar a=>?_) fun ar a=>?_
 refine Sr<|Vm<|Bi a fun au av a=>Ca (Cg [Fl (0:Nat),Fl c.1] Z) (RD m r av) ?_
 rintro _ bg ⟨aw,rfl,ax⟩
 refine Va (Fl au)<|AA<|AQ ?_
 obtain rfl:=AK a
 refine O1 B l Z (.tmp Z)<|⟨aw,Z,Ho (T2 (Mo [] p) s ax) h⟩
 refine WC.skip<|AR<|Sr<|Vm<|Vr (.bool (decide ((Wr ((Wr (d+c.2))+(Wr ((E9 .i64 (Wr (shr .u64 ((c.1:Nat):Int) 52)) 2047) - 1023))))>1023)))<|AA<|Cn a (fun ay a=>?_) fun ay a=>?_
 refine AR<|Sr<|Vm<|Vr (.bool (flt_ c.1 (0:Nat)))<|AA<|Cn a (fun az a=>?_) fun az a=>?_
 refine Sr<|Bi a fun a0 a1 a=>Ca (Cg [I (-1:Int)] Z) (Ra m r a1) ?_
 rintro _ bh ⟨a2,rfl,a3⟩
 refine Va (Fl a0)<|AA<|AQ ?_
 obtain rfl:=AK a
 refine O1 B l Z (.tmp Z)<|⟨a2,Z,Ho (T2 (Mo [] p) s a3) h⟩
 refine WC.skip<|Sr<|Bi a fun a4 a5 a=>Ca (Cg [I 1] Z) (Ra m r a5) ?_
 rintro _ bi ⟨a6,rfl,a7⟩
 refine Va (Fl a4)<|AA<|AQ ?_
 obtain rfl:=AK a
 refine O1 B l Z (.tmp Z)<|⟨a6,Z,Ho (T2 (Mo [] p) s a7) h⟩
 refine WC.skip<|Sr<|Va (Fl (4607182418800017408:Nat))<|AA<|Am (fun w ag=>∃o aa e ab,w=Env.puts o [(1,I e),(6,.int .u64 ((c.1:Nat):Int)),(7,Fl ab)]∧LU c e ab=some ac∧AS [] m r aa ag) ?_ ?_
 refine Sr<|Vm<|Vr (.bool (decide ((Wr ((Wr (d+c.2))+(Wr ((E9 .i64 (Wr (shr .u64 ((c.1:Nat):Int) 52)) 2047) - 1023))))< (-1022:Int))))<|AA<|Cn a (fun a8 a=>?_) fun a8 a=>?_
 refine Sr<|Vm<|Vr (I (Wr ((Wr ((Wr (d+c.2))+(Wr ((E9 .i64 (Wr (shr .u64 ((c.1:Nat):Int) 52)) 2047) - 1023))))+53)))<|Va (I (Wr ((Wr ((Wr (d+c.2))+(Wr ((E9 .i64 (Wr (shr .u64 ((c.1:Nat):Int) 52)) 2047) - 1023))))+53)))<|AA<|AL<|Va (Fl (4368491638549381120:Nat))<|AA<|⟨_,m,(Wr ((Wr ((Wr (d+c.2))+(Wr ((E9 .i64 (Wr (shr .u64 ((c.1:Nat):Int) 52)) 2047) - 1023))))+53)),(4368491638549381120:Nat),Pu,a,Rf⟩
 refine WC.skip<|⟨_,m,(Wr ((Wr (d+c.2))+(Wr ((E9 .i64 (Wr (shr .u64 ((c.1:Nat):Int) 52)) 2047) - 1023)))),(4607182418800017408:Nat),Pu,a,Rf⟩
 rintro _ ag ⟨o,aa,e,ab,rfl,a,a9⟩
 rw [LU] at a
 refine Sr<|Vm<|Vr (.int .u64 (Cy .u64 ((c.1:Nat):Int) 9218868437227405312))<|Va (.int .u64 (Cy .u64 ((c.1:Nat):Int) 9218868437227405312))<|AA<|Sr<|Vm<|Vm<|Vr (I (Wr (e+1023)))<|Vr (.int .u64 (IntKind.u64.wrap (Wr (e+1023))))<|Bi a fun bj ba a=>Vx (v:=.int .u64 (shl .u64 (IntKind.u64.wrap (Wr (e+1023))) 52)) (Run.shl Z Z (VO ba))<|Vr (.int .u64 (MN .u64 (Cy .u64 ((c.1:Nat):Int) 9218868437227405312) (shl .u64 (IntKind.u64.wrap (Wr (e+1023))) 52)))<|Va (.int .u64 (MN .u64 (Cy .u64 ((c.1:Nat):Int) 9218868437227405312) (shl .u64 (IntKind.u64.wrap (Wr (e+1023))) 52)))<|AA<|Sr<|Vm<|Vm<|Vx (v:=Fl (((MN .u64 (Cy .u64 ((c.1:Nat):Int) 9218868437227405312) (shl .u64 (IntKind.u64.wrap (Wr (e+1023))) 52))).toNat)) (O9 (vs:=[.int .u64 (MN .u64 (Cy .u64 ((c.1:Nat):Int) 9218868437227405312) (shl .u64 (IntKind.u64.wrap (Wr (e+1023))) 52))]) Z Z)<|Bi a fun ah bb a=>Vx (v:=Fl ah) (Run.fmul Z Z bb)<|Va (Fl ah)<|AA<|AQ ?_
 obtain rfl:=AK a
 refine O1 B l Z (.tmp Z)<|⟨aa,Z,Ho (T2 (Mo [] p) s a9) h⟩
theorem Ud:Jm.Spec Jm:=lk0 (TZ)
def I4.At(g:Col)(a:World)(f:Nat→Int→Option Nat):Prop:=
 ∀{c d e},f c d=some e→
  Calls PG 156 #[Fl c,I d] a fun h l=>∃m,h=.returned (Fl e)∧AS [] g a m l
def I4.Spec(f:Nat→Int→Option Nat):Prop:=
 ∀a c,I4.At a c f
theorem Ta(c:Col)(d:World)(e:∀b,c b<10):I4.At c d I4:=by
 intro f g q a
 rw [I4] at a
 refine Ay Tryz.func156 Z Tryz.ntmps156 Z fun B l r=>Sr<|Va (Fl (0:Nat))<|AA<|AR<|WC.cond (t:=false) Z (fun h=>by cases h) fun h=>WC.skip<|Sr<|Vm<|Vm<|Bi a fun m n a=>Ca (Cg [Fl f,I g] Z) (Ud c d n) ?_
 rintro _ s ⟨o,rfl,p⟩
 refine Va (Fl m)<|AA<|AQ ?_
 obtain rfl:=AK a
 refine O1 B l Z (.tmp Z)<|⟨o,Z,Ho (Mo [] p) e⟩
theorem Ue:I4.Spec I4:=lk0 (Ta)
def LX.At(g:Col)(a:World)(f:Nat→Nat→Option Nat):Prop:=
 ∀{c d e},f c d=some e→
  Calls PG 150 #[Fl c,Fl d] a fun h l=>∃m,h=.returned (Fl e)∧AS [] g a m l
def LX.Spec(f:Nat→Nat→Option Nat):Prop:=
 ∀a c,LX.At a c f
theorem Vy(z:Nat)(u:Col)(ag:World)(aq:∀b,u b<10):LX.At u ag (LX z):=by
 intro c w q a
 rw [LX] at a
 refine Ay Tryz.func150 Z Tryz.ntmps150 Z fun B ar b2=>Sr<|Va (Fl (0:Nat))<|AA<|AR<|Am (fun h aa=>∃e ab ah,h=Env.puts e [(0,Fl c),(1,Fl w),(23,.bool ah)]∧Kx z c w ah=some q∧AS [] u ag ab aa) ?_ ?_
 refine AL<|Vm<|Vr (.bool (feq w (0:Nat)))<|Vm<|Bo a (fun n a=>?_) fun n a=>?_
 refine Pg n<|Pg n<|Vp n<|Vm<|Pg Z<|Pg Z<|Vr (.bool true)<|Vm<|Pg Z<|Pg Z<|Vr (.bool true)<|AA<|⟨_,u,true,Pu,a,Rf⟩
 refine Gm n<|Bi a fun b3 a1 a=>CT (.guard (t:=false) (b:=false) Z Z Z Z (Cb n)) Z Z (Cg [Fl c,I 0] Z)<|Calls.mono (Nn u ag a1) ?_
 rintro _ a2 ⟨au,rfl,ai⟩
 refine ⟨_,Z,?_⟩
 refine Vp n<|Vm<|Bo a (fun o a=>?_) fun o a=>?_
 refine Pg o<|Pg o<|Vp o<|Vm<|Pg Z<|Pg Z<|Vr (.bool true)<|AA<|⟨_,au,true,Pu,a,(Mo [] ai)⟩
 refine Gm o<|Bi a fun b4 a3 a=>CT (.guard (t:=false) (b:=false) Z Z Z Z (Cb o)) Z Z (Cg [Fl c] Z)<|Calls.mono (Mb au a2 a3) ?_
 rintro _ a4 ⟨av,rfl,aw⟩
 refine ⟨_,Z,?_⟩
 refine Vp o<|Vm<|Bo a (fun p a=>?_) fun p a=>?_
 refine Pg p<|Pg p<|Vp p<|AA<|⟨_,av,true,Pu,a,(Tn (Mo [] ai) aw)⟩
 refine Gm p<|Bi a fun a5 a6 a=>CT (.guard (t:=false) (b:=false) Z Z Z Z (Cb p)) Z Z (Cg [Fl w] Z)<|Calls.mono (Mb av a4 a6) ?_
 rintro _ b5 ⟨a7,rfl,a8⟩
 refine ⟨_,Z,?_⟩
 refine Vp p<|AA<|⟨_,a7,a5,Pu,a,(T2 (Mo [] ai) aw a8)⟩
 rintro _ aa ⟨e,ab,ah,rfl,a,ax⟩
 rw [Kx] at a
 refine Cn a (fun a9 a=>?_) fun a9 a=>?_
 refine Sr<|Bi a fun ba bb a=>Ca (Cg [] Z) (W5 ab aa bb) ?_
 rintro _ b6 ⟨bc,rfl,bd⟩
 refine Va (Fl ba)<|AA<|AQ ?_
 obtain rfl:=AK a
 refine O1 B ar Z (.tmp Z)<|⟨bc,Z,Ho (Tn (Mo [] ax) bd) aq⟩
 refine WC.skip<|Sr<|Vm<|Bi a fun f be a=>Ca (Cg [Fl w] Z) (PO ab aa be) ?_
 rintro _ bf ⟨bg,rfl,bh⟩
 refine Va (Fl f)<|AA<|Sr<|Vm<|Bi a fun d bi a=>Ca (Cg [Fl f] Z) (P2 bg bf bi) ?_
 rintro _ bj ⟨aj,rfl,bk⟩
 refine Vm<|Vr (Fl d.1)<|Vr (I d.2)<|Va (Fl d.1)<|Va (I d.2)<|AA<|Sr<|Vm<|Va (Fl c)<|AA<|Am (fun h ak=>∃e ac ad,h=Env.puts e [(0,Fl c),(1,Fl f),(5,Fl d.1),(6,I d.2),(7,Fl ad)]∧Lr z c f d ad=some q∧AS [] aj bj ac ak) ?_ ?_
 refine Sr<|Vm<|Vr (.bool (flt_ c (0:Nat)))<|AA<|Cn a (fun bl a=>?_) fun bl a=>?_
 refine AL<|Vm<|Vr (Fl (Op.negFloat .f64 c))<|Va (Fl (Op.negFloat .f64 c))<|AA<|⟨_,aj,(Op.negFloat .f64 c),Pu,a,Rf⟩
 refine WC.skip<|⟨_,aj,c,Pu,a,Rf⟩
 rintro _ ak ⟨e,ac,ad,rfl,a,bm⟩
 rw [Lr] at a
 refine AR<|Af<|Bg (fun m h ae=>∃e r g,h=Env.puts e [(0,Fl c),(1,Fl f),(5,Fl d.1),(6,I d.2),(7,Fl g)]∧KJ c f d m g=some q∧AS [] ac ak r ae) z ?_ ?_
 exact ⟨_,ac,ad,Pu,a,Rf⟩
 rintro m _ ae ⟨e,r,g,rfl,a,ay⟩
 rcases m with _|m
 exact A5 a
 refine have a:L3 c f d (KJ c f d m) g=some q:=a; ?_
 obtain ⟨bn,az⟩:∃s,s=KJ c f d m:=⟨_,rfl⟩
 rw [←az,L3] at a
 refine AR<|Sr<|Vm<|Vm<|Vr (.bool (fge g f))<|AA<|Cn a (fun bo a=>?_) fun bo a=>?_
 refine WC.skip<|Af<|Sr<|Vm<|Bi a fun l bp a=>Ca (Cg [Fl g] Z) (P2 r ae bp) ?_
 rintro _ bq ⟨al,rfl,br⟩
 refine Vm<|Vr (Fl l.1)<|Vr (I l.2)<|Va (Fl l.1)<|Va (I l.2)<|AA<|Am (fun h am=>∃e an y,h=Env.puts e [(0,Fl c),(1,Fl f),(5,Fl d.1),(6,I d.2),(7,Fl g),(9,I y)]∧Kw f d g bn y=some q∧AS [] al bq an am) ?_ ?_
 refine Sr<|Vm<|Vm<|Vr (.bool (flt_ l.1 d.1))<|AA<|Cn a (fun bt a=>?_) fun bt a=>?_
 refine AL<|Vm<|Vr (I (Wr (l.2 - 1)))<|Va (I (Wr (l.2 - 1)))<|AA<|⟨_,al,(Wr (l.2 - 1)),Pu,a,Rf⟩
 refine WC.skip<|⟨_,al,l.2,Pu,a,Rf⟩
 rintro _ am ⟨e,an,y,rfl,a,bu⟩
 rw [Kw] at a
 refine AL<|Vm<|Vm<|Vm<|Vm<|Vr (I (Wr (y - d.2)))<|Bi a fun b7 bv a=>Ca (Cg [Fl f,I (Wr (y - d.2))] Z) (Ue an am bv) ?_
 rintro _ b8 ⟨bw,rfl,bx⟩
 refine Bi a fun ao bz a=>Vx (v:=Fl ao) (Run.fsub Z Z bz)<|Va (Fl ao)<|AA<|⟨m,Nat.lt_succ_self m,_,bw,ao,Pu,(az▸a),(T3 (Mo [] ay) br bu bx)⟩
 refine Ba<|Am (fun h a0=>∃e ap af,h=Env.puts e [(7,Fl af)]∧NT af=some q∧AS [] r ae ap a0) ?_ ?_
 refine Sr<|Vm<|Vr (.bool (flt_ c (0:Nat)))<|AA<|Cn a (fun b0 a=>?_) fun b0 a=>?_
 refine AL<|Vm<|Vr (Fl (Op.negFloat .f64 g))<|Va (Fl (Op.negFloat .f64 g))<|AA<|⟨_,r,(Op.negFloat .f64 g),Pu,a,Rf⟩
 refine WC.skip<|⟨_,r,g,Pu,a,Rf⟩
 rintro _ a0 ⟨e,ap,af,rfl,a,b1⟩
 rw [NT] at a
 refine Sr<|Vm<|Va (Fl af)<|AA<|AQ ?_
 obtain rfl:=AK a
 refine O1 B ar Z (.tmp Z)<|⟨ap,Z,Ho (Tn (T4 (Mo [] ax) bh bk bm ay) b1) aq⟩
theorem W6(c:Nat):LX.Spec (LX c):=lk0 (Vy c)
def KT.At(g:Col)(a:World)(f:Nat→Nat→Option Nat):Prop:=
 ∀{c d e},f c d=some e→
  Calls PG 147 #[Fl c,Fl d] a fun h l=>∃m,h=.returned (Fl e)∧AS [] g a m l
def KT.Spec(f:Nat→Nat→Option Nat):Prop:=
 ∀a c,KT.At a c f
theorem Vz(d:Nat)(c:Col)(e:World)(f:∀b,c b<10):KT.At c e (KT d):=by
 intro g l r a
 rw [KT] at a
 refine Ay Tryz.func147 Z Tryz.ntmps147 Z fun B m s=>Sr<|Va (Fl (0:Nat))<|AA<|AR<|WC.cond (t:=false) Z (fun h=>by cases h) fun h=>WC.skip<|Sr<|Vm<|Vm<|Bi a fun n o a=>Ca (Cg [Fl g,Fl l] Z) (W6 d c e o) ?_
 rintro _ u ⟨p,rfl,q⟩
 refine Va (Fl n)<|AA<|AQ ?_
 obtain rfl:=AK a
 refine O1 B m Z (.tmp Z)<|⟨p,Z,Ho (Mo [] q) f⟩
theorem Rb(c:Nat):KT.Spec (KT c):=lk0 (Vz c)
def KB.At(g:Col)(c:World)(f:(Nat×Nat)→(Nat×Nat)→Option ((Nat×Nat)×Int)):Prop:=
 ∀{d e a},f d e=some a→
  Calls PG 141 #[Cx d,Cx e] c fun h l=>∃m,h=.returned (.tuple #[Cx a.1,I a.2])∧AS [] g c m l
def KB.Spec(f:(Nat×Nat)→(Nat×Nat)→Option ((Nat×Nat)×Int)):Prop:=
 ∀a c,KB.At a c f
theorem Uf(m:Nat)(n:Col)(w:World)(o:∀b,n b<10):KB.At n w (KB m):=by
 intro y d ag a
 rw [KB] at a
 refine Ay Tryz.func141 Z Tryz.ntmps141 Z fun B p bb=>Sr<|Va (Cx (((0,0):Nat×Nat)))<|Va (I 0)<|AA<|AR<|Af<|Am (fun z q=>∃l h aa,z=Env.puts l [(0,Cx y),(1,Cx d),(9,.bool aa)]∧L5 m y d aa=some ag∧AS [] n w h q) ?_ ?_
 refine AL<|Vm<|Bi a fun an ao a=>Ca (Cg [Cx y] Z) (DI n w ao) ?_
 rintro _ ap ⟨ah,rfl,ai⟩
 refine Vr (.bool (!an))<|Vm<|Bo a (fun f a=>?_) fun f a=>?_
 refine Pg f<|Pg f<|Pg f<|Vp f<|Va (.bool true)<|AA<|⟨_,ah,true,Pu,a,(Mo [] ai)⟩
 refine Gm f<|Bi a fun ab aq a=>CT (.guard (t:=false) (b:=false) Z Z Z Z (Cb f)) Z Z (Cg [Cx d] Z)<|Calls.mono (DI ah ap aq) ?_
 rintro _ bc ⟨ar,rfl,au⟩
 refine ⟨_,Z,?_⟩
 refine Gr f (.bool (!ab))<|Vp f<|Va (.bool (!ab))<|AA<|⟨_,ar,(!ab),Pu,a,(Tn (Mo [] ai) au)⟩
 rintro _ q ⟨l,h,aa,rfl,a,r⟩
 rw [L5] at a
 refine Cn a (fun av a=>?_) fun av a=>?_
 refine Sr<|Va (Cx (((0,0):Nat×Nat)))<|Va (I 3)<|AA<|AQ ?_
 obtain rfl:=AK a
 refine O2 B p Z (.tmp Z) (.tmp Z)<|⟨h,Z,Ho (Mo [] r) o⟩
 refine Sr<|Vm<|Vx (v:=.bool (ceq d ((0,0):Nat×Nat))) (Run.ceq Z Z)<|Va (.bool (ceq d ((0,0):Nat×Nat)))<|AA<|Cn a (fun aw a=>?_) fun aw a=>?_
 refine Sr<|Va (Cx (((0,0):Nat×Nat)))<|Va (I 51)<|AA<|AQ ?_
 obtain rfl:=AK a
 refine O2 B p Z (.tmp Z) (.tmp Z)<|⟨h,Z,Ho (Mo [] r) o⟩
 refine WC.skip<|Sr<|Vm<|Vx (v:=Fl d.1) (Run.real Z)<|Vm<|Vx (v:=Fl d.2) (Run.imag Z)<|Vr (Fl (Op.negFloat .f64 d.2))<|Vx (v:=Cx ((d.1,(Op.negFloat .f64 d.2)))) (Run.complex Z Z)<|Va (Cx ((d.1,(Op.negFloat .f64 d.2))))<|AA<|Sr<|Vm<|Vm<|Bi a fun e ax a=>Vx (v:=Cx e) (Run.cmul Z Z ax)<|Vm<|Vm<|Bi a fun g ay a=>Vx (v:=Cx g) (Run.cmul Z Z ay)<|Vx (v:=Fl g.1) (Run.real Z)<|Va (Cx e)<|Va (Fl g.1)<|AA<|AR<|Am (fun z ac=>∃l s ad,z=Env.puts l [(7,Cx e),(8,Fl g.1),(45,.bool ad)]∧L4 e g ad=some ag∧AS [] h q s ac) ?_ ?_
 refine AL<|Vm<|Vx (v:=Fl e.1) (Run.real Z)<|Vm<|Bi a fun az a0 a=>Ca (Cg [Fl e.1,Fl g.1] Z) (Rb m h q a0) ?_
 rintro _ a1 ⟨aj,rfl,ak⟩
 refine Vr (.bool (fne az (0:Nat)))<|Vm<|Bo a (fun c a=>?_) fun c a=>?_
 refine Pg c<|Pg c<|Pg c<|Pg c<|Pg c<|Vp c<|AA<|⟨_,aj,true,Pu,a,(Mo [] ak)⟩
 refine Gm c<|Gx c (v:=Fl e.2) (Run.imag Z)<|Gm c<|Bi a fun al a2 a=>CT (.guard (t:=false) (b:=false) Z Z Z Z (Cb c)) Z Z (Cg [Fl e.2,Fl g.1] Z)<|Calls.mono (Rb m aj a1 a2) ?_
 rintro _ bd ⟨a3,rfl,a4⟩
 refine ⟨_,Z,?_⟩
 refine Gr c (.bool (fne al (0:Nat)))<|Vp c<|AA<|⟨_,a3,(fne al (0:Nat)),Pu,a,(Tn (Mo [] ak) a4)⟩
 rintro _ ac ⟨l,s,ad,rfl,a,am⟩
 rw [L4] at a
 refine Cn a (fun a5 a=>?_) fun a5 a=>?_
 refine Sr<|Va (Cx (((0,0):Nat×Nat)))<|Va (I 51)<|AA<|AQ ?_
 obtain rfl:=AK a
 refine O2 B p Z (.tmp Z) (.tmp Z)<|⟨s,Z,Ho (Tn (Mo [] r) am) o⟩
 refine WC.skip<|Sr<|Vm<|Vx (v:=Fl e.1) (Run.real Z)<|Vm<|Bi a fun ae a6 a=>Vx (v:=Fl ae) (Run.fdiv Z Z a6)<|Vm<|Vx (v:=Fl e.2) (Run.imag Z)<|Vm<|Bi a fun af a7 a=>Vx (v:=Fl af) (Run.fdiv Z Z a7)<|Vx (v:=Cx ((ae,af))) (Run.complex Z Z)<|Bi a fun u a8 a=>Ca (Cg [Cx ((ae,af))] Z) (LE s ac a8) ?_
 rintro _ be ⟨a9,rfl,ba⟩
 refine Vr (Cx u.1)<|Vr (I u.2)<|Va (Cx u.1)<|Va (I u.2)<|AA<|AQ ?_
 obtain rfl:=AK a
 refine O2 B p Z (.tmp Z) (.tmp Z)<|⟨a9,Z,Ho (T2 (Mo [] r) am ba) o⟩
theorem V0(c:Nat):KB.Spec (KB c):=lk0 (Uf c)
def I5.At(g:Col)(c:World)(f:(Nat×Nat)→(Nat×Nat)→Option (Bool×Int)):Prop:=
 ∀{d e a},f d e=some a→
  Calls PG 142 #[Cx d,Cx e] c fun h l=>∃m,h=.returned (.tuple #[.bool a.1,I a.2])∧AS [] g c m l
def I5.Spec(f:(Nat×Nat)→(Nat×Nat)→Option (Bool×Int)):Prop:=
 ∀a c,I5.At a c f
theorem Tc(g:Col)(h:World)(l:∀b,g b<10):I5.At g h I5:=by
 intro c d w a
 rw [I5] at a
 refine Ay Tryz.func142 Z Tryz.ntmps142 Z fun B m ah=>Sr<|Va (.bool false)<|Va (I 0)<|AA<|AR<|Am (fun y p=>∃q f n,y=Env.puts q [(0,Cx c),(1,Cx d),(13,.bool n)]∧LY c d n=some w∧AS [] g h f p) ?_ ?_
 refine AL<|Vm<|Bi a fun z aa a=>Ca (Cg [Cx c] Z) (DI g h aa) ?_
 rintro _ ab ⟨r,rfl,s⟩
 refine Vr (.bool (!z))<|Vm<|Bo a (fun e a=>?_) fun e a=>?_
 refine Pg e<|Pg e<|Pg e<|Vp e<|AA<|⟨_,r,true,Pu,a,(Mo [] s)⟩
 refine Gm e<|Bi a fun u ac a=>CT (.guard (t:=false) (b:=false) Z Z Z Z (Cb e)) Z Z (Cg [Cx d] Z)<|Calls.mono (DI r ab ac) ?_
 rintro _ ai ⟨ad,rfl,ae⟩
 refine ⟨_,Z,?_⟩
 refine Gr e (.bool (!u))<|Vp e<|AA<|⟨_,ad,(!u),Pu,a,(Tn (Mo [] s) ae)⟩
 rintro _ p ⟨q,f,n,rfl,a,o⟩
 rw [LY] at a
 refine Cn a (fun af a=>?_) fun af a=>?_
 refine Sr<|Va (.bool false)<|Va (I 3)<|AA<|AQ ?_
 obtain rfl:=AK a
 refine O2 B m Z (.tmp Z) (.tmp Z)<|⟨f,Z,Ho (Mo [] o) l⟩
 refine WC.skip<|AR<|Sr<|Vm<|Vx (v:=Fl c.1) (Run.real Z)<|Vm<|Vx (v:=Fl d.1) (Run.real Z)<|Vr (.bool (fne c.1 d.1))<|AA<|Cn a (fun ag a=>?_) fun ag a=>?_
 refine Sr<|Vm<|Vx (v:=Fl c.1) (Run.real Z)<|Vm<|Vx (v:=Fl d.1) (Run.real Z)<|Vr (.bool (flt_ c.1 d.1))<|Va (.bool (flt_ c.1 d.1))<|Va (I 0)<|AA<|AQ ?_
 obtain rfl:=AK a
 refine O2 B m Z (.tmp Z) (.tmp Z)<|⟨f,Z,Ho (Mo [] o) l⟩
 refine WC.skip<|Sr<|Vm<|Vx (v:=Fl c.2) (Run.imag Z)<|Vm<|Vx (v:=Fl d.2) (Run.imag Z)<|Vr (.bool (flt_ c.2 d.2))<|Va (.bool (flt_ c.2 d.2))<|Va (I 0)<|AA<|AQ ?_
 obtain rfl:=AK a
 refine O2 B m Z (.tmp Z) (.tmp Z)<|⟨f,Z,Ho (Mo [] o) l⟩
theorem Ug:I5.Spec I5:=lk0 (Tc)
def KU.At(n:Col)(c:World)(f:Int→(Nat×Nat)→(Nat×Nat)→Option (AF×Int)):Prop:=
 ∀{d e g a},f d e g=some a→
  Calls PG 118 #[I d,Cx e,Cx g] c fun o h=>∃l m,o=.returned (.tuple #[Ag m,I a.2])∧AS [] n c l h∧Ao.rep l.F h m a.1
def KU.Spec(f:Int→(Nat×Nat)→(Nat×Nat)→Option (AF×Int)):Prop:=
 ∀a c,KU.At a c f
theorem V1(ai:Nat)(z:Col)(a2:World)(m:∀b,z b<10):KU.At z a2 (KU ai):=by
 intro f g h ci a
 rw [KU] at a
 refine Ay Tryz.func118 Z Tryz.ntmps118 Z fun B n cj=>Sr<|Ef<|AY z 20 CS Z fun o r ck p q=>Va (I 0)<|AA<|AR<|Sr<|Vm<|AA<|Af<|Sr<|Vr (.bool (f==8))<|Va (.bool (f==8))<|AA<|Cn a (fun a3 a=>?_) fun a3 a=>?_
 refine Sr<|Vm<|Vm<|Bi a fun s a4 a=>Ca (Cg [Cx g,Cx h] Z) (Vq o r a4) ?_
 rintro _ a5 ⟨a6,rfl,aj⟩
 refine Vr (Cx s.1)<|Vr (I s.2)<|Bi a fun c a7 a=>Ca (Cg [Cx s.1,I s.2] Z) (JE a6 a5 a7) ?_
 rintro _ cl ⟨a8,cm,rfl,ak,a9⟩
 obtain ⟨aa,ab,rfl,al⟩:=E1 (Az a9)
 refine Vr (Ag [I c.1.type_,Cx c.1.num,.bool c.1.bool,Sl aa c.1.list ab])<|Vr (I c.2)<|have ba:=Y2 p aj ak;Eu<|St Cw ba Z Z Z Z fun co bb am=>Va (I c.2)<|AA<|AQ ?_
 obtain rfl:=AK a
 refine O2 B n Z (.agg B0 Z Z (Bw bb)) (.tmp Z)<|have bc:=Ss Kd.cpx al am;⟨a8,[I c.1.type_,Cx c.1.num,.bool c.1.bool,Sl aa c.1.list ab],Z,Ho (T3 (Mo [20] q) aj ak am) m,(Al (x:=c.1) bc)⟩
 refine Sr<|Vr (.bool (f==9))<|Va (.bool (f==9))<|AA<|Cn a (fun bd a=>?_) fun bd a=>?_
 refine Sr<|Vm<|Vm<|Bi a fun u be a=>Ca (Cg [Cx g,Cx h] Z) (Vs o r be) ?_
 rintro _ bf ⟨bg,rfl,an⟩
 refine Vr (Cx u.1)<|Vr (I u.2)<|Bi a fun d bh a=>Ca (Cg [Cx u.1,I u.2] Z) (JE bg bf bh) ?_
 rintro _ cq ⟨bi,cr,rfl,ao,bj⟩
 obtain ⟨ac,ad,rfl,ap⟩:=E1 (Az bj)
 refine Vr (Ag [I d.1.type_,Cx d.1.num,.bool d.1.bool,Sl ac d.1.list ad])<|Vr (I d.2)<|have bk:=Y2 p an ao;Eu<|St Cw bk Z Z Z Z fun cu bl aq=>Va (I d.2)<|AA<|AQ ?_
 obtain rfl:=AK a
 refine O2 B n Z (.agg B0 Z Z (Bw bl)) (.tmp Z)<|have bm:=Ss Kd.cpx ap aq;⟨bi,[I d.1.type_,Cx d.1.num,.bool d.1.bool,Sl ac d.1.list ad],Z,Ho (T3 (Mo [20] q) an ao aq) m,(Al (x:=d.1) bm)⟩
 refine Sr<|Vr (.bool (f==10))<|Va (.bool (f==10))<|AA<|Cn a (fun bn a=>?_) fun bn a=>?_
 refine Sr<|Vm<|Vm<|Bi a fun w bo a=>Ca (Cg [Cx g,Cx h] Z) (Vt o r bo) ?_
 rintro _ bp ⟨bq,rfl,ar⟩
 refine Vr (Cx w.1)<|Vr (I w.2)<|Bi a fun x63 br a=>Ca (Cg [Cx w.1,I w.2] Z) (JE bq bp br) ?_
 rintro _ cv ⟨bt,cw,rfl,au,bu⟩
 obtain ⟨ae,af,rfl,av⟩:=E1 (Az bu)
 refine Vr (Ag [I x63.1.type_,Cx x63.1.num,.bool x63.1.bool,Sl ae x63.1.list af])<|Vr (I x63.2)<|have bv:=Y2 p ar au;Eu<|St Cw bv Z Z Z Z fun cy bw aw=>Va (I x63.2)<|AA<|AQ ?_
 obtain rfl:=AK a
 refine O2 B n Z (.agg B0 Z Z (Bw bw)) (.tmp Z)<|have bx:=Ss Kd.cpx av aw;⟨bt,[I x63.1.type_,Cx x63.1.num,.bool x63.1.bool,Sl ae x63.1.list af],Z,Ho (T3 (Mo [20] q) ar au aw) m,(Al (x:=x63.1) bx)⟩
 refine Sr<|Vr (.bool (f==11))<|Va (.bool (f==11))<|AA<|Cn a (fun bz a=>?_) fun bz a=>?_
 refine Sr<|Vm<|Vm<|Bi a fun y b0 a=>Ca (Cg [Cx g,Cx h] Z) (V0 ai o r b0) ?_
 rintro _ b1 ⟨b2,rfl,ax⟩
 refine Vr (Cx y.1)<|Vr (I y.2)<|Bi a fun e b3 a=>Ca (Cg [Cx y.1,I y.2] Z) (JE b2 b1 b3) ?_
 rintro _ cz ⟨b4,c0,rfl,ay,b5⟩
 obtain ⟨ag,ah,rfl,az⟩:=E1 (Az b5)
 refine Vr (Ag [I e.1.type_,Cx e.1.num,.bool e.1.bool,Sl ag e.1.list ah])<|Vr (I e.2)<|have b6:=Y2 p ax ay;Eu<|St Cw b6 Z Z Z Z fun c2 b7 a0=>Va (I e.2)<|AA<|AQ ?_
 obtain rfl:=AK a
 refine O2 B n Z (.agg B0 Z Z (Bw b7)) (.tmp Z)<|have b8:=Ss Kd.cpx az a0;⟨b4,[I e.1.type_,Cx e.1.num,.bool e.1.bool,Sl ag e.1.list ah],Z,Ho (T3 (Mo [20] q) ax ay a0) m,(Al (x:=e.1) b8)⟩
 refine Sr<|Vr (.bool (f==12))<|Va (.bool (f==12))<|AA<|Cn a (fun b9 a=>?_) fun b9 a=>?_
 refine Sr<|Vm<|Vm<|Vx (v:=.bool (ceq g h)) (Run.ceq Z Z)<|Vx (v:=Ag [I 2,Cx (((0,0):Nat×Nat)),.bool (ceq g h),.slice none 0 0]) (Bp CS F7 Z (.cons Z Z Z (.cons Z Z Z .nil)))<|Eu<|St Cw p Z Z Z Z fun c3 ca cb=>Va (I 0)<|AA<|AQ ?_
 obtain rfl:=AK a
 refine O2 B n Z (.agg B0 Z Z (Bw ca)) (.tmp Z)<|⟨o,[I 2,Cx (((0,0):Nat×Nat)),.bool (ceq g h),.slice none 0 0],Z,Ho (Tn (Mo [20] q) cb) m,(Al (x:=(AF.mk 2 ((0,0):Nat×Nat) (ceq g h) [])) BK)⟩
 refine WC.skip<|Sr<|Vm<|Vm<|Bi a fun l cc a=>Ca (Cg [Cx g,Cx h] Z) (Ug o r cc) ?_
 rintro _ c4 ⟨cd,rfl,a1⟩
 refine Vm<|Vr (.bool l.1)<|Vr (I l.2)<|Va (.bool l.1)<|Va (I l.2)<|AA<|Sr<|Vm<|Vx (v:=Ag [I 2,Cx (((0,0):Nat×Nat)),.bool l.1,.slice none 0 0]) (Bp CS F7 Z (.cons Z Z Z (.cons Z Z Z .nil)))<|Vm<|have cf:=Bs p a1;Eu<|St Cw cf Z Z Z Z fun c5 cg ch=>Va (I l.2)<|AA<|AQ ?_
 obtain rfl:=AK a
 refine O2 B n Z (.agg B0 Z Z (Bw cg)) (.tmp Z)<|⟨cd,[I 2,Cx (((0,0):Nat×Nat)),.bool l.1,.slice none 0 0],Z,Ho (T2 (Mo [20] q) a1 ch) m,(Al (x:=(AF.mk 2 ((0,0):Nat×Nat) l.1 [])) BK)⟩
theorem W7(c:Nat):KU.Spec (KU c):=lk0 (V1 c)
def EQ.At(d:Col)(a:World)(f:Int→(List AF)→Option (AF×Int)):Prop:=
 ∀{e g h c},f e g=some c→Slc Ao d.F a h g→
  Calls PG 91 #[I e,h] a fun o l=>∃m n,o=.returned (.tuple #[Ag n,I c.2])∧AS [] d a m l∧Ao.rep m.F l n c.1
def EQ.Spec(f:Int→(List AF)→Option (AF×Int)):Prop:=
 ∀a c,EQ.At a c f
theorem Td(y:Nat)(ar:Col)(b4:World)(ae:∀b,ar b<10):EQ.At ar b4 (EQ y):=by
 intro c d ek al a au
 rw [EQ] at a
 obtain ⟨ah,ai,rfl⟩:=AT au
 refine Ay Tryz.func91 Z Tryz.ntmps91 Z fun B af el=>Sr<|Ef<|AY ar 20 CS Z fun b5 b6 av ag z=>Va (I 0)<|AA<|Sr<|Vm<|Bi a fun e b7 a=>Ca (Cg [I c] Z) (UX b5 b6 b7) ?_
 rintro _ b8 ⟨aw,rfl,f⟩
 refine Vm<|Vr (I e.1)<|Vr (I e.2)<|Va (I e.1)<|Va (I e.2)<|AA<|AR<|Am (fun aj ax=>∃ac ak ay,aj=Env.puts ac [(0,I c),(1,Sl ah d ai),(4,Pt av 0),(7,I e.2),(23,.bool ay)]∧MZ y c d e ay=some al∧AS [] aw b8 ak ax) ?_ ?_
 refine AL<|Vm<|Vr (.bool (e.1==0))<|Vm<|Bo a (fun r a=>?_) fun r a=>?_
 refine Pg r<|Pg r<|Pg r<|Pg r<|Vp r<|AA<|⟨_,aw,true,Pu,a,Rf⟩
 refine Gm r<|have b9:=K2 Ao au z f; ?_
 obtain ⟨em,en,ca⟩:=AT b9
 refine Gx r (v:=I (d.length:Int)) (Ll Ic ca)<|Gm r<|Gr r (.bool ((d.length:Int) != e.1))<|Vp r<|AA<|⟨_,aw,((d.length:Int) != e.1),Pu,a,Rf⟩
 rintro _ ax ⟨ac,ak,ay,rfl,a,g⟩
 rw [MZ] at a
 refine Cn a (fun cb a=>?_) fun cb a=>?_
 refine Sr<|Vx (v:=Ag [I 0,Cx (((0,0):Nat×Nat)),.bool false,.slice none 0 0]) (Bp CS F7 Z .nil)<|have cc:=Y2 ag f g;Eu<|St Cw cc Z Z Z Z fun eo cd cf=>Va (I 3)<|AA<|AQ ?_
 obtain rfl:=AK a
 refine O2 B af Z (.agg B0 Z Z (Bw cd)) (.tmp Z)<|⟨ak,[I 0,Cx (((0,0):Nat×Nat)),.bool false,.slice none 0 0],Z,Ho (T3 (Mo [20] z) f g cf) ae,(Al (x:=(AF.mk 0 ((0,0):Nat×Nat) false [])) BK)⟩
 refine WC.skip<|AR<|Sr<|Vm<|have az:=K3 Ao au z f g; ?_
 obtain ⟨ep,eq,cg⟩:=AT az
 refine Vx (v:=I (d.length:Int)) (Ll Ic cg)<|Vm<|AA<|Af<|Bg (fun ad aj aa=>∃ac u w,aj=Env.puts ac [(0,I c),(1,Sl ah d ai),(4,Pt av 0),(7,I e.2),(25,Sl ah d ai),(26,I (d.length:Int)),(27,I w)]∧Dh y c d e ad w=some al∧AS [21] ak ax u aa) y ?_ ?_
 exact ⟨_,ak,0,Pu,a,(AS.refl [21] _ _)⟩
 rintro ad _ aa ⟨ac,u,w,rfl,a,h⟩
 rcases ad with _|ad
 exact A5 a
 refine have a:Cs y c d e (Dh y c d e ad) w=some al:=a; ?_
 obtain ⟨ch,bf⟩:∃s,s=Dh y c d e ad:=⟨_,rfl⟩
 rw [←bf,Cs] at a
 refine Sr<|Vr (.bool (decide (w< (d.length:Int))))<|AA<|AR<|Cn a (fun ci a=>?_) fun ci a=>?_
 refine WC.skip<|AR<|Af<|Sr<|Bi a fun p cj a=>have ck:=Ss Ao az h; ?_
 obtain ⟨cl,cm,er,cn,co,cq,cr,ct,a0⟩:=A8 (κ:=Ao) ck cj
 replace a0:Ax u aa cl (cm+w.toNat*4) cn:=a0
 obtain ⟨a1,a2,rfl,bg⟩:=E1 (Az ct)
 refine Vx (Ix Ic co Z cq cr)<|Vx (Lx B0 Z Z (Ax.part0 a0 [I p.type_,Cx p.num,.bool p.bool,Sl a1 p.list a2] Z))<|Ef<|AY u 21 CS Z fun a3 et eu cu am=>have cv:=Ss Kd.cpx bg am;Eu<|St Cw cu Z Z Z Z fun bh bi an=>AA<|Am (fun aj bj=>∃ac ao a4,aj=Env.puts ac [(0,I c),(1,Sl ah d ai),(4,Pt av 0),(7,I e.2),(25,Sl ah d ai),(26,I (d.length:Int)),(27,I w),(39,.bool a4)]∧Ii w ch a4=some al∧AS [] a3 bh ao bj) ?_ ?_
 refine AL<|Vx (Fz Jd Z)<|Vx (Ld Ed Z (Bc bi Z))<|Vm<|Vr (.bool (p.type_ != e.2))<|Vm<|Bo a (fun ab a=>?_) fun ab a=>?_
 refine Pg ab<|Pg ab<|Pg ab<|Vp ab<|AA<|⟨_,a3,true,Pu,a,Rf⟩
 refine Gx ab (Lx B0 Z Z (Bw bi))<|have cw:=Ss Kd.cpx cv an;Bi a fun bk cx a=>CT (.guard (t:=false) (b:=false) Z Z Z Z (Cb ab)) Z Z (Cg [Ag [I p.type_,Cx p.num,.bool p.bool,Sl a1 p.list a2]] Z)<|Calls.mono (PM y a3 bh cx (Al (x:=p) cw)) ?_
 rintro _ ew ⟨cy,rfl,cz⟩
 refine ⟨_,Z,?_⟩
 refine Gr ab (.bool (bk != 0))<|Vp ab<|AA<|⟨_,cy,(bk != 0),Pu,a,(Mo [] cz)⟩
 rintro _ bj ⟨ac,ao,a4,rfl,a,a5⟩
 rw [Ii] at a
 refine Cn a (fun c0 a=>?_) fun c0 a=>?_
 refine Sr<|Vx (v:=Ag [I 0,Cx (((0,0):Nat×Nat)),.bool false,.slice none 0 0]) (Bp CS F7 Z .nil)<|have c1:=Y2 (Y4 ag f g h am) an a5;Eu<|St Cw c1 Z Z Z Z fun ex c2 c3=>Va (I 3)<|AA<|AQ ?_
 obtain rfl:=AK a
 refine O2 B af Z (.agg B0 Z Z (Bw c2)) (.tmp Z)<|⟨ao,[I 0,Cx (((0,0):Nat×Nat)),.bool false,.slice none 0 0],Z,Ho (T3 (T4 (Mo [20,21] z) f g h am) an a5 c3) ae,(Al (x:=(AF.mk 0 ((0,0):Nat×Nat) false [])) BK)⟩
 refine WC.skip<|AL<|Vr (I (Wr (w+1)))<|Vm<|AA<|⟨ad,Nat.lt_succ_self ad,_,ao,(Wr (w+1)),Pu,(bf▸a),(T3 (Mo [21] h) am an a5)⟩
 refine Ba<|Sr<|Vm<|Bi a fun q c4 a=>have bl:=Ss Ao az h; ?_
 obtain ⟨c5,c6,ey,c7,bm,bn,bo,c8,ap⟩:=A8 (κ:=Ao) bl c4
 replace ap:Ax u aa c5 (c6+(0:Int).toNat*4) c7:=ap
 obtain ⟨e0,e1,rfl,c9⟩:=E1 (Az c8)
 refine Vx (Ix Ic bm Z bn bo)<|Vx (Fd HT Z)<|Vx (Ld HL Z (Ax.cell (k:=1) ap Z))<|Va (Cx q.num)<|AA<|AR<|Sr<|Vm<|AA<|Af<|Sr<|Vr (.bool (c==14))<|Va (.bool (c==14))<|AA<|Cn a (fun da a=>?_) fun da a=>?_
 refine Sr<|Vm<|Vx (Ix Ic bm Z bn bo)<|Vx (Fd Ka Z)<|Vx (Ld MF Z (Ax.cell (k:=2) ap Z))<|Vr (.bool (!q.bool))<|Vx (v:=Ag [I 2,Cx (((0,0):Nat×Nat)),.bool (!q.bool),.slice none 0 0]) (Bp CS F7 Z (.cons Z Z Z (.cons Z Z Z .nil)))<|have db:=Y3 ag f g h;Eu<|St Cw db Z Z Z Z fun e2 dc de=>Va (I 0)<|AA<|AQ ?_
 obtain rfl:=AK a
 refine O2 B af Z (.agg B0 Z Z (Bw dc)) (.tmp Z)<|⟨u,[I 2,Cx (((0,0):Nat×Nat)),.bool (!q.bool),.slice none 0 0],Z,Ho (T4 (Mo [20,21] z) f g h de) ae,(Al (x:=(AF.mk 2 ((0,0):Nat×Nat) (!q.bool) [])) BK)⟩
 refine Sr<|Vr (.bool (c==15))<|Va (.bool (c==15))<|AA<|Cn a (fun df a=>?_) fun df a=>?_
 refine Sr<|Vm<|Vx (v:=Fl q.num.1) (Run.real Z)<|Vx (v:=Cx ((q.num.1,(0:Nat)))) (Run.complex Z Z)<|Bi a fun l dg a=>Ca (Cg [Cx ((q.num.1,(0:Nat))),I 0] Z) (JE u aa dg) ?_
 rintro _ e3 ⟨dh,e4,rfl,bp,di⟩
 obtain ⟨a6,a7,rfl,bq⟩:=E1 (Az di)
 refine Vr (Ag [I l.1.type_,Cx l.1.num,.bool l.1.bool,Sl a6 l.1.list a7])<|Vr (I l.2)<|have dj:=Y4 ag f g h bp;Eu<|St Cw dj Z Z Z Z fun e6 dk br=>Va (I l.2)<|AA<|AQ ?_
 obtain rfl:=AK a
 refine O2 B af Z (.agg B0 Z Z (Bw dk)) (.tmp Z)<|have dl:=Ss Kd.cpx bq br;⟨dh,[I l.1.type_,Cx l.1.num,.bool l.1.bool,Sl a6 l.1.list a7],Z,Ho (Tn (T4 (Mo [20,21] z) f g h bp) br) ae,(Al (x:=l.1) dl)⟩
 refine Sr<|Vr (.bool (c==16))<|Va (.bool (c==16))<|AA<|Cn a (fun dm a=>?_) fun dm a=>?_
 refine Sr<|Vm<|Vx (v:=Fl q.num.2) (Run.imag Z)<|Vx (v:=Cx ((q.num.2,(0:Nat)))) (Run.complex Z Z)<|Bi a fun m dn a=>Ca (Cg [Cx ((q.num.2,(0:Nat))),I 0] Z) (JE u aa dn) ?_
 rintro _ e7 ⟨dp,e8,rfl,bt,dq⟩
 obtain ⟨a8,a9,rfl,bu⟩:=E1 (Az dq)
 refine Vr (Ag [I m.1.type_,Cx m.1.num,.bool m.1.bool,Sl a8 m.1.list a9])<|Vr (I m.2)<|have dr:=Y4 ag f g h bt;Eu<|St Cw dr Z Z Z Z fun fa ds bv=>Va (I m.2)<|AA<|AQ ?_
 obtain rfl:=AK a
 refine O2 B af Z (.agg B0 Z Z (Bw ds)) (.tmp Z)<|have dt:=Ss Kd.cpx bu bv;⟨dp,[I m.1.type_,Cx m.1.num,.bool m.1.bool,Sl a8 m.1.list a9],Z,Ho (Tn (T4 (Mo [20,21] z) f g h bt) bv) ae,(Al (x:=m.1) dt)⟩
 refine Sr<|Vr (.bool (c==17))<|Va (.bool (c==17))<|AA<|Cn a (fun du a=>?_) fun du a=>?_
 refine Sr<|Vm<|Bi a fun aq dv a=>Ca (Cg [Cx q.num] Z) (UY u aa dv) ?_
 rintro _ dw ⟨dx,rfl,bw⟩
 refine Vr (Cx aq.1)<|Vr (I aq.2)<|Bi a fun n dy a=>Ca (Cg [Cx aq.1,I aq.2] Z) (JE dx dw dy) ?_
 rintro _ fb ⟨dz,fc,rfl,bx,d0⟩
 obtain ⟨ba,bb,rfl,bz⟩:=E1 (Az d0)
 refine Vr (Ag [I n.1.type_,Cx n.1.num,.bool n.1.bool,Sl ba n.1.list bb])<|Vr (I n.2)<|have d1:=Bs (Y4 ag f g h bw) bx;Eu<|St Cw d1 Z Z Z Z fun fe d2 b0=>Va (I n.2)<|AA<|AQ ?_
 obtain rfl:=AK a
 refine O2 B af Z (.agg B0 Z Z (Bw d2)) (.tmp Z)<|have d3:=Ss Kd.cpx bz b0;⟨dz,[I n.1.type_,Cx n.1.num,.bool n.1.bool,Sl ba n.1.list bb],Z,Ho (T2 (T4 (Mo [20,21] z) f g h bw) bx b0) ae,(Al (x:=n.1) d3)⟩
 refine WC.skip<|Sr<|Vm<|Vm<|Vm<|Bi a fun d4 d5 a=>?_
 obtain ⟨d6,d7,ff,d8,d9,ea,eb,ec,bc⟩:=A8 (κ:=Ao) bl d5
 replace bc:Ax u aa d6 (d7+(1:Int).toNat*4) d8:=bc
 obtain ⟨fh,fi,rfl,ed⟩:=E1 (Az ec)
 refine Vx (Ix Ic d9 Z ea eb)<|Vx (Fd HT Z)<|Vx (Ld HL Z (Ax.cell (k:=1) bc Z))<|Bi a fun o ee a=>Ca (Cg [I c,Cx q.num,Cx d4.num] Z) (W7 y u aa ee) ?_
 rintro _ fj ⟨ef,fk,rfl,b1,eg⟩
 obtain ⟨bd,be,rfl,b2⟩:=E1 (Az eg)
 refine Vr (Ag [I o.1.type_,Cx o.1.num,.bool o.1.bool,Sl bd o.1.list be])<|Vr (I o.2)<|have eh:=Y4 ag f g h b1;Eu<|St Cw eh Z Z Z Z fun fm ei b3=>Va (I o.2)<|AA<|AQ ?_
 obtain rfl:=AK a
 refine O2 B af Z (.agg B0 Z Z (Bw ei)) (.tmp Z)<|have ej:=Ss Kd.cpx b2 b3;⟨ef,[I o.1.type_,Cx o.1.num,.bool o.1.bool,Sl bd o.1.list be],Z,Ho (Tn (T4 (Mo [20,21] z) f g h b1) b3) ae,(Al (x:=o.1) ej)⟩
theorem Uh(c:Nat):EQ.Spec (EQ c):=lk0 (Td c)
def mean_run_look.At(G1 G2:Prop)(c:Col)(a:World)(f:(List AO)→Int→Int→Aq→AE→Nm→Option ((Except Int Aw)×(List AO)×Int×Int))(h ac:Nat):Prop:=
 ∀{l n o p q m s w y z aa d},f n p q s w z=some d→G1→G2→Bk c a h l [.map (some m),o,I p,I q] 83→Slc AI c.F a o n→Mp c a ac m s→AH.rep c.F a y w→Gg 89 90 c.F a aa z→
  Calls PG 33 #[Pt l 0,Ag y,aa] a fun ad e=>∃g ab,AS [h] c a g e∧Bk g e h l [.map (some m),ab,I d.2.2.1,I d.2.2.2] 83∧Slc AI g.F e ab d.2.1∧E0 33 d.1 ad (fun r v=>∃u:List Value,v=Ag u∧HS.rep g.F e u r)
def mean_run_look.Spec(f:(List AO)→Int→Int→Aq→AE→Nm→Option ((Except Int Aw)×(List AO)×Int×Int)):Prop:=
 ∀d e {a c},mean_run_look.At ([a,c].Nodup) (0∉[a,c]) d e f a c
def mean_later_1.At(G1 G2:Prop)(c:Col)(a:World)(f:(List AO)→Int→Int→Aq→AE→Nm→Option ((Except Int Aw)×(List AO)×Int×Int))(h ae:Nat):Prop:=
 ∀{l n o p q m s w y z aa ab ac d},f n p q s w aa=some d→G1→G2→Bk c a h l [.map (some m),o,I p,I q] 83→Slc AI c.F a o n→Mp c a ae m s→Ax c a y 0 z→AH.rep c.F a z w→Ax c a ab 0 [ac]→Gg 89 90 c.F a ac aa→
  Calls PG 90 #[Pt l 0,Pt y 0,Pt ab 0] a fun af e=>∃g ad,AS [h] c a g e∧Bk g e h l [.map (some m),ad,I d.2.2.1,I d.2.2.2] 83∧Slc AI g.F e ad d.2.1∧E0 33 d.1 af (fun r v=>∃u:List Value,v=Ag u∧HS.rep g.F e u r)
def mean_later_1.Spec(f:(List AO)→Int→Int→Aq→AE→Nm→Option ((Except Int Aw)×(List AO)×Int×Int)):Prop:=
 ∀d e {a c},mean_later_1.At ([a,c].Nodup) (0∉[a,c]) d e f a c
def mean_callth.Spec(f:(List AO)→Int→Int→Aq→Th→Option ((Except Int Aw)×(List AO)×Int×Int)):Prop:=
 ∀c a {m d p q s w n o y z aa e},f p s w y z=some e→[d,o].Nodup→0∉[d,o]→Bk c a d m [.map (some n),q,I s,I w] 83→Slc AI c.F a q p→Mp c a o n y→MTh 89 90 c.F a aa z→
  ∃g caps,ACo PG aa g caps∧Calls PG g ([Pt m 0]++caps:List Value).toArray a fun ac h=>∃(l:Col) (ab:Value),AS [d] c a l h∧Bk l h d m [.map (some n),ab,I e.2.2.1,I e.2.2.2] 83∧Slc AI l.F h ab e.2.1∧E0 33 e.1 ac (fun r v=>∃u:List Value,v=Ag u∧HS.rep l.F h u r)
def mean_run_parts.At(G1 G2:Prop)(c:Col)(a:World)(f:(List AO)→Int→Int→Aq→AE→Nm→Option ((Except Int Aw)×(List AO)×Int×Int))(h ac:Nat):Prop:=
 ∀{l n o p q m s w y z aa d},f n p q s w z=some d→G1→G2→Bk c a h l [.map (some m),o,I p,I q] 83→Slc AI c.F a o n→Mp c a ac m s→AH.rep c.F a y w→Gg 89 90 c.F a aa z→
  Calls PG 58 #[Pt l 0,Ag y,aa] a fun ad e=>∃g ab,AS [h] c a g e∧Bk g e h l [.map (some m),ab,I d.2.2.1,I d.2.2.2] 83∧Slc AI g.F e ab d.2.1∧E0 33 d.1 ad (fun r v=>∃u:List Value,v=Ag u∧HS.rep g.F e u r)
def mean_run_parts.Spec(f:(List AO)→Int→Int→Aq→AE→Nm→Option ((Except Int Aw)×(List AO)×Int×Int)):Prop:=
 ∀d e {a c},mean_run_parts.At ([a,c].Nodup) (0∉[a,c]) d e f a c
structure Ac.Good(a:Ac):Prop where
 mean_run_look:mean_run_look.Spec a.mean_run_look
 mean_later_1:mean_later_1.Spec a.mean_later_1
 mean_callth:mean_callth.Spec a.mean_callth
 mean_run_parts:mean_run_parts.Spec a.mean_run_parts
theorem Qe(ar:Ac)(bn:Nat)(ca:Ac.Good ar)(cb:Col)(ez:World)(y:∀b,cb b<10):mean_run_look.At True True cb ez (BI ar bn) 1 2:=by
 intro ah z ke au a1 kf av d kg aj ad bo a _ _ da ae cc e0 a2
 rw [BI] at a
 obtain ⟨a3,a4,rfl⟩:=AT ae
 obtain ⟨db,dc,rfl,bp⟩:=E1 (Ae e0)
 refine Ay Tryz.func33 Z Tryz.ntmps33 Z fun B aa e=>Sr<|Ef<|A0 cb 20 Z Z fun e1 ki cd de m=>Ef<|AY e1 21 LC Z fun bq e2 cf aw l=>AA<|Am (fun bf df=>∃ax n,bf=Env.puts ax [(0,Pt ah 0),(2,ad),(4,Pt cd 0),(6,Pt cf 0)]∧Cd ar bn z au a1 av d aj=some bo∧AS [] bq e2 n df) ?_ ?_
 refine AR<|BW Cv (qs 0 9 .nil) [] [] bq (by kernel_rfl) fun kj br=>Qx e Z (v:=Pt ah 0) (fun _ _=>Mv Z)<|Qx e Z (fun _ _=>Nc Z)<|Qx e Z (fun _ _=>Fd O4 Z)<|have cg:=Y3 da m l br;Qx e Z (fun _ ⟨_,c⟩=>Ld BC Z (Bc (Bs cg c) Z))<|Qx e Z (v:=Pt ah 0) (fun _ _=>Mv Z)<|Qx e Z (fun _ _=>Nc Z)<|Qx e Z (fun _ _=>Fd ZL Z)<|Qx e Z (fun _ ⟨_,c⟩=>Ld BC Z (Bc (Bs cg c) Z))<|Qx e Z (v:=.bool (decide (au≥a1))) (fun _ _=>Z)<|B9<|Cn a (fun e3 a=>?_) fun e3 a=>?_
 refine AL<|Vr (.iface 33 (I 60))<|Sx (.none Z) (Qw Z)<|have e4:=K3 AI ae m l br; ?_
 obtain rfl:=AK a
 refine N4 (B:=B) aa<|⟨bq,Sl a3 z a4,Ho (T2 (Mo [] m) l br) y,cg,e4,Gj⟩
 refine WC.skip<|⟨_,bq,Pu,a,(Mo [] br)⟩
 rintro _ df ⟨ax,n,rfl,a,f⟩
 rw [Cd] at a
 refine Sr<|Vm<|Vx (Nc Z)<|Vx (Fd O4 Z)<|have dg:=Y3 da m l f;Vx (Ld BC Z (Bc dg Z))<|Vr (I (Wr (au+1)))<|Vx (Nc Z)<|Vx (Fd O4 Z)<|Eu<|St Mj dg Z Z Z Z fun dh ak g=>AA<|Am (fun bf ch=>∃ax ci,bf=Env.puts ax [(0,Pt ah 0),(2,ad),(4,Pt cd 0),(6,Pt cf 0)]∧LI ar z au a1 av d aj=some bo∧AS [] n dh ci ch) ?_ ?_
 refine Sr<|Vx (Fz C8 Z)<|have bg:=Y3 de l f g;Vx (Ld Ge Z (Bc bg Z))<|AA<|Af<|Sr<|Vr (.bool (d.op==1))<|Va (.bool (d.op==1))<|AA<|Cn a (fun e5 a=>?_) fun e5 a=>?_
 refine Sr<|Vx (Fd Wy Z)<|Vx (Ld HL Z (Bc bg Z))<|Vx (v:=Ag [I 1,Cx d.num,.bool false,.slice none 0 0]) (Bp CS F7 Z (.cons Z Z Z (.cons Z Z Z .nil)))<|Vx (v:=Ag [I 1,Cx d.num,.bool false,.slice none 0 0,.nilFunc,.nilFunc]) (Bp LC Nb Z (.cons Z Z Z .nil))<|have e6:=Y2 aw f g;Eu<|St Js e6 Z Z Z Z fun kk e7 cj=>AA<|AQ ?_
 obtain rfl:=AK a
 refine O1 B aa Z (.agg KF Z Z (Bw e7))<|have e8:=Bs ak cj;have e9:=Ss AI (K4 AI ae m l f g) cj;⟨n,Sl a3 z a4,Ho (T4 (Mo [1,21] m) l f g cj) y,e8,e9,Fc ⟨[I 1,Cx d.num,.bool false,.slice none 0 0,.nilFunc,.nilFunc],Z,(Ct (x:=(Aw.mk (AF.mk 1 d.num false []) Th.nil Th.nil)) BK MTh.nil MTh.nil)⟩⟩
 refine Sr<|Vr (.bool (d.op==2))<|Va (.bool (d.op==2))<|AA<|Cn a (fun fa a=>?_) fun fa a=>?_
 refine Sr<|Vx (v:=Ag [I 2,Cx (((0,0):Nat×Nat)),.bool true,.slice none 0 0]) (Bp CS F7 Z (.cons Z Z Z (.cons Z Z Z .nil)))<|Vx (v:=Ag [I 2,Cx (((0,0):Nat×Nat)),.bool true,.slice none 0 0,.nilFunc,.nilFunc]) (Bp LC Nb Z (.cons Z Z Z .nil))<|have fb:=Y2 aw f g;Eu<|St Js fb Z Z Z Z fun kl fc ck=>AA<|AQ ?_
 obtain rfl:=AK a
 refine O1 B aa Z (.agg KF Z Z (Bw fc))<|have fd:=Bs ak ck;have fe:=Ss AI (K4 AI ae m l f g) ck;⟨n,Sl a3 z a4,Ho (T4 (Mo [1,21] m) l f g ck) y,fd,fe,Fc ⟨[I 2,Cx (((0,0):Nat×Nat)),.bool true,.slice none 0 0,.nilFunc,.nilFunc],Z,(Ct (x:=(Aw.mk (AF.mk 2 ((0,0):Nat×Nat) true []) Th.nil Th.nil)) BK MTh.nil MTh.nil)⟩⟩
 refine Sr<|Vr (.bool (d.op==3))<|Va (.bool (d.op==3))<|AA<|Cn a (fun ff a=>?_) fun ff a=>?_
 refine Sr<|Vx (v:=Ag [I 2,Cx (((0,0):Nat×Nat)),.bool false,.slice none 0 0]) (Bp CS F7 Z (.cons Z Z Z .nil))<|Vx (v:=Ag [I 2,Cx (((0,0):Nat×Nat)),.bool false,.slice none 0 0,.nilFunc,.nilFunc]) (Bp LC Nb Z (.cons Z Z Z .nil))<|have fg:=Y2 aw f g;Eu<|St Js fg Z Z Z Z fun km fh cl=>AA<|AQ ?_
 obtain rfl:=AK a
 refine O1 B aa Z (.agg KF Z Z (Bw fh))<|have fi:=Bs ak cl;have fj:=Ss AI (K4 AI ae m l f g) cl;⟨n,Sl a3 z a4,Ho (T4 (Mo [1,21] m) l f g cl) y,fi,fj,Fc ⟨[I 2,Cx (((0,0):Nat×Nat)),.bool false,.slice none 0 0,.nilFunc,.nilFunc],Z,(Ct (x:=(Aw.mk (AF.mk 2 ((0,0):Nat×Nat) false []) Th.nil Th.nil)) BK MTh.nil MTh.nil)⟩⟩
 refine Sr<|Vr (.bool (d.op==4))<|Va (.bool (d.op==4))<|AA<|Cn a (fun fk a=>?_) fun fk a=>?_
 refine Sr<|Vx (v:=Ag [I 3,Cx (((0,0):Nat×Nat)),.bool false,.slice none 0 0]) (Bp CS F7 Z (.cons Z Z Z .nil))<|Vx (v:=Ag [I 3,Cx (((0,0):Nat×Nat)),.bool false,.slice none 0 0,.nilFunc,.nilFunc]) (Bp LC Nb Z (.cons Z Z Z .nil))<|have fl:=Y2 aw f g;Eu<|St Js fl Z Z Z Z fun kn fm cm=>AA<|AQ ?_
 obtain rfl:=AK a
 refine O1 B aa Z (.agg KF Z Z (Bw fm))<|have fn:=Bs ak cm;have fo:=Ss AI (K4 AI ae m l f g) cm;⟨n,Sl a3 z a4,Ho (T4 (Mo [1,21] m) l f g cm) y,fn,fo,Fc ⟨[I 3,Cx (((0,0):Nat×Nat)),.bool false,.slice none 0 0,.nilFunc,.nilFunc],Z,(Ct (x:=(Aw.mk (AF.mk 3 ((0,0):Nat×Nat) false []) Th.nil Th.nil)) BK MTh.nil MTh.nil)⟩⟩
 refine Sr<|Vr (.bool (d.op==5))<|Va (.bool (d.op==5))<|AA<|Cn a (fun fp a=>?_) fun fp a=>?_
 refine AL<|Vr (.iface 33 (I 52))<|Sx (.none Z) (Qw Z)<|have fq:=K4 AI ae m l f g; ?_
 obtain rfl:=AK a
 refine N4 (B:=B) aa<|⟨n,Sl a3 z a4,Ho (T3 (Mo [1] m) l f g) y,ak,fq,Gj⟩
 refine Sr<|Vr (.bool (d.op==6))<|Va (.bool (d.op==6))<|AA<|Cn a (fun fr a=>?_) fun fr a=>?_
 refine Sr<|Vm<|Vx (Fd Di Z)<|Vx (Ld CG Z (Bc bg Z))<|have fs:=Me (Me (Me (Me a2 m) l) f) g;Bi a fun ko ft a=>Ca (Cg [ad,Sb d.name] Z) (QA bn n dh ft fs) ?_
 rintro _ fu ⟨fv,kp,rfl,a8,fw⟩
 refine Vm<|have fx:=Bs ak a8;have fy:=Ss AI (K4 AI ae m l f g) a8;have fz:=Ms (Ms (Ms (Ms (Ms cc m) l) f) g) a8;Bi a fun di f0 a=>?_
 obtain ⟨kq,kr,f1,f2⟩:=ca.mean_callth fv fu f0 dcd dcd fx fy fz fw
 refine Iq (.none Z) Z Z (f1 (vs:=[Pt ah 0]) Z Z)<|Calls.mono f2 ?_
 rintro _ ks ⟨dj,kt,cn,dk,co,f3⟩
 obtain ⟨dl,dm,rfl⟩:=AT co
 obtain ⟨ku,f4,rfl⟩| ⟨o,f5,kv,rfl,kw,rfl,f6⟩:=E0.split f3
 refine have a:=EA a f4; .inl ⟨_,Z,?_⟩
 obtain rfl:=AK a
 refine N4 (B:=B) aa<|⟨dj,Sl dl di.2.1 dm,Ho (Tn (T4 (Mo [1] m) l f g a8) cn) y,dk,co,Gj⟩
 refine have a:=HQ a f5; ?_
 obtain ⟨kx,bt,bu,rfl,cq,dn,dp⟩:=Dd f6
 obtain ⟨bv,bw,rfl⟩:=AT cq
 refine .inr ⟨_,Z,?_⟩
 refine have f7:=Y4 aw f g a8 cn;Eu<|Bv (vs:=[I o.plain.type_,Cx o.plain.num,.bool o.plain.bool,Sl bv o.plain.list bw,bt,bu]) (cs':=[I o.plain.type_,Cx o.plain.num,.bool o.plain.bool,Sl bv o.plain.list bw,bt,bu]) Js Z Z Z Z (AX Z (AX Z (AX Z (AX (E8 cq) (AX (MTh.one dn) (AX (MTh.one dp) CJ)))))) f7 dcd Z Z fun ky f8 a9=>AA<|AQ ?_
 obtain rfl:=AK a
 refine O1 B aa Z (.agg KF Z Z (Bw f8))<|have f9:=Ss Kd.cpx cq a9;have ga:=Mt dn a9;have gb:=Mt dp a9;have gc:=Bs dk a9;have gd:=Ss AI co a9;⟨dj,Sl dl di.2.1 dm,Ho (T2 (T4 (Mo [1,21] m) l f g a8) cn a9) y,gc,gd,Fc ⟨[I o.plain.type_,Cx o.plain.num,.bool o.plain.bool,Sl bv o.plain.list bw,bt,bu],Z,(Ct (x:=o) f9 ga gb)⟩⟩
 refine Sr<|Vr (.bool (d.op==7))<|Va (.bool (d.op==7))<|AA<|Cn a (fun ge a=>?_) fun ge a=>?_
 refine AR<|BW Cv (qs 0 13 (.one 13 (.one 14 .nil))) [14] [] n (by kernel_rfl) fun gf al=>Qx e Z (v:=Pt ah 0) (fun _ _=>Mv Z)<|Qx e Z (fun _ _=>Nc Z)<|Qx e Z (fun _ _=>Fd ZK Z)<|have cr:=Bs ak al;Qx e Z (fun _ ⟨_,c⟩=>Ld G8 Z (Bc (Bs cr c) Z))<|Qx e Z (v:=Pt ah 0) (fun _ _=>Mv Z)<|Qx e Z (fun _ _=>Nc Z)<|Qx e Z (fun _ _=>Fz S0 Z)<|Qx e Z (fun _ ⟨_,c⟩=>Ld O7 Z (Bc (Bs cr c) Z))<|Qx e Z (fun _ _=>Fd Di Z)<|have dq:=Bs bg al;Qx e Z (fun _ ⟨_,c⟩=>Ld CG Z (Bc (Bs dq c) Z))<|have dr:=Ms (Ms (Ms (Ms (Ms cc m) l) f) g) al;Qx e Z (v:=I (Cu av d.name)) (fun _ ⟨_,c⟩=>KM LQ Z Z (Ms dr c))<|Bi a fun h gg a=>have ds:=Ss AI (K4 AI ae m l f g) al; ?_
 obtain ⟨gh,gi,kz,gj,gk,gl,gm,gn,ct⟩:=A8 (κ:=AI) ds gg
 replace ct:Ax n gf gh (gi+((Cu av d.name)).toNat*11) gj:=ct
 obtain ⟨k0,k1,rfl,dt,du⟩:=Cl gn
 obtain ⟨dv,dw,rfl⟩:=AT dt
 obtain ⟨cu,cv,rfl⟩:=AT du
 refine Qx e Z (fun _ _=>Ix GI gk Z gl gm)<|Qx e Z (fun _ ⟨_,c⟩=>Lx MD Z Z (Ax.part0 (Es ct c) [Sb h.name,Sl dv h.params dw,I h.type_,I h.body.op,Sb h.body.name,Sb h.body.tail,I h.body.type_,Cx h.body.num,Sl cu h.body.args cv,I h.body.at_,I h.at_] Z))<|A1 Z<|Bb Z (.none Z) Z Z<|AY n 22 KS Z fun dx k2 go gp ac=>⟨⟨_,(Mo [] ac)⟩,?_⟩
 refine ES dcd<|WY.one<|have gq:=Ss Ab dt ac;have gr:=Ss AH du ac;BM Z (.none Z) Z<|St LB gp Z Z Z Z fun gs dy af=>WY.nil<|Sr<|Va (.pointer none)<|AA<|AR<|Sr<|Vx (Fd EY Z)<|Vx (Ld Ey Z (Bc dy Z))<|have dz:=Ss Ab gq af; ?_
 obtain ⟨k3,k4,gt⟩:=AT dz
 refine Vx (v:=I (h.params.length:Int)) (Ll D9 gt)<|Vm<|AA<|Af<|Bg (fun ay bf bh=>∃ax ba bi a5 ag,bf=Env.puts ax [(0,Pt ah 0),(2,ad),(4,Pt cd 0),(6,Pt cf 0),(7,Pt go 0),(8,a5),(75,Sl dv h.params dw),(76,I (h.params.length:Int)),(77,I ag)]∧GU ar z au a1 av d aj h ay bi ag=some bo∧AS [23,24,25,26] dx gs ba bh∧Gg 89 90 ba.F bh a5 bi) bn ?_ ?_
 exact ⟨_,dx,Nm.nil,.pointer none,0,Pu,a,(AS.refl [23,24,25,26] _ _),Gg.nil⟩
 rintro ay _ bh ⟨ax,ba,bi,a5,ag,rfl,a,ab,cw⟩
 rcases ay with _|ay
 exact A5 a
 refine have a:Jb ar z au a1 av d aj h (GU ar z au a1 av d aj h ay) bi ag=some bo:=a; ?_
 obtain ⟨k5,d0⟩:∃s,s=GU ar z au a1 av d aj h ay:=⟨_,rfl⟩
 rw [←d0,Jb] at a
 refine Sr<|Vr (.bool (decide (ag< (h.params.length:Int))))<|AA<|AR<|Cn a (fun gu a=>?_) fun gu a=>?_
 refine WC.skip<|AR<|Af<|Sr<|Vm<|Bi a fun bb gv a=>have gw:=Ss Ab dz ab; ?_
 obtain ⟨gx,gy,k6,gz,g0,g1,g2,g3,cx⟩:=A8 (κ:=Ab) gw gv
 replace cx:Ax ba bh gx (gy+ag.toNat*3) gz:=cx
 obtain rfl:=Ez g3
 refine Vx (Ix D9 g0 Z g1 g2)<|Vx (Lx Xd Z Z (Ax.part0 cx [Sb bb.name,I bb.type_,I bb.at_] Z))<|Ef<|AY ba 23 MG Z fun cy k7 k8 g4 bj=>Va (I ag)<|Eu<|St Xg g4 Z Z Z Z fun k9 g5 bk=>AA<|BW Cv (qs 0 8 (.q 9 (.one 8 (.q 10 (.one 11 (.q 12 .nil)))))) [] [24,25] cy (by kernel_rfl) fun d1 bc=>Qx e Z (fun _ _=>Fz Lh Z)<|have g6:=Bs g5 bc;Qx e Z (fun _ ⟨_,c⟩=>Ld CG Z (Bc (Bs g6 c) Z))<|Qx e Z (fun _ _=>Fd BS Z)<|have g7:=Y2 (Y4 dq ac af ab bj) bk bc;Qx e Z (fun _ ⟨_,c⟩=>Ld Cf Z (Bc (Bs g7 c) Z))<|Qx e Z (v:=I ag) (fun _ _=>Mv Z)<|Bi a fun r g8 a=>have g9:=K3 AH (K4 AH (K4 AH bp m l f g) al ac af ab) bj bk bc; ?_
 obtain ⟨ha,hb,la,hc,hd,he,hf,hg,cz⟩:=A8 (κ:=AH) g9 g8
 replace cz:Ax cy d1 ha (hb+ag.toNat*7) hc:=cz
 obtain ⟨d3,d4,rfl,d2⟩:=E1 (Ae hg)
 refine Qx e Z (fun _ _=>Ix CH hd Z he hf)<|Qx e Z (fun _ ⟨_,c⟩=>Lx A9 Z Z (Ax.part0 (Es cz c) [I r.op,Sb r.name,Sb r.tail,I r.type_,Cx r.num,Sl d3 r.args d4,I r.at_] Z))<|Qx e Z (v:=ad) (fun _ _=>Mv Z)<|Qx e Z (v:=a5) (fun _ _=>Mv Z)<|A1 Z<|Bi a fun am hh a=>A3 Z (.none Z) Z Z (Cg [Ag [I r.op,Sb r.name,Sb r.tail,I r.type_,Cx r.num,Sl d3 r.args d4,I r.at_],ad] Z)<|Calls.mono (Ma cy d1 (kn0:=24) (kn1:=25) hh dcd dcd (AW (x:=r) d2) (Gg.one a2)) ?_
 rintro _ lc ⟨hi,d5,d6,ld,rfl,bl,hj,hk,hl⟩
 obtain ⟨hm,hn,rfl,d7⟩:=E1 (Ae hk)
 refine ⟨_,Z,⟨_,(Mo [24,25] bl)⟩,?_⟩
 refine Qx e Z (v:=Ag [Sb bb.name,.func (.func 90) #[] [Pt d5 0,Pt d6 0].toArray,a5]) (fun _ _=>B3 (cs:=[Sb bb.name,.func (.func 90) #[] [Pt d5 0,Pt d6 0].toArray,a5]) [Sb ([]:Bts),.nilFunc,.pointer none] Q5 Q4 Z (.cons Z Z Z (.cons Z Z Z (.cons Z (Dk (Gg.one cw)) Z .nil))) Z Z)<|A1 Z<|Bb Z (.none Z) Z Z<|A0 hi 26 Z Z fun lf lg d8 ho a6=>⟨⟨_,(Tn (Mo [24,25] bl) a6)⟩,?_⟩
 refine Qx e Z (v:=Pt d8 0) (fun _ _=>Run.assign Z)<|B9<|AL<|Vr (I (Wr (ag+1)))<|Vm<|AA<|have hp:=Ss AH d7 a6;have hq:=Bs hj a6;have hr:=Bs hl a6;have hs:=Me (Me (Me (Me (Me (Me (Me (Me (Me (Me (Me (Me (Me a2 m) l) f) g) al) ac) af) ab) bj) bk) bc) bl) a6; ?_
 obtain ⟨lh,c0,ht⟩:=MTh.layLater (D:=89) (ce:=[I am.op,Sb am.name,Sb am.tail,I am.type_,Cx am.num,Sl hm am.args hn,I am.at_]) hq hr dcd (AW (x:=am) hp) hs
 refine have hu:=Bs ho c0;have hw:=Me (Me (Me (Me (Me (Me cw bj) bk) bc) bl) a6) c0; ?_
 obtain ⟨hx,hy,hz⟩:=Gg.lay hu dcd ht hw
 exact ⟨ay,Nat.lt_succ_self ay,_,hx,(Nm.bind bb.name (Th.later am aj) bi),Pt d8 0,(Wr (ag+1)),Pu,(d0▸a),(T3 (T4 (Mo [23,24,25,26] ab) bj bk bc bl) a6 c0 hy),hz⟩
 refine Ba<|Sr<|Vm<|Vx (Fd ME Z)<|have h0:=Bs dy ab;Vx (Lx A9 Z Z (Bk.part h0 3 [I h.body.op,Sb h.body.name,Sb h.body.tail,I h.body.type_,Cx h.body.num,Sl cu h.body.args cv,I h.body.at_] Z))<|Vm<|have h1:=Y3 cr ac af ab;have h2:=K3 AI ds ac af ab;have h3:=Ms (Ms (Ms dr ac) af) ab;have h4:=K2 AH gr af ab;Bi a fun d9 h5 a=>Iq (.none Z) Z Z (Cg [Pt ah 0,Ag [I h.body.op,Sb h.body.name,Sb h.body.tail,I h.body.type_,Cx h.body.num,Sl cu h.body.args cv,I h.body.at_],a5] Z)<|Calls.mono (ca.mean_run_look ba bh h5 dcd dcd h1 h2 h3 (AW (x:=(AE.mk h.body.op h.body.name h.body.tail h.body.type_ h.body.num h.body.args h.body.at_)) h4) cw) ?_
 rintro _ li ⟨ea,lj,c1,eb,c2,h6⟩
 obtain ⟨ec,ed,rfl⟩:=AT c2
 obtain ⟨lk,h7,rfl⟩| ⟨p,h8,ll,rfl,lm,rfl,h9⟩:=E0.split h6
 refine have a:=EA a h7; .inl ⟨_,Z,?_⟩
 obtain rfl:=AK a
 refine N4 (B:=B) aa<|⟨ea,Sl ec d9.2.1 ed,Ho (T4 (T4 (Mo [1,22,23,24,25,26] m) l f g al) ac af ab c1) y,eb,c2,Gj⟩
 refine have a:=HQ a h8; ?_
 obtain ⟨ln,bx,bz,rfl,c3,ee,ef⟩:=Dd h9
 obtain ⟨b0,b1,rfl⟩:=AT c3
 refine .inr ⟨_,Z,?_⟩
 refine have ia:=Y3 (Y4 aw f g al ac) af ab c1;Eu<|Bv (vs:=[I p.plain.type_,Cx p.plain.num,.bool p.plain.bool,Sl b0 p.plain.list b1,bx,bz]) (cs':=[I p.plain.type_,Cx p.plain.num,.bool p.plain.bool,Sl b0 p.plain.list b1,bx,bz]) Js Z Z Z Z (AX Z (AX Z (AX Z (AX (E8 c3) (AX (MTh.one ee) (AX (MTh.one ef) CJ)))))) ia dcd Z Z fun lo ib bd=>AA<|AQ ?_
 obtain rfl:=AK a
 refine O1 B aa Z (.agg KF Z Z (Bw ib))<|have ic:=Ss Kd.cpx c3 bd;have id:=Mt ee bd;have ie:=Mt ef bd;have ig:=Bs eb bd;have ih:=Ss AI c2 bd;⟨ea,Sl ec d9.2.1 ed,Ho (Tn (T4 (T4 (Mo [1,21,22,23,24,25,26] m) l f g al) ac af ab c1) bd) y,ig,ih,Fc ⟨[I p.plain.type_,Cx p.plain.num,.bool p.plain.bool,Sl b0 p.plain.list b1,bx,bz],Z,(Ct (x:=p) ic id ie)⟩⟩
 refine Sr<|Vr (.bool (d.op==18))<|Va (.bool (d.op==18))<|AA<|Cn a (fun ii a=>?_) fun ii a=>?_
 refine AR<|BW Cv (qs 0 5 (qs 6 5 (.one 5 (.one 11 (.q 12 (.one 13 .nil)))))) [13] [27,28,29,30] n (by kernel_rfl) fun c4 a7=>Qx e Z (fun _ _=>Fd BS Z)<|have eg:=Bs bg a7;Qx e Z (fun _ ⟨_,c⟩=>Ld Cf Z (Bc (Bs eg c) Z))<|Bi a fun u ij a=>have eh:=Ss AH (K4 AH bp m l f g) a7; ?_
 obtain ⟨ik,il,lp,im,io,ip,iq,ir,c5⟩:=A8 (κ:=AH) eh ij
 replace c5:Ax n c4 ik (il+(0:Int).toNat*7) im:=c5
 obtain ⟨ej,ek,rfl,ei⟩:=E1 (Ae ir)
 refine Qx e Z (fun _ _=>Ix CH io Z ip iq)<|Qx e Z (fun _ ⟨_,c⟩=>Lx A9 Z Z (Ax.part0 (Es c5 c) [I u.op,Sb u.name,Sb u.tail,I u.type_,Cx u.num,Sl ej u.args ek,I u.at_] Z))<|Qx e Z (v:=ad) (fun _ _=>Mv Z)<|Qx e Z (fun _ _=>Fd BS Z)<|Qx e Z (fun _ ⟨_,c⟩=>Ld Cf Z (Bc (Bs eg c) Z))<|Bi a fun w it a=>?_
 obtain ⟨iu,iv,lr,iw,ix,iy,iz,i0,c6⟩:=A8 (κ:=AH) eh it
 replace c6:Ax n c4 iu (iv+(1:Int).toNat*7) iw:=c6
 obtain ⟨em,en,rfl,el⟩:=E1 (Ae i0)
 refine Qx e Z (fun _ _=>Ix CH ix Z iy iz)<|Qx e Z (fun _ ⟨_,c⟩=>Lx A9 Z Z (Ax.part0 (Es c6 c) [I w.op,Sb w.name,Sb w.tail,I w.type_,Cx w.num,Sl em w.args en,I w.at_] Z))<|Qx e Z (v:=ad) (fun _ _=>Mv Z)<|A1 Z<|Bi a fun an i1 a=>A3 Z (.none Z) Z Z (Cg [Ag [I u.op,Sb u.name,Sb u.tail,I u.type_,Cx u.num,Sl ej u.args ek,I u.at_],ad] Z)<|Calls.mono (Ma n c4 (kn0:=27) (kn1:=28) i1 dcd dcd (AW (x:=u) ei) (Gg.one a2)) ?_
 rintro _ i2 ⟨i3,b2,b3,lt,rfl,az,i4,i5,i6⟩
 obtain ⟨i7,i8,rfl,eo⟩:=E1 (Ae i5)
 refine ⟨_,Z,⟨_,(Mo [27,28,29,30] az)⟩,?_⟩
 refine A1 Z<|have i9:=Ss AH el az;Bi a fun ao ja a=>A3 Z (.none Z) Z Z (Cg [Ag [I w.op,Sb w.name,Sb w.tail,I w.type_,Cx w.num,Sl em w.args en,I w.at_],ad] Z)<|Calls.mono (Ma i3 i2 (kn0:=29) (kn1:=30) ja dcd dcd (AW (x:=w) i9) (Gg.one a2)) ?_
 rintro _ lv ⟨lw,b4,b5,lx,rfl,ap,jb,jc,jd⟩
 obtain ⟨je,jf,rfl,ep⟩:=E1 (Ae jc)
 refine ⟨_,Z,⟨_,(Tn (Mo [27,28,29,30] az) ap)⟩,?_⟩
 refine Qx e Z (v:=Ag [I 0,Cx (((0,0):Nat×Nat)),.bool false,.slice none 0 0,.func (.func 90) #[] [Pt b2 0,Pt b3 0].toArray,.func (.func 90) #[] [Pt b4 0,Pt b5 0].toArray]) (fun _ _=>B3 (cs:=[I 0,Cx (((0,0):Nat×Nat)),.bool false,.slice none 0 0,.func (.func 90) #[] [Pt b2 0,Pt b3 0].toArray,.func (.func 90) #[] [Pt b4 0,Pt b5 0].toArray]) [I 0,Cx (((0,0):Nat×Nat)),.bool false,.slice none 0 0,.nilFunc,.nilFunc] LC Nb Z (.cons Z Z Z (.cons Z Z Z .nil)) Z Z)<|ES dcd<|WY.one<|have jg:=Bs (Y4 aw f g a7 az) ap;BM Z (.none Z) Z<|St Js jg Z Z Z Z fun lz jh ai=>WY.nil<|AQ<|have ji:=K2 AH eo ap ai;have jj:=Y2 i4 ap ai;have jk:=Y2 i6 ap ai;have eq:=Me (Me (Me (Me (Me (Me (Me (Me a2 m) l) f) g) a7) az) ap) ai; ?_
 obtain ⟨l0,a0,jl⟩:=MTh.layLater (D:=89) (ce:=[I an.op,Sb an.name,Sb an.tail,I an.type_,Cx an.num,Sl i7 an.args i8,I an.at_]) jj jk dcd (AW (x:=an) ji) eq
 refine have jm:=K2 AH ep ai a0;have jn:=Y2 jb ai a0;have jo:=Y2 jd ai a0;have jp:=Me eq a0; ?_
 obtain ⟨jq,bm,jr⟩:=MTh.layLater (D:=89) (ce:=[I ao.op,Sb ao.name,Sb ao.tail,I ao.type_,Cx ao.num,Sl je ao.args jf,I ao.at_]) jn jo dcd (AW (x:=ao) jm) jp
 obtain rfl:=AK a
 refine have js:=Y2 jh a0 bm;O1 B aa Z (.agg KF Z Z (Bw js))<|have jt:=Mt jl bm;have ju:=Y2 (Y4 ak a7 az ap ai) a0 bm;have jv:=K2 AI (K4 AI (K4 AI ae m l f g) a7 az ap ai) a0 bm;⟨jq,Sl a3 z a4,Ho (Tn (T4 (T4 (Mo [1,21,27,28,29,30] m) l f g a7) az ap ai a0) bm) y,ju,jv,Fc ⟨[I 0,Cx (((0,0):Nat×Nat)),.bool false,.slice none 0 0,.func (.func 90) #[] [Pt b2 0,Pt b3 0].toArray,.func (.func 90) #[] [Pt b4 0,Pt b5 0].toArray],Z,(Ct (x:=(Aw.mk (AF.mk 0 ((0,0):Nat×Nat) false []) (Th.later an aj) (Th.later ao aj))) BK jt jr)⟩⟩
 refine WC.skip<|⟨_,n,Pu,a,Rf⟩
 rintro _ ch ⟨ax,ci,rfl,a,aq⟩
 rw [LI] at a
 refine Sr<|Vm<|have jw:=Y4 de l f g aq;Vx (Lx A9 Z Z (Bw jw))<|Vm<|have jx:=Bs ak aq;have jy:=Ss AI (K4 AI ae m l f g) aq;have jz:=Ms (Ms (Ms (Ms (Ms cc m) l) f) g) aq;have j0:=Ss AH (K4 AH bp m l f g) aq;have j1:=Me (Me (Me (Me (Me a2 m) l) f) g) aq;Bi a fun er j2 a=>Iq (.none Z) Z Z (Cg [Pt ah 0,Ag [I d.op,Sb d.name,Sb d.tail,I d.type_,Cx d.num,Sl db d.args dc,I d.at_],ad] Z)<|Calls.mono (ca.mean_run_parts ci ch j2 dcd dcd jx jy jz (AW (x:=d) j0) j1) ?_
 rintro _ l1 ⟨es,l2,c7,et,c8,j3⟩
 obtain ⟨eu,ew,rfl⟩:=AT c8
 obtain ⟨l3,j4,rfl⟩| ⟨q,j5,l4,rfl,l5,rfl,j6⟩:=E0.split j3
 refine have a:=EA a j4; .inl ⟨_,Z,?_⟩
 obtain rfl:=AK a
 refine N4 (B:=B) aa<|⟨es,Sl eu er.2.1 ew,Ho (Tn (T4 (Mo [1] m) l f g aq) c7) y,et,c8,Gj⟩
 refine have a:=HQ a j5; ?_
 obtain ⟨l6,b6,b7,rfl,c9,ex,ey⟩:=Dd j6
 obtain ⟨b8,b9,rfl⟩:=AT c9
 refine .inr ⟨_,Z,?_⟩
 refine have j7:=Y4 aw f g aq c7;Eu<|Bv (vs:=[I q.plain.type_,Cx q.plain.num,.bool q.plain.bool,Sl b8 q.plain.list b9,b6,b7]) (cs':=[I q.plain.type_,Cx q.plain.num,.bool q.plain.bool,Sl b8 q.plain.list b9,b6,b7]) Js Z Z Z Z (AX Z (AX Z (AX Z (AX (E8 c9) (AX (MTh.one ex) (AX (MTh.one ey) CJ)))))) j7 dcd Z Z fun l7 j8 be=>AA<|AQ ?_
 obtain rfl:=AK a
 refine O1 B aa Z (.agg KF Z Z (Bw j8))<|have j9:=Ss Kd.cpx c9 be;have ka:=Mt ex be;have kb:=Mt ey be;have kc:=Bs et be;have kd:=Ss AI c8 be;⟨es,Sl eu er.2.1 ew,Ho (T2 (T4 (Mo [1,21] m) l f g aq) c7 be) y,kc,kd,Fc ⟨[I q.plain.type_,Cx q.plain.num,.bool q.plain.bool,Sl b8 q.plain.list b9,b6,b7],Z,(Ct (x:=q) j9 ka kb)⟩⟩
theorem Qf(d:Ac)(f:Nat)(m:Ac.Good d):mean_run_look.Spec (BI d f):=by
 intro e g a c ac ad ae af ag ah ai aj ak al am an n hnd hnz l o p q s
 refine Calls.mono (Qe d f m (recol (see [a,c]) e) g (Fa (Nat.le_of_ble_eq_true Z) e) n trivial trivial (BU l [a,c] (BP hnd hnz (i:=0) Z)) (Eo AI o [a,c]) (Fs p [a,c] (BP hnd hnz (i:=1) Z)) (BY AH q [a,c]) (Gg.recol s [a,c])) ?_
 rintro ao ap ⟨w,y,z,aa,ab,en⟩
 exact ⟨glue [a,c] g e w,y,CA z (Fb Z Z),ED l aa dcd,HO AI ab,Pc en fun r v ⟨u,hv,h⟩=>⟨u,hv,Dm HS h⟩⟩
theorem RE(p:Ac)(ag:Nat)(ah:Ac.Good p)(l:Col)(ai:World)(q:∀b,l b<10):mean_later_1.At True True l ai (L6 p ag) 1 2:=by
 intro aj bf bg bh bi bj bk c bl bm bn bo ak bp d _ _ al r am an ao ap aq
 rw [L6] at d
 obtain ⟨bq,br,rfl⟩:=AT r
 obtain ⟨u,w,rfl,s⟩:=E1 (Ae ao)
 refine Ay Tryz.func90 Z Tryz.ntmps90 Z fun B y bu=>Sr<|Ef<|AY l 20 LC Z fun ar au bv av e=>AA<|Sr<|Vm<|have aw:=Es an e;Vx (Lx A9 Z Z (Ax.part0 aw [I c.op,Sb c.name,Sb c.tail,I c.type_,Cx c.num,Sl u c.args w,I c.at_] Z))<|have ax:=Es ap e;Vx (Ld ZS Z (Ax.cell0 ax Z))<|have ay:=Bs al e;have az:=Ss AI r e;have a0:=Ms am e;have a1:=Ss AH s e;have a2:=Me aq e;Bi d fun z a3 d=>Iq (.none Z) Z Z (Cg [Pt aj 0,Ag [I c.op,Sb c.name,Sb c.tail,I c.type_,Cx c.num,Sl u c.args w,I c.at_],ak] Z)<|Calls.mono (ah.mean_run_look ar au a3 dcd dcd ay az a0 (AW (x:=c) a1) a2) ?_
 rintro _ bw ⟨aa,bx,m,ab,n,a4⟩
 obtain ⟨ac,ad,rfl⟩:=AT n
 obtain ⟨bz,a5,rfl⟩| ⟨a,a6,b0,rfl,b1,rfl,a7⟩:=E0.split a4
 refine have d:=EA d a5; .inl ⟨_,Z,?_⟩
 obtain rfl:=AK d
 refine N4 (B:=B) y<|⟨aa,Sl ac z.2.1 ad,Ho (Tn (Mo [1] e) m) q,ab,n,Gj⟩
 refine have d:=HQ d a6; ?_
 obtain ⟨b2,s52,s54,rfl,o,ae,af⟩:=Dd a7
 obtain ⟨g,h,rfl⟩:=AT o
 refine .inr ⟨_,Z,?_⟩
 refine have a8:=Bs av m;Eu<|Bv (vs:=[I a.plain.type_,Cx a.plain.num,.bool a.plain.bool,Sl g a.plain.list h,s52,s54]) (cs':=[I a.plain.type_,Cx a.plain.num,.bool a.plain.bool,Sl g a.plain.list h,s52,s54]) Js Z Z Z Z (AX Z (AX Z (AX Z (AX (E8 o) (AX (MTh.one ae) (AX (MTh.one af) CJ)))))) a8 dcd Z Z fun b3 a9 f=>AA<|AQ ?_
 obtain rfl:=AK d
 refine O1 B y Z (.agg KF Z Z (Bw a9))<|have ba:=Ss Kd.cpx o f;have bb:=Mt ae f;have bc:=Mt af f;have bd:=Bs ab f;have be:=Ss AI n f;⟨aa,Sl ac z.2.1 ad,Ho (T2 (Mo [1,20] e) m f) q,bd,be,Fc ⟨[I a.plain.type_,Cx a.plain.num,.bool a.plain.bool,Sl g a.plain.list h,s52,s54],Z,(Ct (x:=a) ba bb bc)⟩⟩
theorem RF(d:Ac)(f:Nat)(m:Ac.Good d):mean_later_1.Spec (L6 d f):=by
 intro e g a c ae af ag ah ai aj ak al am an ao ap aq ar n hnd hnz l o p q s w y
 refine Calls.mono (RE d f m (recol (see [a,c]) e) g (Fa (Nat.le_of_ble_eq_true Z) e) n trivial trivial (BU l [a,c] (BP hnd hnz (i:=0) Z)) (Eo AI o [a,c]) (Fs p [a,c] (BP hnd hnz (i:=1) Z)) (P6 q [a,c]) (BY AH s [a,c]) (P6 w [a,c]) (Gg.recol y [a,c])) ?_
 rintro au av ⟨z,aa,ab,ac,ad,en⟩
 exact ⟨glue [a,c] g e z,aa,CA ab (Fb Z Z),ED l ac dcd,HO AI ad,Pc en fun r v ⟨u,hv,h⟩=>⟨u,hv,Dm HS h⟩⟩
theorem SB(f:Ac)(l:Nat)(m:Ac.Good f):mean_callth.Spec (LZ f l):=by
 intro c d n af ag o ah ai aj ak al am an ao a hnd hnz g h p q
 cases q with
 |nil=>rw [LZ] at a;exact A5 a
 |done hF hlt hat hp hh ht=>
 rw [LZ] at a
 refine Bi a fun r hr a=>?_
 obtain rfl:=AK a
 obtain ⟨ap,rfl,s⟩:=Az hp
 refine ⟨89,_,fun hx hv=>ABi (caps:=[Pt _ 0]) hx hv,?_⟩
 refine Calls.mono (TR c d hr ⟨hF,hlt,hat⟩ (show HS.rep c.F d _ _ from ⟨_,_,_,Z,s,hh,ht⟩) (v0:=Pt n 0) Z) ?_
 rintro _ aq ⟨u,ar,rfl,e,hu⟩
 exact ⟨u,o,AS.mono e (by simp),(Bk.step g e (by simp)),(WV AI h e (by simp)),Fc ⟨_,Z,hu⟩⟩
 |later w y z aa ab ac ad ae=>
 refine ⟨90,_,fun hx hv=>ABj (caps:=[Pt _ 0,Pt _ 0]) hx hv,?_⟩
 rw [LZ] at a
 exact m.mean_later_1 c d a hnd hnz g h p ⟨w,y,ab⟩ ac ⟨z,aa,ad⟩ ae
theorem QC(bv:Ac)(bm:Nat)(a3:Ac.Good bv)(dv:Col)(ir:World)(p:∀b,dv b<10):mean_run_parts.At True True dv ir (A7 bv bm) 1 2:=by
 intro ao it sn iu iv iw cl h so cm ap dw a _ _ b7 bw b8 ix bx
 rw [A7] at a
 obtain ⟨iy,iz,rfl⟩:=AT bw
 obtain ⟨i0,i1,rfl,bz⟩:=E1 (Ae ix)
 refine Ay Tryz.func58 Z Tryz.ntmps58 Z fun B q m=>Sr<|Ef<|A0 dv 20 Z Z fun i2 sq i3 i4 d=>Ef<|AY i2 21 LC Z fun a6 bn fi bo c=>AA<|AR<|Sr<|Vx (Fz C8 Z)<|have aq:=Bs i4 c;Vx (Ld Ge Z (Bc aq Z))<|AA<|Af<|Sr<|Vr (.bool (h.op==19))<|Va (.bool (h.op==19))<|AA<|Cn a (fun i5 a=>?_) fun i5 a=>?_
 refine AR<|Sr<|Vm<|Vx (Fd BS Z)<|Vx (Ld Cf Z (Bc aq Z))<|Bi a fun ac i6 a=>have dx:=K2 AH bz d c; ?_
 obtain ⟨i7,i8,sr,i9,ja,jb,jc,jd,dy⟩:=A8 (κ:=AH) dx i6
 replace dy:Ax a6 bn i7 (i8+(0:Int).toNat*7) i9:=dy
 obtain ⟨fk,fl,rfl,fj⟩:=E1 (Ae jd)
 refine Vx (Ix CH ja Z jb jc)<|Vx (Lx A9 Z Z (Ax.part0 dy [I ac.op,Sb ac.name,Sb ac.tail,I ac.type_,Cx ac.num,Sl fk ac.args fl,I ac.at_] Z))<|Vm<|have je:=Y2 b7 d c;have jf:=K2 AI bw d c;have dz:=Ms (Ms b8 d) c;have d0:=Me (Me bx d) c;Bi a fun jg jh a=>Iq (.none Z) Z Z (Cg [Pt ao 0,Ag [I ac.op,Sb ac.name,Sb ac.tail,I ac.type_,Cx ac.num,Sl fk ac.args fl,I ac.at_],ap] Z)<|Calls.mono (a3.mean_run_look a6 bn jh dcd dcd je jf dz (AW (x:=ac) fj) d0) ?_
 rintro _ cn ⟨b9,st,ad,d1,co,ji⟩
 obtain ⟨jj,jk,rfl⟩:=AT co
 obtain ⟨su,jl,rfl⟩| ⟨ar,jm,sv,rfl,sw,rfl,jn⟩:=E0.split ji
 refine have a:=EA a jl; .inl ⟨_,Z,?_⟩
 obtain rfl:=AK a
 refine N4 (B:=B) q<|⟨b9,Sl jj jg.2.1 jk,Ho (T2 (Mo [1] d) c ad) p,d1,co,Gj⟩
 refine have a:=HQ a jm; ?_
 obtain ⟨sx,jo,jp,rfl,jq,sy,sz⟩:=Dd jn
 obtain ⟨d2,d3,rfl⟩:=AT jq
 refine .inr ⟨_,Z,?_⟩
 refine Vx (v:=Ag [I ar.plain.type_,Cx ar.plain.num,.bool ar.plain.bool,Sl d2 ar.plain.list d3]) (P4 (cs:=[I ar.plain.type_,Cx ar.plain.num,.bool ar.plain.bool,Sl d2 ar.plain.list d3,jo,jp]) S5 Z)<|Vx (v:=.bool ar.plain.bool) (Kr (cs:=[I ar.plain.type_,Cx ar.plain.num,.bool ar.plain.bool,Sl d2 ar.plain.list d3]) ZQ Z Z)<|AA<|Cn a (fun jr a=>?_) fun jr a=>?_
 refine Sr<|Vm<|Vx (Fd BS Z)<|have js:=Bs aq ad;Vx (Ld Cf Z (Bc js Z))<|Bi a fun ae jt a=>have ju:=Ss AH dx ad; ?_
 obtain ⟨jv,o90,s0,jw,jx,jy,jz,j0,d4⟩:=A8 (κ:=AH) ju jt
 replace d4:Ax b9 cn jv (o90+(1:Int).toNat*7) jw:=d4
 obtain ⟨fn,fo,rfl,fm⟩:=E1 (Ae j0)
 refine Vx (Ix CH jx Z jy jz)<|Vx (Lx A9 Z Z (Ax.part0 d4 [I ae.op,Sb ae.name,Sb ae.tail,I ae.type_,Cx ae.num,Sl fn ae.args fo,I ae.at_] Z))<|Vm<|have j1:=Ms dz ad;have j2:=Me d0 ad;Bi a fun fp j3 a=>Iq (.none Z) Z Z (Cg [Pt ao 0,Ag [I ae.op,Sb ae.name,Sb ae.tail,I ae.type_,Cx ae.num,Sl fn ae.args fo,I ae.at_],ap] Z)<|Calls.mono (a3.mean_run_look b9 cn j3 dcd dcd d1 co j1 (AW (x:=ae) fm) j2) ?_
 rintro _ s2 ⟨fq,s3,d5,fr,d6,j4⟩
 obtain ⟨fs,ft,rfl⟩:=AT d6
 obtain ⟨s4,j5,rfl⟩| ⟨r,j6,s5,rfl,s6,rfl,j7⟩:=E0.split j4
 refine have a:=EA a j5; .inl ⟨_,Z,?_⟩
 obtain rfl:=AK a
 refine N4 (B:=B) q<|⟨fq,Sl fs fp.2.1 ft,Ho (T3 (Mo [1] d) c ad d5) p,fr,d6,Gj⟩
 refine have a:=HQ a j6; ?_
 obtain ⟨s7,cq,cr,rfl,d7,fu,fv⟩:=Dd j7
 obtain ⟨ct,cu,rfl⟩:=AT d7
 refine .inr ⟨_,Z,?_⟩
 refine have j8:=Y2 bo ad d5;Eu<|Bv (vs:=[I r.plain.type_,Cx r.plain.num,.bool r.plain.bool,Sl ct r.plain.list cu,cq,cr]) (cs':=[I r.plain.type_,Cx r.plain.num,.bool r.plain.bool,Sl ct r.plain.list cu,cq,cr]) Js Z Z Z Z (AX Z (AX Z (AX Z (AX (E8 d7) (AX (MTh.one fu) (AX (MTh.one fv) CJ)))))) j8 dcd Z Z fun s8 j9 b0=>AA<|AQ ?_
 obtain rfl:=AK a
 refine O1 B q Z (.agg KF Z Z (Bw j9))<|have ka:=Ss Kd.cpx d7 b0;have kb:=Mt fu b0;have kc:=Mt fv b0;have kd:=Bs fr b0;have ke:=Ss AI d6 b0;⟨fq,Sl fs fp.2.1 ft,Ho (T4 (Mo [1,21] d) c ad d5 b0) p,kd,ke,Fc ⟨[I r.plain.type_,Cx r.plain.num,.bool r.plain.bool,Sl ct r.plain.list cu,cq,cr],Z,(Ct (x:=r) ka kb kc)⟩⟩
 refine WC.skip<|Sr<|Vm<|Vx (Fd BS Z)<|have kf:=Bs aq ad;Vx (Ld Cf Z (Bc kf Z))<|Bi a fun af kg a=>have kh:=Ss AH dx ad; ?_
 obtain ⟨ki,kj,s9,kk,kl,km,kn,ko,d8⟩:=A8 (κ:=AH) kh kg
 replace d8:Ax b9 cn ki (kj+(2:Int).toNat*7) kk:=d8
 obtain ⟨fx,fy,rfl,fw⟩:=E1 (Ae ko)
 refine Vx (Ix CH kl Z km kn)<|Vx (Lx A9 Z Z (Ax.part0 d8 [I af.op,Sb af.name,Sb af.tail,I af.type_,Cx af.num,Sl fx af.args fy,I af.at_] Z))<|Vm<|have kp:=Ms dz ad;have kq:=Me d0 ad;Bi a fun fz kr a=>Iq (.none Z) Z Z (Cg [Pt ao 0,Ag [I af.op,Sb af.name,Sb af.tail,I af.type_,Cx af.num,Sl fx af.args fy,I af.at_],ap] Z)<|Calls.mono (a3.mean_run_look b9 cn kr dcd dcd d1 co kp (AW (x:=af) fw) kq) ?_
 rintro _ tb ⟨f0,tc,d9,f1,ea,ks⟩
 obtain ⟨f2,f3,rfl⟩:=AT ea
 obtain ⟨td,kt,rfl⟩| ⟨u,ku,te,rfl,tf,rfl,kv⟩:=E0.split ks
 refine have a:=EA a kt; .inl ⟨_,Z,?_⟩
 obtain rfl:=AK a
 refine N4 (B:=B) q<|⟨f0,Sl f2 fz.2.1 f3,Ho (T3 (Mo [1] d) c ad d9) p,f1,ea,Gj⟩
 refine have a:=HQ a ku; ?_
 obtain ⟨tg,cv,cw,rfl,eb,f4,f5⟩:=Dd kv
 obtain ⟨cx,cy,rfl⟩:=AT eb
 refine .inr ⟨_,Z,?_⟩
 refine have kw:=Y2 bo ad d9;Eu<|Bv (vs:=[I u.plain.type_,Cx u.plain.num,.bool u.plain.bool,Sl cx u.plain.list cy,cv,cw]) (cs':=[I u.plain.type_,Cx u.plain.num,.bool u.plain.bool,Sl cx u.plain.list cy,cv,cw]) Js Z Z Z Z (AX Z (AX Z (AX Z (AX (E8 eb) (AX (MTh.one f4) (AX (MTh.one f5) CJ)))))) kw dcd Z Z fun th kx b1=>AA<|AQ ?_
 obtain rfl:=AK a
 refine O1 B q Z (.agg KF Z Z (Bw kx))<|have ky:=Ss Kd.cpx eb b1;have kz:=Mt f4 b1;have k0:=Mt f5 b1;have k1:=Bs f1 b1;have k2:=Ss AI ea b1;⟨f0,Sl f2 fz.2.1 f3,Ho (T4 (Mo [1,21] d) c ad d9 b1) p,k1,k2,Fc ⟨[I u.plain.type_,Cx u.plain.num,.bool u.plain.bool,Sl cx u.plain.list cy,cv,cw],Z,(Ct (x:=u) ky kz k0)⟩⟩
 refine Sr<|Vr (.bool (h.op==20))<|Va (.bool (h.op==20))<|AA<|Cn a (fun k3 a=>?_) fun k3 a=>?_
 refine Sr<|Vm<|Vx (Fd BS Z)<|Vx (Ld Cf Z (Bc aq Z))<|Bi a fun ag k4 a=>have ec:=K2 AH bz d c; ?_
 obtain ⟨k5,k6,ti,k7,k8,k9,la,lb,ed⟩:=A8 (κ:=AH) ec k4
 replace ed:Ax a6 bn k5 (k6+(0:Int).toNat*7) k7:=ed
 obtain ⟨f7,f8,rfl,f6⟩:=E1 (Ae lb)
 refine Vx (Ix CH k8 Z k9 la)<|Vx (Lx A9 Z Z (Ax.part0 ed [I ag.op,Sb ag.name,Sb ag.tail,I ag.type_,Cx ag.num,Sl f7 ag.args f8,I ag.at_] Z))<|Vm<|have lc:=Y2 b7 d c;have ld:=K2 AI bw d c;have ee:=Ms (Ms b8 d) c;have cz:=Me (Me bx d) c;Bi a fun le lf a=>Iq (.none Z) Z Z (Cg [Pt ao 0,Ag [I ag.op,Sb ag.name,Sb ag.tail,I ag.type_,Cx ag.num,Sl f7 ag.args f8,I ag.at_],ap] Z)<|Calls.mono (a3.mean_run_look a6 bn lf dcd dcd lc ld ee (AW (x:=ag) f6) cz) ?_
 rintro _ tk ⟨f9,tl,ah,ef,c0,lg⟩
 obtain ⟨lh,li,rfl⟩:=AT c0
 obtain ⟨tm,lj,rfl⟩| ⟨a7,lk,tn,rfl,to,rfl,ll⟩:=E0.split lg
 refine have a:=EA a lj; .inl ⟨_,Z,?_⟩
 obtain rfl:=AK a
 refine N4 (B:=B) q<|⟨f9,Sl lh le.2.1 li,Ho (T2 (Mo [1] d) c ah) p,ef,c0,Gj⟩
 refine have a:=HQ a lk; ?_
 obtain ⟨tp,eg,c1,rfl,ga,gb,eh⟩:=Dd ll
 obtain ⟨gc,gd,rfl⟩:=AT ga
 refine .inr ⟨_,Z,?_⟩
 refine Ef<|AY f9 22 LC Z fun ei tq tr lm n=>have ln:=Ss Kd.cpx ga n;Eu<|Bv (vs:=[I a7.plain.type_,Cx a7.plain.num,.bool a7.plain.bool,Sl gc a7.plain.list gd,eg,c1]) (cs':=[I a7.plain.type_,Cx a7.plain.num,.bool a7.plain.bool,Sl gc a7.plain.list gd,eg,c1]) Js Z Z Z Z (AX Z (AX Z (AX Z (AX (E8 ln) (AX (MTh.one gb) (AX (MTh.one eh) CJ)))))) lm dcd Z Z fun ge ej o=>AA<|AR<|Sr<|Vx (Fd O5 Z)<|Vx (Ld O8 Z (Bc ej Z))<|have ek:=Mt (Mt gb n) o;Vx (v:=.bool (Th.isNil a7.head)) (RW Vd Z Z ek)<|AA<|Cn a (fun lo a=>?_) fun lo a=>?_
 refine Sr<|Vm<|Vx (Fd BS Z)<|have lp:=Y3 aq ah n o;Vx (Ld Cf Z (Bc lp Z))<|Bi a fun ai lq a=>have lr:=K3 AH ec ah n o; ?_
 obtain ⟨ls,lt,ts,lu,lv,lw,lx,ly,el⟩:=A8 (κ:=AH) lr lq
 replace el:Ax ei ge ls (lt+(1:Int).toNat*7) lu:=el
 obtain ⟨gg,gh,rfl,gf⟩:=E1 (Ae ly)
 refine Vx (Ix CH lv Z lw lx)<|Vx (Lx A9 Z Z (Ax.part0 el [I ai.op,Sb ai.name,Sb ai.tail,I ai.type_,Cx ai.num,Sl gg ai.args gh,I ai.at_] Z))<|Vm<|have lz:=Y2 ef n o;have l0:=K2 AI c0 n o;have l1:=Ms (Ms (Ms ee ah) n) o;have l2:=Me (Me (Me cz ah) n) o;Bi a fun gi l3 a=>Iq (.none Z) Z Z (Cg [Pt ao 0,Ag [I ai.op,Sb ai.name,Sb ai.tail,I ai.type_,Cx ai.num,Sl gg ai.args gh,I ai.at_],ap] Z)<|Calls.mono (a3.mean_run_look ei ge l3 dcd dcd lz l0 l1 (AW (x:=ai) gf) l2) ?_
 rintro _ tu ⟨gj,tw,em,gk,en,l4⟩
 obtain ⟨gl,gm,rfl⟩:=AT en
 obtain ⟨tx,l5,rfl⟩| ⟨w,l6,ty,rfl,tz,rfl,l7⟩:=E0.split l4
 refine have a:=EA a l5; .inl ⟨_,Z,?_⟩
 obtain rfl:=AK a
 refine N4 (B:=B) q<|⟨gj,Sl gl gi.2.1 gm,Ho (Tn (T4 (Mo [1,22] d) c ah n o) em) p,gk,en,Gj⟩
 refine have a:=HQ a l6; ?_
 obtain ⟨t0,c2,c3,rfl,eo,gn,go⟩:=Dd l7
 obtain ⟨c4,c5,rfl⟩:=AT eo
 refine .inr ⟨_,Z,?_⟩
 refine have l8:=Y4 bo ah n o em;Eu<|Bv (vs:=[I w.plain.type_,Cx w.plain.num,.bool w.plain.bool,Sl c4 w.plain.list c5,c2,c3]) (cs':=[I w.plain.type_,Cx w.plain.num,.bool w.plain.bool,Sl c4 w.plain.list c5,c2,c3]) Js Z Z Z Z (AX Z (AX Z (AX Z (AX (E8 eo) (AX (MTh.one gn) (AX (MTh.one go) CJ)))))) l8 dcd Z Z fun t1 l9 b2=>AA<|AQ ?_
 obtain rfl:=AK a
 refine O1 B q Z (.agg KF Z Z (Bw l9))<|have ma:=Ss Kd.cpx eo b2;have mb:=Mt gn b2;have mc:=Mt go b2;have md:=Bs gk b2;have me:=Ss AI en b2;⟨gj,Sl gl gi.2.1 gm,Ho (T2 (T4 (Mo [1,21,22] d) c ah n o) em b2) p,md,me,Fc ⟨[I w.plain.type_,Cx w.plain.num,.bool w.plain.bool,Sl c4 w.plain.list c5,c2,c3],Z,(Ct (x:=w) ma mb mc)⟩⟩
 refine WC.skip<|Sr<|Vx (Fd Di Z)<|have gp:=Y3 aq ah n o;Vx (Ld CG Z (Bc gp Z))<|Vx (Fd O5 Z)<|Vx (Ld O8 Z (Bc ej Z))<|Vm<|Vx (v:=Ag [Sb h.name,eg,ap]) (Bp Q5 Q4 Z (.cons Z Z Z (.cons Z (Dk (MTh.one ek)) Z (.cons Z (Dk (Gg.one cz)) Z .nil))))<|Ef<|A0 ei 23 Z Z fun ep t2 c6 mf ax=>Va (Pt c6 0)<|AA<|AR<|BW Cv (qs 0 11 (.one 11 (.one 12 (.one 13 .nil)))) [13] [1,23,24] ep (by kernel_rfl) fun mg au=>Qx m Z (v:=Pt ao 0) (fun _ _=>Mv Z)<|Qx m Z (fun _ _=>Fd BS Z)<|have gq:=Y2 gp ax au;Qx m Z (fun _ ⟨_,f⟩=>Ld Cf Z (Bc (Bs gq f) Z))<|Bi a fun aj mh a=>have mi:=Ss AH (K4 AH ec ah n o ax) au; ?_
 obtain ⟨mj,mk,t3,ml,mm,mn,mo,mp,eq⟩:=A8 (κ:=AH) mi mh
 replace eq:Ax ep mg mj (mk+(2:Int).toNat*7) ml:=eq
 obtain ⟨gs,gt,rfl,gr⟩:=E1 (Ae mp)
 refine Qx m Z (fun _ _=>Ix CH mm Z mn mo)<|Qx m Z (fun _ ⟨_,f⟩=>Lx A9 Z Z (Ax.part0 (Es eq f) [I aj.op,Sb aj.name,Sb aj.tail,I aj.type_,Cx aj.num,Sl gs aj.args gt,I aj.at_] Z))<|Qx m Z (fun _ _=>Fd NB Z)<|Qx m Z (fun _ ⟨_,f⟩=>Ld CG Z (Bc (Bs gq f) Z))<|Qx m Z (fun _ _=>Fd W3 Z)<|have mq:=Y2 ej ax au;Qx m Z (fun _ ⟨_,f⟩=>Ld O8 Z (Bc (Bs mq f) Z))<|Qx m Z (v:=Pt c6 0) (fun _ _=>Mv Z)<|Qx m Z (v:=Ag [Sb h.tail,c1,Pt c6 0]) (fun _ _=>B3 (cs:=[Sb h.tail,c1,Pt c6 0]) [Sb ([]:Bts),.nilFunc,.pointer none] Q5 Q4 Z (.cons Z Z Z (.cons Z (Dk (MTh.one eh)) Z (.cons Z Z Z .nil))) Z Z)<|A1 Z<|Bb Z (.none Z) Z Z<|A0 ep 24 Z Z fun t5 mr ms mt av=>⟨⟨_,(Mo [1,23,24] av)⟩,?_⟩
 refine VT Z<|have mu:=Y2 mf au av;have mv:=Mt (Mt (Mt ek ax) au) av;have mw:=Me (Me (Me (Me (Me (Me cz ah) n) o) ax) au) av; ?_
 obtain ⟨t6,a4,mx⟩:=Gg.lay mu dcd mv mw
 refine have my:=Bs mt a4;have mz:=Mt (Mt (Mt (Mt (Mt (Mt eh n) o) ax) au) av) a4; ?_
 obtain ⟨m0,bc,m1⟩:=Gg.lay my dcd mz mx
 refine have m2:=Y3 (Y4 ef n o ax au) av a4 bc;have m3:=K3 AI (K4 AI c0 n o ax au) av a4 bc;have m4:=Ms (Ms (Ms (Ms (Ms (Ms (Ms (Ms ee ah) n) o) ax) au) av) a4) bc;have m5:=K3 AH gr av a4 bc;Bi a fun gu m6 a=>U2.callp Z (.none Z) Z Z (Cg [Pt ao 0,Ag [I aj.op,Sb aj.name,Sb aj.tail,I aj.type_,Cx aj.num,Sl gs aj.args gt,I aj.at_],Pt ms 0] Z)<|Calls.mono (a3.mean_run_look m0 mr m6 dcd dcd m2 m3 m4 (AW (x:=aj) m5) m1) ?_
 rintro _ t7 ⟨gv,t8,c7,gw,er,m7⟩
 obtain ⟨gx,gy,rfl⟩:=AT er
 obtain ⟨t9,m8,rfl⟩| ⟨y,m9,ua,rfl,ub,rfl,na⟩:=E0.split m7
 refine have a:=EA a m8; .inl ⟨_,Z,?_⟩
 obtain rfl:=AK a
 refine N4 (B:=B) q<|⟨gv,Sl gx gu.2.1 gy,Ho (T2 (T4 (T4 (Mo [1,22,23,24] d) c ah n o) ax au av a4) bc c7) p,gw,er,Gj⟩
 refine have a:=HQ a m9; ?_
 obtain ⟨uc,c8,c9,rfl,es,gz,g0⟩:=Dd na
 obtain ⟨da,db,rfl⟩:=AT es
 refine .inr ⟨_,Z,⟨_,(T3 (Mo [1,23,24] av) a4 bc c7)⟩,?_⟩
 refine ES dcd<|WY.one<|have nb:=Bs (Y4 (Y4 bo ah n o ax) au av a4 bc) c7;BM Z (.none Z) Z<|Bv (vs:=[I y.plain.type_,Cx y.plain.num,.bool y.plain.bool,Sl da y.plain.list db,c8,c9]) (cs':=[I y.plain.type_,Cx y.plain.num,.bool y.plain.bool,Sl da y.plain.list db,c8,c9]) Js Z Z Z Z (AX Z (AX Z (AX Z (AX (E8 es) (AX (MTh.one gz) (AX (MTh.one g0) CJ)))))) nb dcd Z Z fun ud nc b3=>WY.nil<|AQ ?_
 obtain rfl:=AK a
 refine O1 B q Z (.agg KF Z Z (Bw nc))<|have nd:=Ss Kd.cpx es b3;have ne:=Mt gz b3;have nf:=Mt g0 b3;have ng:=Bs gw b3;have nh:=Ss AI er b3;⟨gv,Sl gx gu.2.1 gy,Ho (T3 (T4 (T4 (Mo [1,21,22,23,24] d) c ah n o) ax au av a4) bc c7 b3) p,ng,nh,Fc ⟨[I y.plain.type_,Cx y.plain.num,.bool y.plain.bool,Sl da y.plain.list db,c8,c9],Z,(Ct (x:=y) nd ne nf)⟩⟩
 refine Sr<|Vr (.bool (h.op==21))<|Va (.bool (h.op==21))<|AA<|Cn a (fun ni a=>?_) fun ni a=>?_
 refine Sr<|Vx (Fd Di Z)<|Vx (Ld CG Z (Bc aq Z))<|Vm<|Vx (v:=Ag [Sb h.name,.nilFunc,ap]) (Bp Q5 Q4 Z (.cons Z Z Z (.cons Z (Dk (Gg.one bx)) Z .nil)))<|Ef<|A0 a6 25 Z Z fun g1 g2 et nj a8=>Va (Pt et 0)<|AA<|Sr<|Vm<|Vx (Fd BS Z)<|have g3:=Bs aq a8;Vx (Ld Cf Z (Bc g3 Z))<|Bi a fun ak nk a=>have g4:=K3 AH bz d c a8; ?_
 obtain ⟨nl,nm,ue,np,nq,nr,ns,nt,eu⟩:=A8 (κ:=AH) g4 nk
 replace eu:Ax g1 g2 nl (nm+(0:Int).toNat*7) np:=eu
 obtain ⟨g6,g7,rfl,g5⟩:=E1 (Ae nt)
 refine Vx (Ix CH nq Z nr ns)<|Vx (Lx A9 Z Z (Ax.part0 eu [I ak.op,Sb ak.name,Sb ak.tail,I ak.type_,Cx ak.num,Sl g6 ak.args g7,I ak.at_] Z))<|Vm<|Bi a fun bd nu a=>Ca (Cg [Ag [I ak.op,Sb ak.name,Sb ak.tail,I ak.type_,Cx ak.num,Sl g6 ak.args g7,I ak.at_],Pt et 0] Z) (Ma g1 g2 (kn0:=26) (kn1:=27) nu dcd dcd (AW (x:=ak) g5) Z) ?_
 rintro _ ug ⟨nv,uh,ui,uj,rfl,a5,nw,nx,ny⟩
 obtain ⟨n0,n1,rfl,g8⟩:=E1 (Ae nx)
 refine Vx (Nc Z)<|Vx (Fd W2 Z)<|have n2:=Bs nj a5;Eu<|St ABq n2 Z Z Z Z fun g9 n4 ay=>AA<|Sr<|Vm<|Vx (Fd BS Z)<|have n5:=Y2 g3 a5 ay;Vx (Ld Cf Z (Bc n5 Z))<|Bi a fun al n6 a=>have n7:=K2 AH g4 a5 ay; ?_
 obtain ⟨n8,oa,ul,ob,oc,od,oe,og,ew⟩:=A8 (κ:=AH) n7 n6
 replace ew:Ax nv g9 n8 (oa+(1:Int).toNat*7) ob:=ew
 obtain ⟨hb,hc,rfl,ha⟩:=E1 (Ae og)
 refine Vx (Ix CH oc Z od oe)<|Vx (Lx A9 Z Z (Ax.part0 ew [I al.op,Sb al.name,Sb al.tail,I al.type_,Cx al.num,Sl hb al.args hc,I al.at_] Z))<|Vm<|have oh:=Ss AH g8 ay;have oi:=Bs nw ay;have oj:=Bs ny ay;have ok:=Me (Me (Me (Me (Me bx d) c) a8) a5) ay; ?_
 obtain ⟨ol,bp,om⟩:=Gg.layRec (D:=89) (ce:=[I bd.op,Sb bd.name,Sb bd.tail,I bd.type_,Cx bd.num,Sl n0 bd.args n1,I bd.at_]) n4 oi oj dcd (AW (x:=bd) oh) ok
 refine have oo:=Y2 (Y4 b7 d c a8 a5) ay bp;have op:=K2 AI (K4 AI bw d c a8 a5) ay bp;have oq:=Ms (Ms (Ms (Ms (Ms (Ms b8 d) c) a8) a5) ay) bp;have os:=Ss AH ha bp;Bi a fun hd ot a=>Iq (.none Z) Z Z (Cg [Pt ao 0,Ag [I al.op,Sb al.name,Sb al.tail,I al.type_,Cx al.num,Sl hb al.args hc,I al.at_],Pt et 0] Z)<|Calls.mono (a3.mean_run_look ol g9 ot dcd dcd oo op oq (AW (x:=al) os) om) ?_
 rintro _ un ⟨he,uo,ex,hf,ey,ou⟩
 obtain ⟨hg,hh,rfl⟩:=AT ey
 obtain ⟨up,ov,rfl⟩| ⟨z,ow,uq,rfl,ur,rfl,ox⟩:=E0.split ou
 refine have a:=EA a ov; .inl ⟨_,Z,?_⟩
 obtain rfl:=AK a
 refine N4 (B:=B) q<|⟨he,Sl hg hd.2.1 hh,Ho (T2 (T4 (Mo [1,25,26,27] d) c a8 a5 ay) bp ex) p,hf,ey,Gj⟩
 refine have a:=HQ a ow; ?_
 obtain ⟨us,dc,de,rfl,ez,hi,hj⟩:=Dd ox
 obtain ⟨df,dg,rfl⟩:=AT ez
 refine .inr ⟨_,Z,?_⟩
 refine have oy:=Bs (Y4 bo a8 a5 ay bp) ex;Eu<|Bv (vs:=[I z.plain.type_,Cx z.plain.num,.bool z.plain.bool,Sl df z.plain.list dg,dc,de]) (cs':=[I z.plain.type_,Cx z.plain.num,.bool z.plain.bool,Sl df z.plain.list dg,dc,de]) Js Z Z Z Z (AX Z (AX Z (AX Z (AX (E8 ez) (AX (MTh.one hi) (AX (MTh.one hj) CJ)))))) oy dcd Z Z fun ut oz b4=>AA<|AQ ?_
 obtain rfl:=AK a
 refine O1 B q Z (.agg KF Z Z (Bw oz))<|have o0:=Ss Kd.cpx ez b4;have o1:=Mt hi b4;have o2:=Mt hj b4;have o6:=Bs hf b4;have o7:=Ss AI ey b4;⟨he,Sl hg hd.2.1 hh,Ho (T3 (T4 (Mo [1,21,25,26,27] d) c a8 a5 ay) bp ex b4) p,o6,o7,Fc ⟨[I z.plain.type_,Cx z.plain.num,.bool z.plain.bool,Sl df z.plain.list dg,dc,de],Z,(Ct (x:=z) o0 o1 o2)⟩⟩
 refine Sr<|Vr (.bool (h.op==22))<|Va (.bool (h.op==22))<|AA<|Cn a (fun o8 a=>?_) fun o8 a=>?_
 refine Sr<|Vm<|Vx (Fd BS Z)<|Vx (Ld Cf Z (Bc aq Z))<|Bi a fun am pa a=>have hk:=K2 AH bz d c; ?_
 obtain ⟨pb,pc,uu,pd,pe,pf,pg,ph,e0⟩:=A8 (κ:=AH) hk pa
 replace e0:Ax a6 bn pb (pc+(0:Int).toNat*7) pd:=e0
 obtain ⟨hm,hn,rfl,hl⟩:=E1 (Ae ph)
 refine Vx (Ix CH pe Z pf pg)<|Vx (Lx A9 Z Z (Ax.part0 e0 [I am.op,Sb am.name,Sb am.tail,I am.type_,Cx am.num,Sl hm am.args hn,I am.at_] Z))<|Vm<|have pi:=Y2 b7 d c;have pj:=K2 AI bw d c;have ho:=Ms (Ms b8 d) c;have e1:=Me (Me bx d) c;Bi a fun pk pl a=>Iq (.none Z) Z Z (Cg [Pt ao 0,Ag [I am.op,Sb am.name,Sb am.tail,I am.type_,Cx am.num,Sl hm am.args hn,I am.at_],ap] Z)<|Calls.mono (a3.mean_run_look a6 bn pl dcd dcd pi pj ho (AW (x:=am) hl) e1) ?_
 rintro _ uw ⟨hp,ux,be,hq,e2,pm⟩
 obtain ⟨pn,po,rfl⟩:=AT e2
 obtain ⟨uy,pp,rfl⟩| ⟨aa,pq,uz,rfl,u0,rfl,pr⟩:=E0.split pm
 refine have a:=EA a pp; .inl ⟨_,Z,?_⟩
 obtain rfl:=AK a
 refine N4 (B:=B) q<|⟨hp,Sl pn pk.2.1 po,Ho (T2 (Mo [1] d) c be) p,hq,e2,Gj⟩
 refine have a:=HQ a pq; ?_
 obtain ⟨u2,dh,di,rfl,hr,hs,ht⟩:=Dd pr
 obtain ⟨dj,dk,rfl⟩:=AT hr
 refine .inr ⟨_,Z,?_⟩
 refine Ef<|AY hp 28 LC Z fun e3 u3 u4 ps az=>have hu:=Ss Kd.cpx hr az;Eu<|Bv (vs:=[I aa.plain.type_,Cx aa.plain.num,.bool aa.plain.bool,Sl dj aa.plain.list dk,dh,di]) (cs':=[I aa.plain.type_,Cx aa.plain.num,.bool aa.plain.bool,Sl dj aa.plain.list dk,dh,di]) Js Z Z Z Z (AX Z (AX Z (AX Z (AX (E8 hu) (AX (MTh.one hs) (AX (MTh.one ht) CJ)))))) ps dcd Z Z fun u5 pt a0=>AA<|AR<|BW Cv (qs 0 8 (.q 9 (.one 8 (.q 10 (.one 11 (.one 12 (.one 13 .nil))))))) [13] [1,29] e3 (by kernel_rfl) fun hw aw=>Qx m Z (v:=Pt ao 0) (fun _ _=>Mv Z)<|Qx m Z (fun _ _=>Fd BS Z)<|have hx:=Y4 aq be az a0 aw;Qx m Z (fun _ ⟨_,f⟩=>Ld Cf Z (Bc (Bs hx f) Z))<|Bi a fun an pu a=>have pv:=K4 AH hk be az a0 aw; ?_
 obtain ⟨pw,px,u6,py,pz,p0,p1,p2,e4⟩:=A8 (κ:=AH) pv pu
 replace e4:Ax e3 hw pw (px+(1:Int).toNat*7) py:=e4
 obtain ⟨hz,h0,rfl,hy⟩:=E1 (Ae p2)
 refine Qx m Z (fun _ _=>Ix CH pz Z p0 p1)<|Qx m Z (fun _ ⟨_,f⟩=>Lx A9 Z Z (Ax.part0 (Es e4 f) [I an.op,Sb an.name,Sb an.tail,I an.type_,Cx an.num,Sl hz an.args h0,I an.at_] Z))<|Qx m Z (fun _ _=>Fd Di Z)<|Qx m Z (fun _ ⟨_,f⟩=>Ld CG Z (Bc (Bs hx f) Z))<|have p3:=Bs pt aw;Qx m Z (fun _ ⟨_,f⟩=>Lx KF Z Z (Bw (Bs p3 f)))<|Qx m Z (v:=ap) (fun _ _=>Mv Z)<|A1 Z<|have p4:=K2 Kd.cpx hu a0 aw;have p5:=Mt (Mt (Mt hs az) a0) aw;have p6:=Mt (Mt (Mt ht az) a0) aw;Bi a fun u8 p7 a=>A3 Z (.none Z) Z Z (Cg [Ag [I aa.plain.type_,Cx aa.plain.num,.bool aa.plain.bool,Sl dj aa.plain.list dk,dh,di]] Z)<|Calls.mono (MI e3 hw p7 (Ct (x:=aa) p4 p5 p6)) ?_
 rintro _ va ⟨p8,h1,rfl,a1,h2⟩
 refine ⟨_,Z,⟨_,(Mo [1,29] a1)⟩,?_⟩
 refine Qx m Z (v:=Ag [Sb h.name,h1,ap]) (fun _ _=>B3 (cs:=[Sb h.name,h1,ap]) [Sb ([]:Bts),.nilFunc,.pointer none] Q5 Q4 Z (.cons Z Z Z (.cons Z (Dk (MTh.one h2)) Z (.cons Z (Dk (Gg.one e1)) Z .nil))) Z Z)<|A1 Z<|Bb Z (.none Z) Z Z<|A0 p8 29 Z Z fun vb p9 qa qb a2=>⟨⟨_,(Tn (Mo [1,29] a1) a2)⟩,?_⟩
 refine VT Z<|have qc:=Mt h2 a2;have qd:=Me (Me (Me (Me (Me (Me e1 be) az) a0) aw) a1) a2; ?_
 obtain ⟨qe,bf,qf⟩:=Gg.lay qb dcd qc qd
 refine have qg:=Y2 (Y4 hq az a0 aw a1) a2 bf;have qh:=K2 AI (K4 AI e2 az a0 aw a1) a2 bf;have qi:=Ms (Ms (Ms (Ms (Ms (Ms (Ms ho be) az) a0) aw) a1) a2) bf;have qj:=K3 AH hy a1 a2 bf;Bi a fun h3 qk a=>U2.callp Z (.none Z) Z Z (Cg [Pt ao 0,Ag [I an.op,Sb an.name,Sb an.tail,I an.type_,Cx an.num,Sl hz an.args h0,I an.at_],Pt qa 0] Z)<|Calls.mono (a3.mean_run_look qe p9 qk dcd dcd qg qh qi (AW (x:=an) qj) qf) ?_
 rintro _ vc ⟨h4,vd,dl,h5,e5,ql⟩
 obtain ⟨h6,h7,rfl⟩:=AT e5
 obtain ⟨ve,qm,rfl⟩| ⟨ab,qn,vf,rfl,vg,rfl,qo⟩:=E0.split ql
 refine have a:=EA a qm; .inl ⟨_,Z,?_⟩
 obtain rfl:=AK a
 refine N4 (B:=B) q<|⟨h4,Sl h6 h3.2.1 h7,Ho (Tn (T4 (T4 (Mo [1,28,29] d) c be az a0) aw a1 a2 bf) dl) p,h5,e5,Gj⟩
 refine have a:=HQ a qn; ?_
 obtain ⟨vh,dm,dn,rfl,e6,h8,h9⟩:=Dd qo
 obtain ⟨dp,dq,rfl⟩:=AT e6
 refine .inr ⟨_,Z,⟨_,(T3 (Mo [1,29] a1) a2 bf dl)⟩,?_⟩
 refine ES dcd<|WY.one<|have qp:=Y4 (Y4 bo be az a0 aw) a1 a2 bf dl;BM Z (.none Z) Z<|Bv (vs:=[I ab.plain.type_,Cx ab.plain.num,.bool ab.plain.bool,Sl dp ab.plain.list dq,dm,dn]) (cs':=[I ab.plain.type_,Cx ab.plain.num,.bool ab.plain.bool,Sl dp ab.plain.list dq,dm,dn]) Js Z Z Z Z (AX Z (AX Z (AX Z (AX (E8 e6) (AX (MTh.one h8) (AX (MTh.one h9) CJ)))))) qp dcd Z Z fun vi qq b5=>WY.nil<|AQ ?_
 obtain rfl:=AK a
 refine O1 B q Z (.agg KF Z Z (Bw qq))<|have qr:=Ss Kd.cpx e6 b5;have qs:=Mt h8 b5;have qt:=Mt h9 b5;have qu:=Bs h5 b5;have qv:=Ss AI e5 b5;⟨h4,Sl h6 h3.2.1 h7,Ho (T2 (T4 (T4 (Mo [1,21,28,29] d) c be az a0) aw a1 a2 bf) dl b5) p,qu,qv,Fc ⟨[I ab.plain.type_,Cx ab.plain.num,.bool ab.plain.bool,Sl dp ab.plain.list dq,dm,dn],Z,(Ct (x:=ab) qr qs qt)⟩⟩
 refine WC.skip<|Sr<|Va (.slice none 0 0)<|AA<|AR<|Sr<|Vx (Fd BS Z)<|Vx (Ld Cf Z (Bc aq Z))<|have ia:=K2 AH bz d c; ?_
 obtain ⟨vj,vk,qw⟩:=AT ia
 refine Vx (v:=I (h.args.length:Int)) (Ll CH qw)<|Vm<|AA<|Af<|Bg (fun bg e7 bq=>∃ca br a9 dr ds bh ba cb cc cd cf,e7=Env.puts ca [(0,Pt ao 0),(2,ap),(4,Pt i3 0),(6,Pt fi 0),(10,Sl dr a9 ds),(127,Sl i0 h.args i1),(128,I (h.args.length:Int)),(129,I bh)]∧DU bv bm cl h cm bg a9 bh ba cd cf=some dw∧AS [1,30,32] a6 bn br bq∧Own Ao 38 br bq 32 (Sl dr a9 ds) a9∧Slc AI br.F bq (Sl cb ba cc) ba∧Bk br bq 1 ao [.map (some iw),Sl cb ba cc,I cd,I cf] 83) bm ?_ ?_
 refine have qx:=K2 AI bw d c;have qy:=Y2 b7 d c;⟨_,a6,([]:List AF),none,0,0,it,iy,iz,iu,iv,Pu,a,(AS.refl [1,30,32] _ _),Own.nil,qx,qy⟩
 rintro bg _ bq ⟨ca,br,a9,dr,ds,bh,ba,cb,cc,cd,cf,rfl,a,bb,ib,e8,e9⟩
 rcases bg with _|bg
 exact A5 a
 refine have a:BX bv bm cl h cm (DU bv bm cl h cm bg) a9 bh ba cd cf=some dw:=a; ?_
 obtain ⟨vl,ic⟩:∃s,s=DU bv bm cl h cm bg:=⟨_,rfl⟩
 rw [←ic,BX] at a
 refine Sr<|Vr (.bool (decide (bh< (h.args.length:Int))))<|AA<|AR<|Cn a (fun qz a=>?_) fun qz a=>?_
 refine WC.skip<|AR<|Af<|Sr<|Bi a fun l q0 a=>have q1:=Ss AH ia bb; ?_
 obtain ⟨q2,q3,vm,q4,q5,q6,q7,q8,fa⟩:=A8 (κ:=AH) q1 q0
 replace fa:Ax br bq q2 (q3+bh.toNat*7) q4:=fa
 obtain ⟨fb,fc,rfl,id⟩:=E1 (Ae q8)
 refine Vx (Ix CH q5 Z q6 q7)<|Vx (Lx A9 Z Z (Ax.part0 fa [I l.op,Sb l.name,Sb l.tail,I l.type_,Cx l.num,Sl fb l.args fc,I l.at_] Z))<|Ef<|AY br 30 De Z fun q9 vo vp ra bi=>have rb:=Ss AH id bi;Eu<|St D1 ra Z Z Z Z fun rc rd bj=>AA<|AL<|Vm<|Vm<|Vx (Lx A9 Z Z (Bw rd))<|Vm<|have re:=Y2 e9 bi bj;have rf:=K2 AI e8 bi bj;have rg:=Ms (Ms (Ms (Ms (Ms b8 d) c) bb) bi) bj;have rh:=Ss AH rb bj;have ri:=Me (Me (Me (Me (Me bx d) c) bb) bi) bj;Bi a fun dt rj a=>Iq (.none Z) Z Z (Cg [Pt ao 0,Ag [I l.op,Sb l.name,Sb l.tail,I l.type_,Cx l.num,Sl fb l.args fc,I l.at_],ap] Z)<|Calls.mono (a3.mean_run_look q9 rc rj dcd dcd re rf rg (AW (x:=l) rh) ri) ?_
 rintro _ vq ⟨ie,vr,fd,ig,fe,rk⟩
 obtain ⟨ih,ii,rfl⟩:=AT fe
 obtain ⟨vt,rl,rfl⟩| ⟨e,rm,vu,rfl,vv,rfl,rn⟩:=E0.split rk
 refine have a:=EA a rl; .inl ⟨_,Z,?_⟩
 obtain rfl:=AK a
 refine N4 (B:=B) q<|⟨ie,Sl ih dt.2.1 ii,Ho (Tn (T4 (Mo [1,30,32] d) c bb bi bj) fd) p,ig,fe,Gj⟩
 refine have a:=HQ a rm; ?_
 obtain ⟨vw,ro,rp,rfl,ij,vx,vy⟩:=Dd rn
 obtain ⟨cg,ch,rfl⟩:=AT ij
 refine .inr ⟨_,Z,?_⟩
 refine Vx (v:=Ag [I e.plain.type_,Cx e.plain.num,.bool e.plain.bool,Sl cg e.plain.list ch]) (P4 (cs:=[I e.plain.type_,Cx e.plain.num,.bool e.plain.bool,Sl cg e.plain.list ch,ro,rp]) S5 Z)<|Ef<|Ch (cs:=[I e.plain.type_,Cx e.plain.num,.bool e.plain.bool,Sl cg e.plain.list ch]) ie 31 [[I e.plain.type_,Cx e.plain.num,.bool e.plain.bool,Sl cg e.plain.list ch]] Ic CS Z Z (.cons Z Z Z .nil) Z fun rq rr rs rt ci=>have ru:=Ss Kd.cpx ij ci;have rx:Own Ao 38 rq rr 31 (.slice (some ⟨rs,0,none⟩) 1 1) ([(AF.mk e.plain.type_ e.plain.num e.plain.bool e.plain.list)]:List AF):=Own.lit (css:=[[I e.plain.type_,Cx e.plain.num,.bool e.plain.bool,Sl cg e.plain.list ch]]) rt Z Z Z (Aa (Al (x:=(AF.mk e.plain.type_ e.plain.num e.plain.bool e.plain.list)) ru) BA) (A4 Z D3) Z;have ry:=Os (Os (Os (Os ib bi) bj) fd) ci;Bi a fun vz ik a=>Ef<|Bu (κ:=Ao) Z Z ry dcd VZ (CC rx) (Et ik) (E6 ik) fun v1 rz v2 il ff=>?_
 obtain ⟨im,io,rfl⟩:=Own.len il
 refine Va (Sl im ((a9++([(AF.mk e.plain.type_ e.plain.num e.plain.bool e.plain.list)]:List AF))) io)<|AA<|AL<|Vr (I (Wr (bh+1)))<|Vm<|AA<|have r0:=K2 AI fe ci ff;have r1:=Y2 ig ci ff;⟨bg,Nat.lt_succ_self bg,_,rz,(a9++([(AF.mk e.plain.type_ e.plain.num e.plain.bool e.plain.list)]:List AF)),im,io,(Wr (bh+1)),dt.2.1,ih,ii,dt.2.2.1,dt.2.2.2,Pu,(ic▸a),(Tn (T4 (Mo [1,30,32] bb) bi bj fd ci) ff),il,r0,r1⟩
 refine Ba<|Sr<|Vx (Fz C8 Z)<|have r2:=Bs aq bb;Vx (Ld Ge Z (Bc r2 Z))<|Vm ?_
 obtain ⟨r3,bt,r4⟩:=Own.freeze (S:=[32]) ib dcd dcd
 refine Bi a fun g r5 a=>Ca (Cg [I h.op,Sl dr a9 ds] Z) (Uh bm r3 bq r5 r4) ?_
 rintro _ v3 ⟨r6,v4,rfl,bu,r7⟩
 obtain ⟨cj,ck,rfl,ip⟩:=E1 (Az r7)
 refine Vm<|Vr (Ag [I g.1.type_,Cx g.1.num,.bool g.1.bool,Sl cj g.1.list ck])<|Vr (I g.2)<|Ef<|AY r6 33 CS Z fun fg v6 r8 r9 bk=>have sa:=Ss Kd.cpx ip bk;Eu<|St Cw r9 Z Z Z Z fun sb sc bl=>Va (I g.2)<|AA<|Am (fun e7 iq=>∃ca fh,e7=Env.puts ca [(6,Pt fi 0),(13,Pt r8 0)]∧L7 ba cd cf g=some dw∧AS [] fg sb fh iq) ?_ ?_
 refine Sr<|Vm<|Vr (.bool (g.2 != 0))<|AA<|Cn a (fun sd a=>?_) fun sd a=>?_
 refine AL<|Vm<|Vr (.iface 33 (I g.2))<|Sx (.none Z) (Qw Z)<|have se:=Y4 e9 bt bu bk bl;have sf:=K4 AI e8 bt bu bk bl; ?_
 obtain rfl:=AK a
 refine N4 (B:=B) q<|⟨fg,Sl cb ba cc,Ho (T2 (T4 (Mo [1,30,32,33] d) c bb bt bu) bk bl) p,se,sf,Gj⟩
 refine WC.skip<|⟨_,fg,Pu,a,Rf⟩
 rintro _ iq ⟨ca,fh,rfl,a,b6⟩
 rw [L7] at a
 refine Sr<|have sg:=Bs sc b6;Vx (Lx B0 Z Z (Bw sg))<|Vx (v:=Ag [I g.1.type_,Cx g.1.num,.bool g.1.bool,Sl cj g.1.list ck,.nilFunc,.nilFunc]) (Bp LC Nb Z (.cons Z Z Z .nil))<|have sh:=Y2 (Y4 bo bb bt bu bk) bl b6;have si:=K2 Kd.cpx sa bl b6;Eu<|St Js sh Z Z Z Z fun v7 sj du=>AA<|AQ ?_
 obtain rfl:=AK a
 refine O1 B q Z (.agg KF Z Z (Bw sj))<|have sk:=Ss Kd.cpx si du;have sl:=Y2 (Y4 e9 bt bu bk bl) b6 du;have sm:=K2 AI (K4 AI e8 bt bu bk bl) b6 du;⟨fh,Sl cb ba cc,Ho (T4 (T4 (Mo [1,21,30,32,33] d) c bb bt bu) bk bl b6 du) p,sl,sm,Fc ⟨[I g.1.type_,Cx g.1.num,.bool g.1.bool,Sl cj g.1.list ck,.nilFunc,.nilFunc],Z,(Ct (x:=(Aw.mk g.1 Th.nil Th.nil)) sk MTh.nil MTh.nil)⟩⟩
theorem QD(d:Ac)(f:Nat)(m:Ac.Good d):mean_run_parts.Spec (A7 d f):=by
 intro e g a c ac ad ae af ag ah ai aj ak al am an n hnd hnz l o p q s
 refine Calls.mono (QC d f m (recol (see [a,c]) e) g (Fa (Nat.le_of_ble_eq_true Z) e) n trivial trivial (BU l [a,c] (BP hnd hnz (i:=0) Z)) (Eo AI o [a,c]) (Fs p [a,c] (BP hnd hnz (i:=1) Z)) (BY AH q [a,c]) (Gg.recol s [a,c])) ?_
 rintro ao ap ⟨w,y,z,aa,ab,en⟩
 exact ⟨glue [a,c] g e w,y,CA z (Fb Z Z),ED l aa dcd,HO AI ab,Pc en fun r v ⟨u,hv,h⟩=>⟨u,hv,Dm HS h⟩⟩
theorem Ac.good:∀d,Ac.Good (Ac.at d)
 |0=>⟨by intro a c;intros;(try intro _);intros;exact A5 (by assumption),by intro a c;intros;(try intro _);intros;exact A5 (by assumption),by intro a c;intros;(try intro _);intros;exact A5 (by assumption),by intro a c;intros;(try intro _);intros;exact A5 (by assumption)⟩
 |n+1=>⟨Qf _ n (Ac.good n),RF _ n (Ac.good n),SB _ n (Ac.good n),QD _ n (Ac.good n)⟩
theorem RG(a:Nat):mean_run_look.Spec (mean_run_look a):=(Ac.good a).mean_run_look
theorem PP(a:Nat):mean_callth.Spec (mean_callth a):=(Ac.good a).mean_callth
def ER.At(G1 G2:Prop)(c:Col)(a:World)(f:(List AO)→Int→Int→Aq→Aw→Option ((Except Int AF)×(List AO)×Int×Int))(h aa:Nat):Prop:=
 ∀{l n o p q m s w y d},f n p q s w=some d→G1→G2→Bk c a h l [.map (some m),o,I p,I q] 83→Slc AI c.F a o n→Mp c a aa m s→HS.rep c.F a y w→
  Calls PG 34 #[Pt l 0,Ag y] a fun ab e=>∃g z,AS [h] c a g e∧Bk g e h l [.map (some m),z,I d.2.2.1,I d.2.2.2] 83∧Slc AI g.F e z d.2.1∧E0 33 d.1 ab (fun r v=>∃u:List Value,v=Ag u∧Ao.rep g.F e u r)
def ER.Spec(f:(List AO)→Int→Int→Aq→Aw→Option ((Except Int AF)×(List AO)×Int×Int)):Prop:=
 ∀d e {a c},ER.At ([a,c].Nodup) (0∉[a,c]) d e f a c
theorem QE(y:Nat)(a4:Col)(cn:World)(al:∀b,a4 b<10):ER.At True True a4 cn (ER y) 1 2:=by
 intro ai bp e6 co cq cr am c e7 bq a _ _ br a5 ct cu
 rw [ER] at a
 obtain ⟨bt,bu,rfl⟩:=AT a5
 obtain ⟨e8,cv,cw,rfl,a6,cx,cy⟩:=Dd cu
 obtain ⟨an,ao,rfl⟩:=AT a6
 refine Ay Tryz.func34 Z Tryz.ntmps34 Z fun B ap z=>Sr<|Ef<|A0 a4 20 Z Z fun cz e9 bv c0 h=>Ef<|AY cz 21 CS Z fun bw fa c1 bx f=>AA<|AR<|Sr<|Vx (Fd O5 Z)<|have a7:=Bs c0 f;Vx (Ld O8 Z (Bc a7 Z))<|have bz:=Mt (Mt cx h) f;Vx (v:=.bool (Th.isNil c.head)) (RW Vd Z Z bz)<|AA<|Cn a (fun c2 a=>?_) fun c2 a=>?_
 refine Sr<|Vx (Fz ZO Z)<|Vx (Lx B0 Z Z (Bk.part a7 0 [I c.plain.type_,Cx c.plain.num,.bool c.plain.bool,Sl an c.plain.list ao] Z))<|have c3:=K2 Kd.cpx a6 h f;Eu<|St Cw bx Z Z Z Z fun fb c4 aq=>AA<|AQ ?_
 obtain rfl:=AK a
 refine O1 B ap Z (.agg B0 Z Z (Bk.part c4 0 [I c.plain.type_,Cx c.plain.num,.bool c.plain.bool,Sl an c.plain.list ao] Z))<|have c5:=Ss Kd.cpx c3 aq;have c6:=Y3 br h f aq;have c7:=K3 AI a5 h f aq;⟨bw,Sl bt bp bu,Ho (T2 (Mo [21] h) f aq) al,c6,c7,Fc ⟨[I c.plain.type_,Cx c.plain.num,.bool c.plain.bool,Sl an c.plain.list ao],Z,(Al (x:=(AF.mk c.plain.type_ c.plain.num c.plain.bool c.plain.list)) c5)⟩⟩
 refine WC.skip<|Sr<|Vx (v:=Ag [I 3,Cx (((0,0):Nat×Nat)),.bool false,.slice none 0 0]) (Bp CS F7 Z (.cons Z Z Z .nil))<|Ef<|AY bw 22 CS Z fun b0 fc b1 c8 m=>Eu<|St Cw c8 Z Z Z Z fun c9 da n=>AA<|AR<|Af<|Bg (fun aa db r=>∃b2 l af ar au av aw ax ay az ag a8 a9 aj ba a0 bb e ab ac,db=Env.puts b2 [(0,Pt ai 0),(3,Pt bv 0),(4,Pt c1 0),(5,Pt b1 0)]∧D0 y am aa af av aw ax ay az ag aj a0 e=some bq∧AS [1,20,22,24] b0 c9 l r∧Slc AI l.F r (Sl ar af au) af∧Slc Kd.cpx l.F r (Sl a8 ag a9) ag∧Own Kd.cpx 35 l r 24 (Sl ab e ac) e∧MTh 89 90 l.F r ba aj∧MTh 89 90 l.F r bb a0∧Bk l r 1 ai [.map (some cr),Sl ar af au,I av,I aw] 83∧Bk l r 20 bv [I ax,Cx ay,.bool az,Sl a8 ag a9,ba,bb] 96∧Bk l r 22 b1 [I 3,Cx (((0,0):Nat×Nat)),.bool false,Sl ab e ac] 38) y ?_ ?_
 refine have dc:=K4 AI a5 h f m n;have de:=K4 Kd.cpx a6 h f m n;have df:=Mt (Mt bz m) n;have dg:=Mt (Mt (Mt (Mt cy h) f) m) n;have dh:=Y4 br h f m n;have di:=Y2 a7 m n;⟨_,b0,bp,bt,bu,co,cq,c.plain.type_,c.plain.num,c.plain.bool,c.plain.list,an,ao,c.head,cv,c.tail,cw,([]:List (Nat×Nat)),none,0,Pu,a,(AS.refl [1,20,22,24] _ _),dc,de,Own.nil,df,dg,dh,di,da⟩
 rintro aa _ r ⟨b2,l,af,ar,au,av,aw,ax,ay,az,ag,a8,a9,aj,ba,a0,bb,e,ab,ac,rfl,a,ah,b3,fd,bc,b4,dj,b5,b6,b7⟩
 rcases aa with _|aa
 exact A5 a
 refine have a:Ce y am (D0 y am aa) af av aw ax ay az ag aj a0 e=some bq:=a; ?_
 obtain ⟨fe,b8⟩:∃s,s=D0 y am aa:=⟨_,rfl⟩
 rw [←b8,Ce] at a
 refine AR<|Sr<|Vx (Fd O5 Z)<|Vx (Ld O8 Z (Bc b6 Z))<|Vx (v:=.bool (!(Th.isNil aj))) (Sy Vd Z Z b4)<|AA<|Cn a (fun dk a=>?_) fun dk a=>?_
 refine WC.skip<|Af<|AR<|BW Cv (qs 0 5 (.one 5 (.q 6 (.q 7 (.one 8 (.one 9 (.q 10 (.one 11 .nil)))))))) [11] [1,24] l (by kernel_rfl) fun dl o=>Qx z Z (fun _ _=>Fd D8 Z)<|have b9:=Bs b7 o;Qx z Z (fun _ ⟨_,u⟩=>Ld Ib Z (Bc (Bs b9 u) Z))<|Qx z Z (fun _ _=>Fd O5 Z)<|have ca:=Bs b6 o;Qx z Z (fun _ ⟨_,u⟩=>Ld O8 Z (Bc (Bs ca u) Z))<|Qx z Z (v:=Pt ai 0) (fun _ _=>Mv Z)<|VT Z<|have dm:=Bs b5 o;have dn:=Ss AI b3 o;have cb:=Ms (Ms (Ms (Ms (Ms (Ms ct h) f) m) n) ah) o;have dp:=Mt b4 o;Bi a fun dq dr a=>?_
 obtain ⟨ff,fg,ds,dt⟩:=PP y l dl dr dcd dcd dm dn cb dp
 refine U2.callp Z (.none Z) Z Z (ds (vs:=[Pt ai 0]) Z Z)<|Calls.mono dt ?_
 rintro _ fh ⟨cc,fi,p,cd,bd,du⟩
 obtain ⟨dv,dw,rfl⟩:=AT bd
 obtain ⟨fj,dx,rfl⟩| ⟨d,dy,fk,rfl,fl,rfl,dz⟩:=E0.split du
 refine have a:=EA a dx; .inl ⟨_,Z,?_⟩
 obtain rfl:=AK a
 refine N4 (B:=B) ap<|⟨cc,Sl dv dq.2.1 dw,Ho (T2 (T4 (Mo [1,20,22,24] h) f m n ah) o p) al,cd,bd,Gj⟩
 refine have a:=HQ a dy; ?_
 obtain ⟨fm,d0,d1,rfl,d2,fn,fo⟩:=Dd dz
 obtain ⟨be,bf,rfl⟩:=AT d2
 refine .inr ⟨_,Z,⟨_,(Mo [1,24] p)⟩,?_⟩
 refine Qx z Z (v:=Ag [I d.plain.type_,Cx d.plain.num,.bool d.plain.bool,Sl be d.plain.list bf]) (fun _ _=>P4 (cs:=[I d.plain.type_,Cx d.plain.num,.bool d.plain.bool,Sl be d.plain.list bf,d0,d1]) S5 Z)<|Qx z Z (v:=Cx d.plain.num) (fun _ _=>Kr (cs:=[I d.plain.type_,Cx d.plain.num,.bool d.plain.bool,Sl be d.plain.list bf]) ZP Z Z)<|A1 Z<|Bb Z (.none Z) Z Z<|Ch (cs:=[Cx d.plain.num]) cc 23 [[Cx d.plain.num]] IQ Vj Z Z (.cons Z Z Z .nil) Z fun d3 d4 d5 d6 q=>have d7:Own Kd.cpx 35 d3 d4 23 (.slice (some ⟨d5,0,none⟩) 1 1) ([d.plain.num]:List (Nat×Nat)):=Own.lit (css:=[[Cx d.plain.num]]) d6 Z Z Z (Aa Z BA) (A4 Z D3) Z;⟨⟨_,(Tn (Mo [1,24] p) q)⟩,?_⟩
 refine A1 Z<|have d8:=Os (Os (Os bc o) p) q;Bi a fun fp cf a=>Bb Z (.none Z) Z Z<|Bu (κ:=Kd.cpx) Z Z d8 dcd Vb (CC d7) (Et cf) (E6 cf) fun fq d9 fr bg w=>?_
 obtain ⟨bh,bi,rfl⟩:=Own.len bg
 refine ⟨⟨_,(T2 (Mo [1,24] p) q w)⟩,?_⟩
 refine Qx z Z (fun _ _=>Fd D8 Z)<|ES dcd<|WY.one<|have ea:=Y3 b9 p q w;BM Z (.none Z) Z<|Bv (vs:=[Sl bh ((e++([d.plain.num]:List (Nat×Nat)))) bi]) (cs':=[I 3,Cx (((0,0):Nat×Nat)),.bool false,Sl bh ((e++([d.plain.num]:List (Nat×Nat)))) bi]) Vf Z Z Z Z (AX (Own.one bg) CJ) ea dcd Z Z fun eb ec ad=>WY.nil<|AL<|Vx (Fd W3 Z)<|have cg:=Y4 ca p q w ad;Vx (Ld O8 Z (Bc cg Z))<|Vm<|have ed:=Y3 cd q w ad;have ee:=K3 AI bd q w ad;have ef:=Ms (Ms (Ms (Ms cb p) q) w) ad;have eg:=Mt (Mt (Mt (Mt (Mt dj o) p) q) w) ad;Bi a fun a1 eh a=>?_
 obtain ⟨fs,ft,ei,ej⟩:=PP y d9 eb eh dcd dcd ed ee ef eg
 refine Iq (.none Z) Z Z (ei (vs:=[Pt ai 0]) Z Z)<|Calls.mono ej ?_
 rintro _ fu ⟨ch,fv,ak,ci,bj,ek⟩
 obtain ⟨cj,ck,rfl⟩:=AT bj
 obtain ⟨fw,el,rfl⟩| ⟨g,em,fx,rfl,fy,rfl,en⟩:=E0.split ek
 refine have a:=EA a el; .inl ⟨_,Z,?_⟩
 obtain rfl:=AK a
 refine N4 (B:=B) ap<|⟨ch,Sl cj a1.2.1 ck,Ho (T2 (T4 (T4 (Mo [1,20,22,24] h) f m n ah) o p q w) ad ak) al,ci,bj,Gj⟩
 refine have a:=HQ a em; ?_
 obtain ⟨fz,bk,bl,rfl,bm,cl,cm⟩:=Dd en
 obtain ⟨bn,bo,rfl⟩:=AT bm
 refine .inr ⟨_,Z,?_⟩
 refine have eo:=Bs cg ak;Eu<|Bv (vs:=[I g.plain.type_,Cx g.plain.num,.bool g.plain.bool,Sl bn g.plain.list bo,bk,bl]) (cs':=[I g.plain.type_,Cx g.plain.num,.bool g.plain.bool,Sl bn g.plain.list bo,bk,bl]) Js Z Z Z Z (AX Z (AX Z (AX Z (AX (E8 bm) (AX (MTh.one cl) (AX (MTh.one cm) CJ)))))) eo dcd Z Z fun f0 ep ae=>AA<|have eq:=Ss AI bj ae;have er:=Ss Kd.cpx bm ae;have es:=Os (Os (Os bg ad) ak) ae;have et:=Mt cl ae;have eu:=Mt cm ae;have ew:=Bs ci ae;have ex:=Y2 ec ak ae;⟨aa,Nat.lt_succ_self aa,_,ch,a1.2.1,cj,ck,a1.2.2.1,a1.2.2.2,g.plain.type_,g.plain.num,g.plain.bool,g.plain.list,bn,bo,g.head,bk,g.tail,bl,(e++([d.plain.num]:List (Nat×Nat))),bh,bi,Pu,(b8▸a),(T3 (T4 (Mo [1,20,22,24] ah) o p q w) ad ak ae),eq,er,es,et,eu,ew,ep,ex⟩
 refine Ba<|Sr<|Vx (Lx B0 Z Z (Bk.part b7 0 [I 3,Cx (((0,0):Nat×Nat)),.bool false,Sl ab e ac] Z))<|have ey:=Y3 bx m n ah;Eu<|Bv (vs:=[I 3,Cx (((0,0):Nat×Nat)),.bool false,Sl ab e ac]) (cs':=[I 3,Cx (((0,0):Nat×Nat)),.bool false,Sl ab e ac]) Cw Z Z Z Z (AX Z (AX Z (AX Z (AX (Own.one bc) CJ)))) ey dcd Z Z fun f1 ez a2=>AA<|AQ<|have e0:=Os bc a2; ?_
 obtain ⟨e1,a3,e2⟩:=Own.freeze (S:=[24]) e0 dcd dcd
 obtain rfl:=AK a
 refine have e3:=Bs ez a3;O1 B ap Z (.agg B0 Z Z (Bk.part e3 0 [I 3,Cx (((0,0):Nat×Nat)),.bool false,Sl ab e ac] Z))<|have e4:=Y2 b5 a2 a3;have e5:=K2 AI b3 a2 a3;⟨e1,Sl ar af au,Ho (T2 (T4 (Mo [1,20,21,22,24] h) f m n ah) a2 a3) al,e4,e5,Fc ⟨[I 3,Cx (((0,0):Nat×Nat)),.bool false,Sl ab e ac],Z,(Al (x:=(AF.mk 3 ((0,0):Nat×Nat) false e)) e2)⟩⟩
theorem Qh(e:Nat):ER.Spec (ER e):=by
 intro d f a c z aa ab ac ad ae af ag ah ai l hnd hnz g m n o
 refine Calls.mono (QE e (recol (see [a,c]) d) f (Fa (Nat.le_of_ble_eq_true Z) d) l trivial trivial (BU g [a,c] (BP hnd hnz (i:=0) Z)) (Eo AI m [a,c]) (Fs n [a,c] (BP hnd hnz (i:=1) Z)) (BY HS o [a,c])) ?_
 rintro aj ak ⟨p,q,s,w,y,en⟩
 exact ⟨glue [a,c] f d p,q,CA s (Fb Z Z),ED g w dcd,HO AI y,Pc en fun r v ⟨u,hv,h⟩=>⟨u,hv,Dm Ao h⟩⟩
def GW.At(c:Col)(a:World)(f:AM→Bts→(List AF)→Int→Option BE):Prop:=
 ∀{d e g h l m n},f d g h m=some n→CK.rep c.F a e d→Slc Ao c.F a l h→
  Calls PG 13 #[Ag e,Sb g,l,I m] a fun r o=>∃p q,r=.returned (Ag q)∧AS [] c a p o∧MS.rep p.F o q n
def GW.Spec(f:AM→Bts→(List AF)→Int→Option BE):Prop:=
 ∀a c,GW.At a c f
end Fth
