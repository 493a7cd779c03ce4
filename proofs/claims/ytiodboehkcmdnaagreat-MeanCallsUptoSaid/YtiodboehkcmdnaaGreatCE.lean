/- Part 5 of the proof: what it says holds of the given program; no condition. -/
import Derived.Test.YtiodboehkcmdnaaGreatProg
import Derived.KernelRfl
import Derived.Test.YtiodboehkcmdnaaGreatCD
set_option linter.all false
set_option exponentiation.threshold 3000
namespace Fth
open Go Go.Proofs Sh
set_option maxRecDepth 100000
set_option maxHeartbeats 8000000
theorem OX(a9:AF)(ba:Nat)(au:AF.Good a9)(y:Col)(ad:World)(z:∀b,y b<10){q:Nat}{n:(List AO)}{bt:Value}{g:(List AJ)}{bu:Value}{bb:Nat}{bc:Aq}{a3:Nat}{f:AD}{bv:List Value}{e:AE}{bw:List Value}{ae:Int×(List AO)×(List AJ)×AD}(ai:Bk y ad 1 q [.map (some bb),bt,bu,.func (.func 52) #[] [Pt a3 0].toArray] 134)(aa:Slc AI y.F ad bt n)(af:Own Ab 87 y ad 4 bu g)(a4:Mp y ad 2 bb bc)(ag:Bk y ad 3 a3 bv 63)(c0:An.rep y.F ad bv f)(c1:AH.rep y.F ad bw e)(a:Gz a9 ba n g bc f e=some ae):
  Calls PG 87 #[Pt q 0,Ag bw] ad fun c2 ap=>∃aq bx bz b0,c2=.returned (I ae.1)∧AU [1,3,4] y ad aq ap∧Bk aq ap 1 q [.map (some bb),bx,bz,.func (.func 52) #[] [Pt a3 0].toArray] 134∧Slc AI aq.F ap bx ae.2.1∧Own Ab 87 aq ap 4 bz ae.2.2.1∧Bk aq ap 3 a3 b0 63∧An.rep aq.F ap b0 ae.2.2.2:=by
 rw [Gz] at a
 obtain ⟨av,aw,rfl⟩:=AS aa
 obtain ⟨ax,ay,rfl⟩:=Own.len af
 obtain rfl:=As c0
 obtain ⟨a5,a6,rfl,az⟩:=E1 (Ae c1)
 refine Ay Tryz.func87 rfl Tryz.ntmps87 rfl fun B ab r=>Sr<|Ef<|A0 y 20 rfl rfl fun bd c3 b1 an d=>Va (I 0)<|AA<|AR<|Sr<|Vx (Fz Cy rfl)<|Vx (Ld GT rfl (Bc an rfl))<|AA<|Ah<|Am (fun a0 aj=>∃ak o be,a0=Env.puts ak [(0,Pt q 0),(3,Pt b1 0),(7,I e.op),(8,.bool be)]∧FD a9 ba n g bc f e be=some ae∧AU [] bd c3 o aj) ?_ ?_
 refine Sr<|Vr (.bool (e.op==2))<|Va (.bool (e.op==2))<|AA<|Cn a (fun c4 a=>?_) fun c4 a=>?_
 refine WC.skip<|⟨_,bd,(e.op==2),Pu,a,Rf⟩
 refine AL<|Vr (.bool (e.op==3))<|Va (.bool (e.op==3))<|AA<|⟨_,bd,(e.op==3),Pu,a,Rf⟩
 rintro _ aj ⟨ak,o,be,rfl,a,c⟩
 rw [FD] at a
 refine Cn a (fun c5 a=>?_) fun c5 a=>?_
 refine Sr<|Va (I 2)<|AA<|AQ ?_
 obtain rfl:=AK a
 refine O1 B ab rfl (.tmp rfl)<|have c6:=Y2 ai d c;have c7:=K2 AI aa d c;have c8:=Os (Os af d) c;have c9:=Y2 ag d c;⟨o,Sl av n aw,Sl ax g ay,[I f.why,I f.at_],rfl,Ho (Tn (Mo [] d) c) z,c6,c7,c8,c9,(Ak (x:=f))⟩
 refine Sr<|Vr (.bool (e.op==4))<|Va (.bool (e.op==4))<|AA<|Cn a (fun da a=>?_) fun da a=>?_
 refine Sr<|Va (I 3)<|AA<|AQ ?_
 obtain rfl:=AK a
 refine O1 B ab rfl (.tmp rfl)<|have db:=Y2 ai d c;have dc:=K2 AI aa d c;have de:=Os (Os af d) c;have df:=Y2 ag d c;⟨o,Sl av n aw,Sl ax g ay,[I f.why,I f.at_],rfl,Ho (Tn (Mo [] d) c) z,db,dc,de,df,(Ak (x:=f))⟩
 refine Sr<|Vr (.bool (e.op==5))<|Va (.bool (e.op==5))<|AA<|Cn a (fun dg a=>?_) fun dg a=>?_
 refine Sr<|Vx (Fd LP rfl)<|have dh:=Bs an c;Vx (Ld EZ rfl (Bc dh rfl))<|Va (I e.type_)<|AA<|AQ ?_
 obtain rfl:=AK a
 refine O1 B ab rfl (.tmp rfl)<|have di:=Y2 ai d c;have dj:=K2 AI aa d c;have dk:=Os (Os af d) c;have dl:=Y2 ag d c;⟨o,Sl av n aw,Sl ax g ay,[I f.why,I f.at_],rfl,Ho (Tn (Mo [] d) c) z,di,dj,dk,dl,(Ak (x:=f))⟩
 refine Sr<|Vr (.bool (e.op==6))<|Va (.bool (e.op==6))<|AA<|Cn a (fun dm a=>?_) fun dm a=>?_
 refine AR<|Sr<|Vm<|Vx (Nc rfl)<|Vx (Fd Fg rfl)<|have bf:=Y2 ai d c;Vx (Ld Ep rfl (Bc bf rfl))<|have bg:=Os (Os af d) c; ?_
 obtain ⟨g1,g2,dn⟩:=Own.len bg
 refine Vx (v:=I (g.length:Int)) (Ll D6 dn)<|Vr (I (Wr ((g.length:Int) - 1)))<|Va (I (Wr ((g.length:Int) - 1)))<|AA<|Ah<|Bj (fun al a0 b2=>∃ak am u,a0=Env.puts ak [(0,Pt q 0),(3,Pt b1 0),(5,I u)]∧FC n g f e al u=some ae∧AU [] o aj am b2) ba ?_ ?_
 exact ⟨_,o,(Wr ((g.length:Int) - 1)),Pu,a,Rf⟩
 rintro al _ b2 ⟨ak,am,u,rfl,a,p⟩
 rcases al with _|al
 exact A7 a
 refine have a:HH n g f e (FC n g f e al) u=some ae:=a; ?_
 obtain ⟨g3,b3⟩:∃s,s=FC n g f e al:=⟨_,rfl⟩
 rw [←b3,HH] at a
 refine AR<|Sr<|Vm<|Vr (.bool (decide (u≥0)))<|AA<|Cn a (fun dp a=>?_) fun dp a=>?_
 refine WC.skip<|AR<|Ah<|AR<|BY DF (qs 0 11 .nil) [] [] am (by kernel_rfl) fun b4 ao=>Qx r rfl (v:=Pt q 0) (fun _ _=>Mv rfl)<|Qx r rfl (fun _ _=>Nc rfl)<|Qx r rfl (fun _ _=>Fd Fg rfl)<|have bh:=Y2 bf p ao;Qx r rfl (fun _ ⟨_,m⟩=>Ld Ep rfl (Bc (Bs bh m) rfl))<|Qx r rfl (v:=I u) (fun _ _=>Mv rfl)<|Bi a fun dq dr a=>have bi:=Os (Os bg p) ao; ?_
 obtain ⟨ds,g4,dt,du,dv,dw,dx,bj⟩:=J5 (κ:=Ab) bi dr
 replace bj:F4 4 am b4 ds (0+u.toNat*3) dt:=bj
 obtain rfl:=Et dx
 refine Qx r rfl (fun _ _=>Ix D6 du rfl dv dw)<|Qx r rfl (fun _ _=>Fz LQ rfl)<|Qx r rfl (fun _ ⟨_,m⟩=>Ld CF rfl (F4.cell0 (F4.step bj m dcd) rfl))<|Qx r rfl (fun _ _=>Fd Di rfl)<|have dy:=Y3 an c p ao;Qx r rfl (fun _ ⟨_,m⟩=>Ld CF rfl (Bc (Bs dy m) rfl))<|Qx r rfl (v:=.bool (dq.name==e.name)) (fun _ _=>Run.strEq rfl rfl)<|B7<|Cn a (fun dz a=>?_) fun dz a=>?_
 refine Sr<|Vm<|Vx (Nc rfl)<|Vx (Fd Fg rfl)<|Vx (Ld Ep rfl (Bc bh rfl))<|Vm<|Bi a fun d0 d1 a=>?_
 obtain ⟨d2,g5,d3,d4,d5,d6,d7,bk⟩:=J5 (κ:=Ab) bi d1
 replace bk:F4 4 am b4 d2 (0+u.toNat*3) d3:=bk
 obtain rfl:=Et d7
 refine Vx (Ix D6 d4 rfl d5 d6)<|Vx (Fd Ng rfl)<|Vx (Ld EZ rfl (F4.cell (j:=1) bk rfl))<|Va (I d0.type_)<|AA<|AQ ?_
 obtain rfl:=AK a
 refine O1 B ab rfl (.tmp rfl)<|have d8:=K4 AI aa d c p ao;have d9:=Y4 ag d c p ao;⟨am,Sl av n aw,Sl ax g ay,[I f.why,I f.at_],rfl,Ho (T3 (Mo [] d) c p ao) z,bh,d8,bi,d9,(Ak (x:=f))⟩
 refine WC.skip<|AL<|Vm<|Vr (I (Wr (u - 1)))<|Va (I (Wr (u - 1)))<|AA<|⟨al,Nat.lt_succ_self al,_,am,(Wr (u - 1)),Pu,(b3▸a),(Tn (Mo [] p) ao)⟩
 refine Bd<|Sr<|Va (I 0)<|AA<|AQ ?_
 obtain rfl:=AK a
 refine O1 B ab rfl (.tmp rfl)<|have ea:=Bs bf p;have eb:=K3 AI aa d c p;have ec:=Os bg p;have ed:=Y3 ag d c p;⟨am,Sl av n aw,Sl ax g ay,[I f.why,I f.at_],rfl,Ho (T2 (Mo [] d) c p) z,ea,eb,ec,ed,(Ak (x:=f))⟩
 refine Sr<|Vr (.bool (e.op==7))<|Va (.bool (e.op==7))<|AA<|Cn a (fun ee a=>?_) fun ee a=>?_
 refine Sr<|Vm<|have ef:=Bs an c;Vx (Lx A8 rfl rfl (Bw ef))<|have eg:=Y2 ai d c;have eh:=K2 AI aa d c;have ei:=Os (Os af d) c;have ej:=Ms (Ms a4 d) c;have ek:=Y2 ag d c;have el:=K2 AH az d c;Bi a fun ar em a=>Ca (Cg [Pt q 0,Ag [I e.op,Sb e.name,Sb e.tail,I e.type_,Cx e.num,Sl a5 e.args a6,I e.at_]] rfl) (au.types_checker_call o aj (ko0_2:=4) em dcd dcd eg eh ei ej ek (Ak (x:=f)) (AW (x:=e) el)) ?_
 rintro _ g6 ⟨en,g7,g8,g9,rfl,eo,ep,b5,b6,eq,er⟩
 obtain ⟨es,et,rfl⟩:=AS b5
 obtain ⟨eu,ew,rfl⟩:=Own.len b6
 obtain rfl:=As er
 refine Va (I ar.1)<|AA<|AQ ?_
 obtain rfl:=AK a
 refine O1 B ab rfl (.tmp rfl)<|⟨en,Sl es ar.2.1 et,Sl eu ar.2.2.1 ew,[I ar.2.2.2.why,I ar.2.2.2.at_],rfl,Ho (T2 (Mo [1,3,4] d) c eo) z,ep,b5,b6,eq,(Ak (x:=ar.2.2.2))⟩
 refine Sr<|Vr (.bool (e.op==14))<|Va (.bool (e.op==14))<|AA<|Cn a (fun ex a=>?_) fun ex a=>?_
 refine Sr<|Vm<|Vx (Fd BS rfl)<|have ey:=Bs an c;Vx (Ld Cf rfl (Bc ey rfl))<|have ez:=Y2 ai d c;have e0:=K2 AI aa d c;have e1:=Os (Os af d) c;have e2:=Ms (Ms a4 d) c;have e3:=Y2 ag d c;have e4:=K2 AH az d c;Bi a fun a1 e5 a=>Ca (Cg [Pt q 0,I 2,Sl a5 e.args a6] rfl) (au.types_checker_all o aj (ko0_2:=4) e5 dcd dcd ez e0 e1 e2 e3 (Ak (x:=f)) e4) ?_
 rintro _ ha ⟨e6,hb,hc,hd,rfl,e7,e8,b7,b8,e9,fa⟩
 obtain ⟨fb,fc,rfl⟩:=AS b7
 obtain ⟨fd,fe,rfl⟩:=Own.len b8
 obtain rfl:=As fa
 refine AA<|Sr<|Va (I 2)<|AA<|AQ ?_
 obtain rfl:=AK a
 refine O1 B ab rfl (.tmp rfl)<|⟨e6,Sl fb a1.1 fc,Sl fd a1.2.1 fe,[I a1.2.2.why,I a1.2.2.at_],rfl,Ho (T2 (Mo [1,3,4] d) c e7) z,e8,b7,b8,e9,(Ak (x:=a1.2.2))⟩
 refine Sr<|Vr (.bool (e.op==18))<|Va (.bool (e.op==18))<|AA<|Cn a (fun ff a=>?_) fun ff a=>?_
 refine Sr<|Vm<|Vx (Fd BS rfl)<|have b9:=Bs an c;Vx (Ld Cf rfl (Bc b9 rfl))<|Bi a fun h fg a=>have ca:=K2 AH az d c; ?_
 obtain ⟨fh,fi,he,fj,fk,fl,fm,fn,bl⟩:=A9 (κ:=AH) ca fg
 replace bl:Ax o aj fh (fi+(0:Int).toNat*7) fj:=bl
 obtain ⟨cc,cd,rfl,cb⟩:=E1 (Ae fn)
 refine Vx (Ix CG fk rfl fl fm)<|Vx (Lx A8 rfl rfl (Ax.part0 bl [I h.op,Sb h.name,Sb h.tail,I h.type_,Cx h.num,Sl cc h.args cd,I h.at_] rfl))<|have fo:=Y2 ai d c;have fp:=K2 AI aa d c;have fq:=Os (Os af d) c;have cf:=Ms (Ms a4 d) c;have fr:=Y2 ag d c;Bi a fun fs ft a=>Ca (Cg [Pt q 0,Ag [I h.op,Sb h.name,Sb h.tail,I h.type_,Cx h.num,Sl cc h.args cd,I h.at_],I 1] rfl) (au.types_checker_want o aj (ko0_2:=4) ft dcd dcd fo fp fq cf fr (Ak (x:=f)) (AW (x:=h) cb)) ?_
 rintro _ cg ⟨ch,hg,hh,hi,rfl,a7,fu,ci,cj,fv,fw⟩
 obtain ⟨hj,hk,rfl⟩:=AS ci
 obtain ⟨hl,hm,rfl⟩:=Own.len cj
 obtain rfl:=As fw
 refine AA<|Sr<|Vm<|Vx (Fd BS rfl)<|have fx:=Bs b9 a7;Vx (Ld Cf rfl (Bc fx rfl))<|Bi a fun l fy a=>have fz:=Ss AH ca a7; ?_
 obtain ⟨f0,f1,hn,f2,f3,f4,f5,f6,bm⟩:=A9 (κ:=AH) fz fy
 replace bm:Ax ch cg f0 (f1+(1:Int).toNat*7) f2:=bm
 obtain ⟨cl,cm,rfl,ck⟩:=E1 (Ae f6)
 refine Vx (Ix CG f3 rfl f4 f5)<|Vx (Lx A8 rfl rfl (Ax.part0 bm [I l.op,Sb l.name,Sb l.tail,I l.type_,Cx l.num,Sl cl l.args cm,I l.at_] rfl))<|have f7:=Ms cf a7;Bi a fun a2 f8 a=>Ca (Cg [Pt q 0,Ag [I l.op,Sb l.name,Sb l.tail,I l.type_,Cx l.num,Sl cl l.args cm,I l.at_],I 3] rfl) (au.types_checker_want ch cg (ko0_2:=4) f8 dcd dcd fu ci cj f7 fv (Ak (x:=fs.2.2)) (AW (x:=l) ck)) ?_
 rintro _ hp ⟨f9,hq,hr,hs,rfl,ga,gb,cn,co,gc,gd⟩
 obtain ⟨ge,gf,rfl⟩:=AS cn
 obtain ⟨gg,gh,rfl⟩:=Own.len co
 obtain rfl:=As gd
 refine AA<|Sr<|Va (I 3)<|AA<|AQ ?_
 obtain rfl:=AK a
 refine O1 B ab rfl (.tmp rfl)<|⟨f9,Sl ge a2.1 gf,Sl gg a2.2.1 gh,[I a2.2.2.why,I a2.2.2.at_],rfl,Ho (T3 (Mo [1,3,4] d) c a7 ga) z,gb,cn,co,gc,(Ak (x:=a2.2.2))⟩
 refine WC.skip<|Sr<|Vm<|Vx (Fd BS rfl)<|have cq:=Bs an c;Vx (Ld Cf rfl (Bc cq rfl))<|have gi:=Y2 ai d c;have gj:=K2 AI aa d c;have gk:=Os (Os af d) c;have gl:=Ms (Ms a4 d) c;have gm:=Y2 ag d c;have gn:=K2 AH az d c;Bi a fun w go a=>Ca (Cg [Pt q 0,I 1,Sl a5 e.args a6] rfl) (au.types_checker_all o aj (ko0_2:=4) go dcd dcd gi gj gk gl gm (Ak (x:=f)) gn) ?_
 rintro _ gp ⟨bn,ht,hu,hw,rfl,bo,cr,bp,bq,ct,gq⟩
 obtain ⟨cu,cv,rfl⟩:=AS bp
 obtain ⟨cw,cx,rfl⟩:=Own.len bq
 obtain rfl:=As gq
 refine AA<|AR<|Am (fun a0 cy=>∃ak a8 br,a0=Env.puts ak [(84,.bool br)]∧Hp w br=some ae∧AU [] bn gp a8 cy) ?_ ?_
 refine AL<|Vx (Fz Cy rfl)<|have cz:=Bs cq bo;Vx (Ld GT rfl (Bc cz rfl))<|Vr (.bool (e.op==12))<|Vm<|Bo a (fun ah a=>?_) fun ah a=>?_
 refine Pg ah<|Pg ah<|Pg ah<|Vp ah<|AA<|⟨_,bn,true,Pu,a,Rf⟩
 refine Gx ah (Fz Cy rfl)<|Gx ah (Ld GT rfl (Bc cz rfl))<|Gr ah (.bool (e.op==13))<|Vp ah<|AA<|⟨_,bn,(e.op==13),Pu,a,Rf⟩
 rintro _ cy ⟨ak,a8,br,rfl,a,ac⟩
 rw [Hp] at a
 refine Cn a (fun gr a=>?_) fun gr a=>?_
 refine Sr<|Va (I 2)<|AA<|AQ ?_
 obtain rfl:=AK a
 refine O1 B ab rfl (.tmp rfl)<|have gs:=Bs cr ac;have gt:=Ss AI bp ac;have gu:=Os bq ac;have gv:=Bs ct ac;⟨a8,Sl cu w.1 cv,Sl cw w.2.1 cx,[I w.2.2.why,I w.2.2.at_],rfl,Ho (T3 (Mo [1,3,4] d) c bo ac) z,gs,gt,gu,gv,(Ak (x:=w.2.2))⟩
 refine WC.skip<|Sr<|Va (I 1)<|AA<|AQ ?_
 obtain rfl:=AK a
 refine O1 B ab rfl (.tmp rfl)<|have gw:=Bs cr ac;have gx:=Ss AI bp ac;have gy:=Os bq ac;have gz:=Bs ct ac;⟨a8,Sl cu w.1 cv,Sl cw w.2.1 cx,[I w.2.2.why,I w.2.2.at_],rfl,Ho (T3 (Mo [1,3,4] d) c bo ac) z,gw,gx,gy,gz,(Ak (x:=w.2.2))⟩
theorem OY(e:AF)(g:Nat)(o:AF.Good e):types_checker_own.Spec (Gz e g):=by
 intro f h ai a aj ak al am ko0_2 an c ao ap d aq ar au av aw p hnd hnz l q r s m u w
 refine Calls.mono (OX e g o (recol (see [a,c,d,ko0_2]) f) h (Fo lbr f) (BU l [a,c,d,ko0_2] (BP hnd hnz (i:=0) rfl)) (El AI q [a,c,d,ko0_2]) (IY r [a,c,d,ko0_2] (BP hnd hnz (i:=3) rfl)) (Fp s [a,c,d,ko0_2] (BP hnd hnz (i:=1) rfl)) (BU m [a,c,d,ko0_2] (BP hnd hnz (i:=2) rfl)) (BZ An u [a,c,d,ko0_2]) (BZ AH w [a,c,d,ko0_2]) p) ?_
 rintro ax ay ⟨y,z,aa,ab,ac,n,ad,ae,af,ag,ah⟩
 exact ⟨glue [a,c,d,ko0_2] h f y,z,aa,ab,ac,CI n (F0 rfl rfl),EA l ad dcd,HE AI ae,Kc (j:=3) af rfl rfl n,EA m ag dcd,D4 An ah⟩
theorem NO(y:AF)(az:Nat)(a0:AF.Good y)(a:Col)(d:World)(a1:∀b,a b<10){z o:Nat}{aa:(List AO)}{ab:Value}{ac:(List AJ)}{ad:Value}{r:Nat}{ae:Aq}{p:Nat}{s:AD}{af:List Value}{ag:Nat}{ah:AE}{ai:List Value}{aj:Nat}{u:Int}{q:(List AO)×(List AJ)×AD}(a2:Bk a d 1 z [Pt o 0] 130)(a3:Bk a d 2 o [.map (some r),ab,ad,.func (.func 52) #[] [Pt p 0].toArray] 134)(ak:Slc AI a.F d ab aa)(al:Own Ab 87 a d 7 ad ac)(a4:Mp a d 3 r ae)(a5:Bk a d 4 p af 63)(a6:An.rep a.F d af s)(a7:Bk a d 5 ag ai 56)(a8:AH.rep a.F d ai ah)(a9:Bk a d 6 aj [I u] 34)(g:FZ y az aa ac ae s ah u=some q):
  Calls PG 84 #[Pt z 0,Pt ag 0,Pt aj 0] d fun ba h=>∃l am an ao,ba=.returned (.tuple #[])∧AU [2,4,7] a d l h∧Bk l h 2 o [.map (some r),am,an,.func (.func 52) #[] [Pt p 0].toArray] 134∧Slc AI l.F h am q.1∧Own Ab 87 l h 7 an q.2.1∧Bk l h 4 p ao 63∧An.rep l.F h ao q.2.2:=by
 rw [FZ] at g
 obtain ⟨b4,b5,rfl⟩:=AS ak
 obtain ⟨b6,b7,rfl⟩:=Own.len al
 obtain rfl:=As a6
 obtain ⟨b9,ca,rfl,ap⟩:=E1 (Ae a8)
 refine Ay Tryz.func84 rfl Tryz.ntmps84 rfl fun B bb m=>BY DF (qs 0 6 (.one 6 .nil)) [] [2,4,7] a (by kernel_rfl) fun aq e=>have bc:=Bs a2 e;Qx m rfl (fun _ ⟨_,f⟩=>Ld KZ rfl (Bc (Bs bc f) rfl))<|Qx m rfl (fun _ _=>Fd BS rfl)<|have bd:=Bs a7 e;Qx m rfl (fun _ ⟨_,f⟩=>Ld Cf rfl (Bc (Bs bd f) rfl))<|Bi g fun c be g=>have bf:=Ss AH ap e; ?_
 obtain ⟨bg,bh,cb,bi,bj,bk,bl,bm,w⟩:=A9 (κ:=AH) bf be
 replace w:Ax a aq bg (bh+(2:Int).toNat*7) bi:=w
 obtain ⟨au,av,rfl,ar⟩:=E1 (Ae bm)
 refine Qx m rfl (fun _ _=>Ix CG bj rfl bk bl)<|Qx m rfl (fun _ ⟨_,f⟩=>Lx A8 rfl rfl (Ax.part0 (Es w f) [I c.op,Sb c.name,Sb c.tail,I c.type_,Cx c.num,Sl au c.args av,I c.at_] rfl))<|have bn:=Bs a9 e;Qx m rfl (fun _ ⟨_,f⟩=>Ld EZ rfl (Bc (Bs bn f) rfl))<|A2 rfl<|have bo:=Bs a3 e;have bp:=Ss AI ak e;have bq:=Os al e;have br:=Ms a4 e;have bt:=Bs a5 e;Bi g fun n bu g=>A3 rfl (.none rfl) rfl rfl (Cg [Pt o 0,Ag [I c.op,Sb c.name,Sb c.tail,I c.type_,Cx c.num,Sl au c.args av,I c.at_],I u] rfl)<|Calls.mono (a0.types_checker_want a aq (ko0_2:=7) bu dcd dcd bo bp bq br bt (Ak (x:=s)) (AW (x:=c) ar)) ?_
 rintro _ cd ⟨bv,cf,cg,ch,rfl,aw,bw,ax,ay,bx,bz⟩
 obtain ⟨b0,b1,rfl⟩:=AS ax
 obtain ⟨b2,b3,rfl⟩:=Own.len ay
 obtain rfl:=As bz
 refine ⟨_,rfl,⟨_,(Mo [2,4,7] aw)⟩,?_⟩
 refine B7 ?_
 obtain rfl:=AK g
 refine Ml (B:=B) bb<|Mk rfl<|⟨bv,Sl b0 n.1 b1,Sl b2 n.2.1 b3,[I n.2.2.why,I n.2.2.at_],rfl,Ho (Tn (Mo [2,4,7] e) aw) a1,bw,ax,ay,bx,(Ak (x:=n.2.2))⟩
theorem NP(h:AF)(m:Nat)(r:AF.Good h):types_checker_want_1.Spec (FZ h m):=by
 intro l n ao a ap c aq ar au av ko1_2 aw d ax ay e az a0 a1 f a2 a3 a4 g a5 a6 s hnd hnz u o w y z p aa ab ac ad
 refine Calls.mono (NO h m r (recol (see [a,c,d,e,f,g,ko1_2]) l) n (Fo lbr l) (BU u [a,c,d,e,f,g,ko1_2] (BP hnd hnz (i:=0) rfl)) (BU o [a,c,d,e,f,g,ko1_2] (BP hnd hnz (i:=1) rfl)) (El AI w [a,c,d,e,f,g,ko1_2]) (IY y [a,c,d,e,f,g,ko1_2] (BP hnd hnz (i:=6) rfl)) (Fp z [a,c,d,e,f,g,ko1_2] (BP hnd hnz (i:=2) rfl)) (BU p [a,c,d,e,f,g,ko1_2] (BP hnd hnz (i:=3) rfl)) (BZ An aa [a,c,d,e,f,g,ko1_2]) (BU ab [a,c,d,e,f,g,ko1_2] (BP hnd hnz (i:=4) rfl)) (BZ AH ac [a,c,d,e,f,g,ko1_2]) (BU ad [a,c,d,e,f,g,ko1_2] (BP hnd hnz (i:=5) rfl)) s) ?_
 rintro a7 a8 ⟨ae,af,ag,ah,ai,q,aj,ak,al,am,an⟩
 exact ⟨glue [a,c,d,e,f,g,ko1_2] n l ae,af,ag,ah,ai,CI q (F0 rfl rfl),EA o aj dcd,HE AI ak,Kc (j:=6) al rfl rfl q,EA p am dcd,D4 An an⟩
theorem NQ(af:AF)(bf:Nat)(ag:AF.Good af)(c:Col)(g:World)(bg:∀b,c b<10){ah q:Nat}{ai:(List AO)}{aj:Value}{ak:(List AJ)}{al:Value}{w:Nat}{am:Aq}{s:Nat}{y:AD}{an:List Value}{ao:Nat}{z:AE}{ap:List Value}{aq:Nat}{aa:Int}{u:(List AO)×(List AJ)×AD}(bh:Bk c g 1 ah [Pt q 0] 130)(bi:Bk c g 2 q [.map (some w),aj,al,.func (.func 52) #[] [Pt s 0].toArray] 134)(ar:Slc AI c.F g aj ai)(au:Own Ab 87 c g 7 al ak)(bj:Mp c g 3 w am)(bk:Bk c g 4 s an 63)(bl:An.rep c.F g an y)(bm:Bk c g 5 ao ap 56)(bn:AH.rep c.F g ap z)(bo:Bk c g 6 aq [I aa] 34)(h:Fa af bf ai ak am y z aa=some u):
  Calls PG 85 #[Pt ah 0,Pt ao 0,Pt aq 0] g fun bp o=>∃p av aw ax,bp=.returned (.tuple #[])∧AU [2,4,7] c g p o∧Bk p o 2 q [.map (some w),av,aw,.func (.func 52) #[] [Pt s 0].toArray] 134∧Slc AI p.F o av u.1∧Own Ab 87 p o 7 aw u.2.1∧Bk p o 4 s ax 63∧An.rep p.F o ax u.2.2:=by
 rw [Fa] at h
 obtain ⟨c3,c4,rfl⟩:=AS ar
 obtain ⟨c5,c6,rfl⟩:=Own.len au
 obtain rfl:=As bl
 obtain ⟨c8,c9,rfl,ay⟩:=E1 (Ae bn)
 refine Ay Tryz.func85 rfl Tryz.ntmps85 rfl fun B bq f=>AR<|BY DF (qs 0 7 (.one 7 .nil)) [] [2,4,7] c (by kernel_rfl) fun az l=>have a0:=Bs bh l;Qx f rfl (fun _ ⟨_,a⟩=>Ld KZ rfl (Bc (Bs a0 a) rfl))<|Qx f rfl (fun _ _=>Fd BS rfl)<|have ab:=Bs bm l;Qx f rfl (fun _ ⟨_,a⟩=>Ld Cf rfl (Bc (Bs ab a) rfl))<|Bi h fun d br h=>have a1:=Ss AH ay l; ?_
 obtain ⟨bt,bu,da,bv,bw,bx,bz,b0,ac⟩:=A9 (κ:=AH) a1 br
 replace ac:Ax c az bt (bu+(0:Int).toNat*7) bv:=ac
 obtain ⟨a3,a4,rfl,a2⟩:=E1 (Ae b0)
 refine Qx f rfl (fun _ _=>Ix CG bw rfl bx bz)<|Qx f rfl (fun _ ⟨_,a⟩=>Lx A8 rfl rfl (Ax.part0 (Es ac a) [I d.op,Sb d.name,Sb d.tail,I d.type_,Cx d.num,Sl a3 d.args a4,I d.at_] rfl))<|Qx f rfl (fun _ _=>Fd LP rfl)<|Qx f rfl (fun _ ⟨_,a⟩=>Ld EZ rfl (Bc (Bs ab a) rfl))<|A2 rfl<|have b1:=Bs bi l;have b2:=Ss AI ar l;have b3:=Os au l;have a5:=Ms bj l;have b4:=Bs bk l;Bi h fun b5 b6 h=>A3 rfl (.none rfl) rfl rfl (Cg [Pt q 0,Ag [I d.op,Sb d.name,Sb d.tail,I d.type_,Cx d.num,Sl a3 d.args a4,I d.at_],I z.type_] rfl)<|Calls.mono (ag.types_checker_want c az (ko0_2:=7) b6 dcd dcd b1 b2 b3 a5 b4 (Ak (x:=y)) (AW (x:=d) a2)) ?_
 rintro _ dc ⟨ad,de,df,dg,rfl,n,b7,a6,a7,b8,b9⟩
 obtain ⟨dh,di,rfl⟩:=AS a6
 obtain ⟨dj,dk,rfl⟩:=Own.len a7
 obtain rfl:=As b9
 refine ⟨_,rfl,⟨_,(Mo [2,4,7] n)⟩,?_⟩
 refine B7<|BY DF (qs 0 6 (.one 6 .nil)) [] [2,4,7] ad (by kernel_rfl) fun a8 m=>have ca:=Y2 a0 n m;Qx f rfl (fun _ ⟨_,a⟩=>Ld KZ rfl (Bc (Bs ca a) rfl))<|Qx f rfl (fun _ _=>Fd BS rfl)<|have cb:=Y2 ab n m;Qx f rfl (fun _ ⟨_,a⟩=>Ld Cf rfl (Bc (Bs cb a) rfl))<|Bi h fun e cc h=>have cd:=K2 AH a1 n m; ?_
 obtain ⟨cf,cg,dl,ch,ci,cj,ck,cl,ae⟩:=A9 (κ:=AH) cd cc
 replace ae:Ax ad a8 cf (cg+(1:Int).toNat*7) ch:=ae
 obtain ⟨ba,bb,rfl,a9⟩:=E1 (Ae cl)
 refine Qx f rfl (fun _ _=>Ix CG ci rfl cj ck)<|Qx f rfl (fun _ ⟨_,a⟩=>Lx A8 rfl rfl (Ax.part0 (Es ae a) [I e.op,Sb e.name,Sb e.tail,I e.type_,Cx e.num,Sl ba e.args bb,I e.at_] rfl))<|have cm:=Y3 bo l n m;Qx f rfl (fun _ ⟨_,a⟩=>Ld EZ rfl (Bc (Bs cm a) rfl))<|A2 rfl<|have cn:=Bs b7 m;have co:=Ss AI a6 m;have cq:=Os a7 m;have cr:=Ms (Ms a5 n) m;have ct:=Bs b8 m;Bi h fun r cu h=>A3 rfl (.none rfl) rfl rfl (Cg [Pt q 0,Ag [I e.op,Sb e.name,Sb e.tail,I e.type_,Cx e.num,Sl ba e.args bb,I e.at_],I aa] rfl)<|Calls.mono (ag.types_checker_want ad a8 (ko0_2:=7) cu dcd dcd cn co cq cr ct (Ak (x:=b5.2.2)) (AW (x:=e) a9)) ?_
 rintro _ dn ⟨cv,dp,dq,dr,rfl,bc,cw,bd,be,cx,cy⟩
 obtain ⟨cz,c0,rfl⟩:=AS bd
 obtain ⟨c1,c2,rfl⟩:=Own.len be
 obtain rfl:=As cy
 refine ⟨_,rfl,⟨_,(Mo [2,4,7] bc)⟩,?_⟩
 refine B7 ?_
 obtain rfl:=AK h
 refine Ml (B:=B) bq<|Mk rfl<|⟨cv,Sl cz r.1 c0,Sl c1 r.2.1 c2,[I r.2.2.why,I r.2.2.at_],rfl,Ho (T3 (Mo [2,4,7] l) n m bc) bg,cw,bd,be,cx,(Ak (x:=r.2.2))⟩
theorem NR(h:AF)(m:Nat)(r:AF.Good h):types_checker_want_2.Spec (Fa h m):=by
 intro l n ao a ap c aq ar au av ko1_2 aw d ax ay e az a0 a1 f a2 a3 a4 g a5 a6 s hnd hnz u o w y z p aa ab ac ad
 refine Calls.mono (NQ h m r (recol (see [a,c,d,e,f,g,ko1_2]) l) n (Fo lbr l) (BU u [a,c,d,e,f,g,ko1_2] (BP hnd hnz (i:=0) rfl)) (BU o [a,c,d,e,f,g,ko1_2] (BP hnd hnz (i:=1) rfl)) (El AI w [a,c,d,e,f,g,ko1_2]) (IY y [a,c,d,e,f,g,ko1_2] (BP hnd hnz (i:=6) rfl)) (Fp z [a,c,d,e,f,g,ko1_2] (BP hnd hnz (i:=2) rfl)) (BU p [a,c,d,e,f,g,ko1_2] (BP hnd hnz (i:=3) rfl)) (BZ An aa [a,c,d,e,f,g,ko1_2]) (BU ab [a,c,d,e,f,g,ko1_2] (BP hnd hnz (i:=4) rfl)) (BZ AH ac [a,c,d,e,f,g,ko1_2]) (BU ad [a,c,d,e,f,g,ko1_2] (BP hnd hnz (i:=5) rfl)) s) ?_
 rintro a7 a8 ⟨ae,af,ag,ah,ai,q,aj,ak,al,am,an⟩
 exact ⟨glue [a,c,d,e,f,g,ko1_2] n l ae,af,ag,ah,ai,CI q (F0 rfl rfl),EA o aj dcd,HE AI ak,Kc (j:=6) al rfl rfl q,EA p am dcd,D4 An an⟩
theorem NS(y:AF)(az:Nat)(a0:AF.Good y)(a:Col)(d:World)(a1:∀b,a b<10){z o:Nat}{aa:(List AO)}{ab:Value}{ac:(List AJ)}{ad:Value}{r:Nat}{ae:Aq}{p:Nat}{s:AD}{af:List Value}{ag:Nat}{ah:AE}{ai:List Value}{aj:Nat}{u:Int}{q:(List AO)×(List AJ)×AD}(a2:Bk a d 1 z [Pt o 0] 130)(a3:Bk a d 2 o [.map (some r),ab,ad,.func (.func 52) #[] [Pt p 0].toArray] 134)(ak:Slc AI a.F d ab aa)(al:Own Ab 87 a d 7 ad ac)(a4:Mp a d 3 r ae)(a5:Bk a d 4 p af 63)(a6:An.rep a.F d af s)(a7:Bk a d 5 ag ai 56)(a8:AH.rep a.F d ai ah)(a9:Bk a d 6 aj [I u] 34)(g:Fb y az aa ac ae s ah u=some q):
  Calls PG 86 #[Pt z 0,Pt ag 0,Pt aj 0] d fun ba h=>∃l am an ao,ba=.returned (.tuple #[])∧AU [2,4,7] a d l h∧Bk l h 2 o [.map (some r),am,an,.func (.func 52) #[] [Pt p 0].toArray] 134∧Slc AI l.F h am q.1∧Own Ab 87 l h 7 an q.2.1∧Bk l h 4 p ao 63∧An.rep l.F h ao q.2.2:=by
 rw [Fb] at g
 obtain ⟨b4,b5,rfl⟩:=AS ak
 obtain ⟨b6,b7,rfl⟩:=Own.len al
 obtain rfl:=As a6
 obtain ⟨b9,ca,rfl,ap⟩:=E1 (Ae a8)
 refine Ay Tryz.func86 rfl Tryz.ntmps86 rfl fun B bb m=>BY DF (qs 0 6 (.one 6 .nil)) [] [2,4,7] a (by kernel_rfl) fun aq e=>have bc:=Bs a2 e;Qx m rfl (fun _ ⟨_,f⟩=>Ld KZ rfl (Bc (Bs bc f) rfl))<|Qx m rfl (fun _ _=>Fd BS rfl)<|have bd:=Bs a7 e;Qx m rfl (fun _ ⟨_,f⟩=>Ld Cf rfl (Bc (Bs bd f) rfl))<|Bi g fun c be g=>have bf:=Ss AH ap e; ?_
 obtain ⟨bg,bh,cb,bi,bj,bk,bl,bm,w⟩:=A9 (κ:=AH) bf be
 replace w:Ax a aq bg (bh+(1:Int).toNat*7) bi:=w
 obtain ⟨au,av,rfl,ar⟩:=E1 (Ae bm)
 refine Qx m rfl (fun _ _=>Ix CG bj rfl bk bl)<|Qx m rfl (fun _ ⟨_,f⟩=>Lx A8 rfl rfl (Ax.part0 (Es w f) [I c.op,Sb c.name,Sb c.tail,I c.type_,Cx c.num,Sl au c.args av,I c.at_] rfl))<|have bn:=Bs a9 e;Qx m rfl (fun _ ⟨_,f⟩=>Ld EZ rfl (Bc (Bs bn f) rfl))<|A2 rfl<|have bo:=Bs a3 e;have bp:=Ss AI ak e;have bq:=Os al e;have br:=Ms a4 e;have bt:=Bs a5 e;Bi g fun n bu g=>A3 rfl (.none rfl) rfl rfl (Cg [Pt o 0,Ag [I c.op,Sb c.name,Sb c.tail,I c.type_,Cx c.num,Sl au c.args av,I c.at_],I u] rfl)<|Calls.mono (a0.types_checker_want a aq (ko0_2:=7) bu dcd dcd bo bp bq br bt (Ak (x:=s)) (AW (x:=c) ar)) ?_
 rintro _ cd ⟨bv,cf,cg,ch,rfl,aw,bw,ax,ay,bx,bz⟩
 obtain ⟨b0,b1,rfl⟩:=AS ax
 obtain ⟨b2,b3,rfl⟩:=Own.len ay
 obtain rfl:=As bz
 refine ⟨_,rfl,⟨_,(Mo [2,4,7] aw)⟩,?_⟩
 refine B7 ?_
 obtain rfl:=AK g
 refine Ml (B:=B) bb<|Mk rfl<|⟨bv,Sl b0 n.1 b1,Sl b2 n.2.1 b3,[I n.2.2.why,I n.2.2.at_],rfl,Ho (Tn (Mo [2,4,7] e) aw) a1,bw,ax,ay,bx,(Ak (x:=n.2.2))⟩
theorem NT(h:AF)(m:Nat)(r:AF.Good h):types_checker_want_3.Spec (Fb h m):=by
 intro l n ao a ap c aq ar au av ko1_2 aw d ax ay e az a0 a1 f a2 a3 a4 g a5 a6 s hnd hnz u o w y z p aa ab ac ad
 refine Calls.mono (NS h m r (recol (see [a,c,d,e,f,g,ko1_2]) l) n (Fo lbr l) (BU u [a,c,d,e,f,g,ko1_2] (BP hnd hnz (i:=0) rfl)) (BU o [a,c,d,e,f,g,ko1_2] (BP hnd hnz (i:=1) rfl)) (El AI w [a,c,d,e,f,g,ko1_2]) (IY y [a,c,d,e,f,g,ko1_2] (BP hnd hnz (i:=6) rfl)) (Fp z [a,c,d,e,f,g,ko1_2] (BP hnd hnz (i:=2) rfl)) (BU p [a,c,d,e,f,g,ko1_2] (BP hnd hnz (i:=3) rfl)) (BZ An aa [a,c,d,e,f,g,ko1_2]) (BU ab [a,c,d,e,f,g,ko1_2] (BP hnd hnz (i:=4) rfl)) (BZ AH ac [a,c,d,e,f,g,ko1_2]) (BU ad [a,c,d,e,f,g,ko1_2] (BP hnd hnz (i:=5) rfl)) s) ?_
 rintro a7 a8 ⟨ae,af,ag,ah,ai,q,aj,ak,al,am,an⟩
 exact ⟨glue [a,c,d,e,f,g,ko1_2] n l ae,af,ag,ah,ai,CI q (F0 rfl rfl),EA o aj dcd,HE AI ak,Kc (j:=6) al rfl rfl q,EA p am dcd,D4 An an⟩
theorem Nz(af:AF)(a7:Nat)(ci:AF.Good af)(p:Col)(u:World)(bm:∀b,p b<10){q:Nat}{ar:(List AO)}{bn:Value}{au:(List AJ)}{bo:Value}{aw:Nat}{g:Aq}{ak:Nat}{y:AD}{bp:List Value}{f:AE}{bq:List Value}{z:Int×(List AO)×(List AJ)×AD}(cj:Bk p u 1 q [.map (some aw),bn,bo,.func (.func 52) #[] [Pt ak 0].toArray] 134)(ax:Slc AI p.F u bn ar)(a8:Own Ab 87 p u 4 bo au)(ck:Mp p u 2 aw g)(br:Bk p u 3 ak bp 63)(cl:An.rep p.F u bp y)(cm:AH.rep p.F u bq f)(d:GK af a7 ar au g y f=some z):
  Calls PG 112 #[Pt q 0,Ag bq] u fun cn al=>∃am bt bu bv,cn=.returned (I z.1)∧AU [1,3,4] p u am al∧Bk am al 1 q [.map (some aw),bt,bu,.func (.func 52) #[] [Pt ak 0].toArray] 134∧Slc AI am.F al bt z.2.1∧Own Ab 87 am al 4 bu z.2.2.1∧Bk am al 3 ak bv 63∧An.rep am.F al bv z.2.2.2:=by
 rw [GK] at d
 obtain ⟨bw,bx,rfl⟩:=AS ax
 obtain ⟨bz,b0,rfl⟩:=Own.len a8
 obtain rfl:=As cl
 obtain ⟨e6,e7,rfl,a9⟩:=E1 (Ae cm)
 refine Ay Tryz.func112 rfl Tryz.ntmps112 rfl fun B b1 a=>Sr<|Ef<|A0 p 20 rfl rfl fun an e8 b2 co m=>Va (I 0)<|AA<|AR<|BY DF (qs 0 8 .nil) [] [] an (by kernel_rfl) fun cq l=>Qx a rfl (v:=Pt q 0) (fun _ _=>Mv rfl)<|Qx a rfl (fun _ _=>Nc rfl)<|Qx a rfl (fun _ _=>Fz Ug rfl)<|have ay:=Y2 cj m l;Qx a rfl (fun _ ⟨_,c⟩=>Ld Ol rfl (Bc (Bs ay c) rfl))<|Qx a rfl (fun _ _=>Fd Di rfl)<|have ba:=Bs co l;Qx a rfl (fun _ ⟨_,c⟩=>Ld CF rfl (Bc (Bs ba c) rfl))<|have b3:=Ms (Ms ck m) l;Qx a rfl (v:=I (Cr g f.name)) (fun _ ⟨_,c⟩=>J6 LD rfl rfl (Ms b3 c))<|Qx a rfl (v:=I (Cr g f.name)) (fun _ _=>Run.assign rfl)<|B7<|AR<|Am (fun bb az=>∃av ao bc,bb=Env.puts av [(0,Pt q 0),(3,Pt b2 0),(5,I (Cr g f.name)),(32,.bool bc)]∧Fn af a7 ar au g y f bc=some z∧AU [] an cq ao az) ?_ ?_
 refine BY DF (qs 0 18 .nil) [] [] an (by kernel_rfl) fun cr ap=>Qx a rfl (v:=I (Cr g f.name)) (fun _ _=>Mv rfl)<|Qx a rfl (v:=.bool ((Cr g f.name)==0)) (fun _ _=>rfl)<|Qx a rfl (v:=.bool ((Cr g f.name)==0)) (fun _ _=>Mv rfl)<|Bo d (fun e d=>?_) fun e d=>?_
 refine Qp a rfl e<|Qp a rfl e<|Qp a rfl e<|Qp a rfl e<|Qp a rfl e<|Qp a rfl e<|Qp a rfl e<|Qp a rfl e<|Qp a rfl e<|Qp a rfl e<|Qp a rfl e<|Qp a rfl e<|Qp a rfl e<|Qp a rfl e<|Qx a rfl (v:=.bool true) (fun _ _=>(Pk e))<|B7<|⟨_,an,true,Pu,d,(Mo [] ap)⟩
 refine Qg a rfl e (v:=Pt q 0) (fun _ _=>Mv rfl)<|Qg a rfl e (fun _ _=>Nc rfl)<|Qg a rfl e (fun _ _=>Fd QZ rfl)<|have ct:=Bs ay ap;Qg a rfl e (fun _ ⟨_,c⟩=>Ld Gv rfl (Bc (Bs ct c) rfl))<|Qg a rfl e (v:=I (Cr g f.name)) (fun _ _=>Mv rfl)<|Qg a rfl e (v:=I (Wr ((Cr g f.name) - 1))) (fun _ _=>rfl)<|Bi d fun a0 cu d=>have cv:=K3 AI ax m l ap; ?_
 obtain ⟨cw,cx,e9,cy,cz,c0,c1,c2,bd⟩:=A9 (κ:=AI) cv cu
 replace bd:Ax an cr cw (cx+((Wr ((Cr g f.name) - 1))).toNat*11) cy:=bd
 obtain ⟨fa,fb,rfl,b4,c3⟩:=Ck c2
 obtain ⟨fc,fd,rfl⟩:=AS b4
 obtain ⟨fe,ff,rfl⟩:=AS c3
 refine Qg a rfl e (fun _ _=>Ix F8 cz rfl c0 c1)<|Qg a rfl e (fun _ _=>Fd EU rfl)<|Qg a rfl e (fun _ ⟨_,c⟩=>Ld Ep rfl (Ax.cell (k:=1) (Es bd c) rfl)) ?_
 obtain ⟨fg,fh,c4⟩:=AS b4
 refine Qg a rfl e (v:=I (a0.params.length:Int)) (fun _ _=>Ll D6 c4)<|Qg a rfl e (fun _ _=>Fd BS rfl)<|have c5:=Bs ba ap;Qg a rfl e (fun _ ⟨_,c⟩=>Ld Cf rfl (Bc (Bs c5 c) rfl))<|have c6:=K3 AH a9 m l ap; ?_
 obtain ⟨fi,fj,c7⟩:=AS c6
 refine Qg a rfl e (v:=I (f.args.length:Int)) (fun _ _=>Ll CG c7)<|Qg a rfl e (v:=.bool ((a0.params.length:Int) != (f.args.length:Int))) (fun _ _=>rfl)<|Qx a rfl (v:=.bool ((a0.params.length:Int) != (f.args.length:Int))) (fun _ _=>(Pk e))<|B7<|⟨_,an,((a0.params.length:Int) != (f.args.length:Int)),Pu,d,(Mo [] ap)⟩
 rintro _ az ⟨av,ao,bc,rfl,d,n⟩
 rw [Fn] at d
 refine Cn d (fun c8 d=>?_) fun c8 d=>?_
 refine Sr<|Va (I 0)<|AA<|AQ ?_
 obtain rfl:=AK d
 refine O1 B b1 rfl (.tmp rfl)<|have c9:=Bs ay n;have da:=K3 AI ax m l n;have db:=Os (Os (Os a8 m) l) n;have dc:=Y3 br m l n;⟨ao,Sl bw ar bx,Sl bz au b0,[I y.why,I y.at_],rfl,Ho (T2 (Mo [] m) l n) bm,c9,da,db,dc,(Ak (x:=y))⟩
 refine WC.skip<|AR<|Sr<|Vm<|Vx (Nc rfl)<|Vx (Fd QZ rfl)<|have b5:=Bs ay n;Vx (Ld Gv rfl (Bc b5 rfl))<|Vm<|Vr (I (Wr ((Cr g f.name) - 1)))<|Bi d fun aa de d=>have b6:=K3 AI ax m l n; ?_
 obtain ⟨df,o80,fk,dg,dh,di,dj,dk,be⟩:=A9 (κ:=AI) b6 de
 replace be:Ax ao az df (o80+((Wr ((Cr g f.name) - 1))).toNat*11) dg:=be
 obtain ⟨fl,fm,rfl,bf,dl⟩:=Ck dk
 obtain ⟨dm,dn,rfl⟩:=AS bf
 obtain ⟨fn,fo,rfl⟩:=AS dl
 refine Vx (Ix F8 dh rfl di dj)<|Vx (Fd EU rfl)<|Vx (Ld Ep rfl (Ax.cell (k:=1) be rfl)) ?_
 obtain ⟨fp,fq,dp⟩:=AS bf
 refine Vx (v:=I (aa.params.length:Int)) (Ll D6 dp)<|Vm<|AA<|Ah<|Bj (fun ab bb ac=>∃av r o ag a1 a2 ah a3 a4 ai aj,bb=Env.puts av [(0,Pt q 0),(3,Pt b2 0),(5,I (Cr g f.name)),(41,Sl dm aa.params dn),(42,I (aa.params.length:Int)),(43,I o)]∧D8 af g f aa ab o ag ah ai aj=some z∧AU [1,3,4,21] ao az r ac∧Slc AI r.F ac (Sl a1 ag a2) ag∧Own Ab 87 r ac 4 (Sl a3 ah a4) ah∧Bk r ac 1 q [.map (some aw),Sl a1 ag a2,Sl a3 ah a4,.func (.func 52) #[] [Pt ak 0].toArray] 134∧Bk r ac 3 ak [I ai,I aj] 63) a7 ?_ ?_
 refine have dq:=Os (Os (Os a8 m) l) n;have dr:=Y3 br m l n;⟨_,ao,0,ar,bw,bx,au,bz,b0,y.why,y.at_,Pu,d,(AU.refl [1,3,4,21] _ _),b6,dq,b5,dr⟩
 rintro ab _ ac ⟨av,r,o,ag,a1,a2,ah,a3,a4,ai,aj,rfl,d,aq,bg,b7,bh,b8⟩
 rcases ab with _|ab
 exact A7 d
 refine have d:EW af g f aa (D8 af g f aa ab) o ag ah ai aj=some z:=d; ?_
 obtain ⟨fr,b9⟩:∃s,s=D8 af g f aa ab:=⟨_,rfl⟩
 rw [←b9,EW] at d
 refine Sr<|Vr (.bool (decide (o< (aa.params.length:Int))))<|AA<|AR<|Cn d (fun ds d=>?_) fun ds d=>?_
 refine WC.skip<|AR<|Ah<|Sr<|Vm<|Bi d fun a5 dt d=>have du:=Ss Ab bf aq; ?_
 obtain ⟨dv,dw,fs,dx,dy,dz,d0,d1,bi⟩:=A9 (κ:=Ab) du dt
 replace bi:Ax r ac dv (dw+o.toNat*3) dx:=bi
 obtain rfl:=Et d1
 refine Vx (Ix D6 dy rfl dz d0)<|Vx (Lx W2 rfl rfl (Ax.part0 bi [Sb a5.name,I a5.type_,I a5.at_] rfl))<|Ef<|AY r 21 L3 rfl fun bj ft fu d2 ad=>Va (I o)<|Eu<|St W8 d2 rfl rfl rfl rfl fun fv d3 ae=>AA<|BY DF (qs 0 8 (.one 8 .nil)) [] [1,3,4] bj (by kernel_rfl) fun ca w=>Qx a rfl (v:=Pt q 0) (fun _ _=>Mv rfl)<|Qx a rfl (fun _ _=>Fd BS rfl)<|have d4:=Bs (Y4 ba n aq ad ae) w;Qx a rfl (fun _ ⟨_,c⟩=>Ld Cf rfl (Bc (Bs d4 c) rfl))<|Qx a rfl (v:=I o) (fun _ _=>Mv rfl)<|Bi d fun h d5 d=>have d6:=K3 AH (K4 AH a9 m l n aq) ad ae w; ?_
 obtain ⟨d7,d8,fw,d9,ea,eb,ec,ed,bk⟩:=A9 (κ:=AH) d6 d5
 replace bk:Ax bj ca d7 (d8+o.toNat*7) d9:=bk
 obtain ⟨cc,cd,rfl,cb⟩:=E1 (Ae ed)
 refine Qx a rfl (fun _ _=>Ix CG ea rfl eb ec)<|Qx a rfl (fun _ ⟨_,c⟩=>Lx A8 rfl rfl (Ax.part0 (Es bk c) [I h.op,Sb h.name,Sb h.tail,I h.type_,Cx h.num,Sl cc h.args cd,I h.at_] rfl))<|Qx a rfl (fun _ _=>Fd Ng rfl)<|have ee:=Bs d3 w;Qx a rfl (fun _ ⟨_,c⟩=>Ld EZ rfl (Bc (Bs ee c) rfl))<|A2 rfl<|have ef:=Y3 bh ad ae w;have eg:=K3 AI bg ad ae w;have eh:=Os (Os (Os b7 ad) ae) w;have ei:=Ms (Ms (Ms (Ms (Ms b3 n) aq) ad) ae) w;have ej:=Y3 b8 ad ae w;Bi d fun a6 ek d=>A3 rfl (.none rfl) rfl rfl (Cg [Pt q 0,Ag [I h.op,Sb h.name,Sb h.tail,I h.type_,Cx h.num,Sl cc h.args cd,I h.at_],I a5.type_] rfl)<|Calls.mono (ci.types_checker_want bj ca (ko0_2:=4) ek dcd dcd ef eg eh ei ej (Ak (x:=(AD.mk ai aj))) (AW (x:=h) cb)) ?_
 rintro _ fy ⟨el,fz,f0,f1,rfl,cf,em,cg,ch,en,eo⟩
 obtain ⟨ep,eq,rfl⟩:=AS cg
 obtain ⟨er,es,rfl⟩:=Own.len ch
 obtain rfl:=As eo
 refine ⟨_,rfl,⟨_,(Mo [1,3,4] cf)⟩,?_⟩
 refine B7<|AL<|Vr (I (Wr (o+1)))<|Vm<|AA<|⟨ab,Nat.lt_succ_self ab,_,el,(Wr (o+1)),a6.1,ep,eq,a6.2.1,er,es,a6.2.2.why,a6.2.2.at_,Pu,(b9▸d),(T4 (Mo [1,3,4,21] aq) ad ae w cf),cg,ch,em,en⟩
 refine Bd<|Sr<|Vm<|Vx (Nc rfl)<|Vx (Fd QZ rfl)<|Vx (Ld Gv rfl (Bc bh rfl))<|Vm<|Vr (I (Wr ((Cr g f.name) - 1)))<|Bi d fun et eu d=>?_
 obtain ⟨ew,ex,f2,ey,ez,e0,e1,e2,bl⟩:=A9 (κ:=AI) bg eu
 replace bl:Ax r ac ew (ex+((Wr ((Cr g f.name) - 1))).toNat*11) ey:=bl
 obtain ⟨f3,f4,rfl,e3,e4⟩:=Ck e2
 obtain ⟨f5,f6,rfl⟩:=AS e3
 obtain ⟨f7,f8,rfl⟩:=AS e4
 refine Vx (Ix F8 ez rfl e0 e1)<|Vx (Fd Og rfl)<|Vx (Ld EZ rfl (Ax.cell (k:=2) bl rfl))<|Va (I et.type_)<|AA<|AQ ?_
 obtain rfl:=AK d
 refine O1 B b1 rfl (.tmp rfl)<|⟨r,Sl a1 ag a2,Sl a3 ah a4,[I ai,I aj],rfl,Ho (T3 (Mo [1,3,4,21] m) l n aq) bm,bh,bg,b7,b8,(Ak (x:=(AD.mk ai aj)))⟩
theorem N0(e:AF)(g:Nat)(o:AF.Good e):types_checker_call.Spec (GK e g):=by
 intro f h ai a aj ak al am ko0_2 an c ao ap d aq ar au av aw p hnd hnz l q r s m u w
 refine Calls.mono (Nz e g o (recol (see [a,c,d,ko0_2]) f) h (Fo lbr f) (BU l [a,c,d,ko0_2] (BP hnd hnz (i:=0) rfl)) (El AI q [a,c,d,ko0_2]) (IY r [a,c,d,ko0_2] (BP hnd hnz (i:=3) rfl)) (Fp s [a,c,d,ko0_2] (BP hnd hnz (i:=1) rfl)) (BU m [a,c,d,ko0_2] (BP hnd hnz (i:=2) rfl)) (BZ An u [a,c,d,ko0_2]) (BZ AH w [a,c,d,ko0_2]) p) ?_
 rintro ax ay ⟨y,z,aa,ab,ac,n,ad,ae,af,ag,ah⟩
 exact ⟨glue [a,c,d,ko0_2] h f y,z,aa,ab,ac,CI n (F0 rfl rfl),EA l ad dcd,HE AI ae,Kc (j:=3) af rfl rfl n,EA m ag dcd,D4 An ah⟩
theorem AF.good:∀d,AF.Good (AF.at d)
 |0=>⟨by intro a c;intros;(try intro _);intros;exact A7 (by assumption),by intro a c;intros;(try intro _);intros;exact A7 (by assumption),by intro a c;intros;(try intro _);intros;exact A7 (by assumption),by intro a c;intros;(try intro _);intros;exact A7 (by assumption),by intro a c;intros;(try intro _);intros;exact A7 (by assumption),by intro a c;intros;(try intro _);intros;exact A7 (by assumption),by intro a c;intros;(try intro _);intros;exact A7 (by assumption),by intro a c;intros;(try intro _);intros;exact A7 (by assumption),by intro a c;intros;(try intro _);intros;exact A7 (by assumption),by intro a c;intros;(try intro _);intros;exact A7 (by assumption)⟩
 |n+1=>⟨Nu _ n (AF.good n),OW _ n (AF.good n),O0 _ n (AF.good n),Nw _ n (AF.good n),Ny _ n (AF.good n),OY _ n (AF.good n),NP _ n (AF.good n),NR _ n (AF.good n),NT _ n (AF.good n),N0 _ n (AF.good n)⟩
theorem OZ(a:Nat):types_checker_want.Spec (types_checker_want a):=(AF.good a).types_checker_want
def G4.At(c:Col)(a:World)(f:AM→Option AD):Prop:=
 ∀{d e g},f d=some g→Cc.rep c.F a e d→
  Calls PG 29 #[Ag e] a fun n h=>∃l m,n=.returned (Ag m)∧AU [] c a l h∧An.rep l.F h m g
def G4.Spec(f:AM→Option AD):Prop:=
 ∀a c,G4.At a c f
theorem Ra(l:Nat)(au:Col)(bv:World)(a1:∀b,au b<10):G4.At au bv (G4 l):=by
 intro e dw a2 c bw
 rw [G4] at c
 obtain ⟨n,o,rfl,a3⟩:=E1 (BV bw)
 refine Ay Tryz.func29 rfl Tryz.ntmps29 rfl fun B a4 dy=>?_
 refine Sr ?_
 refine Ef (A0 au 20 rfl rfl fun bx dz bz b0 av=>?_)
 refine Ef (AY bx 21 FH rfl fun b1 b2 b3 a5 an=>?_)
 refine AA ?_
 refine Sr ?_
 have a6:=(Bs b0 an)
 refine Vx (v:=Ag [Sl n e.funcs o]) (Lx GS rfl rfl (Bw a6)) ?_
 have a7:=(K2 AI a3 av an)
 obtain ⟨d,b4,c⟩:=bnd_sm c
 refine CP (.none rfl) rfl rfl (Cg [Ag [Sl n e.funcs o]] rfl) ?_
 refine Calls.mono (Su l b1 b2 b4 (BQ (x:=e) a7)) ?_
 rintro _ d0 ⟨b5,d1,rfl,ae,b6⟩
 obtain rfl:=As b6
 refine ⟨_,rfl,?_⟩
 refine Ef (AY b5 22 FH rfl fun a8 d2 p b7 af=>?_)
 refine Eu (St (vs:=[I d.why,I d.at_]) (cs':=[I d.why,I d.at_]) HA b7 rfl rfl rfl rfl fun b8 ao ag=>?_)
 refine AA ?_
 refine AR ?_
 refine Sr ?_
 refine Vx (v:=Pt p 0) (Fz Mr rfl) ?_
 refine Vx (v:=I d.why) (Ld Mu rfl (Bc ao rfl)) ?_
 refine Vr (.bool (d.why != 0)) ?_
 refine AA ?_
 refine Cn c (fun b9 c=>?_) fun b9 c=>?_
 refine Sr ?_
 refine Vx (v:=Ag [I d.why,I d.at_]) (Lx Ku rfl rfl (Bw ao)) ?_
 have ca:=(Y3 a5 ae af ag)
 refine Eu (St (vs:=[I d.why,I d.at_]) (cs':=[I d.why,I d.at_]) HA ca rfl rfl rfl rfl fun d3 cb cc=>?_)
 refine AA ?_
 refine AQ ?_
 obtain rfl:=AK c
 refine Xr (B:=B) a4 (SN rfl (.agg Ku rfl rfl (Bw cb)) ?_)
 exact ⟨a8,[I d.why,I d.at_],rfl,Ho (Tn (T4 (Mo [21,22] av) an ae af ag) cc) a1,(Ak (x:=d))⟩
 refine WC.skip ?_
 refine Sr ?_
 have a9:=(Y3 a6 ae af ag)
 refine Vx (v:=Ag [Sl n e.funcs o]) (Lx GS rfl rfl (Bw a9)) ?_
 refine Vx (v:=.func (.func 52) #[] [Pt p 0].toArray) (II (vs:=[Pt p 0]) rfl) ?_
 have ba:=(K3 AI a7 ae af ag)
 obtain ⟨ah,cd,c⟩:=bnd_sm c
 refine CP (.none rfl) rfl rfl (Cg [Ag [Sl n e.funcs o],.func (.func 52) #[] [Pt p 0].toArray] rfl) ?_
 refine Calls.mono (T5 l a8 b8 (kn1:=23) (kn2:=24) (ko1_2:=25) cd dcd dcd (BQ (x:=e) ba) ao (Ak (x:=d))) ?_
 rintro _ cf ⟨bb,q,bc,d4,d5,rfl,aj,d6,cg,bd,be,ch⟩
 obtain ⟨ci,cj,rfl⟩:=AS bd
 obtain ⟨ck,cl,rfl⟩:=Own.len be
 refine ⟨_,rfl,?_⟩
 refine Va (Pt q 0) ?_
 refine AA ?_
 refine AR ?_
 refine Sr ?_
 refine Vx (v:=Pt bz 0) (Fz ER rfl) ?_
 have cm:=(Bs a9 aj)
 refine Vx (v:=Sl n e.funcs o) (Ld Gv rfl (Bc cm rfl)) ?_
 have bf:=(Ss AI ba aj)
 obtain ⟨d7,d8,cn⟩:=AS bf
 refine Vx (v:=I (e.funcs.length:Int)) (Ll F8 cn) ?_
 refine Vx (v:=I 0) (Mv rfl) ?_
 refine AA ?_
 refine Ah ?_
 refine Bj (fun r co u=>∃bg m h f g w ap aq ai aw ax,co=Env.puts bg [(2,Pt b3 0),(3,Pt p 0),(4,Pt q 0),(17,Sl n e.funcs o),(18,I (e.funcs.length:Int)),(19,I h)]∧Hq l e ah r h f g w ai=some a2∧AU [22,23,25,26] bb cf m u∧Slc AI m.F u (Sl ap w aq) w∧Own Ab 87 m u 25 (Sl aw ai ax) ai∧Bk m u 22 p [I f,I g] 63∧Bk m u 23 q [.map (some bc),Sl ap w aq,Sl aw ai ax,.func (.func 52) #[] [Pt p 0].toArray] 134) l ?_ ?_
 have cq:=(Bs ao aj)
 exact ⟨_,bb,0,d.why,d.at_,ah.2.1,ci,cj,ah.2.2.1,ck,cl,Pu,c,(AU.refl [22,23,25,26] _ _),bd,be,cq,cg⟩
 rintro r _ u ⟨bg,m,h,f,g,w,ap,aq,ai,aw,ax,rfl,c,ak,cr,d9,bh,ct⟩
 rcases r with _|r
 exact A7 c
 have c:H6 l e ah (Hq l e ah r) h f g w ai=some a2:=c
 obtain ⟨ea,bi⟩:∃s,s=Hq l e ah r:=⟨_,rfl⟩
 rw [←bi,H6] at c
 refine Sr ?_
 refine Vr (.bool (decide (h< (e.funcs.length:Int)))) ?_
 refine AA ?_
 refine AR ?_
 refine Cn c (fun cu c=>?_) fun cu c=>?_
 refine WC.skip ?_
 refine AR ?_
 refine Ah ?_
 refine Sr ?_
 obtain ⟨a,cv,c⟩:=bnd_sm c
 have cw:=(Ss AI bf ak)
 obtain ⟨bj,bk,eb,cx,cy,cz,c0,c1,ay⟩:=A9 (κ:=AI) cw cv
 replace ay:Ax m u bj (bk+h.toNat*11) cx:=ay
 obtain ⟨ec,ed,rfl,bl,bm⟩:=Ck c1
 obtain ⟨al,am,rfl⟩:=AS bl
 obtain ⟨y,z,rfl⟩:=AS bm
 refine Vx (v:=.pointer (some ⟨bj,bk+h.toNat*11,none⟩)) (Ix F8 cy rfl cz c0) ?_
 refine Vx (v:=Ag [Sb a.name,Sl al a.params am,I a.type_,I a.body.op,Sb a.body.name,Sb a.body.tail,I a.body.type_,Cx a.body.num,Sl y a.body.args z,I a.body.at_,I a.at_]) (Lx L1 rfl rfl (Ax.part0 ay [Sb a.name,Sl al a.params am,I a.type_,I a.body.op,Sb a.body.name,Sb a.body.tail,I a.body.type_,Cx a.body.num,Sl y a.body.args z,I a.body.at_,I a.at_] rfl)) ?_
 refine Ef (AY m 26 KD rfl fun c2 ee az c3 aa=>?_)
 have c4:=(Ss Ab bl aa)
 have c5:=(Ss AH bm aa)
 refine Eu (St (vs:=[Sb a.name,Sl al a.params am,I a.type_,I a.body.op,Sb a.body.name,Sb a.body.tail,I a.body.type_,Cx a.body.num,Sl y a.body.args z,I a.body.at_,I a.at_]) (cs':=[Sb a.name,Sl al a.params am,I a.type_,I a.body.op,Sb a.body.name,Sb a.body.tail,I a.body.type_,Cx a.body.num,Sl y a.body.args z,I a.body.at_,I a.at_]) Kv c3 rfl rfl rfl rfl fun c6 bn ab=>?_)
 refine AA ?_
 refine Sr ?_
 refine Vx (v:=Pt q 0) (Mv rfl) ?_
 refine Vx (v:=Pt az 1) (Fd EU rfl) ?_
 refine Vx (v:=Sl al a.params am) (Ld Ep rfl (Bc bn rfl)) ?_
 have c7:=(Ss Ab c4 ab)
 obtain ⟨ef,bo,c⟩:=bnd_sm c
 refine Ef (By (κ:=Ab) rfl rfl (Own.nil:Own Ab 87 c2 c6 25 _ _) dcd Pm (IH c7) (E3 bo) (FX bo) fun eg c8 eh a0 ac=>?_)
 obtain ⟨bp,bq,rfl⟩:=Own.len a0
 refine Vx (v:=Pt q 0) (Nc rfl) ?_
 refine Vx (v:=Pt q 2) (Fd Fg rfl) ?_
 have c9:=(Y3 ct aa ab ac)
 refine Eu (Bx (vs:=[Sl bp ((([]:List AJ)++a.params)) bq]) (cs':=[.map (some bc),Sl ap w aq,Sl bp ((([]:List AJ)++a.params)) bq,.func (.func 52) #[] [Pt p 0].toArray]) Ok rfl rfl rfl rfl (AZ (Own.one a0) CR) c9 dcd rfl rfl fun da db ad=>?_)
 refine AA ?_
 refine AL ?_
 refine Vx (v:=Pt q 0) (Mv rfl) ?_
 refine Vx (v:=Pt az 3) (Fd L2 rfl) ?_
 have br:=(Y2 bn ac ad)
 refine Vx (v:=Ag [I a.body.op,Sb a.body.name,Sb a.body.tail,I a.body.type_,Cx a.body.num,Sl y a.body.args z,I a.body.at_]) (Lx A8 rfl rfl (Bk.part br 3 [I a.body.op,Sb a.body.name,Sb a.body.tail,I a.body.type_,Cx a.body.num,Sl y a.body.args z,I a.body.at_] rfl)) ?_
 refine Vx (v:=Pt az 2) (Fd Og rfl) ?_
 refine Vx (v:=I a.type_) (Ld EZ rfl (Bc br rfl)) ?_
 have dc:=(K4 AI cr aa ab ac ad)
 have de:=(Os a0 ad)
 have df:=(Ms (Ms (Ms (Ms (Ms ch ak) aa) ab) ac) ad)
 have dg:=(Y4 bh aa ab ac ad)
 have dh:=(K3 AH c5 ab ac ad)
 obtain ⟨ar,di,c⟩:=bnd_sm c
 refine CP (.none rfl) rfl rfl (Cg [Pt q 0,Ag [I a.body.op,Sb a.body.name,Sb a.body.tail,I a.body.type_,Cx a.body.num,Sl y a.body.args z,I a.body.at_],I a.type_] rfl) ?_
 refine Calls.mono (OZ l c8 da (ko0_2:=25) di dcd dcd db dc de df dg (Ak (x:=(AD.mk f g))) (AW (x:=(AE.mk a.body.op a.body.name a.body.tail a.body.type_ a.body.num a.body.args a.body.at_)) dh)) ?_
 rintro _ ei ⟨dj,ej,ek,el,rfl,dk,dl,bt,bu,dm,dn⟩
 obtain ⟨dp,dq,rfl⟩:=AS bt
 obtain ⟨dr,ds,rfl⟩:=Own.len bu
 obtain rfl:=As dn
 refine ⟨_,rfl,?_⟩
 refine AA ?_
 refine AL ?_
 refine Vr (I (Wr (h+1))) ?_
 refine Vx (v:=I (Wr (h+1))) (Mv rfl) ?_
 refine AA ?_
 exact ⟨r,Nat.lt_succ_self r,_,dj,(Wr (h+1)),ar.2.2.why,ar.2.2.at_,ar.1,dp,dq,ar.2.1,dr,ds,Pu,(bi▸c),(Tn (T4 (Mo [22,23,25,26] ak) aa ab ac ad) dk),bt,bu,dm,dl⟩
 refine Bd ?_
 refine Sr ?_
 refine Vx (v:=Ag [I f,I g]) (Lx Ku rfl rfl (Bw bh)) ?_
 have dt:=(Bs (Y4 a5 ae af ag aj) ak)
 refine Eu (St (vs:=[I f,I g]) (cs':=[I f,I g]) HA dt rfl rfl rfl rfl fun em du dv=>?_)
 refine AA ?_
 refine AQ ?_
 obtain rfl:=AK c
 refine Xr (B:=B) a4 (SN rfl (.agg Ku rfl rfl (Bw du)) ?_)
 exact ⟨m,[I f,I g],rfl,Ho (T3 (T4 (Mo [21,22,23,24,25,26] av) an ae af ag) aj ak dv) a1,(Ak (x:=(AD.mk f g)))⟩
theorem Sw(c:Nat):G4.Spec (G4 c):=lk0 (Ra c)
def Ij.At(e:Col)(a:World)(f:Nat→Option Nat):Prop:=
 ∀{c d},f c=some d→
  Calls PG 113 #[Fl c] a fun g h=>∃l,g=.returned (Fl d)∧AU [] e a l h
def Ij.Spec(f:Nat→Option Nat):Prop:=
 ∀a c,Ij.At a c f
theorem Sx(c:Col)(e:World)(f:∀b,c b<10):Ij.At c e Ij:=by
 intro g n a
 rw [Ij] at a
 refine Ay Tryz.func113 rfl Tryz.ntmps113 rfl fun B l o=>Sr<|Va (Fl (0:Nat))<|AA<|AR<|WC.cond (t:=true) rfl (fun h=>?_) (fun h=>by cases h)
 refine Sr<|Vm<|Bi a fun d m a=>Vx (v:=Fl d) (Zq (vs:=[Fl g]) rfl (Ww m))<|Va (Fl d)<|AA<|AQ ?_
 obtain rfl:=AK a
 refine O1 B l rfl (.tmp rfl)<|⟨c,rfl,Ho Rf f⟩
theorem T6:Ij.Spec Ij:=lk0 (Sx)
def IL.At(e:Col)(a:World)(f:Nat→Option Bool):Prop:=
 ∀{c d},f c=some d→
  Calls PG 114 #[Fl c] a fun g h=>∃l,g=.returned (.bool d)∧AU [] e a l h
def IL.Spec(f:Nat→Option Bool):Prop:=
 ∀a c,IL.At a c f
theorem Qo(c:Col)(e:World)(f:∀b,c b<10):IL.At c e IL:=by
 intro a h d
 rw [IL] at d
 refine Ay Tryz.func114 rfl Tryz.ntmps114 rfl fun B g l=>Sr<|Va (.bool false)<|AA<|Sr<|Vm<|Vx (v:=.int .u64 ((a:Nat):Int)) (Oo (vs:=[Fl a]) rfl rfl)<|Vr (I (Wr ((a:Nat):Int)))<|Vr (.bool (decide ((Wr ((a:Nat):Int))<0)))<|Va (.bool (decide ((Wr ((a:Nat):Int))<0)))<|AA<|AQ ?_
 obtain rfl:=AK d
 refine O1 B g rfl (.tmp rfl)<|⟨c,rfl,Ho Rf f⟩
theorem Rb:IL.Spec IL:=lk0 (Qo)
def G5.At(e:Col)(a:World)(f:Nat→Option Bool):Prop:=
 ∀{c d},f c=some d→
  Calls PG 88 #[Fl c] a fun g h=>∃l,g=.returned (.bool d)∧AU [] e a l h
def G5.Spec(f:Nat→Option Bool):Prop:=
 ∀a c,G5.At a c f
theorem Rc(g:Col)(l:World)(u:∀b,g b<10):G5.At g l G5:=by
 intro h w a
 rw [G5] at a
 refine Ay Tryz.func88 rfl Tryz.ntmps88 rfl fun B y ah=>Sr<|Va (.bool false)<|AA<|Am (fun z r=>∃s m n,z=Env.puts s [(2,.bool n)]∧Hr n=some w∧AU [] g l m r) ?_ ?_
 refine AL<|Vm<|Vr (.bool (fge h (13938640846711685120:Nat)))<|Vm<|Bo a (fun f a=>?_) fun f a=>?_
 refine Gm f<|Gr f (.bool (fle h (4715268809856909312:Nat)))<|Vp f<|Vm<|Bo a (fun d a=>?_) fun d a=>?_
 refine Gm d<|Gm d<|Bi a fun aa ab a=>CP (.guard (t:=true) (b:=true) rfl rfl rfl rfl (Cb d)) rfl rfl (Cg [Fl h] rfl)<|Calls.mono (T6 g l ab) ?_
 rintro _ ac ⟨o,rfl,p⟩
 refine ⟨_,rfl,?_⟩
 refine Gr d (.bool (feq h aa))<|Vp d<|Vm<|Bo a (fun c a=>?_) fun c a=>?_
 refine Gm c<|Gr c (.bool (fne h (0:Nat)))<|Gm c<|Bo a (fun e a=>?_) fun e a=>?_
 refine Pg e<|Pg e<|Pg e<|Gp c e<|Vp c<|Va (.bool true)<|AA<|⟨_,o,true,Pu,a,(Mo [] p)⟩
 refine Gm e<|Bi a fun q ad a=>CP (.guard (t:=false) (b:=false) rfl rfl rfl rfl (Cb e)) rfl rfl (Cg [Fl h] rfl)<|Calls.mono (Rb o ac ad) ?_
 rintro _ ai ⟨ae,rfl,af⟩
 refine ⟨_,rfl,?_⟩
 refine Gr e (.bool (!q))<|Gp c e<|Vp c<|Va (.bool (!q))<|AA<|⟨_,ae,(!q),Pu,a,(Tn (Mo [] p) af)⟩
 refine Pg c<|Pg c<|Pg c<|Po<|Po<|Po<|Pg c<|Vp c<|Va (.bool false)<|AA<|⟨_,o,false,Pu,a,(Mo [] p)⟩
 refine Pg d<|Pg d<|Pg d<|Pg d<|Vp d<|Vm<|Pg rfl<|Pg rfl<|Pg rfl<|Po<|Po<|Po<|Pg rfl<|Vr (.bool false)<|Va (.bool false)<|AA<|⟨_,g,false,Pu,a,Rf⟩
 refine Pg f<|Pg f<|Vp f<|Vm<|Pg rfl<|Pg rfl<|Pg rfl<|Pg rfl<|Vr (.bool false)<|Vm<|Pg rfl<|Pg rfl<|Pg rfl<|Po<|Po<|Po<|Pg rfl<|Vr (.bool false)<|Va (.bool false)<|AA<|⟨_,g,false,Pu,a,Rf⟩
 rintro _ r ⟨s,m,n,rfl,a,ag⟩
 rw [Hr] at a
 refine AQ ?_
 obtain rfl:=AK a
 refine O1 B y rfl (.tmp rfl)<|⟨m,rfl,Ho (Mo [] ag) u⟩
theorem O3:G5.Spec G5:=lk0 (Rc)
def B6.At(e:Col)(a:World)(f:(Nat×Nat)→Option Bool):Prop:=
 ∀{c d},f c=some d→
  Calls PG 54 #[Cx c] a fun g h=>∃l,g=.returned (.bool d)∧AU [] e a l h
def B6.Spec(f:(Nat×Nat)→Option Bool):Prop:=
 ∀a c,B6.At a c f
theorem Re(d:Col)(f:World)(q:∀b,d b<10):B6.At d f B6:=by
 intro e r a
 rw [B6] at a
 refine Ay Tryz.func54 rfl Tryz.ntmps54 rfl fun B s ad=>Sr<|Va (.bool false)<|AA<|Am (fun u l=>∃m g h,u=Env.puts m [(2,.bool h)]∧Kh h=some r∧AU [] d f g l) ?_ ?_
 refine AL<|Vm<|Vx (v:=Fl e.1) (Run.real rfl)<|Bi a fun ae w a=>Ca (Cg [Fl e.1] rfl) (O3 d f w) ?_
 rintro _ y ⟨n,rfl,o⟩
 refine Vm<|Bo a (fun c a=>?_) fun c a=>?_
 refine Gm c<|Gx c (v:=Fl e.2) (Run.imag rfl)<|Bi a fun p z a=>CP (.guard (t:=true) (b:=true) rfl rfl rfl rfl (Cb c)) rfl rfl (Cg [Fl e.2] rfl)<|Calls.mono (O3 n y z) ?_
 rintro _ af ⟨aa,rfl,ab⟩
 refine ⟨_,rfl,?_⟩
 refine Vp c<|Va (.bool p)<|AA<|⟨_,aa,p,Pu,a,(Tn (Mo [] o) ab)⟩
 refine Pg c<|Pg c<|Pg c<|Vp c<|Va (.bool false)<|AA<|⟨_,n,false,Pu,a,(Mo [] o)⟩
 rintro _ l ⟨m,g,h,rfl,a,ac⟩
 rw [Kh] at a
 refine AQ ?_
 obtain rfl:=AK a
 refine O1 B s rfl (.tmp rfl)<|⟨g,rfl,Ho (Mo [] ac) q⟩
theorem DG:B6.Spec B6:=lk0 (Re)
def DR.At(c:Col)(a:World)(f:AG→Option Int):Prop:=
 ∀{d e g},f d=some g→Ao.rep c.F a e d→
  Calls PG 30 #[Ag e] a fun h l=>∃m,h=.returned (I g)∧AU [] c a m l
def DR.Spec(f:AG→Option Int):Prop:=
 ∀a c,DR.At a c f
theorem Rg(am:Nat)(an:Col)(bd:World)(az:∀b,an b<10):DR.At an bd (DR am):=by
 intro c b9 y a be
 rw [DR] at a
 obtain ⟨a0,a1,rfl,af⟩:=E1 (Az be)
 refine Ay Tryz.func30 rfl Tryz.ntmps30 rfl fun B a2 cb=>Sr<|Ef<|A0 an 20 rfl rfl fun w z bf o aa=>Va (I 0)<|AA<|Sr<|Va (.bool true)<|AA<|Am (fun q a3=>∃d ag ah,q=Env.puts d [(3,.bool ah)]∧Ee ah=some y∧AU [] w z ag a3) ?_ ?_
 refine Sr<|Vx (Fz JN rfl)<|Vx (Ld EZ rfl (Bc o rfl))<|AA<|Ah<|Sr<|Vr (.bool (c.type_==1))<|Va (.bool (c.type_==1))<|AA<|Cn a (fun bg a=>?_) fun bg a=>?_
 refine AL<|Vx (Fd HJ rfl)<|Vx (Ld HB rfl (Bc o rfl))<|Bi a fun cc bh a=>Ca (Cg [Cx c.num] rfl) (DG w z bh) ?_
 rintro _ cd ⟨ao,rfl,ab⟩
 refine Vm<|Bo a (fun h a=>?_) fun h a=>?_
 refine Gx h (Fd KM rfl)<|have a4:=Bs o ab;Gx h (Ld MR rfl (Bc a4 rfl))<|Gr h (.bool (!c.bool))<|Vp h<|Vm<|Bo a (fun e a=>?_) fun e a=>?_
 refine Gx e (Fd ES rfl)<|Gx e (Ld Iw rfl (Bc a4 rfl))<|have bi:=K2 Kd.cpx af aa ab; ?_
 obtain ⟨cf,cg,bj⟩:=AS bi
 refine Gx e (v:=I (c.list.length:Int)) (Ll IP bj)<|Gr e (.bool ((c.list.length:Int)==0))<|Vp e<|Va (.bool ((c.list.length:Int)==0))<|AA<|⟨_,ao,((c.list.length:Int)==0),Pu,a,(Mo [] ab)⟩
 refine Pg e<|Pg e<|Pg e<|Pg e<|Vp e<|Va (.bool false)<|AA<|⟨_,ao,false,Pu,a,(Mo [] ab)⟩
 refine Pg h<|Pg h<|Pg h<|Vp h<|Vm<|Pg rfl<|Pg rfl<|Pg rfl<|Pg rfl<|Vr (.bool false)<|Va (.bool false)<|AA<|⟨_,ao,false,Pu,a,(Mo [] ab)⟩
 refine Sr<|Vr (.bool (c.type_==2))<|Va (.bool (c.type_==2))<|AA<|Cn a (fun bk a=>?_) fun bk a=>?_
 refine AL<|Vx (Fd HJ rfl)<|Vx (Ld HB rfl (Bc o rfl))<|Bi a fun ch bl a=>Ca (Cg [Cx c.num] rfl) (DG w z bl) ?_
 rintro _ ci ⟨ap,rfl,ac⟩
 refine Vm<|Bo a (fun l a=>?_) fun l a=>?_
 refine Gx l (Fd HJ rfl)<|have a5:=Bs o ac;Gx l (Ld HB rfl (Bc a5 rfl))<|Gx l (v:=.bool (ceq c.num ((0,0):Nat×Nat))) (Run.ceq rfl rfl)<|Vp l<|Vm<|Bo a (fun f a=>?_) fun f a=>?_
 refine Gx f (Fd ES rfl)<|Gx f (Ld Iw rfl (Bc a5 rfl))<|have bm:=K2 Kd.cpx af aa ac; ?_
 obtain ⟨cj,ck,bn⟩:=AS bm
 refine Gx f (v:=I (c.list.length:Int)) (Ll IP bn)<|Gr f (.bool ((c.list.length:Int)==0))<|Vp f<|Va (.bool ((c.list.length:Int)==0))<|AA<|⟨_,ap,((c.list.length:Int)==0),Pu,a,(Mo [] ac)⟩
 refine Pg f<|Pg f<|Pg f<|Pg f<|Vp f<|Va (.bool false)<|AA<|⟨_,ap,false,Pu,a,(Mo [] ac)⟩
 refine Pg l<|Pg l<|Pg l<|Vp l<|Vm<|Pg rfl<|Pg rfl<|Pg rfl<|Pg rfl<|Vr (.bool false)<|Va (.bool false)<|AA<|⟨_,ap,false,Pu,a,(Mo [] ac)⟩
 refine Sr<|Vr (.bool (c.type_==3))<|Va (.bool (c.type_==3))<|AA<|Cn a (fun bo a=>?_) fun bo a=>?_
 refine Am (fun q aq=>∃d ai aj,q=Env.puts d [(1,Pt bf 0),(3,.bool aj)]∧Jr am c aj=some y∧AU [] w z ai aq) ?_ ?_
 refine AL<|Vx (Fd HJ rfl)<|Vx (Ld HB rfl (Bc o rfl))<|Bi a fun cl bp a=>Ca (Cg [Cx c.num] rfl) (DG w z bp) ?_
 rintro _ cm ⟨ar,rfl,ak⟩
 refine Vm<|Bo a (fun m a=>?_) fun m a=>?_
 refine Gx m (Fd HJ rfl)<|have a6:=Bs o ak;Gx m (Ld HB rfl (Bc a6 rfl))<|Gx m (v:=.bool (ceq c.num ((0,0):Nat×Nat))) (Run.ceq rfl rfl)<|Vp m<|Vm<|Bo a (fun n a=>?_) fun n a=>?_
 refine Gx n (Fd KM rfl)<|Gx n (Ld MR rfl (Bc a6 rfl))<|Gr n (.bool (!c.bool))<|Vp n<|Va (.bool (!c.bool))<|AA<|⟨_,ar,(!c.bool),Pu,a,(Mo [] ak)⟩
 refine Pg n<|Pg n<|Pg n<|Vp n<|Va (.bool false)<|AA<|⟨_,ar,false,Pu,a,(Mo [] ak)⟩
 refine Pg m<|Pg m<|Pg m<|Vp m<|Vm<|Pg rfl<|Pg rfl<|Pg rfl<|Vr (.bool false)<|Va (.bool false)<|AA<|⟨_,ar,false,Pu,a,(Mo [] ak)⟩
 rintro _ aq ⟨d,ai,aj,rfl,a,au⟩
 rw [Jr] at a
 refine Sr<|Vx (Fd ES rfl)<|have bq:=Bs o au;Vx (Ld Iw rfl (Bc bq rfl))<|have a7:=K2 Kd.cpx af aa au; ?_
 obtain ⟨cn,co,br⟩:=AS a7
 refine Vx (v:=I (c.list.length:Int)) (Ll IP br)<|Vm<|AA<|Ah<|Bj (fun p q ad=>∃d r ae g,q=Env.puts d [(3,.bool ae),(56,Sl a0 c.list a1),(57,I (c.list.length:Int)),(58,I g)]∧Ik c p ae g=some y∧AU [] ai aq r ad) am ?_ ?_
 exact ⟨_,ai,aj,0,Pu,a,Rf⟩
 rintro p _ ad ⟨d,r,ae,g,rfl,a,av⟩
 rcases p with _|p
 exact A7 a
 refine have a:KE c (Ik c p) ae g=some y:=a; ?_
 obtain ⟨bt,a8⟩:∃s,s=Ik c p:=⟨_,rfl⟩
 rw [←a8,KE] at a
 refine Sr<|Vr (.bool (decide (g< (c.list.length:Int))))<|AA<|AR<|Cn a (fun bu a=>?_) fun bu a=>?_
 refine WC.skip<|Am (fun q a9=>∃d aw al,q=Env.puts d [(3,.bool al),(56,Sl a0 c.list a1),(57,I (c.list.length:Int)),(58,I g)]∧Ki g bt al=some y∧AU [] r ad aw a9) ?_ ?_
 refine Ah<|Sr<|Bi a fun ax bv a=>have bw:=Ss Kd.cpx a7 av; ?_
 obtain ⟨bx,bz,cq,ba,b0,b1,b2,b3,ay⟩:=A9 (κ:=Kd.cpx) bw bv
 replace ay:Ax r ad bx (bz+g.toNat*1) ba:=ay
 obtain rfl:=(show ba=[Cx ax] from b3)
 refine Vx (Ix IP b0 rfl b1 b2)<|Vx (Ld HB rfl (Ax.cell0 ay rfl))<|Va (Cx ax)<|AA<|AL<|Vm<|Vm<|Bo a (fun u a=>?_) fun u a=>?_
 refine Gm u<|Bi a fun bb b4 a=>CP (.guard (t:=true) (b:=true) rfl rfl rfl rfl (Cb u)) rfl rfl (Cg [Cx ax] rfl)<|Calls.mono (DG r ad b4) ?_
 rintro _ cr ⟨b5,rfl,b6⟩
 refine ⟨_,rfl,?_⟩
 refine Vp u<|Va (.bool bb)<|AA<|⟨_,b5,bb,Pu,a,(Mo [] b6)⟩
 refine Pg u<|Pg u<|Vp u<|Va (.bool false)<|AA<|⟨_,r,false,Pu,a,Rf⟩
 rintro _ a9 ⟨d,aw,al,rfl,a,b7⟩
 rw [Ki] at a
 refine AL<|Vr (I (Wr (g+1)))<|Vm<|AA<|⟨p,Nat.lt_succ_self p,_,aw,al,(Wr (g+1)),Pu,(a8▸a),(Tn (Mo [] av) b7)⟩
 refine Bd<|⟨_,r,ae,Pu,a,(Tn (Mo [] au) av)⟩
 refine AL<|Va (.bool false)<|AA<|⟨_,w,false,Pu,a,Rf⟩
 rintro _ a3 ⟨d,ag,ah,rfl,a,bc⟩
 rw [Ee] at a
 refine AR<|Sr<|Vm<|Vr (.bool (!ah))<|AA<|Cn a (fun b8 a=>?_) fun b8 a=>?_
 refine Sr<|Va (I 3)<|AA<|AQ ?_
 obtain rfl:=AK a
 refine O1 B a2 rfl (.tmp rfl)<|⟨ag,rfl,Ho (Tn (Mo [] aa) bc) az⟩
 refine WC.skip<|Sr<|Va (I 0)<|AA<|AQ ?_
 obtain rfl:=AK a
 refine O1 B a2 rfl (.tmp rfl)<|⟨ag,rfl,Ho (Tn (Mo [] aa) bc) az⟩
theorem O4(c:Nat):DR.Spec (DR c):=lk0 (Rg c)
def Ia.At(c:Col)(a:World)(f:Aw→Option Th):Prop:=
 ∀{d e g},f d=some g→HI.rep c.F a e d→
  Calls PG 55 #[Ag e] a fun n h=>∃l m,n=.returned m∧AU [] c a l h∧MTh 89 90 l.F h m g
def Ia.Spec(f:Aw→Option Th):Prop:=
 ∀a c,Ia.At a c f
theorem T7(e:Col)(h:World)(l:∀b,e b<10):Ia.At e h Ia:=by
 intro a ae af f m
 rw [Ia] at f
 obtain ⟨ag,n,o,rfl,g,p,q⟩:=Dd m
 obtain ⟨r,s,rfl⟩:=AS g
 refine Ay Tryz.func55 rfl Tryz.ntmps55 rfl fun B u ah=>Sr<|Ef<|A0 e 20 rfl rfl fun ai aj c w d=>Va .nilFunc<|AA<|Sr<|Vx (v:=.func (.func 89) #[] [Pt c 0].toArray) (II (vs:=[Pt c 0]) rfl)<|Va (.func (.func 89) #[] [Pt c 0].toArray)<|AA<|AQ<|have y:=Ss Kd.cpx g d;have z:=Mt p d;have aa:=Mt q d; ?_
 obtain ⟨ab,ac,ad⟩:=MTh.layDone (L:=90) (cp:=[I a.plain.type_,Cx a.plain.num,.bool a.plain.bool,Sl r a.plain.list s]) (hv:=n) (tv:=o) w dcd (Al (x:=(AG.mk a.plain.type_ a.plain.num a.plain.bool a.plain.list)) y) z aa
 obtain rfl:=AK f
 refine O1 B u rfl (.tmp rfl)<|⟨ab,.func (.func 89) #[] [Pt c 0].toArray,rfl,Ho (Tn (Mo [20] d) ac) l,ad⟩
theorem L5:Ia.Spec Ia:=by
 intro a c n o p d e
 refine Calls.mono (T7 (recol (see []) a) c (Fo lbr a) d (BZ HI e [])) ?_
 rintro q r ⟨f,g,h,l,m⟩
 exact ⟨glue [] c a f,g,h,CI l MN,MTh.glue m⟩
def Il.At(c:Col)(a:World)(f:AG→Option Th):Prop:=
 ∀{d e g},f d=some g→Ao.rep c.F a e d→
  Calls PG 31 #[Ag e] a fun n h=>∃l m,n=.returned m∧AU [] c a l h∧MTh 89 90 l.F h m g
def Il.Spec(f:AG→Option Th):Prop:=
 ∀a c,Il.At a c f
theorem Sy(ab:Nat)(p:Col)(av:World)(ac:∀b,p b<10):Il.At p av (Il ab):=by
 intro c bu ad a aw
 rw [Il] at a
 obtain ⟨r,u,rfl,q⟩:=E1 (Az aw)
 refine Ay Tryz.func31 rfl Tryz.ntmps31 rfl fun B ae bw=>Sr<|Ef<|A0 p 20 rfl rfl fun af ag ax w n=>Va .nilFunc<|AA<|AR<|Sr<|Vx (Fz JN rfl)<|Vx (Ld EZ rfl (Bc w rfl))<|Vr (.bool (c.type_ != 3))<|AA<|Cn a (fun ay a=>?_) fun ay a=>?_
 refine Sr<|Vx (Lx Bz rfl rfl (Bw w))<|Vx (v:=Ag [I c.type_,Cx c.num,.bool c.bool,Sl r c.list u,.nilFunc,.nilFunc]) (Bp Kw NL rfl (.cons rfl rfl rfl .nil))<|have az:=Ss Kd.cpx q n;Bi a fun bx a0 a=>Ca (Cg [Ag [I c.type_,Cx c.num,.bool c.bool,Sl r c.list u,.nilFunc,.nilFunc]] rfl) (L5 af ag a0 (Cq (x:=(Aw.mk c Th.nil Th.nil)) az MTh.nil MTh.nil)) ?_
 rintro _ bz ⟨a1,ah,rfl,a2,a3⟩
 refine Va ah<|AA<|AQ ?_
 obtain rfl:=AK a
 refine O1 B ae rfl (.tmp rfl)<|⟨a1,ah,rfl,Ho (Tn (Mo [] n) a2) ac,a3⟩
 refine WC.skip<|Sr<|Vx (v:=Ag [I 3,Cx (((0,0):Nat×Nat)),.bool false,.slice none 0 0]) (Bp Cs GU rfl (.cons rfl rfl rfl .nil))<|Vx (v:=Ag [I 3,Cx (((0,0):Nat×Nat)),.bool false,.slice none 0 0,.nilFunc,.nilFunc]) (Bp Kw NL rfl (.cons rfl rfl rfl .nil))<|Bi a fun a4 a5 a=>Ca (Cg [Ag [I 3,Cx (((0,0):Nat×Nat)),.bool false,.slice none 0 0,.nilFunc,.nilFunc]] rfl) (L5 af ag a5 (Cq (x:=(Aw.mk (AG.mk 3 ((0,0):Nat×Nat) false []) Th.nil Th.nil)) BJ MTh.nil MTh.nil)) ?_
 rintro _ a6 ⟨ai,aj,rfl,y,a7⟩
 refine Va aj<|AA<|AR<|Sr<|Vx (Fd ES rfl)<|have ak:=Bs w y;Vx (Ld Iw rfl (Bc ak rfl))<|have al:=K2 Kd.cpx q n y; ?_
 obtain ⟨b0,b1,a8⟩:=AS al
 refine Vx (v:=I (c.list.length:Int)) (Ll IP a8)<|Vr (I (Wr ((c.list.length:Int) - 1)))<|Va (I (Wr ((c.list.length:Int) - 1)))<|AA<|Ah<|Bj (fun e a9 h=>∃am g l f d,a9=Env.puts am [(1,Pt ax 0),(3,f),(4,I d)]∧JT c e l d=some ad∧AU [] ai a6 g h∧MTh 89 90 g.F h f l) ab ?_ ?_
 exact ⟨_,ai,a4,aj,(Wr ((c.list.length:Int) - 1)),Pu,a,Rf,a7⟩
 rintro e _ h ⟨am,g,l,f,d,rfl,a,o,z⟩
 rcases e with _|e
 exact A7 a
 refine have a:Kj c (JT c e) l d=some ad:=a; ?_
 obtain ⟨b2,an⟩:∃s,s=JT c e:=⟨_,rfl⟩
 rw [←an,Kj] at a
 refine AR<|Sr<|Vm<|Vr (.bool (decide (d≥0)))<|AA<|Cn a (fun ba a=>?_) fun ba a=>?_
 refine WC.skip<|AR<|Ah<|AL<|Vx (Fd ES rfl)<|have bb:=Bs ak o;Vx (Ld Iw rfl (Bc bb rfl))<|Vm<|Bi a fun m bc a=>have bd:=Ss Kd.cpx al o; ?_
 obtain ⟨be,o130,b3,ao,bf,bg,bh,bi,aa⟩:=A9 (κ:=Kd.cpx) bd bc
 replace aa:Ax g h be (o130+d.toNat*1) ao:=aa
 obtain rfl:=(show ao=[Cx m] from bi)
 refine Vx (Ix IP bf rfl bg bh)<|Vx (Ld HB rfl (Ax.cell0 aa rfl))<|Vx (v:=Ag [I 1,Cx m,.bool false,.slice none 0 0]) (Bp Cs GU rfl (.cons rfl rfl rfl (.cons rfl rfl rfl .nil)))<|Vx (v:=Ag [I 1,Cx m,.bool false,.slice none 0 0,.nilFunc,.nilFunc]) (Bp Kw NL rfl (.cons rfl rfl rfl .nil))<|Bi a fun bj bk a=>Ca (Cg [Ag [I 1,Cx m,.bool false,.slice none 0 0,.nilFunc,.nilFunc]] rfl) (L5 g h bk (Cq (x:=(Aw.mk (AG.mk 1 m false []) Th.nil Th.nil)) BJ MTh.nil MTh.nil)) ?_
 rintro _ bl ⟨bm,ap,rfl,aq,ar⟩
 refine Vm<|Vx (v:=Ag [I 0,Cx (((0,0):Nat×Nat)),.bool false,.slice none 0 0,ap,f]) (Bp Kw NL rfl (.cons rfl (Dj (MTh.one ar)) rfl (.cons rfl (Dj (MTh.one z)) rfl .nil)))<|have bn:=Mt z aq;Bi a fun bo bp a=>Ca (Cg [Ag [I 0,Cx (((0,0):Nat×Nat)),.bool false,.slice none 0 0,ap,f]] rfl) (L5 bm bl bp (Cq (x:=(Aw.mk (AG.mk 0 ((0,0):Nat×Nat) false []) bj l)) BJ ar bn)) ?_
 rintro _ b4 ⟨bq,au,rfl,br,bt⟩
 refine Va au<|AA<|AL<|Vm<|Vr (I (Wr (d - 1)))<|Va (I (Wr (d - 1)))<|AA<|⟨e,Nat.lt_succ_self e,_,bq,bo,au,(Wr (d - 1)),Pu,(an▸a),(T2 (Mo [] o) aq br),bt⟩
 refine Bd<|Sr<|Vm<|Va f<|AA<|AQ ?_
 obtain rfl:=AK a
 refine O1 B ae rfl (.tmp rfl)<|⟨g,f,rfl,Ho (T2 (Mo [] n) y o) ac,z⟩
theorem T8(c:Nat):Il.Spec (Il c):=by
 intro a d o p q e f
 refine Calls.mono (Sy c (recol (see []) a) d (Fo lbr a) e (BZ Ao f [])) ?_
 rintro r s ⟨g,h,l,m,n⟩
 exact ⟨glue [] d a g,h,l,CI m MN,MTh.glue n⟩
def Dk.At(c:Col)(a:World)(f:Nm→Bts→Option Th):Prop:=
 ∀{d v0 e g},f d e=some g→GW 89 90 c.F a v0 d→
  Calls PG 56 #[v0,Sb e] a fun n h=>∃l m,n=.returned m∧AU [] c a l h∧MTh 89 90 l.F h m g
def Dk.Spec(f:Nm→Bts→Option Th):Prop:=
 ∀a c,Dk.At a c f
theorem PU(r:Nat)(g:Col)(u:World)(ab:∀b,g b<10):Dk.At g u (Dk r):=by
 intro ac v0 d w a ad
 rw [Dk] at a
 refine Ay Tryz.func56 rfl Tryz.ntmps56 rfl fun B ae am=>Sr<|Va .nilFunc<|AA<|AR<|Ah<|Bj (fun c af h=>∃y e l m,af=Env.puts y [(0,m),(1,Sb d)]∧EX d c l=some w∧AU [] g u e h∧GW 89 90 e.F h m l) r ?_ ?_
 exact ⟨_,g,ac,v0,Pu,a,Rf,ad⟩
 rintro c _ h ⟨y,e,l,m,rfl,a,z,ag⟩
 rcases c with _|c
 exact A7 a
 refine have a:LC d (EX d c) l=some w:=a; ?_
 obtain ⟨an,aa⟩:∃s,s=EX d c:=⟨_,rfl⟩
 rw [←aa,LC] at a
 refine AR<|Sr<|Vm<|Bi a fun n ah a=>?_
 obtain ⟨ai,o,p,q,f,aj,ak⟩:=GW.el ag ah
 replace f:Ax e h ai 0 [Sb n.1,o,p]:=f
 refine Vx (Nc q)<|Vx (Fz Yd rfl)<|Vx (Ld CF rfl (Ax.cell0 f rfl))<|Vm<|Vx (v:=.bool (!(n.1==d))) (Run.strNe rfl rfl)<|AA<|Cn a (fun al a=>?_) fun al a=>?_
 refine WC.skip<|Ah<|AL<|Vm<|Vx (Nc q)<|Vx (Fd Ye rfl)<|Vx (Ld Yi rfl (Ax.cell (k:=2) f rfl))<|Va p<|AA<|⟨c,Nat.lt_succ_self c,_,e,n.2.2,p,Pu,(aa▸a),(Mo [] z),ak⟩
 refine Bd<|Sr<|Vm<|Vx (Nc q)<|Vx (Fd WH rfl)<|Vx (Ld Om rfl (Ax.cell (k:=1) f rfl))<|Va o<|AA<|AQ ?_
 obtain rfl:=AK a
 refine O1 B ae rfl (.tmp rfl)<|⟨e,o,rfl,Ho (Mo [] z) ab,aj⟩
theorem Pq(c:Nat):Dk.Spec (Dk c):=by
 intro a d o v0 p q e f
 refine Calls.mono (PU c (recol (see []) a) d (Fo lbr a) e (GW.recol f [])) ?_
 rintro r s ⟨g,h,l,m,n⟩
 exact ⟨glue [] d a g,h,l,CI m MN,MTh.glue n⟩
def JK.At(c:Col)(a:World)(f:Aw→Option Aw):Prop:=
 ∀{d e g v0 h},f d=some h→Ax c a e 0 g→HI.rep c.F a g d→v0.oneCell'=true→
  Calls PG 89 #[v0,Pt e 0] a fun o l=>∃m n,o=.returned (Ag n)∧AU [] c a m l∧HI.rep m.F l n h
def JK.Spec(f:Aw→Option Aw):Prop:=
 ∀a c,JK.At a c f
theorem Rh(l:Col)(r:World)(s:∀b,l b<10):JK.At l r JK:=by
 intro a ag ah v0 ai m u w _p0
 rw [JK] at m
 obtain ⟨aj,c,d,rfl,n,o,p⟩:=Dd w
 obtain ⟨e,f,rfl⟩:=AS n
 refine Ay Tryz.func89 rfl Tryz.ntmps89 rfl fun B y ak=>Sr<|Ef<|AY l 20 Kw rfl fun z al am aa g=>AA<|Sr<|have ab:=Es u g;Vx (Lx Jz rfl rfl (Ax.part0 ab [I a.plain.type_,Cx a.plain.num,.bool a.plain.bool,Sl e a.plain.list f,c,d] rfl))<|have q:=Ss Kd.cpx n g;Eu<|Bx (vs:=[I a.plain.type_,Cx a.plain.num,.bool a.plain.bool,Sl e a.plain.list f,c,d]) (cs':=[I a.plain.type_,Cx a.plain.num,.bool a.plain.bool,Sl e a.plain.list f,c,d]) Jc rfl rfl rfl rfl (AZ rfl (AZ rfl (AZ rfl (AZ (FW q) (AZ (MTh.one o) (AZ (MTh.one p) CR)))))) aa dcd rfl rfl fun an ac h=>AA<|AQ ?_
 obtain rfl:=AK m
 refine O1 B y rfl (.agg Jz rfl rfl (Bw ac))<|have ad:=Ss Kd.cpx q h;have ae:=Mt (Mt o g) h;have af:=Mt (Mt p g) h;⟨z,[I a.plain.type_,Cx a.plain.num,.bool a.plain.bool,Sl e a.plain.list f,c,d],rfl,Ho (Tn (Mo [20] g) h) s,(Cq (x:=a) ad ae af)⟩
theorem Sz:JK.Spec JK:=by
 intro a c p q r v0 s d e f g
 refine Calls.mono (Rh (recol (see []) a) c (Fo lbr a) d (Pj e []) (BZ HI f []) g) ?_
 rintro u w ⟨h,l,m,n,o⟩
 exact ⟨glue [] c a h,l,m,CI n MN,D4 HI o⟩
def JU.Spec(f:AE→Option AE):Prop:=
 ∀g d {h l kn0 kn1 e m},f h=some m→[kn0,kn1].Nodup→0∉[kn0,kn1]→AH.rep g.F d l h→e.oneCell'=true→
  Calls PG 57 #[Ag l,e] d fun q a=>∃c n o p,q=.returned (.func (.func 90) #[] [Pt n 0,Pt o 0].toArray)∧AU [kn0,kn1] g d c a∧Bk c a kn0 n p 56∧AH.rep c.F a p m∧Bk c a kn1 o [e] 85
theorem S0(c:Col)(h:World)(y:∀b,c b<10){a:AE}{n:List Value}{l:Value}{o:AE}(z:AH.rep c.F h n a)(aa:l.oneCell'=true)(p:JU a=some o):
  Calls PG 57 #[Ag n,l] h fun ab d=>∃e q r s,ab=.returned (.func (.func 90) #[] [Pt q 0,Pt r 0].toArray)∧AU [1,2] c h e d∧Bk e d 1 q s 56∧AH.rep e.F d s o∧Bk e d 2 r [l] 85:=by
 rw [JU] at p
 obtain ⟨ac,ad,rfl,u⟩:=E1 (Ae z)
 refine Ay Tryz.func57 rfl Tryz.ntmps57 rfl fun B ae am=>Sr<|Ef<|A0 c 1 rfl rfl fun af an f ag w=>Ef<|A0 af 2 rfl (Dj aa) fun ah ao g ai m=>Va .nilFunc<|AA<|Sr<|Vx (v:=.func (.func 90) #[] [Pt f 0,Pt g 0].toArray) (II (vs:=[Pt f 0,Pt g 0]) rfl)<|Va (.func (.func 90) #[] [Pt f 0,Pt g 0].toArray)<|AA<|AQ ?_
 obtain rfl:=AK p
 refine O1 B ae rfl (.tmp rfl)<|have aj:=Bs ag m;have ak:=K2 AH u w m;⟨ah,f,g,[I a.op,Sb a.name,Sb a.tail,I a.type_,Cx a.num,Sl ac a.args ad,I a.at_],rfl,Ho (Tn (Mo [] w) m) y,aj,(AW (x:=a) ak),ai⟩
theorem MJ:JU.Spec JU:=by
 intro a d s u kn0 kn1 w y e hnd hnz f g
 refine Calls.mono (S0 (recol (see [kn0,kn1]) a) d (Fo lbr a) (BZ AH f [kn0,kn1]) g e) ?_
 rintro z aa ⟨h,l,m,n,o,c,p,q,r⟩
 exact ⟨glue [kn0,kn1] d a h,l,m,n,o,CI c (F0 rfl rfl),U2 (j:=0) p rfl rfl c,D4 AH q,U2 (j:=1) r rfl rfl c⟩
def H7.At(e:Col)(c:World)(f:Int→Option (Int×Int)):Prop:=
 ∀{d a},f d=some a→
  Calls PG 115 #[I d] c fun g h=>∃l,g=.returned (.tuple #[I a.1,I a.2])∧AU [] e c l h
def H7.Spec(f:Int→Option (Int×Int)):Prop:=
 ∀a c,H7.At a c f
theorem S5(g:Col)(u:World)(l:∀b,g b<10):H7.At g u H7:=by
 intro c w a
 rw [H7] at a
 refine Ay Tryz.func115 rfl Tryz.ntmps115 rfl fun B m ad=>Sr<|Va (I 0)<|Va (I 0)<|AA<|AR<|Ah<|Am (fun p q=>∃h d r,p=Env.puts h [(0,I c),(4,.bool r)]∧MH c r=some w∧AU [] g u d q) ?_ ?_
 refine AL<|Vm<|Vr (.bool (decide (c≥8)))<|Vm<|Bo a (fun e a=>?_) fun e a=>?_
 refine Gm e<|Gr e (.bool (decide (c≤13)))<|Vp e<|Va (.bool (decide (c≤13)))<|AA<|⟨_,g,(decide (c≤13)),Pu,a,Rf⟩
 refine Pg e<|Pg e<|Vp e<|Va (.bool false)<|AA<|⟨_,g,false,Pu,a,Rf⟩
 rintro _ q ⟨h,d,r,rfl,a,n⟩
 rw [MH] at a
 refine Cn a (fun aa a=>?_) fun aa a=>?_
 refine Sr<|Va (I 2)<|Va (I 1)<|AA<|AQ ?_
 obtain rfl:=AK a
 refine O2 B m rfl (.tmp rfl) (.tmp rfl)<|⟨d,rfl,Ho (Mo [] n) l⟩
 refine Sr<|Vm<|Vr (.bool (c==14))<|Va (.bool (c==14))<|AA<|Cn a (fun ab a=>?_) fun ab a=>?_
 refine Sr<|Va (I 1)<|Va (I 2)<|AA<|AQ ?_
 obtain rfl:=AK a
 refine O2 B m rfl (.tmp rfl) (.tmp rfl)<|⟨d,rfl,Ho (Mo [] n) l⟩
 refine Am (fun p y=>∃h o s,p=Env.puts h [(14,.bool s)]∧MG s=some w∧AU [] d q o y) ?_ ?_
 refine AL<|Vm<|Vr (.bool (decide (c≥15)))<|Vm<|Bo a (fun f a=>?_) fun f a=>?_
 refine Gm f<|Gr f (.bool (decide (c≤17)))<|Vp f<|Va (.bool (decide (c≤17)))<|AA<|⟨_,d,(decide (c≤17)),Pu,a,Rf⟩
 refine Pg f<|Pg f<|Vp f<|Va (.bool false)<|AA<|⟨_,d,false,Pu,a,Rf⟩
 rintro _ y ⟨h,o,s,rfl,a,z⟩
 rw [MG] at a
 refine Cn a (fun ac a=>?_) fun ac a=>?_
 refine Sr<|Va (I 1)<|Va (I 1)<|AA<|AQ ?_
 obtain rfl:=AK a
 refine O2 B m rfl (.tmp rfl) (.tmp rfl)<|⟨o,rfl,Ho (Tn (Mo [] n) z) l⟩
 refine WC.skip<|Sr<|Va (I 0)<|Va (I 0)<|AA<|AQ ?_
 obtain rfl:=AK a
 refine O2 B m rfl (.tmp rfl) (.tmp rfl)<|⟨o,rfl,Ho (Tn (Mo [] n) z) l⟩
theorem T9:H7.Spec H7:=lk0 (S5)
def D9.At(m:Col)(c:World)(f:(Nat×Nat)→Int→Option (AG×Int)):Prop:=
 ∀{d e a},f d e=some a→
  Calls PG 116 #[Cx d,I e] c fun n g=>∃h l,n=.returned (.tuple #[Ag l,I a.2])∧AU [] m c h g∧Ao.rep h.F g l a.1
def D9.Spec(f:(Nat×Nat)→Int→Option (AG×Int)):Prop:=
 ∀a c,D9.At a c f
theorem Ri(d:Col)(n:World)(e:∀b,d b<10):D9.At d n D9:=by
 intro c f u a
 rw [D9] at a
 refine Ay Tryz.func116 rfl Tryz.ntmps116 rfl fun B g w=>Sr<|Ef<|AY d 20 Cs rfl fun h y z l m=>Va (I 0)<|AA<|AR<|Sr<|Vm<|Vr (.bool (f != 0))<|AA<|Cn a (fun o a=>?_) fun o a=>?_
 refine Sr<|Vx (v:=Ag [I 0,Cx (((0,0):Nat×Nat)),.bool false,.slice none 0 0]) (Bp Cs GU rfl .nil)<|Vm<|Eu<|St DJ l rfl rfl rfl rfl fun aa p q=>Va (I f)<|AA<|AQ ?_
 obtain rfl:=AK a
 refine O2 B g rfl (.agg Bz rfl rfl (Bw p)) (.tmp rfl)<|⟨h,[I 0,Cx (((0,0):Nat×Nat)),.bool false,.slice none 0 0],rfl,Ho (Tn (Mo [20] m) q) e,(Al (x:=(AG.mk 0 ((0,0):Nat×Nat) false [])) BJ)⟩
 refine WC.skip<|Sr<|Vm<|Vx (v:=Ag [I 1,Cx c,.bool false,.slice none 0 0]) (Bp Cs GU rfl (.cons rfl rfl rfl (.cons rfl rfl rfl .nil)))<|Eu<|St DJ l rfl rfl rfl rfl fun ab r s=>Va (I 0)<|AA<|AQ ?_
 obtain rfl:=AK a
 refine O2 B g rfl (.agg Bz rfl rfl (Bw r)) (.tmp rfl)<|⟨h,[I 1,Cx c,.bool false,.slice none 0 0],rfl,Ho (Tn (Mo [20] m) s) e,(Al (x:=(AG.mk 1 c false [])) BJ)⟩
theorem Iz:D9.Spec D9:=lk0 (Ri)
def FE.At(e:Col)(c:World)(f:(Nat×Nat)→Option ((Nat×Nat)×Int)):Prop:=
 ∀{d a},f d=some a→
  Calls PG 137 #[Cx d] c fun g h=>∃l,g=.returned (.tuple #[Cx a.1,I a.2])∧AU [] e c l h
def FE.Spec(f:(Nat×Nat)→Option ((Nat×Nat)×Int)):Prop:=
 ∀a c,FE.At a c f
theorem Rj(e:Col)(f:World)(g:∀b,e b<10):FE.At e f FE:=by
 intro h u a
 rw [FE] at a
 refine Ay Tryz.func137 rfl Tryz.ntmps137 rfl fun B l w=>Sr<|Va (Cx (((0,0):Nat×Nat)))<|Va (I 0)<|AA<|Sr<|Vm<|Vx (v:=Fl h.1) (Run.real rfl)<|Bi a fun c o a=>Vx (v:=Fl c) (Run.fadd rfl rfl o)<|Vm<|Vx (v:=Fl h.2) (Run.imag rfl)<|Bi a fun d p a=>Vx (v:=Fl d) (Run.fadd rfl rfl p)<|Vx (v:=Cx ((c,d))) (Run.complex rfl rfl)<|Va (Cx ((c,d)))<|AA<|AR<|Sr<|Vm<|Bi a fun q r a=>Ca (Cg [Cx ((c,d))] rfl) (DG e f r) ?_
 rintro _ y ⟨m,rfl,n⟩
 refine Vr (.bool (!q))<|AA<|Cn a (fun s a=>?_) fun s a=>?_
 refine Sr<|Va (Cx (((0,0):Nat×Nat)))<|Va (I 50)<|AA<|AQ ?_
 obtain rfl:=AK a
 refine O2 B l rfl (.tmp rfl) (.tmp rfl)<|⟨m,rfl,Ho (Mo [] n) g⟩
 refine WC.skip<|Sr<|Vm<|Va (Cx ((c,d)))<|Va (I 0)<|AA<|AQ ?_
 obtain rfl:=AK a
 refine O2 B l rfl (.tmp rfl) (.tmp rfl)<|⟨m,rfl,Ho (Mo [] n) g⟩
theorem Ky:FE.Spec FE:=lk0 (Rj)
def H8.At(e:Col)(c:World)(f:(Nat×Nat)→Option ((Nat×Nat)×Int)):Prop:=
 ∀{d a},f d=some a→
  Calls PG 117 #[Cx d] c fun g h=>∃l,g=.returned (.tuple #[Cx a.1,I a.2])∧AU [] e c l h
def H8.Spec(f:(Nat×Nat)→Option ((Nat×Nat)×Int)):Prop:=
 ∀a c,H8.At a c f
theorem S6(e:Col)(f:World)(g:∀b,e b<10):H8.At e f H8:=by
 intro c w a
 rw [H8] at a
 refine Ay Tryz.func117 rfl Tryz.ntmps117 rfl fun B h y=>Sr<|Va (Cx (((0,0):Nat×Nat)))<|Va (I 0)<|AA<|AR<|Sr<|Vm<|Bi a fun n o a=>Ca (Cg [Cx c] rfl) (DG e f o) ?_
 rintro _ p ⟨l,rfl,m⟩
 refine Vr (.bool (!n))<|AA<|Cn a (fun q a=>?_) fun q a=>?_
 refine Sr<|Va (Cx (((0,0):Nat×Nat)))<|Va (I 3)<|AA<|AQ ?_
 obtain rfl:=AK a
 refine O2 B h rfl (.tmp rfl) (.tmp rfl)<|⟨l,rfl,Ho (Mo [] m) g⟩
 refine WC.skip<|Sr<|Vm<|Vx (v:=Fl c.1) (Run.real rfl)<|Vm<|Vx (v:=Fl c.2) (Run.imag rfl)<|Vr (Fl (Op.negFloat .f64 c.2))<|Vx (v:=Cx ((c.1,(Op.negFloat .f64 c.2)))) (Run.complex rfl rfl)<|Bi a fun d r a=>Ca (Cg [Cx ((c.1,(Op.negFloat .f64 c.2)))] rfl) (Ky l p r) ?_
 rintro _ z ⟨s,rfl,u⟩
 refine Vr (Cx d.1)<|Vr (I d.2)<|Va (Cx d.1)<|Va (I d.2)<|AA<|AQ ?_
 obtain rfl:=AK a
 refine O2 B h rfl (.tmp rfl) (.tmp rfl)<|⟨s,rfl,Ho (Tn (Mo [] m) u) g⟩
theorem UA:H8.Spec H8:=lk0 (S6)
def Js.At(g:Col)(c:World)(f:(Nat×Nat)→(Nat×Nat)→Option ((Nat×Nat)×Int)):Prop:=
 ∀{d e a},f d e=some a→
  Calls PG 138 #[Cx d,Cx e] c fun h l=>∃m,h=.returned (.tuple #[Cx a.1,I a.2])∧AU [] g c m l
def Js.Spec(f:(Nat×Nat)→(Nat×Nat)→Option ((Nat×Nat)×Int)):Prop:=
 ∀a c,Js.At a c f
theorem UB(d:Col)(g:World)(o:∀b,d b<10):Js.At d g Js:=by
 intro h l z a
 rw [Js] at a
 refine Ay Tryz.func138 rfl Tryz.ntmps138 rfl fun B p am=>Sr<|Va (Cx (((0,0):Nat×Nat)))<|Va (I 0)<|AA<|AR<|Am (fun aa m=>∃q e n,aa=Env.puts q [(0,Cx h),(1,Cx l),(13,.bool n)]∧Ln h l n=some z∧AU [] d g e m) ?_ ?_
 refine AL<|Vm<|Bi a fun ab ac a=>Ca (Cg [Cx h] rfl) (DG d g ac) ?_
 rintro _ ad ⟨r,rfl,s⟩
 refine Vr (.bool (!ab))<|Vm<|Bo a (fun c a=>?_) fun c a=>?_
 refine Pg c<|Pg c<|Pg c<|Vp c<|AA<|⟨_,r,true,Pu,a,(Mo [] s)⟩
 refine Gm c<|Bi a fun u ae a=>CP (.guard (t:=false) (b:=false) rfl rfl rfl rfl (Cb c)) rfl rfl (Cg [Cx l] rfl)<|Calls.mono (DG r ad ae) ?_
 rintro _ an ⟨af,rfl,ag⟩
 refine ⟨_,rfl,?_⟩
 refine Gr c (.bool (!u))<|Vp c<|AA<|⟨_,af,(!u),Pu,a,(Tn (Mo [] s) ag)⟩
 rintro _ m ⟨q,e,n,rfl,a,w⟩
 rw [Ln] at a
 refine Cn a (fun ah a=>?_) fun ah a=>?_
 refine Sr<|Va (Cx (((0,0):Nat×Nat)))<|Va (I 3)<|AA<|AQ ?_
 obtain rfl:=AK a
 refine O2 B p rfl (.tmp rfl) (.tmp rfl)<|⟨e,rfl,Ho (Mo [] w) o⟩
 refine WC.skip<|Sr<|Vm<|Vm<|Bi a fun y ai a=>Vx (v:=Cx y) (Run.cadd rfl rfl ai)<|Bi a fun f aj a=>Ca (Cg [Cx y] rfl) (Ky e m aj) ?_
 rintro _ ao ⟨ak,rfl,al⟩
 refine Vr (Cx f.1)<|Vr (I f.2)<|Va (Cx f.1)<|Va (I f.2)<|AA<|AQ ?_
 obtain rfl:=AK a
 refine O2 B p rfl (.tmp rfl) (.tmp rfl)<|⟨ak,rfl,Ho (Tn (Mo [] w) al) o⟩
theorem VJ:Js.Spec Js:=lk0 (UB)
def Jt.At(g:Col)(c:World)(f:(Nat×Nat)→(Nat×Nat)→Option ((Nat×Nat)×Int)):Prop:=
 ∀{d e a},f d e=some a→
  Calls PG 139 #[Cx d,Cx e] c fun h l=>∃m,h=.returned (.tuple #[Cx a.1,I a.2])∧AU [] g c m l
def Jt.Spec(f:(Nat×Nat)→(Nat×Nat)→Option ((Nat×Nat)×Int)):Prop:=
 ∀a c,Jt.At a c f
theorem UC(d:Col)(g:World)(o:∀b,d b<10):Jt.At d g Jt:=by
 intro h l z a
 rw [Jt] at a
 refine Ay Tryz.func139 rfl Tryz.ntmps139 rfl fun B p am=>Sr<|Va (Cx (((0,0):Nat×Nat)))<|Va (I 0)<|AA<|AR<|Am (fun aa m=>∃q e n,aa=Env.puts q [(0,Cx h),(1,Cx l),(13,.bool n)]∧Lo h l n=some z∧AU [] d g e m) ?_ ?_
 refine AL<|Vm<|Bi a fun ab ac a=>Ca (Cg [Cx h] rfl) (DG d g ac) ?_
 rintro _ ad ⟨r,rfl,s⟩
 refine Vr (.bool (!ab))<|Vm<|Bo a (fun c a=>?_) fun c a=>?_
 refine Pg c<|Pg c<|Pg c<|Vp c<|AA<|⟨_,r,true,Pu,a,(Mo [] s)⟩
 refine Gm c<|Bi a fun u ae a=>CP (.guard (t:=false) (b:=false) rfl rfl rfl rfl (Cb c)) rfl rfl (Cg [Cx l] rfl)<|Calls.mono (DG r ad ae) ?_
 rintro _ an ⟨af,rfl,ag⟩
 refine ⟨_,rfl,?_⟩
 refine Gr c (.bool (!u))<|Vp c<|AA<|⟨_,af,(!u),Pu,a,(Tn (Mo [] s) ag)⟩
 rintro _ m ⟨q,e,n,rfl,a,w⟩
 rw [Lo] at a
 refine Cn a (fun ah a=>?_) fun ah a=>?_
 refine Sr<|Va (Cx (((0,0):Nat×Nat)))<|Va (I 3)<|AA<|AQ ?_
 obtain rfl:=AK a
 refine O2 B p rfl (.tmp rfl) (.tmp rfl)<|⟨e,rfl,Ho (Mo [] w) o⟩
 refine WC.skip<|Sr<|Vm<|Vm<|Bi a fun y ai a=>Vx (v:=Cx y) (Run.csub rfl rfl ai)<|Bi a fun f aj a=>Ca (Cg [Cx y] rfl) (Ky e m aj) ?_
 rintro _ ao ⟨ak,rfl,al⟩
 refine Vr (Cx f.1)<|Vr (I f.2)<|Va (Cx f.1)<|Va (I f.2)<|AA<|AQ ?_
 obtain rfl:=AK a
 refine O2 B p rfl (.tmp rfl) (.tmp rfl)<|⟨ak,rfl,Ho (Tn (Mo [] w) al) o⟩
theorem VK:Jt.Spec Jt:=lk0 (UC)
def Ju.At(g:Col)(c:World)(f:(Nat×Nat)→(Nat×Nat)→Option ((Nat×Nat)×Int)):Prop:=
 ∀{d e a},f d e=some a→
  Calls PG 140 #[Cx d,Cx e] c fun h l=>∃m,h=.returned (.tuple #[Cx a.1,I a.2])∧AU [] g c m l
def Ju.Spec(f:(Nat×Nat)→(Nat×Nat)→Option ((Nat×Nat)×Int)):Prop:=
 ∀a c,Ju.At a c f
theorem UD(d:Col)(g:World)(o:∀b,d b<10):Ju.At d g Ju:=by
 intro h l z a
 rw [Ju] at a
 refine Ay Tryz.func140 rfl Tryz.ntmps140 rfl fun B p am=>Sr<|Va (Cx (((0,0):Nat×Nat)))<|Va (I 0)<|AA<|AR<|Am (fun aa m=>∃q e n,aa=Env.puts q [(0,Cx h),(1,Cx l),(13,.bool n)]∧Lp h l n=some z∧AU [] d g e m) ?_ ?_
 refine AL<|Vm<|Bi a fun ab ac a=>Ca (Cg [Cx h] rfl) (DG d g ac) ?_
 rintro _ ad ⟨r,rfl,s⟩
 refine Vr (.bool (!ab))<|Vm<|Bo a (fun c a=>?_) fun c a=>?_
 refine Pg c<|Pg c<|Pg c<|Vp c<|AA<|⟨_,r,true,Pu,a,(Mo [] s)⟩
 refine Gm c<|Bi a fun u ae a=>CP (.guard (t:=false) (b:=false) rfl rfl rfl rfl (Cb c)) rfl rfl (Cg [Cx l] rfl)<|Calls.mono (DG r ad ae) ?_
 rintro _ an ⟨af,rfl,ag⟩
 refine ⟨_,rfl,?_⟩
 refine Gr c (.bool (!u))<|Vp c<|AA<|⟨_,af,(!u),Pu,a,(Tn (Mo [] s) ag)⟩
 rintro _ m ⟨q,e,n,rfl,a,w⟩
 rw [Lp] at a
 refine Cn a (fun ah a=>?_) fun ah a=>?_
 refine Sr<|Va (Cx (((0,0):Nat×Nat)))<|Va (I 3)<|AA<|AQ ?_
 obtain rfl:=AK a
 refine O2 B p rfl (.tmp rfl) (.tmp rfl)<|⟨e,rfl,Ho (Mo [] w) o⟩
 refine WC.skip<|Sr<|Vm<|Vm<|Bi a fun y ai a=>Vx (v:=Cx y) (Run.cmul rfl rfl ai)<|Bi a fun f aj a=>Ca (Cg [Cx y] rfl) (Ky e m aj) ?_
 rintro _ ao ⟨ak,rfl,al⟩
 refine Vr (Cx f.1)<|Vr (I f.2)<|Va (Cx f.1)<|Va (I f.2)<|AA<|AQ ?_
 obtain rfl:=AK a
 refine O2 B p rfl (.tmp rfl) (.tmp rfl)<|⟨ak,rfl,Ho (Tn (Mo [] w) al) o⟩
theorem VL:Ju.Spec Ju:=lk0 (UD)
def IG.At(e:Col)(a:World)(f:Nat→Option Nat):Prop:=
 ∀{c d},f c=some d→
  Calls PG 145 #[Fl c] a fun g h=>∃l,g=.returned (Fl d)∧AU [] e a l h
def IG.Spec(f:Nat→Option Nat):Prop:=
 ∀a c,IG.At a c f
theorem VM(c:Col)(e:World)(f:∀b,c b<10):IG.At c e IG:=by
 intro a h d
 rw [IG] at d
 refine Ay Tryz.func145 rfl Tryz.ntmps145 rfl fun B g l=>Sr<|Va (Fl (0:Nat))<|AA<|Sr<|Vm<|Vx (v:=.int .u64 ((a:Nat):Int)) (Oo (vs:=[Fl a]) rfl rfl)<|Vr (.int .u64 (Cu .u64 ((a:Nat):Int) 9223372036854775808))<|Vx (v:=Fl (((Cu .u64 ((a:Nat):Int) 9223372036854775808)).toNat)) (Qf (vs:=[.int .u64 (Cu .u64 ((a:Nat):Int) 9223372036854775808)]) rfl rfl)<|Va (Fl (((Cu .u64 ((a:Nat):Int) 9223372036854775808)).toNat))<|AA<|AQ ?_
 obtain rfl:=AK d
 refine O1 B g rfl (.tmp rfl)<|⟨c,rfl,Ho Rf f⟩
theorem O5:IG.Spec IG:=lk0 (VM)
def HO.At(g:Col)(a:World)(f:Nat→Int→Option Bool):Prop:=
 ∀{c d e},f c d=some e→
  Calls PG 152 #[Fl c,I d] a fun h l=>∃m,h=.returned (.bool e)∧AU [] g a m l
def HO.Spec(f:Nat→Int→Option Bool):Prop:=
 ∀a c,HO.At a c f
theorem S7(c:Col)(f:World)(o:∀b,c b<10):HO.At c f HO:=by
 intro d h p a
 rw [HO] at a
 refine Ay Tryz.func152 rfl Tryz.ntmps152 rfl fun B q ab=>Sr<|Va (.bool false)<|AA<|Am (fun r l=>∃m g e,r=Env.puts m [(0,Fl e)]∧KR e=some p∧AU [] c f g l) ?_ ?_
 refine Sr<|Vm<|Vr (.bool (h==0))<|AA<|Cn a (fun s a=>?_) fun s a=>?_
 refine AL<|Vm<|Bi a fun n u a=>Ca (Cg [Fl d] rfl) (O5 c f u) ?_
 rintro _ ac ⟨w,rfl,y⟩
 refine Va (Fl n)<|AA<|⟨_,w,n,Pu,a,(Mo [] y)⟩
 refine Sr<|Vm<|Vr (.bool (decide (h<0)))<|AA<|Cn a (fun z a=>?_) fun z a=>?_
 refine AL<|Vm<|Vr (Fl (Op.negFloat .f64 d))<|Va (Fl (Op.negFloat .f64 d))<|AA<|⟨_,c,(Op.negFloat .f64 d),Pu,a,Rf⟩
 refine WC.skip<|⟨_,c,d,Pu,a,Rf⟩
 rintro _ l ⟨m,g,e,rfl,a,aa⟩
 rw [KR] at a
 refine Sr<|Vm<|Vr (.bool (fgt e (9218868437227405311:Nat)))<|Va (.bool (fgt e (9218868437227405311:Nat)))<|AA<|AQ ?_
 obtain rfl:=AK a
 refine O1 B q rfl (.tmp rfl)<|⟨g,rfl,Ho (Mo [] aa) o⟩
theorem NU:HO.Spec HO:=lk0 (S7)
def Gi.At(e:Col)(a:World)(f:Nat→Option Bool):Prop:=
 ∀{c d},f c=some d→
  Calls PG 153 #[Fl c] a fun g h=>∃l,g=.returned (.bool d)∧AU [] e a l h
def Gi.Spec(f:Nat→Option Bool):Prop:=
 ∀a c,Gi.At a c f
theorem S8(c:Col)(e:World)(f:∀b,c b<10):Gi.At c e Gi:=by
 intro a h d
 rw [Gi] at d
 refine Ay Tryz.func153 rfl Tryz.ntmps153 rfl fun B g l=>Sr<|Va (.bool false)<|AA<|Sr<|Vm<|Vm<|Vr (.bool (fne a a))<|Va (.bool (fne a a))<|AA<|AQ ?_
 obtain rfl:=AK d
 refine O1 B g rfl (.tmp rfl)<|⟨c,rfl,Ho Rf f⟩
theorem MK:Gi.Spec Gi:=lk0 (S8)
def Lq.At(d:Col)(a:World)(f:Option Nat):Prop:=
 ∀{c},f=some c→
  Calls PG 154 #[] a fun e g=>∃h,e=.returned (Fl c)∧AU [] d a h g
def Lq.Spec(f:Option Nat):Prop:=
 ∀a c,Lq.At a c f
theorem VN(a:Col)(d:World)(e:∀b,a b<10):Lq.At a d Lq:=by
 intro g c
 rw [Lq] at c
 refine Ay Tryz.func154 rfl Tryz.ntmps154 rfl fun B f h=>Sr<|Va (Fl (0:Nat))<|AA<|Sr<|Vx (v:=Fl ((9221120237041090561:Int).toNat)) (Qf (vs:=[.int .u64 9221120237041090561]) rfl rfl)<|Va (Fl ((9221120237041090561:Int).toNat))<|AA<|AQ ?_
 obtain rfl:=AK c
 refine O1 B f rfl (.tmp rfl)<|⟨a,rfl,Ho Rf e⟩
theorem WK:Lq.Spec Lq:=lk0 (VN)
def Eg.At(e:Col)(c:World)(f:Nat→Option (Nat×Int)):Prop:=
 ∀{d a},f d=some a→
  Calls PG 164 #[Fl d] c fun g h=>∃l,g=.returned (.tuple #[Fl a.1,I a.2])∧AU [] e c l h
def Eg.Spec(f:Nat→Option (Nat×Int)):Prop:=
 ∀a c,Eg.At a c f
theorem Pr(c:Col)(d:World)(e:∀b,c b<10):Eg.At c d Eg:=by
 intro f r a
 rw [Eg] at a
 refine Ay Tryz.func164 rfl Tryz.ntmps164 rfl fun B g s=>Sr<|Va (Fl (0:Nat))<|Va (I 0)<|AA<|AR<|Sr<|Vm<|Bi a fun n o a=>Ca (Cg [Fl f] rfl) (O5 c d o) ?_
 rintro _ u ⟨h,rfl,l⟩
 refine Vr (.bool (flt_ n (4503599627370496:Nat)))<|AA<|Cn a (fun p a=>?_) fun p a=>?_
 refine Sr<|Vm<|Bi a fun m q a=>Vx (v:=Fl m) (Run.fmul rfl rfl q)<|Va (Fl m)<|Va (I (-52:Int))<|AA<|AQ ?_
 obtain rfl:=AK a
 refine O2 B g rfl (.tmp rfl) (.tmp rfl)<|⟨h,rfl,Ho (Mo [] l) e⟩
 refine WC.skip<|Sr<|Vm<|Va (Fl f)<|Va (I 0)<|AA<|AQ ?_
 obtain rfl:=AK a
 refine O2 B g rfl (.tmp rfl) (.tmp rfl)<|⟨h,rfl,Ho (Mo [] l) e⟩
theorem NF:Eg.Spec Eg:=lk0 (Pr)
def JV.At(e:Col)(c:World)(f:Nat→Option (Nat×Int)):Prop:=
 ∀{d a},f d=some a→
  Calls PG 159 #[Fl d] c fun g h=>∃l,g=.returned (.tuple #[Fl a.1,I a.2])∧AU [] e c l h
def JV.Spec(f:Nat→Option (Nat×Int)):Prop:=
 ∀a c,JV.At a c f
theorem S9(f:Col)(h:World)(l:∀b,f b<10):JV.At f h JV:=by
 intro d w a
 rw [JV] at a
 refine Ay Tryz.func159 rfl Tryz.ntmps159 rfl fun B m ak=>Sr<|Va (Fl (0:Nat))<|Va (I 0)<|AA<|AR<|Ah<|Sr<|Vm<|Vr (.bool (feq d (0:Nat)))<|Va (.bool (feq d (0:Nat)))<|AA<|Cn a (fun y a=>?_) fun y a=>?_
 refine Sr<|Vm<|Va (Fl d)<|Va (I 0)<|AA<|AQ ?_
 obtain rfl:=AK a
 refine O2 B m rfl (.tmp rfl) (.tmp rfl)<|⟨f,rfl,Ho Rf l⟩
 refine Am (fun z n=>∃p g o,z=Env.puts p [(0,Fl d),(9,.bool o)]∧LE d o=some w∧AU [] f h g n) ?_ ?_
 refine AL<|Vm<|Bi a fun al aa a=>Ca (Cg [Fl d,I 0] rfl) (NU f h aa) ?_
 rintro _ ab ⟨q,rfl,r⟩
 refine Vm<|Bo a (fun e a=>?_) fun e a=>?_
 refine Pg e<|Pg e<|Vp e<|Va (.bool true)<|AA<|⟨_,q,true,Pu,a,(Mo [] r)⟩
 refine Gm e<|Bi a fun s ac a=>CP (.guard (t:=false) (b:=false) rfl rfl rfl rfl (Cb e)) rfl rfl (Cg [Fl d] rfl)<|Calls.mono (MK q ab ac) ?_
 rintro _ am ⟨ad,rfl,ae⟩
 refine ⟨_,rfl,?_⟩
 refine Vp e<|Va (.bool s)<|AA<|⟨_,ad,s,Pu,a,(Tn (Mo [] r) ae)⟩
 rintro _ n ⟨p,g,o,rfl,a,u⟩
 rw [LE] at a
 refine Cn a (fun af a=>?_) fun af a=>?_
 refine Sr<|Vm<|Va (Fl d)<|Va (I 0)<|AA<|AQ ?_
 obtain rfl:=AK a
 refine O2 B m rfl (.tmp rfl) (.tmp rfl)<|⟨g,rfl,Ho (Mo [] u) l⟩
 refine WC.skip<|Sr<|Vm<|Bi a fun c ag a=>Ca (Cg [Fl d] rfl) (NF g n ag) ?_
 rintro _ an ⟨ah,rfl,ai⟩
 refine Vm<|Vr (Fl c.1)<|Vr (I c.2)<|Va (Fl c.1)<|Va (I c.2)<|AA<|Sr<|Vm<|Vx (v:=.int .u64 ((c.1:Nat):Int)) (Oo (vs:=[Fl c.1]) rfl rfl)<|Va (.int .u64 ((c.1:Nat):Int))<|AA<|Sr<|Vm<|Vm<|Bi a fun ao aj a=>Vx (v:=.int .u64 (shr .u64 ((c.1:Nat):Int) 52)) (Run.shr rfl rfl (Uz aj))<|Vr (.int .u64 (E4 .u64 (shr .u64 ((c.1:Nat):Int) 52) 2047))<|Vr (I (Wr (E4 .u64 (shr .u64 ((c.1:Nat):Int) 52) 2047)))<|Vr (I (Wr ((Wr (E4 .u64 (shr .u64 ((c.1:Nat):Int) 52) 2047)) - 1023)))<|Vr (I (Wr ((Wr ((Wr (E4 .u64 (shr .u64 ((c.1:Nat):Int) 52) 2047)) - 1023))+1)))<|Vr (I (Wr (c.2+(Wr ((Wr ((Wr (E4 .u64 (shr .u64 ((c.1:Nat):Int) 52) 2047)) - 1023))+1)))))<|Va (I (Wr (c.2+(Wr ((Wr ((Wr (E4 .u64 (shr .u64 ((c.1:Nat):Int) 52) 2047)) - 1023))+1)))))<|AA<|Sr<|Vm<|Vr (.int .u64 (Cu .u64 ((c.1:Nat):Int) 9218868437227405312))<|Va (.int .u64 (Cu .u64 ((c.1:Nat):Int) 9218868437227405312))<|AA<|Sr<|Vm<|Vr (.int .u64 (L8 .u64 (Cu .u64 ((c.1:Nat):Int) 9218868437227405312) 4602678819172646912))<|Va (.int .u64 (L8 .u64 (Cu .u64 ((c.1:Nat):Int) 9218868437227405312) 4602678819172646912))<|AA<|Sr<|Vm<|Vx (v:=Fl (((L8 .u64 (Cu .u64 ((c.1:Nat):Int) 9218868437227405312) 4602678819172646912)).toNat)) (Qf (vs:=[.int .u64 (L8 .u64 (Cu .u64 ((c.1:Nat):Int) 9218868437227405312) 4602678819172646912)]) rfl rfl)<|Va (Fl (((L8 .u64 (Cu .u64 ((c.1:Nat):Int) 9218868437227405312) 4602678819172646912)).toNat))<|AA<|AQ ?_
 obtain rfl:=AK a
 refine O2 B m rfl (.tmp rfl) (.tmp rfl)<|⟨ah,rfl,Ho (Tn (Mo [] u) ai) l⟩
theorem UE:JV.Spec JV:=lk0 (S9)
def H9.At(e:Col)(c:World)(f:Nat→Option (Nat×Int)):Prop:=
 ∀{d a},f d=some a→
  Calls PG 155 #[Fl d] c fun g h=>∃l,g=.returned (.tuple #[Fl a.1,I a.2])∧AU [] e c l h
def H9.Spec(f:Nat→Option (Nat×Int)):Prop:=
 ∀a c,H9.At a c f
theorem TA(d:Col)(e:World)(f:∀b,d b<10):H9.At d e H9:=by
 intro g p a
 rw [H9] at a
 refine Ay Tryz.func155 rfl Tryz.ntmps155 rfl fun B l q=>Sr<|Va (Fl (0:Nat))<|Va (I 0)<|AA<|AR<|WC.cond (t:=false) rfl (fun h=>by cases h) fun h=>WC.skip<|Sr<|Vm<|Bi a fun c m a=>Ca (Cg [Fl g] rfl) (UE d e m) ?_
 rintro _ r ⟨n,rfl,o⟩
 refine Vr (Fl c.1)<|Vr (I c.2)<|Va (Fl c.1)<|Va (I c.2)<|AA<|AQ ?_
 obtain rfl:=AK a
 refine O2 B l rfl (.tmp rfl) (.tmp rfl)<|⟨n,rfl,Ho (Mo [] o) f⟩
theorem Pf:H9.Spec H9:=lk0 (TA)
def HV.At(g:Col)(a:World)(f:Nat→Nat→Option Nat):Prop:=
 ∀{c d e},f c d=some e→
  Calls PG 146 #[Fl c,Fl d] a fun h l=>∃m,h=.returned (Fl e)∧AU [] g a m l
def HV.Spec(f:Nat→Nat→Option Nat):Prop:=
 ∀a c,HV.At a c f
theorem QH(d:Col)(f:World)(g:∀b,d b<10):HV.At d f HV:=by
 intro a c l e
 rw [HV] at e
 refine Ay Tryz.func146 rfl Tryz.ntmps146 rfl fun B h m=>Sr<|Va (Fl (0:Nat))<|AA<|Sr<|Vm<|Vx (v:=.int .u64 ((a:Nat):Int)) (Oo (vs:=[Fl a]) rfl rfl)<|Vr (.int .u64 (Cu .u64 ((a:Nat):Int) 9223372036854775808))<|Vm<|Vx (v:=.int .u64 ((c:Nat):Int)) (Oo (vs:=[Fl c]) rfl rfl)<|Vr (.int .u64 (E4 .u64 ((c:Nat):Int) 9223372036854775808))<|Vr (.int .u64 (L8 .u64 (Cu .u64 ((a:Nat):Int) 9223372036854775808) (E4 .u64 ((c:Nat):Int) 9223372036854775808)))<|Vx (v:=Fl (((L8 .u64 (Cu .u64 ((a:Nat):Int) 9223372036854775808) (E4 .u64 ((c:Nat):Int) 9223372036854775808))).toNat)) (Qf (vs:=[.int .u64 (L8 .u64 (Cu .u64 ((a:Nat):Int) 9223372036854775808) (E4 .u64 ((c:Nat):Int) 9223372036854775808))]) rfl rfl)<|Va (Fl (((L8 .u64 (Cu .u64 ((a:Nat):Int) 9223372036854775808) (E4 .u64 ((c:Nat):Int) 9223372036854775808))).toNat))<|AA<|AQ ?_
 obtain rfl:=AK e
 refine O1 B h rfl (.tmp rfl)<|⟨d,rfl,Ho Rf g⟩
theorem Qq:HV.Spec HV:=lk0 (QH)
def LF.At(e:Col)(a:World)(f:Int→Option Nat):Prop:=
 ∀{c d},f c=some d→
  Calls PG 165 #[I c] a fun g h=>∃l,g=.returned (Fl d)∧AU [] e a l h
def LF.Spec(f:Int→Option Nat):Prop:=
 ∀a c,LF.At a c f
theorem VO(d:Col)(f:World)(l:∀b,d b<10):LF.At d f LF:=by
 intro m n a
 rw [LF] at a
 refine Ay Tryz.func165 rfl Tryz.ntmps165 rfl fun B o s=>Sr<|Va (Fl (0:Nat))<|AA<|Sr<|Va (.int .u64 0)<|AA<|Am (fun p g=>∃h e c,p=Env.puts h [(3,.int .u64 c)]∧NA c=some n∧AU [] d f e g) ?_ ?_
 refine Sr<|Vm<|Vr (.bool (decide (m≥0)))<|AA<|Cn a (fun q a=>?_) fun q a=>?_
 refine AL<|Va (.int .u64 9218868437227405312)<|AA<|⟨_,d,9218868437227405312,Pu,a,Rf⟩
 refine AL<|Va (.int .u64 18442240474082181120)<|AA<|⟨_,d,18442240474082181120,Pu,a,Rf⟩
 rintro _ g ⟨h,e,c,rfl,a,r⟩
 rw [NA] at a
 refine Sr<|Vm<|Vx (v:=Fl (c.toNat)) (Qf (vs:=[.int .u64 c]) rfl rfl)<|Va (Fl (c.toNat))<|AA<|AQ ?_
 obtain rfl:=AK a
 refine O1 B o rfl (.tmp rfl)<|⟨e,rfl,Ho (Mo [] r) l⟩
theorem RD:LF.Spec LF:=lk0 (VO)
def JW.At(g:Col)(a:World)(f:Nat→Int→Option Nat):Prop:=
 ∀{c d e},f c d=some e→
  Calls PG 161 #[Fl c,I d] a fun h l=>∃m,h=.returned (Fl e)∧AU [] g a m l
def JW.Spec(f:Nat→Int→Option Nat):Prop:=
 ∀a c,JW.At a c f
theorem TB(n:Col)(u:World)(h:∀b,n b<10):JW.At n u JW:=by
 intro f d ac a
 rw [JW] at a
 refine Ay Tryz.func161 rfl Tryz.ntmps161 rfl fun B l bc=>Sr<|Va (Fl (0:Nat))<|AA<|AR<|Ah<|Sr<|Vm<|Vr (.bool (feq f (0:Nat)))<|Va (.bool (feq f (0:Nat)))<|AA<|Cn a (fun ai a=>?_) fun ai a=>?_
 refine Sr<|Vm<|Va (Fl f)<|AA<|AQ ?_
 obtain rfl:=AK a
 refine O1 B l rfl (.tmp rfl)<|⟨n,rfl,Ho Rf h⟩
 refine Am (fun w y=>∃o q z,w=Env.puts o [(0,Fl f),(1,I d),(12,.bool z)]∧LH f d z=some ac∧AU [] n u q y) ?_ ?_
 refine AL<|Vm<|Bi a fun bd aj a=>Ca (Cg [Fl f,I 0] rfl) (NU n u aj) ?_
 rintro _ ak ⟨ad,rfl,ae⟩
 refine Vm<|Bo a (fun g a=>?_) fun g a=>?_
 refine Pg g<|Pg g<|Vp g<|Va (.bool true)<|AA<|⟨_,ad,true,Pu,a,(Mo [] ae)⟩
 refine Gm g<|Bi a fun af al a=>CP (.guard (t:=false) (b:=false) rfl rfl rfl rfl (Cb g)) rfl rfl (Cg [Fl f] rfl)<|Calls.mono (MK ad ak al) ?_
 rintro _ be ⟨am,rfl,an⟩
 refine ⟨_,rfl,?_⟩
 refine Vp g<|Va (.bool af)<|AA<|⟨_,am,af,Pu,a,(Tn (Mo [] ae) an)⟩
 rintro _ y ⟨o,q,z,rfl,a,p⟩
 rw [LH] at a
 refine Cn a (fun ao a=>?_) fun ao a=>?_
 refine Sr<|Vm<|Va (Fl f)<|AA<|AQ ?_
 obtain rfl:=AK a
 refine O1 B l rfl (.tmp rfl)<|⟨q,rfl,Ho (Mo [] p) h⟩
 refine WC.skip<|Sr<|Vm<|Bi a fun c ap a=>Ca (Cg [Fl f] rfl) (NF q y ap) ?_
 rintro _ r ⟨m,rfl,s⟩
 refine Vm<|Vr (Fl c.1)<|Vr (I c.2)<|Va (Fl c.1)<|Va (I c.2)<|AA<|Sr<|Vm<|Vm<|Vr (I (Wr (d+c.2)))<|Va (I (Wr (d+c.2)))<|AA<|Sr<|Vm<|Vx (v:=.int .u64 ((c.1:Nat):Int)) (Oo (vs:=[Fl c.1]) rfl rfl)<|Va (.int .u64 ((c.1:Nat):Int))<|AA<|Sr<|Vm<|Vm<|Bi a fun bf aq a=>Vx (v:=.int .u64 (shr .u64 ((c.1:Nat):Int) 52)) (Run.shr rfl rfl (Uz aq))<|Vr (I (Wr (shr .u64 ((c.1:Nat):Int) 52)))<|Vr (I (E4 .i64 (Wr (shr .u64 ((c.1:Nat):Int) 52)) 2047))<|Vr (I (Wr ((E4 .i64 (Wr (shr .u64 ((c.1:Nat):Int) 52)) 2047) - 1023)))<|Vr (I (Wr ((Wr (d+c.2))+(Wr ((E4 .i64 (Wr (shr .u64 ((c.1:Nat):Int) 52)) 2047) - 1023)))))<|Va (I (Wr ((Wr (d+c.2))+(Wr ((E4 .i64 (Wr (shr .u64 ((c.1:Nat):Int) 52)) 2047) - 1023)))))<|AA<|AR<|Sr<|Vm<|Vr (.bool (decide ((Wr ((Wr (d+c.2))+(Wr ((E4 .i64 (Wr (shr .u64 ((c.1:Nat):Int) 52)) 2047) - 1023))))< (-1075:Int))))<|AA<|Cn a (fun ar a=>?_) fun ar a=>?_
 refine Sr<|Vm<|Bi a fun au av a=>Ca (Cg [Fl (0:Nat),Fl c.1] rfl) (Qq m r av) ?_
 rintro _ bg ⟨aw,rfl,ax⟩
 refine Va (Fl au)<|AA<|AQ ?_
 obtain rfl:=AK a
 refine O1 B l rfl (.tmp rfl)<|⟨aw,rfl,Ho (T2 (Mo [] p) s ax) h⟩
 refine WC.skip<|AR<|Sr<|Vm<|Vr (.bool (decide ((Wr ((Wr (d+c.2))+(Wr ((E4 .i64 (Wr (shr .u64 ((c.1:Nat):Int) 52)) 2047) - 1023))))>1023)))<|AA<|Cn a (fun ay a=>?_) fun ay a=>?_
 refine AR<|Sr<|Vm<|Vr (.bool (flt_ c.1 (0:Nat)))<|AA<|Cn a (fun az a=>?_) fun az a=>?_
 refine Sr<|Bi a fun a0 a1 a=>Ca (Cg [I (-1:Int)] rfl) (RD m r a1) ?_
 rintro _ bh ⟨a2,rfl,a3⟩
 refine Va (Fl a0)<|AA<|AQ ?_
 obtain rfl:=AK a
 refine O1 B l rfl (.tmp rfl)<|⟨a2,rfl,Ho (T2 (Mo [] p) s a3) h⟩
 refine WC.skip<|Sr<|Bi a fun a4 a5 a=>Ca (Cg [I 1] rfl) (RD m r a5) ?_
 rintro _ bi ⟨a6,rfl,a7⟩
 refine Va (Fl a4)<|AA<|AQ ?_
 obtain rfl:=AK a
 refine O1 B l rfl (.tmp rfl)<|⟨a6,rfl,Ho (T2 (Mo [] p) s a7) h⟩
 refine WC.skip<|Sr<|Va (Fl (4607182418800017408:Nat))<|AA<|Am (fun w ag=>∃o aa e ab,w=Env.puts o [(1,I e),(6,.int .u64 ((c.1:Nat):Int)),(7,Fl ab)]∧LG c e ab=some ac∧AU [] m r aa ag) ?_ ?_
 refine Sr<|Vm<|Vr (.bool (decide ((Wr ((Wr (d+c.2))+(Wr ((E4 .i64 (Wr (shr .u64 ((c.1:Nat):Int) 52)) 2047) - 1023))))< (-1022:Int))))<|AA<|Cn a (fun a8 a=>?_) fun a8 a=>?_
 refine Sr<|Vm<|Vr (I (Wr ((Wr ((Wr (d+c.2))+(Wr ((E4 .i64 (Wr (shr .u64 ((c.1:Nat):Int) 52)) 2047) - 1023))))+53)))<|Va (I (Wr ((Wr ((Wr (d+c.2))+(Wr ((E4 .i64 (Wr (shr .u64 ((c.1:Nat):Int) 52)) 2047) - 1023))))+53)))<|AA<|AL<|Va (Fl (4368491638549381120:Nat))<|AA<|⟨_,m,(Wr ((Wr ((Wr (d+c.2))+(Wr ((E4 .i64 (Wr (shr .u64 ((c.1:Nat):Int) 52)) 2047) - 1023))))+53)),(4368491638549381120:Nat),Pu,a,Rf⟩
 refine WC.skip<|⟨_,m,(Wr ((Wr (d+c.2))+(Wr ((E4 .i64 (Wr (shr .u64 ((c.1:Nat):Int) 52)) 2047) - 1023)))),(4607182418800017408:Nat),Pu,a,Rf⟩
 rintro _ ag ⟨o,aa,e,ab,rfl,a,a9⟩
 rw [LG] at a
 refine Sr<|Vm<|Vr (.int .u64 (Cu .u64 ((c.1:Nat):Int) 9218868437227405312))<|Va (.int .u64 (Cu .u64 ((c.1:Nat):Int) 9218868437227405312))<|AA<|Sr<|Vm<|Vm<|Vr (I (Wr (e+1023)))<|Vr (.int .u64 (IntKind.u64.wrap (Wr (e+1023))))<|Bi a fun bj ba a=>Vx (v:=.int .u64 (shl .u64 (IntKind.u64.wrap (Wr (e+1023))) 52)) (Run.shl rfl rfl (Uz ba))<|Vr (.int .u64 (L8 .u64 (Cu .u64 ((c.1:Nat):Int) 9218868437227405312) (shl .u64 (IntKind.u64.wrap (Wr (e+1023))) 52)))<|Va (.int .u64 (L8 .u64 (Cu .u64 ((c.1:Nat):Int) 9218868437227405312) (shl .u64 (IntKind.u64.wrap (Wr (e+1023))) 52)))<|AA<|Sr<|Vm<|Vm<|Vx (v:=Fl (((L8 .u64 (Cu .u64 ((c.1:Nat):Int) 9218868437227405312) (shl .u64 (IntKind.u64.wrap (Wr (e+1023))) 52))).toNat)) (Qf (vs:=[.int .u64 (L8 .u64 (Cu .u64 ((c.1:Nat):Int) 9218868437227405312) (shl .u64 (IntKind.u64.wrap (Wr (e+1023))) 52))]) rfl rfl)<|Bi a fun ah bb a=>Vx (v:=Fl ah) (Run.fmul rfl rfl bb)<|Va (Fl ah)<|AA<|AQ ?_
 obtain rfl:=AK a
 refine O1 B l rfl (.tmp rfl)<|⟨aa,rfl,Ho (T2 (Mo [] p) s a9) h⟩
theorem UF:JW.Spec JW:=lk0 (TB)
def Im.At(g:Col)(a:World)(f:Nat→Int→Option Nat):Prop:=
 ∀{c d e},f c d=some e→
  Calls PG 156 #[Fl c,I d] a fun h l=>∃m,h=.returned (Fl e)∧AU [] g a m l
def Im.Spec(f:Nat→Int→Option Nat):Prop:=
 ∀a c,Im.At a c f
theorem TC(c:Col)(d:World)(e:∀b,c b<10):Im.At c d Im:=by
 intro f g q a
 rw [Im] at a
 refine Ay Tryz.func156 rfl Tryz.ntmps156 rfl fun B l r=>Sr<|Va (Fl (0:Nat))<|AA<|AR<|WC.cond (t:=false) rfl (fun h=>by cases h) fun h=>WC.skip<|Sr<|Vm<|Vm<|Bi a fun m n a=>Ca (Cg [Fl f,I g] rfl) (UF c d n) ?_
 rintro _ s ⟨o,rfl,p⟩
 refine Va (Fl m)<|AA<|AQ ?_
 obtain rfl:=AK a
 refine O1 B l rfl (.tmp rfl)<|⟨o,rfl,Ho (Mo [] p) e⟩
theorem UG:Im.Spec Im:=lk0 (TC)
def LI.At(g:Col)(a:World)(f:Nat→Nat→Option Nat):Prop:=
 ∀{c d e},f c d=some e→
  Calls PG 150 #[Fl c,Fl d] a fun h l=>∃m,h=.returned (Fl e)∧AU [] g a m l
def LI.Spec(f:Nat→Nat→Option Nat):Prop:=
 ∀a c,LI.At a c f
theorem VP(z:Nat)(u:Col)(ag:World)(aq:∀b,u b<10):LI.At u ag (LI z):=by
 intro c w q a
 rw [LI] at a
 refine Ay Tryz.func150 rfl Tryz.ntmps150 rfl fun B ar b2=>Sr<|Va (Fl (0:Nat))<|AA<|AR<|Am (fun h aa=>∃e ab ah,h=Env.puts e [(0,Fl c),(1,Fl w),(23,.bool ah)]∧Kl z c w ah=some q∧AU [] u ag ab aa) ?_ ?_
 refine AL<|Vm<|Vr (.bool (feq w (0:Nat)))<|Vm<|Bo a (fun n a=>?_) fun n a=>?_
 refine Pg n<|Pg n<|Vp n<|Vm<|Pg rfl<|Pg rfl<|Vr (.bool true)<|Vm<|Pg rfl<|Pg rfl<|Vr (.bool true)<|AA<|⟨_,u,true,Pu,a,Rf⟩
 refine Gm n<|Bi a fun b3 a1 a=>CP (.guard (t:=false) (b:=false) rfl rfl rfl rfl (Cb n)) rfl rfl (Cg [Fl c,I 0] rfl)<|Calls.mono (NU u ag a1) ?_
 rintro _ a2 ⟨au,rfl,ai⟩
 refine ⟨_,rfl,?_⟩
 refine Vp n<|Vm<|Bo a (fun o a=>?_) fun o a=>?_
 refine Pg o<|Pg o<|Vp o<|Vm<|Pg rfl<|Pg rfl<|Vr (.bool true)<|AA<|⟨_,au,true,Pu,a,(Mo [] ai)⟩
 refine Gm o<|Bi a fun b4 a3 a=>CP (.guard (t:=false) (b:=false) rfl rfl rfl rfl (Cb o)) rfl rfl (Cg [Fl c] rfl)<|Calls.mono (MK au a2 a3) ?_
 rintro _ a4 ⟨av,rfl,aw⟩
 refine ⟨_,rfl,?_⟩
 refine Vp o<|Vm<|Bo a (fun p a=>?_) fun p a=>?_
 refine Pg p<|Pg p<|Vp p<|AA<|⟨_,av,true,Pu,a,(Tn (Mo [] ai) aw)⟩
 refine Gm p<|Bi a fun a5 a6 a=>CP (.guard (t:=false) (b:=false) rfl rfl rfl rfl (Cb p)) rfl rfl (Cg [Fl w] rfl)<|Calls.mono (MK av a4 a6) ?_
 rintro _ b5 ⟨a7,rfl,a8⟩
 refine ⟨_,rfl,?_⟩
 refine Vp p<|AA<|⟨_,a7,a5,Pu,a,(T2 (Mo [] ai) aw a8)⟩
 rintro _ aa ⟨e,ab,ah,rfl,a,ax⟩
 rw [Kl] at a
 refine Cn a (fun a9 a=>?_) fun a9 a=>?_
 refine Sr<|Bi a fun ba bb a=>Ca (Cg [] rfl) (WK ab aa bb) ?_
 rintro _ b6 ⟨bc,rfl,bd⟩
 refine Va (Fl ba)<|AA<|AQ ?_
 obtain rfl:=AK a
 refine O1 B ar rfl (.tmp rfl)<|⟨bc,rfl,Ho (Tn (Mo [] ax) bd) aq⟩
 refine WC.skip<|Sr<|Vm<|Bi a fun f be a=>Ca (Cg [Fl w] rfl) (O5 ab aa be) ?_
 rintro _ bf ⟨bg,rfl,bh⟩
 refine Va (Fl f)<|AA<|Sr<|Vm<|Bi a fun d bi a=>Ca (Cg [Fl f] rfl) (Pf bg bf bi) ?_
 rintro _ bj ⟨aj,rfl,bk⟩
 refine Vm<|Vr (Fl d.1)<|Vr (I d.2)<|Va (Fl d.1)<|Va (I d.2)<|AA<|Sr<|Vm<|Va (Fl c)<|AA<|Am (fun h ak=>∃e ac ad,h=Env.puts e [(0,Fl c),(1,Fl f),(5,Fl d.1),(6,I d.2),(7,Fl ad)]∧Lb z c f d ad=some q∧AU [] aj bj ac ak) ?_ ?_
 refine Sr<|Vm<|Vr (.bool (flt_ c (0:Nat)))<|AA<|Cn a (fun bl a=>?_) fun bl a=>?_
 refine AL<|Vm<|Vr (Fl (Op.negFloat .f64 c))<|Va (Fl (Op.negFloat .f64 c))<|AA<|⟨_,aj,(Op.negFloat .f64 c),Pu,a,Rf⟩
 refine WC.skip<|⟨_,aj,c,Pu,a,Rf⟩
 rintro _ ak ⟨e,ac,ad,rfl,a,bm⟩
 rw [Lb] at a
 refine AR<|Ah<|Bj (fun m h ae=>∃e r g,h=Env.puts e [(0,Fl c),(1,Fl f),(5,Fl d.1),(6,I d.2),(7,Fl g)]∧J4 c f d m g=some q∧AU [] ac ak r ae) z ?_ ?_
 exact ⟨_,ac,ad,Pu,a,Rf⟩
 rintro m _ ae ⟨e,r,g,rfl,a,ay⟩
 rcases m with _|m
 exact A7 a
 refine have a:Lr c f d (J4 c f d m) g=some q:=a; ?_
 obtain ⟨bn,az⟩:∃s,s=J4 c f d m:=⟨_,rfl⟩
 rw [←az,Lr] at a
 refine AR<|Sr<|Vm<|Vm<|Vr (.bool (fge g f))<|AA<|Cn a (fun bo a=>?_) fun bo a=>?_
 refine WC.skip<|Ah<|Sr<|Vm<|Bi a fun l bp a=>Ca (Cg [Fl g] rfl) (Pf r ae bp) ?_
 rintro _ bq ⟨al,rfl,br⟩
 refine Vm<|Vr (Fl l.1)<|Vr (I l.2)<|Va (Fl l.1)<|Va (I l.2)<|AA<|Am (fun h am=>∃e an y,h=Env.puts e [(0,Fl c),(1,Fl f),(5,Fl d.1),(6,I d.2),(7,Fl g),(9,I y)]∧Kk f d g bn y=some q∧AU [] al bq an am) ?_ ?_
 refine Sr<|Vm<|Vm<|Vr (.bool (flt_ l.1 d.1))<|AA<|Cn a (fun bt a=>?_) fun bt a=>?_
 refine AL<|Vm<|Vr (I (Wr (l.2 - 1)))<|Va (I (Wr (l.2 - 1)))<|AA<|⟨_,al,(Wr (l.2 - 1)),Pu,a,Rf⟩
 refine WC.skip<|⟨_,al,l.2,Pu,a,Rf⟩
 rintro _ am ⟨e,an,y,rfl,a,bu⟩
 rw [Kk] at a
 refine AL<|Vm<|Vm<|Vm<|Vm<|Vr (I (Wr (y - d.2)))<|Bi a fun b7 bv a=>Ca (Cg [Fl f,I (Wr (y - d.2))] rfl) (UG an am bv) ?_
 rintro _ b8 ⟨bw,rfl,bx⟩
 refine Bi a fun ao bz a=>Vx (v:=Fl ao) (Run.fsub rfl rfl bz)<|Va (Fl ao)<|AA<|⟨m,Nat.lt_succ_self m,_,bw,ao,Pu,(az▸a),(T3 (Mo [] ay) br bu bx)⟩
 refine Bd<|Am (fun h a0=>∃e ap af,h=Env.puts e [(7,Fl af)]∧NB af=some q∧AU [] r ae ap a0) ?_ ?_
 refine Sr<|Vm<|Vr (.bool (flt_ c (0:Nat)))<|AA<|Cn a (fun b0 a=>?_) fun b0 a=>?_
 refine AL<|Vm<|Vr (Fl (Op.negFloat .f64 g))<|Va (Fl (Op.negFloat .f64 g))<|AA<|⟨_,r,(Op.negFloat .f64 g),Pu,a,Rf⟩
 refine WC.skip<|⟨_,r,g,Pu,a,Rf⟩
 rintro _ a0 ⟨e,ap,af,rfl,a,b1⟩
 rw [NB] at a
 refine Sr<|Vm<|Va (Fl af)<|AA<|AQ ?_
 obtain rfl:=AK a
 refine O1 B ar rfl (.tmp rfl)<|⟨ap,rfl,Ho (Tn (T4 (Mo [] ax) bh bk bm ay) b1) aq⟩
theorem WM(c:Nat):LI.Spec (LI c):=lk0 (VP c)
def KF.At(g:Col)(a:World)(f:Nat→Nat→Option Nat):Prop:=
 ∀{c d e},f c d=some e→
  Calls PG 147 #[Fl c,Fl d] a fun h l=>∃m,h=.returned (Fl e)∧AU [] g a m l
def KF.Spec(f:Nat→Nat→Option Nat):Prop:=
 ∀a c,KF.At a c f
theorem VQ(d:Nat)(c:Col)(e:World)(f:∀b,c b<10):KF.At c e (KF d):=by
 intro g l r a
 rw [KF] at a
 refine Ay Tryz.func147 rfl Tryz.ntmps147 rfl fun B m s=>Sr<|Va (Fl (0:Nat))<|AA<|AR<|WC.cond (t:=false) rfl (fun h=>by cases h) fun h=>WC.skip<|Sr<|Vm<|Vm<|Bi a fun n o a=>Ca (Cg [Fl g,Fl l] rfl) (WM d c e o) ?_
 rintro _ u ⟨p,rfl,q⟩
 refine Va (Fl n)<|AA<|AQ ?_
 obtain rfl:=AK a
 refine O1 B m rfl (.tmp rfl)<|⟨p,rfl,Ho (Mo [] q) f⟩
theorem RE(c:Nat):KF.Spec (KF c):=lk0 (VQ c)
def Jv.At(g:Col)(c:World)(f:(Nat×Nat)→(Nat×Nat)→Option ((Nat×Nat)×Int)):Prop:=
 ∀{d e a},f d e=some a→
  Calls PG 141 #[Cx d,Cx e] c fun h l=>∃m,h=.returned (.tuple #[Cx a.1,I a.2])∧AU [] g c m l
def Jv.Spec(f:(Nat×Nat)→(Nat×Nat)→Option ((Nat×Nat)×Int)):Prop:=
 ∀a c,Jv.At a c f
theorem UH(m:Nat)(n:Col)(w:World)(o:∀b,n b<10):Jv.At n w (Jv m):=by
 intro y d ag a
 rw [Jv] at a
 refine Ay Tryz.func141 rfl Tryz.ntmps141 rfl fun B p bb=>Sr<|Va (Cx (((0,0):Nat×Nat)))<|Va (I 0)<|AA<|AR<|Ah<|Am (fun z q=>∃l h aa,z=Env.puts l [(0,Cx y),(1,Cx d),(9,.bool aa)]∧Lt m y d aa=some ag∧AU [] n w h q) ?_ ?_
 refine AL<|Vm<|Bi a fun an ao a=>Ca (Cg [Cx y] rfl) (DG n w ao) ?_
 rintro _ ap ⟨ah,rfl,ai⟩
 refine Vr (.bool (!an))<|Vm<|Bo a (fun f a=>?_) fun f a=>?_
 refine Pg f<|Pg f<|Pg f<|Vp f<|Va (.bool true)<|AA<|⟨_,ah,true,Pu,a,(Mo [] ai)⟩
 refine Gm f<|Bi a fun ab aq a=>CP (.guard (t:=false) (b:=false) rfl rfl rfl rfl (Cb f)) rfl rfl (Cg [Cx d] rfl)<|Calls.mono (DG ah ap aq) ?_
 rintro _ bc ⟨ar,rfl,au⟩
 refine ⟨_,rfl,?_⟩
 refine Gr f (.bool (!ab))<|Vp f<|Va (.bool (!ab))<|AA<|⟨_,ar,(!ab),Pu,a,(Tn (Mo [] ai) au)⟩
 rintro _ q ⟨l,h,aa,rfl,a,r⟩
 rw [Lt] at a
 refine Cn a (fun av a=>?_) fun av a=>?_
 refine Sr<|Va (Cx (((0,0):Nat×Nat)))<|Va (I 3)<|AA<|AQ ?_
 obtain rfl:=AK a
 refine O2 B p rfl (.tmp rfl) (.tmp rfl)<|⟨h,rfl,Ho (Mo [] r) o⟩
 refine Sr<|Vm<|Vx (v:=.bool (ceq d ((0,0):Nat×Nat))) (Run.ceq rfl rfl)<|Va (.bool (ceq d ((0,0):Nat×Nat)))<|AA<|Cn a (fun aw a=>?_) fun aw a=>?_
 refine Sr<|Va (Cx (((0,0):Nat×Nat)))<|Va (I 51)<|AA<|AQ ?_
 obtain rfl:=AK a
 refine O2 B p rfl (.tmp rfl) (.tmp rfl)<|⟨h,rfl,Ho (Mo [] r) o⟩
 refine WC.skip<|Sr<|Vm<|Vx (v:=Fl d.1) (Run.real rfl)<|Vm<|Vx (v:=Fl d.2) (Run.imag rfl)<|Vr (Fl (Op.negFloat .f64 d.2))<|Vx (v:=Cx ((d.1,(Op.negFloat .f64 d.2)))) (Run.complex rfl rfl)<|Va (Cx ((d.1,(Op.negFloat .f64 d.2))))<|AA<|Sr<|Vm<|Vm<|Bi a fun e ax a=>Vx (v:=Cx e) (Run.cmul rfl rfl ax)<|Vm<|Vm<|Bi a fun g ay a=>Vx (v:=Cx g) (Run.cmul rfl rfl ay)<|Vx (v:=Fl g.1) (Run.real rfl)<|Va (Cx e)<|Va (Fl g.1)<|AA<|AR<|Am (fun z ac=>∃l s ad,z=Env.puts l [(7,Cx e),(8,Fl g.1),(45,.bool ad)]∧Ls e g ad=some ag∧AU [] h q s ac) ?_ ?_
 refine AL<|Vm<|Vx (v:=Fl e.1) (Run.real rfl)<|Vm<|Bi a fun az a0 a=>Ca (Cg [Fl e.1,Fl g.1] rfl) (RE m h q a0) ?_
 rintro _ a1 ⟨aj,rfl,ak⟩
 refine Vr (.bool (fne az (0:Nat)))<|Vm<|Bo a (fun c a=>?_) fun c a=>?_
 refine Pg c<|Pg c<|Pg c<|Pg c<|Pg c<|Vp c<|AA<|⟨_,aj,true,Pu,a,(Mo [] ak)⟩
 refine Gm c<|Gx c (v:=Fl e.2) (Run.imag rfl)<|Gm c<|Bi a fun al a2 a=>CP (.guard (t:=false) (b:=false) rfl rfl rfl rfl (Cb c)) rfl rfl (Cg [Fl e.2,Fl g.1] rfl)<|Calls.mono (RE m aj a1 a2) ?_
 rintro _ bd ⟨a3,rfl,a4⟩
 refine ⟨_,rfl,?_⟩
 refine Gr c (.bool (fne al (0:Nat)))<|Vp c<|AA<|⟨_,a3,(fne al (0:Nat)),Pu,a,(Tn (Mo [] ak) a4)⟩
 rintro _ ac ⟨l,s,ad,rfl,a,am⟩
 rw [Ls] at a
 refine Cn a (fun a5 a=>?_) fun a5 a=>?_
 refine Sr<|Va (Cx (((0,0):Nat×Nat)))<|Va (I 51)<|AA<|AQ ?_
 obtain rfl:=AK a
 refine O2 B p rfl (.tmp rfl) (.tmp rfl)<|⟨s,rfl,Ho (Tn (Mo [] r) am) o⟩
 refine WC.skip<|Sr<|Vm<|Vx (v:=Fl e.1) (Run.real rfl)<|Vm<|Bi a fun ae a6 a=>Vx (v:=Fl ae) (Run.fdiv rfl rfl a6)<|Vm<|Vx (v:=Fl e.2) (Run.imag rfl)<|Vm<|Bi a fun af a7 a=>Vx (v:=Fl af) (Run.fdiv rfl rfl a7)<|Vx (v:=Cx ((ae,af))) (Run.complex rfl rfl)<|Bi a fun u a8 a=>Ca (Cg [Cx ((ae,af))] rfl) (Ky s ac a8) ?_
 rintro _ be ⟨a9,rfl,ba⟩
 refine Vr (Cx u.1)<|Vr (I u.2)<|Va (Cx u.1)<|Va (I u.2)<|AA<|AQ ?_
 obtain rfl:=AK a
 refine O2 B p rfl (.tmp rfl) (.tmp rfl)<|⟨a9,rfl,Ho (T2 (Mo [] r) am ba) o⟩
theorem VR(c:Nat):Jv.Spec (Jv c):=lk0 (UH c)
def In.At(g:Col)(c:World)(f:(Nat×Nat)→(Nat×Nat)→Option (Bool×Int)):Prop:=
 ∀{d e a},f d e=some a→
  Calls PG 142 #[Cx d,Cx e] c fun h l=>∃m,h=.returned (.tuple #[.bool a.1,I a.2])∧AU [] g c m l
def In.Spec(f:(Nat×Nat)→(Nat×Nat)→Option (Bool×Int)):Prop:=
 ∀a c,In.At a c f
theorem TD(g:Col)(h:World)(l:∀b,g b<10):In.At g h In:=by
 intro c d w a
 rw [In] at a
 refine Ay Tryz.func142 rfl Tryz.ntmps142 rfl fun B m ah=>Sr<|Va (.bool false)<|Va (I 0)<|AA<|AR<|Am (fun y p=>∃q f n,y=Env.puts q [(0,Cx c),(1,Cx d),(13,.bool n)]∧LJ c d n=some w∧AU [] g h f p) ?_ ?_
 refine AL<|Vm<|Bi a fun z aa a=>Ca (Cg [Cx c] rfl) (DG g h aa) ?_
 rintro _ ab ⟨r,rfl,s⟩
 refine Vr (.bool (!z))<|Vm<|Bo a (fun e a=>?_) fun e a=>?_
 refine Pg e<|Pg e<|Pg e<|Vp e<|AA<|⟨_,r,true,Pu,a,(Mo [] s)⟩
 refine Gm e<|Bi a fun u ac a=>CP (.guard (t:=false) (b:=false) rfl rfl rfl rfl (Cb e)) rfl rfl (Cg [Cx d] rfl)<|Calls.mono (DG r ab ac) ?_
 rintro _ ai ⟨ad,rfl,ae⟩
 refine ⟨_,rfl,?_⟩
 refine Gr e (.bool (!u))<|Vp e<|AA<|⟨_,ad,(!u),Pu,a,(Tn (Mo [] s) ae)⟩
 rintro _ p ⟨q,f,n,rfl,a,o⟩
 rw [LJ] at a
 refine Cn a (fun af a=>?_) fun af a=>?_
 refine Sr<|Va (.bool false)<|Va (I 3)<|AA<|AQ ?_
 obtain rfl:=AK a
 refine O2 B m rfl (.tmp rfl) (.tmp rfl)<|⟨f,rfl,Ho (Mo [] o) l⟩
 refine WC.skip<|AR<|Sr<|Vm<|Vx (v:=Fl c.1) (Run.real rfl)<|Vm<|Vx (v:=Fl d.1) (Run.real rfl)<|Vr (.bool (fne c.1 d.1))<|AA<|Cn a (fun ag a=>?_) fun ag a=>?_
 refine Sr<|Vm<|Vx (v:=Fl c.1) (Run.real rfl)<|Vm<|Vx (v:=Fl d.1) (Run.real rfl)<|Vr (.bool (flt_ c.1 d.1))<|Va (.bool (flt_ c.1 d.1))<|Va (I 0)<|AA<|AQ ?_
 obtain rfl:=AK a
 refine O2 B m rfl (.tmp rfl) (.tmp rfl)<|⟨f,rfl,Ho (Mo [] o) l⟩
 refine WC.skip<|Sr<|Vm<|Vx (v:=Fl c.2) (Run.imag rfl)<|Vm<|Vx (v:=Fl d.2) (Run.imag rfl)<|Vr (.bool (flt_ c.2 d.2))<|Va (.bool (flt_ c.2 d.2))<|Va (I 0)<|AA<|AQ ?_
 obtain rfl:=AK a
 refine O2 B m rfl (.tmp rfl) (.tmp rfl)<|⟨f,rfl,Ho (Mo [] o) l⟩
theorem UI:In.Spec In:=lk0 (TD)
def KG.At(n:Col)(c:World)(f:Int→(Nat×Nat)→(Nat×Nat)→Option (AG×Int)):Prop:=
 ∀{d e g a},f d e g=some a→
  Calls PG 118 #[I d,Cx e,Cx g] c fun o h=>∃l m,o=.returned (.tuple #[Ag m,I a.2])∧AU [] n c l h∧Ao.rep l.F h m a.1
def KG.Spec(f:Int→(Nat×Nat)→(Nat×Nat)→Option (AG×Int)):Prop:=
 ∀a c,KG.At a c f
theorem VS(ai:Nat)(z:Col)(a2:World)(m:∀b,z b<10):KG.At z a2 (KG ai):=by
 intro f g h ci a
 rw [KG] at a
 refine Ay Tryz.func118 rfl Tryz.ntmps118 rfl fun B n cj=>Sr<|Ef<|AY z 20 Cs rfl fun o r ck p q=>Va (I 0)<|AA<|AR<|Sr<|Vm<|AA<|Ah<|Sr<|Vr (.bool (f==8))<|Va (.bool (f==8))<|AA<|Cn a (fun a3 a=>?_) fun a3 a=>?_
 refine Sr<|Vm<|Vm<|Bi a fun s a4 a=>Ca (Cg [Cx g,Cx h] rfl) (VJ o r a4) ?_
 rintro _ a5 ⟨a6,rfl,aj⟩
 refine Vr (Cx s.1)<|Vr (I s.2)<|Bi a fun c a7 a=>Ca (Cg [Cx s.1,I s.2] rfl) (Iz a6 a5 a7) ?_
 rintro _ cl ⟨a8,cm,rfl,ak,a9⟩
 obtain ⟨aa,ab,rfl,al⟩:=E1 (Az a9)
 refine Vr (Ag [I c.1.type_,Cx c.1.num,.bool c.1.bool,Sl aa c.1.list ab])<|Vr (I c.2)<|have ba:=Y2 p aj ak;Eu<|St DJ ba rfl rfl rfl rfl fun co bb am=>Va (I c.2)<|AA<|AQ ?_
 obtain rfl:=AK a
 refine O2 B n rfl (.agg Bz rfl rfl (Bw bb)) (.tmp rfl)<|have bc:=Ss Kd.cpx al am;⟨a8,[I c.1.type_,Cx c.1.num,.bool c.1.bool,Sl aa c.1.list ab],rfl,Ho (T3 (Mo [20] q) aj ak am) m,(Al (x:=c.1) bc)⟩
 refine Sr<|Vr (.bool (f==9))<|Va (.bool (f==9))<|AA<|Cn a (fun bd a=>?_) fun bd a=>?_
 refine Sr<|Vm<|Vm<|Bi a fun u be a=>Ca (Cg [Cx g,Cx h] rfl) (VK o r be) ?_
 rintro _ bf ⟨bg,rfl,an⟩
 refine Vr (Cx u.1)<|Vr (I u.2)<|Bi a fun d bh a=>Ca (Cg [Cx u.1,I u.2] rfl) (Iz bg bf bh) ?_
 rintro _ cq ⟨bi,cr,rfl,ao,bj⟩
 obtain ⟨ac,ad,rfl,ap⟩:=E1 (Az bj)
 refine Vr (Ag [I d.1.type_,Cx d.1.num,.bool d.1.bool,Sl ac d.1.list ad])<|Vr (I d.2)<|have bk:=Y2 p an ao;Eu<|St DJ bk rfl rfl rfl rfl fun cu bl aq=>Va (I d.2)<|AA<|AQ ?_
 obtain rfl:=AK a
 refine O2 B n rfl (.agg Bz rfl rfl (Bw bl)) (.tmp rfl)<|have bm:=Ss Kd.cpx ap aq;⟨bi,[I d.1.type_,Cx d.1.num,.bool d.1.bool,Sl ac d.1.list ad],rfl,Ho (T3 (Mo [20] q) an ao aq) m,(Al (x:=d.1) bm)⟩
 refine Sr<|Vr (.bool (f==10))<|Va (.bool (f==10))<|AA<|Cn a (fun bn a=>?_) fun bn a=>?_
 refine Sr<|Vm<|Vm<|Bi a fun w bo a=>Ca (Cg [Cx g,Cx h] rfl) (VL o r bo) ?_
 rintro _ bp ⟨bq,rfl,ar⟩
 refine Vr (Cx w.1)<|Vr (I w.2)<|Bi a fun x63 br a=>Ca (Cg [Cx w.1,I w.2] rfl) (Iz bq bp br) ?_
 rintro _ cv ⟨bt,cw,rfl,au,bu⟩
 obtain ⟨ae,af,rfl,av⟩:=E1 (Az bu)
 refine Vr (Ag [I x63.1.type_,Cx x63.1.num,.bool x63.1.bool,Sl ae x63.1.list af])<|Vr (I x63.2)<|have bv:=Y2 p ar au;Eu<|St DJ bv rfl rfl rfl rfl fun cy bw aw=>Va (I x63.2)<|AA<|AQ ?_
 obtain rfl:=AK a
 refine O2 B n rfl (.agg Bz rfl rfl (Bw bw)) (.tmp rfl)<|have bx:=Ss Kd.cpx av aw;⟨bt,[I x63.1.type_,Cx x63.1.num,.bool x63.1.bool,Sl ae x63.1.list af],rfl,Ho (T3 (Mo [20] q) ar au aw) m,(Al (x:=x63.1) bx)⟩
 refine Sr<|Vr (.bool (f==11))<|Va (.bool (f==11))<|AA<|Cn a (fun bz a=>?_) fun bz a=>?_
 refine Sr<|Vm<|Vm<|Bi a fun y b0 a=>Ca (Cg [Cx g,Cx h] rfl) (VR ai o r b0) ?_
 rintro _ b1 ⟨b2,rfl,ax⟩
 refine Vr (Cx y.1)<|Vr (I y.2)<|Bi a fun e b3 a=>Ca (Cg [Cx y.1,I y.2] rfl) (Iz b2 b1 b3) ?_
 rintro _ cz ⟨b4,c0,rfl,ay,b5⟩
 obtain ⟨ag,ah,rfl,az⟩:=E1 (Az b5)
 refine Vr (Ag [I e.1.type_,Cx e.1.num,.bool e.1.bool,Sl ag e.1.list ah])<|Vr (I e.2)<|have b6:=Y2 p ax ay;Eu<|St DJ b6 rfl rfl rfl rfl fun c2 b7 a0=>Va (I e.2)<|AA<|AQ ?_
 obtain rfl:=AK a
 refine O2 B n rfl (.agg Bz rfl rfl (Bw b7)) (.tmp rfl)<|have b8:=Ss Kd.cpx az a0;⟨b4,[I e.1.type_,Cx e.1.num,.bool e.1.bool,Sl ag e.1.list ah],rfl,Ho (T3 (Mo [20] q) ax ay a0) m,(Al (x:=e.1) b8)⟩
 refine Sr<|Vr (.bool (f==12))<|Va (.bool (f==12))<|AA<|Cn a (fun b9 a=>?_) fun b9 a=>?_
 refine Sr<|Vm<|Vm<|Vx (v:=.bool (ceq g h)) (Run.ceq rfl rfl)<|Vx (v:=Ag [I 2,Cx (((0,0):Nat×Nat)),.bool (ceq g h),.slice none 0 0]) (Bp Cs GU rfl (.cons rfl rfl rfl (.cons rfl rfl rfl .nil)))<|Eu<|St DJ p rfl rfl rfl rfl fun c3 ca cb=>Va (I 0)<|AA<|AQ ?_
 obtain rfl:=AK a
 refine O2 B n rfl (.agg Bz rfl rfl (Bw ca)) (.tmp rfl)<|⟨o,[I 2,Cx (((0,0):Nat×Nat)),.bool (ceq g h),.slice none 0 0],rfl,Ho (Tn (Mo [20] q) cb) m,(Al (x:=(AG.mk 2 ((0,0):Nat×Nat) (ceq g h) [])) BJ)⟩
 refine WC.skip<|Sr<|Vm<|Vm<|Bi a fun l cc a=>Ca (Cg [Cx g,Cx h] rfl) (UI o r cc) ?_
 rintro _ c4 ⟨cd,rfl,a1⟩
 refine Vm<|Vr (.bool l.1)<|Vr (I l.2)<|Va (.bool l.1)<|Va (I l.2)<|AA<|Sr<|Vm<|Vx (v:=Ag [I 2,Cx (((0,0):Nat×Nat)),.bool l.1,.slice none 0 0]) (Bp Cs GU rfl (.cons rfl rfl rfl (.cons rfl rfl rfl .nil)))<|Vm<|have cf:=Bs p a1;Eu<|St DJ cf rfl rfl rfl rfl fun c5 cg ch=>Va (I l.2)<|AA<|AQ ?_
 obtain rfl:=AK a
 refine O2 B n rfl (.agg Bz rfl rfl (Bw cg)) (.tmp rfl)<|⟨cd,[I 2,Cx (((0,0):Nat×Nat)),.bool l.1,.slice none 0 0],rfl,Ho (T2 (Mo [20] q) a1 ch) m,(Al (x:=(AG.mk 2 ((0,0):Nat×Nat) l.1 [])) BJ)⟩
theorem WN(c:Nat):KG.Spec (KG c):=lk0 (VS c)
def EK.At(d:Col)(a:World)(f:Int→(List AG)→Option (AG×Int)):Prop:=
 ∀{e g h c},f e g=some c→Slc Ao d.F a h g→
  Calls PG 91 #[I e,h] a fun o l=>∃m n,o=.returned (.tuple #[Ag n,I c.2])∧AU [] d a m l∧Ao.rep m.F l n c.1
def EK.Spec(f:Int→(List AG)→Option (AG×Int)):Prop:=
 ∀a c,EK.At a c f
theorem TE(y:Nat)(ar:Col)(b4:World)(ae:∀b,ar b<10):EK.At ar b4 (EK y):=by
 intro c d ek al a au
 rw [EK] at a
 obtain ⟨ah,ai,rfl⟩:=AS au
 refine Ay Tryz.func91 rfl Tryz.ntmps91 rfl fun B af el=>Sr<|Ef<|AY ar 20 Cs rfl fun b5 b6 av ag z=>Va (I 0)<|AA<|Sr<|Vm<|Bi a fun e b7 a=>Ca (Cg [I c] rfl) (T9 b5 b6 b7) ?_
 rintro _ b8 ⟨aw,rfl,f⟩
 refine Vm<|Vr (I e.1)<|Vr (I e.2)<|Va (I e.1)<|Va (I e.2)<|AA<|AR<|Am (fun aj ax=>∃ac ak ay,aj=Env.puts ac [(0,I c),(1,Sl ah d ai),(4,Pt av 0),(7,I e.2),(23,.bool ay)]∧MI y c d e ay=some al∧AU [] aw b8 ak ax) ?_ ?_
 refine AL<|Vm<|Vr (.bool (e.1==0))<|Vm<|Bo a (fun r a=>?_) fun r a=>?_
 refine Pg r<|Pg r<|Pg r<|Pg r<|Vp r<|AA<|⟨_,aw,true,Pu,a,Rf⟩
 refine Gm r<|have b9:=K2 Ao au z f; ?_
 obtain ⟨em,en,ca⟩:=AS b9
 refine Gx r (v:=I (d.length:Int)) (Ll Iy ca)<|Gm r<|Gr r (.bool ((d.length:Int) != e.1))<|Vp r<|AA<|⟨_,aw,((d.length:Int) != e.1),Pu,a,Rf⟩
 rintro _ ax ⟨ac,ak,ay,rfl,a,g⟩
 rw [MI] at a
 refine Cn a (fun cb a=>?_) fun cb a=>?_
 refine Sr<|Vx (v:=Ag [I 0,Cx (((0,0):Nat×Nat)),.bool false,.slice none 0 0]) (Bp Cs GU rfl .nil)<|have cc:=Y2 ag f g;Eu<|St DJ cc rfl rfl rfl rfl fun eo cd cf=>Va (I 3)<|AA<|AQ ?_
 obtain rfl:=AK a
 refine O2 B af rfl (.agg Bz rfl rfl (Bw cd)) (.tmp rfl)<|⟨ak,[I 0,Cx (((0,0):Nat×Nat)),.bool false,.slice none 0 0],rfl,Ho (T3 (Mo [20] z) f g cf) ae,(Al (x:=(AG.mk 0 ((0,0):Nat×Nat) false [])) BJ)⟩
 refine WC.skip<|AR<|Sr<|Vm<|have az:=K3 Ao au z f g; ?_
 obtain ⟨ep,eq,cg⟩:=AS az
 refine Vx (v:=I (d.length:Int)) (Ll Iy cg)<|Vm<|AA<|Ah<|Bj (fun ad aj aa=>∃ac u w,aj=Env.puts ac [(0,I c),(1,Sl ah d ai),(4,Pt av 0),(7,I e.2),(25,Sl ah d ai),(26,I (d.length:Int)),(27,I w)]∧Dh y c d e ad w=some al∧AU [21] ak ax u aa) y ?_ ?_
 exact ⟨_,ak,0,Pu,a,(AU.refl [21] _ _)⟩
 rintro ad _ aa ⟨ac,u,w,rfl,a,h⟩
 rcases ad with _|ad
 exact A7 a
 refine have a:Cp y c d e (Dh y c d e ad) w=some al:=a; ?_
 obtain ⟨ch,bf⟩:∃s,s=Dh y c d e ad:=⟨_,rfl⟩
 rw [←bf,Cp] at a
 refine Sr<|Vr (.bool (decide (w< (d.length:Int))))<|AA<|AR<|Cn a (fun ci a=>?_) fun ci a=>?_
 refine WC.skip<|AR<|Ah<|Sr<|Bi a fun p cj a=>have ck:=Ss Ao az h; ?_
 obtain ⟨cl,cm,er,cn,co,cq,cr,ct,a0⟩:=A9 (κ:=Ao) ck cj
 replace a0:Ax u aa cl (cm+w.toNat*4) cn:=a0
 obtain ⟨a1,a2,rfl,bg⟩:=E1 (Az ct)
 refine Vx (Ix Iy co rfl cq cr)<|Vx (Lx Bz rfl rfl (Ax.part0 a0 [I p.type_,Cx p.num,.bool p.bool,Sl a1 p.list a2] rfl))<|Ef<|AY u 21 Cs rfl fun a3 et eu cu am=>have cv:=Ss Kd.cpx bg am;Eu<|St DJ cu rfl rfl rfl rfl fun bh bi an=>AA<|Am (fun aj bj=>∃ac ao a4,aj=Env.puts ac [(0,I c),(1,Sl ah d ai),(4,Pt av 0),(7,I e.2),(25,Sl ah d ai),(26,I (d.length:Int)),(27,I w),(39,.bool a4)]∧IU w ch a4=some al∧AU [] a3 bh ao bj) ?_ ?_
 refine AL<|Vx (Fz JN rfl)<|Vx (Ld EZ rfl (Bc bi rfl))<|Vm<|Vr (.bool (p.type_ != e.2))<|Vm<|Bo a (fun ab a=>?_) fun ab a=>?_
 refine Pg ab<|Pg ab<|Pg ab<|Vp ab<|AA<|⟨_,a3,true,Pu,a,Rf⟩
 refine Gx ab (Lx Bz rfl rfl (Bw bi))<|have cw:=Ss Kd.cpx cv an;Bi a fun bk cx a=>CP (.guard (t:=false) (b:=false) rfl rfl rfl rfl (Cb ab)) rfl rfl (Cg [Ag [I p.type_,Cx p.num,.bool p.bool,Sl a1 p.list a2]] rfl)<|Calls.mono (O4 y a3 bh cx (Al (x:=p) cw)) ?_
 rintro _ ew ⟨cy,rfl,cz⟩
 refine ⟨_,rfl,?_⟩
 refine Gr ab (.bool (bk != 0))<|Vp ab<|AA<|⟨_,cy,(bk != 0),Pu,a,(Mo [] cz)⟩
 rintro _ bj ⟨ac,ao,a4,rfl,a,a5⟩
 rw [IU] at a
 refine Cn a (fun c0 a=>?_) fun c0 a=>?_
 refine Sr<|Vx (v:=Ag [I 0,Cx (((0,0):Nat×Nat)),.bool false,.slice none 0 0]) (Bp Cs GU rfl .nil)<|have c1:=Y2 (Y4 ag f g h am) an a5;Eu<|St DJ c1 rfl rfl rfl rfl fun ex c2 c3=>Va (I 3)<|AA<|AQ ?_
 obtain rfl:=AK a
 refine O2 B af rfl (.agg Bz rfl rfl (Bw c2)) (.tmp rfl)<|⟨ao,[I 0,Cx (((0,0):Nat×Nat)),.bool false,.slice none 0 0],rfl,Ho (T3 (T4 (Mo [20,21] z) f g h am) an a5 c3) ae,(Al (x:=(AG.mk 0 ((0,0):Nat×Nat) false [])) BJ)⟩
 refine WC.skip<|AL<|Vr (I (Wr (w+1)))<|Vm<|AA<|⟨ad,Nat.lt_succ_self ad,_,ao,(Wr (w+1)),Pu,(bf▸a),(T3 (Mo [21] h) am an a5)⟩
 refine Bd<|Sr<|Vm<|Bi a fun q c4 a=>have bl:=Ss Ao az h; ?_
 obtain ⟨c5,c6,ey,c7,bm,bn,bo,c8,ap⟩:=A9 (κ:=Ao) bl c4
 replace ap:Ax u aa c5 (c6+(0:Int).toNat*4) c7:=ap
 obtain ⟨e0,e1,rfl,c9⟩:=E1 (Az c8)
 refine Vx (Ix Iy bm rfl bn bo)<|Vx (Fd HJ rfl)<|Vx (Ld HB rfl (Ax.cell (k:=1) ap rfl))<|Va (Cx q.num)<|AA<|AR<|Sr<|Vm<|AA<|Ah<|Sr<|Vr (.bool (c==14))<|Va (.bool (c==14))<|AA<|Cn a (fun da a=>?_) fun da a=>?_
 refine Sr<|Vm<|Vx (Ix Iy bm rfl bn bo)<|Vx (Fd KM rfl)<|Vx (Ld MR rfl (Ax.cell (k:=2) ap rfl))<|Vr (.bool (!q.bool))<|Vx (v:=Ag [I 2,Cx (((0,0):Nat×Nat)),.bool (!q.bool),.slice none 0 0]) (Bp Cs GU rfl (.cons rfl rfl rfl (.cons rfl rfl rfl .nil)))<|have db:=Y3 ag f g h;Eu<|St DJ db rfl rfl rfl rfl fun e2 dc de=>Va (I 0)<|AA<|AQ ?_
 obtain rfl:=AK a
 refine O2 B af rfl (.agg Bz rfl rfl (Bw dc)) (.tmp rfl)<|⟨u,[I 2,Cx (((0,0):Nat×Nat)),.bool (!q.bool),.slice none 0 0],rfl,Ho (T4 (Mo [20,21] z) f g h de) ae,(Al (x:=(AG.mk 2 ((0,0):Nat×Nat) (!q.bool) [])) BJ)⟩
 refine Sr<|Vr (.bool (c==15))<|Va (.bool (c==15))<|AA<|Cn a (fun df a=>?_) fun df a=>?_
 refine Sr<|Vm<|Vx (v:=Fl q.num.1) (Run.real rfl)<|Vx (v:=Cx ((q.num.1,(0:Nat)))) (Run.complex rfl rfl)<|Bi a fun l dg a=>Ca (Cg [Cx ((q.num.1,(0:Nat))),I 0] rfl) (Iz u aa dg) ?_
 rintro _ e3 ⟨dh,e4,rfl,bp,di⟩
 obtain ⟨a6,a7,rfl,bq⟩:=E1 (Az di)
 refine Vr (Ag [I l.1.type_,Cx l.1.num,.bool l.1.bool,Sl a6 l.1.list a7])<|Vr (I l.2)<|have dj:=Y4 ag f g h bp;Eu<|St DJ dj rfl rfl rfl rfl fun e6 dk br=>Va (I l.2)<|AA<|AQ ?_
 obtain rfl:=AK a
 refine O2 B af rfl (.agg Bz rfl rfl (Bw dk)) (.tmp rfl)<|have dl:=Ss Kd.cpx bq br;⟨dh,[I l.1.type_,Cx l.1.num,.bool l.1.bool,Sl a6 l.1.list a7],rfl,Ho (Tn (T4 (Mo [20,21] z) f g h bp) br) ae,(Al (x:=l.1) dl)⟩
 refine Sr<|Vr (.bool (c==16))<|Va (.bool (c==16))<|AA<|Cn a (fun dm a=>?_) fun dm a=>?_
 refine Sr<|Vm<|Vx (v:=Fl q.num.2) (Run.imag rfl)<|Vx (v:=Cx ((q.num.2,(0:Nat)))) (Run.complex rfl rfl)<|Bi a fun m dn a=>Ca (Cg [Cx ((q.num.2,(0:Nat))),I 0] rfl) (Iz u aa dn) ?_
 rintro _ e7 ⟨dp,e8,rfl,bt,dq⟩
 obtain ⟨a8,a9,rfl,bu⟩:=E1 (Az dq)
 refine Vr (Ag [I m.1.type_,Cx m.1.num,.bool m.1.bool,Sl a8 m.1.list a9])<|Vr (I m.2)<|have dr:=Y4 ag f g h bt;Eu<|St DJ dr rfl rfl rfl rfl fun fa ds bv=>Va (I m.2)<|AA<|AQ ?_
 obtain rfl:=AK a
 refine O2 B af rfl (.agg Bz rfl rfl (Bw ds)) (.tmp rfl)<|have dt:=Ss Kd.cpx bu bv;⟨dp,[I m.1.type_,Cx m.1.num,.bool m.1.bool,Sl a8 m.1.list a9],rfl,Ho (Tn (T4 (Mo [20,21] z) f g h bt) bv) ae,(Al (x:=m.1) dt)⟩
 refine Sr<|Vr (.bool (c==17))<|Va (.bool (c==17))<|AA<|Cn a (fun du a=>?_) fun du a=>?_
 refine Sr<|Vm<|Bi a fun aq dv a=>Ca (Cg [Cx q.num] rfl) (UA u aa dv) ?_
 rintro _ dw ⟨dx,rfl,bw⟩
 refine Vr (Cx aq.1)<|Vr (I aq.2)<|Bi a fun n dy a=>Ca (Cg [Cx aq.1,I aq.2] rfl) (Iz dx dw dy) ?_
 rintro _ fb ⟨dz,fc,rfl,bx,d0⟩
 obtain ⟨ba,bb,rfl,bz⟩:=E1 (Az d0)
 refine Vr (Ag [I n.1.type_,Cx n.1.num,.bool n.1.bool,Sl ba n.1.list bb])<|Vr (I n.2)<|have d1:=Bs (Y4 ag f g h bw) bx;Eu<|St DJ d1 rfl rfl rfl rfl fun fe d2 b0=>Va (I n.2)<|AA<|AQ ?_
 obtain rfl:=AK a
 refine O2 B af rfl (.agg Bz rfl rfl (Bw d2)) (.tmp rfl)<|have d3:=Ss Kd.cpx bz b0;⟨dz,[I n.1.type_,Cx n.1.num,.bool n.1.bool,Sl ba n.1.list bb],rfl,Ho (T2 (T4 (Mo [20,21] z) f g h bw) bx b0) ae,(Al (x:=n.1) d3)⟩
 refine WC.skip<|Sr<|Vm<|Vm<|Vm<|Bi a fun d4 d5 a=>?_
 obtain ⟨d6,d7,ff,d8,d9,ea,eb,ec,bc⟩:=A9 (κ:=Ao) bl d5
 replace bc:Ax u aa d6 (d7+(1:Int).toNat*4) d8:=bc
 obtain ⟨fh,fi,rfl,ed⟩:=E1 (Az ec)
 refine Vx (Ix Iy d9 rfl ea eb)<|Vx (Fd HJ rfl)<|Vx (Ld HB rfl (Ax.cell (k:=1) bc rfl))<|Bi a fun o ee a=>Ca (Cg [I c,Cx q.num,Cx d4.num] rfl) (WN y u aa ee) ?_
 rintro _ fj ⟨ef,fk,rfl,b1,eg⟩
 obtain ⟨bd,be,rfl,b2⟩:=E1 (Az eg)
 refine Vr (Ag [I o.1.type_,Cx o.1.num,.bool o.1.bool,Sl bd o.1.list be])<|Vr (I o.2)<|have eh:=Y4 ag f g h b1;Eu<|St DJ eh rfl rfl rfl rfl fun fm ei b3=>Va (I o.2)<|AA<|AQ ?_
 obtain rfl:=AK a
 refine O2 B af rfl (.agg Bz rfl rfl (Bw ei)) (.tmp rfl)<|have ej:=Ss Kd.cpx b2 b3;⟨ef,[I o.1.type_,Cx o.1.num,.bool o.1.bool,Sl bd o.1.list be],rfl,Ho (Tn (T4 (Mo [20,21] z) f g h b1) b3) ae,(Al (x:=o.1) ej)⟩
theorem UJ(c:Nat):EK.Spec (EK c):=lk0 (TE c)
def mean_run_look.At(G1 G2:Prop)(c:Col)(a:World)(f:(List AO)→Int→Int→Aq→AE→Nm→Option ((Except Int Aw)×(List AO)×Int×Int))(h ac:Nat):Prop:=
 ∀{l n o p q m s w y z aa d},f n p q s w z=some d→G1→G2→Bk c a h l [.map (some m),o,I p,I q] 83→Slc AI c.F a o n→Mp c a ac m s→AH.rep c.F a y w→GW 89 90 c.F a aa z→
  Calls PG 33 #[Pt l 0,Ag y,aa] a fun ad e=>∃g ab,AU [h] c a g e∧Bk g e h l [.map (some m),ab,I d.2.2.1,I d.2.2.2] 83∧Slc AI g.F e ab d.2.1∧Ew 33 d.1 ad (fun r v=>∃u:List Value,v=Ag u∧HI.rep g.F e u r)
def mean_run_look.Spec(f:(List AO)→Int→Int→Aq→AE→Nm→Option ((Except Int Aw)×(List AO)×Int×Int)):Prop:=
 ∀d e {a c},mean_run_look.At ([a,c].Nodup) (0∉[a,c]) d e f a c
def mean_later_1.At(G1 G2:Prop)(c:Col)(a:World)(f:(List AO)→Int→Int→Aq→AE→Nm→Option ((Except Int Aw)×(List AO)×Int×Int))(h ae:Nat):Prop:=
 ∀{l n o p q m s w y z aa ab ac d},f n p q s w aa=some d→G1→G2→Bk c a h l [.map (some m),o,I p,I q] 83→Slc AI c.F a o n→Mp c a ae m s→Ax c a y 0 z→AH.rep c.F a z w→Ax c a ab 0 [ac]→GW 89 90 c.F a ac aa→
  Calls PG 90 #[Pt l 0,Pt y 0,Pt ab 0] a fun af e=>∃g ad,AU [h] c a g e∧Bk g e h l [.map (some m),ad,I d.2.2.1,I d.2.2.2] 83∧Slc AI g.F e ad d.2.1∧Ew 33 d.1 af (fun r v=>∃u:List Value,v=Ag u∧HI.rep g.F e u r)
def mean_later_1.Spec(f:(List AO)→Int→Int→Aq→AE→Nm→Option ((Except Int Aw)×(List AO)×Int×Int)):Prop:=
 ∀d e {a c},mean_later_1.At ([a,c].Nodup) (0∉[a,c]) d e f a c
def mean_callth.Spec(f:(List AO)→Int→Int→Aq→Th→Option ((Except Int Aw)×(List AO)×Int×Int)):Prop:=
 ∀c a {m d p q s w n o y z aa e},f p s w y z=some e→[d,o].Nodup→0∉[d,o]→Bk c a d m [.map (some n),q,I s,I w] 83→Slc AI c.F a q p→Mp c a o n y→MTh 89 90 c.F a aa z→
  ∃g caps,ABp PG aa g caps∧Calls PG g ([Pt m 0]++caps:List Value).toArray a fun ac h=>∃(l:Col) (ab:Value),AU [d] c a l h∧Bk l h d m [.map (some n),ab,I e.2.2.1,I e.2.2.2] 83∧Slc AI l.F h ab e.2.1∧Ew 33 e.1 ac (fun r v=>∃u:List Value,v=Ag u∧HI.rep l.F h u r)
def mean_run_parts.At(G1 G2:Prop)(c:Col)(a:World)(f:(List AO)→Int→Int→Aq→AE→Nm→Option ((Except Int Aw)×(List AO)×Int×Int))(h ac:Nat):Prop:=
 ∀{l n o p q m s w y z aa d},f n p q s w z=some d→G1→G2→Bk c a h l [.map (some m),o,I p,I q] 83→Slc AI c.F a o n→Mp c a ac m s→AH.rep c.F a y w→GW 89 90 c.F a aa z→
  Calls PG 58 #[Pt l 0,Ag y,aa] a fun ad e=>∃g ab,AU [h] c a g e∧Bk g e h l [.map (some m),ab,I d.2.2.1,I d.2.2.2] 83∧Slc AI g.F e ab d.2.1∧Ew 33 d.1 ad (fun r v=>∃u:List Value,v=Ag u∧HI.rep g.F e u r)
def mean_run_parts.Spec(f:(List AO)→Int→Int→Aq→AE→Nm→Option ((Except Int Aw)×(List AO)×Int×Int)):Prop:=
 ∀d e {a c},mean_run_parts.At ([a,c].Nodup) (0∉[a,c]) d e f a c
structure Ac.Good(a:Ac):Prop where
 mean_run_look:mean_run_look.Spec a.mean_run_look
 mean_later_1:mean_later_1.Spec a.mean_later_1
 mean_callth:mean_callth.Spec a.mean_callth
 mean_run_parts:mean_run_parts.Spec a.mean_run_parts
theorem QI(ar:Ac)(bn:Nat)(ca:Ac.Good ar)(cb:Col)(ez:World)(y:∀b,cb b<10):mean_run_look.At True True cb ez (BH ar bn) 1 2:=by
 intro ah z ke au a1 kf av d kg aj ad bo a _ _ da ae cc e0 a2
 rw [BH] at a
 obtain ⟨a3,a4,rfl⟩:=AS ae
 obtain ⟨db,dc,rfl,bp⟩:=E1 (Ae e0)
 refine Ay Tryz.func33 rfl Tryz.ntmps33 rfl fun B aa e=>Sr<|Ef<|A0 cb 20 rfl rfl fun e1 ki cd de m=>Ef<|AY e1 21 Kw rfl fun bq e2 cf aw l=>AA<|Am (fun bf df=>∃ax n,bf=Env.puts ax [(0,Pt ah 0),(2,ad),(4,Pt cd 0),(6,Pt cf 0)]∧Cd ar bn z au a1 av d aj=some bo∧AU [] bq e2 n df) ?_ ?_
 refine AR<|BY DF (qs 0 9 .nil) [] [] bq (by kernel_rfl) fun kj br=>Qx e rfl (v:=Pt ah 0) (fun _ _=>Mv rfl)<|Qx e rfl (fun _ _=>Nc rfl)<|Qx e rfl (fun _ _=>Fd Oi rfl)<|have cg:=Y3 da m l br;Qx e rfl (fun _ ⟨_,c⟩=>Ld BG rfl (Bc (Bs cg c) rfl))<|Qx e rfl (v:=Pt ah 0) (fun _ _=>Mv rfl)<|Qx e rfl (fun _ _=>Nc rfl)<|Qx e rfl (fun _ _=>Fd Yc rfl)<|Qx e rfl (fun _ ⟨_,c⟩=>Ld BG rfl (Bc (Bs cg c) rfl))<|Qx e rfl (v:=.bool (decide (au≥a1))) (fun _ _=>rfl)<|B7<|Cn a (fun e3 a=>?_) fun e3 a=>?_
 refine AL<|Vr (.iface 33 (I 60))<|SR (.none rfl) (QX rfl)<|have e4:=K3 AI ae m l br; ?_
 obtain rfl:=AK a
 refine No (B:=B) aa<|⟨bq,Sl a3 z a4,Ho (T2 (Mo [] m) l br) y,cg,e4,Ga⟩
 refine WC.skip<|⟨_,bq,Pu,a,(Mo [] br)⟩
 rintro _ df ⟨ax,n,rfl,a,f⟩
 rw [Cd] at a
 refine Sr<|Vm<|Vx (Nc rfl)<|Vx (Fd Oi rfl)<|have dg:=Y3 da m l f;Vx (Ld BG rfl (Bc dg rfl))<|Vr (I (Wr (au+1)))<|Vx (Nc rfl)<|Vx (Fd Oi rfl)<|Eu<|St MQ dg rfl rfl rfl rfl fun dh ak g=>AA<|Am (fun bf ch=>∃ax ci,bf=Env.puts ax [(0,Pt ah 0),(2,ad),(4,Pt cd 0),(6,Pt cf 0)]∧K6 ar z au a1 av d aj=some bo∧AU [] n dh ci ch) ?_ ?_
 refine Sr<|Vx (Fz Cy rfl)<|have bg:=Y3 de l f g;Vx (Ld GT rfl (Bc bg rfl))<|AA<|Ah<|Sr<|Vr (.bool (d.op==1))<|Va (.bool (d.op==1))<|AA<|Cn a (fun e5 a=>?_) fun e5 a=>?_
 refine Sr<|Vx (Fd WD rfl)<|Vx (Ld HB rfl (Bc bg rfl))<|Vx (v:=Ag [I 1,Cx d.num,.bool false,.slice none 0 0]) (Bp Cs GU rfl (.cons rfl rfl rfl (.cons rfl rfl rfl .nil)))<|Vx (v:=Ag [I 1,Cx d.num,.bool false,.slice none 0 0,.nilFunc,.nilFunc]) (Bp Kw NL rfl (.cons rfl rfl rfl .nil))<|have e6:=Y2 aw f g;Eu<|St Jc e6 rfl rfl rfl rfl fun kk e7 cj=>AA<|AQ ?_
 obtain rfl:=AK a
 refine O1 B aa rfl (.agg Jz rfl rfl (Bw e7))<|have e8:=Bs ak cj;have e9:=Ss AI (K4 AI ae m l f g) cj;⟨n,Sl a3 z a4,Ho (T4 (Mo [1,21] m) l f g cj) y,e8,e9,FY ⟨[I 1,Cx d.num,.bool false,.slice none 0 0,.nilFunc,.nilFunc],rfl,(Cq (x:=(Aw.mk (AG.mk 1 d.num false []) Th.nil Th.nil)) BJ MTh.nil MTh.nil)⟩⟩
 refine Sr<|Vr (.bool (d.op==2))<|Va (.bool (d.op==2))<|AA<|Cn a (fun fa a=>?_) fun fa a=>?_
 refine Sr<|Vx (v:=Ag [I 2,Cx (((0,0):Nat×Nat)),.bool true,.slice none 0 0]) (Bp Cs GU rfl (.cons rfl rfl rfl (.cons rfl rfl rfl .nil)))<|Vx (v:=Ag [I 2,Cx (((0,0):Nat×Nat)),.bool true,.slice none 0 0,.nilFunc,.nilFunc]) (Bp Kw NL rfl (.cons rfl rfl rfl .nil))<|have fb:=Y2 aw f g;Eu<|St Jc fb rfl rfl rfl rfl fun kl fc ck=>AA<|AQ ?_
 obtain rfl:=AK a
 refine O1 B aa rfl (.agg Jz rfl rfl (Bw fc))<|have fd:=Bs ak ck;have fe:=Ss AI (K4 AI ae m l f g) ck;⟨n,Sl a3 z a4,Ho (T4 (Mo [1,21] m) l f g ck) y,fd,fe,FY ⟨[I 2,Cx (((0,0):Nat×Nat)),.bool true,.slice none 0 0,.nilFunc,.nilFunc],rfl,(Cq (x:=(Aw.mk (AG.mk 2 ((0,0):Nat×Nat) true []) Th.nil Th.nil)) BJ MTh.nil MTh.nil)⟩⟩
 refine Sr<|Vr (.bool (d.op==3))<|Va (.bool (d.op==3))<|AA<|Cn a (fun ff a=>?_) fun ff a=>?_
 refine Sr<|Vx (v:=Ag [I 2,Cx (((0,0):Nat×Nat)),.bool false,.slice none 0 0]) (Bp Cs GU rfl (.cons rfl rfl rfl .nil))<|Vx (v:=Ag [I 2,Cx (((0,0):Nat×Nat)),.bool false,.slice none 0 0,.nilFunc,.nilFunc]) (Bp Kw NL rfl (.cons rfl rfl rfl .nil))<|have fg:=Y2 aw f g;Eu<|St Jc fg rfl rfl rfl rfl fun km fh cl=>AA<|AQ ?_
 obtain rfl:=AK a
 refine O1 B aa rfl (.agg Jz rfl rfl (Bw fh))<|have fi:=Bs ak cl;have fj:=Ss AI (K4 AI ae m l f g) cl;⟨n,Sl a3 z a4,Ho (T4 (Mo [1,21] m) l f g cl) y,fi,fj,FY ⟨[I 2,Cx (((0,0):Nat×Nat)),.bool false,.slice none 0 0,.nilFunc,.nilFunc],rfl,(Cq (x:=(Aw.mk (AG.mk 2 ((0,0):Nat×Nat) false []) Th.nil Th.nil)) BJ MTh.nil MTh.nil)⟩⟩
 refine Sr<|Vr (.bool (d.op==4))<|Va (.bool (d.op==4))<|AA<|Cn a (fun fk a=>?_) fun fk a=>?_
 refine Sr<|Vx (v:=Ag [I 3,Cx (((0,0):Nat×Nat)),.bool false,.slice none 0 0]) (Bp Cs GU rfl (.cons rfl rfl rfl .nil))<|Vx (v:=Ag [I 3,Cx (((0,0):Nat×Nat)),.bool false,.slice none 0 0,.nilFunc,.nilFunc]) (Bp Kw NL rfl (.cons rfl rfl rfl .nil))<|have fl:=Y2 aw f g;Eu<|St Jc fl rfl rfl rfl rfl fun kn fm cm=>AA<|AQ ?_
 obtain rfl:=AK a
 refine O1 B aa rfl (.agg Jz rfl rfl (Bw fm))<|have fn:=Bs ak cm;have fo:=Ss AI (K4 AI ae m l f g) cm;⟨n,Sl a3 z a4,Ho (T4 (Mo [1,21] m) l f g cm) y,fn,fo,FY ⟨[I 3,Cx (((0,0):Nat×Nat)),.bool false,.slice none 0 0,.nilFunc,.nilFunc],rfl,(Cq (x:=(Aw.mk (AG.mk 3 ((0,0):Nat×Nat) false []) Th.nil Th.nil)) BJ MTh.nil MTh.nil)⟩⟩
 refine Sr<|Vr (.bool (d.op==5))<|Va (.bool (d.op==5))<|AA<|Cn a (fun fp a=>?_) fun fp a=>?_
 refine AL<|Vr (.iface 33 (I 52))<|SR (.none rfl) (QX rfl)<|have fq:=K4 AI ae m l f g; ?_
 obtain rfl:=AK a
 refine No (B:=B) aa<|⟨n,Sl a3 z a4,Ho (T3 (Mo [1] m) l f g) y,ak,fq,Ga⟩
 refine Sr<|Vr (.bool (d.op==6))<|Va (.bool (d.op==6))<|AA<|Cn a (fun fr a=>?_) fun fr a=>?_
 refine Sr<|Vm<|Vx (Fd Di rfl)<|Vx (Ld CF rfl (Bc bg rfl))<|have fs:=Me (Me (Me (Me a2 m) l) f) g;Bi a fun ko ft a=>Ca (Cg [ad,Sb d.name] rfl) (Pq bn n dh ft fs) ?_
 rintro _ fu ⟨fv,kp,rfl,a8,fw⟩
 refine Vm<|have fx:=Bs ak a8;have fy:=Ss AI (K4 AI ae m l f g) a8;have fz:=Ms (Ms (Ms (Ms (Ms cc m) l) f) g) a8;Bi a fun di f0 a=>?_
 obtain ⟨kq,kr,f1,f2⟩:=ca.mean_callth fv fu f0 dcd dcd fx fy fz fw
 refine Ib (.none rfl) rfl rfl (f1 (vs:=[Pt ah 0]) rfl rfl)<|Calls.mono f2 ?_
 rintro _ ks ⟨dj,kt,cn,dk,co,f3⟩
 obtain ⟨dl,dm,rfl⟩:=AS co
 obtain ⟨ku,f4,rfl⟩| ⟨o,f5,kv,rfl,kw,rfl,f6⟩:=Ew.split f3
 refine have a:=D7 a f4; .inl ⟨_,rfl,?_⟩
 obtain rfl:=AK a
 refine No (B:=B) aa<|⟨dj,Sl dl di.2.1 dm,Ho (Tn (T4 (Mo [1] m) l f g a8) cn) y,dk,co,Ga⟩
 refine have a:=HG a f5; ?_
 obtain ⟨kx,bt,bu,rfl,cq,dn,dp⟩:=Dd f6
 obtain ⟨bv,bw,rfl⟩:=AS cq
 refine .inr ⟨_,rfl,?_⟩
 refine have f7:=Y4 aw f g a8 cn;Eu<|Bx (vs:=[I o.plain.type_,Cx o.plain.num,.bool o.plain.bool,Sl bv o.plain.list bw,bt,bu]) (cs':=[I o.plain.type_,Cx o.plain.num,.bool o.plain.bool,Sl bv o.plain.list bw,bt,bu]) Jc rfl rfl rfl rfl (AZ rfl (AZ rfl (AZ rfl (AZ (FW cq) (AZ (MTh.one dn) (AZ (MTh.one dp) CR)))))) f7 dcd rfl rfl fun ky f8 a9=>AA<|AQ ?_
 obtain rfl:=AK a
 refine O1 B aa rfl (.agg Jz rfl rfl (Bw f8))<|have f9:=Ss Kd.cpx cq a9;have ga:=Mt dn a9;have gb:=Mt dp a9;have gc:=Bs dk a9;have gd:=Ss AI co a9;⟨dj,Sl dl di.2.1 dm,Ho (T2 (T4 (Mo [1,21] m) l f g a8) cn a9) y,gc,gd,FY ⟨[I o.plain.type_,Cx o.plain.num,.bool o.plain.bool,Sl bv o.plain.list bw,bt,bu],rfl,(Cq (x:=o) f9 ga gb)⟩⟩
 refine Sr<|Vr (.bool (d.op==7))<|Va (.bool (d.op==7))<|AA<|Cn a (fun ge a=>?_) fun ge a=>?_
 refine AR<|BY DF (qs 0 13 (.one 13 (.one 14 .nil))) [14] [] n (by kernel_rfl) fun gf al=>Qx e rfl (v:=Pt ah 0) (fun _ _=>Mv rfl)<|Qx e rfl (fun _ _=>Nc rfl)<|Qx e rfl (fun _ _=>Fd Yb rfl)<|have cr:=Bs ak al;Qx e rfl (fun _ ⟨_,c⟩=>Ld Gv rfl (Bc (Bs cr c) rfl))<|Qx e rfl (v:=Pt ah 0) (fun _ _=>Mv rfl)<|Qx e rfl (fun _ _=>Nc rfl)<|Qx e rfl (fun _ _=>Fz SU rfl)<|Qx e rfl (fun _ ⟨_,c⟩=>Ld Ol rfl (Bc (Bs cr c) rfl))<|Qx e rfl (fun _ _=>Fd Di rfl)<|have dq:=Bs bg al;Qx e rfl (fun _ ⟨_,c⟩=>Ld CF rfl (Bc (Bs dq c) rfl))<|have dr:=Ms (Ms (Ms (Ms (Ms cc m) l) f) g) al;Qx e rfl (v:=I (Cr av d.name)) (fun _ ⟨_,c⟩=>J6 LD rfl rfl (Ms dr c))<|Bi a fun h gg a=>have ds:=Ss AI (K4 AI ae m l f g) al; ?_
 obtain ⟨gh,gi,kz,gj,gk,gl,gm,gn,ct⟩:=A9 (κ:=AI) ds gg
 replace ct:Ax n gf gh (gi+((Cr av d.name)).toNat*11) gj:=ct
 obtain ⟨k0,k1,rfl,dt,du⟩:=Ck gn
 obtain ⟨dv,dw,rfl⟩:=AS dt
 obtain ⟨cu,cv,rfl⟩:=AS du
 refine Qx e rfl (fun _ _=>Ix F8 gk rfl gl gm)<|Qx e rfl (fun _ ⟨_,c⟩=>Lx L1 rfl rfl (Ax.part0 (Es ct c) [Sb h.name,Sl dv h.params dw,I h.type_,I h.body.op,Sb h.body.name,Sb h.body.tail,I h.body.type_,Cx h.body.num,Sl cu h.body.args cv,I h.body.at_,I h.at_] rfl))<|A2 rfl<|Bf rfl (.none rfl) rfl rfl<|AY n 22 KD rfl fun dx k2 go gp ac=>⟨⟨_,(Mo [] ac)⟩,?_⟩
 refine Er dcd<|WY.one<|have gq:=Ss Ab dt ac;have gr:=Ss AH du ac;BN rfl (.none rfl) rfl<|St Kv gp rfl rfl rfl rfl fun gs dy af=>WY.nil<|Sr<|Va (.pointer none)<|AA<|AR<|Sr<|Vx (Fd EU rfl)<|Vx (Ld Ep rfl (Bc dy rfl))<|have dz:=Ss Ab gq af; ?_
 obtain ⟨k3,k4,gt⟩:=AS dz
 refine Vx (v:=I (h.params.length:Int)) (Ll D6 gt)<|Vm<|AA<|Ah<|Bj (fun ay bf bh=>∃ax ba bi a5 ag,bf=Env.puts ax [(0,Pt ah 0),(2,ad),(4,Pt cd 0),(6,Pt cf 0),(7,Pt go 0),(8,a5),(75,Sl dv h.params dw),(76,I (h.params.length:Int)),(77,I ag)]∧GL ar z au a1 av d aj h ay bi ag=some bo∧AU [23,24,25,26] dx gs ba bh∧GW 89 90 ba.F bh a5 bi) bn ?_ ?_
 exact ⟨_,dx,Nm.nil,.pointer none,0,Pu,a,(AU.refl [23,24,25,26] _ _),GW.nil⟩
 rintro ay _ bh ⟨ax,ba,bi,a5,ag,rfl,a,ab,cw⟩
 rcases ay with _|ay
 exact A7 a
 refine have a:JL ar z au a1 av d aj h (GL ar z au a1 av d aj h ay) bi ag=some bo:=a; ?_
 obtain ⟨k5,d0⟩:∃s,s=GL ar z au a1 av d aj h ay:=⟨_,rfl⟩
 rw [←d0,JL] at a
 refine Sr<|Vr (.bool (decide (ag< (h.params.length:Int))))<|AA<|AR<|Cn a (fun gu a=>?_) fun gu a=>?_
 refine WC.skip<|AR<|Ah<|Sr<|Vm<|Bi a fun bb gv a=>have gw:=Ss Ab dz ab; ?_
 obtain ⟨gx,gy,k6,gz,g0,g1,g2,g3,cx⟩:=A9 (κ:=Ab) gw gv
 replace cx:Ax ba bh gx (gy+ag.toNat*3) gz:=cx
 obtain rfl:=Et g3
 refine Vx (Ix D6 g0 rfl g1 g2)<|Vx (Lx W2 rfl rfl (Ax.part0 cx [Sb bb.name,I bb.type_,I bb.at_] rfl))<|Ef<|AY ba 23 L3 rfl fun cy k7 k8 g4 bj=>Va (I ag)<|Eu<|St W8 g4 rfl rfl rfl rfl fun k9 g5 bk=>AA<|BY DF (qs 0 8 (.q 9 (.one 8 (.q 10 (.one 11 (.q 12 .nil)))))) [] [24,25] cy (by kernel_rfl) fun d1 bc=>Qx e rfl (fun _ _=>Fz LQ rfl)<|have g6:=Bs g5 bc;Qx e rfl (fun _ ⟨_,c⟩=>Ld CF rfl (Bc (Bs g6 c) rfl))<|Qx e rfl (fun _ _=>Fd BS rfl)<|have g7:=Y2 (Y4 dq ac af ab bj) bk bc;Qx e rfl (fun _ ⟨_,c⟩=>Ld Cf rfl (Bc (Bs g7 c) rfl))<|Qx e rfl (v:=I ag) (fun _ _=>Mv rfl)<|Bi a fun r g8 a=>have g9:=K3 AH (K4 AH (K4 AH bp m l f g) al ac af ab) bj bk bc; ?_
 obtain ⟨ha,hb,la,hc,hd,he,hf,hg,cz⟩:=A9 (κ:=AH) g9 g8
 replace cz:Ax cy d1 ha (hb+ag.toNat*7) hc:=cz
 obtain ⟨d3,d4,rfl,d2⟩:=E1 (Ae hg)
 refine Qx e rfl (fun _ _=>Ix CG hd rfl he hf)<|Qx e rfl (fun _ ⟨_,c⟩=>Lx A8 rfl rfl (Ax.part0 (Es cz c) [I r.op,Sb r.name,Sb r.tail,I r.type_,Cx r.num,Sl d3 r.args d4,I r.at_] rfl))<|Qx e rfl (v:=ad) (fun _ _=>Mv rfl)<|Qx e rfl (v:=a5) (fun _ _=>Mv rfl)<|A2 rfl<|Bi a fun am hh a=>A3 rfl (.none rfl) rfl rfl (Cg [Ag [I r.op,Sb r.name,Sb r.tail,I r.type_,Cx r.num,Sl d3 r.args d4,I r.at_],ad] rfl)<|Calls.mono (MJ cy d1 (kn0:=24) (kn1:=25) hh dcd dcd (AW (x:=r) d2) (GW.one a2)) ?_
 rintro _ lc ⟨hi,d5,d6,ld,rfl,bl,hj,hk,hl⟩
 obtain ⟨hm,hn,rfl,d7⟩:=E1 (Ae hk)
 refine ⟨_,rfl,⟨_,(Mo [24,25] bl)⟩,?_⟩
 refine Qx e rfl (v:=Ag [Sb bb.name,.func (.func 90) #[] [Pt d5 0,Pt d6 0].toArray,a5]) (fun _ _=>B8 (cs:=[Sb bb.name,.func (.func 90) #[] [Pt d5 0,Pt d6 0].toArray,a5]) [Sb ([]:Bts),.nilFunc,.pointer none] Qh Qe rfl (.cons rfl rfl rfl (.cons rfl rfl rfl (.cons rfl (Dj (GW.one cw)) rfl .nil))) rfl rfl)<|A2 rfl<|Bf rfl (.none rfl) rfl rfl<|A0 hi 26 rfl rfl fun lf lg d8 ho a6=>⟨⟨_,(Tn (Mo [24,25] bl) a6)⟩,?_⟩
 refine Qx e rfl (v:=Pt d8 0) (fun _ _=>Run.assign rfl)<|B7<|AL<|Vr (I (Wr (ag+1)))<|Vm<|AA<|have hp:=Ss AH d7 a6;have hq:=Bs hj a6;have hr:=Bs hl a6;have hs:=Me (Me (Me (Me (Me (Me (Me (Me (Me (Me (Me (Me (Me a2 m) l) f) g) al) ac) af) ab) bj) bk) bc) bl) a6; ?_
 obtain ⟨lh,c0,ht⟩:=MTh.layLater (D:=89) (ce:=[I am.op,Sb am.name,Sb am.tail,I am.type_,Cx am.num,Sl hm am.args hn,I am.at_]) hq hr dcd (AW (x:=am) hp) hs
 refine have hu:=Bs ho c0;have hw:=Me (Me (Me (Me (Me (Me cw bj) bk) bc) bl) a6) c0; ?_
 obtain ⟨hx,hy,hz⟩:=GW.lay hu dcd ht hw
 exact ⟨ay,Nat.lt_succ_self ay,_,hx,(Nm.bind bb.name (Th.later am aj) bi),Pt d8 0,(Wr (ag+1)),Pu,(d0▸a),(T3 (T4 (Mo [23,24,25,26] ab) bj bk bc bl) a6 c0 hy),hz⟩
 refine Bd<|Sr<|Vm<|Vx (Fd L2 rfl)<|have h0:=Bs dy ab;Vx (Lx A8 rfl rfl (Bk.part h0 3 [I h.body.op,Sb h.body.name,Sb h.body.tail,I h.body.type_,Cx h.body.num,Sl cu h.body.args cv,I h.body.at_] rfl))<|Vm<|have h1:=Y3 cr ac af ab;have h2:=K3 AI ds ac af ab;have h3:=Ms (Ms (Ms dr ac) af) ab;have h4:=K2 AH gr af ab;Bi a fun d9 h5 a=>Ib (.none rfl) rfl rfl (Cg [Pt ah 0,Ag [I h.body.op,Sb h.body.name,Sb h.body.tail,I h.body.type_,Cx h.body.num,Sl cu h.body.args cv,I h.body.at_],a5] rfl)<|Calls.mono (ca.mean_run_look ba bh h5 dcd dcd h1 h2 h3 (AW (x:=(AE.mk h.body.op h.body.name h.body.tail h.body.type_ h.body.num h.body.args h.body.at_)) h4) cw) ?_
 rintro _ li ⟨ea,lj,c1,eb,c2,h6⟩
 obtain ⟨ec,ed,rfl⟩:=AS c2
 obtain ⟨lk,h7,rfl⟩| ⟨p,h8,ll,rfl,lm,rfl,h9⟩:=Ew.split h6
 refine have a:=D7 a h7; .inl ⟨_,rfl,?_⟩
 obtain rfl:=AK a
 refine No (B:=B) aa<|⟨ea,Sl ec d9.2.1 ed,Ho (T4 (T4 (Mo [1,22,23,24,25,26] m) l f g al) ac af ab c1) y,eb,c2,Ga⟩
 refine have a:=HG a h8; ?_
 obtain ⟨ln,bx,bz,rfl,c3,ee,ef⟩:=Dd h9
 obtain ⟨b0,b1,rfl⟩:=AS c3
 refine .inr ⟨_,rfl,?_⟩
 refine have ia:=Y3 (Y4 aw f g al ac) af ab c1;Eu<|Bx (vs:=[I p.plain.type_,Cx p.plain.num,.bool p.plain.bool,Sl b0 p.plain.list b1,bx,bz]) (cs':=[I p.plain.type_,Cx p.plain.num,.bool p.plain.bool,Sl b0 p.plain.list b1,bx,bz]) Jc rfl rfl rfl rfl (AZ rfl (AZ rfl (AZ rfl (AZ (FW c3) (AZ (MTh.one ee) (AZ (MTh.one ef) CR)))))) ia dcd rfl rfl fun lo ib bd=>AA<|AQ ?_
 obtain rfl:=AK a
 refine O1 B aa rfl (.agg Jz rfl rfl (Bw ib))<|have ic:=Ss Kd.cpx c3 bd;have id:=Mt ee bd;have ie:=Mt ef bd;have ig:=Bs eb bd;have ih:=Ss AI c2 bd;⟨ea,Sl ec d9.2.1 ed,Ho (Tn (T4 (T4 (Mo [1,21,22,23,24,25,26] m) l f g al) ac af ab c1) bd) y,ig,ih,FY ⟨[I p.plain.type_,Cx p.plain.num,.bool p.plain.bool,Sl b0 p.plain.list b1,bx,bz],rfl,(Cq (x:=p) ic id ie)⟩⟩
 refine Sr<|Vr (.bool (d.op==18))<|Va (.bool (d.op==18))<|AA<|Cn a (fun ii a=>?_) fun ii a=>?_
 refine AR<|BY DF (qs 0 5 (qs 6 5 (.one 5 (.one 11 (.q 12 (.one 13 .nil)))))) [13] [27,28,29,30] n (by kernel_rfl) fun c4 a7=>Qx e rfl (fun _ _=>Fd BS rfl)<|have eg:=Bs bg a7;Qx e rfl (fun _ ⟨_,c⟩=>Ld Cf rfl (Bc (Bs eg c) rfl))<|Bi a fun u ij a=>have eh:=Ss AH (K4 AH bp m l f g) a7; ?_
 obtain ⟨ik,il,lp,im,io,ip,iq,ir,c5⟩:=A9 (κ:=AH) eh ij
 replace c5:Ax n c4 ik (il+(0:Int).toNat*7) im:=c5
 obtain ⟨ej,ek,rfl,ei⟩:=E1 (Ae ir)
 refine Qx e rfl (fun _ _=>Ix CG io rfl ip iq)<|Qx e rfl (fun _ ⟨_,c⟩=>Lx A8 rfl rfl (Ax.part0 (Es c5 c) [I u.op,Sb u.name,Sb u.tail,I u.type_,Cx u.num,Sl ej u.args ek,I u.at_] rfl))<|Qx e rfl (v:=ad) (fun _ _=>Mv rfl)<|Qx e rfl (fun _ _=>Fd BS rfl)<|Qx e rfl (fun _ ⟨_,c⟩=>Ld Cf rfl (Bc (Bs eg c) rfl))<|Bi a fun w it a=>?_
 obtain ⟨iu,iv,lr,iw,ix,iy,iz,i0,c6⟩:=A9 (κ:=AH) eh it
 replace c6:Ax n c4 iu (iv+(1:Int).toNat*7) iw:=c6
 obtain ⟨em,en,rfl,el⟩:=E1 (Ae i0)
 refine Qx e rfl (fun _ _=>Ix CG ix rfl iy iz)<|Qx e rfl (fun _ ⟨_,c⟩=>Lx A8 rfl rfl (Ax.part0 (Es c6 c) [I w.op,Sb w.name,Sb w.tail,I w.type_,Cx w.num,Sl em w.args en,I w.at_] rfl))<|Qx e rfl (v:=ad) (fun _ _=>Mv rfl)<|A2 rfl<|Bi a fun an i1 a=>A3 rfl (.none rfl) rfl rfl (Cg [Ag [I u.op,Sb u.name,Sb u.tail,I u.type_,Cx u.num,Sl ej u.args ek,I u.at_],ad] rfl)<|Calls.mono (MJ n c4 (kn0:=27) (kn1:=28) i1 dcd dcd (AW (x:=u) ei) (GW.one a2)) ?_
 rintro _ i2 ⟨i3,b2,b3,lt,rfl,az,i4,i5,i6⟩
 obtain ⟨i7,i8,rfl,eo⟩:=E1 (Ae i5)
 refine ⟨_,rfl,⟨_,(Mo [27,28,29,30] az)⟩,?_⟩
 refine A2 rfl<|have i9:=Ss AH el az;Bi a fun ao ja a=>A3 rfl (.none rfl) rfl rfl (Cg [Ag [I w.op,Sb w.name,Sb w.tail,I w.type_,Cx w.num,Sl em w.args en,I w.at_],ad] rfl)<|Calls.mono (MJ i3 i2 (kn0:=29) (kn1:=30) ja dcd dcd (AW (x:=w) i9) (GW.one a2)) ?_
 rintro _ lv ⟨lw,b4,b5,lx,rfl,ap,jb,jc,jd⟩
 obtain ⟨je,jf,rfl,ep⟩:=E1 (Ae jc)
 refine ⟨_,rfl,⟨_,(Tn (Mo [27,28,29,30] az) ap)⟩,?_⟩
 refine Qx e rfl (v:=Ag [I 0,Cx (((0,0):Nat×Nat)),.bool false,.slice none 0 0,.func (.func 90) #[] [Pt b2 0,Pt b3 0].toArray,.func (.func 90) #[] [Pt b4 0,Pt b5 0].toArray]) (fun _ _=>B8 (cs:=[I 0,Cx (((0,0):Nat×Nat)),.bool false,.slice none 0 0,.func (.func 90) #[] [Pt b2 0,Pt b3 0].toArray,.func (.func 90) #[] [Pt b4 0,Pt b5 0].toArray]) [I 0,Cx (((0,0):Nat×Nat)),.bool false,.slice none 0 0,.nilFunc,.nilFunc] Kw NL rfl (.cons rfl rfl rfl (.cons rfl rfl rfl .nil)) rfl rfl)<|Er dcd<|WY.one<|have jg:=Bs (Y4 aw f g a7 az) ap;BN rfl (.none rfl) rfl<|St Jc jg rfl rfl rfl rfl fun lz jh ai=>WY.nil<|AQ<|have ji:=K2 AH eo ap ai;have jj:=Y2 i4 ap ai;have jk:=Y2 i6 ap ai;have eq:=Me (Me (Me (Me (Me (Me (Me (Me a2 m) l) f) g) a7) az) ap) ai; ?_
 obtain ⟨l0,a0,jl⟩:=MTh.layLater (D:=89) (ce:=[I an.op,Sb an.name,Sb an.tail,I an.type_,Cx an.num,Sl i7 an.args i8,I an.at_]) jj jk dcd (AW (x:=an) ji) eq
 refine have jm:=K2 AH ep ai a0;have jn:=Y2 jb ai a0;have jo:=Y2 jd ai a0;have jp:=Me eq a0; ?_
 obtain ⟨jq,bm,jr⟩:=MTh.layLater (D:=89) (ce:=[I ao.op,Sb ao.name,Sb ao.tail,I ao.type_,Cx ao.num,Sl je ao.args jf,I ao.at_]) jn jo dcd (AW (x:=ao) jm) jp
 obtain rfl:=AK a
 refine have js:=Y2 jh a0 bm;O1 B aa rfl (.agg Jz rfl rfl (Bw js))<|have jt:=Mt jl bm;have ju:=Y2 (Y4 ak a7 az ap ai) a0 bm;have jv:=K2 AI (K4 AI (K4 AI ae m l f g) a7 az ap ai) a0 bm;⟨jq,Sl a3 z a4,Ho (Tn (T4 (T4 (Mo [1,21,27,28,29,30] m) l f g a7) az ap ai a0) bm) y,ju,jv,FY ⟨[I 0,Cx (((0,0):Nat×Nat)),.bool false,.slice none 0 0,.func (.func 90) #[] [Pt b2 0,Pt b3 0].toArray,.func (.func 90) #[] [Pt b4 0,Pt b5 0].toArray],rfl,(Cq (x:=(Aw.mk (AG.mk 0 ((0,0):Nat×Nat) false []) (Th.later an aj) (Th.later ao aj))) BJ jt jr)⟩⟩
 refine WC.skip<|⟨_,n,Pu,a,Rf⟩
 rintro _ ch ⟨ax,ci,rfl,a,aq⟩
 rw [K6] at a
 refine Sr<|Vm<|have jw:=Y4 de l f g aq;Vx (Lx A8 rfl rfl (Bw jw))<|Vm<|have jx:=Bs ak aq;have jy:=Ss AI (K4 AI ae m l f g) aq;have jz:=Ms (Ms (Ms (Ms (Ms cc m) l) f) g) aq;have j0:=Ss AH (K4 AH bp m l f g) aq;have j1:=Me (Me (Me (Me (Me a2 m) l) f) g) aq;Bi a fun er j2 a=>Ib (.none rfl) rfl rfl (Cg [Pt ah 0,Ag [I d.op,Sb d.name,Sb d.tail,I d.type_,Cx d.num,Sl db d.args dc,I d.at_],ad] rfl)<|Calls.mono (ca.mean_run_parts ci ch j2 dcd dcd jx jy jz (AW (x:=d) j0) j1) ?_
 rintro _ l1 ⟨es,l2,c7,et,c8,j3⟩
 obtain ⟨eu,ew,rfl⟩:=AS c8
 obtain ⟨l3,j4,rfl⟩| ⟨q,j5,l4,rfl,l5,rfl,j6⟩:=Ew.split j3
 refine have a:=D7 a j4; .inl ⟨_,rfl,?_⟩
 obtain rfl:=AK a
 refine No (B:=B) aa<|⟨es,Sl eu er.2.1 ew,Ho (Tn (T4 (Mo [1] m) l f g aq) c7) y,et,c8,Ga⟩
 refine have a:=HG a j5; ?_
 obtain ⟨l6,b6,b7,rfl,c9,ex,ey⟩:=Dd j6
 obtain ⟨b8,b9,rfl⟩:=AS c9
 refine .inr ⟨_,rfl,?_⟩
 refine have j7:=Y4 aw f g aq c7;Eu<|Bx (vs:=[I q.plain.type_,Cx q.plain.num,.bool q.plain.bool,Sl b8 q.plain.list b9,b6,b7]) (cs':=[I q.plain.type_,Cx q.plain.num,.bool q.plain.bool,Sl b8 q.plain.list b9,b6,b7]) Jc rfl rfl rfl rfl (AZ rfl (AZ rfl (AZ rfl (AZ (FW c9) (AZ (MTh.one ex) (AZ (MTh.one ey) CR)))))) j7 dcd rfl rfl fun l7 j8 be=>AA<|AQ ?_
 obtain rfl:=AK a
 refine O1 B aa rfl (.agg Jz rfl rfl (Bw j8))<|have j9:=Ss Kd.cpx c9 be;have ka:=Mt ex be;have kb:=Mt ey be;have kc:=Bs et be;have kd:=Ss AI c8 be;⟨es,Sl eu er.2.1 ew,Ho (T2 (T4 (Mo [1,21] m) l f g aq) c7 be) y,kc,kd,FY ⟨[I q.plain.type_,Cx q.plain.num,.bool q.plain.bool,Sl b8 q.plain.list b9,b6,b7],rfl,(Cq (x:=q) j9 ka kb)⟩⟩
theorem QJ(d:Ac)(f:Nat)(m:Ac.Good d):mean_run_look.Spec (BH d f):=by
 intro e g a c ac ad ae af ag ah ai aj ak al am an n hnd hnz l o p q s
 refine Calls.mono (QI d f m (recol (see [a,c]) e) g (Fo lbr e) n trivial trivial (BU l [a,c] (BP hnd hnz (i:=0) rfl)) (El AI o [a,c]) (Fp p [a,c] (BP hnd hnz (i:=1) rfl)) (BZ AH q [a,c]) (GW.recol s [a,c])) ?_
 rintro ao ap ⟨w,y,z,aa,ab,en⟩
 exact ⟨glue [a,c] g e w,y,CI z (F0 rfl rfl),EA l aa dcd,HE AI ab,PJ en fun r v ⟨u,hv,h⟩=>⟨u,hv,D4 HI h⟩⟩
theorem Qr(p:Ac)(ag:Nat)(ah:Ac.Good p)(l:Col)(ai:World)(q:∀b,l b<10):mean_later_1.At True True l ai (Lu p ag) 1 2:=by
 intro aj bf bg bh bi bj bk c bl bm bn bo ak bp d _ _ al r am an ao ap aq
 rw [Lu] at d
 obtain ⟨bq,br,rfl⟩:=AS r
 obtain ⟨u,w,rfl,s⟩:=E1 (Ae ao)
 refine Ay Tryz.func90 rfl Tryz.ntmps90 rfl fun B y bu=>Sr<|Ef<|AY l 20 Kw rfl fun ar au bv av e=>AA<|Sr<|Vm<|have aw:=Es an e;Vx (Lx A8 rfl rfl (Ax.part0 aw [I c.op,Sb c.name,Sb c.tail,I c.type_,Cx c.num,Sl u c.args w,I c.at_] rfl))<|have ax:=Es ap e;Vx (Ld Yi rfl (Ax.cell0 ax rfl))<|have ay:=Bs al e;have az:=Ss AI r e;have a0:=Ms am e;have a1:=Ss AH s e;have a2:=Me aq e;Bi d fun z a3 d=>Ib (.none rfl) rfl rfl (Cg [Pt aj 0,Ag [I c.op,Sb c.name,Sb c.tail,I c.type_,Cx c.num,Sl u c.args w,I c.at_],ak] rfl)<|Calls.mono (ah.mean_run_look ar au a3 dcd dcd ay az a0 (AW (x:=c) a1) a2) ?_
 rintro _ bw ⟨aa,bx,m,ab,n,a4⟩
 obtain ⟨ac,ad,rfl⟩:=AS n
 obtain ⟨bz,a5,rfl⟩| ⟨a,a6,b0,rfl,b1,rfl,a7⟩:=Ew.split a4
 refine have d:=D7 d a5; .inl ⟨_,rfl,?_⟩
 obtain rfl:=AK d
 refine No (B:=B) y<|⟨aa,Sl ac z.2.1 ad,Ho (Tn (Mo [1] e) m) q,ab,n,Ga⟩
 refine have d:=HG d a6; ?_
 obtain ⟨b2,s52,s54,rfl,o,ae,af⟩:=Dd a7
 obtain ⟨g,h,rfl⟩:=AS o
 refine .inr ⟨_,rfl,?_⟩
 refine have a8:=Bs av m;Eu<|Bx (vs:=[I a.plain.type_,Cx a.plain.num,.bool a.plain.bool,Sl g a.plain.list h,s52,s54]) (cs':=[I a.plain.type_,Cx a.plain.num,.bool a.plain.bool,Sl g a.plain.list h,s52,s54]) Jc rfl rfl rfl rfl (AZ rfl (AZ rfl (AZ rfl (AZ (FW o) (AZ (MTh.one ae) (AZ (MTh.one af) CR)))))) a8 dcd rfl rfl fun b3 a9 f=>AA<|AQ ?_
 obtain rfl:=AK d
 refine O1 B y rfl (.agg Jz rfl rfl (Bw a9))<|have ba:=Ss Kd.cpx o f;have bb:=Mt ae f;have bc:=Mt af f;have bd:=Bs ab f;have be:=Ss AI n f;⟨aa,Sl ac z.2.1 ad,Ho (T2 (Mo [1,20] e) m f) q,bd,be,FY ⟨[I a.plain.type_,Cx a.plain.num,.bool a.plain.bool,Sl g a.plain.list h,s52,s54],rfl,(Cq (x:=a) ba bb bc)⟩⟩
theorem Qs(d:Ac)(f:Nat)(m:Ac.Good d):mean_later_1.Spec (Lu d f):=by
 intro e g a c ae af ag ah ai aj ak al am an ao ap aq ar n hnd hnz l o p q s w y
 refine Calls.mono (Qr d f m (recol (see [a,c]) e) g (Fo lbr e) n trivial trivial (BU l [a,c] (BP hnd hnz (i:=0) rfl)) (El AI o [a,c]) (Fp p [a,c] (BP hnd hnz (i:=1) rfl)) (Pj q [a,c]) (BZ AH s [a,c]) (Pj w [a,c]) (GW.recol y [a,c])) ?_
 rintro au av ⟨z,aa,ab,ac,ad,en⟩
 exact ⟨glue [a,c] g e z,aa,CI ab (F0 rfl rfl),EA l ac dcd,HE AI ad,PJ en fun r v ⟨u,hv,h⟩=>⟨u,hv,D4 HI h⟩⟩
theorem Rk(f:Ac)(l:Nat)(m:Ac.Good f):mean_callth.Spec (LK f l):=by
 intro c d n af ag o ah ai aj ak al am an ao a hnd hnz g h p q
 cases q with
 |nil=>rw [LK] at a;exact A7 a
 |done hF hlt hat hp hh ht=>
 rw [LK] at a
 refine Bi a fun r hr a=>?_
 obtain rfl:=AK a
 obtain ⟨ap,rfl,s⟩:=Az hp
 refine ⟨89,_,fun hx hv=>AAl (caps:=[Pt _ 0]) hx hv,?_⟩
 refine Calls.mono (Sz c d hr ⟨hF,hlt,hat⟩ (show HI.rep c.F d _ _ from ⟨_,_,_,rfl,s,hh,ht⟩) (v0:=Pt n 0) rfl) ?_
 rintro _ aq ⟨u,ar,rfl,e,hu⟩
 exact ⟨u,o,AU.mono e (by simp),(Bk.step g e (by simp)),(Vt AI h e (by simp)),FY ⟨_,rfl,hu⟩⟩
 |later w y z aa ab ac ad ae=>
 refine ⟨90,_,fun hx hv=>AAm (caps:=[Pt _ 0,Pt _ 0]) hx hv,?_⟩
 rw [LK] at a
 exact m.mean_later_1 c d a hnd hnz g h p ⟨w,y,ab⟩ ac ⟨z,aa,ad⟩ ae
theorem Ps(bv:Ac)(bm:Nat)(a3:Ac.Good bv)(dv:Col)(ir:World)(p:∀b,dv b<10):mean_run_parts.At True True dv ir (A6 bv bm) 1 2:=by
 intro ao it sn iu iv iw cl h so cm ap dw a _ _ b7 bw b8 ix bx
 rw [A6] at a
 obtain ⟨iy,iz,rfl⟩:=AS bw
 obtain ⟨i0,i1,rfl,bz⟩:=E1 (Ae ix)
 refine Ay Tryz.func58 rfl Tryz.ntmps58 rfl fun B q m=>Sr<|Ef<|A0 dv 20 rfl rfl fun i2 sq i3 i4 d=>Ef<|AY i2 21 Kw rfl fun a6 bn fi bo c=>AA<|AR<|Sr<|Vx (Fz Cy rfl)<|have aq:=Bs i4 c;Vx (Ld GT rfl (Bc aq rfl))<|AA<|Ah<|Sr<|Vr (.bool (h.op==19))<|Va (.bool (h.op==19))<|AA<|Cn a (fun i5 a=>?_) fun i5 a=>?_
 refine AR<|Sr<|Vm<|Vx (Fd BS rfl)<|Vx (Ld Cf rfl (Bc aq rfl))<|Bi a fun ac i6 a=>have dx:=K2 AH bz d c; ?_
 obtain ⟨i7,i8,sr,i9,ja,jb,jc,jd,dy⟩:=A9 (κ:=AH) dx i6
 replace dy:Ax a6 bn i7 (i8+(0:Int).toNat*7) i9:=dy
 obtain ⟨fk,fl,rfl,fj⟩:=E1 (Ae jd)
 refine Vx (Ix CG ja rfl jb jc)<|Vx (Lx A8 rfl rfl (Ax.part0 dy [I ac.op,Sb ac.name,Sb ac.tail,I ac.type_,Cx ac.num,Sl fk ac.args fl,I ac.at_] rfl))<|Vm<|have je:=Y2 b7 d c;have jf:=K2 AI bw d c;have dz:=Ms (Ms b8 d) c;have d0:=Me (Me bx d) c;Bi a fun jg jh a=>Ib (.none rfl) rfl rfl (Cg [Pt ao 0,Ag [I ac.op,Sb ac.name,Sb ac.tail,I ac.type_,Cx ac.num,Sl fk ac.args fl,I ac.at_],ap] rfl)<|Calls.mono (a3.mean_run_look a6 bn jh dcd dcd je jf dz (AW (x:=ac) fj) d0) ?_
 rintro _ cn ⟨b9,st,ad,d1,co,ji⟩
 obtain ⟨jj,jk,rfl⟩:=AS co
 obtain ⟨su,jl,rfl⟩| ⟨ar,jm,sv,rfl,sw,rfl,jn⟩:=Ew.split ji
 refine have a:=D7 a jl; .inl ⟨_,rfl,?_⟩
 obtain rfl:=AK a
 refine No (B:=B) q<|⟨b9,Sl jj jg.2.1 jk,Ho (T2 (Mo [1] d) c ad) p,d1,co,Ga⟩
 refine have a:=HG a jm; ?_
 obtain ⟨sx,jo,jp,rfl,jq,sy,sz⟩:=Dd jn
 obtain ⟨d2,d3,rfl⟩:=AS jq
 refine .inr ⟨_,rfl,?_⟩
 refine Vx (v:=Ag [I ar.plain.type_,Cx ar.plain.num,.bool ar.plain.bool,Sl d2 ar.plain.list d3]) (Pi (cs:=[I ar.plain.type_,Cx ar.plain.num,.bool ar.plain.bool,Sl d2 ar.plain.list d3,jo,jp]) SV rfl)<|Vx (v:=.bool ar.plain.bool) (Kb (cs:=[I ar.plain.type_,Cx ar.plain.num,.bool ar.plain.bool,Sl d2 ar.plain.list d3]) Yh rfl rfl)<|AA<|Cn a (fun jr a=>?_) fun jr a=>?_
 refine Sr<|Vm<|Vx (Fd BS rfl)<|have js:=Bs aq ad;Vx (Ld Cf rfl (Bc js rfl))<|Bi a fun ae jt a=>have ju:=Ss AH dx ad; ?_
 obtain ⟨jv,o90,s0,jw,jx,jy,jz,j0,d4⟩:=A9 (κ:=AH) ju jt
 replace d4:Ax b9 cn jv (o90+(1:Int).toNat*7) jw:=d4
 obtain ⟨fn,fo,rfl,fm⟩:=E1 (Ae j0)
 refine Vx (Ix CG jx rfl jy jz)<|Vx (Lx A8 rfl rfl (Ax.part0 d4 [I ae.op,Sb ae.name,Sb ae.tail,I ae.type_,Cx ae.num,Sl fn ae.args fo,I ae.at_] rfl))<|Vm<|have j1:=Ms dz ad;have j2:=Me d0 ad;Bi a fun fp j3 a=>Ib (.none rfl) rfl rfl (Cg [Pt ao 0,Ag [I ae.op,Sb ae.name,Sb ae.tail,I ae.type_,Cx ae.num,Sl fn ae.args fo,I ae.at_],ap] rfl)<|Calls.mono (a3.mean_run_look b9 cn j3 dcd dcd d1 co j1 (AW (x:=ae) fm) j2) ?_
 rintro _ s2 ⟨fq,s3,d5,fr,d6,j4⟩
 obtain ⟨fs,ft,rfl⟩:=AS d6
 obtain ⟨s4,j5,rfl⟩| ⟨r,j6,s5,rfl,s6,rfl,j7⟩:=Ew.split j4
 refine have a:=D7 a j5; .inl ⟨_,rfl,?_⟩
 obtain rfl:=AK a
 refine No (B:=B) q<|⟨fq,Sl fs fp.2.1 ft,Ho (T3 (Mo [1] d) c ad d5) p,fr,d6,Ga⟩
 refine have a:=HG a j6; ?_
 obtain ⟨s7,cq,cr,rfl,d7,fu,fv⟩:=Dd j7
 obtain ⟨ct,cu,rfl⟩:=AS d7
 refine .inr ⟨_,rfl,?_⟩
 refine have j8:=Y2 bo ad d5;Eu<|Bx (vs:=[I r.plain.type_,Cx r.plain.num,.bool r.plain.bool,Sl ct r.plain.list cu,cq,cr]) (cs':=[I r.plain.type_,Cx r.plain.num,.bool r.plain.bool,Sl ct r.plain.list cu,cq,cr]) Jc rfl rfl rfl rfl (AZ rfl (AZ rfl (AZ rfl (AZ (FW d7) (AZ (MTh.one fu) (AZ (MTh.one fv) CR)))))) j8 dcd rfl rfl fun s8 j9 b0=>AA<|AQ ?_
 obtain rfl:=AK a
 refine O1 B q rfl (.agg Jz rfl rfl (Bw j9))<|have ka:=Ss Kd.cpx d7 b0;have kb:=Mt fu b0;have kc:=Mt fv b0;have kd:=Bs fr b0;have ke:=Ss AI d6 b0;⟨fq,Sl fs fp.2.1 ft,Ho (T4 (Mo [1,21] d) c ad d5 b0) p,kd,ke,FY ⟨[I r.plain.type_,Cx r.plain.num,.bool r.plain.bool,Sl ct r.plain.list cu,cq,cr],rfl,(Cq (x:=r) ka kb kc)⟩⟩
 refine WC.skip<|Sr<|Vm<|Vx (Fd BS rfl)<|have kf:=Bs aq ad;Vx (Ld Cf rfl (Bc kf rfl))<|Bi a fun af kg a=>have kh:=Ss AH dx ad; ?_
 obtain ⟨ki,kj,s9,kk,kl,km,kn,ko,d8⟩:=A9 (κ:=AH) kh kg
 replace d8:Ax b9 cn ki (kj+(2:Int).toNat*7) kk:=d8
 obtain ⟨fx,fy,rfl,fw⟩:=E1 (Ae ko)
 refine Vx (Ix CG kl rfl km kn)<|Vx (Lx A8 rfl rfl (Ax.part0 d8 [I af.op,Sb af.name,Sb af.tail,I af.type_,Cx af.num,Sl fx af.args fy,I af.at_] rfl))<|Vm<|have kp:=Ms dz ad;have kq:=Me d0 ad;Bi a fun fz kr a=>Ib (.none rfl) rfl rfl (Cg [Pt ao 0,Ag [I af.op,Sb af.name,Sb af.tail,I af.type_,Cx af.num,Sl fx af.args fy,I af.at_],ap] rfl)<|Calls.mono (a3.mean_run_look b9 cn kr dcd dcd d1 co kp (AW (x:=af) fw) kq) ?_
 rintro _ tb ⟨f0,tc,d9,f1,ea,ks⟩
 obtain ⟨f2,f3,rfl⟩:=AS ea
 obtain ⟨td,kt,rfl⟩| ⟨u,ku,te,rfl,tf,rfl,kv⟩:=Ew.split ks
 refine have a:=D7 a kt; .inl ⟨_,rfl,?_⟩
 obtain rfl:=AK a
 refine No (B:=B) q<|⟨f0,Sl f2 fz.2.1 f3,Ho (T3 (Mo [1] d) c ad d9) p,f1,ea,Ga⟩
 refine have a:=HG a ku; ?_
 obtain ⟨tg,cv,cw,rfl,eb,f4,f5⟩:=Dd kv
 obtain ⟨cx,cy,rfl⟩:=AS eb
 refine .inr ⟨_,rfl,?_⟩
 refine have kw:=Y2 bo ad d9;Eu<|Bx (vs:=[I u.plain.type_,Cx u.plain.num,.bool u.plain.bool,Sl cx u.plain.list cy,cv,cw]) (cs':=[I u.plain.type_,Cx u.plain.num,.bool u.plain.bool,Sl cx u.plain.list cy,cv,cw]) Jc rfl rfl rfl rfl (AZ rfl (AZ rfl (AZ rfl (AZ (FW eb) (AZ (MTh.one f4) (AZ (MTh.one f5) CR)))))) kw dcd rfl rfl fun th kx b1=>AA<|AQ ?_
 obtain rfl:=AK a
 refine O1 B q rfl (.agg Jz rfl rfl (Bw kx))<|have ky:=Ss Kd.cpx eb b1;have kz:=Mt f4 b1;have k0:=Mt f5 b1;have k1:=Bs f1 b1;have k2:=Ss AI ea b1;⟨f0,Sl f2 fz.2.1 f3,Ho (T4 (Mo [1,21] d) c ad d9 b1) p,k1,k2,FY ⟨[I u.plain.type_,Cx u.plain.num,.bool u.plain.bool,Sl cx u.plain.list cy,cv,cw],rfl,(Cq (x:=u) ky kz k0)⟩⟩
 refine Sr<|Vr (.bool (h.op==20))<|Va (.bool (h.op==20))<|AA<|Cn a (fun k3 a=>?_) fun k3 a=>?_
 refine Sr<|Vm<|Vx (Fd BS rfl)<|Vx (Ld Cf rfl (Bc aq rfl))<|Bi a fun ag k4 a=>have ec:=K2 AH bz d c; ?_
 obtain ⟨k5,k6,ti,k7,k8,k9,la,lb,ed⟩:=A9 (κ:=AH) ec k4
 replace ed:Ax a6 bn k5 (k6+(0:Int).toNat*7) k7:=ed
 obtain ⟨f7,f8,rfl,f6⟩:=E1 (Ae lb)
 refine Vx (Ix CG k8 rfl k9 la)<|Vx (Lx A8 rfl rfl (Ax.part0 ed [I ag.op,Sb ag.name,Sb ag.tail,I ag.type_,Cx ag.num,Sl f7 ag.args f8,I ag.at_] rfl))<|Vm<|have lc:=Y2 b7 d c;have ld:=K2 AI bw d c;have ee:=Ms (Ms b8 d) c;have cz:=Me (Me bx d) c;Bi a fun le lf a=>Ib (.none rfl) rfl rfl (Cg [Pt ao 0,Ag [I ag.op,Sb ag.name,Sb ag.tail,I ag.type_,Cx ag.num,Sl f7 ag.args f8,I ag.at_],ap] rfl)<|Calls.mono (a3.mean_run_look a6 bn lf dcd dcd lc ld ee (AW (x:=ag) f6) cz) ?_
 rintro _ tk ⟨f9,tl,ah,ef,c0,lg⟩
 obtain ⟨lh,li,rfl⟩:=AS c0
 obtain ⟨tm,lj,rfl⟩| ⟨a7,lk,tn,rfl,to,rfl,ll⟩:=Ew.split lg
 refine have a:=D7 a lj; .inl ⟨_,rfl,?_⟩
 obtain rfl:=AK a
 refine No (B:=B) q<|⟨f9,Sl lh le.2.1 li,Ho (T2 (Mo [1] d) c ah) p,ef,c0,Ga⟩
 refine have a:=HG a lk; ?_
 obtain ⟨tp,eg,c1,rfl,ga,gb,eh⟩:=Dd ll
 obtain ⟨gc,gd,rfl⟩:=AS ga
 refine .inr ⟨_,rfl,?_⟩
 refine Ef<|AY f9 22 Kw rfl fun ei tq tr lm n=>have ln:=Ss Kd.cpx ga n;Eu<|Bx (vs:=[I a7.plain.type_,Cx a7.plain.num,.bool a7.plain.bool,Sl gc a7.plain.list gd,eg,c1]) (cs':=[I a7.plain.type_,Cx a7.plain.num,.bool a7.plain.bool,Sl gc a7.plain.list gd,eg,c1]) Jc rfl rfl rfl rfl (AZ rfl (AZ rfl (AZ rfl (AZ (FW ln) (AZ (MTh.one gb) (AZ (MTh.one eh) CR)))))) lm dcd rfl rfl fun ge ej o=>AA<|AR<|Sr<|Vx (Fd Oj rfl)<|Vx (Ld Om rfl (Bc ej rfl))<|have ek:=Mt (Mt gb n) o;Vx (v:=.bool (Th.isNil a7.head)) (Q9 VA rfl rfl ek)<|AA<|Cn a (fun lo a=>?_) fun lo a=>?_
 refine Sr<|Vm<|Vx (Fd BS rfl)<|have lp:=Y3 aq ah n o;Vx (Ld Cf rfl (Bc lp rfl))<|Bi a fun ai lq a=>have lr:=K3 AH ec ah n o; ?_
 obtain ⟨ls,lt,ts,lu,lv,lw,lx,ly,el⟩:=A9 (κ:=AH) lr lq
 replace el:Ax ei ge ls (lt+(1:Int).toNat*7) lu:=el
 obtain ⟨gg,gh,rfl,gf⟩:=E1 (Ae ly)
 refine Vx (Ix CG lv rfl lw lx)<|Vx (Lx A8 rfl rfl (Ax.part0 el [I ai.op,Sb ai.name,Sb ai.tail,I ai.type_,Cx ai.num,Sl gg ai.args gh,I ai.at_] rfl))<|Vm<|have lz:=Y2 ef n o;have l0:=K2 AI c0 n o;have l1:=Ms (Ms (Ms ee ah) n) o;have l2:=Me (Me (Me cz ah) n) o;Bi a fun gi l3 a=>Ib (.none rfl) rfl rfl (Cg [Pt ao 0,Ag [I ai.op,Sb ai.name,Sb ai.tail,I ai.type_,Cx ai.num,Sl gg ai.args gh,I ai.at_],ap] rfl)<|Calls.mono (a3.mean_run_look ei ge l3 dcd dcd lz l0 l1 (AW (x:=ai) gf) l2) ?_
 rintro _ tu ⟨gj,tw,em,gk,en,l4⟩
 obtain ⟨gl,gm,rfl⟩:=AS en
 obtain ⟨tx,l5,rfl⟩| ⟨w,l6,ty,rfl,tz,rfl,l7⟩:=Ew.split l4
 refine have a:=D7 a l5; .inl ⟨_,rfl,?_⟩
 obtain rfl:=AK a
 refine No (B:=B) q<|⟨gj,Sl gl gi.2.1 gm,Ho (Tn (T4 (Mo [1,22] d) c ah n o) em) p,gk,en,Ga⟩
 refine have a:=HG a l6; ?_
 obtain ⟨t0,c2,c3,rfl,eo,gn,go⟩:=Dd l7
 obtain ⟨c4,c5,rfl⟩:=AS eo
 refine .inr ⟨_,rfl,?_⟩
 refine have l8:=Y4 bo ah n o em;Eu<|Bx (vs:=[I w.plain.type_,Cx w.plain.num,.bool w.plain.bool,Sl c4 w.plain.list c5,c2,c3]) (cs':=[I w.plain.type_,Cx w.plain.num,.bool w.plain.bool,Sl c4 w.plain.list c5,c2,c3]) Jc rfl rfl rfl rfl (AZ rfl (AZ rfl (AZ rfl (AZ (FW eo) (AZ (MTh.one gn) (AZ (MTh.one go) CR)))))) l8 dcd rfl rfl fun t1 l9 b2=>AA<|AQ ?_
 obtain rfl:=AK a
 refine O1 B q rfl (.agg Jz rfl rfl (Bw l9))<|have ma:=Ss Kd.cpx eo b2;have mb:=Mt gn b2;have mc:=Mt go b2;have md:=Bs gk b2;have me:=Ss AI en b2;⟨gj,Sl gl gi.2.1 gm,Ho (T2 (T4 (Mo [1,21,22] d) c ah n o) em b2) p,md,me,FY ⟨[I w.plain.type_,Cx w.plain.num,.bool w.plain.bool,Sl c4 w.plain.list c5,c2,c3],rfl,(Cq (x:=w) ma mb mc)⟩⟩
 refine WC.skip<|Sr<|Vx (Fd Di rfl)<|have gp:=Y3 aq ah n o;Vx (Ld CF rfl (Bc gp rfl))<|Vx (Fd Oj rfl)<|Vx (Ld Om rfl (Bc ej rfl))<|Vm<|Vx (v:=Ag [Sb h.name,eg,ap]) (Bp Qh Qe rfl (.cons rfl rfl rfl (.cons rfl (Dj (MTh.one ek)) rfl (.cons rfl (Dj (GW.one cz)) rfl .nil))))<|Ef<|A0 ei 23 rfl rfl fun ep t2 c6 mf ax=>Va (Pt c6 0)<|AA<|AR<|BY DF (qs 0 11 (.one 11 (.one 12 (.one 13 .nil)))) [13] [1,23,24] ep (by kernel_rfl) fun mg au=>Qx m rfl (v:=Pt ao 0) (fun _ _=>Mv rfl)<|Qx m rfl (fun _ _=>Fd BS rfl)<|have gq:=Y2 gp ax au;Qx m rfl (fun _ ⟨_,f⟩=>Ld Cf rfl (Bc (Bs gq f) rfl))<|Bi a fun aj mh a=>have mi:=Ss AH (K4 AH ec ah n o ax) au; ?_
 obtain ⟨mj,mk,t3,ml,mm,mn,mo,mp,eq⟩:=A9 (κ:=AH) mi mh
 replace eq:Ax ep mg mj (mk+(2:Int).toNat*7) ml:=eq
 obtain ⟨gs,gt,rfl,gr⟩:=E1 (Ae mp)
 refine Qx m rfl (fun _ _=>Ix CG mm rfl mn mo)<|Qx m rfl (fun _ ⟨_,f⟩=>Lx A8 rfl rfl (Ax.part0 (Es eq f) [I aj.op,Sb aj.name,Sb aj.tail,I aj.type_,Cx aj.num,Sl gs aj.args gt,I aj.at_] rfl))<|Qx m rfl (fun _ _=>Fd Mn rfl)<|Qx m rfl (fun _ ⟨_,f⟩=>Ld CF rfl (Bc (Bs gq f) rfl))<|Qx m rfl (fun _ _=>Fd WI rfl)<|have mq:=Y2 ej ax au;Qx m rfl (fun _ ⟨_,f⟩=>Ld Om rfl (Bc (Bs mq f) rfl))<|Qx m rfl (v:=Pt c6 0) (fun _ _=>Mv rfl)<|Qx m rfl (v:=Ag [Sb h.tail,c1,Pt c6 0]) (fun _ _=>B8 (cs:=[Sb h.tail,c1,Pt c6 0]) [Sb ([]:Bts),.nilFunc,.pointer none] Qh Qe rfl (.cons rfl rfl rfl (.cons rfl (Dj (MTh.one eh)) rfl (.cons rfl rfl rfl .nil))) rfl rfl)<|A2 rfl<|Bf rfl (.none rfl) rfl rfl<|A0 ep 24 rfl rfl fun t5 mr ms mt av=>⟨⟨_,(Mo [1,23,24] av)⟩,?_⟩
 refine U3 rfl<|have mu:=Y2 mf au av;have mv:=Mt (Mt (Mt ek ax) au) av;have mw:=Me (Me (Me (Me (Me (Me cz ah) n) o) ax) au) av; ?_
 obtain ⟨t6,a4,mx⟩:=GW.lay mu dcd mv mw
 refine have my:=Bs mt a4;have mz:=Mt (Mt (Mt (Mt (Mt (Mt eh n) o) ax) au) av) a4; ?_
 obtain ⟨m0,bc,m1⟩:=GW.lay my dcd mz mx
 refine have m2:=Y3 (Y4 ef n o ax au) av a4 bc;have m3:=K3 AI (K4 AI c0 n o ax au) av a4 bc;have m4:=Ms (Ms (Ms (Ms (Ms (Ms (Ms (Ms ee ah) n) o) ax) au) av) a4) bc;have m5:=K3 AH gr av a4 bc;Bi a fun gu m6 a=>Ud.callp rfl (.none rfl) rfl rfl (Cg [Pt ao 0,Ag [I aj.op,Sb aj.name,Sb aj.tail,I aj.type_,Cx aj.num,Sl gs aj.args gt,I aj.at_],Pt ms 0] rfl)<|Calls.mono (a3.mean_run_look m0 mr m6 dcd dcd m2 m3 m4 (AW (x:=aj) m5) m1) ?_
 rintro _ t7 ⟨gv,t8,c7,gw,er,m7⟩
 obtain ⟨gx,gy,rfl⟩:=AS er
 obtain ⟨t9,m8,rfl⟩| ⟨y,m9,ua,rfl,ub,rfl,na⟩:=Ew.split m7
 refine have a:=D7 a m8; .inl ⟨_,rfl,?_⟩
 obtain rfl:=AK a
 refine No (B:=B) q<|⟨gv,Sl gx gu.2.1 gy,Ho (T2 (T4 (T4 (Mo [1,22,23,24] d) c ah n o) ax au av a4) bc c7) p,gw,er,Ga⟩
 refine have a:=HG a m9; ?_
 obtain ⟨uc,c8,c9,rfl,es,gz,g0⟩:=Dd na
 obtain ⟨da,db,rfl⟩:=AS es
 refine .inr ⟨_,rfl,⟨_,(T3 (Mo [1,23,24] av) a4 bc c7)⟩,?_⟩
 refine Er dcd<|WY.one<|have nb:=Bs (Y4 (Y4 bo ah n o ax) au av a4 bc) c7;BN rfl (.none rfl) rfl<|Bx (vs:=[I y.plain.type_,Cx y.plain.num,.bool y.plain.bool,Sl da y.plain.list db,c8,c9]) (cs':=[I y.plain.type_,Cx y.plain.num,.bool y.plain.bool,Sl da y.plain.list db,c8,c9]) Jc rfl rfl rfl rfl (AZ rfl (AZ rfl (AZ rfl (AZ (FW es) (AZ (MTh.one gz) (AZ (MTh.one g0) CR)))))) nb dcd rfl rfl fun ud nc b3=>WY.nil<|AQ ?_
 obtain rfl:=AK a
 refine O1 B q rfl (.agg Jz rfl rfl (Bw nc))<|have nd:=Ss Kd.cpx es b3;have ne:=Mt gz b3;have nf:=Mt g0 b3;have ng:=Bs gw b3;have nh:=Ss AI er b3;⟨gv,Sl gx gu.2.1 gy,Ho (T3 (T4 (T4 (Mo [1,21,22,23,24] d) c ah n o) ax au av a4) bc c7 b3) p,ng,nh,FY ⟨[I y.plain.type_,Cx y.plain.num,.bool y.plain.bool,Sl da y.plain.list db,c8,c9],rfl,(Cq (x:=y) nd ne nf)⟩⟩
 refine Sr<|Vr (.bool (h.op==21))<|Va (.bool (h.op==21))<|AA<|Cn a (fun ni a=>?_) fun ni a=>?_
 refine Sr<|Vx (Fd Di rfl)<|Vx (Ld CF rfl (Bc aq rfl))<|Vm<|Vx (v:=Ag [Sb h.name,.nilFunc,ap]) (Bp Qh Qe rfl (.cons rfl rfl rfl (.cons rfl (Dj (GW.one bx)) rfl .nil)))<|Ef<|A0 a6 25 rfl rfl fun g1 g2 et nj a8=>Va (Pt et 0)<|AA<|Sr<|Vm<|Vx (Fd BS rfl)<|have g3:=Bs aq a8;Vx (Ld Cf rfl (Bc g3 rfl))<|Bi a fun ak nk a=>have g4:=K3 AH bz d c a8; ?_
 obtain ⟨nl,nm,ue,np,nq,nr,ns,nt,eu⟩:=A9 (κ:=AH) g4 nk
 replace eu:Ax g1 g2 nl (nm+(0:Int).toNat*7) np:=eu
 obtain ⟨g6,g7,rfl,g5⟩:=E1 (Ae nt)
 refine Vx (Ix CG nq rfl nr ns)<|Vx (Lx A8 rfl rfl (Ax.part0 eu [I ak.op,Sb ak.name,Sb ak.tail,I ak.type_,Cx ak.num,Sl g6 ak.args g7,I ak.at_] rfl))<|Vm<|Bi a fun bd nu a=>Ca (Cg [Ag [I ak.op,Sb ak.name,Sb ak.tail,I ak.type_,Cx ak.num,Sl g6 ak.args g7,I ak.at_],Pt et 0] rfl) (MJ g1 g2 (kn0:=26) (kn1:=27) nu dcd dcd (AW (x:=ak) g5) rfl) ?_
 rintro _ ug ⟨nv,uh,ui,uj,rfl,a5,nw,nx,ny⟩
 obtain ⟨n0,n1,rfl,g8⟩:=E1 (Ae nx)
 refine Vx (Nc rfl)<|Vx (Fd WH rfl)<|have n2:=Bs nj a5;Eu<|St AAt n2 rfl rfl rfl rfl fun g9 n4 ay=>AA<|Sr<|Vm<|Vx (Fd BS rfl)<|have n5:=Y2 g3 a5 ay;Vx (Ld Cf rfl (Bc n5 rfl))<|Bi a fun al n6 a=>have n7:=K2 AH g4 a5 ay; ?_
 obtain ⟨n8,oa,ul,ob,oc,od,oe,og,ew⟩:=A9 (κ:=AH) n7 n6
 replace ew:Ax nv g9 n8 (oa+(1:Int).toNat*7) ob:=ew
 obtain ⟨hb,hc,rfl,ha⟩:=E1 (Ae og)
 refine Vx (Ix CG oc rfl od oe)<|Vx (Lx A8 rfl rfl (Ax.part0 ew [I al.op,Sb al.name,Sb al.tail,I al.type_,Cx al.num,Sl hb al.args hc,I al.at_] rfl))<|Vm<|have oh:=Ss AH g8 ay;have oi:=Bs nw ay;have oj:=Bs ny ay;have ok:=Me (Me (Me (Me (Me bx d) c) a8) a5) ay; ?_
 obtain ⟨ol,bp,om⟩:=GW.layRec (D:=89) (ce:=[I bd.op,Sb bd.name,Sb bd.tail,I bd.type_,Cx bd.num,Sl n0 bd.args n1,I bd.at_]) n4 oi oj dcd (AW (x:=bd) oh) ok
 refine have oo:=Y2 (Y4 b7 d c a8 a5) ay bp;have op:=K2 AI (K4 AI bw d c a8 a5) ay bp;have oq:=Ms (Ms (Ms (Ms (Ms (Ms b8 d) c) a8) a5) ay) bp;have os:=Ss AH ha bp;Bi a fun hd ot a=>Ib (.none rfl) rfl rfl (Cg [Pt ao 0,Ag [I al.op,Sb al.name,Sb al.tail,I al.type_,Cx al.num,Sl hb al.args hc,I al.at_],Pt et 0] rfl)<|Calls.mono (a3.mean_run_look ol g9 ot dcd dcd oo op oq (AW (x:=al) os) om) ?_
 rintro _ un ⟨he,uo,ex,hf,ey,ou⟩
 obtain ⟨hg,hh,rfl⟩:=AS ey
 obtain ⟨up,ov,rfl⟩| ⟨z,ow,uq,rfl,ur,rfl,ox⟩:=Ew.split ou
 refine have a:=D7 a ov; .inl ⟨_,rfl,?_⟩
 obtain rfl:=AK a
 refine No (B:=B) q<|⟨he,Sl hg hd.2.1 hh,Ho (T2 (T4 (Mo [1,25,26,27] d) c a8 a5 ay) bp ex) p,hf,ey,Ga⟩
 refine have a:=HG a ow; ?_
 obtain ⟨us,dc,de,rfl,ez,hi,hj⟩:=Dd ox
 obtain ⟨df,dg,rfl⟩:=AS ez
 refine .inr ⟨_,rfl,?_⟩
 refine have oy:=Bs (Y4 bo a8 a5 ay bp) ex;Eu<|Bx (vs:=[I z.plain.type_,Cx z.plain.num,.bool z.plain.bool,Sl df z.plain.list dg,dc,de]) (cs':=[I z.plain.type_,Cx z.plain.num,.bool z.plain.bool,Sl df z.plain.list dg,dc,de]) Jc rfl rfl rfl rfl (AZ rfl (AZ rfl (AZ rfl (AZ (FW ez) (AZ (MTh.one hi) (AZ (MTh.one hj) CR)))))) oy dcd rfl rfl fun ut oz b4=>AA<|AQ ?_
 obtain rfl:=AK a
 refine O1 B q rfl (.agg Jz rfl rfl (Bw oz))<|have o0:=Ss Kd.cpx ez b4;have o1:=Mt hi b4;have o2:=Mt hj b4;have o6:=Bs hf b4;have o7:=Ss AI ey b4;⟨he,Sl hg hd.2.1 hh,Ho (T3 (T4 (Mo [1,21,25,26,27] d) c a8 a5 ay) bp ex b4) p,o6,o7,FY ⟨[I z.plain.type_,Cx z.plain.num,.bool z.plain.bool,Sl df z.plain.list dg,dc,de],rfl,(Cq (x:=z) o0 o1 o2)⟩⟩
 refine Sr<|Vr (.bool (h.op==22))<|Va (.bool (h.op==22))<|AA<|Cn a (fun o8 a=>?_) fun o8 a=>?_
 refine Sr<|Vm<|Vx (Fd BS rfl)<|Vx (Ld Cf rfl (Bc aq rfl))<|Bi a fun am pa a=>have hk:=K2 AH bz d c; ?_
 obtain ⟨pb,pc,uu,pd,pe,pf,pg,ph,e0⟩:=A9 (κ:=AH) hk pa
 replace e0:Ax a6 bn pb (pc+(0:Int).toNat*7) pd:=e0
 obtain ⟨hm,hn,rfl,hl⟩:=E1 (Ae ph)
 refine Vx (Ix CG pe rfl pf pg)<|Vx (Lx A8 rfl rfl (Ax.part0 e0 [I am.op,Sb am.name,Sb am.tail,I am.type_,Cx am.num,Sl hm am.args hn,I am.at_] rfl))<|Vm<|have pi:=Y2 b7 d c;have pj:=K2 AI bw d c;have ho:=Ms (Ms b8 d) c;have e1:=Me (Me bx d) c;Bi a fun pk pl a=>Ib (.none rfl) rfl rfl (Cg [Pt ao 0,Ag [I am.op,Sb am.name,Sb am.tail,I am.type_,Cx am.num,Sl hm am.args hn,I am.at_],ap] rfl)<|Calls.mono (a3.mean_run_look a6 bn pl dcd dcd pi pj ho (AW (x:=am) hl) e1) ?_
 rintro _ uw ⟨hp,ux,be,hq,e2,pm⟩
 obtain ⟨pn,po,rfl⟩:=AS e2
 obtain ⟨uy,pp,rfl⟩| ⟨aa,pq,uz,rfl,u0,rfl,pr⟩:=Ew.split pm
 refine have a:=D7 a pp; .inl ⟨_,rfl,?_⟩
 obtain rfl:=AK a
 refine No (B:=B) q<|⟨hp,Sl pn pk.2.1 po,Ho (T2 (Mo [1] d) c be) p,hq,e2,Ga⟩
 refine have a:=HG a pq; ?_
 obtain ⟨u2,dh,di,rfl,hr,hs,ht⟩:=Dd pr
 obtain ⟨dj,dk,rfl⟩:=AS hr
 refine .inr ⟨_,rfl,?_⟩
 refine Ef<|AY hp 28 Kw rfl fun e3 u3 u4 ps az=>have hu:=Ss Kd.cpx hr az;Eu<|Bx (vs:=[I aa.plain.type_,Cx aa.plain.num,.bool aa.plain.bool,Sl dj aa.plain.list dk,dh,di]) (cs':=[I aa.plain.type_,Cx aa.plain.num,.bool aa.plain.bool,Sl dj aa.plain.list dk,dh,di]) Jc rfl rfl rfl rfl (AZ rfl (AZ rfl (AZ rfl (AZ (FW hu) (AZ (MTh.one hs) (AZ (MTh.one ht) CR)))))) ps dcd rfl rfl fun u5 pt a0=>AA<|AR<|BY DF (qs 0 8 (.q 9 (.one 8 (.q 10 (.one 11 (.one 12 (.one 13 .nil))))))) [13] [1,29] e3 (by kernel_rfl) fun hw aw=>Qx m rfl (v:=Pt ao 0) (fun _ _=>Mv rfl)<|Qx m rfl (fun _ _=>Fd BS rfl)<|have hx:=Y4 aq be az a0 aw;Qx m rfl (fun _ ⟨_,f⟩=>Ld Cf rfl (Bc (Bs hx f) rfl))<|Bi a fun an pu a=>have pv:=K4 AH hk be az a0 aw; ?_
 obtain ⟨pw,px,u6,py,pz,p0,p1,p2,e4⟩:=A9 (κ:=AH) pv pu
 replace e4:Ax e3 hw pw (px+(1:Int).toNat*7) py:=e4
 obtain ⟨hz,h0,rfl,hy⟩:=E1 (Ae p2)
 refine Qx m rfl (fun _ _=>Ix CG pz rfl p0 p1)<|Qx m rfl (fun _ ⟨_,f⟩=>Lx A8 rfl rfl (Ax.part0 (Es e4 f) [I an.op,Sb an.name,Sb an.tail,I an.type_,Cx an.num,Sl hz an.args h0,I an.at_] rfl))<|Qx m rfl (fun _ _=>Fd Di rfl)<|Qx m rfl (fun _ ⟨_,f⟩=>Ld CF rfl (Bc (Bs hx f) rfl))<|have p3:=Bs pt aw;Qx m rfl (fun _ ⟨_,f⟩=>Lx Jz rfl rfl (Bw (Bs p3 f)))<|Qx m rfl (v:=ap) (fun _ _=>Mv rfl)<|A2 rfl<|have p4:=K2 Kd.cpx hu a0 aw;have p5:=Mt (Mt (Mt hs az) a0) aw;have p6:=Mt (Mt (Mt ht az) a0) aw;Bi a fun u8 p7 a=>A3 rfl (.none rfl) rfl rfl (Cg [Ag [I aa.plain.type_,Cx aa.plain.num,.bool aa.plain.bool,Sl dj aa.plain.list dk,dh,di]] rfl)<|Calls.mono (L5 e3 hw p7 (Cq (x:=aa) p4 p5 p6)) ?_
 rintro _ va ⟨p8,h1,rfl,a1,h2⟩
 refine ⟨_,rfl,⟨_,(Mo [1,29] a1)⟩,?_⟩
 refine Qx m rfl (v:=Ag [Sb h.name,h1,ap]) (fun _ _=>B8 (cs:=[Sb h.name,h1,ap]) [Sb ([]:Bts),.nilFunc,.pointer none] Qh Qe rfl (.cons rfl rfl rfl (.cons rfl (Dj (MTh.one h2)) rfl (.cons rfl (Dj (GW.one e1)) rfl .nil))) rfl rfl)<|A2 rfl<|Bf rfl (.none rfl) rfl rfl<|A0 p8 29 rfl rfl fun vb p9 qa qb a2=>⟨⟨_,(Tn (Mo [1,29] a1) a2)⟩,?_⟩
 refine U3 rfl<|have qc:=Mt h2 a2;have qd:=Me (Me (Me (Me (Me (Me e1 be) az) a0) aw) a1) a2; ?_
 obtain ⟨qe,bf,qf⟩:=GW.lay qb dcd qc qd
 refine have qg:=Y2 (Y4 hq az a0 aw a1) a2 bf;have qh:=K2 AI (K4 AI e2 az a0 aw a1) a2 bf;have qi:=Ms (Ms (Ms (Ms (Ms (Ms (Ms ho be) az) a0) aw) a1) a2) bf;have qj:=K3 AH hy a1 a2 bf;Bi a fun h3 qk a=>Ud.callp rfl (.none rfl) rfl rfl (Cg [Pt ao 0,Ag [I an.op,Sb an.name,Sb an.tail,I an.type_,Cx an.num,Sl hz an.args h0,I an.at_],Pt qa 0] rfl)<|Calls.mono (a3.mean_run_look qe p9 qk dcd dcd qg qh qi (AW (x:=an) qj) qf) ?_
 rintro _ vc ⟨h4,vd,dl,h5,e5,ql⟩
 obtain ⟨h6,h7,rfl⟩:=AS e5
 obtain ⟨ve,qm,rfl⟩| ⟨ab,qn,vf,rfl,vg,rfl,qo⟩:=Ew.split ql
 refine have a:=D7 a qm; .inl ⟨_,rfl,?_⟩
 obtain rfl:=AK a
 refine No (B:=B) q<|⟨h4,Sl h6 h3.2.1 h7,Ho (Tn (T4 (T4 (Mo [1,28,29] d) c be az a0) aw a1 a2 bf) dl) p,h5,e5,Ga⟩
 refine have a:=HG a qn; ?_
 obtain ⟨vh,dm,dn,rfl,e6,h8,h9⟩:=Dd qo
 obtain ⟨dp,dq,rfl⟩:=AS e6
 refine .inr ⟨_,rfl,⟨_,(T3 (Mo [1,29] a1) a2 bf dl)⟩,?_⟩
 refine Er dcd<|WY.one<|have qp:=Y4 (Y4 bo be az a0 aw) a1 a2 bf dl;BN rfl (.none rfl) rfl<|Bx (vs:=[I ab.plain.type_,Cx ab.plain.num,.bool ab.plain.bool,Sl dp ab.plain.list dq,dm,dn]) (cs':=[I ab.plain.type_,Cx ab.plain.num,.bool ab.plain.bool,Sl dp ab.plain.list dq,dm,dn]) Jc rfl rfl rfl rfl (AZ rfl (AZ rfl (AZ rfl (AZ (FW e6) (AZ (MTh.one h8) (AZ (MTh.one h9) CR)))))) qp dcd rfl rfl fun vi qq b5=>WY.nil<|AQ ?_
 obtain rfl:=AK a
 refine O1 B q rfl (.agg Jz rfl rfl (Bw qq))<|have qr:=Ss Kd.cpx e6 b5;have qs:=Mt h8 b5;have qt:=Mt h9 b5;have qu:=Bs h5 b5;have qv:=Ss AI e5 b5;⟨h4,Sl h6 h3.2.1 h7,Ho (T2 (T4 (T4 (Mo [1,21,28,29] d) c be az a0) aw a1 a2 bf) dl b5) p,qu,qv,FY ⟨[I ab.plain.type_,Cx ab.plain.num,.bool ab.plain.bool,Sl dp ab.plain.list dq,dm,dn],rfl,(Cq (x:=ab) qr qs qt)⟩⟩
 refine WC.skip<|Sr<|Va (.slice none 0 0)<|AA<|AR<|Sr<|Vx (Fd BS rfl)<|Vx (Ld Cf rfl (Bc aq rfl))<|have ia:=K2 AH bz d c; ?_
 obtain ⟨vj,vk,qw⟩:=AS ia
 refine Vx (v:=I (h.args.length:Int)) (Ll CG qw)<|Vm<|AA<|Ah<|Bj (fun bg e7 bq=>∃ca br a9 dr ds bh ba cb cc cd cf,e7=Env.puts ca [(0,Pt ao 0),(2,ap),(4,Pt i3 0),(6,Pt fi 0),(10,Sl dr a9 ds),(127,Sl i0 h.args i1),(128,I (h.args.length:Int)),(129,I bh)]∧DU bv bm cl h cm bg a9 bh ba cd cf=some dw∧AU [1,30,32] a6 bn br bq∧Own Ao 38 br bq 32 (Sl dr a9 ds) a9∧Slc AI br.F bq (Sl cb ba cc) ba∧Bk br bq 1 ao [.map (some iw),Sl cb ba cc,I cd,I cf] 83) bm ?_ ?_
 refine have qx:=K2 AI bw d c;have qy:=Y2 b7 d c;⟨_,a6,([]:List AG),none,0,0,it,iy,iz,iu,iv,Pu,a,(AU.refl [1,30,32] _ _),Own.nil,qx,qy⟩
 rintro bg _ bq ⟨ca,br,a9,dr,ds,bh,ba,cb,cc,cd,cf,rfl,a,bb,ib,e8,e9⟩
 rcases bg with _|bg
 exact A7 a
 refine have a:BW bv bm cl h cm (DU bv bm cl h cm bg) a9 bh ba cd cf=some dw:=a; ?_
 obtain ⟨vl,ic⟩:∃s,s=DU bv bm cl h cm bg:=⟨_,rfl⟩
 rw [←ic,BW] at a
 refine Sr<|Vr (.bool (decide (bh< (h.args.length:Int))))<|AA<|AR<|Cn a (fun qz a=>?_) fun qz a=>?_
 refine WC.skip<|AR<|Ah<|Sr<|Bi a fun l q0 a=>have q1:=Ss AH ia bb; ?_
 obtain ⟨q2,q3,vm,q4,q5,q6,q7,q8,fa⟩:=A9 (κ:=AH) q1 q0
 replace fa:Ax br bq q2 (q3+bh.toNat*7) q4:=fa
 obtain ⟨fb,fc,rfl,id⟩:=E1 (Ae q8)
 refine Vx (Ix CG q5 rfl q6 q7)<|Vx (Lx A8 rfl rfl (Ax.part0 fa [I l.op,Sb l.name,Sb l.tail,I l.type_,Cx l.num,Sl fb l.args fc,I l.at_] rfl))<|Ef<|AY br 30 De rfl fun q9 vo vp ra bi=>have rb:=Ss AH id bi;Eu<|St Dz ra rfl rfl rfl rfl fun rc rd bj=>AA<|AL<|Vm<|Vm<|Vx (Lx A8 rfl rfl (Bw rd))<|Vm<|have re:=Y2 e9 bi bj;have rf:=K2 AI e8 bi bj;have rg:=Ms (Ms (Ms (Ms (Ms b8 d) c) bb) bi) bj;have rh:=Ss AH rb bj;have ri:=Me (Me (Me (Me (Me bx d) c) bb) bi) bj;Bi a fun dt rj a=>Ib (.none rfl) rfl rfl (Cg [Pt ao 0,Ag [I l.op,Sb l.name,Sb l.tail,I l.type_,Cx l.num,Sl fb l.args fc,I l.at_],ap] rfl)<|Calls.mono (a3.mean_run_look q9 rc rj dcd dcd re rf rg (AW (x:=l) rh) ri) ?_
 rintro _ vq ⟨ie,vr,fd,ig,fe,rk⟩
 obtain ⟨ih,ii,rfl⟩:=AS fe
 obtain ⟨vt,rl,rfl⟩| ⟨e,rm,vu,rfl,vv,rfl,rn⟩:=Ew.split rk
 refine have a:=D7 a rl; .inl ⟨_,rfl,?_⟩
 obtain rfl:=AK a
 refine No (B:=B) q<|⟨ie,Sl ih dt.2.1 ii,Ho (Tn (T4 (Mo [1,30,32] d) c bb bi bj) fd) p,ig,fe,Ga⟩
 refine have a:=HG a rm; ?_
 obtain ⟨vw,ro,rp,rfl,ij,vx,vy⟩:=Dd rn
 obtain ⟨cg,ch,rfl⟩:=AS ij
 refine .inr ⟨_,rfl,?_⟩
 refine Vx (v:=Ag [I e.plain.type_,Cx e.plain.num,.bool e.plain.bool,Sl cg e.plain.list ch]) (Pi (cs:=[I e.plain.type_,Cx e.plain.num,.bool e.plain.bool,Sl cg e.plain.list ch,ro,rp]) SV rfl)<|Ef<|Ct (cs:=[I e.plain.type_,Cx e.plain.num,.bool e.plain.bool,Sl cg e.plain.list ch]) ie 31 [[I e.plain.type_,Cx e.plain.num,.bool e.plain.bool,Sl cg e.plain.list ch]] Iy Cs rfl rfl (.cons rfl rfl rfl .nil) rfl fun rq rr rs rt ci=>have ru:=Ss Kd.cpx ij ci;have rx:Own Ao 38 rq rr 31 (.slice (some ⟨rs,0,none⟩) 1 1) ([(AG.mk e.plain.type_ e.plain.num e.plain.bool e.plain.list)]:List AG):=Own.lit (css:=[[I e.plain.type_,Cx e.plain.num,.bool e.plain.bool,Sl cg e.plain.list ch]]) rt rfl rfl rfl (Aa (Al (x:=(AG.mk e.plain.type_ e.plain.num e.plain.bool e.plain.list)) ru) BB) (A4 rfl EI) rfl;have ry:=Os (Os (Os (Os ib bi) bj) fd) ci;Bi a fun vz ik a=>Ef<|By (κ:=Ao) rfl rfl ry dcd W4 (CQ rx) (E3 ik) (FX ik) fun v1 rz v2 il ff=>?_
 obtain ⟨im,io,rfl⟩:=Own.len il
 refine Va (Sl im ((a9++([(AG.mk e.plain.type_ e.plain.num e.plain.bool e.plain.list)]:List AG))) io)<|AA<|AL<|Vr (I (Wr (bh+1)))<|Vm<|AA<|have r0:=K2 AI fe ci ff;have r1:=Y2 ig ci ff;⟨bg,Nat.lt_succ_self bg,_,rz,(a9++([(AG.mk e.plain.type_ e.plain.num e.plain.bool e.plain.list)]:List AG)),im,io,(Wr (bh+1)),dt.2.1,ih,ii,dt.2.2.1,dt.2.2.2,Pu,(ic▸a),(Tn (T4 (Mo [1,30,32] bb) bi bj fd ci) ff),il,r0,r1⟩
 refine Bd<|Sr<|Vx (Fz Cy rfl)<|have r2:=Bs aq bb;Vx (Ld GT rfl (Bc r2 rfl))<|Vm ?_
 obtain ⟨r3,bt,r4⟩:=Own.freeze (S:=[32]) ib dcd dcd
 refine Bi a fun g r5 a=>Ca (Cg [I h.op,Sl dr a9 ds] rfl) (UJ bm r3 bq r5 r4) ?_
 rintro _ v3 ⟨r6,v4,rfl,bu,r7⟩
 obtain ⟨cj,ck,rfl,ip⟩:=E1 (Az r7)
 refine Vm<|Vr (Ag [I g.1.type_,Cx g.1.num,.bool g.1.bool,Sl cj g.1.list ck])<|Vr (I g.2)<|Ef<|AY r6 33 Cs rfl fun fg v6 r8 r9 bk=>have sa:=Ss Kd.cpx ip bk;Eu<|St DJ r9 rfl rfl rfl rfl fun sb sc bl=>Va (I g.2)<|AA<|Am (fun e7 iq=>∃ca fh,e7=Env.puts ca [(6,Pt fi 0),(13,Pt r8 0)]∧Lv ba cd cf g=some dw∧AU [] fg sb fh iq) ?_ ?_
 refine Sr<|Vm<|Vr (.bool (g.2 != 0))<|AA<|Cn a (fun sd a=>?_) fun sd a=>?_
 refine AL<|Vm<|Vr (.iface 33 (I g.2))<|SR (.none rfl) (QX rfl)<|have se:=Y4 e9 bt bu bk bl;have sf:=K4 AI e8 bt bu bk bl; ?_
 obtain rfl:=AK a
 refine No (B:=B) q<|⟨fg,Sl cb ba cc,Ho (T2 (T4 (Mo [1,30,32,33] d) c bb bt bu) bk bl) p,se,sf,Ga⟩
 refine WC.skip<|⟨_,fg,Pu,a,Rf⟩
 rintro _ iq ⟨ca,fh,rfl,a,b6⟩
 rw [Lv] at a
 refine Sr<|have sg:=Bs sc b6;Vx (Lx Bz rfl rfl (Bw sg))<|Vx (v:=Ag [I g.1.type_,Cx g.1.num,.bool g.1.bool,Sl cj g.1.list ck,.nilFunc,.nilFunc]) (Bp Kw NL rfl (.cons rfl rfl rfl .nil))<|have sh:=Y2 (Y4 bo bb bt bu bk) bl b6;have si:=K2 Kd.cpx sa bl b6;Eu<|St Jc sh rfl rfl rfl rfl fun v7 sj du=>AA<|AQ ?_
 obtain rfl:=AK a
 refine O1 B q rfl (.agg Jz rfl rfl (Bw sj))<|have sk:=Ss Kd.cpx si du;have sl:=Y2 (Y4 e9 bt bu bk bl) b6 du;have sm:=K2 AI (K4 AI e8 bt bu bk bl) b6 du;⟨fh,Sl cb ba cc,Ho (T4 (T4 (Mo [1,21,30,32,33] d) c bb bt bu) bk bl b6 du) p,sl,sm,FY ⟨[I g.1.type_,Cx g.1.num,.bool g.1.bool,Sl cj g.1.list ck,.nilFunc,.nilFunc],rfl,(Cq (x:=(Aw.mk g.1 Th.nil Th.nil)) sk MTh.nil MTh.nil)⟩⟩
theorem Pv(d:Ac)(f:Nat)(m:Ac.Good d):mean_run_parts.Spec (A6 d f):=by
 intro e g a c ac ad ae af ag ah ai aj ak al am an n hnd hnz l o p q s
 refine Calls.mono (Ps d f m (recol (see [a,c]) e) g (Fo lbr e) n trivial trivial (BU l [a,c] (BP hnd hnz (i:=0) rfl)) (El AI o [a,c]) (Fp p [a,c] (BP hnd hnz (i:=1) rfl)) (BZ AH q [a,c]) (GW.recol s [a,c])) ?_
 rintro ao ap ⟨w,y,z,aa,ab,en⟩
 exact ⟨glue [a,c] g e w,y,CI z (F0 rfl rfl),EA l aa dcd,HE AI ab,PJ en fun r v ⟨u,hv,h⟩=>⟨u,hv,D4 HI h⟩⟩
theorem Ac.good:∀d,Ac.Good (Ac.at d)
 |0=>⟨by intro a c;intros;(try intro _);intros;exact A7 (by assumption),by intro a c;intros;(try intro _);intros;exact A7 (by assumption),by intro a c;intros;(try intro _);intros;exact A7 (by assumption),by intro a c;intros;(try intro _);intros;exact A7 (by assumption)⟩
 |n+1=>⟨QJ _ n (Ac.good n),Qs _ n (Ac.good n),Rk _ n (Ac.good n),Pv _ n (Ac.good n)⟩
theorem Qt(a:Nat):mean_run_look.Spec (mean_run_look a):=(Ac.good a).mean_run_look
theorem O6(a:Nat):mean_callth.Spec (mean_callth a):=(Ac.good a).mean_callth
def EM.At(G1 G2:Prop)(c:Col)(a:World)(f:(List AO)→Int→Int→Aq→Aw→Option ((Except Int AG)×(List AO)×Int×Int))(h aa:Nat):Prop:=
 ∀{l n o p q m s w y d},f n p q s w=some d→G1→G2→Bk c a h l [.map (some m),o,I p,I q] 83→Slc AI c.F a o n→Mp c a aa m s→HI.rep c.F a y w→
  Calls PG 34 #[Pt l 0,Ag y] a fun ab e=>∃g z,AU [h] c a g e∧Bk g e h l [.map (some m),z,I d.2.2.1,I d.2.2.2] 83∧Slc AI g.F e z d.2.1∧Ew 33 d.1 ab (fun r v=>∃u:List Value,v=Ag u∧Ao.rep g.F e u r)
def EM.Spec(f:(List AO)→Int→Int→Aq→Aw→Option ((Except Int AG)×(List AO)×Int×Int)):Prop:=
 ∀d e {a c},EM.At ([a,c].Nodup) (0∉[a,c]) d e f a c
end Fth
