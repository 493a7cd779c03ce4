/- Part 5 of the proof: what it says holds of the given program; no condition. -/
import Derived.Test.YtiodboehkcmdnaaGreatProg
import Derived.KernelRfl
import Derived.Test.YtiodboehkcmdnaaGreatGD
set_option linter.all false
set_option exponentiation.threshold 3000
namespace Fth
open Go Go.Proofs Sh
set_option maxRecDepth 100000
set_option maxHeartbeats 8000000
theorem OO(a9:AG)(ba:Nat)(au:AG.Good a9)(y:Col)(ad:World)(z:∀b,y b<10){q:Nat}{n:(List AE)}{bt:Value}{g:(List AK)}{bu:Value}{bb:Nat}{bc:Ao}{a3:Nat}{f:AF}{bv:List Value}{e:AB}{bw:List Value}{ae:Int×(List AE)×(List AK)×AF}(ai:Bk y ad 1 q [.map (some bb),bt,bu,.func (.func 52) #[] [Pt a3 0].toArray] 134)(aa:Slc AI y.F ad bt n)(af:Own Aa 87 y ad 4 bu g)(a4:Mp y ad 2 bb bc)(ag:Bk y ad 3 a3 bv 63)(c0:Am.rep y.F ad bv f)(c1:AJ.rep y.F ad bw e)(a:Gv a9 ba n g bc f e=some ae):
  Calls PG 87 #[Pt q 0,Ag bw] ad fun c2 ap=>∃aq bx bz b0,c2=.returned (I ae.1)∧AS [1,3,4] y ad aq ap∧Bk aq ap 1 q [.map (some bb),bx,bz,.func (.func 52) #[] [Pt a3 0].toArray] 134∧Slc AI aq.F ap bx ae.2.1∧Own Aa 87 aq ap 4 bz ae.2.2.1∧Bk aq ap 3 a3 b0 63∧Am.rep aq.F ap b0 ae.2.2.2:=by
 rw [Gv] at a
 obtain ⟨av,aw,rfl⟩:=AR aa
 obtain ⟨ax,ay,rfl⟩:=Own.len af
 obtain rfl:=Aq c0
 obtain ⟨a5,a6,rfl,az⟩:=E1 (Ai c1)
 refine Ay Tryz.func87 rfl Tryz.ntmps87 rfl fun B ab r=>Sr<|Ef<|BX y 20 rfl rfl fun bd c3 b1 an d=>Va (I 0)<|AA<|AY<|Sr<|Vx (Fz DW rfl)<|Vx (Ld Hr rfl (Bc an rfl))<|AA<|Ad<|An (fun a0 aj=>∃ak o be,a0=Env.puts ak [(0,Pt q 0),(3,Pt b1 0),(7,I e.op),(8,.bool be)]∧Ew a9 ba n g bc f e be=some ae∧AS [] bd c3 o aj) ?_ ?_
 refine Sr<|Vr (.bool (e.op==2))<|Va (.bool (e.op==2))<|AA<|Cn a (fun c4 a=>?_) fun c4 a=>?_
 refine WC.skip<|⟨_,bd,(e.op==2),Pu,a,Rf⟩
 refine AM<|Vr (.bool (e.op==3))<|Va (.bool (e.op==3))<|AA<|⟨_,bd,(e.op==3),Pu,a,Rf⟩
 rintro _ aj ⟨ak,o,be,rfl,a,c⟩
 rw [Ew] at a
 refine Cn a (fun c5 a=>?_) fun c5 a=>?_
 refine Sr<|Va (I 2)<|AA<|AW ?_
 obtain rfl:=AN a
 refine O1 B ab rfl (.tmp rfl)<|have c6:=Y2 ai d c;have c7:=K2 AI aa d c;have c8:=Os (Os af d) c;have c9:=Y2 ag d c;⟨o,Sl av n aw,Sl ax g ay,[I f.why,I f.at_],rfl,Ho (Tn (Mo [] d) c) z,c6,c7,c8,c9,(Ah (x:=f))⟩
 refine Sr<|Vr (.bool (e.op==4))<|Va (.bool (e.op==4))<|AA<|Cn a (fun da a=>?_) fun da a=>?_
 refine Sr<|Va (I 3)<|AA<|AW ?_
 obtain rfl:=AN a
 refine O1 B ab rfl (.tmp rfl)<|have db:=Y2 ai d c;have dc:=K2 AI aa d c;have de:=Os (Os af d) c;have df:=Y2 ag d c;⟨o,Sl av n aw,Sl ax g ay,[I f.why,I f.at_],rfl,Ho (Tn (Mo [] d) c) z,db,dc,de,df,(Ah (x:=f))⟩
 refine Sr<|Vr (.bool (e.op==5))<|Va (.bool (e.op==5))<|AA<|Cn a (fun dg a=>?_) fun dg a=>?_
 refine Sr<|Vx (Fd K0 rfl)<|have dh:=Bs an c;Vx (Ld EB rfl (Bc dh rfl))<|Va (I e.type_)<|AA<|AW ?_
 obtain rfl:=AN a
 refine O1 B ab rfl (.tmp rfl)<|have di:=Y2 ai d c;have dj:=K2 AI aa d c;have dk:=Os (Os af d) c;have dl:=Y2 ag d c;⟨o,Sl av n aw,Sl ax g ay,[I f.why,I f.at_],rfl,Ho (Tn (Mo [] d) c) z,di,dj,dk,dl,(Ah (x:=f))⟩
 refine Sr<|Vr (.bool (e.op==6))<|Va (.bool (e.op==6))<|AA<|Cn a (fun dm a=>?_) fun dm a=>?_
 refine AY<|Sr<|Vm<|Vx (Nc rfl)<|Vx (Fd FS rfl)<|have bf:=Y2 ai d c;Vx (Ld E0 rfl (Bc bf rfl))<|have bg:=Os (Os af d) c; ?_
 obtain ⟨g1,g2,dn⟩:=Own.len bg
 refine Vx (v:=I (g.length:Int)) (Ll ED dn)<|Vr (I (Wr ((g.length:Int) - 1)))<|Va (I (Wr ((g.length:Int) - 1)))<|AA<|Ad<|Bj (fun al a0 b2=>∃ak am u,a0=Env.puts ak [(0,Pt q 0),(3,Pt b1 0),(5,I u)]∧Et n g f e al u=some ae∧AS [] o aj am b2) ba ?_ ?_
 exact ⟨_,o,(Wr ((g.length:Int) - 1)),Pu,a,Rf⟩
 rintro al _ b2 ⟨ak,am,u,rfl,a,p⟩
 rcases al with _|al
 exact A6 a
 refine have a:HA n g f e (Et n g f e al) u=some ae:=a; ?_
 obtain ⟨g3,b3⟩:∃s,s=Et n g f e al:=⟨_,rfl⟩
 rw [←b3,HA] at a
 refine AY<|Sr<|Vm<|Vr (.bool (decide (u≥0)))<|AA<|Cn a (fun dp a=>?_) fun dp a=>?_
 refine WC.skip<|AY<|Ad<|AY<|B8 Eg (qs 0 11 .nil) [] [] am (by kernel_rfl) fun b4 ao=>Qx r rfl (v:=Pt q 0) (fun _ _=>Mv rfl)<|Qx r rfl (fun _ _=>Nc rfl)<|Qx r rfl (fun _ _=>Fd FS rfl)<|have bh:=Y2 bf p ao;Qx r rfl (fun _ ⟨_,m⟩=>Ld E0 rfl (Bc (Bs bh m) rfl))<|Qx r rfl (v:=I u) (fun _ _=>Mv rfl)<|Bi a fun dq dr a=>have bi:=Os (Os bg p) ao; ?_
 obtain ⟨ds,g4,dt,du,dv,dw,dx,bj⟩:=WW (κ:=Aa) bi dr
 replace bj:Pe 4 am b4 ds (0+u.toNat*3) dt:=bj
 obtain rfl:=Fv dx
 refine Qx r rfl (fun _ _=>Ix ED du rfl dv dw)<|Qx r rfl (fun _ _=>Fz MA rfl)<|Qx r rfl (fun _ ⟨_,m⟩=>Ld CS rfl (Pe.cell0 (Pe.step bj m dcd) rfl))<|Qx r rfl (fun _ _=>Fd EV rfl)<|have dy:=Y3 an c p ao;Qx r rfl (fun _ ⟨_,m⟩=>Ld CS rfl (Bc (Bs dy m) rfl))<|Qx r rfl (v:=.bool (dq.name==e.name)) (fun _ _=>Run.strEq rfl rfl)<|Dt<|Cn a (fun dz a=>?_) fun dz a=>?_
 refine Sr<|Vm<|Vx (Nc rfl)<|Vx (Fd FS rfl)<|Vx (Ld E0 rfl (Bc bh rfl))<|Vm<|Bi a fun d0 d1 a=>?_
 obtain ⟨d2,g5,d3,d4,d5,d6,d7,bk⟩:=WW (κ:=Aa) bi d1
 replace bk:Pe 4 am b4 d2 (0+u.toNat*3) d3:=bk
 obtain rfl:=Fv d7
 refine Vx (Ix ED d4 rfl d5 d6)<|Vx (Fd NT rfl)<|Vx (Ld EB rfl (Pe.cell (j:=1) bk rfl))<|Va (I d0.type_)<|AA<|AW ?_
 obtain rfl:=AN a
 refine O1 B ab rfl (.tmp rfl)<|have d8:=K4 AI aa d c p ao;have d9:=Y4 ag d c p ao;⟨am,Sl av n aw,Sl ax g ay,[I f.why,I f.at_],rfl,Ho (T3 (Mo [] d) c p ao) z,bh,d8,bi,d9,(Ah (x:=f))⟩
 refine WC.skip<|AM<|Vm<|Vr (I (Wr (u - 1)))<|Va (I (Wr (u - 1)))<|AA<|⟨al,Nat.lt_succ_self al,_,am,(Wr (u - 1)),Pu,(b3▸a),(Tn (Mo [] p) ao)⟩
 refine BZ<|Sr<|Va (I 0)<|AA<|AW ?_
 obtain rfl:=AN a
 refine O1 B ab rfl (.tmp rfl)<|have ea:=Bs bf p;have eb:=K3 AI aa d c p;have ec:=Os bg p;have ed:=Y3 ag d c p;⟨am,Sl av n aw,Sl ax g ay,[I f.why,I f.at_],rfl,Ho (T2 (Mo [] d) c p) z,ea,eb,ec,ed,(Ah (x:=f))⟩
 refine Sr<|Vr (.bool (e.op==7))<|Va (.bool (e.op==7))<|AA<|Cn a (fun ee a=>?_) fun ee a=>?_
 refine Sr<|Vm<|have ef:=Bs an c;Vx (Lx BA rfl rfl (Bw ef))<|have eg:=Y2 ai d c;have eh:=K2 AI aa d c;have ei:=Os (Os af d) c;have ej:=Ms (Ms a4 d) c;have ek:=Y2 ag d c;have el:=K2 AJ az d c;Bi a fun ar em a=>Ca (Cg [Pt q 0,Ag [I e.op,Sb e.name,Sb e.tail,I e.type_,Cx e.num,Sl a5 e.args a6,I e.at_]] rfl) (au.types_checker_call o aj (ko0_2:=4) em dcd dcd eg eh ei ej ek (Ah (x:=f)) (Ab (x:=e) el)) ?_
 rintro _ g6 ⟨en,g7,g8,g9,rfl,eo,ep,b5,b6,eq,er⟩
 obtain ⟨es,et,rfl⟩:=AR b5
 obtain ⟨eu,ew,rfl⟩:=Own.len b6
 obtain rfl:=Aq er
 refine Va (I ar.1)<|AA<|AW ?_
 obtain rfl:=AN a
 refine O1 B ab rfl (.tmp rfl)<|⟨en,Sl es ar.2.1 et,Sl eu ar.2.2.1 ew,[I ar.2.2.2.why,I ar.2.2.2.at_],rfl,Ho (T2 (Mo [1,3,4] d) c eo) z,ep,b5,b6,eq,(Ah (x:=ar.2.2.2))⟩
 refine Sr<|Vr (.bool (e.op==14))<|Va (.bool (e.op==14))<|AA<|Cn a (fun ex a=>?_) fun ex a=>?_
 refine Sr<|Vm<|Vx (Fd Bh rfl)<|have ey:=Bs an c;Vx (Ld EC rfl (Bc ey rfl))<|have ez:=Y2 ai d c;have e0:=K2 AI aa d c;have e1:=Os (Os af d) c;have e2:=Ms (Ms a4 d) c;have e3:=Y2 ag d c;have e4:=K2 AJ az d c;Bi a fun a1 e5 a=>Ca (Cg [Pt q 0,I 2,Sl a5 e.args a6] rfl) (au.types_checker_all o aj (ko0_2:=4) e5 dcd dcd ez e0 e1 e2 e3 (Ah (x:=f)) e4) ?_
 rintro _ ha ⟨e6,hb,hc,hd,rfl,e7,e8,b7,b8,e9,fa⟩
 obtain ⟨fb,fc,rfl⟩:=AR b7
 obtain ⟨fd,fe,rfl⟩:=Own.len b8
 obtain rfl:=Aq fa
 refine AA<|Sr<|Va (I 2)<|AA<|AW ?_
 obtain rfl:=AN a
 refine O1 B ab rfl (.tmp rfl)<|⟨e6,Sl fb a1.1 fc,Sl fd a1.2.1 fe,[I a1.2.2.why,I a1.2.2.at_],rfl,Ho (T2 (Mo [1,3,4] d) c e7) z,e8,b7,b8,e9,(Ah (x:=a1.2.2))⟩
 refine Sr<|Vr (.bool (e.op==18))<|Va (.bool (e.op==18))<|AA<|Cn a (fun ff a=>?_) fun ff a=>?_
 refine Sr<|Vm<|Vx (Fd Bh rfl)<|have b9:=Bs an c;Vx (Ld EC rfl (Bc b9 rfl))<|Bi a fun h fg a=>have ca:=K2 AJ az d c; ?_
 obtain ⟨fh,fi,he,fj,fk,fl,fm,fn,bl⟩:=BG (κ:=AJ) ca fg
 replace bl:A3 o aj fh (fi+(0:Int).toNat*7) fj:=bl
 obtain ⟨cc,cd,rfl,cb⟩:=E1 (Ai fn)
 refine Vx (Ix C9 fk rfl fl fm)<|Vx (Lx BA rfl rfl (A3.part0 bl [I h.op,Sb h.name,Sb h.tail,I h.type_,Cx h.num,Sl cc h.args cd,I h.at_] rfl))<|have fo:=Y2 ai d c;have fp:=K2 AI aa d c;have fq:=Os (Os af d) c;have cf:=Ms (Ms a4 d) c;have fr:=Y2 ag d c;Bi a fun fs ft a=>Ca (Cg [Pt q 0,Ag [I h.op,Sb h.name,Sb h.tail,I h.type_,Cx h.num,Sl cc h.args cd,I h.at_],I 1] rfl) (au.types_checker_want o aj (ko0_2:=4) ft dcd dcd fo fp fq cf fr (Ah (x:=f)) (Ab (x:=h) cb)) ?_
 rintro _ cg ⟨ch,hg,hh,hi,rfl,a7,fu,ci,cj,fv,fw⟩
 obtain ⟨hj,hk,rfl⟩:=AR ci
 obtain ⟨hl,hm,rfl⟩:=Own.len cj
 obtain rfl:=Aq fw
 refine AA<|Sr<|Vm<|Vx (Fd Bh rfl)<|have fx:=Bs b9 a7;Vx (Ld EC rfl (Bc fx rfl))<|Bi a fun l fy a=>have fz:=Ss AJ ca a7; ?_
 obtain ⟨f0,f1,hn,f2,f3,f4,f5,f6,bm⟩:=BG (κ:=AJ) fz fy
 replace bm:A3 ch cg f0 (f1+(1:Int).toNat*7) f2:=bm
 obtain ⟨cl,cm,rfl,ck⟩:=E1 (Ai f6)
 refine Vx (Ix C9 f3 rfl f4 f5)<|Vx (Lx BA rfl rfl (A3.part0 bm [I l.op,Sb l.name,Sb l.tail,I l.type_,Cx l.num,Sl cl l.args cm,I l.at_] rfl))<|have f7:=Ms cf a7;Bi a fun a2 f8 a=>Ca (Cg [Pt q 0,Ag [I l.op,Sb l.name,Sb l.tail,I l.type_,Cx l.num,Sl cl l.args cm,I l.at_],I 3] rfl) (au.types_checker_want ch cg (ko0_2:=4) f8 dcd dcd fu ci cj f7 fv (Ah (x:=fs.2.2)) (Ab (x:=l) ck)) ?_
 rintro _ hp ⟨f9,hq,hr,hs,rfl,ga,gb,cn,co,gc,gd⟩
 obtain ⟨ge,gf,rfl⟩:=AR cn
 obtain ⟨gg,gh,rfl⟩:=Own.len co
 obtain rfl:=Aq gd
 refine AA<|Sr<|Va (I 3)<|AA<|AW ?_
 obtain rfl:=AN a
 refine O1 B ab rfl (.tmp rfl)<|⟨f9,Sl ge a2.1 gf,Sl gg a2.2.1 gh,[I a2.2.2.why,I a2.2.2.at_],rfl,Ho (T3 (Mo [1,3,4] d) c a7 ga) z,gb,cn,co,gc,(Ah (x:=a2.2.2))⟩
 refine WC.skip<|Sr<|Vm<|Vx (Fd Bh rfl)<|have cq:=Bs an c;Vx (Ld EC rfl (Bc cq rfl))<|have gi:=Y2 ai d c;have gj:=K2 AI aa d c;have gk:=Os (Os af d) c;have gl:=Ms (Ms a4 d) c;have gm:=Y2 ag d c;have gn:=K2 AJ az d c;Bi a fun w go a=>Ca (Cg [Pt q 0,I 1,Sl a5 e.args a6] rfl) (au.types_checker_all o aj (ko0_2:=4) go dcd dcd gi gj gk gl gm (Ah (x:=f)) gn) ?_
 rintro _ gp ⟨bn,ht,hu,hw,rfl,bo,cr,bp,bq,ct,gq⟩
 obtain ⟨cu,cv,rfl⟩:=AR bp
 obtain ⟨cw,cx,rfl⟩:=Own.len bq
 obtain rfl:=Aq gq
 refine AA<|AY<|An (fun a0 cy=>∃ak a8 br,a0=Env.puts ak [(84,.bool br)]∧Hg w br=some ae∧AS [] bn gp a8 cy) ?_ ?_
 refine AM<|Vx (Fz DW rfl)<|have cz:=Bs cq bo;Vx (Ld Hr rfl (Bc cz rfl))<|Vr (.bool (e.op==12))<|Vm<|Bo a (fun ah a=>?_) fun ah a=>?_
 refine Pg ah<|Pg ah<|Pg ah<|Vp ah<|AA<|⟨_,bn,true,Pu,a,Rf⟩
 refine Gx ah (Fz DW rfl)<|Gx ah (Ld Hr rfl (Bc cz rfl))<|Gr ah (.bool (e.op==13))<|Vp ah<|AA<|⟨_,bn,(e.op==13),Pu,a,Rf⟩
 rintro _ cy ⟨ak,a8,br,rfl,a,ac⟩
 rw [Hg] at a
 refine Cn a (fun gr a=>?_) fun gr a=>?_
 refine Sr<|Va (I 2)<|AA<|AW ?_
 obtain rfl:=AN a
 refine O1 B ab rfl (.tmp rfl)<|have gs:=Bs cr ac;have gt:=Ss AI bp ac;have gu:=Os bq ac;have gv:=Bs ct ac;⟨a8,Sl cu w.1 cv,Sl cw w.2.1 cx,[I w.2.2.why,I w.2.2.at_],rfl,Ho (T3 (Mo [1,3,4] d) c bo ac) z,gs,gt,gu,gv,(Ah (x:=w.2.2))⟩
 refine WC.skip<|Sr<|Va (I 1)<|AA<|AW ?_
 obtain rfl:=AN a
 refine O1 B ab rfl (.tmp rfl)<|have gw:=Bs cr ac;have gx:=Ss AI bp ac;have gy:=Os bq ac;have gz:=Bs ct ac;⟨a8,Sl cu w.1 cv,Sl cw w.2.1 cx,[I w.2.2.why,I w.2.2.at_],rfl,Ho (T3 (Mo [1,3,4] d) c bo ac) z,gw,gx,gy,gz,(Ah (x:=w.2.2))⟩
theorem OP(e:AG)(g:Nat)(o:AG.Good e):types_checker_own.Spec (Gv e g):=by
 intro f h ai a aj ak al am ko0_2 an c ao ap d aq ar au av aw p hnd hnz l q r s m u w
 refine Calls.mono (OO e g o (recol (see [a,c,d,ko0_2]) f) h (Hw lbr f) (BV l [a,c,d,ko0_2] (BJ hnd hnz (i:=0) rfl)) (EW AI q [a,c,d,ko0_2]) (IR r [a,c,d,ko0_2] (BJ hnd hnz (i:=3) rfl)) (Fh s [a,c,d,ko0_2] (BJ hnd hnz (i:=1) rfl)) (BV m [a,c,d,ko0_2] (BJ hnd hnz (i:=2) rfl)) (Bl Am u [a,c,d,ko0_2]) (Bl AJ w [a,c,d,ko0_2]) p) ?_
 rintro ax ay ⟨y,z,aa,ab,ac,n,ad,ae,af,ag,ah⟩
 exact ⟨glue [a,c,d,ko0_2] h f y,z,aa,ab,ac,DI n (Hu rfl rfl),Ei l ad dcd,G8 AI ae,KK (j:=3) af rfl rfl n,Ei m ag dcd,FW Am ah⟩
theorem NB(y:AG)(az:Nat)(a0:AG.Good y)(a:Col)(d:World)(a1:∀b,a b<10){z o:Nat}{aa:(List AE)}{ab:Value}{ac:(List AK)}{ad:Value}{r:Nat}{ae:Ao}{p:Nat}{s:AF}{af:List Value}{ag:Nat}{ah:AB}{ai:List Value}{aj:Nat}{u:Int}{q:(List AE)×(List AK)×AF}(a2:Bk a d 1 z [Pt o 0] 130)(a3:Bk a d 2 o [.map (some r),ab,ad,.func (.func 52) #[] [Pt p 0].toArray] 134)(ak:Slc AI a.F d ab aa)(al:Own Aa 87 a d 7 ad ac)(a4:Mp a d 3 r ae)(a5:Bk a d 4 p af 63)(a6:Am.rep a.F d af s)(a7:Bk a d 5 ag ai 56)(a8:AJ.rep a.F d ai ah)(a9:Bk a d 6 aj [I u] 34)(g:FJ y az aa ac ae s ah u=some q):
  Calls PG 84 #[Pt z 0,Pt ag 0,Pt aj 0] d fun ba h=>∃l am an ao,ba=.returned (.tuple #[])∧AS [2,4,7] a d l h∧Bk l h 2 o [.map (some r),am,an,.func (.func 52) #[] [Pt p 0].toArray] 134∧Slc AI l.F h am q.1∧Own Aa 87 l h 7 an q.2.1∧Bk l h 4 p ao 63∧Am.rep l.F h ao q.2.2:=by
 rw [FJ] at g
 obtain ⟨b4,b5,rfl⟩:=AR ak
 obtain ⟨b6,b7,rfl⟩:=Own.len al
 obtain rfl:=Aq a6
 obtain ⟨b9,ca,rfl,ap⟩:=E1 (Ai a8)
 refine Ay Tryz.func84 rfl Tryz.ntmps84 rfl fun B bb m=>B8 Eg (qs 0 6 (.one 6 .nil)) [] [2,4,7] a (by kernel_rfl) fun aq e=>have bc:=Bs a2 e;Qx m rfl (fun _ ⟨_,f⟩=>Ld KJ rfl (Bc (Bs bc f) rfl))<|Qx m rfl (fun _ _=>Fd Bh rfl)<|have bd:=Bs a7 e;Qx m rfl (fun _ ⟨_,f⟩=>Ld EC rfl (Bc (Bs bd f) rfl))<|Bi g fun c be g=>have bf:=Ss AJ ap e; ?_
 obtain ⟨bg,bh,cb,bi,bj,bk,bl,bm,w⟩:=BG (κ:=AJ) bf be
 replace w:A3 a aq bg (bh+(2:Int).toNat*7) bi:=w
 obtain ⟨au,av,rfl,ar⟩:=E1 (Ai bm)
 refine Qx m rfl (fun _ _=>Ix C9 bj rfl bk bl)<|Qx m rfl (fun _ ⟨_,f⟩=>Lx BA rfl rfl (A3.part0 (Es w f) [I c.op,Sb c.name,Sb c.tail,I c.type_,Cx c.num,Sl au c.args av,I c.at_] rfl))<|have bn:=Bs a9 e;Qx m rfl (fun _ ⟨_,f⟩=>Ld EB rfl (Bc (Bs bn f) rfl))<|A5 rfl<|have bo:=Bs a3 e;have bp:=Ss AI ak e;have bq:=Os al e;have br:=Ms a4 e;have bt:=Bs a5 e;Bi g fun n bu g=>BM rfl (.none rfl) rfl rfl (Cg [Pt o 0,Ag [I c.op,Sb c.name,Sb c.tail,I c.type_,Cx c.num,Sl au c.args av,I c.at_],I u] rfl)<|Calls.mono (a0.types_checker_want a aq (ko0_2:=7) bu dcd dcd bo bp bq br bt (Ah (x:=s)) (Ab (x:=c) ar)) ?_
 rintro _ cd ⟨bv,cf,cg,ch,rfl,aw,bw,ax,ay,bx,bz⟩
 obtain ⟨b0,b1,rfl⟩:=AR ax
 obtain ⟨b2,b3,rfl⟩:=Own.len ay
 obtain rfl:=Aq bz
 refine ⟨_,rfl,⟨_,(Mo [2,4,7] aw)⟩,?_⟩
 refine Dt ?_
 obtain rfl:=AN g
 refine MX (B:=B) bb<|MW rfl<|⟨bv,Sl b0 n.1 b1,Sl b2 n.2.1 b3,[I n.2.2.why,I n.2.2.at_],rfl,Ho (Tn (Mo [2,4,7] e) aw) a1,bw,ax,ay,bx,(Ah (x:=n.2.2))⟩
theorem NC(h:AG)(m:Nat)(r:AG.Good h):types_checker_want_1.Spec (FJ h m):=by
 intro l n ao a ap c aq ar au av ko1_2 aw d ax ay e az a0 a1 f a2 a3 a4 g a5 a6 s hnd hnz u o w y z p aa ab ac ad
 refine Calls.mono (NB h m r (recol (see [a,c,d,e,f,g,ko1_2]) l) n (Hw lbr l) (BV u [a,c,d,e,f,g,ko1_2] (BJ hnd hnz (i:=0) rfl)) (BV o [a,c,d,e,f,g,ko1_2] (BJ hnd hnz (i:=1) rfl)) (EW AI w [a,c,d,e,f,g,ko1_2]) (IR y [a,c,d,e,f,g,ko1_2] (BJ hnd hnz (i:=6) rfl)) (Fh z [a,c,d,e,f,g,ko1_2] (BJ hnd hnz (i:=2) rfl)) (BV p [a,c,d,e,f,g,ko1_2] (BJ hnd hnz (i:=3) rfl)) (Bl Am aa [a,c,d,e,f,g,ko1_2]) (BV ab [a,c,d,e,f,g,ko1_2] (BJ hnd hnz (i:=4) rfl)) (Bl AJ ac [a,c,d,e,f,g,ko1_2]) (BV ad [a,c,d,e,f,g,ko1_2] (BJ hnd hnz (i:=5) rfl)) s) ?_
 rintro a7 a8 ⟨ae,af,ag,ah,ai,q,aj,ak,al,am,an⟩
 exact ⟨glue [a,c,d,e,f,g,ko1_2] n l ae,af,ag,ah,ai,DI q (Hu rfl rfl),Ei o aj dcd,G8 AI ak,KK (j:=6) al rfl rfl q,Ei p am dcd,FW Am an⟩
theorem ND(af:AG)(bf:Nat)(ag:AG.Good af)(c:Col)(g:World)(bg:∀b,c b<10){ah q:Nat}{ai:(List AE)}{aj:Value}{ak:(List AK)}{al:Value}{w:Nat}{am:Ao}{s:Nat}{y:AF}{an:List Value}{ao:Nat}{z:AB}{ap:List Value}{aq:Nat}{aa:Int}{u:(List AE)×(List AK)×AF}(bh:Bk c g 1 ah [Pt q 0] 130)(bi:Bk c g 2 q [.map (some w),aj,al,.func (.func 52) #[] [Pt s 0].toArray] 134)(ar:Slc AI c.F g aj ai)(au:Own Aa 87 c g 7 al ak)(bj:Mp c g 3 w am)(bk:Bk c g 4 s an 63)(bl:Am.rep c.F g an y)(bm:Bk c g 5 ao ap 56)(bn:AJ.rep c.F g ap z)(bo:Bk c g 6 aq [I aa] 34)(h:FK af bf ai ak am y z aa=some u):
  Calls PG 85 #[Pt ah 0,Pt ao 0,Pt aq 0] g fun bp o=>∃p av aw ax,bp=.returned (.tuple #[])∧AS [2,4,7] c g p o∧Bk p o 2 q [.map (some w),av,aw,.func (.func 52) #[] [Pt s 0].toArray] 134∧Slc AI p.F o av u.1∧Own Aa 87 p o 7 aw u.2.1∧Bk p o 4 s ax 63∧Am.rep p.F o ax u.2.2:=by
 rw [FK] at h
 obtain ⟨c3,c4,rfl⟩:=AR ar
 obtain ⟨c5,c6,rfl⟩:=Own.len au
 obtain rfl:=Aq bl
 obtain ⟨c8,c9,rfl,ay⟩:=E1 (Ai bn)
 refine Ay Tryz.func85 rfl Tryz.ntmps85 rfl fun B bq f=>AY<|B8 Eg (qs 0 7 (.one 7 .nil)) [] [2,4,7] c (by kernel_rfl) fun az l=>have a0:=Bs bh l;Qx f rfl (fun _ ⟨_,a⟩=>Ld KJ rfl (Bc (Bs a0 a) rfl))<|Qx f rfl (fun _ _=>Fd Bh rfl)<|have ab:=Bs bm l;Qx f rfl (fun _ ⟨_,a⟩=>Ld EC rfl (Bc (Bs ab a) rfl))<|Bi h fun d br h=>have a1:=Ss AJ ay l; ?_
 obtain ⟨bt,bu,da,bv,bw,bx,bz,b0,ac⟩:=BG (κ:=AJ) a1 br
 replace ac:A3 c az bt (bu+(0:Int).toNat*7) bv:=ac
 obtain ⟨a3,a4,rfl,a2⟩:=E1 (Ai b0)
 refine Qx f rfl (fun _ _=>Ix C9 bw rfl bx bz)<|Qx f rfl (fun _ ⟨_,a⟩=>Lx BA rfl rfl (A3.part0 (Es ac a) [I d.op,Sb d.name,Sb d.tail,I d.type_,Cx d.num,Sl a3 d.args a4,I d.at_] rfl))<|Qx f rfl (fun _ _=>Fd K0 rfl)<|Qx f rfl (fun _ ⟨_,a⟩=>Ld EB rfl (Bc (Bs ab a) rfl))<|A5 rfl<|have b1:=Bs bi l;have b2:=Ss AI ar l;have b3:=Os au l;have a5:=Ms bj l;have b4:=Bs bk l;Bi h fun b5 b6 h=>BM rfl (.none rfl) rfl rfl (Cg [Pt q 0,Ag [I d.op,Sb d.name,Sb d.tail,I d.type_,Cx d.num,Sl a3 d.args a4,I d.at_],I z.type_] rfl)<|Calls.mono (ag.types_checker_want c az (ko0_2:=7) b6 dcd dcd b1 b2 b3 a5 b4 (Ah (x:=y)) (Ab (x:=d) a2)) ?_
 rintro _ dc ⟨ad,de,df,dg,rfl,n,b7,a6,a7,b8,b9⟩
 obtain ⟨dh,di,rfl⟩:=AR a6
 obtain ⟨dj,dk,rfl⟩:=Own.len a7
 obtain rfl:=Aq b9
 refine ⟨_,rfl,⟨_,(Mo [2,4,7] n)⟩,?_⟩
 refine Dt<|B8 Eg (qs 0 6 (.one 6 .nil)) [] [2,4,7] ad (by kernel_rfl) fun a8 m=>have ca:=Y2 a0 n m;Qx f rfl (fun _ ⟨_,a⟩=>Ld KJ rfl (Bc (Bs ca a) rfl))<|Qx f rfl (fun _ _=>Fd Bh rfl)<|have cb:=Y2 ab n m;Qx f rfl (fun _ ⟨_,a⟩=>Ld EC rfl (Bc (Bs cb a) rfl))<|Bi h fun e cc h=>have cd:=K2 AJ a1 n m; ?_
 obtain ⟨cf,cg,dl,ch,ci,cj,ck,cl,ae⟩:=BG (κ:=AJ) cd cc
 replace ae:A3 ad a8 cf (cg+(1:Int).toNat*7) ch:=ae
 obtain ⟨ba,bb,rfl,a9⟩:=E1 (Ai cl)
 refine Qx f rfl (fun _ _=>Ix C9 ci rfl cj ck)<|Qx f rfl (fun _ ⟨_,a⟩=>Lx BA rfl rfl (A3.part0 (Es ae a) [I e.op,Sb e.name,Sb e.tail,I e.type_,Cx e.num,Sl ba e.args bb,I e.at_] rfl))<|have cm:=Y3 bo l n m;Qx f rfl (fun _ ⟨_,a⟩=>Ld EB rfl (Bc (Bs cm a) rfl))<|A5 rfl<|have cn:=Bs b7 m;have co:=Ss AI a6 m;have cq:=Os a7 m;have cr:=Ms (Ms a5 n) m;have ct:=Bs b8 m;Bi h fun r cu h=>BM rfl (.none rfl) rfl rfl (Cg [Pt q 0,Ag [I e.op,Sb e.name,Sb e.tail,I e.type_,Cx e.num,Sl ba e.args bb,I e.at_],I aa] rfl)<|Calls.mono (ag.types_checker_want ad a8 (ko0_2:=7) cu dcd dcd cn co cq cr ct (Ah (x:=b5.2.2)) (Ab (x:=e) a9)) ?_
 rintro _ dn ⟨cv,dp,dq,dr,rfl,bc,cw,bd,be,cx,cy⟩
 obtain ⟨cz,c0,rfl⟩:=AR bd
 obtain ⟨c1,c2,rfl⟩:=Own.len be
 obtain rfl:=Aq cy
 refine ⟨_,rfl,⟨_,(Mo [2,4,7] bc)⟩,?_⟩
 refine Dt ?_
 obtain rfl:=AN h
 refine MX (B:=B) bq<|MW rfl<|⟨cv,Sl cz r.1 c0,Sl c1 r.2.1 c2,[I r.2.2.why,I r.2.2.at_],rfl,Ho (T3 (Mo [2,4,7] l) n m bc) bg,cw,bd,be,cx,(Ah (x:=r.2.2))⟩
theorem NE(h:AG)(m:Nat)(r:AG.Good h):types_checker_want_2.Spec (FK h m):=by
 intro l n ao a ap c aq ar au av ko1_2 aw d ax ay e az a0 a1 f a2 a3 a4 g a5 a6 s hnd hnz u o w y z p aa ab ac ad
 refine Calls.mono (ND h m r (recol (see [a,c,d,e,f,g,ko1_2]) l) n (Hw lbr l) (BV u [a,c,d,e,f,g,ko1_2] (BJ hnd hnz (i:=0) rfl)) (BV o [a,c,d,e,f,g,ko1_2] (BJ hnd hnz (i:=1) rfl)) (EW AI w [a,c,d,e,f,g,ko1_2]) (IR y [a,c,d,e,f,g,ko1_2] (BJ hnd hnz (i:=6) rfl)) (Fh z [a,c,d,e,f,g,ko1_2] (BJ hnd hnz (i:=2) rfl)) (BV p [a,c,d,e,f,g,ko1_2] (BJ hnd hnz (i:=3) rfl)) (Bl Am aa [a,c,d,e,f,g,ko1_2]) (BV ab [a,c,d,e,f,g,ko1_2] (BJ hnd hnz (i:=4) rfl)) (Bl AJ ac [a,c,d,e,f,g,ko1_2]) (BV ad [a,c,d,e,f,g,ko1_2] (BJ hnd hnz (i:=5) rfl)) s) ?_
 rintro a7 a8 ⟨ae,af,ag,ah,ai,q,aj,ak,al,am,an⟩
 exact ⟨glue [a,c,d,e,f,g,ko1_2] n l ae,af,ag,ah,ai,DI q (Hu rfl rfl),Ei o aj dcd,G8 AI ak,KK (j:=6) al rfl rfl q,Ei p am dcd,FW Am an⟩
theorem NF(y:AG)(az:Nat)(a0:AG.Good y)(a:Col)(d:World)(a1:∀b,a b<10){z o:Nat}{aa:(List AE)}{ab:Value}{ac:(List AK)}{ad:Value}{r:Nat}{ae:Ao}{p:Nat}{s:AF}{af:List Value}{ag:Nat}{ah:AB}{ai:List Value}{aj:Nat}{u:Int}{q:(List AE)×(List AK)×AF}(a2:Bk a d 1 z [Pt o 0] 130)(a3:Bk a d 2 o [.map (some r),ab,ad,.func (.func 52) #[] [Pt p 0].toArray] 134)(ak:Slc AI a.F d ab aa)(al:Own Aa 87 a d 7 ad ac)(a4:Mp a d 3 r ae)(a5:Bk a d 4 p af 63)(a6:Am.rep a.F d af s)(a7:Bk a d 5 ag ai 56)(a8:AJ.rep a.F d ai ah)(a9:Bk a d 6 aj [I u] 34)(g:FL y az aa ac ae s ah u=some q):
  Calls PG 86 #[Pt z 0,Pt ag 0,Pt aj 0] d fun ba h=>∃l am an ao,ba=.returned (.tuple #[])∧AS [2,4,7] a d l h∧Bk l h 2 o [.map (some r),am,an,.func (.func 52) #[] [Pt p 0].toArray] 134∧Slc AI l.F h am q.1∧Own Aa 87 l h 7 an q.2.1∧Bk l h 4 p ao 63∧Am.rep l.F h ao q.2.2:=by
 rw [FL] at g
 obtain ⟨b4,b5,rfl⟩:=AR ak
 obtain ⟨b6,b7,rfl⟩:=Own.len al
 obtain rfl:=Aq a6
 obtain ⟨b9,ca,rfl,ap⟩:=E1 (Ai a8)
 refine Ay Tryz.func86 rfl Tryz.ntmps86 rfl fun B bb m=>B8 Eg (qs 0 6 (.one 6 .nil)) [] [2,4,7] a (by kernel_rfl) fun aq e=>have bc:=Bs a2 e;Qx m rfl (fun _ ⟨_,f⟩=>Ld KJ rfl (Bc (Bs bc f) rfl))<|Qx m rfl (fun _ _=>Fd Bh rfl)<|have bd:=Bs a7 e;Qx m rfl (fun _ ⟨_,f⟩=>Ld EC rfl (Bc (Bs bd f) rfl))<|Bi g fun c be g=>have bf:=Ss AJ ap e; ?_
 obtain ⟨bg,bh,cb,bi,bj,bk,bl,bm,w⟩:=BG (κ:=AJ) bf be
 replace w:A3 a aq bg (bh+(1:Int).toNat*7) bi:=w
 obtain ⟨au,av,rfl,ar⟩:=E1 (Ai bm)
 refine Qx m rfl (fun _ _=>Ix C9 bj rfl bk bl)<|Qx m rfl (fun _ ⟨_,f⟩=>Lx BA rfl rfl (A3.part0 (Es w f) [I c.op,Sb c.name,Sb c.tail,I c.type_,Cx c.num,Sl au c.args av,I c.at_] rfl))<|have bn:=Bs a9 e;Qx m rfl (fun _ ⟨_,f⟩=>Ld EB rfl (Bc (Bs bn f) rfl))<|A5 rfl<|have bo:=Bs a3 e;have bp:=Ss AI ak e;have bq:=Os al e;have br:=Ms a4 e;have bt:=Bs a5 e;Bi g fun n bu g=>BM rfl (.none rfl) rfl rfl (Cg [Pt o 0,Ag [I c.op,Sb c.name,Sb c.tail,I c.type_,Cx c.num,Sl au c.args av,I c.at_],I u] rfl)<|Calls.mono (a0.types_checker_want a aq (ko0_2:=7) bu dcd dcd bo bp bq br bt (Ah (x:=s)) (Ab (x:=c) ar)) ?_
 rintro _ cd ⟨bv,cf,cg,ch,rfl,aw,bw,ax,ay,bx,bz⟩
 obtain ⟨b0,b1,rfl⟩:=AR ax
 obtain ⟨b2,b3,rfl⟩:=Own.len ay
 obtain rfl:=Aq bz
 refine ⟨_,rfl,⟨_,(Mo [2,4,7] aw)⟩,?_⟩
 refine Dt ?_
 obtain rfl:=AN g
 refine MX (B:=B) bb<|MW rfl<|⟨bv,Sl b0 n.1 b1,Sl b2 n.2.1 b3,[I n.2.2.why,I n.2.2.at_],rfl,Ho (Tn (Mo [2,4,7] e) aw) a1,bw,ax,ay,bx,(Ah (x:=n.2.2))⟩
theorem NG(h:AG)(m:Nat)(r:AG.Good h):types_checker_want_3.Spec (FL h m):=by
 intro l n ao a ap c aq ar au av ko1_2 aw d ax ay e az a0 a1 f a2 a3 a4 g a5 a6 s hnd hnz u o w y z p aa ab ac ad
 refine Calls.mono (NF h m r (recol (see [a,c,d,e,f,g,ko1_2]) l) n (Hw lbr l) (BV u [a,c,d,e,f,g,ko1_2] (BJ hnd hnz (i:=0) rfl)) (BV o [a,c,d,e,f,g,ko1_2] (BJ hnd hnz (i:=1) rfl)) (EW AI w [a,c,d,e,f,g,ko1_2]) (IR y [a,c,d,e,f,g,ko1_2] (BJ hnd hnz (i:=6) rfl)) (Fh z [a,c,d,e,f,g,ko1_2] (BJ hnd hnz (i:=2) rfl)) (BV p [a,c,d,e,f,g,ko1_2] (BJ hnd hnz (i:=3) rfl)) (Bl Am aa [a,c,d,e,f,g,ko1_2]) (BV ab [a,c,d,e,f,g,ko1_2] (BJ hnd hnz (i:=4) rfl)) (Bl AJ ac [a,c,d,e,f,g,ko1_2]) (BV ad [a,c,d,e,f,g,ko1_2] (BJ hnd hnz (i:=5) rfl)) s) ?_
 rintro a7 a8 ⟨ae,af,ag,ah,ai,q,aj,ak,al,am,an⟩
 exact ⟨glue [a,c,d,e,f,g,ko1_2] n l ae,af,ag,ah,ai,DI q (Hu rfl rfl),Ei o aj dcd,G8 AI ak,KK (j:=6) al rfl rfl q,Ei p am dcd,FW Am an⟩
theorem Nr(af:AG)(a7:Nat)(ci:AG.Good af)(p:Col)(u:World)(bm:∀b,p b<10){q:Nat}{ar:(List AE)}{bn:Value}{au:(List AK)}{bo:Value}{aw:Nat}{g:Ao}{ak:Nat}{y:AF}{bp:List Value}{f:AB}{bq:List Value}{z:Int×(List AE)×(List AK)×AF}(cj:Bk p u 1 q [.map (some aw),bn,bo,.func (.func 52) #[] [Pt ak 0].toArray] 134)(ax:Slc AI p.F u bn ar)(a8:Own Aa 87 p u 4 bo au)(ck:Mp p u 2 aw g)(br:Bk p u 3 ak bp 63)(cl:Am.rep p.F u bp y)(cm:AJ.rep p.F u bq f)(d:GI af a7 ar au g y f=some z):
  Calls PG 112 #[Pt q 0,Ag bq] u fun cn al=>∃am bt bu bv,cn=.returned (I z.1)∧AS [1,3,4] p u am al∧Bk am al 1 q [.map (some aw),bt,bu,.func (.func 52) #[] [Pt ak 0].toArray] 134∧Slc AI am.F al bt z.2.1∧Own Aa 87 am al 4 bu z.2.2.1∧Bk am al 3 ak bv 63∧Am.rep am.F al bv z.2.2.2:=by
 rw [GI] at d
 obtain ⟨bw,bx,rfl⟩:=AR ax
 obtain ⟨bz,b0,rfl⟩:=Own.len a8
 obtain rfl:=Aq cl
 obtain ⟨e6,e7,rfl,a9⟩:=E1 (Ai cm)
 refine Ay Tryz.func112 rfl Tryz.ntmps112 rfl fun B b1 a=>Sr<|Ef<|BX p 20 rfl rfl fun an e8 b2 co m=>Va (I 0)<|AA<|AY<|B8 Eg (qs 0 8 .nil) [] [] an (by kernel_rfl) fun cq l=>Qx a rfl (v:=Pt q 0) (fun _ _=>Mv rfl)<|Qx a rfl (fun _ _=>Nc rfl)<|Qx a rfl (fun _ _=>Fz UW rfl)<|have ay:=Y2 cj m l;Qx a rfl (fun _ ⟨_,c⟩=>Ld Oc rfl (Bc (Bs ay c) rfl))<|Qx a rfl (fun _ _=>Fd EV rfl)<|have ba:=Bs co l;Qx a rfl (fun _ ⟨_,c⟩=>Ld CS rfl (Bc (Bs ba c) rfl))<|have b3:=Ms (Ms ck m) l;Qx a rfl (v:=I (Ck g f.name)) (fun _ ⟨_,c⟩=>Jt Ko rfl rfl (Ms b3 c))<|Qx a rfl (v:=I (Ck g f.name)) (fun _ _=>Run.assign rfl)<|Dt<|AY<|An (fun bb az=>∃av ao bc,bb=Env.puts av [(0,Pt q 0),(3,Pt b2 0),(5,I (Ck g f.name)),(32,.bool bc)]∧Fg af a7 ar au g y f bc=some z∧AS [] an cq ao az) ?_ ?_
 refine B8 Eg (qs 0 18 .nil) [] [] an (by kernel_rfl) fun cr ap=>Qx a rfl (v:=I (Ck g f.name)) (fun _ _=>Mv rfl)<|Qx a rfl (v:=.bool ((Ck g f.name)==0)) (fun _ _=>rfl)<|Qx a rfl (v:=.bool ((Ck g f.name)==0)) (fun _ _=>Mv rfl)<|Bo d (fun e d=>?_) fun e d=>?_
 refine Qp a rfl e<|Qp a rfl e<|Qp a rfl e<|Qp a rfl e<|Qp a rfl e<|Qp a rfl e<|Qp a rfl e<|Qp a rfl e<|Qp a rfl e<|Qp a rfl e<|Qp a rfl e<|Qp a rfl e<|Qp a rfl e<|Qp a rfl e<|Qx a rfl (v:=.bool true) (fun _ _=>(Pk e))<|Dt<|⟨_,an,true,Pu,d,(Mo [] ap)⟩
 refine Qg a rfl e (v:=Pt q 0) (fun _ _=>Mv rfl)<|Qg a rfl e (fun _ _=>Nc rfl)<|Qg a rfl e (fun _ _=>Fd Qi rfl)<|have ct:=Bs ay ap;Qg a rfl e (fun _ ⟨_,c⟩=>Ld GP rfl (Bc (Bs ct c) rfl))<|Qg a rfl e (v:=I (Ck g f.name)) (fun _ _=>Mv rfl)<|Qg a rfl e (v:=I (Wr ((Ck g f.name) - 1))) (fun _ _=>rfl)<|Bi d fun a0 cu d=>have cv:=K3 AI ax m l ap; ?_
 obtain ⟨cw,cx,e9,cy,cz,c0,c1,c2,bd⟩:=BG (κ:=AI) cv cu
 replace bd:A3 an cr cw (cx+((Wr ((Ck g f.name) - 1))).toNat*11) cy:=bd
 obtain ⟨fa,fb,rfl,b4,c3⟩:=DA c2
 obtain ⟨fc,fd,rfl⟩:=AR b4
 obtain ⟨fe,ff,rfl⟩:=AR c3
 refine Qg a rfl e (fun _ _=>Ix DY cz rfl c0 c1)<|Qg a rfl e (fun _ _=>Fd Eh rfl)<|Qg a rfl e (fun _ ⟨_,c⟩=>Ld E0 rfl (A3.cell (k:=1) (Es bd c) rfl)) ?_
 obtain ⟨fg,fh,c4⟩:=AR b4
 refine Qg a rfl e (v:=I (a0.params.length:Int)) (fun _ _=>Ll ED c4)<|Qg a rfl e (fun _ _=>Fd Bh rfl)<|have c5:=Bs ba ap;Qg a rfl e (fun _ ⟨_,c⟩=>Ld EC rfl (Bc (Bs c5 c) rfl))<|have c6:=K3 AJ a9 m l ap; ?_
 obtain ⟨fi,fj,c7⟩:=AR c6
 refine Qg a rfl e (v:=I (f.args.length:Int)) (fun _ _=>Ll C9 c7)<|Qg a rfl e (v:=.bool ((a0.params.length:Int) != (f.args.length:Int))) (fun _ _=>rfl)<|Qx a rfl (v:=.bool ((a0.params.length:Int) != (f.args.length:Int))) (fun _ _=>(Pk e))<|Dt<|⟨_,an,((a0.params.length:Int) != (f.args.length:Int)),Pu,d,(Mo [] ap)⟩
 rintro _ az ⟨av,ao,bc,rfl,d,n⟩
 rw [Fg] at d
 refine Cn d (fun c8 d=>?_) fun c8 d=>?_
 refine Sr<|Va (I 0)<|AA<|AW ?_
 obtain rfl:=AN d
 refine O1 B b1 rfl (.tmp rfl)<|have c9:=Bs ay n;have da:=K3 AI ax m l n;have db:=Os (Os (Os a8 m) l) n;have dc:=Y3 br m l n;⟨ao,Sl bw ar bx,Sl bz au b0,[I y.why,I y.at_],rfl,Ho (T2 (Mo [] m) l n) bm,c9,da,db,dc,(Ah (x:=y))⟩
 refine WC.skip<|AY<|Sr<|Vm<|Vx (Nc rfl)<|Vx (Fd Qi rfl)<|have b5:=Bs ay n;Vx (Ld GP rfl (Bc b5 rfl))<|Vm<|Vr (I (Wr ((Ck g f.name) - 1)))<|Bi d fun aa de d=>have b6:=K3 AI ax m l n; ?_
 obtain ⟨df,o80,fk,dg,dh,di,dj,dk,be⟩:=BG (κ:=AI) b6 de
 replace be:A3 ao az df (o80+((Wr ((Ck g f.name) - 1))).toNat*11) dg:=be
 obtain ⟨fl,fm,rfl,bf,dl⟩:=DA dk
 obtain ⟨dm,dn,rfl⟩:=AR bf
 obtain ⟨fn,fo,rfl⟩:=AR dl
 refine Vx (Ix DY dh rfl di dj)<|Vx (Fd Eh rfl)<|Vx (Ld E0 rfl (A3.cell (k:=1) be rfl)) ?_
 obtain ⟨fp,fq,dp⟩:=AR bf
 refine Vx (v:=I (aa.params.length:Int)) (Ll ED dp)<|Vm<|AA<|Ad<|Bj (fun ab bb ac=>∃av r o ag a1 a2 ah a3 a4 ai aj,bb=Env.puts av [(0,Pt q 0),(3,Pt b2 0),(5,I (Ck g f.name)),(41,Sl dm aa.params dn),(42,I (aa.params.length:Int)),(43,I o)]∧Dv af g f aa ab o ag ah ai aj=some z∧AS [1,3,4,21] ao az r ac∧Slc AI r.F ac (Sl a1 ag a2) ag∧Own Aa 87 r ac 4 (Sl a3 ah a4) ah∧Bk r ac 1 q [.map (some aw),Sl a1 ag a2,Sl a3 ah a4,.func (.func 52) #[] [Pt ak 0].toArray] 134∧Bk r ac 3 ak [I ai,I aj] 63) a7 ?_ ?_
 refine have dq:=Os (Os (Os a8 m) l) n;have dr:=Y3 br m l n;⟨_,ao,0,ar,bw,bx,au,bz,b0,y.why,y.at_,Pu,d,(AS.refl [1,3,4,21] _ _),b6,dq,b5,dr⟩
 rintro ab _ ac ⟨av,r,o,ag,a1,a2,ah,a3,a4,ai,aj,rfl,d,aq,bg,b7,bh,b8⟩
 rcases ab with _|ab
 exact A6 d
 refine have d:EG af g f aa (Dv af g f aa ab) o ag ah ai aj=some z:=d; ?_
 obtain ⟨fr,b9⟩:∃s,s=Dv af g f aa ab:=⟨_,rfl⟩
 rw [←b9,EG] at d
 refine Sr<|Vr (.bool (decide (o< (aa.params.length:Int))))<|AA<|AY<|Cn d (fun ds d=>?_) fun ds d=>?_
 refine WC.skip<|AY<|Ad<|Sr<|Vm<|Bi d fun a5 dt d=>have du:=Ss Aa bf aq; ?_
 obtain ⟨dv,dw,fs,dx,dy,dz,d0,d1,bi⟩:=BG (κ:=Aa) du dt
 replace bi:A3 r ac dv (dw+o.toNat*3) dx:=bi
 obtain rfl:=Fv d1
 refine Vx (Ix ED dy rfl dz d0)<|Vx (Lx Wf rfl rfl (A3.part0 bi [Sb a5.name,I a5.type_,I a5.at_] rfl))<|Ef<|AU r 21 Lf rfl fun bj ft fu d2 ad=>Va (I o)<|Eu<|St Wk d2 rfl rfl rfl rfl fun fv d3 ae=>AA<|B8 Eg (qs 0 8 (.one 8 .nil)) [] [1,3,4] bj (by kernel_rfl) fun ca w=>Qx a rfl (v:=Pt q 0) (fun _ _=>Mv rfl)<|Qx a rfl (fun _ _=>Fd Bh rfl)<|have d4:=Bs (Y4 ba n aq ad ae) w;Qx a rfl (fun _ ⟨_,c⟩=>Ld EC rfl (Bc (Bs d4 c) rfl))<|Qx a rfl (v:=I o) (fun _ _=>Mv rfl)<|Bi d fun h d5 d=>have d6:=K3 AJ (K4 AJ a9 m l n aq) ad ae w; ?_
 obtain ⟨d7,d8,fw,d9,ea,eb,ec,ed,bk⟩:=BG (κ:=AJ) d6 d5
 replace bk:A3 bj ca d7 (d8+o.toNat*7) d9:=bk
 obtain ⟨cc,cd,rfl,cb⟩:=E1 (Ai ed)
 refine Qx a rfl (fun _ _=>Ix C9 ea rfl eb ec)<|Qx a rfl (fun _ ⟨_,c⟩=>Lx BA rfl rfl (A3.part0 (Es bk c) [I h.op,Sb h.name,Sb h.tail,I h.type_,Cx h.num,Sl cc h.args cd,I h.at_] rfl))<|Qx a rfl (fun _ _=>Fd NT rfl)<|have ee:=Bs d3 w;Qx a rfl (fun _ ⟨_,c⟩=>Ld EB rfl (Bc (Bs ee c) rfl))<|A5 rfl<|have ef:=Y3 bh ad ae w;have eg:=K3 AI bg ad ae w;have eh:=Os (Os (Os b7 ad) ae) w;have ei:=Ms (Ms (Ms (Ms (Ms b3 n) aq) ad) ae) w;have ej:=Y3 b8 ad ae w;Bi d fun a6 ek d=>BM rfl (.none rfl) rfl rfl (Cg [Pt q 0,Ag [I h.op,Sb h.name,Sb h.tail,I h.type_,Cx h.num,Sl cc h.args cd,I h.at_],I a5.type_] rfl)<|Calls.mono (ci.types_checker_want bj ca (ko0_2:=4) ek dcd dcd ef eg eh ei ej (Ah (x:=(AF.mk ai aj))) (Ab (x:=h) cb)) ?_
 rintro _ fy ⟨el,fz,f0,f1,rfl,cf,em,cg,ch,en,eo⟩
 obtain ⟨ep,eq,rfl⟩:=AR cg
 obtain ⟨er,es,rfl⟩:=Own.len ch
 obtain rfl:=Aq eo
 refine ⟨_,rfl,⟨_,(Mo [1,3,4] cf)⟩,?_⟩
 refine Dt<|AM<|Vr (I (Wr (o+1)))<|Vm<|AA<|⟨ab,Nat.lt_succ_self ab,_,el,(Wr (o+1)),a6.1,ep,eq,a6.2.1,er,es,a6.2.2.why,a6.2.2.at_,Pu,(b9▸d),(T4 (Mo [1,3,4,21] aq) ad ae w cf),cg,ch,em,en⟩
 refine BZ<|Sr<|Vm<|Vx (Nc rfl)<|Vx (Fd Qi rfl)<|Vx (Ld GP rfl (Bc bh rfl))<|Vm<|Vr (I (Wr ((Ck g f.name) - 1)))<|Bi d fun et eu d=>?_
 obtain ⟨ew,ex,f2,ey,ez,e0,e1,e2,bl⟩:=BG (κ:=AI) bg eu
 replace bl:A3 r ac ew (ex+((Wr ((Ck g f.name) - 1))).toNat*11) ey:=bl
 obtain ⟨f3,f4,rfl,e3,e4⟩:=DA e2
 obtain ⟨f5,f6,rfl⟩:=AR e3
 obtain ⟨f7,f8,rfl⟩:=AR e4
 refine Vx (Ix DY ez rfl e0 e1)<|Vx (Fd NS rfl)<|Vx (Ld EB rfl (A3.cell (k:=2) bl rfl))<|Va (I et.type_)<|AA<|AW ?_
 obtain rfl:=AN d
 refine O1 B b1 rfl (.tmp rfl)<|⟨r,Sl a1 ag a2,Sl a3 ah a4,[I ai,I aj],rfl,Ho (T3 (Mo [1,3,4,21] m) l n aq) bm,bh,bg,b7,b8,(Ah (x:=(AF.mk ai aj)))⟩
theorem Ns(e:AG)(g:Nat)(o:AG.Good e):types_checker_call.Spec (GI e g):=by
 intro f h ai a aj ak al am ko0_2 an c ao ap d aq ar au av aw p hnd hnz l q r s m u w
 refine Calls.mono (Nr e g o (recol (see [a,c,d,ko0_2]) f) h (Hw lbr f) (BV l [a,c,d,ko0_2] (BJ hnd hnz (i:=0) rfl)) (EW AI q [a,c,d,ko0_2]) (IR r [a,c,d,ko0_2] (BJ hnd hnz (i:=3) rfl)) (Fh s [a,c,d,ko0_2] (BJ hnd hnz (i:=1) rfl)) (BV m [a,c,d,ko0_2] (BJ hnd hnz (i:=2) rfl)) (Bl Am u [a,c,d,ko0_2]) (Bl AJ w [a,c,d,ko0_2]) p) ?_
 rintro ax ay ⟨y,z,aa,ab,ac,n,ad,ae,af,ag,ah⟩
 exact ⟨glue [a,c,d,ko0_2] h f y,z,aa,ab,ac,DI n (Hu rfl rfl),Ei l ad dcd,G8 AI ae,KK (j:=3) af rfl rfl n,Ei m ag dcd,FW Am ah⟩
theorem AG.good:∀d,AG.Good (AG.at d)
 |0=>⟨by intro a c;intros;(try intro _);intros;exact A6 (by assumption),by intro a c;intros;(try intro _);intros;exact A6 (by assumption),by intro a c;intros;(try intro _);intros;exact A6 (by assumption),by intro a c;intros;(try intro _);intros;exact A6 (by assumption),by intro a c;intros;(try intro _);intros;exact A6 (by assumption),by intro a c;intros;(try intro _);intros;exact A6 (by assumption),by intro a c;intros;(try intro _);intros;exact A6 (by assumption),by intro a c;intros;(try intro _);intros;exact A6 (by assumption),by intro a c;intros;(try intro _);intros;exact A6 (by assumption),by intro a c;intros;(try intro _);intros;exact A6 (by assumption)⟩
 |n+1=>⟨Nl _ n (AG.good n),ON _ n (AG.good n),Oq _ n (AG.good n),No _ n (AG.good n),Nq _ n (AG.good n),OP _ n (AG.good n),NC _ n (AG.good n),NE _ n (AG.good n),NG _ n (AG.good n),Ns _ n (AG.good n)⟩
theorem OQ(a:Nat):types_checker_want.Spec (types_checker_want a):=(AG.good a).types_checker_want
def Gz.At(c:Col)(a:World)(f:AL→Option AF):Prop:=
 ∀{d e g},f d=some g→Cd.rep c.F a e d→
  Calls PG 29 #[Ag e] a fun n h=>∃l m,n=.returned (Ag m)∧AS [] c a l h∧Am.rep l.F h m g
def Gz.Spec(f:AL→Option AF):Prop:=
 ∀a c,Gz.At a c f
theorem Ro(l:Nat)(au:Col)(bv:World)(a1:∀b,au b<10):Gz.At au bv (Gz l):=by
 intro e dw a2 c bw
 rw [Gz] at c
 obtain ⟨n,o,rfl,a3⟩:=E1 (BN bw)
 refine Ay Tryz.func29 rfl Tryz.ntmps29 rfl fun B a4 dy=>?_
 refine Sr ?_
 refine Ef (BX au 20 rfl rfl fun bx dz bz b0 av=>?_)
 refine Ef (AU bx 21 E3 rfl fun b1 b2 b3 a5 an=>?_)
 refine AA ?_
 refine Sr ?_
 have a6:=(Bs b0 an)
 refine Vx (v:=Ag [Sl n e.funcs o]) (Lx Gl rfl rfl (Bw a6)) ?_
 have a7:=(K2 AI a3 av an)
 obtain ⟨d,b4,c⟩:=bnd_sm c
 refine B7 (.none rfl) rfl rfl (Cg [Ag [Sl n e.funcs o]] rfl) ?_
 refine Calls.mono (Sy l b1 b2 b4 (BH (x:=e) a7)) ?_
 rintro _ d0 ⟨b5,d1,rfl,ae,b6⟩
 obtain rfl:=Aq b6
 refine ⟨_,rfl,?_⟩
 refine Ef (AU b5 22 E3 rfl fun a8 d2 p b7 af=>?_)
 refine Eu (St (vs:=[I d.why,I d.at_]) (cs':=[I d.why,I d.at_]) G6 b7 rfl rfl rfl rfl fun b8 ao ag=>?_)
 refine AA ?_
 refine AY ?_
 refine Sr ?_
 refine Vx (v:=Pt p 0) (Fz Mc rfl) ?_
 refine Vx (v:=I d.why) (Ld LE rfl (Bc ao rfl)) ?_
 refine Vr (.bool (d.why != 0)) ?_
 refine AA ?_
 refine Cn c (fun b9 c=>?_) fun b9 c=>?_
 refine Sr ?_
 refine Vx (v:=Ag [I d.why,I d.at_]) (Lx KZ rfl rfl (Bw ao)) ?_
 have ca:=(Y3 a5 ae af ag)
 refine Eu (St (vs:=[I d.why,I d.at_]) (cs':=[I d.why,I d.at_]) G6 ca rfl rfl rfl rfl fun d3 cb cc=>?_)
 refine AA ?_
 refine AW ?_
 obtain rfl:=AN c
 refine Xb (B:=B) a4 (SR rfl (.agg KZ rfl rfl (Bw cb)) ?_)
 exact ⟨a8,[I d.why,I d.at_],rfl,Ho (Tn (T4 (Mo [21,22] av) an ae af ag) cc) a1,(Ah (x:=d))⟩
 refine WC.skip ?_
 refine Sr ?_
 have a9:=(Y3 a6 ae af ag)
 refine Vx (v:=Ag [Sl n e.funcs o]) (Lx Gl rfl rfl (Bw a9)) ?_
 refine Vx (v:=.func (.func 52) #[] [Pt p 0].toArray) (IB (vs:=[Pt p 0]) rfl) ?_
 have ba:=(K3 AI a7 ae af ag)
 obtain ⟨ah,cd,c⟩:=bnd_sm c
 refine B7 (.none rfl) rfl rfl (Cg [Ag [Sl n e.funcs o],.func (.func 52) #[] [Pt p 0].toArray] rfl) ?_
 refine Calls.mono (T0 l a8 b8 (kn1:=23) (kn2:=24) (ko1_2:=25) cd dcd dcd (BH (x:=e) ba) ao (Ah (x:=d))) ?_
 rintro _ cf ⟨bb,q,bc,d4,d5,rfl,aj,d6,cg,bd,be,ch⟩
 obtain ⟨ci,cj,rfl⟩:=AR bd
 obtain ⟨ck,cl,rfl⟩:=Own.len be
 refine ⟨_,rfl,?_⟩
 refine Va (Pt q 0) ?_
 refine AA ?_
 refine AY ?_
 refine Sr ?_
 refine Vx (v:=Pt bz 0) (Fz EA rfl) ?_
 have cm:=(Bs a9 aj)
 refine Vx (v:=Sl n e.funcs o) (Ld GP rfl (Bc cm rfl)) ?_
 have bf:=(Ss AI ba aj)
 obtain ⟨d7,d8,cn⟩:=AR bf
 refine Vx (v:=I (e.funcs.length:Int)) (Ll DY cn) ?_
 refine Vx (v:=I 0) (Mv rfl) ?_
 refine AA ?_
 refine Ad ?_
 refine Bj (fun r co u=>∃bg m h f g w ap aq ai aw ax,co=Env.puts bg [(2,Pt b3 0),(3,Pt p 0),(4,Pt q 0),(17,Sl n e.funcs o),(18,I (e.funcs.length:Int)),(19,I h)]∧Hh l e ah r h f g w ai=some a2∧AS [22,23,25,26] bb cf m u∧Slc AI m.F u (Sl ap w aq) w∧Own Aa 87 m u 25 (Sl aw ai ax) ai∧Bk m u 22 p [I f,I g] 63∧Bk m u 23 q [.map (some bc),Sl ap w aq,Sl aw ai ax,.func (.func 52) #[] [Pt p 0].toArray] 134) l ?_ ?_
 have cq:=(Bs ao aj)
 exact ⟨_,bb,0,d.why,d.at_,ah.2.1,ci,cj,ah.2.2.1,ck,cl,Pu,c,(AS.refl [22,23,25,26] _ _),bd,be,cq,cg⟩
 rintro r _ u ⟨bg,m,h,f,g,w,ap,aq,ai,aw,ax,rfl,c,ak,cr,d9,bh,ct⟩
 rcases r with _|r
 exact A6 c
 have c:H1 l e ah (Hh l e ah r) h f g w ai=some a2:=c
 obtain ⟨ea,bi⟩:∃s,s=Hh l e ah r:=⟨_,rfl⟩
 rw [←bi,H1] at c
 refine Sr ?_
 refine Vr (.bool (decide (h< (e.funcs.length:Int)))) ?_
 refine AA ?_
 refine AY ?_
 refine Cn c (fun cu c=>?_) fun cu c=>?_
 refine WC.skip ?_
 refine AY ?_
 refine Ad ?_
 refine Sr ?_
 obtain ⟨a,cv,c⟩:=bnd_sm c
 have cw:=(Ss AI bf ak)
 obtain ⟨bj,bk,eb,cx,cy,cz,c0,c1,ay⟩:=BG (κ:=AI) cw cv
 replace ay:A3 m u bj (bk+h.toNat*11) cx:=ay
 obtain ⟨ec,ed,rfl,bl,bm⟩:=DA c1
 obtain ⟨al,am,rfl⟩:=AR bl
 obtain ⟨y,z,rfl⟩:=AR bm
 refine Vx (v:=.pointer (some ⟨bj,bk+h.toNat*11,none⟩)) (Ix DY cy rfl cz c0) ?_
 refine Vx (v:=Ag [Sb a.name,Sl al a.params am,I a.type_,I a.body.op,Sb a.body.name,Sb a.body.tail,I a.body.type_,Cx a.body.num,Sl y a.body.args z,I a.body.at_,I a.at_]) (Lx Lc rfl rfl (A3.part0 ay [Sb a.name,Sl al a.params am,I a.type_,I a.body.op,Sb a.body.name,Sb a.body.tail,I a.body.type_,Cx a.body.num,Sl y a.body.args z,I a.body.at_,I a.at_] rfl)) ?_
 refine Ef (AU m 26 Fs rfl fun c2 ee az c3 aa=>?_)
 have c4:=(Ss Aa bl aa)
 have c5:=(Ss AJ bm aa)
 refine Eu (St (vs:=[Sb a.name,Sl al a.params am,I a.type_,I a.body.op,Sb a.body.name,Sb a.body.tail,I a.body.type_,Cx a.body.num,Sl y a.body.args z,I a.body.at_,I a.at_]) (cs':=[Sb a.name,Sl al a.params am,I a.type_,I a.body.op,Sb a.body.name,Sb a.body.tail,I a.body.type_,Cx a.body.num,Sl y a.body.args z,I a.body.at_,I a.at_]) LD c3 rfl rfl rfl rfl fun c6 bn ab=>?_)
 refine AA ?_
 refine Sr ?_
 refine Vx (v:=Pt q 0) (Mv rfl) ?_
 refine Vx (v:=Pt az 1) (Fd Eh rfl) ?_
 refine Vx (v:=Sl al a.params am) (Ld E0 rfl (Bc bn rfl)) ?_
 have c7:=(Ss Aa c4 ab)
 obtain ⟨ef,bo,c⟩:=bnd_sm c
 refine Ef (Az (κ:=Aa) rfl rfl (Own.nil:Own Aa 87 c2 c6 25 _ _) dcd Pj (Cl c7) (CF bo) (CK bo) fun eg c8 eh a0 ac=>?_)
 obtain ⟨bp,bq,rfl⟩:=Own.len a0
 refine Vx (v:=Pt q 0) (Nc rfl) ?_
 refine Vx (v:=Pt q 2) (Fd FS rfl) ?_
 have c9:=(Y3 ct aa ab ac)
 refine Eu (BB (vs:=[Sl bp ((([]:List AK)++a.params)) bq]) (cs':=[.map (some bc),Sl ap w aq,Sl bp ((([]:List AK)++a.params)) bq,.func (.func 52) #[] [Pt p 0].toArray]) Ob rfl rfl rfl rfl (AP (Own.one a0) BO) c9 dcd rfl rfl fun da db ad=>?_)
 refine AA ?_
 refine AM ?_
 refine Vx (v:=Pt q 0) (Mv rfl) ?_
 refine Vx (v:=Pt az 3) (Fd Mb rfl) ?_
 have br:=(Y2 bn ac ad)
 refine Vx (v:=Ag [I a.body.op,Sb a.body.name,Sb a.body.tail,I a.body.type_,Cx a.body.num,Sl y a.body.args z,I a.body.at_]) (Lx BA rfl rfl (Bk.part br 3 [I a.body.op,Sb a.body.name,Sb a.body.tail,I a.body.type_,Cx a.body.num,Sl y a.body.args z,I a.body.at_] rfl)) ?_
 refine Vx (v:=Pt az 2) (Fd NS rfl) ?_
 refine Vx (v:=I a.type_) (Ld EB rfl (Bc br rfl)) ?_
 have dc:=(K4 AI cr aa ab ac ad)
 have de:=(Os a0 ad)
 have df:=(Ms (Ms (Ms (Ms (Ms ch ak) aa) ab) ac) ad)
 have dg:=(Y4 bh aa ab ac ad)
 have dh:=(K3 AJ c5 ab ac ad)
 obtain ⟨ar,di,c⟩:=bnd_sm c
 refine B7 (.none rfl) rfl rfl (Cg [Pt q 0,Ag [I a.body.op,Sb a.body.name,Sb a.body.tail,I a.body.type_,Cx a.body.num,Sl y a.body.args z,I a.body.at_],I a.type_] rfl) ?_
 refine Calls.mono (OQ l c8 da (ko0_2:=25) di dcd dcd db dc de df dg (Ah (x:=(AF.mk f g))) (Ab (x:=(AB.mk a.body.op a.body.name a.body.tail a.body.type_ a.body.num a.body.args a.body.at_)) dh)) ?_
 rintro _ ei ⟨dj,ej,ek,el,rfl,dk,dl,bt,bu,dm,dn⟩
 obtain ⟨dp,dq,rfl⟩:=AR bt
 obtain ⟨dr,ds,rfl⟩:=Own.len bu
 obtain rfl:=Aq dn
 refine ⟨_,rfl,?_⟩
 refine AA ?_
 refine AM ?_
 refine Vr (I (Wr (h+1))) ?_
 refine Vx (v:=I (Wr (h+1))) (Mv rfl) ?_
 refine AA ?_
 exact ⟨r,Nat.lt_succ_self r,_,dj,(Wr (h+1)),ar.2.2.why,ar.2.2.at_,ar.1,dp,dq,ar.2.1,dr,ds,Pu,(bi▸c),(Tn (T4 (Mo [22,23,25,26] ak) aa ab ac ad) dk),bt,bu,dm,dl⟩
 refine BZ ?_
 refine Sr ?_
 refine Vx (v:=Ag [I f,I g]) (Lx KZ rfl rfl (Bw bh)) ?_
 have dt:=(Bs (Y4 a5 ae af ag aj) ak)
 refine Eu (St (vs:=[I f,I g]) (cs':=[I f,I g]) G6 dt rfl rfl rfl rfl fun em du dv=>?_)
 refine AA ?_
 refine AW ?_
 obtain rfl:=AN c
 refine Xb (B:=B) a4 (SR rfl (.agg KZ rfl rfl (Bw du)) ?_)
 exact ⟨m,[I f,I g],rfl,Ho (T3 (T4 (Mo [21,22,23,24,25,26] av) an ae af ag) aj ak dv) a1,(Ah (x:=(AF.mk f g)))⟩
theorem S0(c:Nat):Gz.Spec (Gz c):=lk0 (Ro c)
def Ic.At(e:Col)(a:World)(f:Nat→Option Nat):Prop:=
 ∀{c d},f c=some d→
  Calls PG 113 #[Fl c] a fun g h=>∃l,g=.returned (Fl d)∧AS [] e a l h
def Ic.Spec(f:Nat→Option Nat):Prop:=
 ∀a c,Ic.At a c f
theorem S5(c:Col)(e:World)(f:∀b,c b<10):Ic.At c e Ic:=by
 intro g n a
 rw [Ic] at a
 refine Ay Tryz.func113 rfl Tryz.ntmps113 rfl fun B l o=>Sr<|Va (Fl (0:Nat))<|AA<|AY<|WC.cond (t:=true) rfl (fun h=>?_) (fun h=>by cases h)
 refine Sr<|Vm<|Bi a fun d m a=>Vx (v:=Fl d) (Zc (vs:=[Fl g]) rfl (WV m))<|Va (Fl d)<|AA<|AW ?_
 obtain rfl:=AN a
 refine O1 B l rfl (.tmp rfl)<|⟨c,rfl,Ho Rf f⟩
theorem T5:Ic.Spec Ic:=lk0 (S5)
def IE.At(e:Col)(a:World)(f:Nat→Option Bool):Prop:=
 ∀{c d},f c=some d→
  Calls PG 114 #[Fl c] a fun g h=>∃l,g=.returned (.bool d)∧AS [] e a l h
def IE.Spec(f:Nat→Option Bool):Prop:=
 ∀a c,IE.At a c f
theorem Qz(c:Col)(e:World)(f:∀b,c b<10):IE.At c e IE:=by
 intro a h d
 rw [IE] at d
 refine Ay Tryz.func114 rfl Tryz.ntmps114 rfl fun B g l=>Sr<|Va (.bool false)<|AA<|Sr<|Vm<|Vx (v:=.int .u64 ((a:Nat):Int)) (Oe (vs:=[Fl a]) rfl rfl)<|Vr (I (Wr ((a:Nat):Int)))<|Vr (.bool (decide ((Wr ((a:Nat):Int))<0)))<|Va (.bool (decide ((Wr ((a:Nat):Int))<0)))<|AA<|AW ?_
 obtain rfl:=AN d
 refine O1 B g rfl (.tmp rfl)<|⟨c,rfl,Ho Rf f⟩
theorem Rp:IE.Spec IE:=lk0 (Qz)
def G0.At(e:Col)(a:World)(f:Nat→Option Bool):Prop:=
 ∀{c d},f c=some d→
  Calls PG 88 #[Fl c] a fun g h=>∃l,g=.returned (.bool d)∧AS [] e a l h
def G0.Spec(f:Nat→Option Bool):Prop:=
 ∀a c,G0.At a c f
theorem Rq(g:Col)(l:World)(u:∀b,g b<10):G0.At g l G0:=by
 intro h w a
 rw [G0] at a
 refine Ay Tryz.func88 rfl Tryz.ntmps88 rfl fun B y ah=>Sr<|Va (.bool false)<|AA<|An (fun z r=>∃s m n,z=Env.puts s [(2,.bool n)]∧Hi n=some w∧AS [] g l m r) ?_ ?_
 refine AM<|Vm<|Vr (.bool (fge h (13938640846711685120:Nat)))<|Vm<|Bo a (fun f a=>?_) fun f a=>?_
 refine Gm f<|Gr f (.bool (fle h (4715268809856909312:Nat)))<|Vp f<|Vm<|Bo a (fun d a=>?_) fun d a=>?_
 refine Gm d<|Gm d<|Bi a fun aa ab a=>B7 (.guard (t:=true) (b:=true) rfl rfl rfl rfl (Cb d)) rfl rfl (Cg [Fl h] rfl)<|Calls.mono (T5 g l ab) ?_
 rintro _ ac ⟨o,rfl,p⟩
 refine ⟨_,rfl,?_⟩
 refine Gr d (.bool (feq h aa))<|Vp d<|Vm<|Bo a (fun c a=>?_) fun c a=>?_
 refine Gm c<|Gr c (.bool (fne h (0:Nat)))<|Gm c<|Bo a (fun e a=>?_) fun e a=>?_
 refine Pg e<|Pg e<|Pg e<|Gp c e<|Vp c<|Va (.bool true)<|AA<|⟨_,o,true,Pu,a,(Mo [] p)⟩
 refine Gm e<|Bi a fun q ad a=>B7 (.guard (t:=false) (b:=false) rfl rfl rfl rfl (Cb e)) rfl rfl (Cg [Fl h] rfl)<|Calls.mono (Rp o ac ad) ?_
 rintro _ ai ⟨ae,rfl,af⟩
 refine ⟨_,rfl,?_⟩
 refine Gr e (.bool (!q))<|Gp c e<|Vp c<|Va (.bool (!q))<|AA<|⟨_,ae,(!q),Pu,a,(Tn (Mo [] p) af)⟩
 refine Pg c<|Pg c<|Pg c<|Po<|Po<|Po<|Pg c<|Vp c<|Va (.bool false)<|AA<|⟨_,o,false,Pu,a,(Mo [] p)⟩
 refine Pg d<|Pg d<|Pg d<|Pg d<|Vp d<|Vm<|Pg rfl<|Pg rfl<|Pg rfl<|Po<|Po<|Po<|Pg rfl<|Vr (.bool false)<|Va (.bool false)<|AA<|⟨_,g,false,Pu,a,Rf⟩
 refine Pg f<|Pg f<|Vp f<|Vm<|Pg rfl<|Pg rfl<|Pg rfl<|Pg rfl<|Vr (.bool false)<|Vm<|Pg rfl<|Pg rfl<|Pg rfl<|Po<|Po<|Po<|Pg rfl<|Vr (.bool false)<|Va (.bool false)<|AA<|⟨_,g,false,Pu,a,Rf⟩
 rintro _ r ⟨s,m,n,rfl,a,ag⟩
 rw [Hi] at a
 refine AW ?_
 obtain rfl:=AN a
 refine O1 B y rfl (.tmp rfl)<|⟨m,rfl,Ho (Mo [] ag) u⟩
theorem Ot:G0.Spec G0:=lk0 (Rq)
def Bz.At(e:Col)(a:World)(f:(Nat×Nat)→Option Bool):Prop:=
 ∀{c d},f c=some d→
  Calls PG 54 #[Cx c] a fun g h=>∃l,g=.returned (.bool d)∧AS [] e a l h
def Bz.Spec(f:(Nat×Nat)→Option Bool):Prop:=
 ∀a c,Bz.At a c f
theorem Rr(d:Col)(f:World)(q:∀b,d b<10):Bz.At d f Bz:=by
 intro e r a
 rw [Bz] at a
 refine Ay Tryz.func54 rfl Tryz.ntmps54 rfl fun B s ad=>Sr<|Va (.bool false)<|AA<|An (fun u l=>∃m g h,u=Env.puts m [(2,.bool h)]∧KO h=some r∧AS [] d f g l) ?_ ?_
 refine AM<|Vm<|Vx (v:=Fl e.1) (Run.real rfl)<|Bi a fun ae w a=>Ca (Cg [Fl e.1] rfl) (Ot d f w) ?_
 rintro _ y ⟨n,rfl,o⟩
 refine Vm<|Bo a (fun c a=>?_) fun c a=>?_
 refine Gm c<|Gx c (v:=Fl e.2) (Run.imag rfl)<|Bi a fun p z a=>B7 (.guard (t:=true) (b:=true) rfl rfl rfl rfl (Cb c)) rfl rfl (Cg [Fl e.2] rfl)<|Calls.mono (Ot n y z) ?_
 rintro _ af ⟨aa,rfl,ab⟩
 refine ⟨_,rfl,?_⟩
 refine Vp c<|Va (.bool p)<|AA<|⟨_,aa,p,Pu,a,(Tn (Mo [] o) ab)⟩
 refine Pg c<|Pg c<|Pg c<|Vp c<|Va (.bool false)<|AA<|⟨_,n,false,Pu,a,(Mo [] o)⟩
 rintro _ l ⟨m,g,h,rfl,a,ac⟩
 rw [KO] at a
 refine AW ?_
 obtain rfl:=AN a
 refine O1 B s rfl (.tmp rfl)<|⟨g,rfl,Ho (Mo [] ac) q⟩
theorem C7:Bz.Spec Bz:=lk0 (Rr)
def DH.At(c:Col)(a:World)(f:AH→Option Int):Prop:=
 ∀{d e g},f d=some g→A1.rep c.F a e d→
  Calls PG 30 #[Ag e] a fun h l=>∃m,h=.returned (I g)∧AS [] c a m l
def DH.Spec(f:AH→Option Int):Prop:=
 ∀a c,DH.At a c f
theorem Rs(am:Nat)(an:Col)(bd:World)(az:∀b,an b<10):DH.At an bd (DH am):=by
 intro c b9 y a be
 rw [DH] at a
 obtain ⟨a0,a1,rfl,af⟩:=E1 (Bm be)
 refine Ay Tryz.func30 rfl Tryz.ntmps30 rfl fun B a2 cb=>Sr<|Ef<|BX an 20 rfl rfl fun w z bf o aa=>Va (I 0)<|AA<|Sr<|Va (.bool true)<|AA<|An (fun q a3=>∃d ag ah,q=Env.puts d [(3,.bool ah)]∧EN ah=some y∧AS [] w z ag a3) ?_ ?_
 refine Sr<|Vx (Fz I7 rfl)<|Vx (Ld EB rfl (Bc o rfl))<|AA<|Ad<|Sr<|Vr (.bool (c.type_==1))<|Va (.bool (c.type_==1))<|AA<|Cn a (fun bg a=>?_) fun bg a=>?_
 refine AM<|Vx (Fd Hp rfl)<|Vx (Ld Hq rfl (Bc o rfl))<|Bi a fun cc bh a=>Ca (Cg [Cx c.num] rfl) (C7 w z bh) ?_
 rintro _ cd ⟨ao,rfl,ab⟩
 refine Vm<|Bo a (fun h a=>?_) fun h a=>?_
 refine Gx h (Fd Ka rfl)<|have a4:=Bs o ab;Gx h (Ld N2 rfl (Bc a4 rfl))<|Gr h (.bool (!c.bool))<|Vp h<|Vm<|Bo a (fun e a=>?_) fun e a=>?_
 refine Gx e (Fd EU rfl)<|Gx e (Ld In rfl (Bc a4 rfl))<|have bi:=K2 Kd.cpx af aa ab; ?_
 obtain ⟨cf,cg,bj⟩:=AR bi
 refine Gx e (v:=I (c.list.length:Int)) (Ll IH bj)<|Gr e (.bool ((c.list.length:Int)==0))<|Vp e<|Va (.bool ((c.list.length:Int)==0))<|AA<|⟨_,ao,((c.list.length:Int)==0),Pu,a,(Mo [] ab)⟩
 refine Pg e<|Pg e<|Pg e<|Pg e<|Vp e<|Va (.bool false)<|AA<|⟨_,ao,false,Pu,a,(Mo [] ab)⟩
 refine Pg h<|Pg h<|Pg h<|Vp h<|Vm<|Pg rfl<|Pg rfl<|Pg rfl<|Pg rfl<|Vr (.bool false)<|Va (.bool false)<|AA<|⟨_,ao,false,Pu,a,(Mo [] ab)⟩
 refine Sr<|Vr (.bool (c.type_==2))<|Va (.bool (c.type_==2))<|AA<|Cn a (fun bk a=>?_) fun bk a=>?_
 refine AM<|Vx (Fd Hp rfl)<|Vx (Ld Hq rfl (Bc o rfl))<|Bi a fun ch bl a=>Ca (Cg [Cx c.num] rfl) (C7 w z bl) ?_
 rintro _ ci ⟨ap,rfl,ac⟩
 refine Vm<|Bo a (fun l a=>?_) fun l a=>?_
 refine Gx l (Fd Hp rfl)<|have a5:=Bs o ac;Gx l (Ld Hq rfl (Bc a5 rfl))<|Gx l (v:=.bool (ceq c.num ((0,0):Nat×Nat))) (Run.ceq rfl rfl)<|Vp l<|Vm<|Bo a (fun f a=>?_) fun f a=>?_
 refine Gx f (Fd EU rfl)<|Gx f (Ld In rfl (Bc a5 rfl))<|have bm:=K2 Kd.cpx af aa ac; ?_
 obtain ⟨cj,ck,bn⟩:=AR bm
 refine Gx f (v:=I (c.list.length:Int)) (Ll IH bn)<|Gr f (.bool ((c.list.length:Int)==0))<|Vp f<|Va (.bool ((c.list.length:Int)==0))<|AA<|⟨_,ap,((c.list.length:Int)==0),Pu,a,(Mo [] ac)⟩
 refine Pg f<|Pg f<|Pg f<|Pg f<|Vp f<|Va (.bool false)<|AA<|⟨_,ap,false,Pu,a,(Mo [] ac)⟩
 refine Pg l<|Pg l<|Pg l<|Vp l<|Vm<|Pg rfl<|Pg rfl<|Pg rfl<|Pg rfl<|Vr (.bool false)<|Va (.bool false)<|AA<|⟨_,ap,false,Pu,a,(Mo [] ac)⟩
 refine Sr<|Vr (.bool (c.type_==3))<|Va (.bool (c.type_==3))<|AA<|Cn a (fun bo a=>?_) fun bo a=>?_
 refine An (fun q aq=>∃d ai aj,q=Env.puts d [(1,Pt bf 0),(3,.bool aj)]∧Jb am c aj=some y∧AS [] w z ai aq) ?_ ?_
 refine AM<|Vx (Fd Hp rfl)<|Vx (Ld Hq rfl (Bc o rfl))<|Bi a fun cl bp a=>Ca (Cg [Cx c.num] rfl) (C7 w z bp) ?_
 rintro _ cm ⟨ar,rfl,ak⟩
 refine Vm<|Bo a (fun m a=>?_) fun m a=>?_
 refine Gx m (Fd Hp rfl)<|have a6:=Bs o ak;Gx m (Ld Hq rfl (Bc a6 rfl))<|Gx m (v:=.bool (ceq c.num ((0,0):Nat×Nat))) (Run.ceq rfl rfl)<|Vp m<|Vm<|Bo a (fun n a=>?_) fun n a=>?_
 refine Gx n (Fd Ka rfl)<|Gx n (Ld N2 rfl (Bc a6 rfl))<|Gr n (.bool (!c.bool))<|Vp n<|Va (.bool (!c.bool))<|AA<|⟨_,ar,(!c.bool),Pu,a,(Mo [] ak)⟩
 refine Pg n<|Pg n<|Pg n<|Vp n<|Va (.bool false)<|AA<|⟨_,ar,false,Pu,a,(Mo [] ak)⟩
 refine Pg m<|Pg m<|Pg m<|Vp m<|Vm<|Pg rfl<|Pg rfl<|Pg rfl<|Vr (.bool false)<|Va (.bool false)<|AA<|⟨_,ar,false,Pu,a,(Mo [] ak)⟩
 rintro _ aq ⟨d,ai,aj,rfl,a,au⟩
 rw [Jb] at a
 refine Sr<|Vx (Fd EU rfl)<|have bq:=Bs o au;Vx (Ld In rfl (Bc bq rfl))<|have a7:=K2 Kd.cpx af aa au; ?_
 obtain ⟨cn,co,br⟩:=AR a7
 refine Vx (v:=I (c.list.length:Int)) (Ll IH br)<|Vm<|AA<|Ad<|Bj (fun p q ad=>∃d r ae g,q=Env.puts d [(3,.bool ae),(56,Sl a0 c.list a1),(57,I (c.list.length:Int)),(58,I g)]∧Id c p ae g=some y∧AS [] ai aq r ad) am ?_ ?_
 exact ⟨_,ai,aj,0,Pu,a,Rf⟩
 rintro p _ ad ⟨d,r,ae,g,rfl,a,av⟩
 rcases p with _|p
 exact A6 a
 refine have a:J1 c (Id c p) ae g=some y:=a; ?_
 obtain ⟨bt,a8⟩:∃s,s=Id c p:=⟨_,rfl⟩
 rw [←a8,J1] at a
 refine Sr<|Vr (.bool (decide (g< (c.list.length:Int))))<|AA<|AY<|Cn a (fun bu a=>?_) fun bu a=>?_
 refine WC.skip<|An (fun q a9=>∃d aw al,q=Env.puts d [(3,.bool al),(56,Sl a0 c.list a1),(57,I (c.list.length:Int)),(58,I g)]∧KP g bt al=some y∧AS [] r ad aw a9) ?_ ?_
 refine Ad<|Sr<|Bi a fun ax bv a=>have bw:=Ss Kd.cpx a7 av; ?_
 obtain ⟨bx,bz,cq,ba,b0,b1,b2,b3,ay⟩:=BG (κ:=Kd.cpx) bw bv
 replace ay:A3 r ad bx (bz+g.toNat*1) ba:=ay
 obtain rfl:=(show ba=[Cx ax] from b3)
 refine Vx (Ix IH b0 rfl b1 b2)<|Vx (Ld Hq rfl (A3.cell0 ay rfl))<|Va (Cx ax)<|AA<|AM<|Vm<|Vm<|Bo a (fun u a=>?_) fun u a=>?_
 refine Gm u<|Bi a fun bb b4 a=>B7 (.guard (t:=true) (b:=true) rfl rfl rfl rfl (Cb u)) rfl rfl (Cg [Cx ax] rfl)<|Calls.mono (C7 r ad b4) ?_
 rintro _ cr ⟨b5,rfl,b6⟩
 refine ⟨_,rfl,?_⟩
 refine Vp u<|Va (.bool bb)<|AA<|⟨_,b5,bb,Pu,a,(Mo [] b6)⟩
 refine Pg u<|Pg u<|Vp u<|Va (.bool false)<|AA<|⟨_,r,false,Pu,a,Rf⟩
 rintro _ a9 ⟨d,aw,al,rfl,a,b7⟩
 rw [KP] at a
 refine AM<|Vr (I (Wr (g+1)))<|Vm<|AA<|⟨p,Nat.lt_succ_self p,_,aw,al,(Wr (g+1)),Pu,(a8▸a),(Tn (Mo [] av) b7)⟩
 refine BZ<|⟨_,r,ae,Pu,a,(Tn (Mo [] au) av)⟩
 refine AM<|Va (.bool false)<|AA<|⟨_,w,false,Pu,a,Rf⟩
 rintro _ a3 ⟨d,ag,ah,rfl,a,bc⟩
 rw [EN] at a
 refine AY<|Sr<|Vm<|Vr (.bool (!ah))<|AA<|Cn a (fun b8 a=>?_) fun b8 a=>?_
 refine Sr<|Va (I 3)<|AA<|AW ?_
 obtain rfl:=AN a
 refine O1 B a2 rfl (.tmp rfl)<|⟨ag,rfl,Ho (Tn (Mo [] aa) bc) az⟩
 refine WC.skip<|Sr<|Va (I 0)<|AA<|AW ?_
 obtain rfl:=AN a
 refine O1 B a2 rfl (.tmp rfl)<|⟨ag,rfl,Ho (Tn (Mo [] aa) bc) az⟩
theorem Ou(c:Nat):DH.Spec (DH c):=lk0 (Rs c)
def IT.At(c:Col)(a:World)(f:Al→Option Th):Prop:=
 ∀{d e g},f d=some g→HB.rep c.F a e d→
  Calls PG 55 #[Ag e] a fun n h=>∃l m,n=.returned m∧AS [] c a l h∧MTh 89 90 l.F h m g
def IT.Spec(f:Al→Option Th):Prop:=
 ∀a c,IT.At a c f
theorem T6(e:Col)(h:World)(l:∀b,e b<10):IT.At e h IT:=by
 intro a ae af f m
 rw [IT] at f
 obtain ⟨ag,n,o,rfl,g,p,q⟩:=DR m
 obtain ⟨r,s,rfl⟩:=AR g
 refine Ay Tryz.func55 rfl Tryz.ntmps55 rfl fun B u ah=>Sr<|Ef<|BX e 20 rfl rfl fun ai aj c w d=>Va .nilFunc<|AA<|Sr<|Vx (v:=.func (.func 89) #[] [Pt c 0].toArray) (IB (vs:=[Pt c 0]) rfl)<|Va (.func (.func 89) #[] [Pt c 0].toArray)<|AA<|AW<|have y:=Ss Kd.cpx g d;have z:=Mt p d;have aa:=Mt q d; ?_
 obtain ⟨ab,ac,ad⟩:=MTh.layDone (L:=90) (cp:=[I a.plain.type_,Cx a.plain.num,.bool a.plain.bool,Sl r a.plain.list s]) (hv:=n) (tv:=o) w dcd (BD (x:=(AH.mk a.plain.type_ a.plain.num a.plain.bool a.plain.list)) y) z aa
 obtain rfl:=AN f
 refine O1 B u rfl (.tmp rfl)<|⟨ab,.func (.func 89) #[] [Pt c 0].toArray,rfl,Ho (Tn (Mo [20] d) ac) l,ad⟩
theorem Lh:IT.Spec IT:=by
 intro a c n o p d e
 refine Calls.mono (T6 (recol (see []) a) c (Hw lbr a) d (Bl HB e [])) ?_
 rintro q r ⟨f,g,h,l,m⟩
 exact ⟨glue [] c a f,g,h,DI l NO,MTh.glue m⟩
def Ie.At(c:Col)(a:World)(f:AH→Option Th):Prop:=
 ∀{d e g},f d=some g→A1.rep c.F a e d→
  Calls PG 31 #[Ag e] a fun n h=>∃l m,n=.returned m∧AS [] c a l h∧MTh 89 90 l.F h m g
def Ie.Spec(f:AH→Option Th):Prop:=
 ∀a c,Ie.At a c f
theorem S6(ab:Nat)(p:Col)(av:World)(ac:∀b,p b<10):Ie.At p av (Ie ab):=by
 intro c bu ad a aw
 rw [Ie] at a
 obtain ⟨r,u,rfl,q⟩:=E1 (Bm aw)
 refine Ay Tryz.func31 rfl Tryz.ntmps31 rfl fun B ae bw=>Sr<|Ef<|BX p 20 rfl rfl fun af ag ax w n=>Va .nilFunc<|AA<|AY<|Sr<|Vx (Fz I7 rfl)<|Vx (Ld EB rfl (Bc w rfl))<|Vr (.bool (c.type_ != 3))<|AA<|Cn a (fun ay a=>?_) fun ay a=>?_
 refine Sr<|Vx (Lx DX rfl rfl (Bw w))<|Vx (v:=Ag [I c.type_,Cx c.num,.bool c.bool,Sl r c.list u,.nilFunc,.nilFunc]) (Bp Kb M8 rfl (.cons rfl rfl rfl .nil))<|have az:=Ss Kd.cpx q n;Bi a fun bx a0 a=>Ca (Cg [Ag [I c.type_,Cx c.num,.bool c.bool,Sl r c.list u,.nilFunc,.nilFunc]] rfl) (Lh af ag a0 (Cj (x:=(Al.mk c Th.nil Th.nil)) az MTh.nil MTh.nil)) ?_
 rintro _ bz ⟨a1,ah,rfl,a2,a3⟩
 refine Va ah<|AA<|AW ?_
 obtain rfl:=AN a
 refine O1 B ae rfl (.tmp rfl)<|⟨a1,ah,rfl,Ho (Tn (Mo [] n) a2) ac,a3⟩
 refine WC.skip<|Sr<|Vx (v:=Ag [I 3,Cx (((0,0):Nat×Nat)),.bool false,.slice none 0 0]) (Bp FU Jm rfl (.cons rfl rfl rfl .nil))<|Vx (v:=Ag [I 3,Cx (((0,0):Nat×Nat)),.bool false,.slice none 0 0,.nilFunc,.nilFunc]) (Bp Kb M8 rfl (.cons rfl rfl rfl .nil))<|Bi a fun a4 a5 a=>Ca (Cg [Ag [I 3,Cx (((0,0):Nat×Nat)),.bool false,.slice none 0 0,.nilFunc,.nilFunc]] rfl) (Lh af ag a5 (Cj (x:=(Al.mk (AH.mk 3 ((0,0):Nat×Nat) false []) Th.nil Th.nil)) Bd MTh.nil MTh.nil)) ?_
 rintro _ a6 ⟨ai,aj,rfl,y,a7⟩
 refine Va aj<|AA<|AY<|Sr<|Vx (Fd EU rfl)<|have ak:=Bs w y;Vx (Ld In rfl (Bc ak rfl))<|have al:=K2 Kd.cpx q n y; ?_
 obtain ⟨b0,b1,a8⟩:=AR al
 refine Vx (v:=I (c.list.length:Int)) (Ll IH a8)<|Vr (I (Wr ((c.list.length:Int) - 1)))<|Va (I (Wr ((c.list.length:Int) - 1)))<|AA<|Ad<|Bj (fun e a9 h=>∃am g l f d,a9=Env.puts am [(1,Pt ax 0),(3,f),(4,I d)]∧JC c e l d=some ad∧AS [] ai a6 g h∧MTh 89 90 g.F h f l) ab ?_ ?_
 exact ⟨_,ai,a4,aj,(Wr ((c.list.length:Int) - 1)),Pu,a,Rf,a7⟩
 rintro e _ h ⟨am,g,l,f,d,rfl,a,o,z⟩
 rcases e with _|e
 exact A6 a
 refine have a:KQ c (JC c e) l d=some ad:=a; ?_
 obtain ⟨b2,an⟩:∃s,s=JC c e:=⟨_,rfl⟩
 rw [←an,KQ] at a
 refine AY<|Sr<|Vm<|Vr (.bool (decide (d≥0)))<|AA<|Cn a (fun ba a=>?_) fun ba a=>?_
 refine WC.skip<|AY<|Ad<|AM<|Vx (Fd EU rfl)<|have bb:=Bs ak o;Vx (Ld In rfl (Bc bb rfl))<|Vm<|Bi a fun m bc a=>have bd:=Ss Kd.cpx al o; ?_
 obtain ⟨be,o130,b3,ao,bf,bg,bh,bi,aa⟩:=BG (κ:=Kd.cpx) bd bc
 replace aa:A3 g h be (o130+d.toNat*1) ao:=aa
 obtain rfl:=(show ao=[Cx m] from bi)
 refine Vx (Ix IH bf rfl bg bh)<|Vx (Ld Hq rfl (A3.cell0 aa rfl))<|Vx (v:=Ag [I 1,Cx m,.bool false,.slice none 0 0]) (Bp FU Jm rfl (.cons rfl rfl rfl (.cons rfl rfl rfl .nil)))<|Vx (v:=Ag [I 1,Cx m,.bool false,.slice none 0 0,.nilFunc,.nilFunc]) (Bp Kb M8 rfl (.cons rfl rfl rfl .nil))<|Bi a fun bj bk a=>Ca (Cg [Ag [I 1,Cx m,.bool false,.slice none 0 0,.nilFunc,.nilFunc]] rfl) (Lh g h bk (Cj (x:=(Al.mk (AH.mk 1 m false []) Th.nil Th.nil)) Bd MTh.nil MTh.nil)) ?_
 rintro _ bl ⟨bm,ap,rfl,aq,ar⟩
 refine Vm<|Vx (v:=Ag [I 0,Cx (((0,0):Nat×Nat)),.bool false,.slice none 0 0,ap,f]) (Bp Kb M8 rfl (.cons rfl (Ir (MTh.one ar)) rfl (.cons rfl (Ir (MTh.one z)) rfl .nil)))<|have bn:=Mt z aq;Bi a fun bo bp a=>Ca (Cg [Ag [I 0,Cx (((0,0):Nat×Nat)),.bool false,.slice none 0 0,ap,f]] rfl) (Lh bm bl bp (Cj (x:=(Al.mk (AH.mk 0 ((0,0):Nat×Nat) false []) bj l)) Bd ar bn)) ?_
 rintro _ b4 ⟨bq,au,rfl,br,bt⟩
 refine Va au<|AA<|AM<|Vm<|Vr (I (Wr (d - 1)))<|Va (I (Wr (d - 1)))<|AA<|⟨e,Nat.lt_succ_self e,_,bq,bo,au,(Wr (d - 1)),Pu,(an▸a),(T2 (Mo [] o) aq br),bt⟩
 refine BZ<|Sr<|Vm<|Va f<|AA<|AW ?_
 obtain rfl:=AN a
 refine O1 B ae rfl (.tmp rfl)<|⟨g,f,rfl,Ho (T2 (Mo [] n) y o) ac,z⟩
theorem T7(c:Nat):Ie.Spec (Ie c):=by
 intro a d o p q e f
 refine Calls.mono (S6 c (recol (see []) a) d (Hw lbr a) e (Bl A1 f [])) ?_
 rintro r s ⟨g,h,l,m,n⟩
 exact ⟨glue [] d a g,h,l,DI m NO,MTh.glue n⟩
def Da.At(c:Col)(a:World)(f:Nm→Bts→Option Th):Prop:=
 ∀{d v0 e g},f d e=some g→GQ 89 90 c.F a v0 d→
  Calls PG 56 #[v0,Sb e] a fun n h=>∃l m,n=.returned m∧AS [] c a l h∧MTh 89 90 l.F h m g
def Da.Spec(f:Nm→Bts→Option Th):Prop:=
 ∀a c,Da.At a c f
theorem PM(r:Nat)(g:Col)(u:World)(ab:∀b,g b<10):Da.At g u (Da r):=by
 intro ac v0 d w a ad
 rw [Da] at a
 refine Ay Tryz.func56 rfl Tryz.ntmps56 rfl fun B ae am=>Sr<|Va .nilFunc<|AA<|AY<|Ad<|Bj (fun c af h=>∃y e l m,af=Env.puts y [(0,m),(1,Sb d)]∧EH d c l=some w∧AS [] g u e h∧GQ 89 90 e.F h m l) r ?_ ?_
 exact ⟨_,g,ac,v0,Pu,a,Rf,ad⟩
 rintro c _ h ⟨y,e,l,m,rfl,a,z,ag⟩
 rcases c with _|c
 exact A6 a
 refine have a:Kn d (EH d c) l=some w:=a; ?_
 obtain ⟨an,aa⟩:∃s,s=EH d c:=⟨_,rfl⟩
 rw [←aa,Kn] at a
 refine AY<|Sr<|Vm<|Bi a fun n ah a=>?_
 obtain ⟨ai,o,p,q,f,aj,ak⟩:=GQ.el ag ah
 replace f:A3 e h ai 0 [Sb n.1,o,p]:=f
 refine Vx (Nc q)<|Vx (Fz YH rfl)<|Vx (Ld CS rfl (A3.cell0 f rfl))<|Vm<|Vx (v:=.bool (!(n.1==d))) (Run.strNe rfl rfl)<|AA<|Cn a (fun al a=>?_) fun al a=>?_
 refine WC.skip<|Ad<|AM<|Vm<|Vx (Nc q)<|Vx (Fd YI rfl)<|Vx (Ld YN rfl (A3.cell (k:=2) f rfl))<|Va p<|AA<|⟨c,Nat.lt_succ_self c,_,e,n.2.2,p,Pu,(aa▸a),(Mo [] z),ak⟩
 refine BZ<|Sr<|Vm<|Vx (Nc q)<|Vx (Fd Vs rfl)<|Vx (Ld Od rfl (A3.cell (k:=1) f rfl))<|Va o<|AA<|AW ?_
 obtain rfl:=AN a
 refine O1 B ae rfl (.tmp rfl)<|⟨e,o,rfl,Ho (Mo [] z) ab,aj⟩
theorem Pp(c:Nat):Da.Spec (Da c):=by
 intro a d o v0 p q e f
 refine Calls.mono (PM c (recol (see []) a) d (Hw lbr a) e (GQ.recol f [])) ?_
 rintro r s ⟨g,h,l,m,n⟩
 exact ⟨glue [] d a g,h,l,DI m NO,MTh.glue n⟩
def I3.At(c:Col)(a:World)(f:Al→Option Al):Prop:=
 ∀{d e g v0 h},f d=some h→A3 c a e 0 g→HB.rep c.F a g d→v0.oneCell'=true→
  Calls PG 89 #[v0,Pt e 0] a fun o l=>∃m n,o=.returned (Ag n)∧AS [] c a m l∧HB.rep m.F l n h
def I3.Spec(f:Al→Option Al):Prop:=
 ∀a c,I3.At a c f
theorem Ru(l:Col)(r:World)(s:∀b,l b<10):I3.At l r I3:=by
 intro a ag ah v0 ai m u w _p0
 rw [I3] at m
 obtain ⟨aj,c,d,rfl,n,o,p⟩:=DR w
 obtain ⟨e,f,rfl⟩:=AR n
 refine Ay Tryz.func89 rfl Tryz.ntmps89 rfl fun B y ak=>Sr<|Ef<|AU l 20 Kb rfl fun z al am aa g=>AA<|Sr<|have ab:=Es u g;Vx (Lx Jl rfl rfl (A3.part0 ab [I a.plain.type_,Cx a.plain.num,.bool a.plain.bool,Sl e a.plain.list f,c,d] rfl))<|have q:=Ss Kd.cpx n g;Eu<|BB (vs:=[I a.plain.type_,Cx a.plain.num,.bool a.plain.bool,Sl e a.plain.list f,c,d]) (cs':=[I a.plain.type_,Cx a.plain.num,.bool a.plain.bool,Sl e a.plain.list f,c,d]) JM rfl rfl rfl rfl (AP rfl (AP rfl (AP rfl (AP (FZ q) (AP (MTh.one o) (AP (MTh.one p) BO)))))) aa dcd rfl rfl fun an ac h=>AA<|AW ?_
 obtain rfl:=AN m
 refine O1 B y rfl (.agg Jl rfl rfl (Bw ac))<|have ad:=Ss Kd.cpx q h;have ae:=Mt (Mt o g) h;have af:=Mt (Mt p g) h;⟨z,[I a.plain.type_,Cx a.plain.num,.bool a.plain.bool,Sl e a.plain.list f,c,d],rfl,Ho (Tn (Mo [20] g) h) s,(Cj (x:=a) ad ae af)⟩
theorem S7:I3.Spec I3:=by
 intro a c p q r v0 s d e f g
 refine Calls.mono (Ru (recol (see []) a) c (Hw lbr a) d (Ph e []) (Bl HB f []) g) ?_
 rintro u w ⟨h,l,m,n,o⟩
 exact ⟨glue [] c a h,l,m,DI n NO,FW HB o⟩
def JD.Spec(f:AB→Option AB):Prop:=
 ∀g d {h l kn0 kn1 e m},f h=some m→[kn0,kn1].Nodup→0∉[kn0,kn1]→AJ.rep g.F d l h→e.oneCell'=true→
  Calls PG 57 #[Ag l,e] d fun q a=>∃c n o p,q=.returned (.func (.func 90) #[] [Pt n 0,Pt o 0].toArray)∧AS [kn0,kn1] g d c a∧Bk c a kn0 n p 56∧AJ.rep c.F a p m∧Bk c a kn1 o [e] 85
theorem S8(c:Col)(h:World)(y:∀b,c b<10){a:AB}{n:List Value}{l:Value}{o:AB}(z:AJ.rep c.F h n a)(aa:l.oneCell'=true)(p:JD a=some o):
  Calls PG 57 #[Ag n,l] h fun ab d=>∃e q r s,ab=.returned (.func (.func 90) #[] [Pt q 0,Pt r 0].toArray)∧AS [1,2] c h e d∧Bk e d 1 q s 56∧AJ.rep e.F d s o∧Bk e d 2 r [l] 85:=by
 rw [JD] at p
 obtain ⟨ac,ad,rfl,u⟩:=E1 (Ai z)
 refine Ay Tryz.func57 rfl Tryz.ntmps57 rfl fun B ae am=>Sr<|Ef<|BX c 1 rfl rfl fun af an f ag w=>Ef<|BX af 2 rfl (Ir aa) fun ah ao g ai m=>Va .nilFunc<|AA<|Sr<|Vx (v:=.func (.func 90) #[] [Pt f 0,Pt g 0].toArray) (IB (vs:=[Pt f 0,Pt g 0]) rfl)<|Va (.func (.func 90) #[] [Pt f 0,Pt g 0].toArray)<|AA<|AW ?_
 obtain rfl:=AN p
 refine O1 B ae rfl (.tmp rfl)<|have aj:=Bs ag m;have ak:=K2 AJ u w m;⟨ah,f,g,[I a.op,Sb a.name,Sb a.tail,I a.type_,Cx a.num,Sl ac a.args ad,I a.at_],rfl,Ho (Tn (Mo [] w) m) y,aj,(Ab (x:=a) ak),ai⟩
theorem L2:JD.Spec JD:=by
 intro a d s u kn0 kn1 w y e hnd hnz f g
 refine Calls.mono (S8 (recol (see [kn0,kn1]) a) d (Hw lbr a) (Bl AJ f [kn0,kn1]) g e) ?_
 rintro z aa ⟨h,l,m,n,o,c,p,q,r⟩
 exact ⟨glue [kn0,kn1] d a h,l,m,n,o,DI c (Hu rfl rfl),Ur (j:=0) p rfl rfl c,FW AJ q,Ur (j:=1) r rfl rfl c⟩
def H2.At(e:Col)(c:World)(f:Int→Option (Int×Int)):Prop:=
 ∀{d a},f d=some a→
  Calls PG 115 #[I d] c fun g h=>∃l,g=.returned (.tuple #[I a.1,I a.2])∧AS [] e c l h
def H2.Spec(f:Int→Option (Int×Int)):Prop:=
 ∀a c,H2.At a c f
theorem S9(g:Col)(u:World)(l:∀b,g b<10):H2.At g u H2:=by
 intro c w a
 rw [H2] at a
 refine Ay Tryz.func115 rfl Tryz.ntmps115 rfl fun B m ad=>Sr<|Va (I 0)<|Va (I 0)<|AA<|AY<|Ad<|An (fun p q=>∃h d r,p=Env.puts h [(0,I c),(4,.bool r)]∧Lz c r=some w∧AS [] g u d q) ?_ ?_
 refine AM<|Vm<|Vr (.bool (decide (c≥8)))<|Vm<|Bo a (fun e a=>?_) fun e a=>?_
 refine Gm e<|Gr e (.bool (decide (c≤13)))<|Vp e<|Va (.bool (decide (c≤13)))<|AA<|⟨_,g,(decide (c≤13)),Pu,a,Rf⟩
 refine Pg e<|Pg e<|Vp e<|Va (.bool false)<|AA<|⟨_,g,false,Pu,a,Rf⟩
 rintro _ q ⟨h,d,r,rfl,a,n⟩
 rw [Lz] at a
 refine Cn a (fun aa a=>?_) fun aa a=>?_
 refine Sr<|Va (I 2)<|Va (I 1)<|AA<|AW ?_
 obtain rfl:=AN a
 refine O2 B m rfl (.tmp rfl) (.tmp rfl)<|⟨d,rfl,Ho (Mo [] n) l⟩
 refine Sr<|Vm<|Vr (.bool (c==14))<|Va (.bool (c==14))<|AA<|Cn a (fun ab a=>?_) fun ab a=>?_
 refine Sr<|Va (I 1)<|Va (I 2)<|AA<|AW ?_
 obtain rfl:=AN a
 refine O2 B m rfl (.tmp rfl) (.tmp rfl)<|⟨d,rfl,Ho (Mo [] n) l⟩
 refine An (fun p y=>∃h o s,p=Env.puts h [(14,.bool s)]∧Ly s=some w∧AS [] d q o y) ?_ ?_
 refine AM<|Vm<|Vr (.bool (decide (c≥15)))<|Vm<|Bo a (fun f a=>?_) fun f a=>?_
 refine Gm f<|Gr f (.bool (decide (c≤17)))<|Vp f<|Va (.bool (decide (c≤17)))<|AA<|⟨_,d,(decide (c≤17)),Pu,a,Rf⟩
 refine Pg f<|Pg f<|Vp f<|Va (.bool false)<|AA<|⟨_,d,false,Pu,a,Rf⟩
 rintro _ y ⟨h,o,s,rfl,a,z⟩
 rw [Ly] at a
 refine Cn a (fun ac a=>?_) fun ac a=>?_
 refine Sr<|Va (I 1)<|Va (I 1)<|AA<|AW ?_
 obtain rfl:=AN a
 refine O2 B m rfl (.tmp rfl) (.tmp rfl)<|⟨o,rfl,Ho (Tn (Mo [] n) z) l⟩
 refine WC.skip<|Sr<|Va (I 0)<|Va (I 0)<|AA<|AW ?_
 obtain rfl:=AN a
 refine O2 B m rfl (.tmp rfl) (.tmp rfl)<|⟨o,rfl,Ho (Tn (Mo [] n) z) l⟩
theorem T8:H2.Spec H2:=lk0 (S9)
def Dw.At(m:Col)(c:World)(f:(Nat×Nat)→Int→Option (AH×Int)):Prop:=
 ∀{d e a},f d e=some a→
  Calls PG 116 #[Cx d,I e] c fun n g=>∃h l,n=.returned (.tuple #[Ag l,I a.2])∧AS [] m c h g∧A1.rep h.F g l a.1
def Dw.Spec(f:(Nat×Nat)→Int→Option (AH×Int)):Prop:=
 ∀a c,Dw.At a c f
theorem Rw(d:Col)(n:World)(e:∀b,d b<10):Dw.At d n Dw:=by
 intro c f u a
 rw [Dw] at a
 refine Ay Tryz.func116 rfl Tryz.ntmps116 rfl fun B g w=>Sr<|Ef<|AU d 20 FU rfl fun h y z l m=>Va (I 0)<|AA<|AY<|Sr<|Vm<|Vr (.bool (f != 0))<|AA<|Cn a (fun o a=>?_) fun o a=>?_
 refine Sr<|Vx (v:=Ag [I 0,Cx (((0,0):Nat×Nat)),.bool false,.slice none 0 0]) (Bp FU Jm rfl .nil)<|Vm<|Eu<|St GO l rfl rfl rfl rfl fun aa p q=>Va (I f)<|AA<|AW ?_
 obtain rfl:=AN a
 refine O2 B g rfl (.agg DX rfl rfl (Bw p)) (.tmp rfl)<|⟨h,[I 0,Cx (((0,0):Nat×Nat)),.bool false,.slice none 0 0],rfl,Ho (Tn (Mo [20] m) q) e,(BD (x:=(AH.mk 0 ((0,0):Nat×Nat) false [])) Bd)⟩
 refine WC.skip<|Sr<|Vm<|Vx (v:=Ag [I 1,Cx c,.bool false,.slice none 0 0]) (Bp FU Jm rfl (.cons rfl rfl rfl (.cons rfl rfl rfl .nil)))<|Eu<|St GO l rfl rfl rfl rfl fun ab r s=>Va (I 0)<|AA<|AW ?_
 obtain rfl:=AN a
 refine O2 B g rfl (.agg DX rfl rfl (Bw r)) (.tmp rfl)<|⟨h,[I 1,Cx c,.bool false,.slice none 0 0],rfl,Ho (Tn (Mo [20] m) s) e,(BD (x:=(AH.mk 1 c false [])) Bd)⟩
theorem Io:Dw.Spec Dw:=lk0 (Rw)
def Ex.At(e:Col)(c:World)(f:(Nat×Nat)→Option ((Nat×Nat)×Int)):Prop:=
 ∀{d a},f d=some a→
  Calls PG 137 #[Cx d] c fun g h=>∃l,g=.returned (.tuple #[Cx a.1,I a.2])∧AS [] e c l h
def Ex.Spec(f:(Nat×Nat)→Option ((Nat×Nat)×Int)):Prop:=
 ∀a c,Ex.At a c f
theorem Rx(e:Col)(f:World)(g:∀b,e b<10):Ex.At e f Ex:=by
 intro h u a
 rw [Ex] at a
 refine Ay Tryz.func137 rfl Tryz.ntmps137 rfl fun B l w=>Sr<|Va (Cx (((0,0):Nat×Nat)))<|Va (I 0)<|AA<|Sr<|Vm<|Vx (v:=Fl h.1) (Run.real rfl)<|Bi a fun c o a=>Vx (v:=Fl c) (Run.fadd rfl rfl o)<|Vm<|Vx (v:=Fl h.2) (Run.imag rfl)<|Bi a fun d p a=>Vx (v:=Fl d) (Run.fadd rfl rfl p)<|Vx (v:=Cx ((c,d))) (Run.complex rfl rfl)<|Va (Cx ((c,d)))<|AA<|AY<|Sr<|Vm<|Bi a fun q r a=>Ca (Cg [Cx ((c,d))] rfl) (C7 e f r) ?_
 rintro _ y ⟨m,rfl,n⟩
 refine Vr (.bool (!q))<|AA<|Cn a (fun s a=>?_) fun s a=>?_
 refine Sr<|Va (Cx (((0,0):Nat×Nat)))<|Va (I 50)<|AA<|AW ?_
 obtain rfl:=AN a
 refine O2 B l rfl (.tmp rfl) (.tmp rfl)<|⟨m,rfl,Ho (Mo [] n) g⟩
 refine WC.skip<|Sr<|Vm<|Va (Cx ((c,d)))<|Va (I 0)<|AA<|AW ?_
 obtain rfl:=AN a
 refine O2 B l rfl (.tmp rfl) (.tmp rfl)<|⟨m,rfl,Ho (Mo [] n) g⟩
theorem Kc:Ex.Spec Ex:=lk0 (Rx)
def H3.At(e:Col)(c:World)(f:(Nat×Nat)→Option ((Nat×Nat)×Int)):Prop:=
 ∀{d a},f d=some a→
  Calls PG 117 #[Cx d] c fun g h=>∃l,g=.returned (.tuple #[Cx a.1,I a.2])∧AS [] e c l h
def H3.Spec(f:(Nat×Nat)→Option ((Nat×Nat)×Int)):Prop:=
 ∀a c,H3.At a c f
theorem TA(e:Col)(f:World)(g:∀b,e b<10):H3.At e f H3:=by
 intro c w a
 rw [H3] at a
 refine Ay Tryz.func117 rfl Tryz.ntmps117 rfl fun B h y=>Sr<|Va (Cx (((0,0):Nat×Nat)))<|Va (I 0)<|AA<|AY<|Sr<|Vm<|Bi a fun n o a=>Ca (Cg [Cx c] rfl) (C7 e f o) ?_
 rintro _ p ⟨l,rfl,m⟩
 refine Vr (.bool (!n))<|AA<|Cn a (fun q a=>?_) fun q a=>?_
 refine Sr<|Va (Cx (((0,0):Nat×Nat)))<|Va (I 3)<|AA<|AW ?_
 obtain rfl:=AN a
 refine O2 B h rfl (.tmp rfl) (.tmp rfl)<|⟨l,rfl,Ho (Mo [] m) g⟩
 refine WC.skip<|Sr<|Vm<|Vx (v:=Fl c.1) (Run.real rfl)<|Vm<|Vx (v:=Fl c.2) (Run.imag rfl)<|Vr (Fl (Op.negFloat .f64 c.2))<|Vx (v:=Cx ((c.1,(Op.negFloat .f64 c.2)))) (Run.complex rfl rfl)<|Bi a fun d r a=>Ca (Cg [Cx ((c.1,(Op.negFloat .f64 c.2)))] rfl) (Kc l p r) ?_
 rintro _ z ⟨s,rfl,u⟩
 refine Vr (Cx d.1)<|Vr (I d.2)<|Va (Cx d.1)<|Va (I d.2)<|AA<|AW ?_
 obtain rfl:=AN a
 refine O2 B h rfl (.tmp rfl) (.tmp rfl)<|⟨s,rfl,Ho (Tn (Mo [] m) u) g⟩
theorem T9:H3.Spec H3:=lk0 (TA)
def Jc.At(g:Col)(c:World)(f:(Nat×Nat)→(Nat×Nat)→Option ((Nat×Nat)×Int)):Prop:=
 ∀{d e a},f d e=some a→
  Calls PG 138 #[Cx d,Cx e] c fun h l=>∃m,h=.returned (.tuple #[Cx a.1,I a.2])∧AS [] g c m l
def Jc.Spec(f:(Nat×Nat)→(Nat×Nat)→Option ((Nat×Nat)×Int)):Prop:=
 ∀a c,Jc.At a c f
theorem UA(d:Col)(g:World)(o:∀b,d b<10):Jc.At d g Jc:=by
 intro h l z a
 rw [Jc] at a
 refine Ay Tryz.func138 rfl Tryz.ntmps138 rfl fun B p am=>Sr<|Va (Cx (((0,0):Nat×Nat)))<|Va (I 0)<|AA<|AY<|An (fun aa m=>∃q e n,aa=Env.puts q [(0,Cx h),(1,Cx l),(13,.bool n)]∧LN h l n=some z∧AS [] d g e m) ?_ ?_
 refine AM<|Vm<|Bi a fun ab ac a=>Ca (Cg [Cx h] rfl) (C7 d g ac) ?_
 rintro _ ad ⟨r,rfl,s⟩
 refine Vr (.bool (!ab))<|Vm<|Bo a (fun c a=>?_) fun c a=>?_
 refine Pg c<|Pg c<|Pg c<|Vp c<|AA<|⟨_,r,true,Pu,a,(Mo [] s)⟩
 refine Gm c<|Bi a fun u ae a=>B7 (.guard (t:=false) (b:=false) rfl rfl rfl rfl (Cb c)) rfl rfl (Cg [Cx l] rfl)<|Calls.mono (C7 r ad ae) ?_
 rintro _ an ⟨af,rfl,ag⟩
 refine ⟨_,rfl,?_⟩
 refine Gr c (.bool (!u))<|Vp c<|AA<|⟨_,af,(!u),Pu,a,(Tn (Mo [] s) ag)⟩
 rintro _ m ⟨q,e,n,rfl,a,w⟩
 rw [LN] at a
 refine Cn a (fun ah a=>?_) fun ah a=>?_
 refine Sr<|Va (Cx (((0,0):Nat×Nat)))<|Va (I 3)<|AA<|AW ?_
 obtain rfl:=AN a
 refine O2 B p rfl (.tmp rfl) (.tmp rfl)<|⟨e,rfl,Ho (Mo [] w) o⟩
 refine WC.skip<|Sr<|Vm<|Vm<|Bi a fun y ai a=>Vx (v:=Cx y) (Run.cadd rfl rfl ai)<|Bi a fun f aj a=>Ca (Cg [Cx y] rfl) (Kc e m aj) ?_
 rintro _ ao ⟨ak,rfl,al⟩
 refine Vr (Cx f.1)<|Vr (I f.2)<|Va (Cx f.1)<|Va (I f.2)<|AA<|AW ?_
 obtain rfl:=AN a
 refine O2 B p rfl (.tmp rfl) (.tmp rfl)<|⟨ak,rfl,Ho (Tn (Mo [] w) al) o⟩
theorem U7:Jc.Spec Jc:=lk0 (UA)
def Jd.At(g:Col)(c:World)(f:(Nat×Nat)→(Nat×Nat)→Option ((Nat×Nat)×Int)):Prop:=
 ∀{d e a},f d e=some a→
  Calls PG 139 #[Cx d,Cx e] c fun h l=>∃m,h=.returned (.tuple #[Cx a.1,I a.2])∧AS [] g c m l
def Jd.Spec(f:(Nat×Nat)→(Nat×Nat)→Option ((Nat×Nat)×Int)):Prop:=
 ∀a c,Jd.At a c f
theorem UB(d:Col)(g:World)(o:∀b,d b<10):Jd.At d g Jd:=by
 intro h l z a
 rw [Jd] at a
 refine Ay Tryz.func139 rfl Tryz.ntmps139 rfl fun B p am=>Sr<|Va (Cx (((0,0):Nat×Nat)))<|Va (I 0)<|AA<|AY<|An (fun aa m=>∃q e n,aa=Env.puts q [(0,Cx h),(1,Cx l),(13,.bool n)]∧LO h l n=some z∧AS [] d g e m) ?_ ?_
 refine AM<|Vm<|Bi a fun ab ac a=>Ca (Cg [Cx h] rfl) (C7 d g ac) ?_
 rintro _ ad ⟨r,rfl,s⟩
 refine Vr (.bool (!ab))<|Vm<|Bo a (fun c a=>?_) fun c a=>?_
 refine Pg c<|Pg c<|Pg c<|Vp c<|AA<|⟨_,r,true,Pu,a,(Mo [] s)⟩
 refine Gm c<|Bi a fun u ae a=>B7 (.guard (t:=false) (b:=false) rfl rfl rfl rfl (Cb c)) rfl rfl (Cg [Cx l] rfl)<|Calls.mono (C7 r ad ae) ?_
 rintro _ an ⟨af,rfl,ag⟩
 refine ⟨_,rfl,?_⟩
 refine Gr c (.bool (!u))<|Vp c<|AA<|⟨_,af,(!u),Pu,a,(Tn (Mo [] s) ag)⟩
 rintro _ m ⟨q,e,n,rfl,a,w⟩
 rw [LO] at a
 refine Cn a (fun ah a=>?_) fun ah a=>?_
 refine Sr<|Va (Cx (((0,0):Nat×Nat)))<|Va (I 3)<|AA<|AW ?_
 obtain rfl:=AN a
 refine O2 B p rfl (.tmp rfl) (.tmp rfl)<|⟨e,rfl,Ho (Mo [] w) o⟩
 refine WC.skip<|Sr<|Vm<|Vm<|Bi a fun y ai a=>Vx (v:=Cx y) (Run.csub rfl rfl ai)<|Bi a fun f aj a=>Ca (Cg [Cx y] rfl) (Kc e m aj) ?_
 rintro _ ao ⟨ak,rfl,al⟩
 refine Vr (Cx f.1)<|Vr (I f.2)<|Va (Cx f.1)<|Va (I f.2)<|AA<|AW ?_
 obtain rfl:=AN a
 refine O2 B p rfl (.tmp rfl) (.tmp rfl)<|⟨ak,rfl,Ho (Tn (Mo [] w) al) o⟩
theorem U9:Jd.Spec Jd:=lk0 (UB)
def Je.At(g:Col)(c:World)(f:(Nat×Nat)→(Nat×Nat)→Option ((Nat×Nat)×Int)):Prop:=
 ∀{d e a},f d e=some a→
  Calls PG 140 #[Cx d,Cx e] c fun h l=>∃m,h=.returned (.tuple #[Cx a.1,I a.2])∧AS [] g c m l
def Je.Spec(f:(Nat×Nat)→(Nat×Nat)→Option ((Nat×Nat)×Int)):Prop:=
 ∀a c,Je.At a c f
theorem UC(d:Col)(g:World)(o:∀b,d b<10):Je.At d g Je:=by
 intro h l z a
 rw [Je] at a
 refine Ay Tryz.func140 rfl Tryz.ntmps140 rfl fun B p am=>Sr<|Va (Cx (((0,0):Nat×Nat)))<|Va (I 0)<|AA<|AY<|An (fun aa m=>∃q e n,aa=Env.puts q [(0,Cx h),(1,Cx l),(13,.bool n)]∧LP h l n=some z∧AS [] d g e m) ?_ ?_
 refine AM<|Vm<|Bi a fun ab ac a=>Ca (Cg [Cx h] rfl) (C7 d g ac) ?_
 rintro _ ad ⟨r,rfl,s⟩
 refine Vr (.bool (!ab))<|Vm<|Bo a (fun c a=>?_) fun c a=>?_
 refine Pg c<|Pg c<|Pg c<|Vp c<|AA<|⟨_,r,true,Pu,a,(Mo [] s)⟩
 refine Gm c<|Bi a fun u ae a=>B7 (.guard (t:=false) (b:=false) rfl rfl rfl rfl (Cb c)) rfl rfl (Cg [Cx l] rfl)<|Calls.mono (C7 r ad ae) ?_
 rintro _ an ⟨af,rfl,ag⟩
 refine ⟨_,rfl,?_⟩
 refine Gr c (.bool (!u))<|Vp c<|AA<|⟨_,af,(!u),Pu,a,(Tn (Mo [] s) ag)⟩
 rintro _ m ⟨q,e,n,rfl,a,w⟩
 rw [LP] at a
 refine Cn a (fun ah a=>?_) fun ah a=>?_
 refine Sr<|Va (Cx (((0,0):Nat×Nat)))<|Va (I 3)<|AA<|AW ?_
 obtain rfl:=AN a
 refine O2 B p rfl (.tmp rfl) (.tmp rfl)<|⟨e,rfl,Ho (Mo [] w) o⟩
 refine WC.skip<|Sr<|Vm<|Vm<|Bi a fun y ai a=>Vx (v:=Cx y) (Run.cmul rfl rfl ai)<|Bi a fun f aj a=>Ca (Cg [Cx y] rfl) (Kc e m aj) ?_
 rintro _ ao ⟨ak,rfl,al⟩
 refine Vr (Cx f.1)<|Vr (I f.2)<|Va (Cx f.1)<|Va (I f.2)<|AA<|AW ?_
 obtain rfl:=AN a
 refine O2 B p rfl (.tmp rfl) (.tmp rfl)<|⟨ak,rfl,Ho (Tn (Mo [] w) al) o⟩
theorem VA:Je.Spec Je:=lk0 (UC)
def H9.At(e:Col)(a:World)(f:Nat→Option Nat):Prop:=
 ∀{c d},f c=some d→
  Calls PG 145 #[Fl c] a fun g h=>∃l,g=.returned (Fl d)∧AS [] e a l h
def H9.Spec(f:Nat→Option Nat):Prop:=
 ∀a c,H9.At a c f
theorem VB(c:Col)(e:World)(f:∀b,c b<10):H9.At c e H9:=by
 intro a h d
 rw [H9] at d
 refine Ay Tryz.func145 rfl Tryz.ntmps145 rfl fun B g l=>Sr<|Va (Fl (0:Nat))<|AA<|Sr<|Vm<|Vx (v:=.int .u64 ((a:Nat):Int)) (Oe (vs:=[Fl a]) rfl rfl)<|Vr (.int .u64 (Cm .u64 ((a:Nat):Int) 9223372036854775808))<|Vx (v:=Fl (((Cm .u64 ((a:Nat):Int) 9223372036854775808)).toNat)) (Qq (vs:=[.int .u64 (Cm .u64 ((a:Nat):Int) 9223372036854775808)]) rfl rfl)<|Va (Fl (((Cm .u64 ((a:Nat):Int) 9223372036854775808)).toNat))<|AA<|AW ?_
 obtain rfl:=AN d
 refine O1 B g rfl (.tmp rfl)<|⟨c,rfl,Ho Rf f⟩
theorem Ov:H9.Spec H9:=lk0 (VB)
def HG.At(g:Col)(a:World)(f:Nat→Int→Option Bool):Prop:=
 ∀{c d e},f c d=some e→
  Calls PG 152 #[Fl c,I d] a fun h l=>∃m,h=.returned (.bool e)∧AS [] g a m l
def HG.Spec(f:Nat→Int→Option Bool):Prop:=
 ∀a c,HG.At a c f
theorem TB(c:Col)(f:World)(o:∀b,c b<10):HG.At c f HG:=by
 intro d h p a
 rw [HG] at a
 refine Ay Tryz.func152 rfl Tryz.ntmps152 rfl fun B q ab=>Sr<|Va (.bool false)<|AA<|An (fun r l=>∃m g e,r=Env.puts m [(0,Fl e)]∧KC e=some p∧AS [] c f g l) ?_ ?_
 refine Sr<|Vm<|Vr (.bool (h==0))<|AA<|Cn a (fun s a=>?_) fun s a=>?_
 refine AM<|Vm<|Bi a fun n u a=>Ca (Cg [Fl d] rfl) (Ov c f u) ?_
 rintro _ ac ⟨w,rfl,y⟩
 refine Va (Fl n)<|AA<|⟨_,w,n,Pu,a,(Mo [] y)⟩
 refine Sr<|Vm<|Vr (.bool (decide (h<0)))<|AA<|Cn a (fun z a=>?_) fun z a=>?_
 refine AM<|Vm<|Vr (Fl (Op.negFloat .f64 d))<|Va (Fl (Op.negFloat .f64 d))<|AA<|⟨_,c,(Op.negFloat .f64 d),Pu,a,Rf⟩
 refine WC.skip<|⟨_,c,d,Pu,a,Rf⟩
 rintro _ l ⟨m,g,e,rfl,a,aa⟩
 rw [KC] at a
 refine Sr<|Vm<|Vr (.bool (fgt e (9218868437227405311:Nat)))<|Va (.bool (fgt e (9218868437227405311:Nat)))<|AA<|AW ?_
 obtain rfl:=AN a
 refine O1 B q rfl (.tmp rfl)<|⟨g,rfl,Ho (Mo [] aa) o⟩
theorem NH:HG.Spec HG:=lk0 (TB)
def Gc.At(e:Col)(a:World)(f:Nat→Option Bool):Prop:=
 ∀{c d},f c=some d→
  Calls PG 153 #[Fl c] a fun g h=>∃l,g=.returned (.bool d)∧AS [] e a l h
def Gc.Spec(f:Nat→Option Bool):Prop:=
 ∀a c,Gc.At a c f
theorem TC(c:Col)(e:World)(f:∀b,c b<10):Gc.At c e Gc:=by
 intro a h d
 rw [Gc] at d
 refine Ay Tryz.func153 rfl Tryz.ntmps153 rfl fun B g l=>Sr<|Va (.bool false)<|AA<|Sr<|Vm<|Vm<|Vr (.bool (fne a a))<|Va (.bool (fne a a))<|AA<|AW ?_
 obtain rfl:=AN d
 refine O1 B g rfl (.tmp rfl)<|⟨c,rfl,Ho Rf f⟩
theorem L3:Gc.Spec Gc:=lk0 (TC)
def LQ.At(d:Col)(a:World)(f:Option Nat):Prop:=
 ∀{c},f=some c→
  Calls PG 154 #[] a fun e g=>∃h,e=.returned (Fl c)∧AS [] d a h g
def LQ.Spec(f:Option Nat):Prop:=
 ∀a c,LQ.At a c f
theorem VC(a:Col)(d:World)(e:∀b,a b<10):LQ.At a d LQ:=by
 intro g c
 rw [LQ] at c
 refine Ay Tryz.func154 rfl Tryz.ntmps154 rfl fun B f h=>Sr<|Va (Fl (0:Nat))<|AA<|Sr<|Vx (v:=Fl ((9221120237041090561:Int).toNat)) (Qq (vs:=[.int .u64 9221120237041090561]) rfl rfl)<|Va (Fl ((9221120237041090561:Int).toNat))<|AA<|AW ?_
 obtain rfl:=AN c
 refine O1 B f rfl (.tmp rfl)<|⟨a,rfl,Ho Rf e⟩
theorem Vv:LQ.Spec LQ:=lk0 (VC)
def EO.At(e:Col)(c:World)(f:Nat→Option (Nat×Int)):Prop:=
 ∀{d a},f d=some a→
  Calls PG 164 #[Fl d] c fun g h=>∃l,g=.returned (.tuple #[Fl a.1,I a.2])∧AS [] e c l h
def EO.Spec(f:Nat→Option (Nat×Int)):Prop:=
 ∀a c,EO.At a c f
theorem Pq(c:Col)(d:World)(e:∀b,c b<10):EO.At c d EO:=by
 intro f r a
 rw [EO] at a
 refine Ay Tryz.func164 rfl Tryz.ntmps164 rfl fun B g s=>Sr<|Va (Fl (0:Nat))<|Va (I 0)<|AA<|AY<|Sr<|Vm<|Bi a fun n o a=>Ca (Cg [Fl f] rfl) (Ov c d o) ?_
 rintro _ u ⟨h,rfl,l⟩
 refine Vr (.bool (flt_ n (4503599627370496:Nat)))<|AA<|Cn a (fun p a=>?_) fun p a=>?_
 refine Sr<|Vm<|Bi a fun m q a=>Vx (v:=Fl m) (Run.fmul rfl rfl q)<|Va (Fl m)<|Va (I (-52:Int))<|AA<|AW ?_
 obtain rfl:=AN a
 refine O2 B g rfl (.tmp rfl) (.tmp rfl)<|⟨h,rfl,Ho (Mo [] l) e⟩
 refine WC.skip<|Sr<|Vm<|Va (Fl f)<|Va (I 0)<|AA<|AW ?_
 obtain rfl:=AN a
 refine O2 B g rfl (.tmp rfl) (.tmp rfl)<|⟨h,rfl,Ho (Mo [] l) e⟩
theorem M4:EO.Spec EO:=lk0 (Pq)
def JE.At(e:Col)(c:World)(f:Nat→Option (Nat×Int)):Prop:=
 ∀{d a},f d=some a→
  Calls PG 159 #[Fl d] c fun g h=>∃l,g=.returned (.tuple #[Fl a.1,I a.2])∧AS [] e c l h
def JE.Spec(f:Nat→Option (Nat×Int)):Prop:=
 ∀a c,JE.At a c f
theorem TD(f:Col)(h:World)(l:∀b,f b<10):JE.At f h JE:=by
 intro d w a
 rw [JE] at a
 refine Ay Tryz.func159 rfl Tryz.ntmps159 rfl fun B m ak=>Sr<|Va (Fl (0:Nat))<|Va (I 0)<|AA<|AY<|Ad<|Sr<|Vm<|Vr (.bool (feq d (0:Nat)))<|Va (.bool (feq d (0:Nat)))<|AA<|Cn a (fun y a=>?_) fun y a=>?_
 refine Sr<|Vm<|Va (Fl d)<|Va (I 0)<|AA<|AW ?_
 obtain rfl:=AN a
 refine O2 B m rfl (.tmp rfl) (.tmp rfl)<|⟨f,rfl,Ho Rf l⟩
 refine An (fun z n=>∃p g o,z=Env.puts p [(0,Fl d),(9,.bool o)]∧Kp d o=some w∧AS [] f h g n) ?_ ?_
 refine AM<|Vm<|Bi a fun al aa a=>Ca (Cg [Fl d,I 0] rfl) (NH f h aa) ?_
 rintro _ ab ⟨q,rfl,r⟩
 refine Vm<|Bo a (fun e a=>?_) fun e a=>?_
 refine Pg e<|Pg e<|Vp e<|Va (.bool true)<|AA<|⟨_,q,true,Pu,a,(Mo [] r)⟩
 refine Gm e<|Bi a fun s ac a=>B7 (.guard (t:=false) (b:=false) rfl rfl rfl rfl (Cb e)) rfl rfl (Cg [Fl d] rfl)<|Calls.mono (L3 q ab ac) ?_
 rintro _ am ⟨ad,rfl,ae⟩
 refine ⟨_,rfl,?_⟩
 refine Vp e<|Va (.bool s)<|AA<|⟨_,ad,s,Pu,a,(Tn (Mo [] r) ae)⟩
 rintro _ n ⟨p,g,o,rfl,a,u⟩
 rw [Kp] at a
 refine Cn a (fun af a=>?_) fun af a=>?_
 refine Sr<|Vm<|Va (Fl d)<|Va (I 0)<|AA<|AW ?_
 obtain rfl:=AN a
 refine O2 B m rfl (.tmp rfl) (.tmp rfl)<|⟨g,rfl,Ho (Mo [] u) l⟩
 refine WC.skip<|Sr<|Vm<|Bi a fun c ag a=>Ca (Cg [Fl d] rfl) (M4 g n ag) ?_
 rintro _ an ⟨ah,rfl,ai⟩
 refine Vm<|Vr (Fl c.1)<|Vr (I c.2)<|Va (Fl c.1)<|Va (I c.2)<|AA<|Sr<|Vm<|Vx (v:=.int .u64 ((c.1:Nat):Int)) (Oe (vs:=[Fl c.1]) rfl rfl)<|Va (.int .u64 ((c.1:Nat):Int))<|AA<|Sr<|Vm<|Vm<|Bi a fun ao aj a=>Vx (v:=.int .u64 (shr .u64 ((c.1:Nat):Int) 52)) (Run.shr rfl rfl (Un aj))<|Vr (.int .u64 (Ej .u64 (shr .u64 ((c.1:Nat):Int) 52) 2047))<|Vr (I (Wr (Ej .u64 (shr .u64 ((c.1:Nat):Int) 52) 2047)))<|Vr (I (Wr ((Wr (Ej .u64 (shr .u64 ((c.1:Nat):Int) 52) 2047)) - 1023)))<|Vr (I (Wr ((Wr ((Wr (Ej .u64 (shr .u64 ((c.1:Nat):Int) 52) 2047)) - 1023))+1)))<|Vr (I (Wr (c.2+(Wr ((Wr ((Wr (Ej .u64 (shr .u64 ((c.1:Nat):Int) 52) 2047)) - 1023))+1)))))<|Va (I (Wr (c.2+(Wr ((Wr ((Wr (Ej .u64 (shr .u64 ((c.1:Nat):Int) 52) 2047)) - 1023))+1)))))<|AA<|Sr<|Vm<|Vr (.int .u64 (Cm .u64 ((c.1:Nat):Int) 9218868437227405312))<|Va (.int .u64 (Cm .u64 ((c.1:Nat):Int) 9218868437227405312))<|AA<|Sr<|Vm<|Vr (.int .u64 (Ln .u64 (Cm .u64 ((c.1:Nat):Int) 9218868437227405312) 4602678819172646912))<|Va (.int .u64 (Ln .u64 (Cm .u64 ((c.1:Nat):Int) 9218868437227405312) 4602678819172646912))<|AA<|Sr<|Vm<|Vx (v:=Fl (((Ln .u64 (Cm .u64 ((c.1:Nat):Int) 9218868437227405312) 4602678819172646912)).toNat)) (Qq (vs:=[.int .u64 (Ln .u64 (Cm .u64 ((c.1:Nat):Int) 9218868437227405312) 4602678819172646912)]) rfl rfl)<|Va (Fl (((Ln .u64 (Cm .u64 ((c.1:Nat):Int) 9218868437227405312) 4602678819172646912)).toNat))<|AA<|AW ?_
 obtain rfl:=AN a
 refine O2 B m rfl (.tmp rfl) (.tmp rfl)<|⟨ah,rfl,Ho (Tn (Mo [] u) ai) l⟩
theorem UD:JE.Spec JE:=lk0 (TD)
def H4.At(e:Col)(c:World)(f:Nat→Option (Nat×Int)):Prop:=
 ∀{d a},f d=some a→
  Calls PG 155 #[Fl d] c fun g h=>∃l,g=.returned (.tuple #[Fl a.1,I a.2])∧AS [] e c l h
def H4.Spec(f:Nat→Option (Nat×Int)):Prop:=
 ∀a c,H4.At a c f
theorem TE(d:Col)(e:World)(f:∀b,d b<10):H4.At d e H4:=by
 intro g p a
 rw [H4] at a
 refine Ay Tryz.func155 rfl Tryz.ntmps155 rfl fun B l q=>Sr<|Va (Fl (0:Nat))<|Va (I 0)<|AA<|AY<|WC.cond (t:=false) rfl (fun h=>by cases h) fun h=>WC.skip<|Sr<|Vm<|Bi a fun c m a=>Ca (Cg [Fl g] rfl) (UD d e m) ?_
 rintro _ r ⟨n,rfl,o⟩
 refine Vr (Fl c.1)<|Vr (I c.2)<|Va (Fl c.1)<|Va (I c.2)<|AA<|AW ?_
 obtain rfl:=AN a
 refine O2 B l rfl (.tmp rfl) (.tmp rfl)<|⟨n,rfl,Ho (Mo [] o) f⟩
theorem PY:H4.Spec H4:=lk0 (TE)
def HP.At(g:Col)(a:World)(f:Nat→Nat→Option Nat):Prop:=
 ∀{c d e},f c d=some e→
  Calls PG 146 #[Fl c,Fl d] a fun h l=>∃m,h=.returned (Fl e)∧AS [] g a m l
def HP.Spec(f:Nat→Nat→Option Nat):Prop:=
 ∀a c,HP.At a c f
theorem QH(d:Col)(f:World)(g:∀b,d b<10):HP.At d f HP:=by
 intro a c l e
 rw [HP] at e
 refine Ay Tryz.func146 rfl Tryz.ntmps146 rfl fun B h m=>Sr<|Va (Fl (0:Nat))<|AA<|Sr<|Vm<|Vx (v:=.int .u64 ((a:Nat):Int)) (Oe (vs:=[Fl a]) rfl rfl)<|Vr (.int .u64 (Cm .u64 ((a:Nat):Int) 9223372036854775808))<|Vm<|Vx (v:=.int .u64 ((c:Nat):Int)) (Oe (vs:=[Fl c]) rfl rfl)<|Vr (.int .u64 (Ej .u64 ((c:Nat):Int) 9223372036854775808))<|Vr (.int .u64 (Ln .u64 (Cm .u64 ((a:Nat):Int) 9223372036854775808) (Ej .u64 ((c:Nat):Int) 9223372036854775808)))<|Vx (v:=Fl (((Ln .u64 (Cm .u64 ((a:Nat):Int) 9223372036854775808) (Ej .u64 ((c:Nat):Int) 9223372036854775808))).toNat)) (Qq (vs:=[.int .u64 (Ln .u64 (Cm .u64 ((a:Nat):Int) 9223372036854775808) (Ej .u64 ((c:Nat):Int) 9223372036854775808))]) rfl rfl)<|Va (Fl (((Ln .u64 (Cm .u64 ((a:Nat):Int) 9223372036854775808) (Ej .u64 ((c:Nat):Int) 9223372036854775808))).toNat))<|AA<|AW ?_
 obtain rfl:=AN e
 refine O1 B h rfl (.tmp rfl)<|⟨d,rfl,Ho Rf g⟩
theorem Q0:HP.Spec HP:=lk0 (QH)
def Kq.At(e:Col)(a:World)(f:Int→Option Nat):Prop:=
 ∀{c d},f c=some d→
  Calls PG 165 #[I c] a fun g h=>∃l,g=.returned (Fl d)∧AS [] e a l h
def Kq.Spec(f:Int→Option Nat):Prop:=
 ∀a c,Kq.At a c f
theorem VD(d:Col)(f:World)(l:∀b,d b<10):Kq.At d f Kq:=by
 intro m n a
 rw [Kq] at a
 refine Ay Tryz.func165 rfl Tryz.ntmps165 rfl fun B o s=>Sr<|Va (Fl (0:Nat))<|AA<|Sr<|Va (.int .u64 0)<|AA<|An (fun p g=>∃h e c,p=Env.puts h [(3,.int .u64 c)]∧My c=some n∧AS [] d f e g) ?_ ?_
 refine Sr<|Vm<|Vr (.bool (decide (m≥0)))<|AA<|Cn a (fun q a=>?_) fun q a=>?_
 refine AM<|Va (.int .u64 9218868437227405312)<|AA<|⟨_,d,9218868437227405312,Pu,a,Rf⟩
 refine AM<|Va (.int .u64 18442240474082181120)<|AA<|⟨_,d,18442240474082181120,Pu,a,Rf⟩
 rintro _ g ⟨h,e,c,rfl,a,r⟩
 rw [My] at a
 refine Sr<|Vm<|Vx (v:=Fl (c.toNat)) (Qq (vs:=[.int .u64 c]) rfl rfl)<|Va (Fl (c.toNat))<|AA<|AW ?_
 obtain rfl:=AN a
 refine O1 B o rfl (.tmp rfl)<|⟨e,rfl,Ho (Mo [] r) l⟩
theorem RN:Kq.Spec Kq:=lk0 (VD)
def JF.At(g:Col)(a:World)(f:Nat→Int→Option Nat):Prop:=
 ∀{c d e},f c d=some e→
  Calls PG 161 #[Fl c,I d] a fun h l=>∃m,h=.returned (Fl e)∧AS [] g a m l
def JF.Spec(f:Nat→Int→Option Nat):Prop:=
 ∀a c,JF.At a c f
theorem TF(n:Col)(u:World)(h:∀b,n b<10):JF.At n u JF:=by
 intro f d ac a
 rw [JF] at a
 refine Ay Tryz.func161 rfl Tryz.ntmps161 rfl fun B l bc=>Sr<|Va (Fl (0:Nat))<|AA<|AY<|Ad<|Sr<|Vm<|Vr (.bool (feq f (0:Nat)))<|Va (.bool (feq f (0:Nat)))<|AA<|Cn a (fun ai a=>?_) fun ai a=>?_
 refine Sr<|Vm<|Va (Fl f)<|AA<|AW ?_
 obtain rfl:=AN a
 refine O1 B l rfl (.tmp rfl)<|⟨n,rfl,Ho Rf h⟩
 refine An (fun w y=>∃o q z,w=Env.puts o [(0,Fl f),(1,I d),(12,.bool z)]∧Ks f d z=some ac∧AS [] n u q y) ?_ ?_
 refine AM<|Vm<|Bi a fun bd aj a=>Ca (Cg [Fl f,I 0] rfl) (NH n u aj) ?_
 rintro _ ak ⟨ad,rfl,ae⟩
 refine Vm<|Bo a (fun g a=>?_) fun g a=>?_
 refine Pg g<|Pg g<|Vp g<|Va (.bool true)<|AA<|⟨_,ad,true,Pu,a,(Mo [] ae)⟩
 refine Gm g<|Bi a fun af al a=>B7 (.guard (t:=false) (b:=false) rfl rfl rfl rfl (Cb g)) rfl rfl (Cg [Fl f] rfl)<|Calls.mono (L3 ad ak al) ?_
 rintro _ be ⟨am,rfl,an⟩
 refine ⟨_,rfl,?_⟩
 refine Vp g<|Va (.bool af)<|AA<|⟨_,am,af,Pu,a,(Tn (Mo [] ae) an)⟩
 rintro _ y ⟨o,q,z,rfl,a,p⟩
 rw [Ks] at a
 refine Cn a (fun ao a=>?_) fun ao a=>?_
 refine Sr<|Vm<|Va (Fl f)<|AA<|AW ?_
 obtain rfl:=AN a
 refine O1 B l rfl (.tmp rfl)<|⟨q,rfl,Ho (Mo [] p) h⟩
 refine WC.skip<|Sr<|Vm<|Bi a fun c ap a=>Ca (Cg [Fl f] rfl) (M4 q y ap) ?_
 rintro _ r ⟨m,rfl,s⟩
 refine Vm<|Vr (Fl c.1)<|Vr (I c.2)<|Va (Fl c.1)<|Va (I c.2)<|AA<|Sr<|Vm<|Vm<|Vr (I (Wr (d+c.2)))<|Va (I (Wr (d+c.2)))<|AA<|Sr<|Vm<|Vx (v:=.int .u64 ((c.1:Nat):Int)) (Oe (vs:=[Fl c.1]) rfl rfl)<|Va (.int .u64 ((c.1:Nat):Int))<|AA<|Sr<|Vm<|Vm<|Bi a fun bf aq a=>Vx (v:=.int .u64 (shr .u64 ((c.1:Nat):Int) 52)) (Run.shr rfl rfl (Un aq))<|Vr (I (Wr (shr .u64 ((c.1:Nat):Int) 52)))<|Vr (I (Ej .i64 (Wr (shr .u64 ((c.1:Nat):Int) 52)) 2047))<|Vr (I (Wr ((Ej .i64 (Wr (shr .u64 ((c.1:Nat):Int) 52)) 2047) - 1023)))<|Vr (I (Wr ((Wr (d+c.2))+(Wr ((Ej .i64 (Wr (shr .u64 ((c.1:Nat):Int) 52)) 2047) - 1023)))))<|Va (I (Wr ((Wr (d+c.2))+(Wr ((Ej .i64 (Wr (shr .u64 ((c.1:Nat):Int) 52)) 2047) - 1023)))))<|AA<|AY<|Sr<|Vm<|Vr (.bool (decide ((Wr ((Wr (d+c.2))+(Wr ((Ej .i64 (Wr (shr .u64 ((c.1:Nat):Int) 52)) 2047) - 1023))))< (-1075:Int))))<|AA<|Cn a (fun ar a=>?_) fun ar a=>?_
 refine Sr<|Vm<|Bi a fun au av a=>Ca (Cg [Fl (0:Nat),Fl c.1] rfl) (Q0 m r av) ?_
 rintro _ bg ⟨aw,rfl,ax⟩
 refine Va (Fl au)<|AA<|AW ?_
 obtain rfl:=AN a
 refine O1 B l rfl (.tmp rfl)<|⟨aw,rfl,Ho (T2 (Mo [] p) s ax) h⟩
 refine WC.skip<|AY<|Sr<|Vm<|Vr (.bool (decide ((Wr ((Wr (d+c.2))+(Wr ((Ej .i64 (Wr (shr .u64 ((c.1:Nat):Int) 52)) 2047) - 1023))))>1023)))<|AA<|Cn a (fun ay a=>?_) fun ay a=>?_
 refine AY<|Sr<|Vm<|Vr (.bool (flt_ c.1 (0:Nat)))<|AA<|Cn a (fun az a=>?_) fun az a=>?_
 refine Sr<|Bi a fun a0 a1 a=>Ca (Cg [I (-1:Int)] rfl) (RN m r a1) ?_
 rintro _ bh ⟨a2,rfl,a3⟩
 refine Va (Fl a0)<|AA<|AW ?_
 obtain rfl:=AN a
 refine O1 B l rfl (.tmp rfl)<|⟨a2,rfl,Ho (T2 (Mo [] p) s a3) h⟩
 refine WC.skip<|Sr<|Bi a fun a4 a5 a=>Ca (Cg [I 1] rfl) (RN m r a5) ?_
 rintro _ bi ⟨a6,rfl,a7⟩
 refine Va (Fl a4)<|AA<|AW ?_
 obtain rfl:=AN a
 refine O1 B l rfl (.tmp rfl)<|⟨a6,rfl,Ho (T2 (Mo [] p) s a7) h⟩
 refine WC.skip<|Sr<|Va (Fl (4607182418800017408:Nat))<|AA<|An (fun w ag=>∃o aa e ab,w=Env.puts o [(1,I e),(6,.int .u64 ((c.1:Nat):Int)),(7,Fl ab)]∧Kr c e ab=some ac∧AS [] m r aa ag) ?_ ?_
 refine Sr<|Vm<|Vr (.bool (decide ((Wr ((Wr (d+c.2))+(Wr ((Ej .i64 (Wr (shr .u64 ((c.1:Nat):Int) 52)) 2047) - 1023))))< (-1022:Int))))<|AA<|Cn a (fun a8 a=>?_) fun a8 a=>?_
 refine Sr<|Vm<|Vr (I (Wr ((Wr ((Wr (d+c.2))+(Wr ((Ej .i64 (Wr (shr .u64 ((c.1:Nat):Int) 52)) 2047) - 1023))))+53)))<|Va (I (Wr ((Wr ((Wr (d+c.2))+(Wr ((Ej .i64 (Wr (shr .u64 ((c.1:Nat):Int) 52)) 2047) - 1023))))+53)))<|AA<|AM<|Va (Fl (4368491638549381120:Nat))<|AA<|⟨_,m,(Wr ((Wr ((Wr (d+c.2))+(Wr ((Ej .i64 (Wr (shr .u64 ((c.1:Nat):Int) 52)) 2047) - 1023))))+53)),(4368491638549381120:Nat),Pu,a,Rf⟩
 refine WC.skip<|⟨_,m,(Wr ((Wr (d+c.2))+(Wr ((Ej .i64 (Wr (shr .u64 ((c.1:Nat):Int) 52)) 2047) - 1023)))),(4607182418800017408:Nat),Pu,a,Rf⟩
 rintro _ ag ⟨o,aa,e,ab,rfl,a,a9⟩
 rw [Kr] at a
 refine Sr<|Vm<|Vr (.int .u64 (Cm .u64 ((c.1:Nat):Int) 9218868437227405312))<|Va (.int .u64 (Cm .u64 ((c.1:Nat):Int) 9218868437227405312))<|AA<|Sr<|Vm<|Vm<|Vr (I (Wr (e+1023)))<|Vr (.int .u64 (IntKind.u64.wrap (Wr (e+1023))))<|Bi a fun bj ba a=>Vx (v:=.int .u64 (shl .u64 (IntKind.u64.wrap (Wr (e+1023))) 52)) (Run.shl rfl rfl (Un ba))<|Vr (.int .u64 (Ln .u64 (Cm .u64 ((c.1:Nat):Int) 9218868437227405312) (shl .u64 (IntKind.u64.wrap (Wr (e+1023))) 52)))<|Va (.int .u64 (Ln .u64 (Cm .u64 ((c.1:Nat):Int) 9218868437227405312) (shl .u64 (IntKind.u64.wrap (Wr (e+1023))) 52)))<|AA<|Sr<|Vm<|Vm<|Vx (v:=Fl (((Ln .u64 (Cm .u64 ((c.1:Nat):Int) 9218868437227405312) (shl .u64 (IntKind.u64.wrap (Wr (e+1023))) 52))).toNat)) (Qq (vs:=[.int .u64 (Ln .u64 (Cm .u64 ((c.1:Nat):Int) 9218868437227405312) (shl .u64 (IntKind.u64.wrap (Wr (e+1023))) 52))]) rfl rfl)<|Bi a fun ah bb a=>Vx (v:=Fl ah) (Run.fmul rfl rfl bb)<|Va (Fl ah)<|AA<|AW ?_
 obtain rfl:=AN a
 refine O1 B l rfl (.tmp rfl)<|⟨aa,rfl,Ho (T2 (Mo [] p) s a9) h⟩
theorem UE:JF.Spec JF:=lk0 (TF)
def If.At(g:Col)(a:World)(f:Nat→Int→Option Nat):Prop:=
 ∀{c d e},f c d=some e→
  Calls PG 156 #[Fl c,I d] a fun h l=>∃m,h=.returned (Fl e)∧AS [] g a m l
def If.Spec(f:Nat→Int→Option Nat):Prop:=
 ∀a c,If.At a c f
theorem TG(c:Col)(d:World)(e:∀b,c b<10):If.At c d If:=by
 intro f g q a
 rw [If] at a
 refine Ay Tryz.func156 rfl Tryz.ntmps156 rfl fun B l r=>Sr<|Va (Fl (0:Nat))<|AA<|AY<|WC.cond (t:=false) rfl (fun h=>by cases h) fun h=>WC.skip<|Sr<|Vm<|Vm<|Bi a fun m n a=>Ca (Cg [Fl f,I g] rfl) (UE c d n) ?_
 rintro _ s ⟨o,rfl,p⟩
 refine Va (Fl m)<|AA<|AW ?_
 obtain rfl:=AN a
 refine O1 B l rfl (.tmp rfl)<|⟨o,rfl,Ho (Mo [] p) e⟩
theorem UF:If.Spec If:=lk0 (TG)
def Kt.At(g:Col)(a:World)(f:Nat→Nat→Option Nat):Prop:=
 ∀{c d e},f c d=some e→
  Calls PG 150 #[Fl c,Fl d] a fun h l=>∃m,h=.returned (Fl e)∧AS [] g a m l
def Kt.Spec(f:Nat→Nat→Option Nat):Prop:=
 ∀a c,Kt.At a c f
theorem VE(z:Nat)(u:Col)(ag:World)(aq:∀b,u b<10):Kt.At u ag (Kt z):=by
 intro c w q a
 rw [Kt] at a
 refine Ay Tryz.func150 rfl Tryz.ntmps150 rfl fun B ar b2=>Sr<|Va (Fl (0:Nat))<|AA<|AY<|An (fun h aa=>∃e ab ah,h=Env.puts e [(0,Fl c),(1,Fl w),(23,.bool ah)]∧KS z c w ah=some q∧AS [] u ag ab aa) ?_ ?_
 refine AM<|Vm<|Vr (.bool (feq w (0:Nat)))<|Vm<|Bo a (fun n a=>?_) fun n a=>?_
 refine Pg n<|Pg n<|Vp n<|Vm<|Pg rfl<|Pg rfl<|Vr (.bool true)<|Vm<|Pg rfl<|Pg rfl<|Vr (.bool true)<|AA<|⟨_,u,true,Pu,a,Rf⟩
 refine Gm n<|Bi a fun b3 a1 a=>B7 (.guard (t:=false) (b:=false) rfl rfl rfl rfl (Cb n)) rfl rfl (Cg [Fl c,I 0] rfl)<|Calls.mono (NH u ag a1) ?_
 rintro _ a2 ⟨au,rfl,ai⟩
 refine ⟨_,rfl,?_⟩
 refine Vp n<|Vm<|Bo a (fun o a=>?_) fun o a=>?_
 refine Pg o<|Pg o<|Vp o<|Vm<|Pg rfl<|Pg rfl<|Vr (.bool true)<|AA<|⟨_,au,true,Pu,a,(Mo [] ai)⟩
 refine Gm o<|Bi a fun b4 a3 a=>B7 (.guard (t:=false) (b:=false) rfl rfl rfl rfl (Cb o)) rfl rfl (Cg [Fl c] rfl)<|Calls.mono (L3 au a2 a3) ?_
 rintro _ a4 ⟨av,rfl,aw⟩
 refine ⟨_,rfl,?_⟩
 refine Vp o<|Vm<|Bo a (fun p a=>?_) fun p a=>?_
 refine Pg p<|Pg p<|Vp p<|AA<|⟨_,av,true,Pu,a,(Tn (Mo [] ai) aw)⟩
 refine Gm p<|Bi a fun a5 a6 a=>B7 (.guard (t:=false) (b:=false) rfl rfl rfl rfl (Cb p)) rfl rfl (Cg [Fl w] rfl)<|Calls.mono (L3 av a4 a6) ?_
 rintro _ b5 ⟨a7,rfl,a8⟩
 refine ⟨_,rfl,?_⟩
 refine Vp p<|AA<|⟨_,a7,a5,Pu,a,(T2 (Mo [] ai) aw a8)⟩
 rintro _ aa ⟨e,ab,ah,rfl,a,ax⟩
 rw [KS] at a
 refine Cn a (fun a9 a=>?_) fun a9 a=>?_
 refine Sr<|Bi a fun ba bb a=>Ca (Cg [] rfl) (Vv ab aa bb) ?_
 rintro _ b6 ⟨bc,rfl,bd⟩
 refine Va (Fl ba)<|AA<|AW ?_
 obtain rfl:=AN a
 refine O1 B ar rfl (.tmp rfl)<|⟨bc,rfl,Ho (Tn (Mo [] ax) bd) aq⟩
 refine WC.skip<|Sr<|Vm<|Bi a fun f be a=>Ca (Cg [Fl w] rfl) (Ov ab aa be) ?_
 rintro _ bf ⟨bg,rfl,bh⟩
 refine Va (Fl f)<|AA<|Sr<|Vm<|Bi a fun d bi a=>Ca (Cg [Fl f] rfl) (PY bg bf bi) ?_
 rintro _ bj ⟨aj,rfl,bk⟩
 refine Vm<|Vr (Fl d.1)<|Vr (I d.2)<|Va (Fl d.1)<|Va (I d.2)<|AA<|Sr<|Vm<|Va (Fl c)<|AA<|An (fun h ak=>∃e ac ad,h=Env.puts e [(0,Fl c),(1,Fl f),(5,Fl d.1),(6,I d.2),(7,Fl ad)]∧LH z c f d ad=some q∧AS [] aj bj ac ak) ?_ ?_
 refine Sr<|Vm<|Vr (.bool (flt_ c (0:Nat)))<|AA<|Cn a (fun bl a=>?_) fun bl a=>?_
 refine AM<|Vm<|Vr (Fl (Op.negFloat .f64 c))<|Va (Fl (Op.negFloat .f64 c))<|AA<|⟨_,aj,(Op.negFloat .f64 c),Pu,a,Rf⟩
 refine WC.skip<|⟨_,aj,c,Pu,a,Rf⟩
 rintro _ ak ⟨e,ac,ad,rfl,a,bm⟩
 rw [LH] at a
 refine AY<|Ad<|Bj (fun m h ae=>∃e r g,h=Env.puts e [(0,Fl c),(1,Fl f),(5,Fl d.1),(6,I d.2),(7,Fl g)]∧Jr c f d m g=some q∧AS [] ac ak r ae) z ?_ ?_
 exact ⟨_,ac,ad,Pu,a,Rf⟩
 rintro m _ ae ⟨e,r,g,rfl,a,ay⟩
 rcases m with _|m
 exact A6 a
 refine have a:LR c f d (Jr c f d m) g=some q:=a; ?_
 obtain ⟨bn,az⟩:∃s,s=Jr c f d m:=⟨_,rfl⟩
 rw [←az,LR] at a
 refine AY<|Sr<|Vm<|Vm<|Vr (.bool (fge g f))<|AA<|Cn a (fun bo a=>?_) fun bo a=>?_
 refine WC.skip<|Ad<|Sr<|Vm<|Bi a fun l bp a=>Ca (Cg [Fl g] rfl) (PY r ae bp) ?_
 rintro _ bq ⟨al,rfl,br⟩
 refine Vm<|Vr (Fl l.1)<|Vr (I l.2)<|Va (Fl l.1)<|Va (I l.2)<|AA<|An (fun h am=>∃e an y,h=Env.puts e [(0,Fl c),(1,Fl f),(5,Fl d.1),(6,I d.2),(7,Fl g),(9,I y)]∧KR f d g bn y=some q∧AS [] al bq an am) ?_ ?_
 refine Sr<|Vm<|Vm<|Vr (.bool (flt_ l.1 d.1))<|AA<|Cn a (fun bt a=>?_) fun bt a=>?_
 refine AM<|Vm<|Vr (I (Wr (l.2 - 1)))<|Va (I (Wr (l.2 - 1)))<|AA<|⟨_,al,(Wr (l.2 - 1)),Pu,a,Rf⟩
 refine WC.skip<|⟨_,al,l.2,Pu,a,Rf⟩
 rintro _ am ⟨e,an,y,rfl,a,bu⟩
 rw [KR] at a
 refine AM<|Vm<|Vm<|Vm<|Vm<|Vr (I (Wr (y - d.2)))<|Bi a fun b7 bv a=>Ca (Cg [Fl f,I (Wr (y - d.2))] rfl) (UF an am bv) ?_
 rintro _ b8 ⟨bw,rfl,bx⟩
 refine Bi a fun ao bz a=>Vx (v:=Fl ao) (Run.fsub rfl rfl bz)<|Va (Fl ao)<|AA<|⟨m,Nat.lt_succ_self m,_,bw,ao,Pu,(az▸a),(T3 (Mo [] ay) br bu bx)⟩
 refine BZ<|An (fun h a0=>∃e ap af,h=Env.puts e [(7,Fl af)]∧Mz af=some q∧AS [] r ae ap a0) ?_ ?_
 refine Sr<|Vm<|Vr (.bool (flt_ c (0:Nat)))<|AA<|Cn a (fun b0 a=>?_) fun b0 a=>?_
 refine AM<|Vm<|Vr (Fl (Op.negFloat .f64 g))<|Va (Fl (Op.negFloat .f64 g))<|AA<|⟨_,r,(Op.negFloat .f64 g),Pu,a,Rf⟩
 refine WC.skip<|⟨_,r,g,Pu,a,Rf⟩
 rintro _ a0 ⟨e,ap,af,rfl,a,b1⟩
 rw [Mz] at a
 refine Sr<|Vm<|Va (Fl af)<|AA<|AW ?_
 obtain rfl:=AN a
 refine O1 B ar rfl (.tmp rfl)<|⟨ap,rfl,Ho (Tn (T4 (Mo [] ax) bh bk bm ay) b1) aq⟩
theorem Vw(c:Nat):Kt.Spec (Kt c):=lk0 (VE c)
def J2.At(g:Col)(a:World)(f:Nat→Nat→Option Nat):Prop:=
 ∀{c d e},f c d=some e→
  Calls PG 147 #[Fl c,Fl d] a fun h l=>∃m,h=.returned (Fl e)∧AS [] g a m l
def J2.Spec(f:Nat→Nat→Option Nat):Prop:=
 ∀a c,J2.At a c f
theorem VF(d:Nat)(c:Col)(e:World)(f:∀b,c b<10):J2.At c e (J2 d):=by
 intro g l r a
 rw [J2] at a
 refine Ay Tryz.func147 rfl Tryz.ntmps147 rfl fun B m s=>Sr<|Va (Fl (0:Nat))<|AA<|AY<|WC.cond (t:=false) rfl (fun h=>by cases h) fun h=>WC.skip<|Sr<|Vm<|Vm<|Bi a fun n o a=>Ca (Cg [Fl g,Fl l] rfl) (Vw d c e o) ?_
 rintro _ u ⟨p,rfl,q⟩
 refine Va (Fl n)<|AA<|AW ?_
 obtain rfl:=AN a
 refine O1 B m rfl (.tmp rfl)<|⟨p,rfl,Ho (Mo [] q) f⟩
theorem RO(c:Nat):J2.Spec (J2 c):=lk0 (VF c)
def Jf.At(g:Col)(c:World)(f:(Nat×Nat)→(Nat×Nat)→Option ((Nat×Nat)×Int)):Prop:=
 ∀{d e a},f d e=some a→
  Calls PG 141 #[Cx d,Cx e] c fun h l=>∃m,h=.returned (.tuple #[Cx a.1,I a.2])∧AS [] g c m l
def Jf.Spec(f:(Nat×Nat)→(Nat×Nat)→Option ((Nat×Nat)×Int)):Prop:=
 ∀a c,Jf.At a c f
theorem UG(m:Nat)(n:Col)(w:World)(o:∀b,n b<10):Jf.At n w (Jf m):=by
 intro y d ag a
 rw [Jf] at a
 refine Ay Tryz.func141 rfl Tryz.ntmps141 rfl fun B p bb=>Sr<|Va (Cx (((0,0):Nat×Nat)))<|Va (I 0)<|AA<|AY<|Ad<|An (fun z q=>∃l h aa,z=Env.puts l [(0,Cx y),(1,Cx d),(9,.bool aa)]∧LU m y d aa=some ag∧AS [] n w h q) ?_ ?_
 refine AM<|Vm<|Bi a fun an ao a=>Ca (Cg [Cx y] rfl) (C7 n w ao) ?_
 rintro _ ap ⟨ah,rfl,ai⟩
 refine Vr (.bool (!an))<|Vm<|Bo a (fun f a=>?_) fun f a=>?_
 refine Pg f<|Pg f<|Pg f<|Vp f<|Va (.bool true)<|AA<|⟨_,ah,true,Pu,a,(Mo [] ai)⟩
 refine Gm f<|Bi a fun ab aq a=>B7 (.guard (t:=false) (b:=false) rfl rfl rfl rfl (Cb f)) rfl rfl (Cg [Cx d] rfl)<|Calls.mono (C7 ah ap aq) ?_
 rintro _ bc ⟨ar,rfl,au⟩
 refine ⟨_,rfl,?_⟩
 refine Gr f (.bool (!ab))<|Vp f<|Va (.bool (!ab))<|AA<|⟨_,ar,(!ab),Pu,a,(Tn (Mo [] ai) au)⟩
 rintro _ q ⟨l,h,aa,rfl,a,r⟩
 rw [LU] at a
 refine Cn a (fun av a=>?_) fun av a=>?_
 refine Sr<|Va (Cx (((0,0):Nat×Nat)))<|Va (I 3)<|AA<|AW ?_
 obtain rfl:=AN a
 refine O2 B p rfl (.tmp rfl) (.tmp rfl)<|⟨h,rfl,Ho (Mo [] r) o⟩
 refine Sr<|Vm<|Vx (v:=.bool (ceq d ((0,0):Nat×Nat))) (Run.ceq rfl rfl)<|Va (.bool (ceq d ((0,0):Nat×Nat)))<|AA<|Cn a (fun aw a=>?_) fun aw a=>?_
 refine Sr<|Va (Cx (((0,0):Nat×Nat)))<|Va (I 51)<|AA<|AW ?_
 obtain rfl:=AN a
 refine O2 B p rfl (.tmp rfl) (.tmp rfl)<|⟨h,rfl,Ho (Mo [] r) o⟩
 refine WC.skip<|Sr<|Vm<|Vx (v:=Fl d.1) (Run.real rfl)<|Vm<|Vx (v:=Fl d.2) (Run.imag rfl)<|Vr (Fl (Op.negFloat .f64 d.2))<|Vx (v:=Cx ((d.1,(Op.negFloat .f64 d.2)))) (Run.complex rfl rfl)<|Va (Cx ((d.1,(Op.negFloat .f64 d.2))))<|AA<|Sr<|Vm<|Vm<|Bi a fun e ax a=>Vx (v:=Cx e) (Run.cmul rfl rfl ax)<|Vm<|Vm<|Bi a fun g ay a=>Vx (v:=Cx g) (Run.cmul rfl rfl ay)<|Vx (v:=Fl g.1) (Run.real rfl)<|Va (Cx e)<|Va (Fl g.1)<|AA<|AY<|An (fun z ac=>∃l s ad,z=Env.puts l [(7,Cx e),(8,Fl g.1),(45,.bool ad)]∧LT e g ad=some ag∧AS [] h q s ac) ?_ ?_
 refine AM<|Vm<|Vx (v:=Fl e.1) (Run.real rfl)<|Vm<|Bi a fun az a0 a=>Ca (Cg [Fl e.1,Fl g.1] rfl) (RO m h q a0) ?_
 rintro _ a1 ⟨aj,rfl,ak⟩
 refine Vr (.bool (fne az (0:Nat)))<|Vm<|Bo a (fun c a=>?_) fun c a=>?_
 refine Pg c<|Pg c<|Pg c<|Pg c<|Pg c<|Vp c<|AA<|⟨_,aj,true,Pu,a,(Mo [] ak)⟩
 refine Gm c<|Gx c (v:=Fl e.2) (Run.imag rfl)<|Gm c<|Bi a fun al a2 a=>B7 (.guard (t:=false) (b:=false) rfl rfl rfl rfl (Cb c)) rfl rfl (Cg [Fl e.2,Fl g.1] rfl)<|Calls.mono (RO m aj a1 a2) ?_
 rintro _ bd ⟨a3,rfl,a4⟩
 refine ⟨_,rfl,?_⟩
 refine Gr c (.bool (fne al (0:Nat)))<|Vp c<|AA<|⟨_,a3,(fne al (0:Nat)),Pu,a,(Tn (Mo [] ak) a4)⟩
 rintro _ ac ⟨l,s,ad,rfl,a,am⟩
 rw [LT] at a
 refine Cn a (fun a5 a=>?_) fun a5 a=>?_
 refine Sr<|Va (Cx (((0,0):Nat×Nat)))<|Va (I 51)<|AA<|AW ?_
 obtain rfl:=AN a
 refine O2 B p rfl (.tmp rfl) (.tmp rfl)<|⟨s,rfl,Ho (Tn (Mo [] r) am) o⟩
 refine WC.skip<|Sr<|Vm<|Vx (v:=Fl e.1) (Run.real rfl)<|Vm<|Bi a fun ae a6 a=>Vx (v:=Fl ae) (Run.fdiv rfl rfl a6)<|Vm<|Vx (v:=Fl e.2) (Run.imag rfl)<|Vm<|Bi a fun af a7 a=>Vx (v:=Fl af) (Run.fdiv rfl rfl a7)<|Vx (v:=Cx ((ae,af))) (Run.complex rfl rfl)<|Bi a fun u a8 a=>Ca (Cg [Cx ((ae,af))] rfl) (Kc s ac a8) ?_
 rintro _ be ⟨a9,rfl,ba⟩
 refine Vr (Cx u.1)<|Vr (I u.2)<|Va (Cx u.1)<|Va (I u.2)<|AA<|AW ?_
 obtain rfl:=AN a
 refine O2 B p rfl (.tmp rfl) (.tmp rfl)<|⟨a9,rfl,Ho (T2 (Mo [] r) am ba) o⟩
theorem VG(c:Nat):Jf.Spec (Jf c):=lk0 (UG c)
def Ig.At(g:Col)(c:World)(f:(Nat×Nat)→(Nat×Nat)→Option (Bool×Int)):Prop:=
 ∀{d e a},f d e=some a→
  Calls PG 142 #[Cx d,Cx e] c fun h l=>∃m,h=.returned (.tuple #[.bool a.1,I a.2])∧AS [] g c m l
def Ig.Spec(f:(Nat×Nat)→(Nat×Nat)→Option (Bool×Int)):Prop:=
 ∀a c,Ig.At a c f
theorem TH(g:Col)(h:World)(l:∀b,g b<10):Ig.At g h Ig:=by
 intro c d w a
 rw [Ig] at a
 refine Ay Tryz.func142 rfl Tryz.ntmps142 rfl fun B m ah=>Sr<|Va (.bool false)<|Va (I 0)<|AA<|AY<|An (fun y p=>∃q f n,y=Env.puts q [(0,Cx c),(1,Cx d),(13,.bool n)]∧Ku c d n=some w∧AS [] g h f p) ?_ ?_
 refine AM<|Vm<|Bi a fun z aa a=>Ca (Cg [Cx c] rfl) (C7 g h aa) ?_
 rintro _ ab ⟨r,rfl,s⟩
 refine Vr (.bool (!z))<|Vm<|Bo a (fun e a=>?_) fun e a=>?_
 refine Pg e<|Pg e<|Pg e<|Vp e<|AA<|⟨_,r,true,Pu,a,(Mo [] s)⟩
 refine Gm e<|Bi a fun u ac a=>B7 (.guard (t:=false) (b:=false) rfl rfl rfl rfl (Cb e)) rfl rfl (Cg [Cx d] rfl)<|Calls.mono (C7 r ab ac) ?_
 rintro _ ai ⟨ad,rfl,ae⟩
 refine ⟨_,rfl,?_⟩
 refine Gr e (.bool (!u))<|Vp e<|AA<|⟨_,ad,(!u),Pu,a,(Tn (Mo [] s) ae)⟩
 rintro _ p ⟨q,f,n,rfl,a,o⟩
 rw [Ku] at a
 refine Cn a (fun af a=>?_) fun af a=>?_
 refine Sr<|Va (.bool false)<|Va (I 3)<|AA<|AW ?_
 obtain rfl:=AN a
 refine O2 B m rfl (.tmp rfl) (.tmp rfl)<|⟨f,rfl,Ho (Mo [] o) l⟩
 refine WC.skip<|AY<|Sr<|Vm<|Vx (v:=Fl c.1) (Run.real rfl)<|Vm<|Vx (v:=Fl d.1) (Run.real rfl)<|Vr (.bool (fne c.1 d.1))<|AA<|Cn a (fun ag a=>?_) fun ag a=>?_
 refine Sr<|Vm<|Vx (v:=Fl c.1) (Run.real rfl)<|Vm<|Vx (v:=Fl d.1) (Run.real rfl)<|Vr (.bool (flt_ c.1 d.1))<|Va (.bool (flt_ c.1 d.1))<|Va (I 0)<|AA<|AW ?_
 obtain rfl:=AN a
 refine O2 B m rfl (.tmp rfl) (.tmp rfl)<|⟨f,rfl,Ho (Mo [] o) l⟩
 refine WC.skip<|Sr<|Vm<|Vx (v:=Fl c.2) (Run.imag rfl)<|Vm<|Vx (v:=Fl d.2) (Run.imag rfl)<|Vr (.bool (flt_ c.2 d.2))<|Va (.bool (flt_ c.2 d.2))<|Va (I 0)<|AA<|AW ?_
 obtain rfl:=AN a
 refine O2 B m rfl (.tmp rfl) (.tmp rfl)<|⟨f,rfl,Ho (Mo [] o) l⟩
theorem UH:Ig.Spec Ig:=lk0 (TH)
def J3.At(n:Col)(c:World)(f:Int→(Nat×Nat)→(Nat×Nat)→Option (AH×Int)):Prop:=
 ∀{d e g a},f d e g=some a→
  Calls PG 118 #[I d,Cx e,Cx g] c fun o h=>∃l m,o=.returned (.tuple #[Ag m,I a.2])∧AS [] n c l h∧A1.rep l.F h m a.1
def J3.Spec(f:Int→(Nat×Nat)→(Nat×Nat)→Option (AH×Int)):Prop:=
 ∀a c,J3.At a c f
theorem VH(ai:Nat)(z:Col)(a2:World)(m:∀b,z b<10):J3.At z a2 (J3 ai):=by
 intro f g h ci a
 rw [J3] at a
 refine Ay Tryz.func118 rfl Tryz.ntmps118 rfl fun B n cj=>Sr<|Ef<|AU z 20 FU rfl fun o r ck p q=>Va (I 0)<|AA<|AY<|Sr<|Vm<|AA<|Ad<|Sr<|Vr (.bool (f==8))<|Va (.bool (f==8))<|AA<|Cn a (fun a3 a=>?_) fun a3 a=>?_
 refine Sr<|Vm<|Vm<|Bi a fun s a4 a=>Ca (Cg [Cx g,Cx h] rfl) (U7 o r a4) ?_
 rintro _ a5 ⟨a6,rfl,aj⟩
 refine Vr (Cx s.1)<|Vr (I s.2)<|Bi a fun c a7 a=>Ca (Cg [Cx s.1,I s.2] rfl) (Io a6 a5 a7) ?_
 rintro _ cl ⟨a8,cm,rfl,ak,a9⟩
 obtain ⟨aa,ab,rfl,al⟩:=E1 (Bm a9)
 refine Vr (Ag [I c.1.type_,Cx c.1.num,.bool c.1.bool,Sl aa c.1.list ab])<|Vr (I c.2)<|have ba:=Y2 p aj ak;Eu<|St GO ba rfl rfl rfl rfl fun co bb am=>Va (I c.2)<|AA<|AW ?_
 obtain rfl:=AN a
 refine O2 B n rfl (.agg DX rfl rfl (Bw bb)) (.tmp rfl)<|have bc:=Ss Kd.cpx al am;⟨a8,[I c.1.type_,Cx c.1.num,.bool c.1.bool,Sl aa c.1.list ab],rfl,Ho (T3 (Mo [20] q) aj ak am) m,(BD (x:=c.1) bc)⟩
 refine Sr<|Vr (.bool (f==9))<|Va (.bool (f==9))<|AA<|Cn a (fun bd a=>?_) fun bd a=>?_
 refine Sr<|Vm<|Vm<|Bi a fun u be a=>Ca (Cg [Cx g,Cx h] rfl) (U9 o r be) ?_
 rintro _ bf ⟨bg,rfl,an⟩
 refine Vr (Cx u.1)<|Vr (I u.2)<|Bi a fun d bh a=>Ca (Cg [Cx u.1,I u.2] rfl) (Io bg bf bh) ?_
 rintro _ cq ⟨bi,cr,rfl,ao,bj⟩
 obtain ⟨ac,ad,rfl,ap⟩:=E1 (Bm bj)
 refine Vr (Ag [I d.1.type_,Cx d.1.num,.bool d.1.bool,Sl ac d.1.list ad])<|Vr (I d.2)<|have bk:=Y2 p an ao;Eu<|St GO bk rfl rfl rfl rfl fun cu bl aq=>Va (I d.2)<|AA<|AW ?_
 obtain rfl:=AN a
 refine O2 B n rfl (.agg DX rfl rfl (Bw bl)) (.tmp rfl)<|have bm:=Ss Kd.cpx ap aq;⟨bi,[I d.1.type_,Cx d.1.num,.bool d.1.bool,Sl ac d.1.list ad],rfl,Ho (T3 (Mo [20] q) an ao aq) m,(BD (x:=d.1) bm)⟩
 refine Sr<|Vr (.bool (f==10))<|Va (.bool (f==10))<|AA<|Cn a (fun bn a=>?_) fun bn a=>?_
 refine Sr<|Vm<|Vm<|Bi a fun w bo a=>Ca (Cg [Cx g,Cx h] rfl) (VA o r bo) ?_
 rintro _ bp ⟨bq,rfl,ar⟩
 refine Vr (Cx w.1)<|Vr (I w.2)<|Bi a fun x63 br a=>Ca (Cg [Cx w.1,I w.2] rfl) (Io bq bp br) ?_
 rintro _ cv ⟨bt,cw,rfl,au,bu⟩
 obtain ⟨ae,af,rfl,av⟩:=E1 (Bm bu)
 refine Vr (Ag [I x63.1.type_,Cx x63.1.num,.bool x63.1.bool,Sl ae x63.1.list af])<|Vr (I x63.2)<|have bv:=Y2 p ar au;Eu<|St GO bv rfl rfl rfl rfl fun cy bw aw=>Va (I x63.2)<|AA<|AW ?_
 obtain rfl:=AN a
 refine O2 B n rfl (.agg DX rfl rfl (Bw bw)) (.tmp rfl)<|have bx:=Ss Kd.cpx av aw;⟨bt,[I x63.1.type_,Cx x63.1.num,.bool x63.1.bool,Sl ae x63.1.list af],rfl,Ho (T3 (Mo [20] q) ar au aw) m,(BD (x:=x63.1) bx)⟩
 refine Sr<|Vr (.bool (f==11))<|Va (.bool (f==11))<|AA<|Cn a (fun bz a=>?_) fun bz a=>?_
 refine Sr<|Vm<|Vm<|Bi a fun y b0 a=>Ca (Cg [Cx g,Cx h] rfl) (VG ai o r b0) ?_
 rintro _ b1 ⟨b2,rfl,ax⟩
 refine Vr (Cx y.1)<|Vr (I y.2)<|Bi a fun e b3 a=>Ca (Cg [Cx y.1,I y.2] rfl) (Io b2 b1 b3) ?_
 rintro _ cz ⟨b4,c0,rfl,ay,b5⟩
 obtain ⟨ag,ah,rfl,az⟩:=E1 (Bm b5)
 refine Vr (Ag [I e.1.type_,Cx e.1.num,.bool e.1.bool,Sl ag e.1.list ah])<|Vr (I e.2)<|have b6:=Y2 p ax ay;Eu<|St GO b6 rfl rfl rfl rfl fun c2 b7 a0=>Va (I e.2)<|AA<|AW ?_
 obtain rfl:=AN a
 refine O2 B n rfl (.agg DX rfl rfl (Bw b7)) (.tmp rfl)<|have b8:=Ss Kd.cpx az a0;⟨b4,[I e.1.type_,Cx e.1.num,.bool e.1.bool,Sl ag e.1.list ah],rfl,Ho (T3 (Mo [20] q) ax ay a0) m,(BD (x:=e.1) b8)⟩
 refine Sr<|Vr (.bool (f==12))<|Va (.bool (f==12))<|AA<|Cn a (fun b9 a=>?_) fun b9 a=>?_
 refine Sr<|Vm<|Vm<|Vx (v:=.bool (ceq g h)) (Run.ceq rfl rfl)<|Vx (v:=Ag [I 2,Cx (((0,0):Nat×Nat)),.bool (ceq g h),.slice none 0 0]) (Bp FU Jm rfl (.cons rfl rfl rfl (.cons rfl rfl rfl .nil)))<|Eu<|St GO p rfl rfl rfl rfl fun c3 ca cb=>Va (I 0)<|AA<|AW ?_
 obtain rfl:=AN a
 refine O2 B n rfl (.agg DX rfl rfl (Bw ca)) (.tmp rfl)<|⟨o,[I 2,Cx (((0,0):Nat×Nat)),.bool (ceq g h),.slice none 0 0],rfl,Ho (Tn (Mo [20] q) cb) m,(BD (x:=(AH.mk 2 ((0,0):Nat×Nat) (ceq g h) [])) Bd)⟩
 refine WC.skip<|Sr<|Vm<|Vm<|Bi a fun l cc a=>Ca (Cg [Cx g,Cx h] rfl) (UH o r cc) ?_
 rintro _ c4 ⟨cd,rfl,a1⟩
 refine Vm<|Vr (.bool l.1)<|Vr (I l.2)<|Va (.bool l.1)<|Va (I l.2)<|AA<|Sr<|Vm<|Vx (v:=Ag [I 2,Cx (((0,0):Nat×Nat)),.bool l.1,.slice none 0 0]) (Bp FU Jm rfl (.cons rfl rfl rfl (.cons rfl rfl rfl .nil)))<|Vm<|have cf:=Bs p a1;Eu<|St GO cf rfl rfl rfl rfl fun c5 cg ch=>Va (I l.2)<|AA<|AW ?_
 obtain rfl:=AN a
 refine O2 B n rfl (.agg DX rfl rfl (Bw cg)) (.tmp rfl)<|⟨cd,[I 2,Cx (((0,0):Nat×Nat)),.bool l.1,.slice none 0 0],rfl,Ho (T2 (Mo [20] q) a1 ch) m,(BD (x:=(AH.mk 2 ((0,0):Nat×Nat) l.1 [])) Bd)⟩
theorem Vy(c:Nat):J3.Spec (J3 c):=lk0 (VH c)
def D7.At(d:Col)(a:World)(f:Int→(List AH)→Option (AH×Int)):Prop:=
 ∀{e g h c},f e g=some c→Slc A1 d.F a h g→
  Calls PG 91 #[I e,h] a fun o l=>∃m n,o=.returned (.tuple #[Ag n,I c.2])∧AS [] d a m l∧A1.rep m.F l n c.1
def D7.Spec(f:Int→(List AH)→Option (AH×Int)):Prop:=
 ∀a c,D7.At a c f
theorem TI(y:Nat)(ar:Col)(b4:World)(ae:∀b,ar b<10):D7.At ar b4 (D7 y):=by
 intro c d ek al a au
 rw [D7] at a
 obtain ⟨ah,ai,rfl⟩:=AR au
 refine Ay Tryz.func91 rfl Tryz.ntmps91 rfl fun B af el=>Sr<|Ef<|AU ar 20 FU rfl fun b5 b6 av ag z=>Va (I 0)<|AA<|Sr<|Vm<|Bi a fun e b7 a=>Ca (Cg [I c] rfl) (T8 b5 b6 b7) ?_
 rintro _ b8 ⟨aw,rfl,f⟩
 refine Vm<|Vr (I e.1)<|Vr (I e.2)<|Va (I e.1)<|Va (I e.2)<|AA<|AY<|An (fun aj ax=>∃ac ak ay,aj=Env.puts ac [(0,I c),(1,Sl ah d ai),(4,Pt av 0),(7,I e.2),(23,.bool ay)]∧L0 y c d e ay=some al∧AS [] aw b8 ak ax) ?_ ?_
 refine AM<|Vm<|Vr (.bool (e.1==0))<|Vm<|Bo a (fun r a=>?_) fun r a=>?_
 refine Pg r<|Pg r<|Pg r<|Pg r<|Vp r<|AA<|⟨_,aw,true,Pu,a,Rf⟩
 refine Gm r<|have b9:=K2 A1 au z f; ?_
 obtain ⟨em,en,ca⟩:=AR b9
 refine Gx r (v:=I (d.length:Int)) (Ll KG ca)<|Gm r<|Gr r (.bool ((d.length:Int) != e.1))<|Vp r<|AA<|⟨_,aw,((d.length:Int) != e.1),Pu,a,Rf⟩
 rintro _ ax ⟨ac,ak,ay,rfl,a,g⟩
 rw [L0] at a
 refine Cn a (fun cb a=>?_) fun cb a=>?_
 refine Sr<|Vx (v:=Ag [I 0,Cx (((0,0):Nat×Nat)),.bool false,.slice none 0 0]) (Bp FU Jm rfl .nil)<|have cc:=Y2 ag f g;Eu<|St GO cc rfl rfl rfl rfl fun eo cd cf=>Va (I 3)<|AA<|AW ?_
 obtain rfl:=AN a
 refine O2 B af rfl (.agg DX rfl rfl (Bw cd)) (.tmp rfl)<|⟨ak,[I 0,Cx (((0,0):Nat×Nat)),.bool false,.slice none 0 0],rfl,Ho (T3 (Mo [20] z) f g cf) ae,(BD (x:=(AH.mk 0 ((0,0):Nat×Nat) false [])) Bd)⟩
 refine WC.skip<|AY<|Sr<|Vm<|have az:=K3 A1 au z f g; ?_
 obtain ⟨ep,eq,cg⟩:=AR az
 refine Vx (v:=I (d.length:Int)) (Ll KG cg)<|Vm<|AA<|Ad<|Bj (fun ad aj aa=>∃ac u w,aj=Env.puts ac [(0,I c),(1,Sl ah d ai),(4,Pt av 0),(7,I e.2),(25,Sl ah d ai),(26,I (d.length:Int)),(27,I w)]∧DV y c d e ad w=some al∧AS [21] ak ax u aa) y ?_ ?_
 exact ⟨_,ak,0,Pu,a,(AS.refl [21] _ _)⟩
 rintro ad _ aa ⟨ac,u,w,rfl,a,h⟩
 rcases ad with _|ad
 exact A6 a
 refine have a:Ch y c d e (DV y c d e ad) w=some al:=a; ?_
 obtain ⟨ch,bf⟩:∃s,s=DV y c d e ad:=⟨_,rfl⟩
 rw [←bf,Ch] at a
 refine Sr<|Vr (.bool (decide (w< (d.length:Int))))<|AA<|AY<|Cn a (fun ci a=>?_) fun ci a=>?_
 refine WC.skip<|AY<|Ad<|Sr<|Bi a fun p cj a=>have ck:=Ss A1 az h; ?_
 obtain ⟨cl,cm,er,cn,co,cq,cr,ct,a0⟩:=BG (κ:=A1) ck cj
 replace a0:A3 u aa cl (cm+w.toNat*4) cn:=a0
 obtain ⟨a1,a2,rfl,bg⟩:=E1 (Bm ct)
 refine Vx (Ix KG co rfl cq cr)<|Vx (Lx DX rfl rfl (A3.part0 a0 [I p.type_,Cx p.num,.bool p.bool,Sl a1 p.list a2] rfl))<|Ef<|AU u 21 FU rfl fun a3 et eu cu am=>have cv:=Ss Kd.cpx bg am;Eu<|St GO cu rfl rfl rfl rfl fun bh bi an=>AA<|An (fun aj bj=>∃ac ao a4,aj=Env.puts ac [(0,I c),(1,Sl ah d ai),(4,Pt av 0),(7,I e.2),(25,Sl ah d ai),(26,I (d.length:Int)),(27,I w),(39,.bool a4)]∧IM w ch a4=some al∧AS [] a3 bh ao bj) ?_ ?_
 refine AM<|Vx (Fz I7 rfl)<|Vx (Ld EB rfl (Bc bi rfl))<|Vm<|Vr (.bool (p.type_ != e.2))<|Vm<|Bo a (fun ab a=>?_) fun ab a=>?_
 refine Pg ab<|Pg ab<|Pg ab<|Vp ab<|AA<|⟨_,a3,true,Pu,a,Rf⟩
 refine Gx ab (Lx DX rfl rfl (Bw bi))<|have cw:=Ss Kd.cpx cv an;Bi a fun bk cx a=>B7 (.guard (t:=false) (b:=false) rfl rfl rfl rfl (Cb ab)) rfl rfl (Cg [Ag [I p.type_,Cx p.num,.bool p.bool,Sl a1 p.list a2]] rfl)<|Calls.mono (Ou y a3 bh cx (BD (x:=p) cw)) ?_
 rintro _ ew ⟨cy,rfl,cz⟩
 refine ⟨_,rfl,?_⟩
 refine Gr ab (.bool (bk != 0))<|Vp ab<|AA<|⟨_,cy,(bk != 0),Pu,a,(Mo [] cz)⟩
 rintro _ bj ⟨ac,ao,a4,rfl,a,a5⟩
 rw [IM] at a
 refine Cn a (fun c0 a=>?_) fun c0 a=>?_
 refine Sr<|Vx (v:=Ag [I 0,Cx (((0,0):Nat×Nat)),.bool false,.slice none 0 0]) (Bp FU Jm rfl .nil)<|have c1:=Y2 (Y4 ag f g h am) an a5;Eu<|St GO c1 rfl rfl rfl rfl fun ex c2 c3=>Va (I 3)<|AA<|AW ?_
 obtain rfl:=AN a
 refine O2 B af rfl (.agg DX rfl rfl (Bw c2)) (.tmp rfl)<|⟨ao,[I 0,Cx (((0,0):Nat×Nat)),.bool false,.slice none 0 0],rfl,Ho (T3 (T4 (Mo [20,21] z) f g h am) an a5 c3) ae,(BD (x:=(AH.mk 0 ((0,0):Nat×Nat) false [])) Bd)⟩
 refine WC.skip<|AM<|Vr (I (Wr (w+1)))<|Vm<|AA<|⟨ad,Nat.lt_succ_self ad,_,ao,(Wr (w+1)),Pu,(bf▸a),(T3 (Mo [21] h) am an a5)⟩
 refine BZ<|Sr<|Vm<|Bi a fun q c4 a=>have bl:=Ss A1 az h; ?_
 obtain ⟨c5,c6,ey,c7,bm,bn,bo,c8,ap⟩:=BG (κ:=A1) bl c4
 replace ap:A3 u aa c5 (c6+(0:Int).toNat*4) c7:=ap
 obtain ⟨e0,e1,rfl,c9⟩:=E1 (Bm c8)
 refine Vx (Ix KG bm rfl bn bo)<|Vx (Fd Hp rfl)<|Vx (Ld Hq rfl (A3.cell (k:=1) ap rfl))<|Va (Cx q.num)<|AA<|AY<|Sr<|Vm<|AA<|Ad<|Sr<|Vr (.bool (c==14))<|Va (.bool (c==14))<|AA<|Cn a (fun da a=>?_) fun da a=>?_
 refine Sr<|Vm<|Vx (Ix KG bm rfl bn bo)<|Vx (Fd Ka rfl)<|Vx (Ld N2 rfl (A3.cell (k:=2) ap rfl))<|Vr (.bool (!q.bool))<|Vx (v:=Ag [I 2,Cx (((0,0):Nat×Nat)),.bool (!q.bool),.slice none 0 0]) (Bp FU Jm rfl (.cons rfl rfl rfl (.cons rfl rfl rfl .nil)))<|have db:=Y3 ag f g h;Eu<|St GO db rfl rfl rfl rfl fun e2 dc de=>Va (I 0)<|AA<|AW ?_
 obtain rfl:=AN a
 refine O2 B af rfl (.agg DX rfl rfl (Bw dc)) (.tmp rfl)<|⟨u,[I 2,Cx (((0,0):Nat×Nat)),.bool (!q.bool),.slice none 0 0],rfl,Ho (T4 (Mo [20,21] z) f g h de) ae,(BD (x:=(AH.mk 2 ((0,0):Nat×Nat) (!q.bool) [])) Bd)⟩
 refine Sr<|Vr (.bool (c==15))<|Va (.bool (c==15))<|AA<|Cn a (fun df a=>?_) fun df a=>?_
 refine Sr<|Vm<|Vx (v:=Fl q.num.1) (Run.real rfl)<|Vx (v:=Cx ((q.num.1,(0:Nat)))) (Run.complex rfl rfl)<|Bi a fun l dg a=>Ca (Cg [Cx ((q.num.1,(0:Nat))),I 0] rfl) (Io u aa dg) ?_
 rintro _ e3 ⟨dh,e4,rfl,bp,di⟩
 obtain ⟨a6,a7,rfl,bq⟩:=E1 (Bm di)
 refine Vr (Ag [I l.1.type_,Cx l.1.num,.bool l.1.bool,Sl a6 l.1.list a7])<|Vr (I l.2)<|have dj:=Y4 ag f g h bp;Eu<|St GO dj rfl rfl rfl rfl fun e6 dk br=>Va (I l.2)<|AA<|AW ?_
 obtain rfl:=AN a
 refine O2 B af rfl (.agg DX rfl rfl (Bw dk)) (.tmp rfl)<|have dl:=Ss Kd.cpx bq br;⟨dh,[I l.1.type_,Cx l.1.num,.bool l.1.bool,Sl a6 l.1.list a7],rfl,Ho (Tn (T4 (Mo [20,21] z) f g h bp) br) ae,(BD (x:=l.1) dl)⟩
 refine Sr<|Vr (.bool (c==16))<|Va (.bool (c==16))<|AA<|Cn a (fun dm a=>?_) fun dm a=>?_
 refine Sr<|Vm<|Vx (v:=Fl q.num.2) (Run.imag rfl)<|Vx (v:=Cx ((q.num.2,(0:Nat)))) (Run.complex rfl rfl)<|Bi a fun m dn a=>Ca (Cg [Cx ((q.num.2,(0:Nat))),I 0] rfl) (Io u aa dn) ?_
 rintro _ e7 ⟨dp,e8,rfl,bt,dq⟩
 obtain ⟨a8,a9,rfl,bu⟩:=E1 (Bm dq)
 refine Vr (Ag [I m.1.type_,Cx m.1.num,.bool m.1.bool,Sl a8 m.1.list a9])<|Vr (I m.2)<|have dr:=Y4 ag f g h bt;Eu<|St GO dr rfl rfl rfl rfl fun fa ds bv=>Va (I m.2)<|AA<|AW ?_
 obtain rfl:=AN a
 refine O2 B af rfl (.agg DX rfl rfl (Bw ds)) (.tmp rfl)<|have dt:=Ss Kd.cpx bu bv;⟨dp,[I m.1.type_,Cx m.1.num,.bool m.1.bool,Sl a8 m.1.list a9],rfl,Ho (Tn (T4 (Mo [20,21] z) f g h bt) bv) ae,(BD (x:=m.1) dt)⟩
 refine Sr<|Vr (.bool (c==17))<|Va (.bool (c==17))<|AA<|Cn a (fun du a=>?_) fun du a=>?_
 refine Sr<|Vm<|Bi a fun aq dv a=>Ca (Cg [Cx q.num] rfl) (T9 u aa dv) ?_
 rintro _ dw ⟨dx,rfl,bw⟩
 refine Vr (Cx aq.1)<|Vr (I aq.2)<|Bi a fun n dy a=>Ca (Cg [Cx aq.1,I aq.2] rfl) (Io dx dw dy) ?_
 rintro _ fb ⟨dz,fc,rfl,bx,d0⟩
 obtain ⟨ba,bb,rfl,bz⟩:=E1 (Bm d0)
 refine Vr (Ag [I n.1.type_,Cx n.1.num,.bool n.1.bool,Sl ba n.1.list bb])<|Vr (I n.2)<|have d1:=Bs (Y4 ag f g h bw) bx;Eu<|St GO d1 rfl rfl rfl rfl fun fe d2 b0=>Va (I n.2)<|AA<|AW ?_
 obtain rfl:=AN a
 refine O2 B af rfl (.agg DX rfl rfl (Bw d2)) (.tmp rfl)<|have d3:=Ss Kd.cpx bz b0;⟨dz,[I n.1.type_,Cx n.1.num,.bool n.1.bool,Sl ba n.1.list bb],rfl,Ho (T2 (T4 (Mo [20,21] z) f g h bw) bx b0) ae,(BD (x:=n.1) d3)⟩
 refine WC.skip<|Sr<|Vm<|Vm<|Vm<|Bi a fun d4 d5 a=>?_
 obtain ⟨d6,d7,ff,d8,d9,ea,eb,ec,bc⟩:=BG (κ:=A1) bl d5
 replace bc:A3 u aa d6 (d7+(1:Int).toNat*4) d8:=bc
 obtain ⟨fh,fi,rfl,ed⟩:=E1 (Bm ec)
 refine Vx (Ix KG d9 rfl ea eb)<|Vx (Fd Hp rfl)<|Vx (Ld Hq rfl (A3.cell (k:=1) bc rfl))<|Bi a fun o ee a=>Ca (Cg [I c,Cx q.num,Cx d4.num] rfl) (Vy y u aa ee) ?_
 rintro _ fj ⟨ef,fk,rfl,b1,eg⟩
 obtain ⟨bd,be,rfl,b2⟩:=E1 (Bm eg)
 refine Vr (Ag [I o.1.type_,Cx o.1.num,.bool o.1.bool,Sl bd o.1.list be])<|Vr (I o.2)<|have eh:=Y4 ag f g h b1;Eu<|St GO eh rfl rfl rfl rfl fun fm ei b3=>Va (I o.2)<|AA<|AW ?_
 obtain rfl:=AN a
 refine O2 B af rfl (.agg DX rfl rfl (Bw ei)) (.tmp rfl)<|have ej:=Ss Kd.cpx b2 b3;⟨ef,[I o.1.type_,Cx o.1.num,.bool o.1.bool,Sl bd o.1.list be],rfl,Ho (Tn (T4 (Mo [20,21] z) f g h b1) b3) ae,(BD (x:=o.1) ej)⟩
theorem UI(c:Nat):D7.Spec (D7 c):=lk0 (TI c)
def mean_run_look.At(G1 G2:Prop)(c:Col)(a:World)(f:(List AE)→Int→Int→Ao→AB→Nm→Option ((Except Int Al)×(List AE)×Int×Int))(h ac:Nat):Prop:=
 ∀{l n o p q m s w y z aa d},f n p q s w z=some d→G1→G2→Bk c a h l [.map (some m),o,I p,I q] 83→Slc AI c.F a o n→Mp c a ac m s→AJ.rep c.F a y w→GQ 89 90 c.F a aa z→
  Calls PG 33 #[Pt l 0,Ag y,aa] a fun ad e=>∃g ab,AS [h] c a g e∧Bk g e h l [.map (some m),ab,I d.2.2.1,I d.2.2.2] 83∧Slc AI g.F e ab d.2.1∧Ea 33 d.1 ad (fun r v=>∃u:List Value,v=Ag u∧HB.rep g.F e u r)
def mean_run_look.Spec(f:(List AE)→Int→Int→Ao→AB→Nm→Option ((Except Int Al)×(List AE)×Int×Int)):Prop:=
 ∀d e {a c},mean_run_look.At ([a,c].Nodup) (0∉[a,c]) d e f a c
def mean_later_1.At(G1 G2:Prop)(c:Col)(a:World)(f:(List AE)→Int→Int→Ao→AB→Nm→Option ((Except Int Al)×(List AE)×Int×Int))(h ae:Nat):Prop:=
 ∀{l n o p q m s w y z aa ab ac d},f n p q s w aa=some d→G1→G2→Bk c a h l [.map (some m),o,I p,I q] 83→Slc AI c.F a o n→Mp c a ae m s→A3 c a y 0 z→AJ.rep c.F a z w→A3 c a ab 0 [ac]→GQ 89 90 c.F a ac aa→
  Calls PG 90 #[Pt l 0,Pt y 0,Pt ab 0] a fun af e=>∃g ad,AS [h] c a g e∧Bk g e h l [.map (some m),ad,I d.2.2.1,I d.2.2.2] 83∧Slc AI g.F e ad d.2.1∧Ea 33 d.1 af (fun r v=>∃u:List Value,v=Ag u∧HB.rep g.F e u r)
def mean_later_1.Spec(f:(List AE)→Int→Int→Ao→AB→Nm→Option ((Except Int Al)×(List AE)×Int×Int)):Prop:=
 ∀d e {a c},mean_later_1.At ([a,c].Nodup) (0∉[a,c]) d e f a c
def mean_callth.Spec(f:(List AE)→Int→Int→Ao→Th→Option ((Except Int Al)×(List AE)×Int×Int)):Prop:=
 ∀c a {m d p q s w n o y z aa e},f p s w y z=some e→[d,o].Nodup→0∉[d,o]→Bk c a d m [.map (some n),q,I s,I w] 83→Slc AI c.F a q p→Mp c a o n y→MTh 89 90 c.F a aa z→
  ∃g caps,ABi PG aa g caps∧Calls PG g ([Pt m 0]++caps:List Value).toArray a fun ac h=>∃(l:Col) (ab:Value),AS [d] c a l h∧Bk l h d m [.map (some n),ab,I e.2.2.1,I e.2.2.2] 83∧Slc AI l.F h ab e.2.1∧Ea 33 e.1 ac (fun r v=>∃u:List Value,v=Ag u∧HB.rep l.F h u r)
def mean_run_parts.At(G1 G2:Prop)(c:Col)(a:World)(f:(List AE)→Int→Int→Ao→AB→Nm→Option ((Except Int Al)×(List AE)×Int×Int))(h ac:Nat):Prop:=
 ∀{l n o p q m s w y z aa d},f n p q s w z=some d→G1→G2→Bk c a h l [.map (some m),o,I p,I q] 83→Slc AI c.F a o n→Mp c a ac m s→AJ.rep c.F a y w→GQ 89 90 c.F a aa z→
  Calls PG 58 #[Pt l 0,Ag y,aa] a fun ad e=>∃g ab,AS [h] c a g e∧Bk g e h l [.map (some m),ab,I d.2.2.1,I d.2.2.2] 83∧Slc AI g.F e ab d.2.1∧Ea 33 d.1 ad (fun r v=>∃u:List Value,v=Ag u∧HB.rep g.F e u r)
def mean_run_parts.Spec(f:(List AE)→Int→Int→Ao→AB→Nm→Option ((Except Int Al)×(List AE)×Int×Int)):Prop:=
 ∀d e {a c},mean_run_parts.At ([a,c].Nodup) (0∉[a,c]) d e f a c
structure AZ.Good(a:AZ):Prop where
 mean_run_look:mean_run_look.Spec a.mean_run_look
 mean_later_1:mean_later_1.Spec a.mean_later_1
 mean_callth:mean_callth.Spec a.mean_callth
 mean_run_parts:mean_run_parts.Spec a.mean_run_parts
theorem QI(ar:AZ)(bn:Nat)(ca:AZ.Good ar)(cb:Col)(ez:World)(y:∀b,cb b<10):mean_run_look.At True True cb ez (A9 ar bn) 1 2:=by
 intro ah z ke au a1 kf av d kg aj ad bo a _ _ da ae cc e0 a2
 rw [A9] at a
 obtain ⟨a3,a4,rfl⟩:=AR ae
 obtain ⟨db,dc,rfl,bp⟩:=E1 (Ai e0)
 refine Ay Tryz.func33 rfl Tryz.ntmps33 rfl fun B aa e=>Sr<|Ef<|BX cb 20 rfl rfl fun e1 ki cd de m=>Ef<|AU e1 21 Kb rfl fun bq e2 cf aw l=>AA<|An (fun bf df=>∃ax n,bf=Env.puts ax [(0,Pt ah 0),(2,ad),(4,Pt cd 0),(6,Pt cf 0)]∧CT ar bn z au a1 av d aj=some bo∧AS [] bq e2 n df) ?_ ?_
 refine AY<|B8 Eg (qs 0 9 .nil) [] [] bq (by kernel_rfl) fun kj br=>Qx e rfl (v:=Pt ah 0) (fun _ _=>Mv rfl)<|Qx e rfl (fun _ _=>Nc rfl)<|Qx e rfl (fun _ _=>Fd OZ rfl)<|have cg:=Y3 da m l br;Qx e rfl (fun _ ⟨_,c⟩=>Ld CD rfl (Bc (Bs cg c) rfl))<|Qx e rfl (v:=Pt ah 0) (fun _ _=>Mv rfl)<|Qx e rfl (fun _ _=>Nc rfl)<|Qx e rfl (fun _ _=>Fd YG rfl)<|Qx e rfl (fun _ ⟨_,c⟩=>Ld CD rfl (Bc (Bs cg c) rfl))<|Qx e rfl (v:=.bool (decide (au≥a1))) (fun _ _=>rfl)<|Dt<|Cn a (fun e3 a=>?_) fun e3 a=>?_
 refine AM<|Vr (.iface 33 (I 60))<|SV (.none rfl) (Qf rfl)<|have e4:=K3 AI ae m l br; ?_
 obtain rfl:=AN a
 refine Nb (B:=B) aa<|⟨bq,Sl a3 z a4,Ho (T2 (Mo [] m) l br) y,cg,e4,GU⟩
 refine WC.skip<|⟨_,bq,Pu,a,(Mo [] br)⟩
 rintro _ df ⟨ax,n,rfl,a,f⟩
 rw [CT] at a
 refine Sr<|Vm<|Vx (Nc rfl)<|Vx (Fd OZ rfl)<|have dg:=Y3 da m l f;Vx (Ld CD rfl (Bc dg rfl))<|Vr (I (Wr (au+1)))<|Vx (Nc rfl)<|Vx (Fd OZ rfl)<|Eu<|St Md dg rfl rfl rfl rfl fun dh ak g=>AA<|An (fun bf ch=>∃ax ci,bf=Env.puts ax [(0,Pt ah 0),(2,ad),(4,Pt cd 0),(6,Pt cf 0)]∧Ki ar z au a1 av d aj=some bo∧AS [] n dh ci ch) ?_ ?_
 refine Sr<|Vx (Fz DW rfl)<|have bg:=Y3 de l f g;Vx (Ld Hr rfl (Bc bg rfl))<|AA<|Ad<|Sr<|Vr (.bool (d.op==1))<|Va (.bool (d.op==1))<|AA<|Cn a (fun e5 a=>?_) fun e5 a=>?_
 refine Sr<|Vx (Fd YB rfl)<|Vx (Ld Hq rfl (Bc bg rfl))<|Vx (v:=Ag [I 1,Cx d.num,.bool false,.slice none 0 0]) (Bp FU Jm rfl (.cons rfl rfl rfl (.cons rfl rfl rfl .nil)))<|Vx (v:=Ag [I 1,Cx d.num,.bool false,.slice none 0 0,.nilFunc,.nilFunc]) (Bp Kb M8 rfl (.cons rfl rfl rfl .nil))<|have e6:=Y2 aw f g;Eu<|St JM e6 rfl rfl rfl rfl fun kk e7 cj=>AA<|AW ?_
 obtain rfl:=AN a
 refine O1 B aa rfl (.agg Jl rfl rfl (Bw e7))<|have e8:=Bs ak cj;have e9:=Ss AI (K4 AI ae m l f g) cj;⟨n,Sl a3 z a4,Ho (T4 (Mo [1,21] m) l f g cj) y,e8,e9,FI ⟨[I 1,Cx d.num,.bool false,.slice none 0 0,.nilFunc,.nilFunc],rfl,(Cj (x:=(Al.mk (AH.mk 1 d.num false []) Th.nil Th.nil)) Bd MTh.nil MTh.nil)⟩⟩
 refine Sr<|Vr (.bool (d.op==2))<|Va (.bool (d.op==2))<|AA<|Cn a (fun fa a=>?_) fun fa a=>?_
 refine Sr<|Vx (v:=Ag [I 2,Cx (((0,0):Nat×Nat)),.bool true,.slice none 0 0]) (Bp FU Jm rfl (.cons rfl rfl rfl (.cons rfl rfl rfl .nil)))<|Vx (v:=Ag [I 2,Cx (((0,0):Nat×Nat)),.bool true,.slice none 0 0,.nilFunc,.nilFunc]) (Bp Kb M8 rfl (.cons rfl rfl rfl .nil))<|have fb:=Y2 aw f g;Eu<|St JM fb rfl rfl rfl rfl fun kl fc ck=>AA<|AW ?_
 obtain rfl:=AN a
 refine O1 B aa rfl (.agg Jl rfl rfl (Bw fc))<|have fd:=Bs ak ck;have fe:=Ss AI (K4 AI ae m l f g) ck;⟨n,Sl a3 z a4,Ho (T4 (Mo [1,21] m) l f g ck) y,fd,fe,FI ⟨[I 2,Cx (((0,0):Nat×Nat)),.bool true,.slice none 0 0,.nilFunc,.nilFunc],rfl,(Cj (x:=(Al.mk (AH.mk 2 ((0,0):Nat×Nat) true []) Th.nil Th.nil)) Bd MTh.nil MTh.nil)⟩⟩
 refine Sr<|Vr (.bool (d.op==3))<|Va (.bool (d.op==3))<|AA<|Cn a (fun ff a=>?_) fun ff a=>?_
 refine Sr<|Vx (v:=Ag [I 2,Cx (((0,0):Nat×Nat)),.bool false,.slice none 0 0]) (Bp FU Jm rfl (.cons rfl rfl rfl .nil))<|Vx (v:=Ag [I 2,Cx (((0,0):Nat×Nat)),.bool false,.slice none 0 0,.nilFunc,.nilFunc]) (Bp Kb M8 rfl (.cons rfl rfl rfl .nil))<|have fg:=Y2 aw f g;Eu<|St JM fg rfl rfl rfl rfl fun km fh cl=>AA<|AW ?_
 obtain rfl:=AN a
 refine O1 B aa rfl (.agg Jl rfl rfl (Bw fh))<|have fi:=Bs ak cl;have fj:=Ss AI (K4 AI ae m l f g) cl;⟨n,Sl a3 z a4,Ho (T4 (Mo [1,21] m) l f g cl) y,fi,fj,FI ⟨[I 2,Cx (((0,0):Nat×Nat)),.bool false,.slice none 0 0,.nilFunc,.nilFunc],rfl,(Cj (x:=(Al.mk (AH.mk 2 ((0,0):Nat×Nat) false []) Th.nil Th.nil)) Bd MTh.nil MTh.nil)⟩⟩
 refine Sr<|Vr (.bool (d.op==4))<|Va (.bool (d.op==4))<|AA<|Cn a (fun fk a=>?_) fun fk a=>?_
 refine Sr<|Vx (v:=Ag [I 3,Cx (((0,0):Nat×Nat)),.bool false,.slice none 0 0]) (Bp FU Jm rfl (.cons rfl rfl rfl .nil))<|Vx (v:=Ag [I 3,Cx (((0,0):Nat×Nat)),.bool false,.slice none 0 0,.nilFunc,.nilFunc]) (Bp Kb M8 rfl (.cons rfl rfl rfl .nil))<|have fl:=Y2 aw f g;Eu<|St JM fl rfl rfl rfl rfl fun kn fm cm=>AA<|AW ?_
 obtain rfl:=AN a
 refine O1 B aa rfl (.agg Jl rfl rfl (Bw fm))<|have fn:=Bs ak cm;have fo:=Ss AI (K4 AI ae m l f g) cm;⟨n,Sl a3 z a4,Ho (T4 (Mo [1,21] m) l f g cm) y,fn,fo,FI ⟨[I 3,Cx (((0,0):Nat×Nat)),.bool false,.slice none 0 0,.nilFunc,.nilFunc],rfl,(Cj (x:=(Al.mk (AH.mk 3 ((0,0):Nat×Nat) false []) Th.nil Th.nil)) Bd MTh.nil MTh.nil)⟩⟩
 refine Sr<|Vr (.bool (d.op==5))<|Va (.bool (d.op==5))<|AA<|Cn a (fun fp a=>?_) fun fp a=>?_
 refine AM<|Vr (.iface 33 (I 52))<|SV (.none rfl) (Qf rfl)<|have fq:=K4 AI ae m l f g; ?_
 obtain rfl:=AN a
 refine Nb (B:=B) aa<|⟨n,Sl a3 z a4,Ho (T3 (Mo [1] m) l f g) y,ak,fq,GU⟩
 refine Sr<|Vr (.bool (d.op==6))<|Va (.bool (d.op==6))<|AA<|Cn a (fun fr a=>?_) fun fr a=>?_
 refine Sr<|Vm<|Vx (Fd EV rfl)<|Vx (Ld CS rfl (Bc bg rfl))<|have fs:=Me (Me (Me (Me a2 m) l) f) g;Bi a fun ko ft a=>Ca (Cg [ad,Sb d.name] rfl) (Pp bn n dh ft fs) ?_
 rintro _ fu ⟨fv,kp,rfl,a8,fw⟩
 refine Vm<|have fx:=Bs ak a8;have fy:=Ss AI (K4 AI ae m l f g) a8;have fz:=Ms (Ms (Ms (Ms (Ms cc m) l) f) g) a8;Bi a fun di f0 a=>?_
 obtain ⟨kq,kr,f1,f2⟩:=ca.mean_callth fv fu f0 dcd dcd fx fy fz fw
 refine IU (.none rfl) rfl rfl (f1 (vs:=[Pt ah 0]) rfl rfl)<|Calls.mono f2 ?_
 rintro _ ks ⟨dj,kt,cn,dk,co,f3⟩
 obtain ⟨dl,dm,rfl⟩:=AR co
 obtain ⟨ku,f4,rfl⟩| ⟨o,f5,kv,rfl,kw,rfl,f6⟩:=Ea.split f3
 refine have a:=Du a f4; .inl ⟨_,rfl,?_⟩
 obtain rfl:=AN a
 refine Nb (B:=B) aa<|⟨dj,Sl dl di.2.1 dm,Ho (Tn (T4 (Mo [1] m) l f g a8) cn) y,dk,co,GU⟩
 refine have a:=G9 a f5; ?_
 obtain ⟨kx,bt,bu,rfl,cq,dn,dp⟩:=DR f6
 obtain ⟨bv,bw,rfl⟩:=AR cq
 refine .inr ⟨_,rfl,?_⟩
 refine have f7:=Y4 aw f g a8 cn;Eu<|BB (vs:=[I o.plain.type_,Cx o.plain.num,.bool o.plain.bool,Sl bv o.plain.list bw,bt,bu]) (cs':=[I o.plain.type_,Cx o.plain.num,.bool o.plain.bool,Sl bv o.plain.list bw,bt,bu]) JM rfl rfl rfl rfl (AP rfl (AP rfl (AP rfl (AP (FZ cq) (AP (MTh.one dn) (AP (MTh.one dp) BO)))))) f7 dcd rfl rfl fun ky f8 a9=>AA<|AW ?_
 obtain rfl:=AN a
 refine O1 B aa rfl (.agg Jl rfl rfl (Bw f8))<|have f9:=Ss Kd.cpx cq a9;have ga:=Mt dn a9;have gb:=Mt dp a9;have gc:=Bs dk a9;have gd:=Ss AI co a9;⟨dj,Sl dl di.2.1 dm,Ho (T2 (T4 (Mo [1,21] m) l f g a8) cn a9) y,gc,gd,FI ⟨[I o.plain.type_,Cx o.plain.num,.bool o.plain.bool,Sl bv o.plain.list bw,bt,bu],rfl,(Cj (x:=o) f9 ga gb)⟩⟩
 refine Sr<|Vr (.bool (d.op==7))<|Va (.bool (d.op==7))<|AA<|Cn a (fun ge a=>?_) fun ge a=>?_
 refine AY<|B8 Eg (qs 0 13 (.one 13 (.one 14 .nil))) [14] [] n (by kernel_rfl) fun gf al=>Qx e rfl (v:=Pt ah 0) (fun _ _=>Mv rfl)<|Qx e rfl (fun _ _=>Nc rfl)<|Qx e rfl (fun _ _=>Fd YF rfl)<|have cr:=Bs ak al;Qx e rfl (fun _ ⟨_,c⟩=>Ld GP rfl (Bc (Bs cr c) rfl))<|Qx e rfl (v:=Pt ah 0) (fun _ _=>Mv rfl)<|Qx e rfl (fun _ _=>Nc rfl)<|Qx e rfl (fun _ _=>Fz SY rfl)<|Qx e rfl (fun _ ⟨_,c⟩=>Ld Oc rfl (Bc (Bs cr c) rfl))<|Qx e rfl (fun _ _=>Fd EV rfl)<|have dq:=Bs bg al;Qx e rfl (fun _ ⟨_,c⟩=>Ld CS rfl (Bc (Bs dq c) rfl))<|have dr:=Ms (Ms (Ms (Ms (Ms cc m) l) f) g) al;Qx e rfl (v:=I (Ck av d.name)) (fun _ ⟨_,c⟩=>Jt Ko rfl rfl (Ms dr c))<|Bi a fun h gg a=>have ds:=Ss AI (K4 AI ae m l f g) al; ?_
 obtain ⟨gh,gi,kz,gj,gk,gl,gm,gn,ct⟩:=BG (κ:=AI) ds gg
 replace ct:A3 n gf gh (gi+((Ck av d.name)).toNat*11) gj:=ct
 obtain ⟨k0,k1,rfl,dt,du⟩:=DA gn
 obtain ⟨dv,dw,rfl⟩:=AR dt
 obtain ⟨cu,cv,rfl⟩:=AR du
 refine Qx e rfl (fun _ _=>Ix DY gk rfl gl gm)<|Qx e rfl (fun _ ⟨_,c⟩=>Lx Lc rfl rfl (A3.part0 (Es ct c) [Sb h.name,Sl dv h.params dw,I h.type_,I h.body.op,Sb h.body.name,Sb h.body.tail,I h.body.type_,Cx h.body.num,Sl cu h.body.args cv,I h.body.at_,I h.at_] rfl))<|A5 rfl<|Aw rfl (.none rfl) rfl rfl<|AU n 22 Fs rfl fun dx k2 go gp ac=>⟨⟨_,(Mo [] ac)⟩,?_⟩
 refine CX dcd<|WY.one<|have gq:=Ss Aa dt ac;have gr:=Ss AJ du ac;BC rfl (.none rfl) rfl<|St LD gp rfl rfl rfl rfl fun gs dy af=>WY.nil<|Sr<|Va (.pointer none)<|AA<|AY<|Sr<|Vx (Fd Eh rfl)<|Vx (Ld E0 rfl (Bc dy rfl))<|have dz:=Ss Aa gq af; ?_
 obtain ⟨k3,k4,gt⟩:=AR dz
 refine Vx (v:=I (h.params.length:Int)) (Ll ED gt)<|Vm<|AA<|Ad<|Bj (fun ay bf bh=>∃ax ba bi a5 ag,bf=Env.puts ax [(0,Pt ah 0),(2,ad),(4,Pt cd 0),(6,Pt cf 0),(7,Pt go 0),(8,a5),(75,Sl dv h.params dw),(76,I (h.params.length:Int)),(77,I ag)]∧GJ ar z au a1 av d aj h ay bi ag=some bo∧AS [23,24,25,26] dx gs ba bh∧GQ 89 90 ba.F bh a5 bi) bn ?_ ?_
 exact ⟨_,dx,Nm.nil,.pointer none,0,Pu,a,(AS.refl [23,24,25,26] _ _),GQ.nil⟩
 rintro ay _ bh ⟨ax,ba,bi,a5,ag,rfl,a,ab,cw⟩
 rcases ay with _|ay
 exact A6 a
 refine have a:I4 ar z au a1 av d aj h (GJ ar z au a1 av d aj h ay) bi ag=some bo:=a; ?_
 obtain ⟨k5,d0⟩:∃s,s=GJ ar z au a1 av d aj h ay:=⟨_,rfl⟩
 rw [←d0,I4] at a
 refine Sr<|Vr (.bool (decide (ag< (h.params.length:Int))))<|AA<|AY<|Cn a (fun gu a=>?_) fun gu a=>?_
 refine WC.skip<|AY<|Ad<|Sr<|Vm<|Bi a fun bb gv a=>have gw:=Ss Aa dz ab; ?_
 obtain ⟨gx,gy,k6,gz,g0,g1,g2,g3,cx⟩:=BG (κ:=Aa) gw gv
 replace cx:A3 ba bh gx (gy+ag.toNat*3) gz:=cx
 obtain rfl:=Fv g3
 refine Vx (Ix ED g0 rfl g1 g2)<|Vx (Lx Wf rfl rfl (A3.part0 cx [Sb bb.name,I bb.type_,I bb.at_] rfl))<|Ef<|AU ba 23 Lf rfl fun cy k7 k8 g4 bj=>Va (I ag)<|Eu<|St Wk g4 rfl rfl rfl rfl fun k9 g5 bk=>AA<|B8 Eg (qs 0 8 (.q 9 (.one 8 (.q 10 (.one 11 (.q 12 .nil)))))) [] [24,25] cy (by kernel_rfl) fun d1 bc=>Qx e rfl (fun _ _=>Fz MA rfl)<|have g6:=Bs g5 bc;Qx e rfl (fun _ ⟨_,c⟩=>Ld CS rfl (Bc (Bs g6 c) rfl))<|Qx e rfl (fun _ _=>Fd Bh rfl)<|have g7:=Y2 (Y4 dq ac af ab bj) bk bc;Qx e rfl (fun _ ⟨_,c⟩=>Ld EC rfl (Bc (Bs g7 c) rfl))<|Qx e rfl (v:=I ag) (fun _ _=>Mv rfl)<|Bi a fun r g8 a=>have g9:=K3 AJ (K4 AJ (K4 AJ bp m l f g) al ac af ab) bj bk bc; ?_
 obtain ⟨ha,hb,la,hc,hd,he,hf,hg,cz⟩:=BG (κ:=AJ) g9 g8
 replace cz:A3 cy d1 ha (hb+ag.toNat*7) hc:=cz
 obtain ⟨d3,d4,rfl,d2⟩:=E1 (Ai hg)
 refine Qx e rfl (fun _ _=>Ix C9 hd rfl he hf)<|Qx e rfl (fun _ ⟨_,c⟩=>Lx BA rfl rfl (A3.part0 (Es cz c) [I r.op,Sb r.name,Sb r.tail,I r.type_,Cx r.num,Sl d3 r.args d4,I r.at_] rfl))<|Qx e rfl (v:=ad) (fun _ _=>Mv rfl)<|Qx e rfl (v:=a5) (fun _ _=>Mv rfl)<|A5 rfl<|Bi a fun am hh a=>BM rfl (.none rfl) rfl rfl (Cg [Ag [I r.op,Sb r.name,Sb r.tail,I r.type_,Cx r.num,Sl d3 r.args d4,I r.at_],ad] rfl)<|Calls.mono (L2 cy d1 (kn0:=24) (kn1:=25) hh dcd dcd (Ab (x:=r) d2) (GQ.one a2)) ?_
 rintro _ lc ⟨hi,d5,d6,ld,rfl,bl,hj,hk,hl⟩
 obtain ⟨hm,hn,rfl,d7⟩:=E1 (Ai hk)
 refine ⟨_,rfl,⟨_,(Mo [24,25] bl)⟩,?_⟩
 refine Qx e rfl (v:=Ag [Sb bb.name,.func (.func 90) #[] [Pt d5 0,Pt d6 0].toArray,a5]) (fun _ _=>Bv (cs:=[Sb bb.name,.func (.func 90) #[] [Pt d5 0,Pt d6 0].toArray,a5]) [Sb ([]:Bts),.nilFunc,.pointer none] Qr Qo rfl (.cons rfl rfl rfl (.cons rfl rfl rfl (.cons rfl (Ir (GQ.one cw)) rfl .nil))) rfl rfl)<|A5 rfl<|Aw rfl (.none rfl) rfl rfl<|BX hi 26 rfl rfl fun lf lg d8 ho a6=>⟨⟨_,(Tn (Mo [24,25] bl) a6)⟩,?_⟩
 refine Qx e rfl (v:=Pt d8 0) (fun _ _=>Run.assign rfl)<|Dt<|AM<|Vr (I (Wr (ag+1)))<|Vm<|AA<|have hp:=Ss AJ d7 a6;have hq:=Bs hj a6;have hr:=Bs hl a6;have hs:=Me (Me (Me (Me (Me (Me (Me (Me (Me (Me (Me (Me (Me a2 m) l) f) g) al) ac) af) ab) bj) bk) bc) bl) a6; ?_
 obtain ⟨lh,c0,ht⟩:=MTh.layLater (D:=89) (ce:=[I am.op,Sb am.name,Sb am.tail,I am.type_,Cx am.num,Sl hm am.args hn,I am.at_]) hq hr dcd (Ab (x:=am) hp) hs
 refine have hu:=Bs ho c0;have hw:=Me (Me (Me (Me (Me (Me cw bj) bk) bc) bl) a6) c0; ?_
 obtain ⟨hx,hy,hz⟩:=GQ.lay hu dcd ht hw
 exact ⟨ay,Nat.lt_succ_self ay,_,hx,(Nm.bind bb.name (Th.later am aj) bi),Pt d8 0,(Wr (ag+1)),Pu,(d0▸a),(T3 (T4 (Mo [23,24,25,26] ab) bj bk bc bl) a6 c0 hy),hz⟩
 refine BZ<|Sr<|Vm<|Vx (Fd Mb rfl)<|have h0:=Bs dy ab;Vx (Lx BA rfl rfl (Bk.part h0 3 [I h.body.op,Sb h.body.name,Sb h.body.tail,I h.body.type_,Cx h.body.num,Sl cu h.body.args cv,I h.body.at_] rfl))<|Vm<|have h1:=Y3 cr ac af ab;have h2:=K3 AI ds ac af ab;have h3:=Ms (Ms (Ms dr ac) af) ab;have h4:=K2 AJ gr af ab;Bi a fun d9 h5 a=>IU (.none rfl) rfl rfl (Cg [Pt ah 0,Ag [I h.body.op,Sb h.body.name,Sb h.body.tail,I h.body.type_,Cx h.body.num,Sl cu h.body.args cv,I h.body.at_],a5] rfl)<|Calls.mono (ca.mean_run_look ba bh h5 dcd dcd h1 h2 h3 (Ab (x:=(AB.mk h.body.op h.body.name h.body.tail h.body.type_ h.body.num h.body.args h.body.at_)) h4) cw) ?_
 rintro _ li ⟨ea,lj,c1,eb,c2,h6⟩
 obtain ⟨ec,ed,rfl⟩:=AR c2
 obtain ⟨lk,h7,rfl⟩| ⟨p,h8,ll,rfl,lm,rfl,h9⟩:=Ea.split h6
 refine have a:=Du a h7; .inl ⟨_,rfl,?_⟩
 obtain rfl:=AN a
 refine Nb (B:=B) aa<|⟨ea,Sl ec d9.2.1 ed,Ho (T4 (T4 (Mo [1,22,23,24,25,26] m) l f g al) ac af ab c1) y,eb,c2,GU⟩
 refine have a:=G9 a h8; ?_
 obtain ⟨ln,bx,bz,rfl,c3,ee,ef⟩:=DR h9
 obtain ⟨b0,b1,rfl⟩:=AR c3
 refine .inr ⟨_,rfl,?_⟩
 refine have ia:=Y3 (Y4 aw f g al ac) af ab c1;Eu<|BB (vs:=[I p.plain.type_,Cx p.plain.num,.bool p.plain.bool,Sl b0 p.plain.list b1,bx,bz]) (cs':=[I p.plain.type_,Cx p.plain.num,.bool p.plain.bool,Sl b0 p.plain.list b1,bx,bz]) JM rfl rfl rfl rfl (AP rfl (AP rfl (AP rfl (AP (FZ c3) (AP (MTh.one ee) (AP (MTh.one ef) BO)))))) ia dcd rfl rfl fun lo ib bd=>AA<|AW ?_
 obtain rfl:=AN a
 refine O1 B aa rfl (.agg Jl rfl rfl (Bw ib))<|have ic:=Ss Kd.cpx c3 bd;have id:=Mt ee bd;have ie:=Mt ef bd;have ig:=Bs eb bd;have ih:=Ss AI c2 bd;⟨ea,Sl ec d9.2.1 ed,Ho (Tn (T4 (T4 (Mo [1,21,22,23,24,25,26] m) l f g al) ac af ab c1) bd) y,ig,ih,FI ⟨[I p.plain.type_,Cx p.plain.num,.bool p.plain.bool,Sl b0 p.plain.list b1,bx,bz],rfl,(Cj (x:=p) ic id ie)⟩⟩
 refine Sr<|Vr (.bool (d.op==18))<|Va (.bool (d.op==18))<|AA<|Cn a (fun ii a=>?_) fun ii a=>?_
 refine AY<|B8 Eg (qs 0 5 (qs 6 5 (.one 5 (.one 11 (.q 12 (.one 13 .nil)))))) [13] [27,28,29,30] n (by kernel_rfl) fun c4 a7=>Qx e rfl (fun _ _=>Fd Bh rfl)<|have eg:=Bs bg a7;Qx e rfl (fun _ ⟨_,c⟩=>Ld EC rfl (Bc (Bs eg c) rfl))<|Bi a fun u ij a=>have eh:=Ss AJ (K4 AJ bp m l f g) a7; ?_
 obtain ⟨ik,il,lp,im,io,ip,iq,ir,c5⟩:=BG (κ:=AJ) eh ij
 replace c5:A3 n c4 ik (il+(0:Int).toNat*7) im:=c5
 obtain ⟨ej,ek,rfl,ei⟩:=E1 (Ai ir)
 refine Qx e rfl (fun _ _=>Ix C9 io rfl ip iq)<|Qx e rfl (fun _ ⟨_,c⟩=>Lx BA rfl rfl (A3.part0 (Es c5 c) [I u.op,Sb u.name,Sb u.tail,I u.type_,Cx u.num,Sl ej u.args ek,I u.at_] rfl))<|Qx e rfl (v:=ad) (fun _ _=>Mv rfl)<|Qx e rfl (fun _ _=>Fd Bh rfl)<|Qx e rfl (fun _ ⟨_,c⟩=>Ld EC rfl (Bc (Bs eg c) rfl))<|Bi a fun w it a=>?_
 obtain ⟨iu,iv,lr,iw,ix,iy,iz,i0,c6⟩:=BG (κ:=AJ) eh it
 replace c6:A3 n c4 iu (iv+(1:Int).toNat*7) iw:=c6
 obtain ⟨em,en,rfl,el⟩:=E1 (Ai i0)
 refine Qx e rfl (fun _ _=>Ix C9 ix rfl iy iz)<|Qx e rfl (fun _ ⟨_,c⟩=>Lx BA rfl rfl (A3.part0 (Es c6 c) [I w.op,Sb w.name,Sb w.tail,I w.type_,Cx w.num,Sl em w.args en,I w.at_] rfl))<|Qx e rfl (v:=ad) (fun _ _=>Mv rfl)<|A5 rfl<|Bi a fun an i1 a=>BM rfl (.none rfl) rfl rfl (Cg [Ag [I u.op,Sb u.name,Sb u.tail,I u.type_,Cx u.num,Sl ej u.args ek,I u.at_],ad] rfl)<|Calls.mono (L2 n c4 (kn0:=27) (kn1:=28) i1 dcd dcd (Ab (x:=u) ei) (GQ.one a2)) ?_
 rintro _ i2 ⟨i3,b2,b3,lt,rfl,az,i4,i5,i6⟩
 obtain ⟨i7,i8,rfl,eo⟩:=E1 (Ai i5)
 refine ⟨_,rfl,⟨_,(Mo [27,28,29,30] az)⟩,?_⟩
 refine A5 rfl<|have i9:=Ss AJ el az;Bi a fun ao ja a=>BM rfl (.none rfl) rfl rfl (Cg [Ag [I w.op,Sb w.name,Sb w.tail,I w.type_,Cx w.num,Sl em w.args en,I w.at_],ad] rfl)<|Calls.mono (L2 i3 i2 (kn0:=29) (kn1:=30) ja dcd dcd (Ab (x:=w) i9) (GQ.one a2)) ?_
 rintro _ lv ⟨lw,b4,b5,lx,rfl,ap,jb,jc,jd⟩
 obtain ⟨je,jf,rfl,ep⟩:=E1 (Ai jc)
 refine ⟨_,rfl,⟨_,(Tn (Mo [27,28,29,30] az) ap)⟩,?_⟩
 refine Qx e rfl (v:=Ag [I 0,Cx (((0,0):Nat×Nat)),.bool false,.slice none 0 0,.func (.func 90) #[] [Pt b2 0,Pt b3 0].toArray,.func (.func 90) #[] [Pt b4 0,Pt b5 0].toArray]) (fun _ _=>Bv (cs:=[I 0,Cx (((0,0):Nat×Nat)),.bool false,.slice none 0 0,.func (.func 90) #[] [Pt b2 0,Pt b3 0].toArray,.func (.func 90) #[] [Pt b4 0,Pt b5 0].toArray]) [I 0,Cx (((0,0):Nat×Nat)),.bool false,.slice none 0 0,.nilFunc,.nilFunc] Kb M8 rfl (.cons rfl rfl rfl (.cons rfl rfl rfl .nil)) rfl rfl)<|CX dcd<|WY.one<|have jg:=Bs (Y4 aw f g a7 az) ap;BC rfl (.none rfl) rfl<|St JM jg rfl rfl rfl rfl fun lz jh ai=>WY.nil<|AW<|have ji:=K2 AJ eo ap ai;have jj:=Y2 i4 ap ai;have jk:=Y2 i6 ap ai;have eq:=Me (Me (Me (Me (Me (Me (Me (Me a2 m) l) f) g) a7) az) ap) ai; ?_
 obtain ⟨l0,a0,jl⟩:=MTh.layLater (D:=89) (ce:=[I an.op,Sb an.name,Sb an.tail,I an.type_,Cx an.num,Sl i7 an.args i8,I an.at_]) jj jk dcd (Ab (x:=an) ji) eq
 refine have jm:=K2 AJ ep ai a0;have jn:=Y2 jb ai a0;have jo:=Y2 jd ai a0;have jp:=Me eq a0; ?_
 obtain ⟨jq,bm,jr⟩:=MTh.layLater (D:=89) (ce:=[I ao.op,Sb ao.name,Sb ao.tail,I ao.type_,Cx ao.num,Sl je ao.args jf,I ao.at_]) jn jo dcd (Ab (x:=ao) jm) jp
 obtain rfl:=AN a
 refine have js:=Y2 jh a0 bm;O1 B aa rfl (.agg Jl rfl rfl (Bw js))<|have jt:=Mt jl bm;have ju:=Y2 (Y4 ak a7 az ap ai) a0 bm;have jv:=K2 AI (K4 AI (K4 AI ae m l f g) a7 az ap ai) a0 bm;⟨jq,Sl a3 z a4,Ho (Tn (T4 (T4 (Mo [1,21,27,28,29,30] m) l f g a7) az ap ai a0) bm) y,ju,jv,FI ⟨[I 0,Cx (((0,0):Nat×Nat)),.bool false,.slice none 0 0,.func (.func 90) #[] [Pt b2 0,Pt b3 0].toArray,.func (.func 90) #[] [Pt b4 0,Pt b5 0].toArray],rfl,(Cj (x:=(Al.mk (AH.mk 0 ((0,0):Nat×Nat) false []) (Th.later an aj) (Th.later ao aj))) Bd jt jr)⟩⟩
 refine WC.skip<|⟨_,n,Pu,a,Rf⟩
 rintro _ ch ⟨ax,ci,rfl,a,aq⟩
 rw [Ki] at a
 refine Sr<|Vm<|have jw:=Y4 de l f g aq;Vx (Lx BA rfl rfl (Bw jw))<|Vm<|have jx:=Bs ak aq;have jy:=Ss AI (K4 AI ae m l f g) aq;have jz:=Ms (Ms (Ms (Ms (Ms cc m) l) f) g) aq;have j0:=Ss AJ (K4 AJ bp m l f g) aq;have j1:=Me (Me (Me (Me (Me a2 m) l) f) g) aq;Bi a fun er j2 a=>IU (.none rfl) rfl rfl (Cg [Pt ah 0,Ag [I d.op,Sb d.name,Sb d.tail,I d.type_,Cx d.num,Sl db d.args dc,I d.at_],ad] rfl)<|Calls.mono (ca.mean_run_parts ci ch j2 dcd dcd jx jy jz (Ab (x:=d) j0) j1) ?_
 rintro _ l1 ⟨es,l2,c7,et,c8,j3⟩
 obtain ⟨eu,ew,rfl⟩:=AR c8
 obtain ⟨l3,j4,rfl⟩| ⟨q,j5,l4,rfl,l5,rfl,j6⟩:=Ea.split j3
 refine have a:=Du a j4; .inl ⟨_,rfl,?_⟩
 obtain rfl:=AN a
 refine Nb (B:=B) aa<|⟨es,Sl eu er.2.1 ew,Ho (Tn (T4 (Mo [1] m) l f g aq) c7) y,et,c8,GU⟩
 refine have a:=G9 a j5; ?_
 obtain ⟨l6,b6,b7,rfl,c9,ex,ey⟩:=DR j6
 obtain ⟨b8,b9,rfl⟩:=AR c9
 refine .inr ⟨_,rfl,?_⟩
 refine have j7:=Y4 aw f g aq c7;Eu<|BB (vs:=[I q.plain.type_,Cx q.plain.num,.bool q.plain.bool,Sl b8 q.plain.list b9,b6,b7]) (cs':=[I q.plain.type_,Cx q.plain.num,.bool q.plain.bool,Sl b8 q.plain.list b9,b6,b7]) JM rfl rfl rfl rfl (AP rfl (AP rfl (AP rfl (AP (FZ c9) (AP (MTh.one ex) (AP (MTh.one ey) BO)))))) j7 dcd rfl rfl fun l7 j8 be=>AA<|AW ?_
 obtain rfl:=AN a
 refine O1 B aa rfl (.agg Jl rfl rfl (Bw j8))<|have j9:=Ss Kd.cpx c9 be;have ka:=Mt ex be;have kb:=Mt ey be;have kc:=Bs et be;have kd:=Ss AI c8 be;⟨es,Sl eu er.2.1 ew,Ho (T2 (T4 (Mo [1,21] m) l f g aq) c7 be) y,kc,kd,FI ⟨[I q.plain.type_,Cx q.plain.num,.bool q.plain.bool,Sl b8 q.plain.list b9,b6,b7],rfl,(Cj (x:=q) j9 ka kb)⟩⟩
theorem QJ(d:AZ)(f:Nat)(m:AZ.Good d):mean_run_look.Spec (A9 d f):=by
 intro e g a c ac ad ae af ag ah ai aj ak al am an n hnd hnz l o p q s
 refine Calls.mono (QI d f m (recol (see [a,c]) e) g (Hw lbr e) n trivial trivial (BV l [a,c] (BJ hnd hnz (i:=0) rfl)) (EW AI o [a,c]) (Fh p [a,c] (BJ hnd hnz (i:=1) rfl)) (Bl AJ q [a,c]) (GQ.recol s [a,c])) ?_
 rintro ao ap ⟨w,y,z,aa,ab,en⟩
 exact ⟨glue [a,c] g e w,y,DI z (Hu rfl rfl),Ei l aa dcd,G8 AI ab,PA en fun r v ⟨u,hv,h⟩=>⟨u,hv,FW HB h⟩⟩
theorem Q1(p:AZ)(ag:Nat)(ah:AZ.Good p)(l:Col)(ai:World)(q:∀b,l b<10):mean_later_1.At True True l ai (LW p ag) 1 2:=by
 intro aj bf bg bh bi bj bk c bl bm bn bo ak bp d _ _ al r am an ao ap aq
 rw [LW] at d
 obtain ⟨bq,br,rfl⟩:=AR r
 obtain ⟨u,w,rfl,s⟩:=E1 (Ai ao)
 refine Ay Tryz.func90 rfl Tryz.ntmps90 rfl fun B y bu=>Sr<|Ef<|AU l 20 Kb rfl fun ar au bv av e=>AA<|Sr<|Vm<|have aw:=Es an e;Vx (Lx BA rfl rfl (A3.part0 aw [I c.op,Sb c.name,Sb c.tail,I c.type_,Cx c.num,Sl u c.args w,I c.at_] rfl))<|have ax:=Es ap e;Vx (Ld YN rfl (A3.cell0 ax rfl))<|have ay:=Bs al e;have az:=Ss AI r e;have a0:=Ms am e;have a1:=Ss AJ s e;have a2:=Me aq e;Bi d fun z a3 d=>IU (.none rfl) rfl rfl (Cg [Pt aj 0,Ag [I c.op,Sb c.name,Sb c.tail,I c.type_,Cx c.num,Sl u c.args w,I c.at_],ak] rfl)<|Calls.mono (ah.mean_run_look ar au a3 dcd dcd ay az a0 (Ab (x:=c) a1) a2) ?_
 rintro _ bw ⟨aa,bx,m,ab,n,a4⟩
 obtain ⟨ac,ad,rfl⟩:=AR n
 obtain ⟨bz,a5,rfl⟩| ⟨a,a6,b0,rfl,b1,rfl,a7⟩:=Ea.split a4
 refine have d:=Du d a5; .inl ⟨_,rfl,?_⟩
 obtain rfl:=AN d
 refine Nb (B:=B) y<|⟨aa,Sl ac z.2.1 ad,Ho (Tn (Mo [1] e) m) q,ab,n,GU⟩
 refine have d:=G9 d a6; ?_
 obtain ⟨b2,s52,s54,rfl,o,ae,af⟩:=DR a7
 obtain ⟨g,h,rfl⟩:=AR o
 refine .inr ⟨_,rfl,?_⟩
 refine have a8:=Bs av m;Eu<|BB (vs:=[I a.plain.type_,Cx a.plain.num,.bool a.plain.bool,Sl g a.plain.list h,s52,s54]) (cs':=[I a.plain.type_,Cx a.plain.num,.bool a.plain.bool,Sl g a.plain.list h,s52,s54]) JM rfl rfl rfl rfl (AP rfl (AP rfl (AP rfl (AP (FZ o) (AP (MTh.one ae) (AP (MTh.one af) BO)))))) a8 dcd rfl rfl fun b3 a9 f=>AA<|AW ?_
 obtain rfl:=AN d
 refine O1 B y rfl (.agg Jl rfl rfl (Bw a9))<|have ba:=Ss Kd.cpx o f;have bb:=Mt ae f;have bc:=Mt af f;have bd:=Bs ab f;have be:=Ss AI n f;⟨aa,Sl ac z.2.1 ad,Ho (T2 (Mo [1,20] e) m f) q,bd,be,FI ⟨[I a.plain.type_,Cx a.plain.num,.bool a.plain.bool,Sl g a.plain.list h,s52,s54],rfl,(Cj (x:=a) ba bb bc)⟩⟩
theorem Q2(d:AZ)(f:Nat)(m:AZ.Good d):mean_later_1.Spec (LW d f):=by
 intro e g a c ae af ag ah ai aj ak al am an ao ap aq ar n hnd hnz l o p q s w y
 refine Calls.mono (Q1 d f m (recol (see [a,c]) e) g (Hw lbr e) n trivial trivial (BV l [a,c] (BJ hnd hnz (i:=0) rfl)) (EW AI o [a,c]) (Fh p [a,c] (BJ hnd hnz (i:=1) rfl)) (Ph q [a,c]) (Bl AJ s [a,c]) (Ph w [a,c]) (GQ.recol y [a,c])) ?_
 rintro au av ⟨z,aa,ab,ac,ad,en⟩
 exact ⟨glue [a,c] g e z,aa,DI ab (Hu rfl rfl),Ei l ac dcd,G8 AI ad,PA en fun r v ⟨u,hv,h⟩=>⟨u,hv,FW HB h⟩⟩
theorem Ry(f:AZ)(l:Nat)(m:AZ.Good f):mean_callth.Spec (Kv f l):=by
 intro c d n af ag o ah ai aj ak al am an ao a hnd hnz g h p q
 cases q with
 |nil=>rw [Kv] at a;exact A6 a
 |done hF hlt hat hp hh ht=>
 rw [Kv] at a
 refine Bi a fun r hr a=>?_
 obtain rfl:=AN a
 obtain ⟨ap,rfl,s⟩:=Bm hp
 refine ⟨89,_,fun hx hv=>AAY (caps:=[Pt _ 0]) hx hv,?_⟩
 refine Calls.mono (S7 c d hr ⟨hF,hlt,hat⟩ (show HB.rep c.F d _ _ from ⟨_,_,_,rfl,s,hh,ht⟩) (v0:=Pt n 0) rfl) ?_
 rintro _ aq ⟨u,ar,rfl,e,hu⟩
 exact ⟨u,o,AS.mono e (by simp),(Bk.step g e (by simp)),(VZ AI h e (by simp)),FI ⟨_,rfl,hu⟩⟩
 |later w y z aa ab ac ad ae=>
 refine ⟨90,_,fun hx hv=>AAZ (caps:=[Pt _ 0,Pt _ 0]) hx hv,?_⟩
 rw [Kv] at a
 exact m.mean_later_1 c d a hnd hnz g h p ⟨w,y,ab⟩ ac ⟨z,aa,ad⟩ ae
theorem Pr(bv:AZ)(bm:Nat)(a3:AZ.Good bv)(dv:Col)(ir:World)(p:∀b,dv b<10):mean_run_parts.At True True dv ir (A0 bv bm) 1 2:=by
 intro ao it sn iu iv iw cl h so cm ap dw a _ _ b7 bw b8 ix bx
 rw [A0] at a
 obtain ⟨iy,iz,rfl⟩:=AR bw
 obtain ⟨i0,i1,rfl,bz⟩:=E1 (Ai ix)
 refine Ay Tryz.func58 rfl Tryz.ntmps58 rfl fun B q m=>Sr<|Ef<|BX dv 20 rfl rfl fun i2 sq i3 i4 d=>Ef<|AU i2 21 Kb rfl fun a6 bn fi bo c=>AA<|AY<|Sr<|Vx (Fz DW rfl)<|have aq:=Bs i4 c;Vx (Ld Hr rfl (Bc aq rfl))<|AA<|Ad<|Sr<|Vr (.bool (h.op==19))<|Va (.bool (h.op==19))<|AA<|Cn a (fun i5 a=>?_) fun i5 a=>?_
 refine AY<|Sr<|Vm<|Vx (Fd Bh rfl)<|Vx (Ld EC rfl (Bc aq rfl))<|Bi a fun ac i6 a=>have dx:=K2 AJ bz d c; ?_
 obtain ⟨i7,i8,sr,i9,ja,jb,jc,jd,dy⟩:=BG (κ:=AJ) dx i6
 replace dy:A3 a6 bn i7 (i8+(0:Int).toNat*7) i9:=dy
 obtain ⟨fk,fl,rfl,fj⟩:=E1 (Ai jd)
 refine Vx (Ix C9 ja rfl jb jc)<|Vx (Lx BA rfl rfl (A3.part0 dy [I ac.op,Sb ac.name,Sb ac.tail,I ac.type_,Cx ac.num,Sl fk ac.args fl,I ac.at_] rfl))<|Vm<|have je:=Y2 b7 d c;have jf:=K2 AI bw d c;have dz:=Ms (Ms b8 d) c;have d0:=Me (Me bx d) c;Bi a fun jg jh a=>IU (.none rfl) rfl rfl (Cg [Pt ao 0,Ag [I ac.op,Sb ac.name,Sb ac.tail,I ac.type_,Cx ac.num,Sl fk ac.args fl,I ac.at_],ap] rfl)<|Calls.mono (a3.mean_run_look a6 bn jh dcd dcd je jf dz (Ab (x:=ac) fj) d0) ?_
 rintro _ cn ⟨b9,st,ad,d1,co,ji⟩
 obtain ⟨jj,jk,rfl⟩:=AR co
 obtain ⟨su,jl,rfl⟩| ⟨ar,jm,sv,rfl,sw,rfl,jn⟩:=Ea.split ji
 refine have a:=Du a jl; .inl ⟨_,rfl,?_⟩
 obtain rfl:=AN a
 refine Nb (B:=B) q<|⟨b9,Sl jj jg.2.1 jk,Ho (T2 (Mo [1] d) c ad) p,d1,co,GU⟩
 refine have a:=G9 a jm; ?_
 obtain ⟨sx,jo,jp,rfl,jq,sy,sz⟩:=DR jn
 obtain ⟨d2,d3,rfl⟩:=AR jq
 refine .inr ⟨_,rfl,?_⟩
 refine Vx (v:=Ag [I ar.plain.type_,Cx ar.plain.num,.bool ar.plain.bool,Sl d2 ar.plain.list d3]) (Pd (cs:=[I ar.plain.type_,Cx ar.plain.num,.bool ar.plain.bool,Sl d2 ar.plain.list d3,jo,jp]) Sa rfl)<|Vx (v:=.bool ar.plain.bool) (Js (cs:=[I ar.plain.type_,Cx ar.plain.num,.bool ar.plain.bool,Sl d2 ar.plain.list d3]) YL rfl rfl)<|AA<|Cn a (fun jr a=>?_) fun jr a=>?_
 refine Sr<|Vm<|Vx (Fd Bh rfl)<|have js:=Bs aq ad;Vx (Ld EC rfl (Bc js rfl))<|Bi a fun ae jt a=>have ju:=Ss AJ dx ad; ?_
 obtain ⟨jv,o90,s0,jw,jx,jy,jz,j0,d4⟩:=BG (κ:=AJ) ju jt
 replace d4:A3 b9 cn jv (o90+(1:Int).toNat*7) jw:=d4
 obtain ⟨fn,fo,rfl,fm⟩:=E1 (Ai j0)
 refine Vx (Ix C9 jx rfl jy jz)<|Vx (Lx BA rfl rfl (A3.part0 d4 [I ae.op,Sb ae.name,Sb ae.tail,I ae.type_,Cx ae.num,Sl fn ae.args fo,I ae.at_] rfl))<|Vm<|have j1:=Ms dz ad;have j2:=Me d0 ad;Bi a fun fp j3 a=>IU (.none rfl) rfl rfl (Cg [Pt ao 0,Ag [I ae.op,Sb ae.name,Sb ae.tail,I ae.type_,Cx ae.num,Sl fn ae.args fo,I ae.at_],ap] rfl)<|Calls.mono (a3.mean_run_look b9 cn j3 dcd dcd d1 co j1 (Ab (x:=ae) fm) j2) ?_
 rintro _ s2 ⟨fq,s3,d5,fr,d6,j4⟩
 obtain ⟨fs,ft,rfl⟩:=AR d6
 obtain ⟨s4,j5,rfl⟩| ⟨r,j6,s5,rfl,s6,rfl,j7⟩:=Ea.split j4
 refine have a:=Du a j5; .inl ⟨_,rfl,?_⟩
 obtain rfl:=AN a
 refine Nb (B:=B) q<|⟨fq,Sl fs fp.2.1 ft,Ho (T3 (Mo [1] d) c ad d5) p,fr,d6,GU⟩
 refine have a:=G9 a j6; ?_
 obtain ⟨s7,cq,cr,rfl,d7,fu,fv⟩:=DR j7
 obtain ⟨ct,cu,rfl⟩:=AR d7
 refine .inr ⟨_,rfl,?_⟩
 refine have j8:=Y2 bo ad d5;Eu<|BB (vs:=[I r.plain.type_,Cx r.plain.num,.bool r.plain.bool,Sl ct r.plain.list cu,cq,cr]) (cs':=[I r.plain.type_,Cx r.plain.num,.bool r.plain.bool,Sl ct r.plain.list cu,cq,cr]) JM rfl rfl rfl rfl (AP rfl (AP rfl (AP rfl (AP (FZ d7) (AP (MTh.one fu) (AP (MTh.one fv) BO)))))) j8 dcd rfl rfl fun s8 j9 b0=>AA<|AW ?_
 obtain rfl:=AN a
 refine O1 B q rfl (.agg Jl rfl rfl (Bw j9))<|have ka:=Ss Kd.cpx d7 b0;have kb:=Mt fu b0;have kc:=Mt fv b0;have kd:=Bs fr b0;have ke:=Ss AI d6 b0;⟨fq,Sl fs fp.2.1 ft,Ho (T4 (Mo [1,21] d) c ad d5 b0) p,kd,ke,FI ⟨[I r.plain.type_,Cx r.plain.num,.bool r.plain.bool,Sl ct r.plain.list cu,cq,cr],rfl,(Cj (x:=r) ka kb kc)⟩⟩
 refine WC.skip<|Sr<|Vm<|Vx (Fd Bh rfl)<|have kf:=Bs aq ad;Vx (Ld EC rfl (Bc kf rfl))<|Bi a fun af kg a=>have kh:=Ss AJ dx ad; ?_
 obtain ⟨ki,kj,s9,kk,kl,km,kn,ko,d8⟩:=BG (κ:=AJ) kh kg
 replace d8:A3 b9 cn ki (kj+(2:Int).toNat*7) kk:=d8
 obtain ⟨fx,fy,rfl,fw⟩:=E1 (Ai ko)
 refine Vx (Ix C9 kl rfl km kn)<|Vx (Lx BA rfl rfl (A3.part0 d8 [I af.op,Sb af.name,Sb af.tail,I af.type_,Cx af.num,Sl fx af.args fy,I af.at_] rfl))<|Vm<|have kp:=Ms dz ad;have kq:=Me d0 ad;Bi a fun fz kr a=>IU (.none rfl) rfl rfl (Cg [Pt ao 0,Ag [I af.op,Sb af.name,Sb af.tail,I af.type_,Cx af.num,Sl fx af.args fy,I af.at_],ap] rfl)<|Calls.mono (a3.mean_run_look b9 cn kr dcd dcd d1 co kp (Ab (x:=af) fw) kq) ?_
 rintro _ tb ⟨f0,tc,d9,f1,ea,ks⟩
 obtain ⟨f2,f3,rfl⟩:=AR ea
 obtain ⟨td,kt,rfl⟩| ⟨u,ku,te,rfl,tf,rfl,kv⟩:=Ea.split ks
 refine have a:=Du a kt; .inl ⟨_,rfl,?_⟩
 obtain rfl:=AN a
 refine Nb (B:=B) q<|⟨f0,Sl f2 fz.2.1 f3,Ho (T3 (Mo [1] d) c ad d9) p,f1,ea,GU⟩
 refine have a:=G9 a ku; ?_
 obtain ⟨tg,cv,cw,rfl,eb,f4,f5⟩:=DR kv
 obtain ⟨cx,cy,rfl⟩:=AR eb
 refine .inr ⟨_,rfl,?_⟩
 refine have kw:=Y2 bo ad d9;Eu<|BB (vs:=[I u.plain.type_,Cx u.plain.num,.bool u.plain.bool,Sl cx u.plain.list cy,cv,cw]) (cs':=[I u.plain.type_,Cx u.plain.num,.bool u.plain.bool,Sl cx u.plain.list cy,cv,cw]) JM rfl rfl rfl rfl (AP rfl (AP rfl (AP rfl (AP (FZ eb) (AP (MTh.one f4) (AP (MTh.one f5) BO)))))) kw dcd rfl rfl fun th kx b1=>AA<|AW ?_
 obtain rfl:=AN a
 refine O1 B q rfl (.agg Jl rfl rfl (Bw kx))<|have ky:=Ss Kd.cpx eb b1;have kz:=Mt f4 b1;have k0:=Mt f5 b1;have k1:=Bs f1 b1;have k2:=Ss AI ea b1;⟨f0,Sl f2 fz.2.1 f3,Ho (T4 (Mo [1,21] d) c ad d9 b1) p,k1,k2,FI ⟨[I u.plain.type_,Cx u.plain.num,.bool u.plain.bool,Sl cx u.plain.list cy,cv,cw],rfl,(Cj (x:=u) ky kz k0)⟩⟩
 refine Sr<|Vr (.bool (h.op==20))<|Va (.bool (h.op==20))<|AA<|Cn a (fun k3 a=>?_) fun k3 a=>?_
 refine Sr<|Vm<|Vx (Fd Bh rfl)<|Vx (Ld EC rfl (Bc aq rfl))<|Bi a fun ag k4 a=>have ec:=K2 AJ bz d c; ?_
 obtain ⟨k5,k6,ti,k7,k8,k9,la,lb,ed⟩:=BG (κ:=AJ) ec k4
 replace ed:A3 a6 bn k5 (k6+(0:Int).toNat*7) k7:=ed
 obtain ⟨f7,f8,rfl,f6⟩:=E1 (Ai lb)
 refine Vx (Ix C9 k8 rfl k9 la)<|Vx (Lx BA rfl rfl (A3.part0 ed [I ag.op,Sb ag.name,Sb ag.tail,I ag.type_,Cx ag.num,Sl f7 ag.args f8,I ag.at_] rfl))<|Vm<|have lc:=Y2 b7 d c;have ld:=K2 AI bw d c;have ee:=Ms (Ms b8 d) c;have cz:=Me (Me bx d) c;Bi a fun le lf a=>IU (.none rfl) rfl rfl (Cg [Pt ao 0,Ag [I ag.op,Sb ag.name,Sb ag.tail,I ag.type_,Cx ag.num,Sl f7 ag.args f8,I ag.at_],ap] rfl)<|Calls.mono (a3.mean_run_look a6 bn lf dcd dcd lc ld ee (Ab (x:=ag) f6) cz) ?_
 rintro _ tk ⟨f9,tl,ah,ef,c0,lg⟩
 obtain ⟨lh,li,rfl⟩:=AR c0
 obtain ⟨tm,lj,rfl⟩| ⟨a7,lk,tn,rfl,to,rfl,ll⟩:=Ea.split lg
 refine have a:=Du a lj; .inl ⟨_,rfl,?_⟩
 obtain rfl:=AN a
 refine Nb (B:=B) q<|⟨f9,Sl lh le.2.1 li,Ho (T2 (Mo [1] d) c ah) p,ef,c0,GU⟩
 refine have a:=G9 a lk; ?_
 obtain ⟨tp,eg,c1,rfl,ga,gb,eh⟩:=DR ll
 obtain ⟨gc,gd,rfl⟩:=AR ga
 refine .inr ⟨_,rfl,?_⟩
 refine Ef<|AU f9 22 Kb rfl fun ei tq tr lm n=>have ln:=Ss Kd.cpx ga n;Eu<|BB (vs:=[I a7.plain.type_,Cx a7.plain.num,.bool a7.plain.bool,Sl gc a7.plain.list gd,eg,c1]) (cs':=[I a7.plain.type_,Cx a7.plain.num,.bool a7.plain.bool,Sl gc a7.plain.list gd,eg,c1]) JM rfl rfl rfl rfl (AP rfl (AP rfl (AP rfl (AP (FZ ln) (AP (MTh.one gb) (AP (MTh.one eh) BO)))))) lm dcd rfl rfl fun ge ej o=>AA<|AY<|Sr<|Vx (Fd Oa rfl)<|Vx (Ld Od rfl (Bc ej rfl))<|have ek:=Mt (Mt gb n) o;Vx (v:=.bool (Th.isNil a7.head)) (RJ Uy rfl rfl ek)<|AA<|Cn a (fun lo a=>?_) fun lo a=>?_
 refine Sr<|Vm<|Vx (Fd Bh rfl)<|have lp:=Y3 aq ah n o;Vx (Ld EC rfl (Bc lp rfl))<|Bi a fun ai lq a=>have lr:=K3 AJ ec ah n o; ?_
 obtain ⟨ls,lt,ts,lu,lv,lw,lx,ly,el⟩:=BG (κ:=AJ) lr lq
 replace el:A3 ei ge ls (lt+(1:Int).toNat*7) lu:=el
 obtain ⟨gg,gh,rfl,gf⟩:=E1 (Ai ly)
 refine Vx (Ix C9 lv rfl lw lx)<|Vx (Lx BA rfl rfl (A3.part0 el [I ai.op,Sb ai.name,Sb ai.tail,I ai.type_,Cx ai.num,Sl gg ai.args gh,I ai.at_] rfl))<|Vm<|have lz:=Y2 ef n o;have l0:=K2 AI c0 n o;have l1:=Ms (Ms (Ms ee ah) n) o;have l2:=Me (Me (Me cz ah) n) o;Bi a fun gi l3 a=>IU (.none rfl) rfl rfl (Cg [Pt ao 0,Ag [I ai.op,Sb ai.name,Sb ai.tail,I ai.type_,Cx ai.num,Sl gg ai.args gh,I ai.at_],ap] rfl)<|Calls.mono (a3.mean_run_look ei ge l3 dcd dcd lz l0 l1 (Ab (x:=ai) gf) l2) ?_
 rintro _ tu ⟨gj,tw,em,gk,en,l4⟩
 obtain ⟨gl,gm,rfl⟩:=AR en
 obtain ⟨tx,l5,rfl⟩| ⟨w,l6,ty,rfl,tz,rfl,l7⟩:=Ea.split l4
 refine have a:=Du a l5; .inl ⟨_,rfl,?_⟩
 obtain rfl:=AN a
 refine Nb (B:=B) q<|⟨gj,Sl gl gi.2.1 gm,Ho (Tn (T4 (Mo [1,22] d) c ah n o) em) p,gk,en,GU⟩
 refine have a:=G9 a l6; ?_
 obtain ⟨t0,c2,c3,rfl,eo,gn,go⟩:=DR l7
 obtain ⟨c4,c5,rfl⟩:=AR eo
 refine .inr ⟨_,rfl,?_⟩
 refine have l8:=Y4 bo ah n o em;Eu<|BB (vs:=[I w.plain.type_,Cx w.plain.num,.bool w.plain.bool,Sl c4 w.plain.list c5,c2,c3]) (cs':=[I w.plain.type_,Cx w.plain.num,.bool w.plain.bool,Sl c4 w.plain.list c5,c2,c3]) JM rfl rfl rfl rfl (AP rfl (AP rfl (AP rfl (AP (FZ eo) (AP (MTh.one gn) (AP (MTh.one go) BO)))))) l8 dcd rfl rfl fun t1 l9 b2=>AA<|AW ?_
 obtain rfl:=AN a
 refine O1 B q rfl (.agg Jl rfl rfl (Bw l9))<|have ma:=Ss Kd.cpx eo b2;have mb:=Mt gn b2;have mc:=Mt go b2;have md:=Bs gk b2;have me:=Ss AI en b2;⟨gj,Sl gl gi.2.1 gm,Ho (T2 (T4 (Mo [1,21,22] d) c ah n o) em b2) p,md,me,FI ⟨[I w.plain.type_,Cx w.plain.num,.bool w.plain.bool,Sl c4 w.plain.list c5,c2,c3],rfl,(Cj (x:=w) ma mb mc)⟩⟩
 refine WC.skip<|Sr<|Vx (Fd EV rfl)<|have gp:=Y3 aq ah n o;Vx (Ld CS rfl (Bc gp rfl))<|Vx (Fd Oa rfl)<|Vx (Ld Od rfl (Bc ej rfl))<|Vm<|Vx (v:=Ag [Sb h.name,eg,ap]) (Bp Qr Qo rfl (.cons rfl rfl rfl (.cons rfl (Ir (MTh.one ek)) rfl (.cons rfl (Ir (GQ.one cz)) rfl .nil))))<|Ef<|BX ei 23 rfl rfl fun ep t2 c6 mf ax=>Va (Pt c6 0)<|AA<|AY<|B8 Eg (qs 0 11 (.one 11 (.one 12 (.one 13 .nil)))) [13] [1,23,24] ep (by kernel_rfl) fun mg au=>Qx m rfl (v:=Pt ao 0) (fun _ _=>Mv rfl)<|Qx m rfl (fun _ _=>Fd Bh rfl)<|have gq:=Y2 gp ax au;Qx m rfl (fun _ ⟨_,f⟩=>Ld EC rfl (Bc (Bs gq f) rfl))<|Bi a fun aj mh a=>have mi:=Ss AJ (K4 AJ ec ah n o ax) au; ?_
 obtain ⟨mj,mk,t3,ml,mm,mn,mo,mp,eq⟩:=BG (κ:=AJ) mi mh
 replace eq:A3 ep mg mj (mk+(2:Int).toNat*7) ml:=eq
 obtain ⟨gs,gt,rfl,gr⟩:=E1 (Ai mp)
 refine Qx m rfl (fun _ _=>Ix C9 mm rfl mn mo)<|Qx m rfl (fun _ ⟨_,f⟩=>Lx BA rfl rfl (A3.part0 (Es eq f) [I aj.op,Sb aj.name,Sb aj.tail,I aj.type_,Cx aj.num,Sl gs aj.args gt,I aj.at_] rfl))<|Qx m rfl (fun _ _=>Fd NR rfl)<|Qx m rfl (fun _ ⟨_,f⟩=>Ld CS rfl (Bc (Bs gq f) rfl))<|Qx m rfl (fun _ _=>Fd Vt rfl)<|have mq:=Y2 ej ax au;Qx m rfl (fun _ ⟨_,f⟩=>Ld Od rfl (Bc (Bs mq f) rfl))<|Qx m rfl (v:=Pt c6 0) (fun _ _=>Mv rfl)<|Qx m rfl (v:=Ag [Sb h.tail,c1,Pt c6 0]) (fun _ _=>Bv (cs:=[Sb h.tail,c1,Pt c6 0]) [Sb ([]:Bts),.nilFunc,.pointer none] Qr Qo rfl (.cons rfl rfl rfl (.cons rfl (Ir (MTh.one eh)) rfl (.cons rfl rfl rfl .nil))) rfl rfl)<|A5 rfl<|Aw rfl (.none rfl) rfl rfl<|BX ep 24 rfl rfl fun t5 mr ms mt av=>⟨⟨_,(Mo [1,23,24] av)⟩,?_⟩
 refine Us rfl<|have mu:=Y2 mf au av;have mv:=Mt (Mt (Mt ek ax) au) av;have mw:=Me (Me (Me (Me (Me (Me cz ah) n) o) ax) au) av; ?_
 obtain ⟨t6,a4,mx⟩:=GQ.lay mu dcd mv mw
 refine have my:=Bs mt a4;have mz:=Mt (Mt (Mt (Mt (Mt (Mt eh n) o) ax) au) av) a4; ?_
 obtain ⟨m0,bc,m1⟩:=GQ.lay my dcd mz mx
 refine have m2:=Y3 (Y4 ef n o ax au) av a4 bc;have m3:=K3 AI (K4 AI c0 n o ax au) av a4 bc;have m4:=Ms (Ms (Ms (Ms (Ms (Ms (Ms (Ms ee ah) n) o) ax) au) av) a4) bc;have m5:=K3 AJ gr av a4 bc;Bi a fun gu m6 a=>UU.callp rfl (.none rfl) rfl rfl (Cg [Pt ao 0,Ag [I aj.op,Sb aj.name,Sb aj.tail,I aj.type_,Cx aj.num,Sl gs aj.args gt,I aj.at_],Pt ms 0] rfl)<|Calls.mono (a3.mean_run_look m0 mr m6 dcd dcd m2 m3 m4 (Ab (x:=aj) m5) m1) ?_
 rintro _ t7 ⟨gv,t8,c7,gw,er,m7⟩
 obtain ⟨gx,gy,rfl⟩:=AR er
 obtain ⟨t9,m8,rfl⟩| ⟨y,m9,ua,rfl,ub,rfl,na⟩:=Ea.split m7
 refine have a:=Du a m8; .inl ⟨_,rfl,?_⟩
 obtain rfl:=AN a
 refine Nb (B:=B) q<|⟨gv,Sl gx gu.2.1 gy,Ho (T2 (T4 (T4 (Mo [1,22,23,24] d) c ah n o) ax au av a4) bc c7) p,gw,er,GU⟩
 refine have a:=G9 a m9; ?_
 obtain ⟨uc,c8,c9,rfl,es,gz,g0⟩:=DR na
 obtain ⟨da,db,rfl⟩:=AR es
 refine .inr ⟨_,rfl,⟨_,(T3 (Mo [1,23,24] av) a4 bc c7)⟩,?_⟩
 refine CX dcd<|WY.one<|have nb:=Bs (Y4 (Y4 bo ah n o ax) au av a4 bc) c7;BC rfl (.none rfl) rfl<|BB (vs:=[I y.plain.type_,Cx y.plain.num,.bool y.plain.bool,Sl da y.plain.list db,c8,c9]) (cs':=[I y.plain.type_,Cx y.plain.num,.bool y.plain.bool,Sl da y.plain.list db,c8,c9]) JM rfl rfl rfl rfl (AP rfl (AP rfl (AP rfl (AP (FZ es) (AP (MTh.one gz) (AP (MTh.one g0) BO)))))) nb dcd rfl rfl fun ud nc b3=>WY.nil<|AW ?_
 obtain rfl:=AN a
 refine O1 B q rfl (.agg Jl rfl rfl (Bw nc))<|have nd:=Ss Kd.cpx es b3;have ne:=Mt gz b3;have nf:=Mt g0 b3;have ng:=Bs gw b3;have nh:=Ss AI er b3;⟨gv,Sl gx gu.2.1 gy,Ho (T3 (T4 (T4 (Mo [1,21,22,23,24] d) c ah n o) ax au av a4) bc c7 b3) p,ng,nh,FI ⟨[I y.plain.type_,Cx y.plain.num,.bool y.plain.bool,Sl da y.plain.list db,c8,c9],rfl,(Cj (x:=y) nd ne nf)⟩⟩
 refine Sr<|Vr (.bool (h.op==21))<|Va (.bool (h.op==21))<|AA<|Cn a (fun ni a=>?_) fun ni a=>?_
 refine Sr<|Vx (Fd EV rfl)<|Vx (Ld CS rfl (Bc aq rfl))<|Vm<|Vx (v:=Ag [Sb h.name,.nilFunc,ap]) (Bp Qr Qo rfl (.cons rfl rfl rfl (.cons rfl (Ir (GQ.one bx)) rfl .nil)))<|Ef<|BX a6 25 rfl rfl fun g1 g2 et nj a8=>Va (Pt et 0)<|AA<|Sr<|Vm<|Vx (Fd Bh rfl)<|have g3:=Bs aq a8;Vx (Ld EC rfl (Bc g3 rfl))<|Bi a fun ak nk a=>have g4:=K3 AJ bz d c a8; ?_
 obtain ⟨nl,nm,ue,np,nq,nr,ns,nt,eu⟩:=BG (κ:=AJ) g4 nk
 replace eu:A3 g1 g2 nl (nm+(0:Int).toNat*7) np:=eu
 obtain ⟨g6,g7,rfl,g5⟩:=E1 (Ai nt)
 refine Vx (Ix C9 nq rfl nr ns)<|Vx (Lx BA rfl rfl (A3.part0 eu [I ak.op,Sb ak.name,Sb ak.tail,I ak.type_,Cx ak.num,Sl g6 ak.args g7,I ak.at_] rfl))<|Vm<|Bi a fun bd nu a=>Ca (Cg [Ag [I ak.op,Sb ak.name,Sb ak.tail,I ak.type_,Cx ak.num,Sl g6 ak.args g7,I ak.at_],Pt et 0] rfl) (L2 g1 g2 (kn0:=26) (kn1:=27) nu dcd dcd (Ab (x:=ak) g5) rfl) ?_
 rintro _ ug ⟨nv,uh,ui,uj,rfl,a5,nw,nx,ny⟩
 obtain ⟨n0,n1,rfl,g8⟩:=E1 (Ai nx)
 refine Vx (Nc rfl)<|Vx (Fd Vs rfl)<|have n2:=Bs nj a5;Eu<|St AAf n2 rfl rfl rfl rfl fun g9 n4 ay=>AA<|Sr<|Vm<|Vx (Fd Bh rfl)<|have n5:=Y2 g3 a5 ay;Vx (Ld EC rfl (Bc n5 rfl))<|Bi a fun al n6 a=>have n7:=K2 AJ g4 a5 ay; ?_
 obtain ⟨n8,oa,ul,ob,oc,od,oe,og,ew⟩:=BG (κ:=AJ) n7 n6
 replace ew:A3 nv g9 n8 (oa+(1:Int).toNat*7) ob:=ew
 obtain ⟨hb,hc,rfl,ha⟩:=E1 (Ai og)
 refine Vx (Ix C9 oc rfl od oe)<|Vx (Lx BA rfl rfl (A3.part0 ew [I al.op,Sb al.name,Sb al.tail,I al.type_,Cx al.num,Sl hb al.args hc,I al.at_] rfl))<|Vm<|have oh:=Ss AJ g8 ay;have oi:=Bs nw ay;have oj:=Bs ny ay;have ok:=Me (Me (Me (Me (Me bx d) c) a8) a5) ay; ?_
 obtain ⟨ol,bp,om⟩:=GQ.layRec (D:=89) (ce:=[I bd.op,Sb bd.name,Sb bd.tail,I bd.type_,Cx bd.num,Sl n0 bd.args n1,I bd.at_]) n4 oi oj dcd (Ab (x:=bd) oh) ok
 refine have oo:=Y2 (Y4 b7 d c a8 a5) ay bp;have op:=K2 AI (K4 AI bw d c a8 a5) ay bp;have oq:=Ms (Ms (Ms (Ms (Ms (Ms b8 d) c) a8) a5) ay) bp;have os:=Ss AJ ha bp;Bi a fun hd ot a=>IU (.none rfl) rfl rfl (Cg [Pt ao 0,Ag [I al.op,Sb al.name,Sb al.tail,I al.type_,Cx al.num,Sl hb al.args hc,I al.at_],Pt et 0] rfl)<|Calls.mono (a3.mean_run_look ol g9 ot dcd dcd oo op oq (Ab (x:=al) os) om) ?_
 rintro _ un ⟨he,uo,ex,hf,ey,ou⟩
 obtain ⟨hg,hh,rfl⟩:=AR ey
 obtain ⟨up,ov,rfl⟩| ⟨z,ow,uq,rfl,ur,rfl,ox⟩:=Ea.split ou
 refine have a:=Du a ov; .inl ⟨_,rfl,?_⟩
 obtain rfl:=AN a
 refine Nb (B:=B) q<|⟨he,Sl hg hd.2.1 hh,Ho (T2 (T4 (Mo [1,25,26,27] d) c a8 a5 ay) bp ex) p,hf,ey,GU⟩
 refine have a:=G9 a ow; ?_
 obtain ⟨us,dc,de,rfl,ez,hi,hj⟩:=DR ox
 obtain ⟨df,dg,rfl⟩:=AR ez
 refine .inr ⟨_,rfl,?_⟩
 refine have oy:=Bs (Y4 bo a8 a5 ay bp) ex;Eu<|BB (vs:=[I z.plain.type_,Cx z.plain.num,.bool z.plain.bool,Sl df z.plain.list dg,dc,de]) (cs':=[I z.plain.type_,Cx z.plain.num,.bool z.plain.bool,Sl df z.plain.list dg,dc,de]) JM rfl rfl rfl rfl (AP rfl (AP rfl (AP rfl (AP (FZ ez) (AP (MTh.one hi) (AP (MTh.one hj) BO)))))) oy dcd rfl rfl fun ut oz b4=>AA<|AW ?_
 obtain rfl:=AN a
 refine O1 B q rfl (.agg Jl rfl rfl (Bw oz))<|have o0:=Ss Kd.cpx ez b4;have o1:=Mt hi b4;have o2:=Mt hj b4;have o6:=Bs hf b4;have o7:=Ss AI ey b4;⟨he,Sl hg hd.2.1 hh,Ho (T3 (T4 (Mo [1,21,25,26,27] d) c a8 a5 ay) bp ex b4) p,o6,o7,FI ⟨[I z.plain.type_,Cx z.plain.num,.bool z.plain.bool,Sl df z.plain.list dg,dc,de],rfl,(Cj (x:=z) o0 o1 o2)⟩⟩
 refine Sr<|Vr (.bool (h.op==22))<|Va (.bool (h.op==22))<|AA<|Cn a (fun o8 a=>?_) fun o8 a=>?_
 refine Sr<|Vm<|Vx (Fd Bh rfl)<|Vx (Ld EC rfl (Bc aq rfl))<|Bi a fun am pa a=>have hk:=K2 AJ bz d c; ?_
 obtain ⟨pb,pc,uu,pd,pe,pf,pg,ph,e0⟩:=BG (κ:=AJ) hk pa
 replace e0:A3 a6 bn pb (pc+(0:Int).toNat*7) pd:=e0
 obtain ⟨hm,hn,rfl,hl⟩:=E1 (Ai ph)
 refine Vx (Ix C9 pe rfl pf pg)<|Vx (Lx BA rfl rfl (A3.part0 e0 [I am.op,Sb am.name,Sb am.tail,I am.type_,Cx am.num,Sl hm am.args hn,I am.at_] rfl))<|Vm<|have pi:=Y2 b7 d c;have pj:=K2 AI bw d c;have ho:=Ms (Ms b8 d) c;have e1:=Me (Me bx d) c;Bi a fun pk pl a=>IU (.none rfl) rfl rfl (Cg [Pt ao 0,Ag [I am.op,Sb am.name,Sb am.tail,I am.type_,Cx am.num,Sl hm am.args hn,I am.at_],ap] rfl)<|Calls.mono (a3.mean_run_look a6 bn pl dcd dcd pi pj ho (Ab (x:=am) hl) e1) ?_
 rintro _ uw ⟨hp,ux,be,hq,e2,pm⟩
 obtain ⟨pn,po,rfl⟩:=AR e2
 obtain ⟨uy,pp,rfl⟩| ⟨aa,pq,uz,rfl,u0,rfl,pr⟩:=Ea.split pm
 refine have a:=Du a pp; .inl ⟨_,rfl,?_⟩
 obtain rfl:=AN a
 refine Nb (B:=B) q<|⟨hp,Sl pn pk.2.1 po,Ho (T2 (Mo [1] d) c be) p,hq,e2,GU⟩
 refine have a:=G9 a pq; ?_
 obtain ⟨u2,dh,di,rfl,hr,hs,ht⟩:=DR pr
 obtain ⟨dj,dk,rfl⟩:=AR hr
 refine .inr ⟨_,rfl,?_⟩
 refine Ef<|AU hp 28 Kb rfl fun e3 u3 u4 ps az=>have hu:=Ss Kd.cpx hr az;Eu<|BB (vs:=[I aa.plain.type_,Cx aa.plain.num,.bool aa.plain.bool,Sl dj aa.plain.list dk,dh,di]) (cs':=[I aa.plain.type_,Cx aa.plain.num,.bool aa.plain.bool,Sl dj aa.plain.list dk,dh,di]) JM rfl rfl rfl rfl (AP rfl (AP rfl (AP rfl (AP (FZ hu) (AP (MTh.one hs) (AP (MTh.one ht) BO)))))) ps dcd rfl rfl fun u5 pt a0=>AA<|AY<|B8 Eg (qs 0 8 (.q 9 (.one 8 (.q 10 (.one 11 (.one 12 (.one 13 .nil))))))) [13] [1,29] e3 (by kernel_rfl) fun hw aw=>Qx m rfl (v:=Pt ao 0) (fun _ _=>Mv rfl)<|Qx m rfl (fun _ _=>Fd Bh rfl)<|have hx:=Y4 aq be az a0 aw;Qx m rfl (fun _ ⟨_,f⟩=>Ld EC rfl (Bc (Bs hx f) rfl))<|Bi a fun an pu a=>have pv:=K4 AJ hk be az a0 aw; ?_
 obtain ⟨pw,px,u6,py,pz,p0,p1,p2,e4⟩:=BG (κ:=AJ) pv pu
 replace e4:A3 e3 hw pw (px+(1:Int).toNat*7) py:=e4
 obtain ⟨hz,h0,rfl,hy⟩:=E1 (Ai p2)
 refine Qx m rfl (fun _ _=>Ix C9 pz rfl p0 p1)<|Qx m rfl (fun _ ⟨_,f⟩=>Lx BA rfl rfl (A3.part0 (Es e4 f) [I an.op,Sb an.name,Sb an.tail,I an.type_,Cx an.num,Sl hz an.args h0,I an.at_] rfl))<|Qx m rfl (fun _ _=>Fd EV rfl)<|Qx m rfl (fun _ ⟨_,f⟩=>Ld CS rfl (Bc (Bs hx f) rfl))<|have p3:=Bs pt aw;Qx m rfl (fun _ ⟨_,f⟩=>Lx Jl rfl rfl (Bw (Bs p3 f)))<|Qx m rfl (v:=ap) (fun _ _=>Mv rfl)<|A5 rfl<|have p4:=K2 Kd.cpx hu a0 aw;have p5:=Mt (Mt (Mt hs az) a0) aw;have p6:=Mt (Mt (Mt ht az) a0) aw;Bi a fun u8 p7 a=>BM rfl (.none rfl) rfl rfl (Cg [Ag [I aa.plain.type_,Cx aa.plain.num,.bool aa.plain.bool,Sl dj aa.plain.list dk,dh,di]] rfl)<|Calls.mono (Lh e3 hw p7 (Cj (x:=aa) p4 p5 p6)) ?_
 rintro _ va ⟨p8,h1,rfl,a1,h2⟩
 refine ⟨_,rfl,⟨_,(Mo [1,29] a1)⟩,?_⟩
 refine Qx m rfl (v:=Ag [Sb h.name,h1,ap]) (fun _ _=>Bv (cs:=[Sb h.name,h1,ap]) [Sb ([]:Bts),.nilFunc,.pointer none] Qr Qo rfl (.cons rfl rfl rfl (.cons rfl (Ir (MTh.one h2)) rfl (.cons rfl (Ir (GQ.one e1)) rfl .nil))) rfl rfl)<|A5 rfl<|Aw rfl (.none rfl) rfl rfl<|BX p8 29 rfl rfl fun vb p9 qa qb a2=>⟨⟨_,(Tn (Mo [1,29] a1) a2)⟩,?_⟩
 refine Us rfl<|have qc:=Mt h2 a2;have qd:=Me (Me (Me (Me (Me (Me e1 be) az) a0) aw) a1) a2; ?_
 obtain ⟨qe,bf,qf⟩:=GQ.lay qb dcd qc qd
 refine have qg:=Y2 (Y4 hq az a0 aw a1) a2 bf;have qh:=K2 AI (K4 AI e2 az a0 aw a1) a2 bf;have qi:=Ms (Ms (Ms (Ms (Ms (Ms (Ms ho be) az) a0) aw) a1) a2) bf;have qj:=K3 AJ hy a1 a2 bf;Bi a fun h3 qk a=>UU.callp rfl (.none rfl) rfl rfl (Cg [Pt ao 0,Ag [I an.op,Sb an.name,Sb an.tail,I an.type_,Cx an.num,Sl hz an.args h0,I an.at_],Pt qa 0] rfl)<|Calls.mono (a3.mean_run_look qe p9 qk dcd dcd qg qh qi (Ab (x:=an) qj) qf) ?_
 rintro _ vc ⟨h4,vd,dl,h5,e5,ql⟩
 obtain ⟨h6,h7,rfl⟩:=AR e5
 obtain ⟨ve,qm,rfl⟩| ⟨ab,qn,vf,rfl,vg,rfl,qo⟩:=Ea.split ql
 refine have a:=Du a qm; .inl ⟨_,rfl,?_⟩
 obtain rfl:=AN a
 refine Nb (B:=B) q<|⟨h4,Sl h6 h3.2.1 h7,Ho (Tn (T4 (T4 (Mo [1,28,29] d) c be az a0) aw a1 a2 bf) dl) p,h5,e5,GU⟩
 refine have a:=G9 a qn; ?_
 obtain ⟨vh,dm,dn,rfl,e6,h8,h9⟩:=DR qo
 obtain ⟨dp,dq,rfl⟩:=AR e6
 refine .inr ⟨_,rfl,⟨_,(T3 (Mo [1,29] a1) a2 bf dl)⟩,?_⟩
 refine CX dcd<|WY.one<|have qp:=Y4 (Y4 bo be az a0 aw) a1 a2 bf dl;BC rfl (.none rfl) rfl<|BB (vs:=[I ab.plain.type_,Cx ab.plain.num,.bool ab.plain.bool,Sl dp ab.plain.list dq,dm,dn]) (cs':=[I ab.plain.type_,Cx ab.plain.num,.bool ab.plain.bool,Sl dp ab.plain.list dq,dm,dn]) JM rfl rfl rfl rfl (AP rfl (AP rfl (AP rfl (AP (FZ e6) (AP (MTh.one h8) (AP (MTh.one h9) BO)))))) qp dcd rfl rfl fun vi qq b5=>WY.nil<|AW ?_
 obtain rfl:=AN a
 refine O1 B q rfl (.agg Jl rfl rfl (Bw qq))<|have qr:=Ss Kd.cpx e6 b5;have qs:=Mt h8 b5;have qt:=Mt h9 b5;have qu:=Bs h5 b5;have qv:=Ss AI e5 b5;⟨h4,Sl h6 h3.2.1 h7,Ho (T2 (T4 (T4 (Mo [1,21,28,29] d) c be az a0) aw a1 a2 bf) dl b5) p,qu,qv,FI ⟨[I ab.plain.type_,Cx ab.plain.num,.bool ab.plain.bool,Sl dp ab.plain.list dq,dm,dn],rfl,(Cj (x:=ab) qr qs qt)⟩⟩
 refine WC.skip<|Sr<|Va (.slice none 0 0)<|AA<|AY<|Sr<|Vx (Fd Bh rfl)<|Vx (Ld EC rfl (Bc aq rfl))<|have ia:=K2 AJ bz d c; ?_
 obtain ⟨vj,vk,qw⟩:=AR ia
 refine Vx (v:=I (h.args.length:Int)) (Ll C9 qw)<|Vm<|AA<|Ad<|Bj (fun bg e7 bq=>∃ca br a9 dr ds bh ba cb cc cd cf,e7=Env.puts ca [(0,Pt ao 0),(2,ap),(4,Pt i3 0),(6,Pt fi 0),(10,Sl dr a9 ds),(127,Sl i0 h.args i1),(128,I (h.args.length:Int)),(129,I bh)]∧DJ bv bm cl h cm bg a9 bh ba cd cf=some dw∧AS [1,30,32] a6 bn br bq∧Own A1 38 br bq 32 (Sl dr a9 ds) a9∧Slc AI br.F bq (Sl cb ba cc) ba∧Bk br bq 1 ao [.map (some iw),Sl cb ba cc,I cd,I cf] 83) bm ?_ ?_
 refine have qx:=K2 AI bw d c;have qy:=Y2 b7 d c;⟨_,a6,([]:List AH),none,0,0,it,iy,iz,iu,iv,Pu,a,(AS.refl [1,30,32] _ _),Own.nil,qx,qy⟩
 rintro bg _ bq ⟨ca,br,a9,dr,ds,bh,ba,cb,cc,cd,cf,rfl,a,bb,ib,e8,e9⟩
 rcases bg with _|bg
 exact A6 a
 refine have a:BK bv bm cl h cm (DJ bv bm cl h cm bg) a9 bh ba cd cf=some dw:=a; ?_
 obtain ⟨vl,ic⟩:∃s,s=DJ bv bm cl h cm bg:=⟨_,rfl⟩
 rw [←ic,BK] at a
 refine Sr<|Vr (.bool (decide (bh< (h.args.length:Int))))<|AA<|AY<|Cn a (fun qz a=>?_) fun qz a=>?_
 refine WC.skip<|AY<|Ad<|Sr<|Bi a fun l q0 a=>have q1:=Ss AJ ia bb; ?_
 obtain ⟨q2,q3,vm,q4,q5,q6,q7,q8,fa⟩:=BG (κ:=AJ) q1 q0
 replace fa:A3 br bq q2 (q3+bh.toNat*7) q4:=fa
 obtain ⟨fb,fc,rfl,id⟩:=E1 (Ai q8)
 refine Vx (Ix C9 q5 rfl q6 q7)<|Vx (Lx BA rfl rfl (A3.part0 fa [I l.op,Sb l.name,Sb l.tail,I l.type_,Cx l.num,Sl fb l.args fc,I l.at_] rfl))<|Ef<|AU br 30 By rfl fun q9 vo vp ra bi=>have rb:=Ss AJ id bi;Eu<|St CV ra rfl rfl rfl rfl fun rc rd bj=>AA<|AM<|Vm<|Vm<|Vx (Lx BA rfl rfl (Bw rd))<|Vm<|have re:=Y2 e9 bi bj;have rf:=K2 AI e8 bi bj;have rg:=Ms (Ms (Ms (Ms (Ms b8 d) c) bb) bi) bj;have rh:=Ss AJ rb bj;have ri:=Me (Me (Me (Me (Me bx d) c) bb) bi) bj;Bi a fun dt rj a=>IU (.none rfl) rfl rfl (Cg [Pt ao 0,Ag [I l.op,Sb l.name,Sb l.tail,I l.type_,Cx l.num,Sl fb l.args fc,I l.at_],ap] rfl)<|Calls.mono (a3.mean_run_look q9 rc rj dcd dcd re rf rg (Ab (x:=l) rh) ri) ?_
 rintro _ vq ⟨ie,vr,fd,ig,fe,rk⟩
 obtain ⟨ih,ii,rfl⟩:=AR fe
 obtain ⟨vt,rl,rfl⟩| ⟨e,rm,vu,rfl,vv,rfl,rn⟩:=Ea.split rk
 refine have a:=Du a rl; .inl ⟨_,rfl,?_⟩
 obtain rfl:=AN a
 refine Nb (B:=B) q<|⟨ie,Sl ih dt.2.1 ii,Ho (Tn (T4 (Mo [1,30,32] d) c bb bi bj) fd) p,ig,fe,GU⟩
 refine have a:=G9 a rm; ?_
 obtain ⟨vw,ro,rp,rfl,ij,vx,vy⟩:=DR rn
 obtain ⟨cg,ch,rfl⟩:=AR ij
 refine .inr ⟨_,rfl,?_⟩
 refine Vx (v:=Ag [I e.plain.type_,Cx e.plain.num,.bool e.plain.bool,Sl cg e.plain.list ch]) (Pd (cs:=[I e.plain.type_,Cx e.plain.num,.bool e.plain.bool,Sl cg e.plain.list ch,ro,rp]) Sa rfl)<|Ef<|Bf (cs:=[I e.plain.type_,Cx e.plain.num,.bool e.plain.bool,Sl cg e.plain.list ch]) ie 31 [[I e.plain.type_,Cx e.plain.num,.bool e.plain.bool,Sl cg e.plain.list ch]] KG FU rfl rfl (.cons rfl rfl rfl .nil) rfl fun rq rr rs rt ci=>have ru:=Ss Kd.cpx ij ci;have rx:Own A1 38 rq rr 31 (.slice (some ⟨rs,0,none⟩) 1 1) ([(AH.mk e.plain.type_ e.plain.num e.plain.bool e.plain.list)]:List AH):=Own.lit (css:=[[I e.plain.type_,Cx e.plain.num,.bool e.plain.bool,Sl cg e.plain.list ch]]) rt rfl rfl rfl (AQ (BD (x:=(AH.mk e.plain.type_ e.plain.num e.plain.bool e.plain.list)) ru) Au) (Av rfl CP) rfl;have ry:=Os (Os (Os (Os ib bi) bj) fd) ci;Bi a fun vz ik a=>Ef<|Az (κ:=A1) rfl rfl ry dcd X7 (BL rx) (CF ik) (CK ik) fun v1 rz v2 il ff=>?_
 obtain ⟨im,io,rfl⟩:=Own.len il
 refine Va (Sl im ((a9++([(AH.mk e.plain.type_ e.plain.num e.plain.bool e.plain.list)]:List AH))) io)<|AA<|AM<|Vr (I (Wr (bh+1)))<|Vm<|AA<|have r0:=K2 AI fe ci ff;have r1:=Y2 ig ci ff;⟨bg,Nat.lt_succ_self bg,_,rz,(a9++([(AH.mk e.plain.type_ e.plain.num e.plain.bool e.plain.list)]:List AH)),im,io,(Wr (bh+1)),dt.2.1,ih,ii,dt.2.2.1,dt.2.2.2,Pu,(ic▸a),(Tn (T4 (Mo [1,30,32] bb) bi bj fd ci) ff),il,r0,r1⟩
 refine BZ<|Sr<|Vx (Fz DW rfl)<|have r2:=Bs aq bb;Vx (Ld Hr rfl (Bc r2 rfl))<|Vm ?_
 obtain ⟨r3,bt,r4⟩:=Own.freeze (S:=[32]) ib dcd dcd
 refine Bi a fun g r5 a=>Ca (Cg [I h.op,Sl dr a9 ds] rfl) (UI bm r3 bq r5 r4) ?_
 rintro _ v3 ⟨r6,v4,rfl,bu,r7⟩
 obtain ⟨cj,ck,rfl,ip⟩:=E1 (Bm r7)
 refine Vm<|Vr (Ag [I g.1.type_,Cx g.1.num,.bool g.1.bool,Sl cj g.1.list ck])<|Vr (I g.2)<|Ef<|AU r6 33 FU rfl fun fg v6 r8 r9 bk=>have sa:=Ss Kd.cpx ip bk;Eu<|St GO r9 rfl rfl rfl rfl fun sb sc bl=>Va (I g.2)<|AA<|An (fun e7 iq=>∃ca fh,e7=Env.puts ca [(6,Pt fi 0),(13,Pt r8 0)]∧LX ba cd cf g=some dw∧AS [] fg sb fh iq) ?_ ?_
 refine Sr<|Vm<|Vr (.bool (g.2 != 0))<|AA<|Cn a (fun sd a=>?_) fun sd a=>?_
 refine AM<|Vm<|Vr (.iface 33 (I g.2))<|SV (.none rfl) (Qf rfl)<|have se:=Y4 e9 bt bu bk bl;have sf:=K4 AI e8 bt bu bk bl; ?_
 obtain rfl:=AN a
 refine Nb (B:=B) q<|⟨fg,Sl cb ba cc,Ho (T2 (T4 (Mo [1,30,32,33] d) c bb bt bu) bk bl) p,se,sf,GU⟩
 refine WC.skip<|⟨_,fg,Pu,a,Rf⟩
 rintro _ iq ⟨ca,fh,rfl,a,b6⟩
 rw [LX] at a
 refine Sr<|have sg:=Bs sc b6;Vx (Lx DX rfl rfl (Bw sg))<|Vx (v:=Ag [I g.1.type_,Cx g.1.num,.bool g.1.bool,Sl cj g.1.list ck,.nilFunc,.nilFunc]) (Bp Kb M8 rfl (.cons rfl rfl rfl .nil))<|have sh:=Y2 (Y4 bo bb bt bu bk) bl b6;have si:=K2 Kd.cpx sa bl b6;Eu<|St JM sh rfl rfl rfl rfl fun v7 sj du=>AA<|AW ?_
 obtain rfl:=AN a
 refine O1 B q rfl (.agg Jl rfl rfl (Bw sj))<|have sk:=Ss Kd.cpx si du;have sl:=Y2 (Y4 e9 bt bu bk bl) b6 du;have sm:=K2 AI (K4 AI e8 bt bu bk bl) b6 du;⟨fh,Sl cb ba cc,Ho (T4 (T4 (Mo [1,21,30,32,33] d) c bb bt bu) bk bl b6 du) p,sl,sm,FI ⟨[I g.1.type_,Cx g.1.num,.bool g.1.bool,Sl cj g.1.list ck,.nilFunc,.nilFunc],rfl,(Cj (x:=(Al.mk g.1 Th.nil Th.nil)) sk MTh.nil MTh.nil)⟩⟩
theorem Ps(d:AZ)(f:Nat)(m:AZ.Good d):mean_run_parts.Spec (A0 d f):=by
 intro e g a c ac ad ae af ag ah ai aj ak al am an n hnd hnz l o p q s
 refine Calls.mono (Pr d f m (recol (see [a,c]) e) g (Hw lbr e) n trivial trivial (BV l [a,c] (BJ hnd hnz (i:=0) rfl)) (EW AI o [a,c]) (Fh p [a,c] (BJ hnd hnz (i:=1) rfl)) (Bl AJ q [a,c]) (GQ.recol s [a,c])) ?_
 rintro ao ap ⟨w,y,z,aa,ab,en⟩
 exact ⟨glue [a,c] g e w,y,DI z (Hu rfl rfl),Ei l aa dcd,G8 AI ab,PA en fun r v ⟨u,hv,h⟩=>⟨u,hv,FW HB h⟩⟩
theorem AZ.good:∀d,AZ.Good (AZ.at d)
 |0=>⟨by intro a c;intros;(try intro _);intros;exact A6 (by assumption),by intro a c;intros;(try intro _);intros;exact A6 (by assumption),by intro a c;intros;(try intro _);intros;exact A6 (by assumption),by intro a c;intros;(try intro _);intros;exact A6 (by assumption)⟩
 |n+1=>⟨QJ _ n (AZ.good n),Q2 _ n (AZ.good n),Ry _ n (AZ.good n),Ps _ n (AZ.good n)⟩
theorem Q3(a:Nat):mean_run_look.Spec (mean_run_look a):=(AZ.good a).mean_run_look
theorem Ow(a:Nat):mean_callth.Spec (mean_callth a):=(AZ.good a).mean_callth
def D8.At(G1 G2:Prop)(c:Col)(a:World)(f:(List AE)→Int→Int→Ao→Al→Option ((Except Int AH)×(List AE)×Int×Int))(h aa:Nat):Prop:=
 ∀{l n o p q m s w y d},f n p q s w=some d→G1→G2→Bk c a h l [.map (some m),o,I p,I q] 83→Slc AI c.F a o n→Mp c a aa m s→HB.rep c.F a y w→
  Calls PG 34 #[Pt l 0,Ag y] a fun ab e=>∃g z,AS [h] c a g e∧Bk g e h l [.map (some m),z,I d.2.2.1,I d.2.2.2] 83∧Slc AI g.F e z d.2.1∧Ea 33 d.1 ab (fun r v=>∃u:List Value,v=Ag u∧A1.rep g.F e u r)
def D8.Spec(f:(List AE)→Int→Int→Ao→Al→Option ((Except Int AH)×(List AE)×Int×Int)):Prop:=
 ∀d e {a c},D8.At ([a,c].Nodup) (0∉[a,c]) d e f a c
end Fth
namespace Fth
open Go Go.Proofs Sh
set_option maxRecDepth 100000
set_option maxHeartbeats 8000000
theorem Pv(y:Nat)(a4:Col)(cn:World)(al:∀b,a4 b<10):D8.At True True a4 cn (D8 y) 1 2:=by
 intro ai bp e6 co cq cr am c e7 bq a _ _ br a5 ct cu
 rw [D8] at a
 obtain ⟨bt,bu,rfl⟩:=AR a5
 obtain ⟨e8,cv,cw,rfl,a6,cx,cy⟩:=DR cu
 obtain ⟨an,ao,rfl⟩:=AR a6
 refine Ay Tryz.func34 rfl Tryz.ntmps34 rfl fun B ap z=>Sr<|Ef<|BX a4 20 rfl rfl fun cz e9 bv c0 h=>Ef<|AU cz 21 FU rfl fun bw fa c1 bx f=>AA<|AY<|Sr<|Vx (Fd Oa rfl)<|have a7:=Bs c0 f;Vx (Ld Od rfl (Bc a7 rfl))<|have bz:=Mt (Mt cx h) f;Vx (v:=.bool (Th.isNil c.head)) (RJ Uy rfl rfl bz)<|AA<|Cn a (fun c2 a=>?_) fun c2 a=>?_
 refine Sr<|Vx (Fz YJ rfl)<|Vx (Lx DX rfl rfl (Bk.part a7 0 [I c.plain.type_,Cx c.plain.num,.bool c.plain.bool,Sl an c.plain.list ao] rfl))<|have c3:=K2 Kd.cpx a6 h f;Eu<|St GO bx rfl rfl rfl rfl fun fb c4 aq=>AA<|AW ?_
 obtain rfl:=AN a
 refine O1 B ap rfl (.agg DX rfl rfl (Bk.part c4 0 [I c.plain.type_,Cx c.plain.num,.bool c.plain.bool,Sl an c.plain.list ao] rfl))<|have c5:=Ss Kd.cpx c3 aq;have c6:=Y3 br h f aq;have c7:=K3 AI a5 h f aq;⟨bw,Sl bt bp bu,Ho (T2 (Mo [21] h) f aq) al,c6,c7,FI ⟨[I c.plain.type_,Cx c.plain.num,.bool c.plain.bool,Sl an c.plain.list ao],rfl,(BD (x:=(AH.mk c.plain.type_ c.plain.num c.plain.bool c.plain.list)) c5)⟩⟩
 refine WC.skip<|Sr<|Vx (v:=Ag [I 3,Cx (((0,0):Nat×Nat)),.bool false,.slice none 0 0]) (Bp FU Jm rfl (.cons rfl rfl rfl .nil))<|Ef<|AU bw 22 FU rfl fun b0 fc b1 c8 m=>Eu<|St GO c8 rfl rfl rfl rfl fun c9 da n=>AA<|AY<|Ad<|Bj (fun aa db r=>∃b2 l af ar au av aw ax ay az ag a8 a9 aj ba a0 bb e ab ac,db=Env.puts b2 [(0,Pt ai 0),(3,Pt bv 0),(4,Pt c1 0),(5,Pt b1 0)]∧Dn y am aa af av aw ax ay az ag aj a0 e=some bq∧AS [1,20,22,24] b0 c9 l r∧Slc AI l.F r (Sl ar af au) af∧Slc Kd.cpx l.F r (Sl a8 ag a9) ag∧Own Kd.cpx 35 l r 24 (Sl ab e ac) e∧MTh 89 90 l.F r ba aj∧MTh 89 90 l.F r bb a0∧Bk l r 1 ai [.map (some cr),Sl ar af au,I av,I aw] 83∧Bk l r 20 bv [I ax,Cx ay,.bool az,Sl a8 ag a9,ba,bb] 96∧Bk l r 22 b1 [I 3,Cx (((0,0):Nat×Nat)),.bool false,Sl ab e ac] 38) y ?_ ?_
 refine have dc:=K4 AI a5 h f m n;have de:=K4 Kd.cpx a6 h f m n;have df:=Mt (Mt bz m) n;have dg:=Mt (Mt (Mt (Mt cy h) f) m) n;have dh:=Y4 br h f m n;have di:=Y2 a7 m n;⟨_,b0,bp,bt,bu,co,cq,c.plain.type_,c.plain.num,c.plain.bool,c.plain.list,an,ao,c.head,cv,c.tail,cw,([]:List (Nat×Nat)),none,0,Pu,a,(AS.refl [1,20,22,24] _ _),dc,de,Own.nil,df,dg,dh,di,da⟩
 rintro aa _ r ⟨b2,l,af,ar,au,av,aw,ax,ay,az,ag,a8,a9,aj,ba,a0,bb,e,ab,ac,rfl,a,ah,b3,fd,bc,b4,dj,b5,b6,b7⟩
 rcases aa with _|aa
 exact A6 a
 refine have a:CU y am (Dn y am aa) af av aw ax ay az ag aj a0 e=some bq:=a; ?_
 obtain ⟨fe,b8⟩:∃s,s=Dn y am aa:=⟨_,rfl⟩
 rw [←b8,CU] at a
 refine AY<|Sr<|Vx (Fd Oa rfl)<|Vx (Ld Od rfl (Bc b6 rfl))<|Vx (v:=.bool (!(Th.isNil aj))) (SW Uy rfl rfl b4)<|AA<|Cn a (fun dk a=>?_) fun dk a=>?_
 refine WC.skip<|Ad<|AY<|B8 Eg (qs 0 5 (.one 5 (.q 6 (.q 7 (.one 8 (.one 9 (.q 10 (.one 11 .nil)))))))) [11] [1,24] l (by kernel_rfl) fun dl o=>Qx z rfl (fun _ _=>Fd EU rfl)<|have b9:=Bs b7 o;Qx z rfl (fun _ ⟨_,u⟩=>Ld In rfl (Bc (Bs b9 u) rfl))<|Qx z rfl (fun _ _=>Fd Oa rfl)<|have ca:=Bs b6 o;Qx z rfl (fun _ ⟨_,u⟩=>Ld Od rfl (Bc (Bs ca u) rfl))<|Qx z rfl (v:=Pt ai 0) (fun _ _=>Mv rfl)<|Us rfl<|have dm:=Bs b5 o;have dn:=Ss AI b3 o;have cb:=Ms (Ms (Ms (Ms (Ms (Ms ct h) f) m) n) ah) o;have dp:=Mt b4 o;Bi a fun dq dr a=>?_
 obtain ⟨ff,fg,ds,dt⟩:=Ow y l dl dr dcd dcd dm dn cb dp
 refine UU.callp rfl (.none rfl) rfl rfl (ds (vs:=[Pt ai 0]) rfl rfl)<|Calls.mono dt ?_
 rintro _ fh ⟨cc,fi,p,cd,bd,du⟩
 obtain ⟨dv,dw,rfl⟩:=AR bd
 obtain ⟨fj,dx,rfl⟩| ⟨d,dy,fk,rfl,fl,rfl,dz⟩:=Ea.split du
 refine have a:=Du a dx; .inl ⟨_,rfl,?_⟩
 obtain rfl:=AN a
 refine Nb (B:=B) ap<|⟨cc,Sl dv dq.2.1 dw,Ho (T2 (T4 (Mo [1,20,22,24] h) f m n ah) o p) al,cd,bd,GU⟩
 refine have a:=G9 a dy; ?_
 obtain ⟨fm,d0,d1,rfl,d2,fn,fo⟩:=DR dz
 obtain ⟨be,bf,rfl⟩:=AR d2
 refine .inr ⟨_,rfl,⟨_,(Mo [1,24] p)⟩,?_⟩
 refine Qx z rfl (v:=Ag [I d.plain.type_,Cx d.plain.num,.bool d.plain.bool,Sl be d.plain.list bf]) (fun _ _=>Pd (cs:=[I d.plain.type_,Cx d.plain.num,.bool d.plain.bool,Sl be d.plain.list bf,d0,d1]) Sa rfl)<|Qx z rfl (v:=Cx d.plain.num) (fun _ _=>Js (cs:=[I d.plain.type_,Cx d.plain.num,.bool d.plain.bool,Sl be d.plain.list bf]) YK rfl rfl)<|A5 rfl<|Aw rfl (.none rfl) rfl rfl<|Bf (cs:=[Cx d.plain.num]) cc 23 [[Cx d.plain.num]] IH YP rfl rfl (.cons rfl rfl rfl .nil) rfl fun d3 d4 d5 d6 q=>have d7:Own Kd.cpx 35 d3 d4 23 (.slice (some ⟨d5,0,none⟩) 1 1) ([d.plain.num]:List (Nat×Nat)):=Own.lit (css:=[[Cx d.plain.num]]) d6 rfl rfl rfl (AQ rfl Au) (Av rfl CP) rfl;⟨⟨_,(Tn (Mo [1,24] p) q)⟩,?_⟩
 refine A5 rfl<|have d8:=Os (Os (Os bc o) p) q;Bi a fun fp cf a=>Aw rfl (.none rfl) rfl rfl<|Az (κ:=Kd.cpx) rfl rfl d8 dcd X8 (BL d7) (CF cf) (CK cf) fun fq d9 fr bg w=>?_
 obtain ⟨bh,bi,rfl⟩:=Own.len bg
 refine ⟨⟨_,(T2 (Mo [1,24] p) q w)⟩,?_⟩
 refine Qx z rfl (fun _ _=>Fd EU rfl)<|CX dcd<|WY.one<|have ea:=Y3 b9 p q w;BC rfl (.none rfl) rfl<|BB (vs:=[Sl bh ((e++([d.plain.num]:List (Nat×Nat)))) bi]) (cs':=[I 3,Cx (((0,0):Nat×Nat)),.bool false,Sl bh ((e++([d.plain.num]:List (Nat×Nat)))) bi]) YM rfl rfl rfl rfl (AP (Own.one bg) BO) ea dcd rfl rfl fun eb ec ad=>WY.nil<|AM<|Vx (Fd Vt rfl)<|have cg:=Y4 ca p q w ad;Vx (Ld Od rfl (Bc cg rfl))<|Vm<|have ed:=Y3 cd q w ad;have ee:=K3 AI bd q w ad;have ef:=Ms (Ms (Ms (Ms cb p) q) w) ad;have eg:=Mt (Mt (Mt (Mt (Mt dj o) p) q) w) ad;Bi a fun a1 eh a=>?_
 obtain ⟨fs,ft,ei,ej⟩:=Ow y d9 eb eh dcd dcd ed ee ef eg
 refine IU (.none rfl) rfl rfl (ei (vs:=[Pt ai 0]) rfl rfl)<|Calls.mono ej ?_
 rintro _ fu ⟨ch,fv,ak,ci,bj,ek⟩
 obtain ⟨cj,ck,rfl⟩:=AR bj
 obtain ⟨fw,el,rfl⟩| ⟨g,em,fx,rfl,fy,rfl,en⟩:=Ea.split ek
 refine have a:=Du a el; .inl ⟨_,rfl,?_⟩
 obtain rfl:=AN a
 refine Nb (B:=B) ap<|⟨ch,Sl cj a1.2.1 ck,Ho (T2 (T4 (T4 (Mo [1,20,22,24] h) f m n ah) o p q w) ad ak) al,ci,bj,GU⟩
 refine have a:=G9 a em; ?_
 obtain ⟨fz,bk,bl,rfl,bm,cl,cm⟩:=DR en
 obtain ⟨bn,bo,rfl⟩:=AR bm
 refine .inr ⟨_,rfl,?_⟩
 refine have eo:=Bs cg ak;Eu<|BB (vs:=[I g.plain.type_,Cx g.plain.num,.bool g.plain.bool,Sl bn g.plain.list bo,bk,bl]) (cs':=[I g.plain.type_,Cx g.plain.num,.bool g.plain.bool,Sl bn g.plain.list bo,bk,bl]) JM rfl rfl rfl rfl (AP rfl (AP rfl (AP rfl (AP (FZ bm) (AP (MTh.one cl) (AP (MTh.one cm) BO)))))) eo dcd rfl rfl fun f0 ep ae=>AA<|have eq:=Ss AI bj ae;have er:=Ss Kd.cpx bm ae;have es:=Os (Os (Os bg ad) ak) ae;have et:=Mt cl ae;have eu:=Mt cm ae;have ew:=Bs ci ae;have ex:=Y2 ec ak ae;⟨aa,Nat.lt_succ_self aa,_,ch,a1.2.1,cj,ck,a1.2.2.1,a1.2.2.2,g.plain.type_,g.plain.num,g.plain.bool,g.plain.list,bn,bo,g.head,bk,g.tail,bl,(e++([d.plain.num]:List (Nat×Nat))),bh,bi,Pu,(b8▸a),(T3 (T4 (Mo [1,20,22,24] ah) o p q w) ad ak ae),eq,er,es,et,eu,ew,ep,ex⟩
 refine BZ<|Sr<|Vx (Lx DX rfl rfl (Bk.part b7 0 [I 3,Cx (((0,0):Nat×Nat)),.bool false,Sl ab e ac] rfl))<|have ey:=Y3 bx m n ah;Eu<|BB (vs:=[I 3,Cx (((0,0):Nat×Nat)),.bool false,Sl ab e ac]) (cs':=[I 3,Cx (((0,0):Nat×Nat)),.bool false,Sl ab e ac]) GO rfl rfl rfl rfl (AP rfl (AP rfl (AP rfl (AP (Own.one bc) BO)))) ey dcd rfl rfl fun f1 ez a2=>AA<|AW<|have e0:=Os bc a2; ?_
 obtain ⟨e1,a3,e2⟩:=Own.freeze (S:=[24]) e0 dcd dcd
 obtain rfl:=AN a
 refine have e3:=Bs ez a3;O1 B ap rfl (.agg DX rfl rfl (Bk.part e3 0 [I 3,Cx (((0,0):Nat×Nat)),.bool false,Sl ab e ac] rfl))<|have e4:=Y2 b5 a2 a3;have e5:=K2 AI b3 a2 a3;⟨e1,Sl ar af au,Ho (T2 (T4 (Mo [1,20,21,22,24] h) f m n ah) a2 a3) al,e4,e5,FI ⟨[I 3,Cx (((0,0):Nat×Nat)),.bool false,Sl ab e ac],rfl,(BD (x:=(AH.mk 3 ((0,0):Nat×Nat) false e)) e2)⟩⟩
theorem QK(e:Nat):D8.Spec (D8 e):=by
 intro d f a c z aa ab ac ad ae af ag ah ai l hnd hnz g m n o
 refine Calls.mono (Pv e (recol (see [a,c]) d) f (Hw lbr d) l trivial trivial (BV g [a,c] (BJ hnd hnz (i:=0) rfl)) (EW AI m [a,c]) (Fh n [a,c] (BJ hnd hnz (i:=1) rfl)) (Bl HB o [a,c])) ?_
 rintro aj ak ⟨p,q,s,w,y,en⟩
 exact ⟨glue [a,c] f d p,q,DI s (Hu rfl rfl),Ei g w dcd,G8 AI y,PA en fun r v ⟨u,hv,h⟩=>⟨u,hv,FW A1 h⟩⟩
def FM.At(c:Col)(a:World)(f:AL→Bts→(List AH)→Int→Option BR):Prop:=
 ∀{d e g h l m n},f d g h m=some n→Cd.rep c.F a e d→Slc A1 c.F a l h→
  Calls PG 13 #[Ag e,Sb g,l,I m] a fun r o=>∃p q,r=.returned (Ag q)∧AS [] c a p o∧Pf.rep p.F o q n
def FM.Spec(f:AL→Bts→(List AH)→Int→Option BR):Prop:=
 ∀a c,FM.At a c f
theorem UJ(o:Nat)(b4:Col)(d4:World)(a0:∀b,b4 b<10):FM.At b4 d4 (FM o):=by
 intro z i0 ae p i1 l bb a d5 cu
 rw [FM] at a
 obtain ⟨bn,bo,rfl,cv⟩:=E1 (BN d5)
 obtain ⟨b5,b6,rfl⟩:=AR cu
 refine RT Tryz.func13 rfl Tryz.ntmps13 rfl fun W B hW ad=>WA'.seq ad<|AM<|Ef<|BX b4 20 rfl rfl fun d6 i3 d7 d8 ao=>Ef<|AU d6 21 Mg rfl fun d9 ea ak a1 al=>AA<|WA'.seq ad<|Sr<|have cw:=Bs d8 al;Vx (Lx Gl rfl rfl (Bw cw))<|have cx:=K2 AI cv ao al;Bi a fun bp eb a=>Ca (Cg [Ag [Sl bn z.funcs bo]] rfl) (S0 o d9 ea eb (BH (x:=z) cx)) ?_
 rintro _ i4 ⟨cy,i5,rfl,q,ec⟩
 obtain rfl:=Aq ec
 refine Vx (v:=I bp.why) (Js (cs:=[I bp.why,I bp.at_]) SZ rfl rfl)<|Vr (.bool (bp.why != 0))<|AA<|Cn a (fun ed a=>?_) fun ed a=>?_
 refine Sr<|Vx (v:=Ag [I 3,I 0,Cx (((0,0):Nat×Nat)),.bool false,.slice none 0 0,I 0,I 0,I 0,I 0]) (Bp Mg Qm rfl (.cons rfl rfl rfl .nil))<|have ee:=Bs a1 q;Eu<|St M7 ee rfl rfl rfl rfl fun i6 ef eg=>AA<|AW ?_
 obtain rfl:=AN a
 refine ZU hW (B:=B) ad<|SR rfl (.agg Pi rfl rfl (Bw ef))<|⟨cy,[I 3,I 0,Cx (((0,0):Nat×Nat)),.bool false,.slice none 0 0,I 0,I 0,I 0,I 0],rfl,Ho (T3 (Mo [21] ao) al q eg) a0,(JB (x:=(BR.mk 3 (AH.mk 0 ((0,0):Nat×Nat) false []) 0 0 0 0)) Bd)⟩
 refine WC.skip<|WA'.seq ad<|AM<|Ef<|Mw cy 22 fun eh i7 bq ei ac=>Vx (Fz EA rfl)<|have cz:=Y2 cw q ac;Vx (Ld GP rfl (Bc cz rfl))<|Vm<|Vx (v:=I (if l<0 then 0 else l)) (Run.max rfl rfl)<|Vx (v:=I (if 16384< (if l<0 then 0 else l) then 16384 else (if l<0 then 0 else l))) (Run.min rfl rfl)<|Vx (v:=Ag [.map (some bq),Sl bn z.funcs bo,I 0,I (if 16384< (if l<0 then 0 else l) then 16384 else (if l<0 then 0 else l))]) (Bp AAn AAi rfl (.cons rfl rfl rfl (.cons rfl rfl rfl (.cons rfl rfl rfl .nil))))<|Ef<|BX eh 23 rfl rfl fun ej i8 br c0 aa=>Ef<|AU ej 24 AAl rfl fun c1 i9 am ek m=>Eu<|St AAd ek rfl rfl rfl rfl fun el c2 n=>AA<|WA'.seq ad<|Sr<|Vx (Fz EA rfl)<|have c3:=Y3 cz aa m n;Vx (Ld GP rfl (Bc c3 rfl))<|have b7:=Ss AI (K4 AI cx q ac aa m) n; ?_
 obtain ⟨ja,jb,em⟩:=AR b7
 refine Vx (v:=I (z.funcs.length:Int)) (Ll DY em)<|Vm<|AA<|Ad<|Bj (fun au bc bd=>∃av aw ag r,bc=Env.puts av [(1,Sb ae),(2,Sl b5 p b6),(4,Pt d7 0),(8,Pt ak 0),(9,Pt am 0),(34,Sl bn z.funcs bo),(35,I (z.funcs.length:Int)),(36,I ag)]∧I5 o z ae p l au ag r=some bb∧AS [22,25] c1 el aw bd∧Mp aw bd 22 bq r) o ?_ ?_
 refine have en:=Ms (Ms (Ms ei aa) m) n;⟨_,c1,0,([]:Ao),Pu,a,(AS.refl [22,25] _ _),en⟩
 rintro au _ bd ⟨av,aw,ag,r,rfl,a,f,b8⟩
 rcases au with _|au
 exact A6 a
 refine have a:JG o z ae p l (I5 o z ae p l au) ag r=some bb:=a; ?_
 obtain ⟨jc,c4⟩:∃s,s=I5 o z ae p l au:=⟨_,rfl⟩
 rw [←c4,JG] at a
 refine Sr<|Vr (.bool (decide (ag< (z.funcs.length:Int))))<|AA<|AY<|Cn a (fun eo a=>?_) fun eo a=>?_
 refine WC.skip<|AY<|Ad<|Sr<|Vm<|Bi a fun af ep a=>have eq:=Ss AI b7 f; ?_
 obtain ⟨er,es,jd,et,eu,ew,ex,ey,b9⟩:=BG (κ:=AI) eq ep
 replace b9:A3 aw bd er (es+ag.toNat*11) et:=b9
 obtain ⟨je,jf,rfl,c5,c6⟩:=DA ey
 obtain ⟨ez,e0,rfl⟩:=AR c5
 obtain ⟨e1,e2,rfl⟩:=AR c6
 refine Vx (Ix DY eu rfl ew ex)<|Vx (Lx Lc rfl rfl (A3.part0 b9 [Sb af.name,Sl ez af.params e0,I af.type_,I af.body.op,Sb af.body.name,Sb af.body.tail,I af.body.type_,Cx af.body.num,Sl e1 af.body.args e2,I af.body.at_,I af.at_] rfl))<|Ef<|AU aw 25 Fs rfl fun c7 jg jh e3 a2=>Va (I ag)<|have ji:=Ss Aa c5 a2;have jj:=Ss AJ c6 a2;Eu<|St LD e3 rfl rfl rfl rfl fun jk e4 bt=>AA<|SC<|B8 Eg (qs 0 7 (.one 7 .nil)) [7] [] c7 (by kernel_rfl) fun jl be=>have e5:=Y4 c2 f a2 bt be;Qx C8 rfl (fun _ ⟨_,c⟩=>Ld Ql rfl (Bc (Bs e5 c) rfl))<|Qx C8 rfl (fun _ _=>Nc rfl)<|Qx C8 rfl (fun _ _=>Fz SY rfl)<|have e6:=Y2 (Y4 c0 m n f a2) bt be;Qx C8 rfl (fun _ ⟨_,c⟩=>Ld Oc rfl (Bc (Bs e6 c) rfl))<|Qx C8 rfl (fun _ _=>Fz L9 rfl)<|have e7:=Bs e4 be;Qx C8 rfl (fun _ ⟨_,c⟩=>Ld CS rfl (Bc (Bs e7 c) rfl))<|Qx C8 rfl (v:=I ag) (fun _ _=>Mv rfl)<|CX dcd<|WY.one<|have e8:=Ms (Ms (Ms b8 a2) bt) be;BC rfl (.none rfl) rfl<|KA Ko rfl rfl rfl e8 fun jm e9 fa=>WY.nil<|AM<|Vr (I (Wr (ag+1)))<|Vm<|AA<|⟨au,Nat.lt_succ_self au,_,c7,(Wr (ag+1)),(Lm af.name ag r),Pu,(c4▸a),(T4 (Mo [22,25] f) a2 bt be fa),e9⟩
 refine BZ<|WA'.seq ad<|AM<|have c8:=Bs c2 f;Vx (Ld Ql rfl (Bc c8 rfl))<|Vx (Nc rfl)<|Vx (Fz SY rfl)<|have c9:=Y3 c0 m n f;Vx (Ld Oc rfl (Bc c9 rfl))<|Vm<|Vx (v:=.tuple #[I (Ck r ae),.bool (N5 r ae)]) (Vh Ko rfl rfl b8)<|Vm<|Vr (I (Ck r ae))<|Vr (.bool (N5 r ae))<|Va (I (Ck r ae))<|Va (.bool (N5 r ae))<|AA<|WA'.seq ad<|Sr<|Vm<|Vr (.bool (!(N5 r ae)))<|AA<|Cn a (fun fb a=>?_) fun fb a=>?_
 refine Sr<|Vx (v:=Ag [I 32,I 0,Cx (((0,0):Nat×Nat)),.bool false,.slice none 0 0,I 0,I 0,I 0,I 0]) (Bp Mg Qm rfl (.cons rfl rfl rfl .nil))<|have fc:=Y2 (Y4 a1 q ac aa m) n f;Eu<|St M7 fc rfl rfl rfl rfl fun jn fd fe=>AA<|AW ?_
 obtain rfl:=AN a
 refine ZU hW (B:=B) ad<|SR rfl (.agg Pi rfl rfl (Bw fd))<|⟨aw,[I 32,I 0,Cx (((0,0):Nat×Nat)),.bool false,.slice none 0 0,I 0,I 0,I 0,I 0],rfl,Ho (T4 (T4 (Mo [21,22,24,25] ao) al q ac aa) m n f fe) a0,(JB (x:=(BR.mk 32 (AH.mk 0 ((0,0):Nat×Nat) false []) 0 0 0 0)) Bd)⟩
 refine WC.skip<|WA'.seq ad<|AM<|Vx (Fz EA rfl)<|have ff:=Bs c3 f;Vx (Ld GP rfl (Bc ff rfl))<|Vm<|Bi a fun d fg a=>have da:=Ss AI b7 f; ?_
 obtain ⟨fh,fi,jo,fj,fk,fl,fm,fn,ca⟩:=BG (κ:=AI) da fg
 replace ca:A3 aw bd fh (fi+((Ck r ae)).toNat*11) fj:=ca
 obtain ⟨jp,jq,rfl,db,dc⟩:=DA fn
 obtain ⟨fo,fp,rfl⟩:=AR db
 obtain ⟨cb,cc,rfl⟩:=AR dc
 refine Vx (Ix DY fk rfl fl fm)<|Vx (Lx Lc rfl rfl (A3.part0 ca [Sb d.name,Sl fo d.params fp,I d.type_,I d.body.op,Sb d.body.name,Sb d.body.tail,I d.body.type_,Cx d.body.num,Sl cb d.body.args cc,I d.body.at_,I d.at_] rfl))<|Ef<|AU aw 26 Fs rfl fun cd jr de fq u=>have fr:=Ss Aa db u;have fs:=Ss AJ dc u;Eu<|St LD fq rfl rfl rfl rfl fun ft bu w=>AA<|WA'.seq ad<|Sr<|Vm<|have cf:=K2 A1 (K4 A1 (K4 A1 cu ao al q ac) aa m n f) u w; ?_
 obtain ⟨js,jt,fu⟩:=AR cf
 refine Vx (v:=I (p.length:Int)) (Ll KG fu)<|Vx (Fd Eh rfl)<|Vx (Ld E0 rfl (Bc bu rfl))<|have cg:=Ss Aa fr w; ?_
 obtain ⟨ju,jv,fv⟩:=AR cg
 refine Vx (v:=I (d.params.length:Int)) (Ll ED fv)<|Vr (.bool ((p.length:Int) != (d.params.length:Int)))<|AA<|Cn a (fun fw a=>?_) fun fw a=>?_
 refine Sr<|Vx (v:=Ag [I 40,I 0,Cx (((0,0):Nat×Nat)),.bool false,.slice none 0 0,I 0,I 0,I 0,I 0]) (Bp Mg Qm rfl (.cons rfl rfl rfl .nil))<|have fx:=Y4 (Y4 a1 q ac aa m) n f u w;Eu<|St M7 fx rfl rfl rfl rfl fun jw fy fz=>AA<|AW ?_
 obtain rfl:=AN a
 refine ZU hW (B:=B) ad<|SR rfl (.agg Pi rfl rfl (Bw fy))<|⟨cd,[I 40,I 0,Cx (((0,0):Nat×Nat)),.bool false,.slice none 0 0,I 0,I 0,I 0,I 0],rfl,Ho (T2 (T4 (T4 (Mo [21,22,24,25,26] ao) al q ac aa) m n f u) w fz) a0,(JB (x:=(BR.mk 40 (AH.mk 0 ((0,0):Nat×Nat) false []) 0 0 0 0)) Bd)⟩
 refine WC.skip<|WA'.seq ad<|AM<|Va (.pointer none)<|AA<|WA'.seq ad<|Sr<|Vm ?_
 obtain ⟨jx,jy,f0⟩:=AR cf
 refine Vx (v:=I (p.length:Int)) (Ll KG f0)<|Vm<|AA<|Ad<|Bj (fun ax bc bf=>∃av a3 a4 ay ab,bc=Env.puts av [(8,Pt ak 0),(9,Pt am 0),(14,Pt de 0),(15,ay),(73,Sl b5 p b6),(74,I (p.length:Int)),(75,I ab)]∧Ed o z p l r d ax a4 ab=some bb∧AS [27,28] cd ft a3 bf∧GQ 89 90 a3.F bf ay a4) o ?_ ?_
 exact ⟨_,cd,Nm.nil,.pointer none,0,Pu,a,(AS.refl [27,28] _ _),GQ.nil⟩
 rintro ax _ bf ⟨av,a3,a4,ay,ab,rfl,a,h,ch⟩
 rcases ax with _|ax
 exact A6 a
 refine have a:Fq o z p l r d (Ed o z p l r d ax) a4 ab=some bb:=a; ?_
 obtain ⟨f1,df⟩:∃s,s=Ed o z p l r d ax:=⟨_,rfl⟩
 rw [←df,Fq] at a
 refine Sr<|Vr (.bool (decide (ab< (p.length:Int))))<|AA<|AY<|Cn a (fun f2 a=>?_) fun f2 a=>?_
 refine WC.skip<|AY<|Ad<|Sr<|Vm<|Bi a fun e f3 a=>have f4:=Ss A1 cf h; ?_
 obtain ⟨f5,f6,jz,f7,f8,f9,ga,gb,ci⟩:=BG (κ:=A1) f4 f3
 replace ci:A3 a3 bf f5 (f6+ab.toNat*4) f7:=ci
 obtain ⟨bg,bh,rfl,dg⟩:=E1 (Bm gb)
 refine Vx (Ix KG f8 rfl f9 ga)<|Vx (Lx DX rfl rfl (A3.part0 ci [I e.type_,Cx e.num,.bool e.bool,Sl bg e.list bh] rfl))<|Ef<|AU a3 27 FU rfl fun bi j1 gc gd ap=>Va (I ab)<|have dh:=Ss Kd.cpx dg ap;Eu<|St GO gd rfl rfl rfl rfl fun ge di an=>AA<|AY<|An (fun bc dj=>∃av a5 cj,bc=Env.puts av [(8,Pt ak 0),(9,Pt am 0),(14,Pt de 0),(15,ay),(16,I ab),(17,Pt gc 0),(73,Sl b5 p b6),(74,I (p.length:Int)),(75,I ab),(93,.bool cj)]∧LY o d a4 ab f1 e cj=some bb∧AS [] bi ge a5 dj) ?_ ?_
 refine SC<|B8 Eg (qs 0 11 (.one 11 (.q 12 (.q 13 .nil)))) [] [] bi (by kernel_rfl) fun dk a6=>Qx C8 rfl (fun _ _=>Fz I7 rfl)<|have dl:=Bs di a6;Qx C8 rfl (fun _ ⟨_,c⟩=>Ld EB rfl (Bc (Bs dl c) rfl))<|Qx C8 rfl (fun _ _=>Fd Eh rfl)<|have gf:=Y4 bu h ap an a6;Qx C8 rfl (fun _ ⟨_,c⟩=>Ld E0 rfl (Bc (Bs gf c) rfl))<|Qx C8 rfl (v:=I ab) (fun _ _=>Mv rfl)<|Bi a fun dm gg a=>have gh:=K4 Aa cg h ap an a6; ?_
 obtain ⟨gi,gj,j2,gk,gl,gm,gn,go,ck⟩:=BG (κ:=Aa) gh gg
 replace ck:A3 bi dk gi (gj+ab.toNat*3) gk:=ck
 obtain rfl:=Fv go
 refine Qx C8 rfl (fun _ _=>Ix ED gl rfl gm gn)<|Qx C8 rfl (fun _ _=>Fd NT rfl)<|Qx C8 rfl (fun _ ⟨_,c⟩=>Ld EB rfl (A3.cell (k:=1) (Es ck c) rfl))<|Qx C8 rfl (v:=.bool (e.type_ != dm.type_)) (fun _ _=>rfl)<|Qx C8 rfl (v:=.bool (e.type_ != dm.type_)) (fun _ _=>Mv rfl)<|Bo a (fun aq a=>?_) fun aq a=>?_
 refine Qp C8 rfl aq<|A5 rfl<|O8 rfl (.guard (t:=true) (b:=false) rfl rfl rfl rfl (Cb aq)) rfl rfl<|⟨⟨_,Rf⟩,?_⟩
 refine Qp C8 rfl aq<|Qx C8 rfl (v:=.bool true) (fun _ _=>(Pk aq))<|Dt<|⟨_,bi,true,Pu,a,(Mo [] a6)⟩
 refine Qg C8 rfl aq (fun _ ⟨_,c⟩=>Lx DX rfl rfl (Bw (Bs dl c)))<|A5 rfl<|have gp:=K2 Kd.cpx dh an a6;Bi a fun cl gq a=>BM rfl (.guard (t:=false) (b:=false) rfl rfl rfl rfl (Cb aq)) rfl rfl (Cg [Ag [I e.type_,Cx e.num,.bool e.bool,Sl bg e.list bh]] rfl)<|Calls.mono (Ou o bi dk gq (BD (x:=e) gp)) ?_
 rintro _ j3 ⟨gr,rfl,dn⟩
 refine ⟨_,rfl,⟨_,(Mo [] dn)⟩,?_⟩
 refine Qg C8 rfl aq (v:=.bool (cl != 0)) (fun _ _=>rfl)<|Qx C8 rfl (v:=.bool (cl != 0)) (fun _ _=>(Pk aq))<|Dt<|⟨_,gr,(cl != 0),Pu,a,(Tn (Mo [] a6) dn)⟩
 rintro _ dj ⟨av,a5,cj,rfl,a,az⟩
 rw [LY] at a
 refine Cn a (fun gs a=>?_) fun gs a=>?_
 refine Sr<|Vx (v:=Ag [I 40,I 0,Cx (((0,0):Nat×Nat)),.bool false,.slice none 0 0,I 0,I 0,I 0,I 0]) (Bp Mg Qm rfl (.cons rfl rfl rfl .nil))<|have gt:=Y4 (Y4 (Y4 a1 q ac aa m) n f u w) h ap an az;Eu<|St M7 gt rfl rfl rfl rfl fun j4 gu gv=>AA<|AW ?_
 obtain rfl:=AN a
 refine ZU hW (B:=B) ad<|SR rfl (.agg Pi rfl rfl (Bw gu))<|⟨a5,[I 40,I 0,Cx (((0,0):Nat×Nat)),.bool false,.slice none 0 0,I 0,I 0,I 0,I 0],rfl,Ho (T2 (T4 (T4 (T4 (Mo [21,22,24,25,26,27,28] ao) al q ac aa) m n f u) w h ap an) az gv) a0,(JB (x:=(BR.mk 40 (AH.mk 0 ((0,0):Nat×Nat) false []) 0 0 0 0)) Bd)⟩
 refine WC.skip<|SC<|B8 Eg (qs 0 7 (.q 8 (.one 7 (.q 9 (.one 10 (.q 11 .nil)))))) [] [] a5 (by kernel_rfl) fun dp a7=>Qx C8 rfl (fun _ _=>Fd Eh rfl)<|have gw:=Bs (Y4 bu h ap an az) a7;Qx C8 rfl (fun _ ⟨_,c⟩=>Ld E0 rfl (Bc (Bs gw c) rfl))<|Qx C8 rfl (v:=I ab) (fun _ _=>Mv rfl)<|Bi a fun cm gx a=>have gy:=Ss Aa (K4 Aa cg h ap an az) a7; ?_
 obtain ⟨gz,g0,j5,g1,g2,g3,g4,g5,cn⟩:=BG (κ:=Aa) gy gx
 replace cn:A3 a5 dp gz (g0+ab.toNat*3) g1:=cn
 obtain rfl:=Fv g5
 refine Qx C8 rfl (fun _ _=>Ix ED g2 rfl g3 g4)<|Qx C8 rfl (fun _ _=>Fz MA rfl)<|Qx C8 rfl (fun _ ⟨_,c⟩=>Ld CS rfl (A3.cell0 (Es cn c) rfl))<|have g6:=Y2 di az a7;Qx C8 rfl (fun _ ⟨_,c⟩=>Lx DX rfl rfl (Bw (Bs g6 c)))<|Qx C8 rfl (v:=ay) (fun _ _=>Mv rfl)<|A5 rfl<|have g7:=K3 Kd.cpx dh an az a7;Bi a fun g8 g9 a=>BM rfl (.none rfl) rfl rfl (Cg [Ag [I e.type_,Cx e.num,.bool e.bool,Sl bg e.list bh]] rfl)<|Calls.mono (T7 o a5 dp g9 (BD (x:=e) g7)) ?_
 rintro _ j6 ⟨ha,dq,rfl,bv,dr⟩
 refine ⟨_,rfl,⟨_,(Mo [] bv)⟩,?_⟩
 refine Qx C8 rfl (v:=Ag [Sb cm.name,dq,ay]) (fun _ _=>Bv (cs:=[Sb cm.name,dq,ay]) [Sb ([]:Bts),.nilFunc,.pointer none] Qr Qo rfl (.cons rfl rfl rfl (.cons rfl (Ir (MTh.one dr)) rfl (.cons rfl (Ir (GQ.one ch)) rfl .nil))) rfl rfl)<|A5 rfl<|Aw rfl (.none rfl) rfl rfl<|BX ha 28 rfl rfl fun j7 j8 ds hb bw=>⟨⟨_,(Tn (Mo [] bv) bw)⟩,?_⟩
 refine Qx C8 rfl (v:=Pt ds 0) (fun _ _=>Run.assign rfl)<|Dt<|AM<|Vr (I (Wr (ab+1)))<|Vm<|AA<|have hc:=Mt dr bw;have hd:=Me (Me (Me (Me (Me (Me ch ap) an) az) a7) bv) bw; ?_
 obtain ⟨he,hf,hg⟩:=GQ.lay hb dcd hc hd
 exact ⟨ax,Nat.lt_succ_self ax,_,he,(Nm.bind cm.name g8 a4),Pt ds 0,(Wr (ab+1)),Pu,(df▸a),(T3 (T4 (Mo [27,28] h) ap an az a7) bv bw hf),hg⟩
 refine BZ<|WA'.region<|LA.val (.none rfl) rfl rfl (v:=.func (.func 32) #[] [Pt am 0,Pt ak 0].toArray) (IB (vs:=[Pt am 0,Pt ak 0]) rfl)<|LA.defer (dd:={target:=.fn (.func 32) [Pt am 0,Pt ak 0].toArray,args:=#[]}) (.none rfl) rfl (We rfl)<|LA.nil (?_:WA' _ _ _ _ W _ _)
 obtain ⟨B2,hB2⟩:∃B2,B2=MY [{target:=.fn (.func 32) [Pt am 0,Pt ak 0].toArray,args:=#[]}] 122 W:=⟨_,rfl⟩
 refine X4 hB2<|Sr<|have co:=Y3 c8 u w h;Vx (Ld Ql rfl (Bc co rfl))<|Vx (Fd Mb rfl)<|have hh:=Bs bu h;Vx (Lx BA rfl rfl (Bk.part hh 3 [I d.body.op,Sb d.body.name,Sb d.body.tail,I d.body.type_,Cx d.body.num,Sl cb d.body.args cc,I d.body.at_] rfl))<|Vm<|have hi:=Y3 c9 u w h;have hj:=K3 AI da u w h;have dt:=Ms (Ms (Ms b8 u) w) h;have hk:=K2 AJ fs w h;Bi a fun a8 hl a=>IU (.none rfl) rfl rfl (Cg [Pt br 0,Ag [I d.body.op,Sb d.body.name,Sb d.body.tail,I d.body.type_,Cx d.body.num,Sl cb d.body.args cc,I d.body.at_],ay] rfl)<|Calls.mono (Q3 o a3 bf hl dcd dcd hi hj dt (Ab (x:=(AB.mk d.body.op d.body.name d.body.tail d.body.type_ d.body.num d.body.args d.body.at_)) hk) ch) ?_
 rintro _ hm ⟨cq,j9,ar,du,dv,hn⟩
 obtain ⟨ho,hp,rfl⟩:=AR dv
 obtain ⟨bx,hq,rfl⟩| ⟨y,hr,ka,rfl,kb,rfl,hs⟩:=Ea.split hn
 refine have a:=Du a hq; .inl ⟨_,rfl,?_⟩
 refine have ht:=Bs co ar;have hu:=Y2 (Y4 (Y4 a1 q ac aa m) n f u w) h ar;ABT hW (B:=B2) hB2 (OV Tryz.func32 rfl dcd) (RM cq hm am ak 0 0 ((0,0):Nat×Nat) false (.slice none 0 0) 0 0 0 0 br (.map (some bq)) (Sl ho a8.2.1 hp) a8.2.2.1 a8.2.2.2 bx ht hu du) fun kc hw=>?_
 obtain ⟨hx,hy⟩:=hw
 obtain rfl:=AN a
 refine SR rfl (.agg Pi rfl rfl (Bw hx))<|⟨cq,[I bx,I 0,Cx (((0,0):Nat×Nat)),.bool false,.slice none 0 0,I a8.2.2.1,I 0,I 0,I 0],rfl,Ho (T4 (T4 (T4 (Mo [21,22,23,24,25,26,27,28] ao) al q ac aa) m n f u) w h ar hy) a0,(JB (x:=(BR.mk bx (AH.mk 0 ((0,0):Nat×Nat) false []) a8.2.2.1 0 0 0)) Bd)⟩
 refine have a:=G9 a hr; ?_
 obtain ⟨kd,bz,b0,rfl,dw,dx,dy⟩:=DR hs
 obtain ⟨b1,b2,rfl⟩:=AR dw
 refine .inr ⟨_,rfl,?_⟩
 refine Ef<|AU cq 29 Kb rfl fun hz ke kf h0 ah=>have dz:=Ss Kd.cpx dw ah;Eu<|BB (vs:=[I y.plain.type_,Cx y.plain.num,.bool y.plain.bool,Sl b1 y.plain.list b2,bz,b0]) (cs':=[I y.plain.type_,Cx y.plain.num,.bool y.plain.bool,Sl b1 y.plain.list b2,bz,b0]) JM rfl rfl rfl rfl (AP rfl (AP rfl (AP rfl (AP (FZ dz) (AP (MTh.one dx) (AP (MTh.one dy) BO)))))) h0 dcd rfl rfl fun h1 h2 ai=>AA<|Sr<|have cr:=Y3 co ar ah ai;Vx (Ld Ql rfl (Bc cr rfl))<|Vx (Lx Jl rfl rfl (Bw h2))<|have h3:=Y2 du ah ai;have h4:=K2 AI dv ah ai;have h5:=Ms (Ms (Ms dt ar) ah) ai;have h6:=Ss Kd.cpx dz ai;have h7:=Mt (Mt dx ah) ai;have h8:=Mt (Mt dy ah) ai;Bi a fun aj h9 a=>IU (.none rfl) rfl rfl (Cg [Pt br 0,Ag [I y.plain.type_,Cx y.plain.num,.bool y.plain.bool,Sl b1 y.plain.list b2,bz,b0]] rfl)<|Calls.mono (QK o hz h1 h9 dcd dcd h3 h4 h5 (Cj (x:=y) h6 h7 h8)) ?_
 rintro _ ia ⟨ct,kg,a9,d0,ib,ic⟩
 obtain ⟨id,ie,rfl⟩:=AR ib
 obtain ⟨b3,ig,rfl⟩| ⟨g,ih,kh,rfl,ki,rfl,ii⟩:=Ea.split ic
 refine have a:=Du a ig; .inl ⟨_,rfl,?_⟩
 refine have ij:=Bs cr a9;have ik:=Bs (Y4 (Y4 (Y4 a1 q ac aa m) n f u w) h ar ah ai) a9;ABT hW (B:=B2) hB2 (OV Tryz.func32 rfl dcd) (RM ct ia am ak 0 0 ((0,0):Nat×Nat) false (.slice none 0 0) 0 0 0 0 br (.map (some bq)) (Sl id aj.2.1 ie) aj.2.2.1 aj.2.2.2 b3 ij ik d0) fun kj il=>?_
 obtain ⟨im,io⟩:=il
 obtain rfl:=AN a
 refine SR rfl (.agg Pi rfl rfl (Bw im))<|⟨ct,[I b3,I 0,Cx (((0,0):Nat×Nat)),.bool false,.slice none 0 0,I aj.2.2.1,I 0,I 0,I 0],rfl,Ho (T3 (T4 (T4 (T4 (Mo [21,22,23,24,25,26,27,28,29] ao) al q ac aa) m n f u) w h ar ah) ai a9 io) a0,(JB (x:=(BR.mk b3 (AH.mk 0 ((0,0):Nat×Nat) false []) aj.2.2.1 0 0 0)) Bd)⟩
 refine have a:=G9 a ih; ?_
 obtain ⟨bj,bk,rfl,d1⟩:=E1 (Bm ii)
 refine .inr ⟨_,rfl,?_⟩
 refine Ef<|AU ct 30 FU rfl fun d2 kl km ip bl=>have iq:=Ss Kd.cpx d1 bl;Eu<|St GO ip rfl rfl rfl rfl fun kn ir bm=>AA<|AY<|SC<|B8 Eg (qs 0 6 (.one 6 .nil)) [6] [] d2 (by kernel_rfl) fun ko ba=>have it:=Bs ir ba;Qx C8 rfl (fun _ ⟨_,c⟩=>Lx DX rfl rfl (Bw (Bs it c)))<|have iu:=Y4 cr a9 bl bm ba;Qx C8 rfl (fun _ ⟨_,c⟩=>Ld Ql rfl (Bc (Bs iu c) rfl))<|Qx C8 rfl (fun _ _=>Nc rfl)<|Qx C8 rfl (fun _ _=>Fd OZ rfl)<|have iv:=Y3 d0 bl bm ba;Qx C8 rfl (fun _ ⟨_,c⟩=>Ld CD rfl (Bc (Bs iv c) rfl))<|Qx C8 rfl (v:=Ag [I 0,I g.type_,Cx g.num,.bool g.bool,Sl bj g.list bk,I aj.2.2.1,I 0,I 0,I 0]) (fun _ _=>Bv (cs:=[I 0,I g.type_,Cx g.num,.bool g.bool,Sl bj g.list bk,I aj.2.2.1,I 0,I 0,I 0]) [I 0,I 0,Cx (((0,0):Nat×Nat)),.bool false,.slice none 0 0,I 0,I 0,I 0,I 0] Mg Qm rfl (.cons rfl rfl rfl (.cons rfl rfl rfl .nil)) rfl rfl)<|CX dcd<|WY.one<|have iw:=Y4 (Y4 (Y4 (Y4 a1 q ac aa m) n f u w) h ar ah ai) a9 bl bm ba;have ix:=K2 Kd.cpx iq bm ba;BC rfl (.none rfl) rfl<|St M7 iw rfl rfl rfl rfl fun kp iy d3=>WY.nil<|AW ?_
 obtain rfl:=AN a
 refine ABj hW (B:=B2) hB2 (OV Tryz.func32 rfl dcd) (Xj (Pt am 0) (Pt ak 0) _)<|SR rfl (.agg Pi rfl rfl (Bw iy))<|have iz:=Ss Kd.cpx ix d3;⟨d2,[I 0,I g.type_,Cx g.num,.bool g.bool,Sl bj g.list bk,I aj.2.2.1,I 0,I 0,I 0],rfl,Ho (T2 (T4 (T4 (T4 (T4 (Mo [21,22,23,24,25,26,27,28,29,30] ao) al q ac aa) m n f u) w h ar ah) ai a9 bl bm) ba d3) a0,(JB (x:=(BR.mk 0 g aj.2.2.1 0 0 0)) iz)⟩
theorem MP(c:Nat):FM.Spec (FM c):=lk0 (UJ c)
def Hj.At(d:Col)(a:World)(f:Option Bool):Prop:=
 ∀{c},f=some c→
  Calls PG 10 #[] a fun e g=>∃h,e=.returned (.bool c)∧AS [] d a h g
def Hj.Spec(f:Option Bool):Prop:=
 ∀a c,Hj.At a c f
theorem Rz(q:Nat)(ab:Col)(aw:World)(ax:∀b,ab b<10):Hj.At ab aw (Hj q):=by
 intro ay a
 rw [Hj] at a
 refine Ay Tryz.func10 rfl Tryz.ntmps10 rfl fun B az b0=>Sr<|Va (.bool false)<|AA<|Sr<|Ef<|Bf (cs:=[U8 102,U8 40,U8 120,U8 32,U8 78,U8 41,U8 58,U8 78,U8 61,U8 120,U8 43,U8 120,U8 59,U8 103,U8 40,U8 41,U8 58,U8 78,U8 61,U8 102,U8 40,U8 49,U8 43,U8 50,U8 41,U8 59]) ab 20 [[U8 102],[U8 40],[U8 120],[U8 32],[U8 78],[U8 41],[U8 58],[U8 78],[U8 61],[U8 120],[U8 43],[U8 120],[U8 59],[U8 103],[U8 40],[U8 41],[U8 58],[U8 78],[U8 61],[U8 102],[U8 40],[U8 49],[U8 43],[U8 50],[U8 41],[U8 59]] Hs YQ rfl rfl (.cons rfl rfl rfl (.cons rfl rfl rfl (.cons rfl rfl rfl (.cons rfl rfl rfl (.cons rfl rfl rfl (.cons rfl rfl rfl (.cons rfl rfl rfl (.cons rfl rfl rfl (.cons rfl rfl rfl (.cons rfl rfl rfl (.cons rfl rfl rfl (.cons rfl rfl rfl (.cons rfl rfl rfl (.cons rfl rfl rfl (.cons rfl rfl rfl (.cons rfl rfl rfl (.cons rfl rfl rfl (.cons rfl rfl rfl (.cons rfl rfl rfl (.cons rfl rfl rfl (.cons rfl rfl rfl (.cons rfl rfl rfl (.cons rfl rfl rfl (.cons rfl rfl rfl (.cons rfl rfl rfl (.cons rfl rfl rfl .nil)))))))))))))))))))))))))) rfl fun a0 a1 ac a2 a3=>have a4:Own Kd.u8 5 a0 a1 20 (.slice (some ⟨ac,0,none⟩) 26 26) ([102,40,120,32,78,41,58,78,61,120,43,120,59,103,40,41,58,78,61,102,40,49,43,50,41,59]:Bts):=Own.lit (css:=[[U8 102],[U8 40],[U8 120],[U8 32],[U8 78],[U8 41],[U8 58],[U8 78],[U8 61],[U8 120],[U8 43],[U8 120],[U8 59],[U8 103],[U8 40],[U8 41],[U8 58],[U8 78],[U8 61],[U8 102],[U8 40],[U8 49],[U8 43],[U8 50],[U8 41],[U8 59]]) a2 rfl rfl rfl (AQ rfl (AQ rfl (AQ rfl (AQ rfl (AQ rfl (AQ rfl (AQ rfl (AQ rfl (AQ rfl (AQ rfl (AQ rfl (AQ rfl (AQ rfl (AQ rfl (AQ rfl (AQ rfl (AQ rfl (AQ rfl (AQ rfl (AQ rfl (AQ rfl (AQ rfl (AQ rfl (AQ rfl (AQ rfl (AQ rfl Au)))))))))))))))))))))))))) (Av rfl (Av rfl (Av rfl (Av rfl (Av rfl (Av rfl (Av rfl (Av rfl (Av rfl (Av rfl (Av rfl (Av rfl (Av rfl (Av rfl (Av rfl (Av rfl (Av rfl (Av rfl (Av rfl (Av rfl (Av rfl (Av rfl (Av rfl (Av rfl (Av rfl (Av rfl CP)))))))))))))))))))))))))) rfl;Ef<|X3 ZW rfl a4 (by simp) dcd fun a5 a6 a7 a8=>Vx (v:=Ag [Sl (some ⟨ac,0,none⟩) (([102,40,120,32,78,41,58,78,61,120,43,120,59,103,40,41,58,78,61,102,40,49,43,50,41,59]:Bts)) 26,Sb ([103]:Bts),Sb ([]:Bts)]) (Bp AAk Tb.p24 rfl (.cons rfl rfl rfl (.cons rfl rfl rfl (.cons rfl rfl rfl .nil))))<|Bi a fun c a9 a=>Ca (Cg [Ag [Sl (some ⟨ac,0,none⟩) (([102,40,120,32,78,41,58,78,61,120,43,120,59,103,40,41,58,78,61,102,40,49,43,50,41,59]:Bts)) 26,Sb ([103]:Bts),Sb ([]:Bts)]] rfl) (M3 q a5 a6 a9 (P5 (x:=(D5.mk ([102,40,120,32,78,41,58,78,61,120,43,120,59,103,40,41,58,78,61,102,40,49,43,50,41,59]:Bts) ([103]:Bts) ([]:Bts))) a7)) ?_
 rintro _ b1 ⟨ba,b2,b3,rfl,bb,bc,ai⟩
 obtain ⟨n,o,rfl,aj⟩:=E1 (BN bc)
 obtain ⟨r,s,rfl⟩:=AR ai
 refine Vm<|Vr (Ag [Sl n c.1.funcs o])<|Vr (Sl r c.2.1 s)<|Vr (.bool c.2.2)<|Ef<|AU ba 21 DS rfl fun bd b5 b6 be ad=>have bf:=Ss AI aj ad;Eu<|St EZ be rfl rfl rfl rfl fun bg ak ae=>Va (Sl r c.2.1 s)<|Va (.bool c.2.2)<|AA<|Sr<|Vx (Lx Gl rfl rfl (Bw ak))<|Vm<|have al:=Ss AI bf ae;have am:=K2 A1 ai ad ae;Bi a fun u bh a=>Ca (Cg [Ag [Sl n c.1.funcs o],Sb ([103]:Bts),Sl r c.2.1 s,I 99] rfl) (MP q bd bg bh (BH (x:=c.1) al) am) ?_
 rintro _ b7 ⟨bi,b8,rfl,w,bj⟩
 obtain ⟨ca,cb,rfl,an⟩:=E1 (Lw bj)
 refine Ef<|AU bi 22 Mg rfl fun bk cc cd bl p=>have cf:=Ss Kd.cpx an p;Eu<|St M7 bl rfl rfl rfl rfl fun bm bn y=>AA<|Sr<|have bo:=Y3 ak w p y;Vx (Lx Gl rfl rfl (Bw bo))<|Vm<|have bp:=K3 AI al w p y;have bq:=K3 A1 am w p y;Bi a fun z br a=>Ca (Cg [Ag [Sl n c.1.funcs o],Sb ([103]:Bts),Sl r c.2.1 s,I 9] rfl) (MP q bk bm br (BH (x:=c.1) bp) bq) ?_
 rintro _ cg ⟨bt,ch,rfl,ao,bu⟩
 obtain ⟨cj,ck,rfl,ap⟩:=E1 (Lw bu)
 refine Ef<|AU bt 23 Mg rfl fun m cl cm bv af=>have cn:=Ss Kd.cpx ap af;Eu<|St M7 bv rfl rfl rfl rfl fun bw aq ar=>AA<|An (fun bx au=>∃av ag ah,bx=Env.puts av [(0,.bool ah)]∧Gd ah=some ay∧AS [] m bw ag au) ?_ ?_
 refine AM<|Vm<|Vm<|Bo a (fun f a=>?_) fun f a=>?_
 refine Gx f (Fz L7 rfl)<|have aa:=Y3 bn ao af ar;Gx f (Ld LE rfl (Bc aa rfl))<|Gr f (.bool (u.why==0))<|Vp f<|Vm<|Bo a (fun d a=>?_) fun d a=>?_
 refine Gx d (Fd P8 rfl)<|Gx d (Fz I7 rfl)<|Gx d (Ld EB rfl (Bc aa rfl))<|Gr d (.bool (u.value.type_==1))<|Vp d<|Vm<|Bo a (fun e a=>?_) fun e a=>?_
 refine Gx e (Fd P8 rfl)<|Gx e (Fd Hp rfl)<|Gx e (Ld Hq rfl (Bc aa rfl))<|Gx e (v:=.bool (ceq u.value.num ((4618441417868443648,0):Nat×Nat))) (Run.ceq rfl rfl)<|Vp e<|Vm<|Bo a (fun g a=>?_) fun g a=>?_
 refine Gx g (Fd P9 rfl)<|Gx g (Ld CD rfl (Bc aa rfl))<|Gr g (.bool (u.moves==10))<|Vp g<|Vm<|Bo a (fun h a=>?_) fun h a=>?_
 refine Gx h (Fz L7 rfl)<|Gx h (Ld LE rfl (Bc aq rfl))<|Gr h (.bool (z.why==60))<|Vp h<|Vm<|Bo a (fun l a=>?_) fun l a=>?_
 refine Gx l (Fd P9 rfl)<|Gx l (Ld CD rfl (Bc aq rfl))<|Gr l (.bool (z.moves==9))<|Vp l<|Va (.bool (z.moves==9))<|AA<|⟨_,m,(z.moves==9),Pu,a,Rf⟩
 refine Pg l<|Pg l<|Pg l<|Vp l<|Va (.bool false)<|AA<|⟨_,m,false,Pu,a,Rf⟩
 refine Pg h<|Pg h<|Pg h<|Vp h<|Vm<|Pg rfl<|Pg rfl<|Pg rfl<|Vr (.bool false)<|Va (.bool false)<|AA<|⟨_,m,false,Pu,a,Rf⟩
 refine Pg g<|Pg g<|Pg g<|Vp g<|Vm<|Pg rfl<|Pg rfl<|Pg rfl<|Vr (.bool false)<|Vm<|Pg rfl<|Pg rfl<|Pg rfl<|Vr (.bool false)<|Va (.bool false)<|AA<|⟨_,m,false,Pu,a,Rf⟩
 refine Pg e<|Pg e<|Pg e<|Pg e<|Vp e<|Vm<|Pg rfl<|Pg rfl<|Pg rfl<|Vr (.bool false)<|Vm<|Pg rfl<|Pg rfl<|Pg rfl<|Vr (.bool false)<|Vm<|Pg rfl<|Pg rfl<|Pg rfl<|Vr (.bool false)<|Va (.bool false)<|AA<|⟨_,m,false,Pu,a,Rf⟩
 refine Pg d<|Pg d<|Pg d<|Pg d<|Vp d<|Vm<|Pg rfl<|Pg rfl<|Pg rfl<|Pg rfl<|Vr (.bool false)<|Vm<|Pg rfl<|Pg rfl<|Pg rfl<|Vr (.bool false)<|Vm<|Pg rfl<|Pg rfl<|Pg rfl<|Vr (.bool false)<|Vm<|Pg rfl<|Pg rfl<|Pg rfl<|Vr (.bool false)<|Va (.bool false)<|AA<|⟨_,m,false,Pu,a,Rf⟩
 refine Pg f<|Pg f<|Pg f<|Vp f<|Vm<|Pg rfl<|Pg rfl<|Pg rfl<|Pg rfl<|Vr (.bool false)<|Vm<|Pg rfl<|Pg rfl<|Pg rfl<|Pg rfl<|Vr (.bool false)<|Vm<|Pg rfl<|Pg rfl<|Pg rfl<|Vr (.bool false)<|Vm<|Pg rfl<|Pg rfl<|Pg rfl<|Vr (.bool false)<|Vm<|Pg rfl<|Pg rfl<|Pg rfl<|Vr (.bool false)<|Va (.bool false)<|AA<|⟨_,m,false,Pu,a,Rf⟩
 rintro _ au ⟨av,ag,ah,rfl,a,bz⟩
 rw [Gd] at a
 refine AW ?_
 obtain rfl:=AN a
 refine O1 B az rfl (.tmp rfl)<|⟨ag,rfl,Ho (T3 (T4 (T4 (Mo [20,21,22,23] a3) a8 bb ad ae) w p y ao) af ar bz) ax⟩
theorem TJ(c:Nat):Hj.Spec (Hj c):=lk0 (Rz c)
def G3.At(c:Col)(a:World)(f:AL→Bts→Option Int):Prop:=
 ∀{d e g h},f d g=some h→Cd.rep c.F a e d→
  Calls PG 94 #[Ag e,Sb g] a fun l m=>∃n,l=.returned (I h)∧AS [] c a n m
def G3.Spec(f:AL→Bts→Option Int):Prop:=
 ∀a c,G3.At a c f
theorem R0(p:Nat)(l:Col)(ad:World)(q:∀b,l b<10):G3.At l ad (G3 p):=by
 intro e az f r a ae
 rw [G3] at a
 obtain ⟨a1,a2,rfl,u⟩:=E1 (BN ae)
 refine Ay Tryz.func94 rfl Tryz.ntmps94 rfl fun B w a3=>Sr<|Ef<|BX l 20 rfl rfl fun y af ag ah m=>Va (I 0)<|AA<|AY<|Sr<|Va (I 0)<|AA<|Ad<|Bj (fun d ai n=>∃z g c,ai=Env.puts z [(1,Sb f),(2,Pt ag 0),(5,I c)]∧Ih e f d c=some r∧AS [] y af g n) p ?_ ?_
 exact ⟨_,y,0,Pu,a,Rf⟩
 rintro d _ n ⟨z,g,c,rfl,a,h⟩
 rcases d with _|d
 exact A6 a
 refine have a:J4 e f (Ih e f d) c=some r:=a; ?_
 obtain ⟨a4,aa⟩:∃s,s=Ih e f d:=⟨_,rfl⟩
 rw [←aa,J4] at a
 refine AY<|Sr<|Vm<|Vx (Fz EA rfl)<|have ab:=Bs ah h;Vx (Ld GP rfl (Bc ab rfl))<|have ac:=K2 AI u m h; ?_
 obtain ⟨a5,a6,aj⟩:=AR ac
 refine Vx (v:=I (e.funcs.length:Int)) (Ll DY aj)<|Vr (.bool (decide (c< (e.funcs.length:Int))))<|AA<|Cn a (fun ak a=>?_) fun ak a=>?_
 refine WC.skip<|AY<|Ad<|Sr<|Vx (Fz EA rfl)<|Vx (Ld GP rfl (Bc ab rfl))<|Vm<|Bi a fun al am a=>?_
 obtain ⟨an,ao,a7,ap,aq,ar,au,av,o⟩:=BG (κ:=AI) ac am
 replace o:A3 g n an (ao+c.toNat*11) ap:=o
 obtain ⟨a8,a9,rfl,aw,ax⟩:=DA av
 obtain ⟨ba,bb,rfl⟩:=AR aw
 obtain ⟨bc,bd,rfl⟩:=AR ax
 refine Vx (Ix DY aq rfl ar au)<|Vx (Fz L9 rfl)<|Vx (Ld CS rfl (A3.cell0 o rfl))<|Vm<|Vx (v:=.bool (al.name==f)) (Run.strEq rfl rfl)<|AA<|Cn a (fun ay a=>?_) fun ay a=>?_
 refine Sr<|Vm<|Va (I c)<|AA<|AW ?_
 obtain rfl:=AN a
 refine O1 B w rfl (.tmp rfl)<|⟨g,rfl,Ho (Tn (Mo [] m) h) q⟩
 refine WC.skip<|AM<|Vm<|Vr (I (Wr (c+1)))<|Va (I (Wr (c+1)))<|AA<|⟨d,Nat.lt_succ_self d,_,g,(Wr (c+1)),Pu,(aa▸a),(Mo [] h)⟩
 refine BZ<|Sr<|Va (I (-1:Int))<|AA<|AW ?_
 obtain rfl:=AN a
 refine O1 B w rfl (.tmp rfl)<|⟨g,rfl,Ho (Tn (Mo [] m) h) q⟩
theorem Ox(c:Nat):G3.Spec (G3 c):=lk0 (R0 c)
def It.At(c:Col)(a:World)(f:(List Bts)→Bts→Option Bool):Prop:=
 ∀{d v0 e g},f d e=some g→Slc DK c.F a v0 d→
  Calls PG 20 #[v0,Sb e] a fun h l=>∃m,h=.returned (.bool g)∧AS [] c a m l
def It.Spec(f:(List Bts)→Bts→Option Bool):Prop:=
 ∀a c,It.At a c f
theorem UK(o:Nat)(h:Col)(p:World)(q:∀b,h b<10):It.At h p (It o):=by
 intro e v0 f r a u
 rw [It] at a
 obtain ⟨ad,ae,rfl⟩:=AR u
 refine Ay Tryz.func20 rfl Tryz.ntmps20 rfl fun B w aq=>Sr<|Va (.bool false)<|AA<|AY<|Sr<|Va (I 0)<|AA<|Ad<|Bj (fun d af m=>∃y g c,af=Env.puts y [(0,Sl ad e ae),(1,Sb f),(5,I c)]∧Jv e f d c=some r∧AS [] h p g m) o ?_ ?_
 exact ⟨_,h,0,Pu,a,Rf⟩
 rintro d _ m ⟨y,g,c,rfl,a,l⟩
 rcases d with _|d
 exact A6 a
 refine have a:Kw e f (Jv e f d) c=some r:=a; ?_
 obtain ⟨ar,z⟩:∃s,s=Jv e f d:=⟨_,rfl⟩
 rw [←z,Kw] at a
 refine AY<|Sr<|Vm<|Vm<|have aa:=Ss DK u l; ?_
 obtain ⟨au,av,ag⟩:=AR aa
 refine Vx (v:=I (e.length:Int)) (Ll H8 ag)<|Vr (.bool (decide (c< (e.length:Int))))<|AA<|Cn a (fun ah a=>?_) fun ah a=>?_
 refine WC.skip<|AY<|Ad<|Sr<|Vm<|Vm<|Bi a fun ab ai a=>?_
 obtain ⟨aj,ak,aw,ac,al,am,an,ao,n⟩:=BG (κ:=DK) aa ai
 replace n:A3 g m aj (ak+c.toNat*1) ac:=n
 obtain rfl:=(show ac=[Sb ab] from ao)
 refine Vx (Ix H8 al rfl am an)<|Vx (Ld CS rfl (A3.cell0 n rfl))<|Vm<|Vx (v:=.bool (ab==f)) (Run.strEq rfl rfl)<|AA<|Cn a (fun ap a=>?_) fun ap a=>?_
 refine Sr<|Va (.bool true)<|AA<|AW ?_
 obtain rfl:=AN a
 refine O1 B w rfl (.tmp rfl)<|⟨g,rfl,Ho (Mo [] l) q⟩
 refine WC.skip<|AM<|Vm<|Vr (I (Wr (c+1)))<|Va (I (Wr (c+1)))<|AA<|⟨d,Nat.lt_succ_self d,_,g,(Wr (c+1)),Pu,(z▸a),(Mo [] l)⟩
 refine BZ<|Sr<|Va (.bool false)<|AA<|AW ?_
 obtain rfl:=AN a
 refine O1 B w rfl (.tmp rfl)<|⟨g,rfl,Ho (Mo [] l) q⟩
theorem QL(c:Nat):It.Spec (It c):=lk0 (UK c)
def IN.At(c:Col)(a:World)(f:AB→Int→Option (List Bts)):Prop:=
 ∀{d e g h},f d g=some h→AJ.rep c.F a e d→
  Calls PG 127 #[Ag e,I g] a fun o l=>∃m n,o=.returned n∧AS [] c a m l∧Slc DK m.F l n h
def IN.Spec(f:AB→Int→Option (List Bts)):Prop:=
 ∀a c,IN.At a c f
theorem R1(p:Col)(ah:World)(q:∀b,p b<10):IN.At p ah IN:=by
 intro c a8 d ad a ai
 rw [IN] at a
 obtain ⟨ba,bb,rfl,aj⟩:=E1 (Ai ai)
 refine Ay Tryz.func127 rfl Tryz.ntmps127 rfl fun B r bc=>Sr<|Ef<|BX p 20 rfl rfl fun n ak ae l s=>Va (.slice none 0 0)<|AA<|AY<|Ad<|An (fun u w=>∃m g y,u=Env.puts m [(1,I d),(2,Pt ae 0),(5,.bool y)]∧KT c d y=some ad∧AS [] n ak g w) ?_ ?_
 refine Sr<|Vx (Fz DW rfl)<|Vx (Ld Hr rfl (Bc l rfl))<|Vr (.bool (c.op==21))<|Va (.bool (c.op==21))<|AA<|Cn a (fun al a=>?_) fun al a=>?_
 refine WC.skip<|⟨_,n,(c.op==21),Pu,a,Rf⟩
 refine AM<|Vx (Fz DW rfl)<|Vx (Ld Hr rfl (Bc l rfl))<|Vr (.bool (c.op==22))<|Vm<|Bo a (fun e a=>?_) fun e a=>?_
 refine Gm e<|Gr e (.bool (d==1))<|Vp e<|Va (.bool (d==1))<|AA<|⟨_,n,(d==1),Pu,a,Rf⟩
 refine Pg e<|Pg e<|Vp e<|Va (.bool false)<|AA<|⟨_,n,false,Pu,a,Rf⟩
 rintro _ w ⟨m,g,y,rfl,a,h⟩
 rw [KT] at a
 refine Cn a (fun am a=>?_) fun am a=>?_
 refine Sr<|Vx (Fd EV rfl)<|have an:=Bs l h;Vx (Ld CS rfl (Bc an rfl))<|Ef<|Bf (cs:=[Sb c.name]) g 21 [[Sb c.name]] H8 PV rfl rfl (.cons rfl rfl rfl .nil) rfl fun ao ap z aq ar=>have au:Own DK 9 ao ap 21 (.slice (some ⟨z,0,none⟩) 1 1) ([c.name]:List Bts):=Own.lit (css:=[[Sb c.name]]) aq rfl rfl rfl (AQ rfl Au) (Av rfl CP) rfl;Va (Sl (some ⟨z,0,none⟩) (([c.name]:List Bts)) 1)<|AA<|AW ?_
 obtain ⟨av,aw,ax⟩:=Own.freeze (S:=[21]) au dcd dcd
 obtain rfl:=AN a
 refine O1 B r rfl (.tmp rfl)<|⟨av,Sl (some ⟨z,0,none⟩) (([c.name]:List Bts)) 1,rfl,Ho (T3 (Mo [21] s) h ar aw) q,ax⟩
 refine An (fun u af=>∃m o aa,u=Env.puts m [(2,Pt ae 0),(19,.bool aa)]∧LZ c aa=some ad∧AS [] g w o af) ?_ ?_
 refine AM<|Vx (Fz DW rfl)<|have ay:=Bs l h;Vx (Ld Hr rfl (Bc ay rfl))<|Vr (.bool (c.op==20))<|Vm<|Bo a (fun f a=>?_) fun f a=>?_
 refine Gm f<|Gr f (.bool (d==2))<|Vp f<|Va (.bool (d==2))<|AA<|⟨_,g,(d==2),Pu,a,Rf⟩
 refine Pg f<|Pg f<|Vp f<|Va (.bool false)<|AA<|⟨_,g,false,Pu,a,Rf⟩
 rintro _ af ⟨m,o,aa,rfl,a,ab⟩
 rw [LZ] at a
 refine Cn a (fun az a=>?_) fun az a=>?_
 refine Sr<|Vx (Fd EV rfl)<|have ag:=Y2 l h ab;Vx (Ld CS rfl (Bc ag rfl))<|Vx (Fd NR rfl)<|Vx (Ld CS rfl (Bc ag rfl))<|Ef<|Bf (cs:=[Sb c.name,Sb c.tail]) o 22 [[Sb c.name],[Sb c.tail]] H8 PV rfl rfl (.cons rfl rfl rfl (.cons rfl rfl rfl .nil)) rfl fun a0 a1 ac a2 a3=>have a4:Own DK 9 a0 a1 22 (.slice (some ⟨ac,0,none⟩) 2 2) ([c.name,c.tail]:List Bts):=Own.lit (css:=[[Sb c.name],[Sb c.tail]]) a2 rfl rfl rfl (AQ rfl (AQ rfl Au)) (Av rfl (Av rfl CP)) rfl;Va (Sl (some ⟨ac,0,none⟩) (([c.name,c.tail]:List Bts)) 2)<|AA<|AW ?_
 obtain ⟨a5,a6,a7⟩:=Own.freeze (S:=[22]) a4 dcd dcd
 obtain rfl:=AN a
 refine O1 B r rfl (.tmp rfl)<|⟨a5,Sl (some ⟨ac,0,none⟩) (([c.name,c.tail]:List Bts)) 2,rfl,Ho (T4 (Mo [22] s) h ab a3 a6) q,a7⟩
 refine WC.skip<|Sr<|Va (.slice none 0 0)<|AA<|AW ?_
 obtain rfl:=AN a
 refine O1 B r rfl (.tmp rfl)<|⟨o,.slice none 0 0,rfl,Ho (T2 (Mo [] s) h ab) q,Bd⟩
theorem TK:IN.Spec IN:=lk0 (R1)
def Ii.At(c:Col)(a:World)(f:(List Bts)→(List Bts)→Option (List Bts)):Prop:=
 ∀{d v0 e g h},f d e=some h→Slc DK c.F a v0 d→Slc DK c.F a g e→
  Calls PG 44 #[v0,g] a fun o l=>∃m n,o=.returned n∧AS [] c a m l∧Slc DK m.F l n h
def Ii.Spec(f:(List Bts)→(List Bts)→Option (List Bts)):Prop:=
 ∀a c,Ii.At a c f
theorem TL(c:Col)(e:World)(s:∀b,c b<10):Ii.At c e Ii:=by
 intro d v0 f ae af a g h
 rw [Ii] at a
 obtain ⟨ag,ah,rfl⟩:=AR g
 obtain ⟨ai,aj,rfl⟩:=AR h
 refine Ay Tryz.func44 rfl Tryz.ntmps44 rfl fun B u ak=>Sr<|Va (.slice none 0 0)<|AA<|Sr<|Va (.slice none 0 0)<|AA<|Sr<|Vm<|Vm<|Bi a fun al l a=>Ef<|Az (κ:=DK) rfl rfl (Own.nil:Own DK 9 c e 20 _ _) dcd Ux (Cl g) (CF l) (CK l) fun am an ao m n=>?_
 obtain ⟨w,y,rfl⟩:=Own.len m
 refine Va (Sl w ((([]:List Bts)++d)) y)<|AA<|Sr<|Vm<|Vm<|have z:=Ss DK h n;Bi a fun ap o a=>Ef<|Az (κ:=DK) rfl rfl m dcd Ux (Cl z) (CF o) (CK o) fun aq ar au p aa=>?_
 obtain ⟨q,r,rfl⟩:=Own.len p
 refine Va (Sl q (((([]:List Bts)++d)++f)) r)<|AA<|AW ?_
 obtain ⟨ab,ac,ad⟩:=Own.freeze (S:=[20]) p dcd dcd
 obtain rfl:=AN a
 refine O1 B u rfl (.tmp rfl)<|⟨ab,Sl q (((([]:List Bts)++d)++f)) r,rfl,Ho (T2 (Mo [20] n) aa ac) s,ad⟩
theorem UL:Ii.Spec Ii:=lk0 (TL)
def ref06_seen.At(c:Col)(a:World)(f:AB→(List Bts)→Option (List A7)):Prop:=
 ∀{d e g h l},f d g=some l→AJ.rep c.F a e d→Slc DK c.F a h g→
  Calls PG 95 #[Ag e,h] a fun p m=>∃n o,p=.returned o∧AS [] c a n m∧Slc F1 n.F m o l
def ref06_seen.Spec(f:AB→(List Bts)→Option (List A7)):Prop:=
 ∀a c,ref06_seen.At a c f
structure BT.Good(a:BT):Prop where
 ref06_seen:ref06_seen.Spec a.ref06_seen
theorem TM(r:BT)(af:Nat)(cb:BT.Good r)(a2:Col)(cc:World)(cd:∀b,a2 b<10):ref06_seen.At a2 cc (Kj r af):=by
 intro a du m dv an c cf a3
 rw [Kj] at c
 obtain ⟨g,h,rfl,ao⟩:=E1 (Ai cf)
 obtain ⟨z,aa,rfl⟩:=AR a3
 refine Ay Tryz.func95 rfl Tryz.ntmps95 rfl fun B cg d=>Sr<|Ef<|BX a2 20 rfl rfl fun ap bb a4 aq ab=>Va (.slice none 0 0)<|AA<|Sr<|Va (.slice none 0 0)<|AA<|An (fun ag ar=>∃u ah ac au av,ag=Env.puts u [(1,Sl z m aa),(2,Pt a4 0),(5,Sl au ac av)]∧JH r af a m ac=some an∧AS [22] ap bb ah ar∧Own F1 184 ah ar 22 (Sl au ac av) ac) ?_ ?_
 refine An (fun ag bc=>∃u ad a5,ag=Env.puts u [(1,Sl z m aa),(2,Pt a4 0),(5,.slice none 0 0),(16,.bool a5)]∧Kx r af a m a5=some an∧AS [] ap bb ad bc) ?_ ?_
 refine AM<|Vx (Fz DW rfl)<|Vx (Ld Hr rfl (Bc aq rfl))<|Vr (.bool (a.op==6))<|Vm<|Bo c (fun q c=>?_) fun q c=>?_
 refine Pg q<|Pg q<|Pg q<|Vp q<|AA<|⟨_,ap,true,Pu,c,Rf⟩
 refine Gx q (Fz DW rfl)<|Gx q (Ld Hr rfl (Bc aq rfl))<|Gr q (.bool (a.op==7))<|Vp q<|AA<|⟨_,ap,(a.op==7),Pu,c,Rf⟩
 rintro _ bc ⟨u,ad,a5,rfl,c,y⟩
 rw [Kx] at c
 refine Cn c (fun ch c=>?_) fun ch c=>?_
 refine B8 Eg (qs 0 9 (.one 9 (qs 10 3 (.one 13 (.one 14 (.q 15 .nil)))))) [] [22] ad (by kernel_rfl) fun ci ae=>Qx d rfl (v:=.slice none 0 0) (fun _ _=>Mv rfl)<|have a6:=Y2 aq y ae;Qx d rfl (fun _ ⟨_,e⟩=>Lx BA rfl rfl (Bw (Bs a6 e)))<|Qx d rfl (fun _ _=>Fz DW rfl)<|Qx d rfl (fun _ ⟨_,e⟩=>Ld Hr rfl (Bc (Bs a6 e) rfl))<|Qx d rfl (v:=.bool (a.op==6)) (fun _ _=>rfl)<|Qx d rfl (v:=.bool (a.op==6)) (fun _ _=>Mv rfl)<|Bo c (fun l c=>?_) fun l c=>?_
 refine Qg d rfl l (v:=Sl z m aa) (fun _ _=>Mv rfl)<|Qg d rfl l (fun _ _=>Fd EV rfl)<|Qg d rfl l (fun _ ⟨_,e⟩=>Ld CS rfl (Bc (Bs a6 e) rfl))<|A5 rfl<|have cj:=K3 DK a3 ab y ae;Bi c fun n ck c=>BM rfl (.guard (t:=true) (b:=true) rfl rfl rfl rfl (Cb l)) rfl rfl (Cg [Sl z m aa,Sb a.name] rfl)<|Calls.mono (QL af ad ci ck cj) ?_
 rintro _ dx ⟨cl,rfl,ai⟩
 refine ⟨_,rfl,⟨_,(Mo [22] ai)⟩,?_⟩
 refine Qg d rfl l (v:=.bool (!n)) (fun _ _=>rfl)<|Qx d rfl (v:=.bool (!n)) (fun _ _=>(Pk l))<|Qx d rfl (v:=Ag [I a.op,Sb a.name,Sb a.tail,I a.type_,Cx a.num,Sl g a.args h,I a.at_,.bool (!n)]) (fun _ _=>Bv (cs:=[I a.op,Sb a.name,Sb a.tail,I a.type_,Cx a.num,Sl g a.args h,I a.at_,.bool (!n)]) [I 0,Sb ([]:Bts),Sb ([]:Bts),I 0,Cx (((0,0):Nat×Nat)),.slice none 0 0,I 0,.bool false] SE W9 rfl (.cons rfl rfl rfl (.cons rfl rfl rfl .nil)) rfl rfl)<|A5 rfl<|Aw rfl (.none rfl) rfl rfl<|Bf (cs:=[I a.op,Sb a.name,Sb a.tail,I a.type_,Cx a.num,Sl g a.args h,I a.at_,.bool (!n)]) cl 21 [[I a.op,Sb a.name,Sb a.tail,I a.type_,Cx a.num,Sl g a.args h,I a.at_,.bool (!n)]] QC SE rfl rfl (.cons rfl rfl rfl .nil) rfl fun bd be cm cn aw=>have co:=Ss AJ (K4 AJ ao ab y ae ai) aw;have cq:Own F1 184 bd be 21 (.slice (some ⟨cm,0,none⟩) 1 1) ([(A7.mk a (!n))]:List A7):=Own.lit (css:=[[I a.op,Sb a.name,Sb a.tail,I a.type_,Cx a.num,Sl g a.args h,I a.at_,.bool (!n)]]) cn rfl rfl rfl (AQ (PU (x:=(A7.mk a (!n))) co) Au) (Av rfl CP) rfl;⟨⟨_,(Tn (Mo [22] ai) aw)⟩,?_⟩
 refine A5 rfl<|Bi c fun dy bf c=>Aw rfl (.none rfl) rfl rfl<|Az (κ:=F1) rfl rfl (Own.nil:Own F1 184 bd be 22 _ _) dcd Uw (BL cq) (CF bf) (CK bf) fun dz cr d0 bg bh=>?_
 obtain ⟨bi,bj,rfl⟩:=Own.len bg
 refine ⟨⟨_,(T2 (Mo [22] ai) aw bh)⟩,?_⟩
 refine Qx d rfl (v:=Sl bi ((([]:List A7)++([(A7.mk a (!n))]:List A7))) bj) (fun _ _=>Run.assign rfl)<|Dt<|⟨_,cr,(([]:List A7)++([(A7.mk a (!n))]:List A7)),bi,bj,Pu,c,(T4 (Mo [22] y) ae ai aw bh),bg⟩
 refine Qp d rfl l<|Qp d rfl l<|Qp d rfl l<|A5 rfl<|O8 rfl (.guard (t:=false) (b:=true) rfl rfl rfl rfl (Cb l)) rfl rfl<|⟨⟨_,(AS.refl [22] _ _)⟩,?_⟩
 refine Qp d rfl l<|Qx d rfl (v:=.bool false) (fun _ _=>(Pk l))<|Qx d rfl (v:=Ag [I a.op,Sb a.name,Sb a.tail,I a.type_,Cx a.num,Sl g a.args h,I a.at_,.bool false]) (fun _ _=>Bv (cs:=[I a.op,Sb a.name,Sb a.tail,I a.type_,Cx a.num,Sl g a.args h,I a.at_,.bool false]) [I 0,Sb ([]:Bts),Sb ([]:Bts),I 0,Cx (((0,0):Nat×Nat)),.slice none 0 0,I 0,.bool false] SE W9 rfl (.cons rfl rfl rfl (.cons rfl rfl rfl .nil)) rfl rfl)<|A5 rfl<|Aw rfl (.none rfl) rfl rfl<|Bf (cs:=[I a.op,Sb a.name,Sb a.tail,I a.type_,Cx a.num,Sl g a.args h,I a.at_,.bool false]) ad 21 [[I a.op,Sb a.name,Sb a.tail,I a.type_,Cx a.num,Sl g a.args h,I a.at_,.bool false]] QC SE rfl rfl (.cons rfl rfl rfl .nil) rfl fun bk bl ct cu ax=>have cv:=K4 AJ ao ab y ae ax;have cw:Own F1 184 bk bl 21 (.slice (some ⟨ct,0,none⟩) 1 1) ([(A7.mk a false)]:List A7):=Own.lit (css:=[[I a.op,Sb a.name,Sb a.tail,I a.type_,Cx a.num,Sl g a.args h,I a.at_,.bool false]]) cu rfl rfl rfl (AQ (PU (x:=(A7.mk a false)) cv) Au) (Av rfl CP) rfl;⟨⟨_,(Mo [22] ax)⟩,?_⟩
 refine A5 rfl<|Bi c fun d1 bm c=>Aw rfl (.none rfl) rfl rfl<|Az (κ:=F1) rfl rfl (Own.nil:Own F1 184 bk bl 22 _ _) dcd Uw (BL cw) (CF bm) (CK bm) fun d2 cx d3 bn bo=>?_
 obtain ⟨bp,bq,rfl⟩:=Own.len bn
 refine ⟨⟨_,(Tn (Mo [22] ax) bo)⟩,?_⟩
 refine Qx d rfl (v:=Sl bp ((([]:List A7)++([(A7.mk a false)]:List A7))) bq) (fun _ _=>Run.assign rfl)<|Dt<|⟨_,cx,(([]:List A7)++([(A7.mk a false)]:List A7)),bp,bq,Pu,c,(T3 (Mo [22] y) ae ax bo),bn⟩
 refine WC.skip<|⟨_,ad,([]:List A7),none,0,Pu,c,(Mo [22] y),Own.nil⟩
 rintro _ ar ⟨u,ah,ac,au,av,rfl,c,ay,cy⟩
 rw [JH] at c
 refine AY<|Sr<|Va (I 0)<|AA<|Ad<|Bj (fun w ag az=>∃u a0 o aj ak p,ag=Env.puts u [(1,Sl z m aa),(2,Pt a4 0),(5,Sl aj o ak),(6,I p)]∧IP r a m w o p=some an∧AS [22] ah ar a0 az∧Own F1 184 a0 az 22 (Sl aj o ak) o) af ?_ ?_
 exact ⟨_,ah,ac,au,av,0,Pu,c,(AS.refl [22] _ _),cy⟩
 rintro w _ az ⟨u,a0,o,aj,ak,p,rfl,c,al,br⟩
 rcases w with _|w
 exact A6 c
 refine have c:Ij r a m (IP r a m w) o p=some an:=c; ?_
 obtain ⟨d4,bt⟩:∃s,s=IP r a m w:=⟨_,rfl⟩
 rw [←bt,Ij] at c
 refine AY<|Sr<|Vm<|Vx (Fd Bh rfl)<|have a7:=Y2 aq ay al;Vx (Ld EC rfl (Bc a7 rfl))<|have a8:=K3 AJ ao ab ay al; ?_
 obtain ⟨d5,d6,cz⟩:=AR a8
 refine Vx (v:=I (a.args.length:Int)) (Ll C9 cz)<|Vr (.bool (decide (p< (a.args.length:Int))))<|AA<|Cn c (fun c0 c=>?_) fun c0 c=>?_
 refine WC.skip<|AY<|Ad<|Sr<|Vm<|Vx (Lx BA rfl rfl (Bw a7))<|Vm<|Bi c fun c1 c2 c=>Ca (Cg [Ag [I a.op,Sb a.name,Sb a.tail,I a.type_,Cx a.num,Sl g a.args h,I a.at_],I p] rfl) (TK a0 az c2 (Ab (x:=a) a8)) ?_
 rintro _ c3 ⟨c4,d7,rfl,am,bu⟩
 obtain ⟨c5,c6,rfl⟩:=AR bu
 refine have c7:=K4 DK a3 ab ay al am;Bi c fun bv c8 c=>Ca (Cg [Sl z m aa,Sl c5 c1 c6] rfl) (UL c4 c3 c8 c7 bu) ?_
 rintro _ bw ⟨bx,d8,rfl,a1,bz⟩
 obtain ⟨b0,b1,rfl⟩:=AR bz
 refine Va (Sl b0 bv b1)<|AA<|Sr<|Vx (Fd Bh rfl)<|have c9:=Y2 a7 am a1;Vx (Ld EC rfl (Bc c9 rfl))<|Vm<|Bi c fun f da c=>have db:=K2 AJ a8 am a1; ?_
 obtain ⟨dc,de,d9,df,dg,dh,di,dj,a9⟩:=BG (κ:=AJ) db da
 replace a9:A3 bx bw dc (de+p.toNat*7) df:=a9
 obtain ⟨b3,b4,rfl,b2⟩:=E1 (Ai dj)
 refine Vx (Ix C9 dg rfl dh di)<|Vx (Lx BA rfl rfl (A3.part0 a9 [I f.op,Sb f.name,Sb f.tail,I f.type_,Cx f.num,Sl b3 f.args b4,I f.at_] rfl))<|Vm<|Bi c fun ba dk c=>Ca (Cg [Ag [I f.op,Sb f.name,Sb f.tail,I f.type_,Cx f.num,Sl b3 f.args b4,I f.at_],Sl b0 bv b1] rfl) (cb.ref06_seen bx bw dk (Ab (x:=f) b2) bz) ?_
 rintro _ eb ⟨ec,ed,rfl,b5,b6⟩
 obtain ⟨dl,dm,rfl⟩:=AR b6
 refine Va (Sl dl ba dm)<|AA<|AM<|Vm<|Vm<|have dn:=Os (Os (Os br am) a1) b5;Bi c fun ee b7 c=>Ef<|Az (κ:=F1) rfl rfl dn dcd Uw (Cl b6) (CF b7) (CK b7) fun ef dp eg b8 dq=>?_
 obtain ⟨b9,ca,rfl⟩:=Own.len b8
 refine Va (Sl b9 ((o++ba)) ca)<|AA<|AM<|Vm<|Vr (I (Wr (p+1)))<|Va (I (Wr (p+1)))<|AA<|⟨w,Nat.lt_succ_self w,_,dp,(o++ba),b9,ca,(Wr (p+1)),Pu,(bt▸c),(T4 (Mo [22] al) am a1 b5 dq),b8⟩
 refine BZ<|Sr<|Vm<|Va (Sl aj o ak)<|AA<|AW ?_
 obtain ⟨dr,ds,dt⟩:=Own.freeze (S:=[22]) br dcd dcd
 obtain rfl:=AN c
 refine O1 B cg rfl (.tmp rfl)<|⟨dr,Sl aj o ak,rfl,Ho (T3 (Mo [22] ab) ay al ds) cd,dt⟩
theorem TN(a:BT)(d:Nat)(f:BT.Good a):ref06_seen.Spec (Kj a d):=lk0 (TM a d f)
theorem BT.good:∀a,BT.Good (BT.at a)
 |0=>⟨by intro c d;intros;(try intro _);intros;exact A6 (by assumption)⟩
 |n+1=>⟨TN _ n (BT.good n)⟩
theorem UM(a:Nat):ref06_seen.Spec (ref06_seen a):=(BT.good a).ref06_seen
def HQ.At(c:Col)(a:World)(f:AL→Option (List AF)):Prop:=
 ∀{d e g},f d=some g→Cd.rep c.F a e d→
  Calls PG 65 #[Ag e] a fun n h=>∃l m,n=.returned m∧AS [] c a l h∧Slc Am l.F h m g
def HQ.Spec(f:AL→Option (List AF)):Prop:=
 ∀a c,HQ.At a c f
theorem Q4(f:Nat)(cb:Col)(ej:World)(ek:∀b,cb b<10):HQ.At cb ej (HQ f):=by
 intro g ix y a el
 rw [HQ] at a
 obtain ⟨bk,bl,rfl,cu⟩:=E1 (BN el)
 refine Ay Tryz.func65 rfl Tryz.ntmps65 rfl fun B em q=>Sr<|Ef<|BX cb 20 rfl rfl fun cv en ao eo cw=>Va (.slice none 0 0)<|AA<|Sr<|Va (.slice none 0 0)<|AA<|AY<|Sr<|Va (I 0)<|AA<|Ad<|Bj (fun ai l bm=>∃h a4 r ar au e,l=Env.puts h [(1,Pt ao 0),(3,Sl ar r au),(4,I e)]∧ER f g ai r e=some y∧AS [21,23,26,27] cv en a4 bm∧Own Am 63 a4 bm 23 (Sl ar r au) r) f ?_ ?_
 exact ⟨_,cv,([]:List AF),none,0,0,Pu,a,(AS.refl [21,23,26,27] _ _),Own.nil⟩
 rintro ai _ bm ⟨h,a4,r,ar,au,e,rfl,a,bn,cc⟩
 rcases ai with _|ai
 exact A6 a
 refine have a:HH f g (ER f g ai) r e=some y:=a; ?_
 obtain ⟨ae,cx⟩:∃s,s=ER f g ai:=⟨_,rfl⟩
 rw [←cx,HH] at a
 refine AY<|Sr<|Vm<|Vx (Fz EA rfl)<|have bo:=Bs eo bn;Vx (Ld GP rfl (Bc bo rfl))<|have bp:=K2 AI cu cw bn; ?_
 obtain ⟨iz,i0,ep⟩:=AR bp
 refine Vx (v:=I (g.funcs.length:Int)) (Ll DY ep)<|Vr (.bool (decide (e< (g.funcs.length:Int))))<|AA<|Cn a (fun eq a=>?_) fun eq a=>?_
 refine WC.skip<|AY<|Ad<|Sr<|Vx (Fz EA rfl)<|Vx (Ld GP rfl (Bc bo rfl))<|Vm<|Bi a fun c er a=>?_
 obtain ⟨es,et,i1,eu,ew,ex,ey,ez,cd⟩:=BG (κ:=AI) bp er
 replace cd:A3 a4 bm es (et+e.toNat*11) eu:=cd
 obtain ⟨i2,i3,rfl,cy,cz⟩:=DA ez
 obtain ⟨e0,e1,rfl⟩:=AR cy
 obtain ⟨cf,cg,rfl⟩:=AR cz
 refine Vx (Ix DY ew rfl ex ey)<|Vx (Lx Lc rfl rfl (A3.part0 cd [Sb c.name,Sl e0 c.params e1,I c.type_,I c.body.op,Sb c.body.name,Sb c.body.tail,I c.body.type_,Cx c.body.num,Sl cf c.body.args cg,I c.body.at_,I c.at_] rfl))<|Ef<|AU a4 21 Fs rfl fun c0 i4 ch e2 af=>have e3:=Ss Aa cy af;have e4:=Ss AJ cz af;Eu<|St LD e2 rfl rfl rfl rfl fun c1 ci ag=>AA<|An (fun l bq=>∃h a5 av br bt,l=Env.puts h [(1,Pt ao 0),(3,Sl br av bt),(4,I e),(5,Pt ch 0)]∧Iv f g e ae c av=some y∧AS [23] c0 c1 a5 bq∧Own Am 63 a5 bq 23 (Sl br av bt) av) ?_ ?_
 refine Sr<|have e5:=Y2 bo af ag;Vx (Lx Gl rfl rfl (Bw e5))<|Vx (Fz L9 rfl)<|Vx (Ld CS rfl (Bc ci rfl))<|have e6:=K2 AI bp af ag;Bi a fun e7 e8 a=>Ca (Cg [Ag [Sl bk g.funcs bl],Sb c.name] rfl) (Ox f c0 c1 e8 (BH (x:=g) e6)) ?_
 rintro _ i5 ⟨c2,rfl,a6⟩
 refine Vm<|Vr (.bool (decide (e7<e)))<|AA<|Cn a (fun e9 a=>?_) fun e9 a=>?_
 refine AM<|Vm<|Vx (Fd Vo rfl)<|have fa:=Bs ci a6;Vx (Ld CD rfl (Bc fa rfl))<|Vx (v:=Ag [I 30,I c.at_]) (Bp E3 MF rfl (.cons rfl rfl rfl (.cons rfl rfl rfl .nil)))<|Ef<|Bf (cs:=[I 30,I c.at_]) c2 22 [[I 30,I c.at_]] M2 E3 rfl rfl (.cons rfl rfl rfl .nil) rfl fun fb fc fd fe c3=>have ff:Own Am 63 fb fc 22 (.slice (some ⟨fd,0,none⟩) 1 1) ([(AF.mk 30 c.at_)]:List AF):=Own.lit (css:=[[I 30,I c.at_]]) fe rfl rfl rfl (AQ (Ah (x:=(AF.mk 30 c.at_))) Au) (Av rfl CP) rfl;have fg:=Os (Os (Os (Os cc af) ag) a6) c3;Bi a fun i6 c4 a=>Ef<|Az (κ:=Am) rfl rfl fg dcd P7 (BL ff) (CF c4) (CK c4) fun i7 fh i8 c5 fi=>?_
 obtain ⟨c6,c7,rfl⟩:=Own.len c5
 refine Va (Sl c6 ((r++([(AF.mk 30 c.at_)]:List AF))) c7)<|AA<|⟨_,fh,(r++([(AF.mk 30 c.at_)]:List AF)),c6,c7,Pu,a,(T2 (Mo [23] a6) c3 fi),c5⟩
 refine WC.skip<|have fj:=Os (Os (Os cc af) ag) a6;⟨_,c2,r,ar,au,Pu,a,(Mo [23] a6),fj⟩
 rintro _ bq ⟨h,a5,av,br,bt,rfl,a,aw,fk⟩
 rw [Iv] at a
 refine Sr<|Va (.slice none 0 0)<|AA<|AY<|Sr<|Va (I 0)<|AA<|Ad<|Bj (fun aj l ak=>∃h ax z a7 a8 o ay az p,l=Env.puts h [(1,Pt ao 0),(3,Sl a7 z a8),(4,I e),(5,Pt ch 0),(6,Sl ay o az),(7,I p)]∧EQ f g e ae c aj z o p=some y∧AS [23,26] a5 bq ax ak∧Own Am 63 ax ak 23 (Sl a7 z a8) z∧Own DK 9 ax ak 26 (Sl ay o az) o) f ?_ ?_
 exact ⟨_,a5,av,br,bt,([]:List Bts),none,0,0,Pu,a,(AS.refl [23,26] _ _),fk,Own.nil⟩
 rintro aj _ ak ⟨h,ax,z,a7,a8,o,ay,az,p,rfl,a,ap,cj,ck⟩
 rcases aj with _|aj
 exact A6 a
 refine have a:FP f g e ae c (EQ f g e ae c aj) z o p=some y:=a; ?_
 obtain ⟨fl,c8⟩:∃s,s=EQ f g e ae c aj:=⟨_,rfl⟩
 rw [←c8,FP] at a
 refine AY<|Sr<|Vm<|Vx (Fd Eh rfl)<|have a9:=Y2 ci aw ap;Vx (Ld E0 rfl (Bc a9 rfl))<|have cl:=K3 Aa e3 ag aw ap; ?_
 obtain ⟨i9,ja,fm⟩:=AR cl
 refine Vx (v:=I (c.params.length:Int)) (Ll ED fm)<|Vr (.bool (decide (p< (c.params.length:Int))))<|AA<|Cn a (fun fn a=>?_) fun fn a=>?_
 refine WC.skip<|AY<|Ad<|An (fun l bu=>∃h ba a0 bv bw,l=Env.puts h [(1,Pt ao 0),(3,Sl bv a0 bw),(4,I e),(5,Pt ch 0),(6,Sl ay o az),(7,I p)]∧Iu c o p fl a0=some y∧AS [23] ax ak ba bu∧Own Am 63 ba bu 23 (Sl bv a0 bw) a0) ?_ ?_
 refine Sr<|Vm<|Vx (Fd Eh rfl)<|Vx (Ld E0 rfl (Bc a9 rfl))<|Vm<|Bi a fun ah fo a=>?_
 obtain ⟨fp,fq,jb,fr,c9,da,db,fs,bx⟩:=BG (κ:=Aa) cl fo
 replace bx:A3 ax ak fp (fq+p.toNat*3) fr:=bx
 obtain rfl:=Fv fs
 refine Vx (Ix ED c9 rfl da db)<|Vx (Fz MA rfl)<|Vx (Ld CS rfl (A3.cell0 bx rfl)) ?_
 obtain ⟨ft,jc,fu,fv⟩:=Own.lend ck dcd
 refine Bi a fun jd fw a=>Ca (Cg [Sl ay o az,Sb ah.name] rfl) (QL f ft ak fw fu) ?_
 rintro _ je ⟨jf,rfl,fx⟩
 obtain ⟨dc,a1⟩:=fv [] _ _ fx dcd
 refine AA<|Cn a (fun fy a=>?_) fun fy a=>?_
 refine AM<|Vm<|Vx (Fd Eh rfl)<|have fz:=Bs a9 a1;Vx (Ld E0 rfl (Bc fz rfl))<|Vm<|Vx (Ix ED c9 rfl da db)<|Vx (Fd Vq rfl)<|have f0:=Es bx a1;Vx (Ld CD rfl (A3.cell (k:=2) f0 rfl))<|Vx (v:=Ag [I 30,I ah.at_]) (Bp E3 MF rfl (.cons rfl rfl rfl (.cons rfl rfl rfl .nil)))<|Ef<|Bf (cs:=[I 30,I ah.at_]) dc 24 [[I 30,I ah.at_]] M2 E3 rfl rfl (.cons rfl rfl rfl .nil) rfl fun f1 f2 f3 f4 de=>have f5:Own Am 63 f1 f2 24 (.slice (some ⟨f3,0,none⟩) 1 1) ([(AF.mk 30 ah.at_)]:List AF):=Own.lit (css:=[[I 30,I ah.at_]]) f4 rfl rfl rfl (AQ (Ah (x:=(AF.mk 30 ah.at_))) Au) (Av rfl CP) rfl;have f6:=Os (Os cj a1) de;Bi a fun jg df a=>Ef<|Az (κ:=Am) rfl rfl f6 dcd P7 (BL f5) (CF df) (CK df) fun jh f7 ji dg f8=>?_
 obtain ⟨dh,di,rfl⟩:=Own.len dg
 refine Va (Sl dh ((z++([(AF.mk 30 ah.at_)]:List AF))) di)<|AA<|⟨_,f7,(z++([(AF.mk 30 ah.at_)]:List AF)),dh,di,Pu,a,(T2 (Mo [23] a1) de f8),dg⟩
 refine WC.skip<|have f9:=Os cj a1;⟨_,dc,z,a7,a8,Pu,a,(Mo [23] a1),f9⟩
 rintro _ bu ⟨h,ba,a0,bv,bw,rfl,a,bz,ga⟩
 rw [Iu] at a
 refine AM<|Vm<|Vx (Fd Eh rfl)<|have gb:=Bs a9 bz;Vx (Ld E0 rfl (Bc gb rfl))<|Vm<|Bi a fun a2 gc a=>have gd:=Ss Aa cl bz; ?_
 obtain ⟨ge,gf,jj,gg,gh,gi,gj,gk,cm⟩:=BG (κ:=Aa) gd gc
 replace cm:A3 ba bu ge (gf+p.toNat*3) gg:=cm
 obtain rfl:=Fv gk
 refine Vx (Ix ED gh rfl gi gj)<|Vx (Fz MA rfl)<|Vx (Ld CS rfl (A3.cell0 cm rfl))<|Ef<|Bf (cs:=[Sb a2.name]) ba 25 [[Sb a2.name]] H8 PV rfl rfl (.cons rfl rfl rfl .nil) rfl fun gl gm gn go cn=>have gp:Own DK 9 gl gm 25 (.slice (some ⟨gn,0,none⟩) 1 1) ([a2.name]:List Bts):=Own.lit (css:=[[Sb a2.name]]) go rfl rfl rfl (AQ rfl Au) (Av rfl CP) rfl;have gq:=Os (Os ck bz) cn;Bi a fun jk dj a=>Ef<|Az (κ:=DK) rfl rfl gq dcd Ux (BL gp) (CF dj) (CK dj) fun jl gr jm dk dl=>?_
 obtain ⟨dm,dn,rfl⟩:=Own.len dk
 refine Va (Sl dm ((o++([a2.name]:List Bts))) dn)<|AA<|AM<|Vm<|Vr (I (Wr (p+1)))<|Va (I (Wr (p+1)))<|AA<|have gs:=Os (Os ga cn) dl;⟨aj,Nat.lt_succ_self aj,_,gr,a0,bv,bw,(o++([a2.name]:List Bts)),dm,dn,(Wr (p+1)),Pu,(c8▸a),(T3 (Mo [23,26] ap) bz cn dl),gs,dk⟩
 refine BZ<|Sr<|Vx (Fd Mb rfl)<|Vx (Lx BA rfl rfl (Bk.part a9 3 [I c.body.op,Sb c.body.name,Sb c.body.tail,I c.body.type_,Cx c.body.num,Sl cf c.body.args cg,I c.body.at_] rfl))<|Vm ?_
 obtain ⟨gt,bb,gu⟩:=Own.freeze (S:=[26]) ck dcd dcd
 refine have gv:=K4 AJ e4 ag aw ap bb;Bi a fun aa gw a=>Ca (Cg [Ag [I c.body.op,Sb c.body.name,Sb c.body.tail,I c.body.type_,Cx c.body.num,Sl cf c.body.args cg,I c.body.at_],Sl ay o az] rfl) (UM f gt ak gw (Ab (x:=(AB.mk c.body.op c.body.name c.body.tail c.body.type_ c.body.num c.body.args c.body.at_)) gv) gu) ?_
 rintro _ gx ⟨dp,jn,rfl,b0,dq⟩
 obtain ⟨b1,b2,rfl⟩:=AR dq
 refine Va (Sl b1 aa b2)<|AA<|Sr<|Va (I 0)<|AA<|Ad<|Bj (fun al l bc=>∃h aq ab bd be m,l=Env.puts h [(1,Pt ao 0),(3,Sl bd ab be),(4,I e),(8,Sl b1 aa b2),(9,I m)]∧D4 f g e ae aa al ab m=some y∧AS [23,27] dp gx aq bc∧Own Am 63 aq bc 23 (Sl bd ab be) ab) f ?_ ?_
 refine have gy:=Os (Os cj bb) b0;⟨_,dp,z,a7,a8,0,Pu,a,(AS.refl [23,27] _ _),gy⟩
 rintro al _ bc ⟨h,aq,ab,bd,be,m,rfl,a,bf,co⟩
 rcases al with _|al
 exact A6 a
 refine have a:FO f g e ae aa (D4 f g e ae aa al) ab m=some y:=a; ?_
 obtain ⟨dr,ds⟩:∃s,s=D4 f g e ae aa al:=⟨_,rfl⟩
 rw [←ds,FO] at a
 refine AY<|Sr<|Vm<|Vm<|have dt:=Ss F1 dq bf; ?_
 obtain ⟨jo,jp,gz⟩:=AR dt
 refine Vx (v:=I (aa.length:Int)) (Ll QC gz)<|Vr (.bool (decide (m< (aa.length:Int))))<|AA<|Cn a (fun g0 a=>?_) fun g0 a=>?_
 refine WC.skip<|An (fun l cq=>∃h b3 a3 b4 b5,l=Env.puts h [(1,Pt ao 0),(3,Sl b4 a3 b5),(4,I e),(8,Sl b1 aa b2),(9,I m)]∧Fx m dr a3=some y∧AS [23,27] aq bc b3 cq∧Own Am 63 b3 cq 23 (Sl b4 a3 b5) a3) ?_ ?_
 refine Ad<|Sr<|Vm<|Vm<|Bi a fun d g1 a=>?_
 obtain ⟨g2,g3,jq,g4,du,dv,dw,g5,b6⟩:=BG (κ:=F1) dt g1
 replace b6:A3 aq bc g2 (g3+m.toNat*8) g4:=b6
 obtain ⟨g6,g7,rfl,dx⟩:=E1 (Tp g5)
 refine Vx (Ix QC du rfl dv dw)<|Vx (Fz Xg rfl)<|Vx (Lx BA rfl rfl (A3.part0 b6 [I d.e.op,Sb d.e.name,Sb d.e.tail,I d.e.type_,Cx d.e.num,Sl g6 d.e.args g7,I d.e.at_] rfl))<|Ef<|AU aq 27 By rfl fun cr js g8 g9 ac=>have ha:=Ss AJ dx ac;Eu<|St CV g9 rfl rfl rfl rfl fun hb dy ad=>AA<|An (fun l b7=>∃h bg u bh bi,l=Env.puts h [(1,Pt ao 0),(3,Sl bh u bi),(4,I e),(8,Sl b1 aa b2),(9,I m),(10,Pt g8 0)]∧Fy f g m dr d u=some y∧AS [23] cr hb bg b7∧Own Am 63 bg b7 23 (Sl bh u bi) u) ?_ ?_
 refine Sr<|Vm<|Vm<|Vx (Ix QC du rfl dv dw)<|Vx (Fd Xh rfl)<|have hc:=Es (Es b6 ac) ad;Vx (Ld N2 rfl (A3.cell (k:=7) hc rfl))<|AA<|Cn a (fun hd a=>?_) fun hd a=>?_
 refine AM<|Vm<|Vx (Fd L8 rfl)<|Vx (Ld CD rfl (Bc dy rfl))<|Vx (v:=Ag [I 31,I d.e.at_]) (Bp E3 MF rfl (.cons rfl rfl rfl (.cons rfl rfl rfl .nil)))<|Ef<|Bf (cs:=[I 31,I d.e.at_]) cr 28 [[I 31,I d.e.at_]] M2 E3 rfl rfl (.cons rfl rfl rfl .nil) rfl fun he hf hg hh dz=>have hi:Own Am 63 he hf 28 (.slice (some ⟨hg,0,none⟩) 1 1) ([(AF.mk 31 d.e.at_)]:List AF):=Own.lit (css:=[[I 31,I d.e.at_]]) hh rfl rfl rfl (AQ (Ah (x:=(AF.mk 31 d.e.at_))) Au) (Av rfl CP) rfl;have hj:=Os (Os (Os co ac) ad) dz;Bi a fun jt d0 a=>Ef<|Az (κ:=Am) rfl rfl hj dcd P7 (BL hi) (CF d0) (CK d0) fun ju hk jv d1 hl=>?_
 obtain ⟨d2,d3,rfl⟩:=Own.len d1
 refine Va (Sl d2 ((ab++([(AF.mk 31 d.e.at_)]:List AF))) d3)<|AA<|⟨_,hk,(ab++([(AF.mk 31 d.e.at_)]:List AF)),d2,d3,Pu,a,(Tn (Mo [23] dz) hl),d1⟩
 refine WC.skip<|have hm:=Os (Os co ac) ad;⟨_,cr,ab,bd,be,Pu,a,(AS.refl [23] _ _),hm⟩
 rintro _ b7 ⟨h,bg,u,bh,bi,rfl,a,am,b8⟩
 rw [Fy] at a
 refine AY<|Sr<|Vx (Fz DW rfl)<|have b9:=Bs dy am;Vx (Ld Hr rfl (Bc b9 rfl))<|Vr (.bool (d.e.op != 7))<|AA<|Cn a (fun hn a=>?_) fun hn a=>?_
 refine BZ<|⟨_,bg,u,bh,bi,Pu,a,(T2 (Mo [23,27] ac) ad am),b8⟩
 refine WC.skip<|Sr<|have d4:=Y2 (Y4 (Y4 bo af ag aw ap) bb b0 bf ac) ad am;Vx (Lx Gl rfl rfl (Bw d4))<|Vx (Fd EV rfl)<|Vx (Ld CS rfl (Bc b9 rfl))<|have d5:=K2 AI (K4 AI (K4 AI bp af ag aw ap) bb b0 bf ac) ad am;Bi a fun ca ho a=>Ca (Cg [Ag [Sl bk g.funcs bl],Sb d.e.name] rfl) (Ox f bg b7 ho (BH (x:=g) d5)) ?_
 rintro _ jw ⟨bj,rfl,w⟩
 refine Va (I ca)<|AA<|Sr<|Vm<|Vr (.bool (decide (ca<0)))<|AA<|Cn a (fun hp a=>?_) fun hp a=>?_
 refine AM<|Vm<|Vx (Fd L8 rfl)<|have hq:=Bs b9 w;Vx (Ld CD rfl (Bc hq rfl))<|Vx (v:=Ag [I 32,I d.e.at_]) (Bp E3 MF rfl (.cons rfl rfl rfl (.cons rfl rfl rfl .nil)))<|Ef<|Bf (cs:=[I 32,I d.e.at_]) bj 29 [[I 32,I d.e.at_]] M2 E3 rfl rfl (.cons rfl rfl rfl .nil) rfl fun hr hs ht hu d6=>have hw:Own Am 63 hr hs 29 (.slice (some ⟨ht,0,none⟩) 1 1) ([(AF.mk 32 d.e.at_)]:List AF):=Own.lit (css:=[[I 32,I d.e.at_]]) hu rfl rfl rfl (AQ (Ah (x:=(AF.mk 32 d.e.at_))) Au) (Av rfl CP) rfl;have hx:=Os (Os b8 w) d6;Bi a fun jx d7 a=>Ef<|Az (κ:=Am) rfl rfl hx dcd P7 (BL hw) (CF d7) (CK d7) fun jy hy jz d8 hz=>?_
 obtain ⟨d9,ea,rfl⟩:=Own.len d8
 refine Va (Sl d9 ((u++([(AF.mk 32 d.e.at_)]:List AF))) ea)<|AA<|⟨_,hy,(u++([(AF.mk 32 d.e.at_)]:List AF)),d9,ea,Pu,a,(Tn (T4 (Mo [23,27] ac) ad am w d6) hz),d8⟩
 refine AY<|B8 Eg (qs 0 11 .nil) [] [] bj (by kernel_rfl) fun h0 an=>Qx q rfl (fun _ _=>Fz EA rfl)<|have h1:=Y2 d4 w an;Qx q rfl (fun _ ⟨_,n⟩=>Ld GP rfl (Bc (Bs h1 n) rfl))<|Qx q rfl (v:=I ca) (fun _ _=>Mv rfl)<|Bi a fun eb h2 a=>have h3:=K2 AI d5 w an; ?_
 obtain ⟨h4,h5,j0,h6,h7,h8,h9,ia,ct⟩:=BG (κ:=AI) h3 h2
 replace ct:A3 bj h0 h4 (h5+ca.toNat*11) h6:=ct
 obtain ⟨j1,j2,rfl,ec,ib⟩:=DA ia
 obtain ⟨j3,j4,rfl⟩:=AR ec
 obtain ⟨j5,j6,rfl⟩:=AR ib
 refine Qx q rfl (fun _ _=>Ix DY h7 rfl h8 h9)<|Qx q rfl (fun _ _=>Fd Eh rfl)<|Qx q rfl (fun _ ⟨_,n⟩=>Ld E0 rfl (A3.cell (k:=1) (Es ct n) rfl)) ?_
 obtain ⟨j7,j8,ic⟩:=AR ec
 refine Qx q rfl (v:=I (eb.params.length:Int)) (fun _ _=>Ll ED ic)<|Qx q rfl (fun _ _=>Fd Bh rfl)<|have ed:=Y2 b9 w an;Qx q rfl (fun _ ⟨_,n⟩=>Ld EC rfl (Bc (Bs ed n) rfl))<|have id:=K4 AJ ha ad am w an; ?_
 obtain ⟨j9,ka,ie⟩:=AR id
 refine Qx q rfl (v:=I (d.e.args.length:Int)) (fun _ _=>Ll C9 ie)<|Qx q rfl (v:=.bool ((eb.params.length:Int) != (d.e.args.length:Int))) (fun _ _=>rfl)<|Dt<|Cn a (fun ig a=>?_) fun ig a=>?_
 refine AM<|Vm<|Vx (Fd L8 rfl)<|Vx (Ld CD rfl (Bc ed rfl))<|Vx (v:=Ag [I 33,I d.e.at_]) (Bp E3 MF rfl (.cons rfl rfl rfl (.cons rfl rfl rfl .nil)))<|Ef<|Bf (cs:=[I 33,I d.e.at_]) bj 30 [[I 33,I d.e.at_]] M2 E3 rfl rfl (.cons rfl rfl rfl .nil) rfl fun ih ii ij ik ee=>have il:Own Am 63 ih ii 30 (.slice (some ⟨ij,0,none⟩) 1 1) ([(AF.mk 33 d.e.at_)]:List AF):=Own.lit (css:=[[I 33,I d.e.at_]]) ik rfl rfl rfl (AQ (Ah (x:=(AF.mk 33 d.e.at_))) Au) (Av rfl CP) rfl;have im:=Os (Os (Os b8 w) an) ee;Bi a fun kb ef a=>Ef<|Az (κ:=Am) rfl rfl im dcd P7 (BL il) (CF ef) (CK ef) fun kc io kd eg ip=>?_
 obtain ⟨eh,ei,rfl⟩:=Own.len eg
 refine Va (Sl eh ((u++([(AF.mk 33 d.e.at_)]:List AF))) ei)<|AA<|⟨_,io,(u++([(AF.mk 33 d.e.at_)]:List AF)),eh,ei,Pu,a,(T2 (T4 (Mo [23,27] ac) ad am w an) ee ip),eg⟩
 refine WC.skip<|have iq:=Os (Os b8 w) an;⟨_,bj,u,bh,bi,Pu,a,(T4 (Mo [23,27] ac) ad am w an),iq⟩
 rintro _ cq ⟨h,b3,a3,b4,b5,rfl,a,ir,it⟩
 rw [Fx] at a
 refine AM<|Vm<|Vr (I (Wr (m+1)))<|Va (I (Wr (m+1)))<|AA<|⟨al,Nat.lt_succ_self al,_,b3,a3,b4,b5,(Wr (m+1)),Pu,(ds▸a),(Tn (Mo [23,27] bf) ir),it⟩
 refine BZ<|AM<|Vm<|Vr (I (Wr (e+1)))<|Va (I (Wr (e+1)))<|AA<|⟨ai,Nat.lt_succ_self ai,_,aq,ab,bd,be,(Wr (e+1)),Pu,(cx▸a),(T3 (T4 (Mo [21,23,26,27] bn) af ag aw ap) bb b0 bf),co⟩
 refine BZ<|Sr<|Vm<|Va (Sl ar r au)<|AA<|AW ?_
 obtain ⟨iu,iv,iw⟩:=Own.freeze (S:=[23]) cc dcd dcd
 obtain rfl:=AN a
 refine O1 B em rfl (.tmp rfl)<|⟨iu,Sl ar r au,rfl,Ho (T2 (Mo [21,23,26,27] cw) bn iv) ek,iw⟩
theorem R2(c:Nat):HQ.Spec (HQ c):=lk0 (Q4 c)
def Hl.At(c:Col)(a:World)(f:AL→Option AF):Prop:=
 ∀{d e g},f d=some g→Cd.rep c.F a e d→
  Calls PG 40 #[Ag e] a fun n h=>∃l m,n=.returned (Ag m)∧AS [] c a l h∧Am.rep l.F h m g
def Hl.Spec(f:AL→Option AF):Prop:=
 ∀a c,Hl.At a c f
theorem R3(ai:Nat)(aj:Col)(a7:World)(a8:∀b,aj b<10):Hl.At aj a7 (Hl ai):=by
 intro ak ck aa a a9
 rw [Hl] at a
 obtain ⟨ay,az,rfl,ax⟩:=E1 (BN a9)
 refine Ay Tryz.func40 rfl Tryz.ntmps40 rfl fun B ba c=>Sr<|Ef<|BX aj 20 rfl rfl fun bb cm cn bc a0=>Ef<|AU bb 21 E3 rfl fun bd be al bf am=>AA<|Sr<|have bg:=Bs bc am;Vx (Lx Gl rfl rfl (Bw bg))<|have bh:=K2 AI ax a0 am;Bi a fun h bi a=>Ca (Cg [Ag [Sl ay ak.funcs az]] rfl) (R2 ai bd be bi (BH (x:=ak) bh)) ?_
 rintro _ co ⟨bj,s26,rfl,a1,a2⟩
 obtain ⟨p,q,rfl⟩:=AR a2
 refine Va (Sl p h q)<|AA<|Sr<|Ef<|AU bj 22 E3 rfl fun a3 bk r bl an=>AA<|AY<|Sr<|Va (I 0)<|AA<|Ad<|Bj (fun n u w=>∃o m f l g,u=Env.puts o [(2,Pt al 0),(3,Sl p h q),(4,Pt r 0),(5,I f)]∧Hk h n f l g=some aa∧AS [22] a3 bk m w∧Bk m w 22 r [I l,I g] 63) ai ?_ ?_
 exact ⟨_,a3,0,0,0,Pu,a,(AS.refl [22] _ _),bl⟩
 rintro n _ w ⟨o,m,f,l,g,rfl,a,ab,ac⟩
 rcases n with _|n
 exact A6 a
 refine have a:H5 h (Hk h n) f l g=some aa:=a; ?_
 obtain ⟨a4,a5⟩:∃s,s=Hk h n:=⟨_,rfl⟩
 rw [←a5,H5] at a
 refine AY<|Sr<|Vm<|Vm<|have ao:=K2 Am a2 an ab; ?_
 obtain ⟨cq,cr,bm⟩:=AR ao
 refine Vx (v:=I (h.length:Int)) (Ll M2 bm)<|Vr (.bool (decide (f< (h.length:Int))))<|AA<|Cn a (fun bn a=>?_) fun bn a=>?_
 refine WC.skip<|An (fun u ap=>∃o ad ae af,u=Env.puts o [(2,Pt al 0),(3,Sl p h q),(4,Pt r 0),(5,I f)]∧KU f a4 ae af=some aa∧AS [22] m w ad ap∧Bk ad ap 22 r [I ae,I af] 63) ?_ ?_
 refine Ad<|An (fun u aq=>∃o y ar,u=Env.puts o [(2,Pt al 0),(3,Sl p h q),(4,Pt r 0),(5,I f),(26,.bool ar)]∧KV h f l g a4 ar=some aa∧AS [] m w y aq) ?_ ?_
 refine B8 Eg (qs 0 13 .nil) [] [] m (by kernel_rfl) fun bo ag=>Qx c rfl (fun _ _=>Fz Mc rfl)<|have a6:=Bs ac ag;Qx c rfl (fun _ ⟨_,e⟩=>Ld LE rfl (Bc (Bs a6 e) rfl))<|Qx c rfl (v:=.bool (l==0)) (fun _ _=>rfl)<|Qx c rfl (v:=.bool (l==0)) (fun _ _=>Mv rfl)<|Bo a (fun d a=>?_) fun d a=>?_
 refine Qp c rfl d<|Qp c rfl d<|Qp c rfl d<|Qp c rfl d<|Qp c rfl d<|Qp c rfl d<|Qp c rfl d<|Qp c rfl d<|Qx c rfl (v:=.bool true) (fun _ _=>(Pk d))<|Dt<|⟨_,m,true,Pu,a,(Mo [] ag)⟩
 refine Qg c rfl d (v:=Sl p h q) (fun _ _=>Mv rfl)<|Qg c rfl d (v:=I f) (fun _ _=>Mv rfl)<|Bi a fun au bp a=>have bq:=Ss Am ao ag; ?_
 obtain ⟨br,bt,ct,bu,bv,bw,bx,bz,av⟩:=BG (κ:=Am) bq bp
 replace av:A3 m bo br (bt+f.toNat*2) bu:=av
 obtain rfl:=Aq bz
 refine Qg c rfl d (fun _ _=>Ix M2 bv rfl bw bx)<|Qg c rfl d (fun _ _=>Fd OY rfl)<|Qg c rfl d (fun _ ⟨_,e⟩=>Ld CD rfl (A3.cell (k:=1) (Es av e) rfl))<|Qg c rfl d (fun _ _=>Fd OY rfl)<|Qg c rfl d (fun _ ⟨_,e⟩=>Ld CD rfl (Bc (Bs a6 e) rfl))<|Qg c rfl d (v:=.bool (decide (au.at_<g))) (fun _ _=>rfl)<|Qx c rfl (v:=.bool (decide (au.at_<g))) (fun _ _=>(Pk d))<|Dt<|⟨_,m,(decide (au.at_<g)),Pu,a,(Mo [] ag)⟩
 rintro _ aq ⟨o,y,ar,rfl,a,z⟩
 rw [KV] at a
 refine Cn a (fun b0 a=>?_) fun b0 a=>?_
 refine AM<|Vm<|Vm<|Bi a fun ah b1 a=>have b2:=Ss Am ao z; ?_
 obtain ⟨b3,b4,cu,b5,b6,b7,b8,b9,aw⟩:=BG (κ:=Am) b2 b1
 replace aw:A3 y aq b3 (b4+f.toNat*2) b5:=aw
 obtain rfl:=Aq b9
 refine Vx (Ix M2 b6 rfl b7 b8)<|Vx (Lx KZ rfl rfl (A3.part0 aw [I ah.why,I ah.at_] rfl))<|have ca:=Bs ac z;Eu<|St G6 ca rfl rfl rfl rfl fun cv cb cc=>AA<|⟨_,y,ah.why,ah.at_,Pu,a,(Tn (Mo [22] z) cc),cb⟩
 refine WC.skip<|have cd:=Bs ac z;⟨_,y,l,g,Pu,a,(Mo [22] z),cd⟩
 rintro _ ap ⟨o,ad,ae,af,rfl,a,cf,cg⟩
 rw [KU] at a
 refine AM<|Vm<|Vr (I (Wr (f+1)))<|Va (I (Wr (f+1)))<|AA<|⟨n,Nat.lt_succ_self n,_,ad,(Wr (f+1)),ae,af,Pu,(a5▸a),(Tn (Mo [22] ab) cf),cg⟩
 refine BZ<|Sr<|Vx (Lx KZ rfl rfl (Bw ac))<|have ch:=Y3 bf a1 an ab;Eu<|St G6 ch rfl rfl rfl rfl fun cw ci cj=>AA<|AW ?_
 obtain rfl:=AN a
 refine O1 B ba rfl (.agg KZ rfl rfl (Bw ci))<|⟨m,[I l,I g],rfl,Ho (Tn (T4 (Mo [21,22] a0) am a1 an ab) cj) a8,(Ah (x:=(AF.mk l g)))⟩
theorem TO(c:Nat):Hl.Spec (Hl c):=lk0 (R3 c)
def Ey.At(d:Col)(a:World)(f:AL→Bts→Option (AE×Bool)):Prop:=
 ∀{e g h c},f e h=some c→Cd.rep d.F a g e→
  Calls PG 16 #[Ag g,Sb h] a fun o l=>∃m n,o=.returned (.tuple #[Ag n,.bool c.2])∧AS [] d a m l∧AI.rep m.F l n c.1
def Ey.Spec(f:AL→Bts→Option (AE×Bool)):Prop:=
 ∀a c,Ey.At a c f
theorem TP(ab:Nat)(o:Col)(aq:World)(ac:∀b,o b<10):Ey.At o aq (Ey ab):=by
 intro g bf h ad c ar
 rw [Ey] at c
 obtain ⟨bh,bi,rfl,ae⟩:=E1 (BN ar)
 refine Ay Tryz.func16 rfl Tryz.ntmps16 rfl fun B af bj=>Sr<|Ef<|BX o 20 rfl rfl fun au bk av aw p=>Ef<|AU au 21 Fs rfl fun ag ax ay ah m=>Va (.bool false)<|AA<|AY<|Sr<|Va (I 0)<|AA<|Ad<|Bj (fun e az q=>∃ai l d,az=Env.puts ai [(1,Sb h),(2,Pt av 0),(4,Pt ay 0),(6,I d)]∧JI g h e d=some ad∧AS [] ag ax l q) ab ?_ ?_
 exact ⟨_,ag,0,Pu,c,Rf⟩
 rintro e _ q ⟨ai,l,d,rfl,c,f⟩
 rcases e with _|e
 exact A6 c
 refine have c:KW g h (JI g h e) d=some ad:=c; ?_
 obtain ⟨bl,aj⟩:∃s,s=JI g h e:=⟨_,rfl⟩
 rw [←aj,KW] at c
 refine AY<|Sr<|Vm<|Vx (Fz EA rfl)<|have r:=Y2 aw m f;Vx (Ld GP rfl (Bc r rfl))<|have ak:=K3 AI ae p m f; ?_
 obtain ⟨bm,bn,a0⟩:=AR ak
 refine Vx (v:=I (g.funcs.length:Int)) (Ll DY a0)<|Vr (.bool (decide (d< (g.funcs.length:Int))))<|AA<|Cn c (fun a1 c=>?_) fun a1 c=>?_
 refine WC.skip<|AY<|Ad<|Sr<|Vx (Fz EA rfl)<|Vx (Ld GP rfl (Bc r rfl))<|Vm<|Bi c fun a a2 c=>?_
 obtain ⟨a3,a4,bo,a5,al,am,an,a6,n⟩:=BG (κ:=AI) ak a2
 replace n:A3 l q a3 (a4+d.toNat*11) a5:=n
 obtain ⟨s121,bp,rfl,ao,ap⟩:=DA a6
 obtain ⟨u,w,rfl⟩:=AR ao
 obtain ⟨y,z,rfl⟩:=AR ap
 refine Vx (Ix DY al rfl am an)<|Vx (Fz L9 rfl)<|Vx (Ld CS rfl (A3.cell0 n rfl))<|Vm<|Vx (v:=.bool (a.name==h)) (Run.strEq rfl rfl)<|AA<|Cn c (fun a7 c=>?_) fun a7 c=>?_
 refine Sr<|Vx (Fz EA rfl)<|Vx (Ld GP rfl (Bc r rfl))<|Vm<|Vx (Ix DY al rfl am an)<|Vx (Lx Lc rfl rfl (A3.part0 n [Sb a.name,Sl u a.params w,I a.type_,I a.body.op,Sb a.body.name,Sb a.body.tail,I a.body.type_,Cx a.body.num,Sl y a.body.args z,I a.body.at_,I a.at_] rfl))<|have a8:=Bs ah f;Eu<|St LD a8 rfl rfl rfl rfl fun bq a9 aa=>Va (.bool true)<|AA<|AW ?_
 obtain rfl:=AN c
 refine O2 B af rfl (.agg Lc rfl rfl (Bw a9)) (.tmp rfl)<|have ba:=Ss Aa ao aa;have bb:=Ss AJ ap aa;⟨l,[Sb a.name,Sl u a.params w,I a.type_,I a.body.op,Sb a.body.name,Sb a.body.tail,I a.body.type_,Cx a.body.num,Sl y a.body.args z,I a.body.at_,I a.at_],rfl,Ho (T3 (Mo [21] p) m f aa) ac,(Fa (x:=a) ba bb)⟩
 refine WC.skip<|AM<|Vm<|Vr (I (Wr (d+1)))<|Va (I (Wr (d+1)))<|AA<|⟨e,Nat.lt_succ_self e,_,l,(Wr (d+1)),Pu,(aj▸c),(Mo [] f)⟩
 refine BZ<|Sr<|Vx (v:=Ag [Sb ([]:Bts),.slice none 0 0,I 0,I 0,Sb ([]:Bts),Sb ([]:Bts),I 0,Cx (((0,0):Nat×Nat)),.slice none 0 0,I 0,I 0]) (Bp Fs Wm rfl .nil)<|have bc:=Bs ah f;Eu<|St LD bc rfl rfl rfl rfl fun br bd be=>Va (.bool false)<|AA<|AW ?_
 obtain rfl:=AN c
 refine O2 B af rfl (.agg Lc rfl rfl (Bw bd)) (.tmp rfl)<|⟨l,[Sb ([]:Bts),.slice none 0 0,I 0,I 0,Sb ([]:Bts),Sb ([]:Bts),I 0,Cx (((0,0):Nat×Nat)),.slice none 0 0,I 0,I 0],rfl,Ho (T3 (Mo [21] p) m f be) ac,(Fa (x:=(AE.mk ([]:Bts) [] 0 (AB.mk 0 ([]:Bts) ([]:Bts) 0 ((0,0):Nat×Nat) [] 0) 0)) Bd Bd)⟩
theorem NI(c:Nat):Ey.Spec (Ey c):=lk0 (TP c)
def Jg.At(c:Col)(a:World)(f:AL→(List AK)→AB→Option Int):Prop:=
 ∀{d e g h l m n},f d g l=some n→Cd.rep c.F a e d→Slc Aa c.F a h g→AJ.rep c.F a m l→
  Calls PG 66 #[Ag e,h,Ag m] a fun o p=>∃q,o=.returned (I n)∧AS [] c a q p
def Jg.Spec(f:AL→(List AK)→AB→Option Int):Prop:=
 ∀a c,Jg.At a c f
theorem UN(ae:Nat)(aw:Col)(bn:World)(q:∀b,aw b<10):Jg.At aw bn (Jg ae):=by
 intro af dc f de c df ag a bo a6 bp
 rw [Jg] at a
 obtain ⟨a8,a9,rfl,a7⟩:=E1 (BN bo)
 obtain ⟨aj,ak,rfl⟩:=AR a6
 obtain ⟨di,dj,rfl,ba⟩:=E1 (Ai bp)
 refine Ay Tryz.func66 rfl Tryz.ntmps66 rfl fun B r aa=>Sr<|Ef<|BX aw 20 rfl rfl fun bq dk ax br o=>Ef<|BX bq 21 rfl rfl fun u bt an ao n=>Va (I 0)<|AA<|AY<|Sr<|Vx (Fz DW rfl)<|Vx (Ld Hr rfl (Bc ao rfl))<|AA<|Ad<|An (fun w ay=>∃l y az,w=Env.puts l [(1,Sl aj f ak),(3,Pt ax 0),(5,Pt an 0),(11,I c.op),(12,.bool az)]∧FQ ae af f c az=some ag∧AS [] u bt y ay) ?_ ?_
 refine Sr<|Vr (.bool (c.op==1))<|Va (.bool (c.op==1))<|AA<|Cn a (fun bu a=>?_) fun bu a=>?_
 refine WC.skip<|⟨_,u,(c.op==1),Pu,a,Rf⟩
 refine Sr<|Vr (.bool (c.op==8))<|Va (.bool (c.op==8))<|AA<|Cn a (fun bv a=>?_) fun bv a=>?_
 refine WC.skip<|⟨_,u,(c.op==8),Pu,a,Rf⟩
 refine Sr<|Vr (.bool (c.op==9))<|Va (.bool (c.op==9))<|AA<|Cn a (fun bw a=>?_) fun bw a=>?_
 refine WC.skip<|⟨_,u,(c.op==9),Pu,a,Rf⟩
 refine Sr<|Vr (.bool (c.op==10))<|Va (.bool (c.op==10))<|AA<|Cn a (fun bx a=>?_) fun bx a=>?_
 refine WC.skip<|⟨_,u,(c.op==10),Pu,a,Rf⟩
 refine Sr<|Vr (.bool (c.op==11))<|Va (.bool (c.op==11))<|AA<|Cn a (fun bz a=>?_) fun bz a=>?_
 refine WC.skip<|⟨_,u,(c.op==11),Pu,a,Rf⟩
 refine Sr<|Vr (.bool (c.op==15))<|Va (.bool (c.op==15))<|AA<|Cn a (fun b0 a=>?_) fun b0 a=>?_
 refine WC.skip<|⟨_,u,(c.op==15),Pu,a,Rf⟩
 refine Sr<|Vr (.bool (c.op==16))<|Va (.bool (c.op==16))<|AA<|Cn a (fun b1 a=>?_) fun b1 a=>?_
 refine WC.skip<|⟨_,u,(c.op==16),Pu,a,Rf⟩
 refine AM<|Vr (.bool (c.op==17))<|Va (.bool (c.op==17))<|AA<|⟨_,u,(c.op==17),Pu,a,Rf⟩
 rintro _ ay ⟨l,y,az,rfl,a,g⟩
 rw [FQ] at a
 refine Cn a (fun b2 a=>?_) fun b2 a=>?_
 refine Sr<|Va (I 1)<|AA<|AW ?_
 obtain rfl:=AN a
 refine O1 B r rfl (.tmp rfl)<|⟨y,rfl,Ho (T2 (Mo [] o) n g) q⟩
 refine An (fun w a0=>∃l ah a1,w=Env.puts l [(1,Sl aj f ak),(3,Pt ax 0),(5,Pt an 0),(11,I c.op),(21,.bool a1)]∧IF ae af f c a1=some ag∧AS [] y ay ah a0) ?_ ?_
 refine Sr<|Vr (.bool (c.op==2))<|Va (.bool (c.op==2))<|AA<|Cn a (fun b3 a=>?_) fun b3 a=>?_
 refine WC.skip<|⟨_,y,(c.op==2),Pu,a,Rf⟩
 refine Sr<|Vr (.bool (c.op==3))<|Va (.bool (c.op==3))<|AA<|Cn a (fun b4 a=>?_) fun b4 a=>?_
 refine WC.skip<|⟨_,y,(c.op==3),Pu,a,Rf⟩
 refine Sr<|Vr (.bool (c.op==12))<|Va (.bool (c.op==12))<|AA<|Cn a (fun b5 a=>?_) fun b5 a=>?_
 refine WC.skip<|⟨_,y,(c.op==12),Pu,a,Rf⟩
 refine Sr<|Vr (.bool (c.op==13))<|Va (.bool (c.op==13))<|AA<|Cn a (fun b6 a=>?_) fun b6 a=>?_
 refine WC.skip<|⟨_,y,(c.op==13),Pu,a,Rf⟩
 refine AM<|Vr (.bool (c.op==14))<|Va (.bool (c.op==14))<|AA<|⟨_,y,(c.op==14),Pu,a,Rf⟩
 rintro _ a0 ⟨l,ah,a1,rfl,a,h⟩
 rw [IF] at a
 refine Cn a (fun b7 a=>?_) fun b7 a=>?_
 refine Sr<|Va (I 2)<|AA<|AW ?_
 obtain rfl:=AN a
 refine O1 B r rfl (.tmp rfl)<|⟨ah,rfl,Ho (T3 (Mo [] o) n g h) q⟩
 refine An (fun w ap=>∃l ab a2,w=Env.puts l [(1,Sl aj f ak),(3,Pt ax 0),(5,Pt an 0),(11,I c.op),(27,.bool a2)]∧Kk ae af f c a2=some ag∧AS [] ah a0 ab ap) ?_ ?_
 refine Sr<|Vr (.bool (c.op==4))<|Va (.bool (c.op==4))<|AA<|Cn a (fun b8 a=>?_) fun b8 a=>?_
 refine WC.skip<|⟨_,ah,(c.op==4),Pu,a,Rf⟩
 refine AM<|Vr (.bool (c.op==18))<|Va (.bool (c.op==18))<|AA<|⟨_,ah,(c.op==18),Pu,a,Rf⟩
 rintro _ ap ⟨l,ab,a2,rfl,a,m⟩
 rw [Kk] at a
 refine Cn a (fun b9 a=>?_) fun b9 a=>?_
 refine Sr<|Va (I 3)<|AA<|AW ?_
 obtain rfl:=AN a
 refine O1 B r rfl (.tmp rfl)<|⟨ab,rfl,Ho (T4 (Mo [] o) n g h m) q⟩
 refine Sr<|Vr (.bool (c.op==5))<|Va (.bool (c.op==5))<|AA<|Cn a (fun ca a=>?_) fun ca a=>?_
 refine Sr<|Vx (Fd K0 rfl)<|have cb:=Y3 ao g h m;Vx (Ld EB rfl (Bc cb rfl))<|Va (I c.type_)<|AA<|AW ?_
 obtain rfl:=AN a
 refine O1 B r rfl (.tmp rfl)<|⟨ab,rfl,Ho (T4 (Mo [] o) n g h m) q⟩
 refine Sr<|Vr (.bool (c.op==6))<|Va (.bool (c.op==6))<|AA<|Cn a (fun cc a=>?_) fun cc a=>?_
 refine AY<|Sr<|Vm<|have bb:=Ss Aa (K4 Aa a6 o n g h) m; ?_
 obtain ⟨dl,dm,cd⟩:=AR bb
 refine Vx (v:=I (f.length:Int)) (Ll ED cd)<|Vr (I (Wr ((f.length:Int) - 1)))<|Va (I (Wr ((f.length:Int) - 1)))<|AA<|Ad<|Bj (fun ac w bc=>∃l ad p,w=Env.puts l [(1,Sl aj f ak),(5,Pt an 0),(7,I p)]∧Jw f c ac p=some ag∧AS [] ab ap ad bc) ae ?_ ?_
 exact ⟨_,ab,(Wr ((f.length:Int) - 1)),Pu,a,Rf⟩
 rintro ac _ bc ⟨l,ad,p,rfl,a,al⟩
 rcases ac with _|ac
 exact A6 a
 refine have a:Ky f c (Jw f c ac) p=some ag:=a; ?_
 obtain ⟨dn,bd⟩:∃s,s=Jw f c ac:=⟨_,rfl⟩
 rw [←bd,Ky] at a
 refine AY<|Sr<|Vm<|Vr (.bool (decide (p≥0)))<|AA<|Cn a (fun cf a=>?_) fun cf a=>?_
 refine WC.skip<|AY<|Ad<|AY<|B8 Eg (qs 0 8 .nil) [] [] ad (by kernel_rfl) fun cg aq=>Qx aa rfl (v:=Sl aj f ak) (fun _ _=>Mv rfl)<|Qx aa rfl (v:=I p) (fun _ _=>Mv rfl)<|Bi a fun be ch a=>have ci:=K2 Aa bb al aq; ?_
 obtain ⟨cj,ck,dp,cl,bf,bg,bh,cm,ar⟩:=BG (κ:=Aa) ci ch
 replace ar:A3 ad cg cj (ck+p.toNat*3) cl:=ar
 obtain rfl:=Fv cm
 refine Qx aa rfl (fun _ _=>Ix ED bf rfl bg bh)<|Qx aa rfl (fun _ _=>Fz MA rfl)<|Qx aa rfl (fun _ ⟨_,z⟩=>Ld CS rfl (A3.cell0 (Es ar z) rfl))<|Qx aa rfl (fun _ _=>Fd EV rfl)<|have cn:=Bs (Y4 ao g h m al) aq;Qx aa rfl (fun _ ⟨_,z⟩=>Ld CS rfl (Bc (Bs cn z) rfl))<|Qx aa rfl (v:=.bool (be.name==c.name)) (fun _ _=>Run.strEq rfl rfl)<|Dt<|Cn a (fun co a=>?_) fun co a=>?_
 refine Sr<|Vm<|Vm<|Vx (Ix ED bf rfl bg bh)<|Vx (Fd NT rfl)<|Vx (Ld EB rfl (A3.cell (k:=1) ar rfl))<|Va (I be.type_)<|AA<|AW ?_
 obtain rfl:=AN a
 refine O1 B r rfl (.tmp rfl)<|⟨ad,rfl,Ho (T2 (T4 (Mo [] o) n g h m) al aq) q⟩
 refine WC.skip<|AM<|Vm<|Vr (I (Wr (p - 1)))<|Va (I (Wr (p - 1)))<|AA<|⟨ac,Nat.lt_succ_self ac,_,ad,(Wr (p - 1)),Pu,(bd▸a),(Tn (Mo [] al) aq)⟩
 refine BZ<|Sr<|Va (I (-1:Int))<|AA<|AW ?_
 obtain rfl:=AN a
 refine O1 B r rfl (.tmp rfl)<|⟨ad,rfl,Ho (Tn (T4 (Mo [] o) n g h m) al) q⟩
 refine Sr<|Vr (.bool (c.op==7))<|Va (.bool (c.op==7))<|AA<|Cn a (fun cq a=>?_) fun cq a=>?_
 refine Sr<|have cr:=Y4 br n g h m;Vx (Lx Gl rfl rfl (Bw cr))<|Vx (Fd EV rfl)<|have bi:=Y3 ao g h m;Vx (Ld CS rfl (Bc bi rfl))<|have ct:=Ss AI (K4 AI a7 o n g h) m;Bi a fun d cu a=>Ca (Cg [Ag [Sl a8 af.funcs a9],Sb c.name] rfl) (NI ae ab ap cu (BH (x:=af) ct)) ?_
 rintro _ dq ⟨cv,dr,rfl,au,cw⟩
 obtain ⟨ds,dt,rfl,bj,bk⟩:=DA cw
 obtain ⟨cx,cy,rfl⟩:=AR bj
 obtain ⟨cz,c0,rfl⟩:=AR bk
 refine Vm<|Vr (Ag [Sb d.1.name,Sl cx d.1.params cy,I d.1.type_,I d.1.body.op,Sb d.1.body.name,Sb d.1.body.tail,I d.1.body.type_,Cx d.1.body.num,Sl cz d.1.body.args c0,I d.1.body.at_,I d.1.at_])<|Vr (.bool d.2)<|Ef<|AU cv 22 Fs rfl fun a3 du c1 c2 ai=>have c3:=Ss Aa bj ai;have dv:=Ss AJ bk ai;Eu<|St LD c2 rfl rfl rfl rfl fun c4 bl am=>Va (.bool d.2)<|AA<|AY<|An (fun w bm=>∃l av a4,w=Env.puts l [(8,Pt c1 0),(75,.bool a4)]∧La d a4=some ag∧AS [] a3 c4 av bm) ?_ ?_
 refine AM<|Vm<|Vr (.bool (!d.2))<|Vm<|Bo a (fun e a=>?_) fun e a=>?_
 refine Pg e<|Pg e<|Pg e<|Pg e<|Pg e<|Pg e<|Pg e<|Vp e<|AA<|⟨_,a3,true,Pu,a,Rf⟩
 refine Gx e (Fd Eh rfl)<|Gx e (Ld E0 rfl (Bc bl rfl))<|have c5:=Ss Aa c3 am; ?_
 obtain ⟨dw,dx,c6⟩:=AR c5
 refine Gx e (v:=I (d.1.params.length:Int)) (Ll ED c6)<|Gx e (Fd Bh rfl)<|have c7:=Y3 bi au ai am;Gx e (Ld EC rfl (Bc c7 rfl))<|have c8:=K4 AJ (K4 AJ ba o n g h) m au ai am; ?_
 obtain ⟨dy,dz,c9⟩:=AR c8
 refine Gx e (v:=I (c.args.length:Int)) (Ll C9 c9)<|Gr e (.bool ((d.1.params.length:Int) != (c.args.length:Int)))<|Vp e<|AA<|⟨_,a3,((d.1.params.length:Int) != (c.args.length:Int)),Pu,a,Rf⟩
 rintro _ bm ⟨l,av,a4,rfl,a,a5⟩
 rw [La] at a
 refine Cn a (fun da a=>?_) fun da a=>?_
 refine Sr<|Va (I (-1:Int))<|AA<|AW ?_
 obtain rfl:=AN a
 refine O1 B r rfl (.tmp rfl)<|⟨av,rfl,Ho (T4 (T4 (Mo [22] o) n g h m) au ai am a5) q⟩
 refine WC.skip<|Sr<|Vx (Fd NS rfl)<|have db:=Bs bl a5;Vx (Ld EB rfl (Bc db rfl))<|Va (I d.1.type_)<|AA<|AW ?_
 obtain rfl:=AN a
 refine O1 B r rfl (.tmp rfl)<|⟨av,rfl,Ho (T4 (T4 (Mo [22] o) n g h m) au ai am a5) q⟩
 refine WC.skip<|Sr<|Va (I 0)<|AA<|AW ?_
 obtain rfl:=AN a
 refine O1 B r rfl (.tmp rfl)<|⟨ab,rfl,Ho (T4 (Mo [] o) n g h m) q⟩
theorem VI(c:Nat):Jg.Spec (Jg c):=lk0 (UN c)
def HI.At(c:Col)(a:World)(f:(List AK)→Bts→Int→Option (List AK)):Prop:=
 ∀{d v0 e g h},f d e g=some h→Slc Aa c.F a v0 d→
  Calls PG 96 #[v0,Sb e,I g] a fun o l=>∃m n,o=.returned n∧AS [] c a m l∧Slc Aa m.F l n h
def HI.Spec(f:(List AK)→Bts→Int→Option (List AK)):Prop:=
 ∀a c,HI.At a c f
theorem TQ(e:Col)(g:World)(s:∀b,e b<10):HI.At e g HI:=by
 intro f v0 a c al d h
 rw [HI] at d
 obtain ⟨am,an,rfl⟩:=AR h
 refine Ay Tryz.func96 rfl Tryz.ntmps96 rfl fun B u ao=>Sr<|Va (.slice none 0 0)<|AA<|Sr<|Va (.slice none 0 0)<|AA<|Sr<|Vm<|Vm<|Bi d fun ap l d=>Ef<|Az (κ:=Aa) rfl rfl (Own.nil:Own Aa 87 e g 20 _ _) dcd Pj (Cl h) (CF l) (CK l) fun aq w ar m y=>?_
 obtain ⟨z,aa,rfl⟩:=Own.len m
 refine Va (Sl z ((([]:List AK)++f)) aa)<|AA<|Sr<|Vm<|Vm<|Vm<|Vx (v:=Ag [Sb a,I c,I 0]) (Bp Lf Qn rfl (.cons rfl rfl rfl (.cons rfl rfl rfl .nil)))<|Ef<|Bf (cs:=[Sb a,I c,I 0]) w 21 [[Sb a,I c,I 0]] ED Lf rfl rfl (.cons rfl rfl rfl .nil) rfl fun ab ac ad ae n=>have af:Own Aa 87 ab ac 21 (.slice (some ⟨ad,0,none⟩) 1 1) ([(AK.mk a c 0)]:List AK):=Own.lit (css:=[[Sb a,I c,I 0]]) ae rfl rfl rfl (AQ (Kg (x:=(AK.mk a c 0))) Au) (Av rfl CP) rfl;have ag:=Os m n;Bi d fun au o d=>Ef<|Az (κ:=Aa) rfl rfl ag dcd Pj (BL af) (CF o) (CK o) fun av aw ax p ah=>?_
 obtain ⟨q,r,rfl⟩:=Own.len p
 refine Va (Sl q (((([]:List AK)++f)++([(AK.mk a c 0)]:List AK))) r)<|AA<|AW ?_
 obtain ⟨ai,aj,ak⟩:=Own.freeze (S:=[20]) p dcd dcd
 obtain rfl:=AN d
 refine O1 B u rfl (.tmp rfl)<|⟨ai,Sl q (((([]:List AK)++f)++([(AK.mk a c 0)]:List AK))) r,rfl,Ho (T3 (Mo [20] y) n ah aj) s,ak⟩
theorem NJ:HI.Spec HI:=lk0 (TQ)
def Gg.At(c:Col)(a:World)(f:(List AK)→AB→Int→Option (List AK)):Prop:=
 ∀{d v0 e g h l},f d e h=some l→Slc Aa c.F a v0 d→AJ.rep c.F a g e→
  Calls PG 67 #[v0,Ag g,I h] a fun p m=>∃n o,p=.returned o∧AS [] c a n m∧Slc Aa n.F m o l
def Gg.Spec(f:(List AK)→AB→Int→Option (List AK)):Prop:=
 ∀a c,Gg.At a c f
theorem Q5(z:Col)(az:World)(aa:∀b,z b<10):Gg.At z az Gg:=by
 intro e v0 c bk f ag a s a0
 rw [Gg] at a
 obtain ⟨l,m,rfl⟩:=AR s
 obtain ⟨bm,bn,rfl,a1⟩:=E1 (Ai a0)
 refine Ay Tryz.func67 rfl Tryz.ntmps67 rfl fun B ab bo=>Sr<|Ef<|BX z 20 rfl rfl fun u a2 ah p n=>Va (.slice none 0 0)<|AA<|AY<|Ad<|An (fun ac w=>∃q o ad,ac=Env.puts q [(0,Sl l e m),(2,I f),(4,Pt ah 0),(8,.bool ad)]∧Iw e c f ad=some ag∧AS [] u a2 o w) ?_ ?_
 refine Sr<|Vx (Fz DW rfl)<|Vx (Ld Hr rfl (Bc p rfl))<|Vr (.bool (c.op==21))<|Va (.bool (c.op==21))<|AA<|Cn a (fun a3 a=>?_) fun a3 a=>?_
 refine WC.skip<|⟨_,u,(c.op==21),Pu,a,Rf⟩
 refine AM<|Vx (Fz DW rfl)<|Vx (Ld Hr rfl (Bc p rfl))<|Vr (.bool (c.op==22))<|Vm<|Bo a (fun g a=>?_) fun g a=>?_
 refine Gm g<|Gr g (.bool (f==1))<|Vp g<|Va (.bool (f==1))<|AA<|⟨_,u,(f==1),Pu,a,Rf⟩
 refine Pg g<|Pg g<|Vp g<|Va (.bool false)<|AA<|⟨_,u,false,Pu,a,Rf⟩
 rintro _ w ⟨q,o,ad,rfl,a,d⟩
 rw [Iw] at a
 refine Cn a (fun a4 a=>?_) fun a4 a=>?_
 refine Sr<|Vm<|Vx (Fd EV rfl)<|have ai:=Bs p d;Vx (Ld CS rfl (Bc ai rfl))<|Vx (Fd K0 rfl)<|Vx (Ld EB rfl (Bc ai rfl))<|have a5:=K2 Aa s n d;Bi a fun aj a6 a=>Ca (Cg [Sl l e m,Sb c.name,I c.type_] rfl) (NJ o w a6 a5) ?_
 rintro _ bp ⟨a7,bq,rfl,a8,ak⟩
 obtain ⟨al,am,rfl⟩:=AR ak
 refine Va (Sl al aj am)<|AA<|AW ?_
 obtain rfl:=AN a
 refine O1 B ab rfl (.tmp rfl)<|⟨a7,Sl al aj am,rfl,Ho (T2 (Mo [] n) d a8) aa,ak⟩
 refine An (fun ac ae=>∃q y af,ac=Env.puts q [(0,Sl l e m),(4,Pt ah 0),(25,.bool af)]∧J5 e c af=some ag∧AS [] o w y ae) ?_ ?_
 refine AM<|Vx (Fz DW rfl)<|have a9:=Bs p d;Vx (Ld Hr rfl (Bc a9 rfl))<|Vr (.bool (c.op==20))<|Vm<|Bo a (fun h a=>?_) fun h a=>?_
 refine Gm h<|Gr h (.bool (f==2))<|Vp h<|Va (.bool (f==2))<|AA<|⟨_,o,(f==2),Pu,a,Rf⟩
 refine Pg h<|Pg h<|Vp h<|Va (.bool false)<|AA<|⟨_,o,false,Pu,a,Rf⟩
 rintro _ ae ⟨q,y,af,rfl,a,r⟩
 rw [J5] at a
 refine Cn a (fun ba a=>?_) fun ba a=>?_
 refine Sr<|Vm<|Vx (Fd EV rfl)<|have an:=Y2 p d r;Vx (Ld CS rfl (Bc an rfl))<|have bb:=K3 Aa s n d r;Bi a fun ao bc a=>Ca (Cg [Sl l e m,Sb c.name,I 1] rfl) (NJ y ae bc bb) ?_
 rintro _ bd ⟨be,br,rfl,ap,aq⟩
 obtain ⟨ar,au,rfl⟩:=AR aq
 refine Va (Sl ar ao au)<|AA<|Sr<|Vm<|Vx (Fd NR rfl)<|have bf:=Bs an ap;Vx (Ld CS rfl (Bc bf rfl))<|Bi a fun av bg a=>Ca (Cg [Sl ar ao au,Sb c.tail,I 3] rfl) (NJ be bd bg aq) ?_
 rintro _ bt ⟨bh,bu,rfl,bi,aw⟩
 obtain ⟨ax,ay,rfl⟩:=AR aw
 refine Va (Sl ax av ay)<|AA<|AW ?_
 obtain rfl:=AN a
 refine O1 B ab rfl (.tmp rfl)<|⟨bh,Sl ax av ay,rfl,Ho (T4 (Mo [] n) d r ap bi) aa,aw⟩
 refine WC.skip<|Sr<|Vm<|Va (Sl l e m)<|AA<|AW ?_
 obtain rfl:=AN a
 refine O1 B ab rfl (.tmp rfl)<|have bj:=K3 Aa s n d r;⟨y,Sl l e m,rfl,Ho (T2 (Mo [] n) d r) aa,bj⟩
theorem R4:Gg.Spec Gg:=lk0 (Q5)
def Gh.At(c:Col)(a:World)(f:AL→AB→Int→Int→Option Int):Prop:=
 ∀{d e g h l m n},f d g l m=some n→Cd.rep c.F a e d→AJ.rep c.F a h g→
  Calls PG 68 #[Ag e,Ag h,I l,I m] a fun o p=>∃q,o=.returned (I n)∧AS [] c a q p
def Gh.Spec(f:AL→AB→Int→Int→Option Int):Prop:=
 ∀a c,Gh.At a c f
theorem Q6(al:Nat)(aa:Col)(ay:World)(m:∀b,aa b<10):Gh.At aa ay (Gh al):=by
 intro ab ca c cb h p ac a az a0
 rw [Gh] at a
 obtain ⟨an,ao,rfl,am⟩:=E1 (BN az)
 obtain ⟨cf,cg,rfl,a1⟩:=E1 (Ai a0)
 refine Ay Tryz.func68 rfl Tryz.ntmps68 rfl fun B n ch=>Sr<|Ef<|BX aa 20 rfl rfl fun a2 ci cj a3 l=>Ef<|BX a2 21 rfl rfl fun f ad a4 ae g=>Va (I 0)<|AA<|An (fun q ap=>∃o af,q=Env.puts o []∧Iy=some ac∧AS [22] f ad af ap) ?_ ?_
 refine Sr<|Vx (Fz DW rfl)<|Vx (Ld Hr rfl (Bc ae rfl))<|AA<|Ad<|Sr<|Vr (.bool (c.op==14))<|Va (.bool (c.op==14))<|AA<|Cn a (fun a5 a=>?_) fun a5 a=>?_
 refine Sr<|Va (I 2)<|AA<|AW ?_
 obtain rfl:=AN a
 refine O1 B n rfl (.tmp rfl)<|⟨f,rfl,Ho (Tn (Mo [] l) g) m⟩
 refine Sr<|Vr (.bool (c.op==18))<|Va (.bool (c.op==18))<|AA<|Cn a (fun a6 a=>?_) fun a6 a=>?_
 refine Sr<|Vm<|Vr (.bool (h==1))<|AA<|Cn a (fun a7 a=>?_) fun a7 a=>?_
 refine Sr<|Va (I 3)<|AA<|AW ?_
 obtain rfl:=AN a
 refine O1 B n rfl (.tmp rfl)<|⟨f,rfl,Ho (Tn (Mo [] l) g) m⟩
 refine WC.skip<|⟨_,f,Pu,a,(AS.refl [22] _ _)⟩
 refine Sr<|Vr (.bool (c.op==7))<|Va (.bool (c.op==7))<|AA<|Cn a (fun a8 a=>?_) fun a8 a=>?_
 refine Sr<|have a9:=Bs a3 g;Vx (Lx Gl rfl rfl (Bw a9))<|Vx (Fd EV rfl)<|Vx (Ld CS rfl (Bc ae rfl))<|have ba:=K2 AI am l g;Bi a fun d bb a=>Ca (Cg [Ag [Sl an ab.funcs ao],Sb c.name] rfl) (NI al f ad bb (BH (x:=ab) ba)) ?_
 rintro _ ck ⟨bc,cl,rfl,aq,bd⟩
 obtain ⟨cm,cn,rfl,ar,au⟩:=DA bd
 obtain ⟨be,bf,rfl⟩:=AR ar
 obtain ⟨bg,bh,rfl⟩:=AR au
 refine Vm<|Vr (Ag [Sb d.1.name,Sl be d.1.params bf,I d.1.type_,I d.1.body.op,Sb d.1.body.name,Sb d.1.body.tail,I d.1.body.type_,Cx d.1.body.num,Sl bg d.1.body.args bh,I d.1.body.at_,I d.1.at_])<|Vr (.bool d.2)<|Ef<|AU bc 22 Fs rfl fun ag co bi bj u=>have av:=Ss Aa ar u;have cq:=Ss AJ au u;Eu<|St LD bj rfl rfl rfl rfl fun bk aw w=>Va (.bool d.2)<|AA<|An (fun q ah=>∃o r ai,q=Env.puts o [(2,I h),(9,Pt bi 0),(35,.bool ai)]∧J6 h d ai=some ac∧AS [] ag bk r ah) ?_ ?_
 refine AM<|Vm<|Vm<|Bo a (fun e a=>?_) fun e a=>?_
 refine Gm e<|Gx e (Fd Eh rfl)<|Gx e (Ld E0 rfl (Bc aw rfl))<|have bl:=Ss Aa av w; ?_
 obtain ⟨cr,ct,bm⟩:=AR bl
 refine Gx e (v:=I (d.1.params.length:Int)) (Ll ED bm)<|Gr e (.bool (decide (h< (d.1.params.length:Int))))<|Vp e<|AA<|⟨_,ag,(decide (h< (d.1.params.length:Int))),Pu,a,Rf⟩
 refine Pg e<|Pg e<|Pg e<|Pg e<|Pg e<|Vp e<|AA<|⟨_,ag,false,Pu,a,Rf⟩
 rintro _ ah ⟨o,r,ai,rfl,a,y⟩
 rw [J6] at a
 refine Cn a (fun bn a=>?_) fun bn a=>?_
 refine Sr<|Vx (Fd Eh rfl)<|have bo:=Bs aw y;Vx (Ld E0 rfl (Bc bo rfl))<|Vm<|Bi a fun bp bq a=>have br:=K2 Aa av w y; ?_
 obtain ⟨bt,bu,cu,bv,bw,bx,bz,b0,aj⟩:=BG (κ:=Aa) br bq
 replace aj:A3 r ah bt (bu+h.toNat*3) bv:=aj
 obtain rfl:=Fv b0
 refine Vx (Ix ED bw rfl bx bz)<|Vx (Fd NT rfl)<|Vx (Ld EB rfl (A3.cell (k:=1) aj rfl))<|Va (I bp.type_)<|AA<|AW ?_
 obtain rfl:=AN a
 refine O1 B n rfl (.tmp rfl)<|⟨r,rfl,Ho (Tn (T4 (Mo [22] l) g aq u w) y) m⟩
 refine WC.skip<|⟨_,r,Pu,a,(T3 (Mo [22] aq) u w y)⟩
 refine Sr<|Vr (.bool (c.op==19))<|Va (.bool (c.op==19))<|AA<|Cn a (fun b1 a=>?_) fun b1 a=>?_
 refine AY<|Sr<|Vm<|Vr (.bool (h==0))<|AA<|Cn a (fun b2 a=>?_) fun b2 a=>?_
 refine Sr<|Va (I 2)<|AA<|AW ?_
 obtain rfl:=AN a
 refine O1 B n rfl (.tmp rfl)<|⟨f,rfl,Ho (Tn (Mo [] l) g) m⟩
 refine WC.skip<|Sr<|Vm<|Va (I p)<|AA<|AW ?_
 obtain rfl:=AN a
 refine O1 B n rfl (.tmp rfl)<|⟨f,rfl,Ho (Tn (Mo [] l) g) m⟩
 refine Sr<|Vr (.bool (c.op==20))<|Va (.bool (c.op==20))<|AA<|Cn a (fun b3 a=>?_) fun b3 a=>?_
 refine AY<|Sr<|Vm<|Vr (.bool (h==0))<|AA<|Cn a (fun b4 a=>?_) fun b4 a=>?_
 refine Sr<|Va (I 3)<|AA<|AW ?_
 obtain rfl:=AN a
 refine O1 B n rfl (.tmp rfl)<|⟨f,rfl,Ho (Tn (Mo [] l) g) m⟩
 refine WC.skip<|Sr<|Vm<|Va (I p)<|AA<|AW ?_
 obtain rfl:=AN a
 refine O1 B n rfl (.tmp rfl)<|⟨f,rfl,Ho (Tn (Mo [] l) g) m⟩
 refine An (fun q ax=>∃o s ak,q=Env.puts o [(2,I h),(3,I p),(5,Pt a4 0),(52,.bool ak)]∧J7 c h p ak=some ac∧AS [] f ad s ax) ?_ ?_
 refine Sr<|Vr (.bool (c.op==21))<|Va (.bool (c.op==21))<|AA<|Cn a (fun b5 a=>?_) fun b5 a=>?_
 refine WC.skip<|⟨_,f,(c.op==21),Pu,a,Rf⟩
 refine AM<|Vr (.bool (c.op==22))<|Va (.bool (c.op==22))<|AA<|⟨_,f,(c.op==22),Pu,a,Rf⟩
 rintro _ ax ⟨o,s,ak,rfl,a,z⟩
 rw [J7] at a
 refine Cn a (fun b6 a=>?_) fun b6 a=>?_
 refine AY<|Sr<|Vm<|Vr (.bool (h==0))<|AA<|Cn a (fun b7 a=>?_) fun b7 a=>?_
 refine Sr<|Vx (Fd K0 rfl)<|have b8:=Bs ae z;Vx (Ld EB rfl (Bc b8 rfl))<|Va (I c.type_)<|AA<|AW ?_
 obtain rfl:=AN a
 refine O1 B n rfl (.tmp rfl)<|⟨s,rfl,Ho (T2 (Mo [] l) g z) m⟩
 refine WC.skip<|Sr<|Vm<|Va (I p)<|AA<|AW ?_
 obtain rfl:=AN a
 refine O1 B n rfl (.tmp rfl)<|⟨s,rfl,Ho (T2 (Mo [] l) g z) m⟩
 refine WC.skip<|⟨_,s,Pu,a,(Mo [22] z)⟩
 rintro _ ap ⟨o,af,rfl,a,b9⟩
 rw [Iy] at a
 refine Sr<|Va (I 1)<|AA<|AW ?_
 obtain rfl:=AN a
 refine O1 B n rfl (.tmp rfl)<|⟨af,rfl,Ho (T2 (Mo [22] l) g b9) m⟩
theorem R5(c:Nat):Gh.Spec (Gh c):=lk0 (Q6 c)
def ref07_wrong.At(c:Col)(a:World)(f:AL→(List AK)→AB→Int→Option (List Int)):Prop:=
 ∀{d e g h l m n o},f d g l n=some o→Cd.rep c.F a e d→Slc Aa c.F a h g→AJ.rep c.F a m l→
  Calls PG 41 #[Ag e,h,Ag m,I n] a fun s p=>∃q r,s=.returned r∧AS [] c a q p∧Slc (Kd.int .i64) q.F p r o
def ref07_wrong.Spec(f:AL→(List AK)→AB→Int→Option (List Int)):Prop:=
 ∀a c,ref07_wrong.At a c f
structure BF.Good(a:BF):Prop where
 ref07_wrong:ref07_wrong.Spec a.ref07_wrong
theorem R6(q:BF)(n:Nat)(b9:BF.Good q)(a0:Col)(ca:World)(cb:∀b,a0 b<10):ref07_wrong.At a0 ca (KD q n):=by
 intro e dw m dx a dy l aq c cc bc cd
 rw [KD] at c
 obtain ⟨ac,ad,rfl,bd⟩:=E1 (BN cc)
 obtain ⟨ae,af,rfl⟩:=AR bc
 obtain ⟨ag,ah,rfl,be⟩:=E1 (Ai cd)
 refine Ay Tryz.func41 rfl Tryz.ntmps41 rfl fun B cf g=>Sr<|Ef<|BX a0 20 rfl rfl fun cg d1 a1 ch ar=>Ef<|BX cg 21 rfl rfl fun ci cj a2 a3 al=>Va (.slice none 0 0)<|AA<|Sr<|Va (.slice none 0 0)<|AA<|Sr<|have bf:=Bs ch al;Vx (Lx Gl rfl rfl (Bw bf))<|Vm<|Vx (Lx BA rfl rfl (Bw a3))<|have bg:=K2 AI bd ar al;have bh:=K2 Aa bc ar al;have bi:=K2 AJ be ar al;Bi c fun au ck c=>Ca (Cg [Ag [Sl ac e.funcs ad],Sl ae m af,Ag [I a.op,Sb a.name,Sb a.tail,I a.type_,Cx a.num,Sl ag a.args ah,I a.at_]] rfl) (VI n ci cj ck (BH (x:=e) bg) bh (Ab (x:=a) bi)) ?_
 rintro _ bj ⟨av,rfl,y⟩
 refine Va (I au)<|AA<|An (fun am aw=>∃r an ai ax ay,am=Env.puts r [(1,Sl ae m af),(3,I l),(4,Pt a1 0),(6,Pt a2 0),(9,Sl ax ai ay)]∧Jh q n e m a l ai=some aq∧AS [23] av bj an aw∧Own (Kd.int .i64) 3 an aw 23 (Sl ax ai ay) ai) ?_ ?_
 refine An (fun am bk=>∃r az a4,am=Env.puts r [(1,Sl ae m af),(3,I l),(4,Pt a1 0),(6,Pt a2 0),(9,.slice none 0 0),(23,.bool a4)]∧KX q n e m a l a4=some aq∧AS [] av bj az bk) ?_ ?_
 refine AM<|Vm<|Vr (.bool (au != 0))<|Vm<|Bo c (fun p c=>?_) fun p c=>?_
 refine Gm p<|Gm p<|Gr p (.bool (au != l))<|Vp p<|AA<|⟨_,av,(au != l),Pu,c,Rf⟩
 refine Pg p<|Pg p<|Pg p<|Vp p<|AA<|⟨_,av,false,Pu,c,Rf⟩
 rintro _ bk ⟨r,az,a4,rfl,c,a5⟩
 rw [KX] at c
 refine Cn c (fun cl c=>?_) fun cl c=>?_
 refine AM<|Vm<|Vx (Fd L8 rfl)<|have cm:=Y2 a3 y a5;Vx (Ld CD rfl (Bc cm rfl))<|Ef<|Bf (cs:=[I a.at_]) az 22 [[I a.at_]] SD ABU rfl rfl (.cons rfl rfl rfl .nil) rfl fun bl bm cn co cq=>have cr:Own (Kd.int .i64) 3 bl bm 22 (.slice (some ⟨cn,0,none⟩) 1 1) ([a.at_]:List Int):=Own.lit (css:=[[I a.at_]]) co rfl rfl rfl (AQ rfl Au) (Av rfl CP) rfl;Bi c fun d2 bn c=>Ef<|Az (κ:=(Kd.int .i64)) rfl rfl (Own.nil:Own (Kd.int .i64) 3 bl bm 23 _ _) dcd W6 (BL cr) (CF bn) (CK bn) fun d3 ct d4 bo cu=>?_
 obtain ⟨bp,bq,rfl⟩:=Own.len bo
 refine Va (Sl bp ((([]:List Int)++([a.at_]:List Int))) bq)<|AA<|⟨_,ct,(([]:List Int)++([a.at_]:List Int)),bp,bq,Pu,c,(T2 (Mo [23] a5) cq cu),bo⟩
 refine WC.skip<|⟨_,az,([]:List Int),none,0,Pu,c,(Mo [23] a5),Own.nil⟩
 rintro _ aw ⟨r,an,ai,ax,ay,rfl,c,aj,cv⟩
 rw [Jh] at c
 refine AY<|Sr<|Va (I 0)<|AA<|Ad<|Bj (fun u am a6=>∃r ak o ao ap h,am=Env.puts r [(1,Sl ae m af),(3,I l),(4,Pt a1 0),(6,Pt a2 0),(9,Sl ao o ap),(11,I h)]∧Hm q n e m a l u o h=some aq∧AS [23] an aw ak a6∧Own (Kd.int .i64) 3 ak a6 23 (Sl ao o ap) o) n ?_ ?_
 exact ⟨_,an,ai,ax,ay,0,Pu,c,(AS.refl [23] _ _),cv⟩
 rintro u _ a6 ⟨r,ak,o,ao,ap,h,rfl,c,z,br⟩
 rcases u with _|u
 exact A6 c
 refine have c:H6 q n e m a l (Hm q n e m a l u) o h=some aq:=c; ?_
 obtain ⟨d5,bt⟩:∃s,s=Hm q n e m a l u:=⟨_,rfl⟩
 rw [←bt,H6] at c
 refine AY<|Sr<|Vm<|Vx (Fd Bh rfl)<|have bu:=Y3 a3 y aj z;Vx (Ld EC rfl (Bc bu rfl))<|have bv:=K3 AJ bi y aj z; ?_
 obtain ⟨d6,d7,cw⟩:=AR bv
 refine Vx (v:=I (a.args.length:Int)) (Ll C9 cw)<|Vr (.bool (decide (h< (a.args.length:Int))))<|AA<|Cn c (fun cx c=>?_) fun cx c=>?_
 refine WC.skip<|AY<|Ad<|AY<|B8 Eg (qs 0 4 (qs 5 9 (.one 4 (.one 14 (.one 15 (.q 16 .nil)))))) [] [] ak (by kernel_rfl) fun bw aa=>have bx:=Y4 bf y aj z aa;Qx g rfl (fun _ ⟨_,d⟩=>Lx Gl rfl rfl (Bw (Bs bx d)))<|Qx g rfl (v:=Sl ae m af) (fun _ _=>Mv rfl)<|have a7:=Bs bu aa;Qx g rfl (fun _ ⟨_,d⟩=>Lx BA rfl rfl (Bw (Bs a7 d)))<|Qx g rfl (v:=I h) (fun _ _=>Mv rfl)<|Qx g rfl (fun _ _=>Fd Bh rfl)<|Qx g rfl (fun _ ⟨_,d⟩=>Ld EC rfl (Bc (Bs a7 d) rfl))<|Qx g rfl (v:=I h) (fun _ _=>Mv rfl)<|Bi c fun f cy c=>have a8:=Ss AJ bv aa; ?_
 obtain ⟨cz,c0,d8,c1,c2,c3,c4,c5,a9⟩:=BG (κ:=AJ) a8 cy
 replace a9:A3 ak bw cz (c0+h.toNat*7) c1:=a9
 obtain ⟨b0,b1,rfl,bz⟩:=E1 (Ai c5)
 refine Qx g rfl (fun _ _=>Ix C9 c2 rfl c3 c4)<|Qx g rfl (fun _ ⟨_,d⟩=>Lx BA rfl rfl (A3.part0 (Es a9 d) [I f.op,Sb f.name,Sb f.tail,I f.type_,Cx f.num,Sl b0 f.args b1,I f.at_] rfl))<|Qx g rfl (fun _ ⟨_,d⟩=>Lx Gl rfl rfl (Bw (Bs bx d)))<|Qx g rfl (fun _ ⟨_,d⟩=>Lx BA rfl rfl (Bw (Bs a7 d)))<|Qx g rfl (v:=I h) (fun _ _=>Mv rfl)<|Qx g rfl (v:=I l) (fun _ _=>Mv rfl)<|A5 rfl<|have c6:=K4 Aa bh y aj z aa;Bi c fun c7 c8 c=>BM rfl (.none rfl) rfl rfl (Cg [Sl ae m af,Ag [I a.op,Sb a.name,Sb a.tail,I a.type_,Cx a.num,Sl ag a.args ah,I a.at_],I h] rfl)<|Calls.mono (R4 ak bw c8 c6 (Ab (x:=a) a8)) ?_
 rintro _ c9 ⟨da,ea,rfl,w,b2⟩
 obtain ⟨db,dc,rfl⟩:=AR b2
 refine ⟨_,rfl,⟨_,(Mo [] w)⟩,?_⟩
 refine A5 rfl<|have b3:=Ss AI (K4 AI bg y aj z aa) w;have de:=Ss AJ a8 w;Bi c fun df dg c=>BM rfl (.none rfl) rfl rfl (Cg [Ag [Sl ac e.funcs ad],Ag [I a.op,Sb a.name,Sb a.tail,I a.type_,Cx a.num,Sl ag a.args ah,I a.at_],I h,I l] rfl)<|Calls.mono (R5 n da c9 dg (BH (x:=e) b3) (Ab (x:=a) de)) ?_
 rintro _ dh ⟨di,rfl,ab⟩
 refine ⟨_,rfl,⟨_,(Tn (Mo [] w) ab)⟩,?_⟩
 refine A5 rfl<|have dj:=Ss AI b3 ab;have dk:=Ss Aa b2 ab;have dl:=K2 AJ bz w ab;Bi c fun ba dm c=>BM rfl (.none rfl) rfl rfl (Cg [Ag [Sl ac e.funcs ad],Sl db c7 dc,Ag [I f.op,Sb f.name,Sb f.tail,I f.type_,Cx f.num,Sl b0 f.args b1,I f.at_],I df] rfl)<|Calls.mono (b9.ref07_wrong di dh dm (BH (x:=e) dj) dk (Ab (x:=f) dl)) ?_
 rintro _ eb ⟨ec,ed,rfl,bb,b4⟩
 obtain ⟨dn,dp,rfl⟩:=AR b4
 refine ⟨_,rfl,⟨_,(T2 (Mo [] w) ab bb)⟩,?_⟩
 refine Qx g rfl (v:=Sl dn ba dp) (fun _ _=>Run.assign rfl)<|Dt<|AM<|Vm<|Vm<|have dq:=Os (Os (Os (Os br aa) w) ab) bb;Bi c fun ee b5 c=>Ef<|Az (κ:=(Kd.int .i64)) rfl rfl dq dcd W6 (Cl b4) (CF b5) (CK b5) fun ef dr eg b6 ds=>?_
 obtain ⟨b7,b8,rfl⟩:=Own.len b6
 refine Va (Sl b7 ((o++ba)) b8)<|AA<|AM<|Vm<|Vr (I (Wr (h+1)))<|Va (I (Wr (h+1)))<|AA<|⟨u,Nat.lt_succ_self u,_,dr,(o++ba),b7,b8,(Wr (h+1)),Pu,(bt▸c),(Tn (T4 (Mo [23] z) aa w ab bb) ds),b6⟩
 refine BZ<|Sr<|Vm<|Va (Sl ao o ap)<|AA<|AW ?_
 obtain ⟨dt,du,dv⟩:=Own.freeze (S:=[23]) br dcd dcd
 obtain rfl:=AN c
 refine O1 B cf rfl (.tmp rfl)<|⟨dt,Sl ao o ap,rfl,Ho (Tn (T4 (Mo [23] ar) al y aj z) du) cb,dv⟩
theorem R7(a:BF)(d:Nat)(f:BF.Good a):ref07_wrong.Spec (KD a d):=lk0 (R6 a d f)
theorem BF.good:∀a,BF.Good (BF.at a)
 |0=>⟨by intro c d;intros;(try intro _);intros;exact A6 (by assumption)⟩
 |n+1=>⟨R7 _ n (BF.good n)⟩
theorem TR(a:Nat):ref07_wrong.Spec (ref07_wrong a):=(BF.good a).ref07_wrong
def Dx.At(c:Col)(a:World)(f:AL→Option AF):Prop:=
 ∀{d e g},f d=some g→Cd.rep c.F a e d→
  Calls PG 18 #[Ag e] a fun n h=>∃l m,n=.returned (Ag m)∧AS [] c a l h∧Am.rep l.F h m g
def Dx.Spec(f:AL→Option AF):Prop:=
 ∀a c,Dx.At a c f
theorem R8(r:Nat)(a5:Col)(cb:World)(bm:∀b,a5 b<10):Dx.At a5 cb (Dx r):=by
 intro l d0 ae a cc
 rw [Dx] at a
 obtain ⟨ap,aq,rfl,bn⟩:=E1 (BN cc)
 refine Ay Tryz.func18 rfl Tryz.ntmps18 rfl fun B bo d=>Sr<|Ef<|BX a5 20 rfl rfl fun cd d2 ar cf a6=>Ef<|AU cd 21 E3 rfl fun cg ch au bp av=>AA<|Sr<|have bq:=Bs cf av;Vx (Lx Gl rfl rfl (Bw bq))<|have br:=K2 AI bn a6 av;Bi a fun o ci a=>Ca (Cg [Ag [Sl ap l.funcs aq]] rfl) (TO r cg ch ci (BH (x:=l) br)) ?_
 rintro _ d3 ⟨cj,d4,rfl,af,ck⟩
 obtain rfl:=Aq ck
 refine Ef<|AU cj 22 E3 rfl fun a7 d5 ab cl ag=>Eu<|St G6 cl rfl rfl rfl rfl fun cm a8 ah=>AA<|AY<|Sr<|Vx (Fz Mc rfl)<|Vx (Ld LE rfl (Bc a8 rfl))<|Vr (.bool (o.why != 0))<|AA<|Cn a (fun cn a=>?_) fun cn a=>?_
 refine Sr<|Vx (Lx KZ rfl rfl (Bw a8))<|have co:=Y3 bp af ag ah;Eu<|St G6 co rfl rfl rfl rfl fun d6 cq cr=>AA<|AW ?_
 obtain rfl:=AN a
 refine O1 B bo rfl (.agg KZ rfl rfl (Bw cq))<|⟨a7,[I o.why,I o.at_],rfl,Ho (Tn (T4 (Mo [21,22] a6) av af ag ah) cr) bm,(Ah (x:=o))⟩
 refine WC.skip<|AY<|Sr<|Va (I 0)<|AA<|Ad<|Bj (fun z ac a9=>∃n ad f u w,ac=Env.puts n [(1,Pt ar 0),(2,Pt au 0),(3,Pt ab 0),(4,I f)]∧B6 r l z f u w=some ae∧AS [22] a7 cm ad a9∧Bk ad a9 22 ab [I u,I w] 63) r ?_ ?_
 exact ⟨_,a7,0,o.why,o.at_,Pu,a,(AS.refl [22] _ _),a8⟩
 rintro z _ a9 ⟨n,ad,f,u,w,rfl,a,ai,bt⟩
 rcases z with _|z
 exact A6 a
 refine have a:H7 r l (B6 r l z) f u w=some ae:=a; ?_
 obtain ⟨aw,bu⟩:∃s,s=B6 r l z:=⟨_,rfl⟩
 rw [←bu,H7] at a
 refine AY<|Sr<|Vm<|Vx (Fz EA rfl)<|have bv:=Y4 bq af ag ah ai;Vx (Ld GP rfl (Bc bv rfl))<|have bw:=K4 AI br af ag ah ai; ?_
 obtain ⟨d7,d8,ct⟩:=AR bw
 refine Vx (v:=I (l.funcs.length:Int)) (Ll DY ct)<|Vr (.bool (decide (f< (l.funcs.length:Int))))<|AA<|Cn a (fun cu a=>?_) fun cu a=>?_
 refine WC.skip<|AY<|Ad<|AY<|B8 Eg (qs 0 19 (.one 19 (.q 20 .nil))) [] [] ad (by kernel_rfl) fun bx ax=>have ay:=Bs bv ax;Qx d rfl (fun _ ⟨_,c⟩=>Lx Gl rfl rfl (Bw (Bs ay c)))<|Qx d rfl (fun _ _=>Fz EA rfl)<|Qx d rfl (fun _ ⟨_,c⟩=>Ld GP rfl (Bc (Bs ay c) rfl))<|Qx d rfl (v:=I f) (fun _ _=>Mv rfl)<|Bi a fun e cv a=>have bz:=Ss AI bw ax; ?_
 obtain ⟨cw,cx,d9,cy,ba,bb,bc,cz,aj⟩:=BG (κ:=AI) bz cv
 replace aj:A3 ad bx cw (cx+f.toNat*11) cy:=aj
 obtain ⟨ea,eb,rfl,b0,b1⟩:=DA cz
 obtain ⟨c0,c1,rfl⟩:=AR b0
 obtain ⟨b2,b3,rfl⟩:=AR b1
 refine Qx d rfl (fun _ _=>Ix DY ba rfl bb bc)<|Qx d rfl (fun _ _=>Fd Eh rfl)<|Qx d rfl (fun _ ⟨_,c⟩=>Ld E0 rfl (A3.cell (k:=1) (Es aj c) rfl))<|Qx d rfl (fun _ _=>Fz EA rfl)<|Qx d rfl (fun _ ⟨_,c⟩=>Ld GP rfl (Bc (Bs ay c) rfl))<|Qx d rfl (v:=I f) (fun _ _=>Mv rfl)<|Qx d rfl (fun _ _=>Ix DY ba rfl bb bc)<|Qx d rfl (fun _ _=>Fd Mb rfl)<|Qx d rfl (fun _ ⟨_,c⟩=>Lx BA rfl rfl (Kd.At.part (A3.at_ (Es aj c)) 3 [I e.body.op,Sb e.body.name,Sb e.body.tail,I e.body.type_,Cx e.body.num,Sl b2 e.body.args b3,I e.body.at_] rfl))<|Qx d rfl (fun _ _=>Fz EA rfl)<|Qx d rfl (fun _ ⟨_,c⟩=>Ld GP rfl (Bc (Bs ay c) rfl))<|Qx d rfl (v:=I f) (fun _ _=>Mv rfl)<|Qx d rfl (fun _ _=>Ix DY ba rfl bb bc)<|Qx d rfl (fun _ _=>Fd NS rfl)<|Qx d rfl (fun _ ⟨_,c⟩=>Ld EB rfl (A3.cell (k:=2) (Es aj c) rfl))<|A5 rfl<|Bi a fun m c2 a=>BM rfl (.none rfl) rfl rfl (Cg [Ag [Sl ap l.funcs aq],Sl c0 e.params c1,Ag [I e.body.op,Sb e.body.name,Sb e.body.tail,I e.body.type_,Cx e.body.num,Sl b2 e.body.args b3,I e.body.at_],I e.type_] rfl)<|Calls.mono (TR r ad bx c2 (BH (x:=l) bz) b0 (Ab (x:=(AB.mk e.body.op e.body.name e.body.tail e.body.type_ e.body.num e.body.args e.body.at_)) b1)) ?_
 rintro _ c3 ⟨b4,ec,rfl,bd,b5⟩
 obtain ⟨ak,al,rfl⟩:=AR b5
 refine ⟨_,rfl,⟨_,(Mo [] bd)⟩,?_⟩
 refine Qx d rfl (v:=Sl ak m al) (fun _ _=>Run.assign rfl)<|Dt<|Sr<|Va (I 0)<|AA<|Ad<|Bj (fun aa ac am=>∃n p h y q,ac=Env.puts n [(1,Pt ar 0),(2,Pt au 0),(3,Pt ab 0),(4,I f),(5,Sl ak m al),(6,I h)]∧Ez f aw m aa h y q=some ae∧AS [22] b4 c3 p am∧Bk p am 22 ab [I y,I q] 63) r ?_ ?_
 refine have c4:=Y2 bt ax bd;⟨_,b4,0,u,w,Pu,a,(AS.refl [22] _ _),c4⟩
 rintro aa _ am ⟨n,p,h,y,q,rfl,a,be,az⟩
 rcases aa with _|aa
 exact A6 a
 refine have a:ES f aw m (Ez f aw m aa) h y q=some ae:=a; ?_
 obtain ⟨b6,b7⟩:∃s,s=Ez f aw m aa:=⟨_,rfl⟩
 rw [←b7,ES] at a
 refine AY<|Sr<|Vm<|Vm<|have bf:=Ss (Kd.int .i64) b5 be; ?_
 obtain ⟨ed,ee,c5⟩:=AR bf
 refine Vx (v:=I (m.length:Int)) (Ll SD c5)<|Vr (.bool (decide (h< (m.length:Int))))<|AA<|Cn a (fun c6 a=>?_) fun c6 a=>?_
 refine WC.skip<|An (fun ac bg=>∃n a0 a1 a2,ac=Env.puts n [(1,Pt ar 0),(2,Pt au 0),(3,Pt ab 0),(4,I f),(5,Sl ak m al),(6,I h)]∧Ik h b6 a1 a2=some ae∧AS [22] p am a0 bg∧Bk a0 bg 22 ab [I a1,I a2] 63) ?_ ?_
 refine Ad<|An (fun ac bh=>∃n an bi,ac=Env.puts n [(1,Pt ar 0),(2,Pt au 0),(3,Pt ab 0),(4,I f),(5,Sl ak m al),(6,I h),(57,.bool bi)]∧Il m h y q b6 bi=some ae∧AS [] p am an bh) ?_ ?_
 refine B8 Eg (qs 0 12 .nil) [] [] p (by kernel_rfl) fun c7 a3=>Qx d rfl (fun _ _=>Fz Mc rfl)<|have b8:=Bs az a3;Qx d rfl (fun _ ⟨_,c⟩=>Ld LE rfl (Bc (Bs b8 c) rfl))<|Qx d rfl (v:=.bool (y==0)) (fun _ _=>rfl)<|Qx d rfl (v:=.bool (y==0)) (fun _ _=>Mv rfl)<|Bo a (fun g a=>?_) fun g a=>?_
 refine Qp d rfl g<|Qp d rfl g<|Qp d rfl g<|Qp d rfl g<|Qp d rfl g<|Qp d rfl g<|Qp d rfl g<|Qx d rfl (v:=.bool true) (fun _ _=>(Pk g))<|Dt<|⟨_,p,true,Pu,a,(Mo [] a3)⟩
 refine Qg d rfl g (v:=Sl ak m al) (fun _ _=>Mv rfl)<|Qg d rfl g (v:=I h) (fun _ _=>Mv rfl)<|Bi a fun a4 c8 a=>have c9:=Ss (Kd.int .i64) bf a3; ?_
 obtain ⟨da,db,ef,b9,dc,de,df,dg,bj⟩:=BG (κ:=(Kd.int .i64)) c9 c8
 replace bj:A3 p c7 da (db+h.toNat*1) b9:=bj
 obtain rfl:=(show b9=[I a4] from dg)
 refine Qg d rfl g (fun _ _=>Ix SD dc rfl de df)<|Qg d rfl g (fun _ ⟨_,c⟩=>Ld CD rfl (A3.cell0 (Es bj c) rfl))<|Qg d rfl g (fun _ _=>Fd OY rfl)<|Qg d rfl g (fun _ ⟨_,c⟩=>Ld CD rfl (Bc (Bs b8 c) rfl))<|Qg d rfl g (v:=.bool (decide (a4<q))) (fun _ _=>rfl)<|Qx d rfl (v:=.bool (decide (a4<q))) (fun _ _=>(Pk g))<|Dt<|⟨_,p,(decide (a4<q)),Pu,a,(Mo [] a3)⟩
 rintro _ bh ⟨n,an,bi,rfl,a,ao⟩
 rw [Il] at a
 refine Cn a (fun dh a=>?_) fun dh a=>?_
 refine AM<|Vm<|Vm<|Bi a fun bk di a=>have dj:=Ss (Kd.int .i64) bf ao; ?_
 obtain ⟨dk,dl,eg,ca,dm,dn,dp,dq,bl⟩:=BG (κ:=(Kd.int .i64)) dj di
 replace bl:A3 an bh dk (dl+h.toNat*1) ca:=bl
 obtain rfl:=(show ca=[I bk] from dq)
 refine Vx (Ix SD dm rfl dn dp)<|Vx (Ld CD rfl (A3.cell0 bl rfl))<|Vx (v:=Ag [I 34,I bk]) (Bp E3 MF rfl (.cons rfl rfl rfl (.cons rfl rfl rfl .nil)))<|have dr:=Bs az ao;Eu<|St G6 dr rfl rfl rfl rfl fun eh ds dt=>AA<|⟨_,an,34,bk,Pu,a,(Tn (Mo [22] ao) dt),ds⟩
 refine WC.skip<|have du:=Bs az ao;⟨_,an,y,q,Pu,a,(Mo [22] ao),du⟩
 rintro _ bg ⟨n,a0,a1,a2,rfl,a,dv,dw⟩
 rw [Ik] at a
 refine AM<|Vm<|Vr (I (Wr (h+1)))<|Va (I (Wr (h+1)))<|AA<|⟨aa,Nat.lt_succ_self aa,_,a0,(Wr (h+1)),a1,a2,Pu,(b7▸a),(Tn (Mo [22] be) dv),dw⟩
 refine BZ<|AM<|Vm<|Vr (I (Wr (f+1)))<|Va (I (Wr (f+1)))<|AA<|⟨z,Nat.lt_succ_self z,_,p,(Wr (f+1)),y,q,Pu,(bu▸a),(T3 (Mo [22] ai) ax bd be),az⟩
 refine BZ<|Sr<|Vx (Lx KZ rfl rfl (Bw bt))<|have dx:=Y4 bp af ag ah ai;Eu<|St G6 dx rfl rfl rfl rfl fun ei dy dz=>AA<|AW ?_
 obtain rfl:=AN a
 refine O1 B bo rfl (.agg KZ rfl rfl (Bw dy))<|⟨ad,[I u,I w],rfl,Ho (T2 (T4 (Mo [21,22] a6) av af ag ah) ai dz) bm,(Ah (x:=(AF.mk u w)))⟩
theorem Oy(c:Nat):Dx.Spec (Dx c):=lk0 (R8 c)
def FX.At(c:Col)(a:World)(f:AE→(List AH)→Option Bool):Prop:=
 ∀{d e g h l},f d g=some l→AI.rep c.F a e d→Slc A1 c.F a h g→
  Calls PG 19 #[Ag e,h] a fun m n=>∃o,m=.returned (.bool l)∧AS [] c a o n
def FX.Spec(f:AE→(List AH)→Option Bool):Prop:=
 ∀a c,FX.At a c f
theorem TS(n:Nat)(ab:Col)(a6:World)(ac:∀b,ab b<10):FX.At ab a6 (FX n):=by
 intro o b1 g b2 ad a a7 am
 rw [FX] at a
 obtain ⟨b3,b4,rfl,an,a8⟩:=DA a7
 obtain ⟨b5,b6,rfl⟩:=AR an
 obtain ⟨b7,b8,rfl⟩:=AR a8
 obtain ⟨w,y,rfl⟩:=AR am
 refine Ay Tryz.func19 rfl Tryz.ntmps19 rfl fun B ae c=>Sr<|Ef<|BX ab 20 rfl rfl fun af a9 ao ap q=>Va (.bool false)<|AA<|AY<|Sr<|Vm<|have aq:=Ss A1 am q; ?_
 obtain ⟨b9,ca,ba⟩:=AR aq
 refine Vx (v:=I (g.length:Int)) (Ll KG ba)<|Vx (Fd Eh rfl)<|Vx (Ld E0 rfl (Bc ap rfl))<|have ar:=Ss Aa an q; ?_
 obtain ⟨cb,cc,bb⟩:=AR ar
 refine Vx (v:=I (o.params.length:Int)) (Ll ED bb)<|Vr (.bool ((g.length:Int) != (o.params.length:Int)))<|AA<|Cn a (fun bc a=>?_) fun bc a=>?_
 refine Sr<|Va (.bool false)<|AA<|AW ?_
 obtain rfl:=AN a
 refine O1 B ae rfl (.tmp rfl)<|⟨af,rfl,Ho (Mo [] q) ac⟩
 refine WC.skip<|AY<|Sr<|Va (I 0)<|AA<|Ad<|Bj (fun m ag ah=>∃r l e,ag=Env.puts r [(1,Sl w g y),(2,Pt ao 0),(5,I e)]∧IQ n o g m e=some ad∧AS [] af a9 l ah) n ?_ ?_
 exact ⟨_,af,0,Pu,a,Rf⟩
 rintro m _ ah ⟨r,l,e,rfl,a,p⟩
 rcases m with _|m
 exact A6 a
 refine have a:Im n o g (IQ n o g m) e=some ad:=a; ?_
 obtain ⟨bd,au⟩:∃s,s=IQ n o g m:=⟨_,rfl⟩
 rw [←au,Im] at a
 refine AY<|Sr<|Vm<|Vm<|have av:=Ss A1 aq p; ?_
 obtain ⟨cd,cf,be⟩:=AR av
 refine Vx (v:=I (g.length:Int)) (Ll KG be)<|Vr (.bool (decide (e< (g.length:Int))))<|AA<|Cn a (fun bf a=>?_) fun bf a=>?_
 refine WC.skip<|AY<|Ad<|An (fun ag aw=>∃r z ai,ag=Env.puts r [(1,Sl w g y),(2,Pt ao 0),(5,I e),(37,.bool ai)]∧Kz e bd ai=some ad∧AS [] l ah z aw) ?_ ?_
 refine B8 Eg (qs 0 17 (.one 17 (.q 18 (.q 19 .nil)))) [] [] l (by kernel_rfl) fun aj u=>Qx c rfl (v:=Sl w g y) (fun _ _=>Mv rfl)<|Qx c rfl (v:=I e) (fun _ _=>Mv rfl)<|Bi a fun h bg a=>have bh:=Ss A1 av u; ?_
 obtain ⟨bi,bj,cg,bk,ax,ay,az,bl,aa⟩:=BG (κ:=A1) bh bg
 replace aa:A3 l aj bi (bj+e.toNat*4) bk:=aa
 obtain ⟨a1,a2,rfl,a0⟩:=E1 (Bm bl)
 refine Qx c rfl (fun _ _=>Ix KG ax rfl ay az)<|Qx c rfl (fun _ _=>Fz I7 rfl)<|Qx c rfl (fun _ ⟨_,d⟩=>Ld EB rfl (A3.cell0 (Es aa d) rfl))<|Qx c rfl (fun _ _=>Fd Eh rfl)<|have bm:=Y2 ap p u;Qx c rfl (fun _ ⟨_,d⟩=>Ld E0 rfl (Bc (Bs bm d) rfl))<|Qx c rfl (v:=I e) (fun _ _=>Mv rfl)<|Bi a fun a3 bn a=>have bo:=K2 Aa ar p u; ?_
 obtain ⟨bp,bq,ci,br,bt,bu,bv,bw,ak⟩:=BG (κ:=Aa) bo bn
 replace ak:A3 l aj bp (bq+e.toNat*3) br:=ak
 obtain rfl:=Fv bw
 refine Qx c rfl (fun _ _=>Ix ED bt rfl bu bv)<|Qx c rfl (fun _ _=>Fd NT rfl)<|Qx c rfl (fun _ ⟨_,d⟩=>Ld EB rfl (A3.cell (k:=1) (Es ak d) rfl))<|Qx c rfl (v:=.bool (h.type_ != a3.type_)) (fun _ _=>rfl)<|Qx c rfl (v:=.bool (h.type_ != a3.type_)) (fun _ _=>Mv rfl)<|Bo a (fun f a=>?_) fun f a=>?_
 refine Qp c rfl f<|Qp c rfl f<|Qp c rfl f<|Qp c rfl f<|A5 rfl<|O8 rfl (.guard (t:=true) (b:=false) rfl rfl rfl rfl (Cb f)) rfl rfl<|⟨⟨_,Rf⟩,?_⟩
 refine Qp c rfl f<|Qx c rfl (v:=.bool true) (fun _ _=>(Pk f))<|Dt<|⟨_,l,true,Pu,a,(Mo [] u)⟩
 refine Qg c rfl f (v:=Sl w g y) (fun _ _=>Mv rfl)<|Qg c rfl f (v:=I e) (fun _ _=>Mv rfl)<|Qg c rfl f (fun _ _=>Ix KG ax rfl ay az)<|Qg c rfl f (fun _ ⟨_,d⟩=>Lx DX rfl rfl (A3.part0 (Es aa d) [I h.type_,Cx h.num,.bool h.bool,Sl a1 h.list a2] rfl))<|A5 rfl<|Bi a fun al bx a=>BM rfl (.guard (t:=false) (b:=false) rfl rfl rfl rfl (Cb f)) rfl rfl (Cg [Ag [I h.type_,Cx h.num,.bool h.bool,Sl a1 h.list a2]] rfl)<|Calls.mono (Lg n l aj bx (BD (x:=h) a0)) ?_
 rintro _ cj ⟨bz,rfl,a4⟩
 refine ⟨_,rfl,⟨_,(Mo [] a4)⟩,?_⟩
 refine Qg c rfl f (v:=.bool (!al)) (fun _ _=>rfl)<|Qx c rfl (v:=.bool (!al)) (fun _ _=>(Pk f))<|Dt<|⟨_,bz,(!al),Pu,a,(Tn (Mo [] u) a4)⟩
 rintro _ aw ⟨r,z,ai,rfl,a,a5⟩
 rw [Kz] at a
 refine Cn a (fun b0 a=>?_) fun b0 a=>?_
 refine Sr<|Va (.bool false)<|AA<|AW ?_
 obtain rfl:=AN a
 refine O1 B ae rfl (.tmp rfl)<|⟨z,rfl,Ho (T2 (Mo [] q) p a5) ac⟩
 refine WC.skip<|AM<|Vm<|Vr (I (Wr (e+1)))<|Va (I (Wr (e+1)))<|AA<|⟨m,Nat.lt_succ_self m,_,z,(Wr (e+1)),Pu,(au▸a),(Tn (Mo [] p) a5)⟩
 refine BZ<|Sr<|Va (.bool true)<|AA<|AW ?_
 obtain rfl:=AN a
 refine O1 B ae rfl (.tmp rfl)<|⟨l,rfl,Ho (Tn (Mo [] q) p) ac⟩
theorem UO(c:Nat):FX.Spec (FX c):=lk0 (TS c)
end Fth
namespace Fth
open Go Go.Proofs Sh
set_option maxRecDepth 100000
set_option maxHeartbeats 8000000
def JL.At(c:Col)(a:World)(f:AH→AH→Option Bool):Prop:=
 ∀{d e g h l},f d g=some l→A1.rep c.F a e d→A1.rep c.F a h g→
  Calls PG 23 #[Ag e,Ag h] a fun m n=>∃o,m=.returned (.bool l)∧AS [] c a o n
def JL.Spec(f:AH→AH→Option Bool):Prop:=
 ∀a c,JL.At a c f
theorem TT(ac:Nat)(ai:Col)(bj:World)(aj:∀b,ai b<10):JL.At ai bj (JL ac):=by
 intro c cl d cm ak a bk bl
 rw [JL] at a
 obtain ⟨av,aw,rfl,al⟩:=E1 (Bm bk)
 obtain ⟨ax,ay,rfl,am⟩:=E1 (Bm bl)
 refine Ay Tryz.func23 rfl Tryz.ntmps23 rfl fun B an n=>Sr<|Ef<|BX ai 20 rfl rfl fun bm cq az a0 y=>Ef<|BX bm 21 rfl rfl fun a1 a2 a3 a4 p=>Va (.bool false)<|AA<|AY<|An (fun ao ap=>∃ad ae aq,ao=Env.puts ad [(2,Pt az 0),(3,Pt a3 0),(43,.bool aq)]∧HR ac c d aq=some ak∧AS [] a1 a2 ae ap) ?_ ?_
 refine AM<|have a5:=Bs a0 p;Vx (Lx DX rfl rfl (Bw a5))<|have a6:=K2 Kd.cpx al y p;Bi a fun bn bo a=>Ca (Cg [Ag [I c.type_,Cx c.num,.bool c.bool,Sl av c.list aw]] rfl) (Lg ac a1 a2 bo (BD (x:=c) a6)) ?_
 rintro _ bp ⟨a7,rfl,o⟩
 refine Vr (.bool (!bn))<|Vm<|Bo a (fun q a=>?_) fun q a=>?_
 refine Pg q<|Pg q<|Pg q<|Vp q<|Vm<|Pg rfl<|Pg rfl<|Pg rfl<|Pg rfl<|Pg rfl<|Vr (.bool true)<|Vm<|Pg rfl<|Pg rfl<|Pg rfl<|Pg rfl<|Pg rfl<|Vr (.bool true)<|Vm<|Pg rfl<|Pg rfl<|Pg rfl<|Pg rfl<|Pg rfl<|Vr (.bool true)<|Vm<|Pg rfl<|Pg rfl<|Pg rfl<|Pg rfl<|Pg rfl<|Pg rfl<|Pg rfl<|Vr (.bool true)<|AA<|⟨_,a7,true,Pu,a,(Mo [] o)⟩
 refine have a8:=Bs a4 o;Gx q (Lx DX rfl rfl (Bw a8))<|have a9:=K3 Kd.cpx am y p o;Bi a fun bq br a=>B7 (.guard (t:=false) (b:=false) rfl rfl rfl rfl (Cb q)) rfl rfl (Cg [Ag [I d.type_,Cx d.num,.bool d.bool,Sl ax d.list ay]] rfl)<|Calls.mono (Lg ac a7 bp br (BD (x:=d) a9)) ?_
 rintro _ cr ⟨af,rfl,r⟩
 refine ⟨_,rfl,?_⟩
 refine Gr q (.bool (!bq))<|Vp q<|Vm<|Bo a (fun g a=>?_) fun g a=>?_
 refine Pg g<|Pg g<|Pg g<|Pg g<|Pg g<|Vp g<|Vm<|Pg rfl<|Pg rfl<|Pg rfl<|Pg rfl<|Pg rfl<|Vr (.bool true)<|Vm<|Pg rfl<|Pg rfl<|Pg rfl<|Pg rfl<|Pg rfl<|Vr (.bool true)<|Vm<|Pg rfl<|Pg rfl<|Pg rfl<|Pg rfl<|Pg rfl<|Pg rfl<|Pg rfl<|Vr (.bool true)<|AA<|⟨_,af,true,Pu,a,(Tn (Mo [] o) r)⟩
 refine Gx g (Fz I7 rfl)<|have ag:=Y2 a5 o r;Gx g (Ld EB rfl (Bc ag rfl))<|Gx g (Fz I7 rfl)<|have ah:=Bs a8 r;Gx g (Ld EB rfl (Bc ah rfl))<|Gr g (.bool (c.type_ != d.type_))<|Vp g<|Vm<|Bo a (fun h a=>?_) fun h a=>?_
 refine Pg h<|Pg h<|Pg h<|Pg h<|Pg h<|Vp h<|Vm<|Pg rfl<|Pg rfl<|Pg rfl<|Pg rfl<|Pg rfl<|Vr (.bool true)<|Vm<|Pg rfl<|Pg rfl<|Pg rfl<|Pg rfl<|Pg rfl<|Pg rfl<|Pg rfl<|Vr (.bool true)<|AA<|⟨_,af,true,Pu,a,(Tn (Mo [] o) r)⟩
 refine Gx h (Fd Hp rfl)<|Gx h (Ld Hq rfl (Bc ag rfl))<|Gx h (Fd Hp rfl)<|Gx h (Ld Hq rfl (Bc ah rfl))<|Gx h (v:=.bool (cne c.num d.num)) (Run.cne rfl rfl)<|Vp h<|Vm<|Bo a (fun l a=>?_) fun l a=>?_
 refine Pg l<|Pg l<|Pg l<|Pg l<|Pg l<|Vp l<|Vm<|Pg rfl<|Pg rfl<|Pg rfl<|Pg rfl<|Pg rfl<|Pg rfl<|Pg rfl<|Vr (.bool true)<|AA<|⟨_,af,true,Pu,a,(Tn (Mo [] o) r)⟩
 refine Gx l (Fd Ka rfl)<|Gx l (Ld N2 rfl (Bc ag rfl))<|Gx l (Fd Ka rfl)<|Gx l (Ld N2 rfl (Bc ah rfl))<|Gx l (v:=.bool (!(c.bool==d.bool))) (Run.boolNe AAj rfl rfl)<|Vp l<|Vm<|Bo a (fun e a=>?_) fun e a=>?_
 refine Pg e<|Pg e<|Pg e<|Pg e<|Pg e<|Pg e<|Pg e<|Vp e<|AA<|⟨_,af,true,Pu,a,(Tn (Mo [] o) r)⟩
 refine Gx e (Fd EU rfl)<|Gx e (Ld In rfl (Bc ag rfl))<|have bt:=K2 Kd.cpx a6 o r; ?_
 obtain ⟨ct,cu,bu⟩:=AR bt
 refine Gx e (v:=I (c.list.length:Int)) (Ll IH bu)<|Gx e (Fd EU rfl)<|Gx e (Ld In rfl (Bc ah rfl))<|have bv:=Ss Kd.cpx a9 r; ?_
 obtain ⟨cv,cw,bw⟩:=AR bv
 refine Gx e (v:=I (d.list.length:Int)) (Ll IH bw)<|Gr e (.bool ((c.list.length:Int) != (d.list.length:Int)))<|Vp e<|AA<|⟨_,af,((c.list.length:Int) != (d.list.length:Int)),Pu,a,(Tn (Mo [] o) r)⟩
 rintro _ ap ⟨ad,ae,aq,rfl,a,z⟩
 rw [HR] at a
 refine Cn a (fun bx a=>?_) fun bx a=>?_
 refine Sr<|Va (.bool false)<|AA<|AW ?_
 obtain rfl:=AN a
 refine O1 B an rfl (.tmp rfl)<|⟨ae,rfl,Ho (T2 (Mo [] y) p z) aj⟩
 refine WC.skip<|AY<|Sr<|Va (I 0)<|AA<|Ad<|Bj (fun u ao ba=>∃ad w m,ao=Env.puts ad [(2,Pt az 0),(3,Pt a3 0),(5,I m)]∧JK c d u m=some ak∧AS [] ae ap w ba) ac ?_ ?_
 exact ⟨_,ae,0,Pu,a,Rf⟩
 rintro u _ ba ⟨ad,w,m,rfl,a,aa⟩
 rcases u with _|u
 exact A6 a
 refine have a:KY c d (JK c d u) m=some ak:=a; ?_
 obtain ⟨cx,bb⟩:∃s,s=JK c d u:=⟨_,rfl⟩
 rw [←bb,KY] at a
 refine AY<|Sr<|Vm<|Vx (Fd EU rfl)<|have bc:=Y3 a0 p z aa;Vx (Ld In rfl (Bc bc rfl))<|have bd:=K4 Kd.cpx al y p z aa; ?_
 obtain ⟨cy,cz,bz⟩:=AR bd
 refine Vx (v:=I (c.list.length:Int)) (Ll IH bz)<|Vr (.bool (decide (m< (c.list.length:Int))))<|AA<|Cn a (fun b0 a=>?_) fun b0 a=>?_
 refine WC.skip<|AY<|Ad<|AY<|B8 Eg (qs 0 11 .nil) [] [] w (by kernel_rfl) fun be ab=>Qx n rfl (fun _ _=>Fd EU rfl)<|have b1:=Bs bc ab;Qx n rfl (fun _ ⟨_,f⟩=>Ld In rfl (Bc (Bs b1 f) rfl))<|Qx n rfl (v:=I m) (fun _ _=>Mv rfl)<|Bi a fun bf b2 a=>have b3:=Ss Kd.cpx bd ab; ?_
 obtain ⟨b4,b5,c0,bg,b6,b7,b8,b9,ar⟩:=BG (κ:=Kd.cpx) b3 b2
 replace ar:A3 w be b4 (b5+m.toNat*1) bg:=ar
 obtain rfl:=(show bg=[Cx bf] from b9)
 refine Qx n rfl (fun _ _=>Ix IH b6 rfl b7 b8)<|Qx n rfl (fun _ ⟨_,f⟩=>Ld Hq rfl (A3.cell0 (Es ar f) rfl))<|Qx n rfl (fun _ _=>Fd EU rfl)<|have ca:=Y3 a4 z aa ab;Qx n rfl (fun _ ⟨_,f⟩=>Ld In rfl (Bc (Bs ca f) rfl))<|Qx n rfl (v:=I m) (fun _ _=>Mv rfl)<|Bi a fun bh cb a=>have cc:=Ss Kd.cpx (K4 Kd.cpx am y p z aa) ab; ?_
 obtain ⟨cd,cf,c1,bi,cg,ch,ci,cj,au⟩:=BG (κ:=Kd.cpx) cc cb
 replace au:A3 w be cd (cf+m.toNat*1) bi:=au
 obtain rfl:=(show bi=[Cx bh] from cj)
 refine Qx n rfl (fun _ _=>Ix IH cg rfl ch ci)<|Qx n rfl (fun _ ⟨_,f⟩=>Ld Hq rfl (A3.cell0 (Es au f) rfl))<|Qx n rfl (v:=.bool (cne bf bh)) (fun _ _=>(Run.cne rfl rfl))<|Dt<|Cn a (fun ck a=>?_) fun ck a=>?_
 refine Sr<|Va (.bool false)<|AA<|AW ?_
 obtain rfl:=AN a
 refine O1 B an rfl (.tmp rfl)<|⟨w,rfl,Ho (T4 (Mo [] y) p z aa ab) aj⟩
 refine WC.skip<|AM<|Vm<|Vr (I (Wr (m+1)))<|Va (I (Wr (m+1)))<|AA<|⟨u,Nat.lt_succ_self u,_,w,(Wr (m+1)),Pu,(bb▸a),(Tn (Mo [] aa) ab)⟩
 refine BZ<|Sr<|Va (.bool true)<|AA<|AW ?_
 obtain rfl:=AN a
 refine O1 B an rfl (.tmp rfl)<|⟨w,rfl,Ho (T3 (Mo [] y) p z aa) aj⟩
theorem UP(c:Nat):JL.Spec (JL c):=lk0 (TT c)
def G5.At(c:Col)(a:World)(f:AH→AH→Option Bool):Prop:=
 ∀{d e g h l},f d g=some l→A1.rep c.F a e d→A1.rep c.F a h g→
  Calls PG 22 #[Ag e,Ag h] a fun m n=>∃o,m=.returned (.bool l)∧AS [] c a o n
def G5.Spec(f:AH→AH→Option Bool):Prop:=
 ∀a c,G5.At a c f
theorem R9(u:Nat)(w:Col)(ar:World)(aj:∀b,w b<10):G5.At w ar (G5 u):=by
 intro d bf c bg ak a au av
 rw [G5] at a
 obtain ⟨al,am,rfl,y⟩:=E1 (Bm au)
 obtain ⟨an,ao,rfl,z⟩:=E1 (Bm av)
 refine Ay Tryz.func22 rfl Tryz.ntmps22 rfl fun B ap bj=>Sr<|Ef<|BX w 20 rfl rfl fun aw bk ax aa q=>Ef<|BX aw 21 rfl rfl fun ab ay az ac l=>Va (.bool false)<|AA<|AY<|An (fun ad s=>∃r g ae,ad=Env.puts r [(2,Pt ax 0),(3,Pt az 0),(12,.bool ae)]∧Jk u d c ae=some ak∧AS [] ab ay g s) ?_ ?_
 refine AM<|Vx (Fz I7 rfl)<|have a0:=Bs aa l;Vx (Ld EB rfl (Bc a0 rfl))<|Vr (.bool (d.type_==0))<|Vm<|Bo a (fun m a=>?_) fun m a=>?_
 refine Gx m (Fz I7 rfl)<|Gx m (Ld EB rfl (Bc ac rfl))<|Gr m (.bool (c.type_==0))<|Vp m<|AA<|⟨_,ab,(c.type_==0),Pu,a,Rf⟩
 refine Pg m<|Pg m<|Pg m<|Vp m<|AA<|⟨_,ab,false,Pu,a,Rf⟩
 rintro _ s ⟨r,g,ae,rfl,a,h⟩
 rw [Jk] at a
 refine Cn a (fun a1 a=>?_) fun a1 a=>?_
 refine An (fun ad aq=>∃r af ag,ad=Env.puts r [(4,.bool ag)]∧Hn ag=some ak∧AS [] g s af aq) ?_ ?_
 refine AM<|Vx (Fd Hp rfl)<|have ah:=Y2 aa l h;Vx (Ld Hq rfl (Bc ah rfl))<|Vx (v:=.bool (ceq d.num ((0,0):Nat×Nat))) (Run.ceq rfl rfl)<|Vm<|Bo a (fun n a=>?_) fun n a=>?_
 refine Gx n (Fd Hp rfl)<|have ai:=Bs ac h;Gx n (Ld Hq rfl (Bc ai rfl))<|Gx n (v:=.bool (ceq c.num ((0,0):Nat×Nat))) (Run.ceq rfl rfl)<|Vp n<|Vm<|Bo a (fun o a=>?_) fun o a=>?_
 refine Gx o (Fd Ka rfl)<|Gx o (Ld N2 rfl (Bc ah rfl))<|Gr o (.bool (!d.bool))<|Vp o<|Vm<|Bo a (fun p a=>?_) fun p a=>?_
 refine Gx p (Fd Ka rfl)<|Gx p (Ld N2 rfl (Bc ai rfl))<|Gr p (.bool (!c.bool))<|Vp p<|Vm<|Bo a (fun e a=>?_) fun e a=>?_
 refine Gx e (Fd EU rfl)<|Gx e (Ld In rfl (Bc ah rfl))<|have a2:=K3 Kd.cpx y q l h; ?_
 obtain ⟨bl,bm,a3⟩:=AR a2
 refine Gx e (v:=I (d.list.length:Int)) (Ll IH a3)<|Gr e (.bool ((d.list.length:Int)==0))<|Vp e<|Vm<|Bo a (fun f a=>?_) fun f a=>?_
 refine Gx f (Fd EU rfl)<|Gx f (Ld In rfl (Bc ai rfl))<|have a4:=K3 Kd.cpx z q l h; ?_
 obtain ⟨bn,bo,a5⟩:=AR a4
 refine Gx f (v:=I (c.list.length:Int)) (Ll IH a5)<|Gr f (.bool ((c.list.length:Int)==0))<|Vp f<|Va (.bool ((c.list.length:Int)==0))<|AA<|⟨_,g,((c.list.length:Int)==0),Pu,a,Rf⟩
 refine Pg f<|Pg f<|Pg f<|Pg f<|Vp f<|Va (.bool false)<|AA<|⟨_,g,false,Pu,a,Rf⟩
 refine Pg e<|Pg e<|Pg e<|Pg e<|Vp e<|Vm<|Pg rfl<|Pg rfl<|Pg rfl<|Pg rfl<|Vr (.bool false)<|Va (.bool false)<|AA<|⟨_,g,false,Pu,a,Rf⟩
 refine Pg p<|Pg p<|Pg p<|Vp p<|Vm<|Pg rfl<|Pg rfl<|Pg rfl<|Pg rfl<|Vr (.bool false)<|Vm<|Pg rfl<|Pg rfl<|Pg rfl<|Pg rfl<|Vr (.bool false)<|Va (.bool false)<|AA<|⟨_,g,false,Pu,a,Rf⟩
 refine Pg o<|Pg o<|Pg o<|Vp o<|Vm<|Pg rfl<|Pg rfl<|Pg rfl<|Vr (.bool false)<|Vm<|Pg rfl<|Pg rfl<|Pg rfl<|Pg rfl<|Vr (.bool false)<|Vm<|Pg rfl<|Pg rfl<|Pg rfl<|Pg rfl<|Vr (.bool false)<|Va (.bool false)<|AA<|⟨_,g,false,Pu,a,Rf⟩
 refine Pg n<|Pg n<|Pg n<|Vp n<|Vm<|Pg rfl<|Pg rfl<|Pg rfl<|Vr (.bool false)<|Vm<|Pg rfl<|Pg rfl<|Pg rfl<|Vr (.bool false)<|Vm<|Pg rfl<|Pg rfl<|Pg rfl<|Pg rfl<|Vr (.bool false)<|Vm<|Pg rfl<|Pg rfl<|Pg rfl<|Pg rfl<|Vr (.bool false)<|Va (.bool false)<|AA<|⟨_,g,false,Pu,a,Rf⟩
 rintro _ aq ⟨r,af,ag,rfl,a,a6⟩
 rw [Hn] at a
 refine AW ?_
 obtain rfl:=AN a
 refine O1 B ap rfl (.tmp rfl)<|⟨af,rfl,Ho (T3 (Mo [] q) l h a6) aj⟩
 refine WC.skip<|Sr<|have a7:=Y2 aa l h;Vx (Lx DX rfl rfl (Bw a7))<|have a8:=Bs ac h;Vx (Lx DX rfl rfl (Bw a8))<|have a9:=K3 Kd.cpx y q l h;have ba:=K3 Kd.cpx z q l h;Bi a fun bb bc a=>Ca (Cg [Ag [I d.type_,Cx d.num,.bool d.bool,Sl al d.list am],Ag [I c.type_,Cx c.num,.bool c.bool,Sl an c.list ao]] rfl) (UP u g s bc (BD (x:=d) a9) (BD (x:=c) ba)) ?_
 rintro _ bp ⟨bd,rfl,be⟩
 refine Va (.bool bb)<|AA<|AW ?_
 obtain rfl:=AN a
 refine O1 B ap rfl (.tmp rfl)<|⟨bd,rfl,Ho (T3 (Mo [] q) l h be) aj⟩
theorem TU(c:Nat):G5.Spec (G5 c):=lk0 (R9 c)
end Fth
