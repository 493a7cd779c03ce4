/- Part 4 of the proof: what it says holds of the given program; no condition. -/
import Derived.Test.YtiodboehkcmdnaaGreatProg
import Derived.KernelRfl
import Derived.Test.YtiodboehkcmdnaaGreatKC
set_option linter.all false
set_option exponentiation.threshold 3000
namespace Fth
open Go Go.Proofs Sh
set_option maxRecDepth 100000
set_option maxHeartbeats 8000000
theorem O7(a9:AH)(ba:Nat)(au:AH.Good a9)(y:Col)(ad:World)(z:∀b,y b<10){q:Nat}{n:(List AN)}{bt:Value}{g:(List AJ)}{bu:Value}{bb:Nat}{bc:As}{a3:Nat}{f:AF}{bv:List Value}{e:AE}{bw:List Value}{ae:Int×(List AN)×(List AJ)×AF}(ai:Bk y ad 1 q [.map (some bb),bt,bu,.func (.func 52) #[] [Pt a3 0].toArray] 134)(aa:Slc AI y.F ad bt n)(af:Own AZ 87 y ad 4 bu g)(a4:Mp y ad 2 bb bc)(ag:Bk y ad 3 a3 bv 63)(c0:An.rep y.F ad bv f)(c1:AG.rep y.F ad bw e)(a:HE a9 ba n g bc f e=some ae):
  Calls PG 87 #[Pt q 0,Ag bw] ad λc2 ap=>∃aq bx bz b0,c2=.returned (I ae.1)/\AU [1,3,4] y ad aq ap/\Bk aq ap 1 q [.map (some bb),bx,bz,.func (.func 52) #[] [Pt a3 0].toArray] 134/\Slc AI aq.F ap bx ae.2.1/\Own AZ 87 aq ap 4 bz ae.2.2.1/\Bk aq ap 3 a3 b0 63/\An.rep aq.F ap b0 ae.2.2.2:=by
 rw [HE] at a
 obtain ⟨av,aw,rfl⟩:=AW aa
 obtain ⟨ax,ay,rfl⟩:=Own.len af
 obtain rfl:=Au c0
 obtain ⟨a5,a6,rfl,az⟩:=E1 (Ae c1)
 refine Az Tryz.func87 Z Tryz.ntmps87 Z λB ab r=>Sr<|Ef<|A0 y 20 Z Z λbd c3 b1 an d=>Va (I 0)<|AA<|AT<|Sr<|Vx (Fz Cp Z)<|Vx (Ld GC Z (Bc an Z))<|AA<|Ah<|Am (λa0 aj=>∃ak o be,a0=Env.puts ak [(0,Pt q 0),(3,Pt b1 0),(7,I e.op),(8,.bool be)]/\FK a9 ba n g bc f e be=some ae/\AU [] bd c3 o aj) ?_ ?_
 refine Sr<|Vr (.bool (e.op==2))<|Va (.bool (e.op==2))<|AA<|Cn a (λc4 a=>?_) λc4 a=>?_
 refine AR<|⟨_,bd,(e.op==2),Pu,a,Rf⟩
 refine AM<|Vr (.bool (e.op==3))<|Va (.bool (e.op==3))<|AA<|⟨_,bd,(e.op==3),Pu,a,Rf⟩
 rintro _ aj ⟨ak,o,be,rfl,a,c⟩
 rw [FK] at a
 refine Cn a (λc5 a=>?_) λc5 a=>?_
 refine Sr<|Va (I 2)<|AA<|AS ?_
 obtain rfl:=AK a
 refine O1 B ab Z (.tmp Z)<|have c6:=Y2 ai d c;have c7:=K2 AI aa d c;have c8:=Os (Os af d) c;have c9:=Y2 ag d c;⟨o,Sl av n aw,Sl ax g ay,[I f.why,I f.at_],Z,Ho (Tn (Mo [] d) c) z,c6,c7,c8,c9,(Al (x:=f))⟩
 refine Sr<|Vr (.bool (e.op==4))<|Va (.bool (e.op==4))<|AA<|Cn a (λda a=>?_) λda a=>?_
 refine Sr<|Va (I 3)<|AA<|AS ?_
 obtain rfl:=AK a
 refine O1 B ab Z (.tmp Z)<|have db:=Y2 ai d c;have dc:=K2 AI aa d c;have de:=Os (Os af d) c;have df:=Y2 ag d c;⟨o,Sl av n aw,Sl ax g ay,[I f.why,I f.at_],Z,Ho (Tn (Mo [] d) c) z,db,dc,de,df,(Al (x:=f))⟩
 refine Sr<|Vr (.bool (e.op==5))<|Va (.bool (e.op==5))<|AA<|Cn a (λdg a=>?_) λdg a=>?_
 refine Sr<|Vx (Fd Kk Z)<|have dh:=Bs an c;Vx (Ld Dl Z (Bc dh Z))<|Va (I e.type_)<|AA<|AS ?_
 obtain rfl:=AK a
 refine O1 B ab Z (.tmp Z)<|have di:=Y2 ai d c;have dj:=K2 AI aa d c;have dk:=Os (Os af d) c;have dl:=Y2 ag d c;⟨o,Sl av n aw,Sl ax g ay,[I f.why,I f.at_],Z,Ho (Tn (Mo [] d) c) z,di,dj,dk,dl,(Al (x:=f))⟩
 refine Sr<|Vr (.bool (e.op==6))<|Va (.bool (e.op==6))<|AA<|Cn a (λdm a=>?_) λdm a=>?_
 refine AT<|Sr<|Vm<|Vx (Nc Z)<|Vx (Fd Fp Z)<|have bf:=Y2 ai d c;Vx (Ld EF Z (Bc bf Z))<|have bg:=Os (Os af d) c; ?_
 obtain ⟨g1,g2,dn⟩:=Own.len bg
 refine Vx (v:=I (g.length:Int)) (Ll Df dn)<|Vr (I (Wr ((g.length:Int) - 1)))<|Va (I (Wr ((g.length:Int) - 1)))<|AA<|Ah<|Bj (λal a0 b2=>∃ak am u,a0=Env.puts ak [(0,Pt q 0),(3,Pt b1 0),(5,I u)]/\FJ n g f e al u=some ae/\AU [] o aj am b2) ba ?_ ?_
 exact ⟨_,o,(Wr ((g.length:Int) - 1)),Pu,a,Rf⟩
 rintro al _ b2 ⟨ak,am,u,rfl,a,p⟩
 rcases al with _|al
 exact A5 a
 refine have a:HT n g f e (FJ n g f e al) u=some ae:=a; ?_
 obtain ⟨g3,b3⟩:∃s,s=FJ n g f e al:=⟨_,rfl⟩
 rw [<-b3,HT] at a
 refine AT<|Sr<|Vm<|Vr (.bool (decide (u>=0)))<|AA<|Cn a (λdp a=>?_) λdp a=>?_
 refine AR<|AT<|Ah<|AT<|BZ C7 (qs 0 11 .nil) [] [] am (by kernel_rfl) λb4 ao=>Qx r Z (v:=Pt q 0) (λ_ _=>Mv Z)<|Qx r Z (λ_ _=>Nc Z)<|Qx r Z (λ_ _=>Fd Fp Z)<|have bh:=Y2 bf p ao;Qx r Z (λ_ ⟨_,m⟩=>Ld EF Z (Bc (Bs bh m) Z))<|Qx r Z (v:=I u) (λ_ _=>Mv Z)<|Bi a λdq dr a=>have bi:=Os (Os bg p) ao; ?_
 obtain ⟨ds,g4,dt,du,dv,dw,dx,bj⟩:=JQ (κ:=AZ) bi dr
 replace bj:Fv 4 am b4 ds (0+u.toNat*3) dt:=bj
 obtain rfl:=EK dx
 refine Qx r Z (λ_ _=>Ix Df du Z dv dw)<|Qx r Z (λ_ _=>Fz Kl Z)<|Qx r Z (λ_ ⟨_,m⟩=>Ld B7 Z (Fv.cell0 (Fv.step bj m dcd) Z))<|Qx r Z (λ_ _=>Fd DW Z)<|have dy:=Y3 an c p ao;Qx r Z (λ_ ⟨_,m⟩=>Ld B7 Z (Bc (Bs dy m) Z))<|Qx r Z (v:=.bool (dq.name==e.name)) (λ_ _=>Run.strEq Z Z)<|CA<|Cn a (λdz a=>?_) λdz a=>?_
 refine Sr<|Vm<|Vx (Nc Z)<|Vx (Fd Fp Z)<|Vx (Ld EF Z (Bc bh Z))<|Vm<|Bi a λd0 d1 a=>?_
 obtain ⟨d2,g5,d3,d4,d5,d6,d7,bk⟩:=JQ (κ:=AZ) bi d1
 replace bk:Fv 4 am b4 d2 (0+u.toNat*3) d3:=bk
 obtain rfl:=EK d7
 refine Vx (Ix Df d4 Z d5 d6)<|Vx (Fd My Z)<|Vx (Ld Dl Z (Fv.cell (j:=1) bk Z))<|Va (I d0.type_)<|AA<|AS ?_
 obtain rfl:=AK a
 refine O1 B ab Z (.tmp Z)<|have d8:=K4 AI aa d c p ao;have d9:=Y4 ag d c p ao;⟨am,Sl av n aw,Sl ax g ay,[I f.why,I f.at_],Z,Ho (T3 (Mo [] d) c p ao) z,bh,d8,bi,d9,(Al (x:=f))⟩
 refine AR<|AM<|Vm<|Vr (I (Wr (u - 1)))<|Va (I (Wr (u - 1)))<|AA<|⟨al,Nat.lt_succ_self al,_,am,(Wr (u - 1)),Pu,(b3▸a),(Tn (Mo [] p) ao)⟩
 refine BX<|Sr<|Va (I 0)<|AA<|AS ?_
 obtain rfl:=AK a
 refine O1 B ab Z (.tmp Z)<|have ea:=Bs bf p;have eb:=K3 AI aa d c p;have ec:=Os bg p;have ed:=Y3 ag d c p;⟨am,Sl av n aw,Sl ax g ay,[I f.why,I f.at_],Z,Ho (T2 (Mo [] d) c p) z,ea,eb,ec,ed,(Al (x:=f))⟩
 refine Sr<|Vr (.bool (e.op==7))<|Va (.bool (e.op==7))<|AA<|Cn a (λee a=>?_) λee a=>?_
 refine Sr<|Vm<|have ef:=Bs an c;Vx (Lx BA Z Z (Bw ef))<|have eg:=Y2 ai d c;have eh:=K2 AI aa d c;have ei:=Os (Os af d) c;have ej:=Ms (Ms a4 d) c;have ek:=Y2 ag d c;have el:=K2 AG az d c;Bi a λar em a=>Ca (Cg [Pt q 0,Ag [I e.op,Sb e.name,Sb e.tail,I e.type_,Cx e.num,Sl a5 e.args a6,I e.at_]] Z) (au.types_checker_call o aj (ko0_2:=4) em dcd dcd eg eh ei ej ek (Al (x:=f)) (AY (x:=e) el)) ?_
 rintro _ g6 ⟨en,g7,g8,g9,rfl,eo,ep,b5,b6,eq,er⟩
 obtain ⟨es,et,rfl⟩:=AW b5
 obtain ⟨eu,ew,rfl⟩:=Own.len b6
 obtain rfl:=Au er
 refine Va (I ar.1)<|AA<|AS ?_
 obtain rfl:=AK a
 refine O1 B ab Z (.tmp Z)<|⟨en,Sl es ar.2.1 et,Sl eu ar.2.2.1 ew,[I ar.2.2.2.why,I ar.2.2.2.at_],Z,Ho (T2 (Mo [1,3,4] d) c eo) z,ep,b5,b6,eq,(Al (x:=ar.2.2.2))⟩
 refine Sr<|Vr (.bool (e.op==14))<|Va (.bool (e.op==14))<|AA<|Cn a (λex a=>?_) λex a=>?_
 refine Sr<|Vm<|Vx (Fd BR Z)<|have ey:=Bs an c;Vx (Ld CR Z (Bc ey Z))<|have ez:=Y2 ai d c;have e0:=K2 AI aa d c;have e1:=Os (Os af d) c;have e2:=Ms (Ms a4 d) c;have e3:=Y2 ag d c;have e4:=K2 AG az d c;Bi a λa1 e5 a=>Ca (Cg [Pt q 0,I 2,Sl a5 e.args a6] Z) (au.types_checker_all o aj (ko0_2:=4) e5 dcd dcd ez e0 e1 e2 e3 (Al (x:=f)) e4) ?_
 rintro _ ha ⟨e6,hb,hc,hd,rfl,e7,e8,b7,b8,e9,fa⟩
 obtain ⟨fb,fc,rfl⟩:=AW b7
 obtain ⟨fd,fe,rfl⟩:=Own.len b8
 obtain rfl:=Au fa
 refine AA<|Sr<|Va (I 2)<|AA<|AS ?_
 obtain rfl:=AK a
 refine O1 B ab Z (.tmp Z)<|⟨e6,Sl fb a1.1 fc,Sl fd a1.2.1 fe,[I a1.2.2.why,I a1.2.2.at_],Z,Ho (T2 (Mo [1,3,4] d) c e7) z,e8,b7,b8,e9,(Al (x:=a1.2.2))⟩
 refine Sr<|Vr (.bool (e.op==18))<|Va (.bool (e.op==18))<|AA<|Cn a (λff a=>?_) λff a=>?_
 refine Sr<|Vm<|Vx (Fd BR Z)<|have b9:=Bs an c;Vx (Ld CR Z (Bc b9 Z))<|Bi a λh fg a=>have ca:=K2 AG az d c; ?_
 obtain ⟨fh,fi,he,fj,fk,fl,fm,fn,bl⟩:=A8 (κ:=AG) ca fg
 replace bl:Ay o aj fh (fi+(0:Int).toNat*7) fj:=bl
 obtain ⟨cc,cd,rfl,cb⟩:=E1 (Ae fn)
 refine Vx (Ix CG fk Z fl fm)<|Vx (Lx BA Z Z (Ay.part0 bl [I h.op,Sb h.name,Sb h.tail,I h.type_,Cx h.num,Sl cc h.args cd,I h.at_] Z))<|have fo:=Y2 ai d c;have fp:=K2 AI aa d c;have fq:=Os (Os af d) c;have cf:=Ms (Ms a4 d) c;have fr:=Y2 ag d c;Bi a λfs ft a=>Ca (Cg [Pt q 0,Ag [I h.op,Sb h.name,Sb h.tail,I h.type_,Cx h.num,Sl cc h.args cd,I h.at_],I 1] Z) (au.types_checker_want o aj (ko0_2:=4) ft dcd dcd fo fp fq cf fr (Al (x:=f)) (AY (x:=h) cb)) ?_
 rintro _ cg ⟨ch,hg,hh,hi,rfl,a7,fu,ci,cj,fv,fw⟩
 obtain ⟨hj,hk,rfl⟩:=AW ci
 obtain ⟨hl,hm,rfl⟩:=Own.len cj
 obtain rfl:=Au fw
 refine AA<|Sr<|Vm<|Vx (Fd BR Z)<|have fx:=Bs b9 a7;Vx (Ld CR Z (Bc fx Z))<|Bi a λl fy a=>have fz:=Ss AG ca a7; ?_
 obtain ⟨f0,f1,hn,f2,f3,f4,f5,f6,bm⟩:=A8 (κ:=AG) fz fy
 replace bm:Ay ch cg f0 (f1+(1:Int).toNat*7) f2:=bm
 obtain ⟨cl,cm,rfl,ck⟩:=E1 (Ae f6)
 refine Vx (Ix CG f3 Z f4 f5)<|Vx (Lx BA Z Z (Ay.part0 bm [I l.op,Sb l.name,Sb l.tail,I l.type_,Cx l.num,Sl cl l.args cm,I l.at_] Z))<|have f7:=Ms cf a7;Bi a λa2 f8 a=>Ca (Cg [Pt q 0,Ag [I l.op,Sb l.name,Sb l.tail,I l.type_,Cx l.num,Sl cl l.args cm,I l.at_],I 3] Z) (au.types_checker_want ch cg (ko0_2:=4) f8 dcd dcd fu ci cj f7 fv (Al (x:=fs.2.2)) (AY (x:=l) ck)) ?_
 rintro _ hp ⟨f9,hq,hr,hs,rfl,ga,gb,cn,co,gc,gd⟩
 obtain ⟨ge,gf,rfl⟩:=AW cn
 obtain ⟨gg,gh,rfl⟩:=Own.len co
 obtain rfl:=Au gd
 refine AA<|Sr<|Va (I 3)<|AA<|AS ?_
 obtain rfl:=AK a
 refine O1 B ab Z (.tmp Z)<|⟨f9,Sl ge a2.1 gf,Sl gg a2.2.1 gh,[I a2.2.2.why,I a2.2.2.at_],Z,Ho (T3 (Mo [1,3,4] d) c a7 ga) z,gb,cn,co,gc,(Al (x:=a2.2.2))⟩
 refine AR<|Sr<|Vm<|Vx (Fd BR Z)<|have cq:=Bs an c;Vx (Ld CR Z (Bc cq Z))<|have gi:=Y2 ai d c;have gj:=K2 AI aa d c;have gk:=Os (Os af d) c;have gl:=Ms (Ms a4 d) c;have gm:=Y2 ag d c;have gn:=K2 AG az d c;Bi a λw go a=>Ca (Cg [Pt q 0,I 1,Sl a5 e.args a6] Z) (au.types_checker_all o aj (ko0_2:=4) go dcd dcd gi gj gk gl gm (Al (x:=f)) gn) ?_
 rintro _ gp ⟨bn,ht,hu,hw,rfl,bo,cr,bp,bq,ct,gq⟩
 obtain ⟨cu,cv,rfl⟩:=AW bp
 obtain ⟨cw,cx,rfl⟩:=Own.len bq
 obtain rfl:=Au gq
 refine AA<|AT<|Am (λa0 cy=>∃ak a8 br,a0=Env.puts ak [(84,.bool br)]/\H2 w br=some ae/\AU [] bn gp a8 cy) ?_ ?_
 refine AM<|Vx (Fz Cp Z)<|have cz:=Bs cq bo;Vx (Ld GC Z (Bc cz Z))<|Vr (.bool (e.op==12))<|Vm<|Bo a (λah a=>?_) λah a=>?_
 refine Pg ah<|Pg ah<|Pg ah<|Vp ah<|AA<|⟨_,bn,true,Pu,a,Rf⟩
 refine Gx ah (Fz Cp Z)<|Gx ah (Ld GC Z (Bc cz Z))<|Gr ah (.bool (e.op==13))<|Vp ah<|AA<|⟨_,bn,(e.op==13),Pu,a,Rf⟩
 rintro _ cy ⟨ak,a8,br,rfl,a,ac⟩
 rw [H2] at a
 refine Cn a (λgr a=>?_) λgr a=>?_
 refine Sr<|Va (I 2)<|AA<|AS ?_
 obtain rfl:=AK a
 refine O1 B ab Z (.tmp Z)<|have gs:=Bs cr ac;have gt:=Ss AI bp ac;have gu:=Os bq ac;have gv:=Bs ct ac;⟨a8,Sl cu w.1 cv,Sl cw w.2.1 cx,[I w.2.2.why,I w.2.2.at_],Z,Ho (T3 (Mo [1,3,4] d) c bo ac) z,gs,gt,gu,gv,(Al (x:=w.2.2))⟩
 refine AR<|Sr<|Va (I 1)<|AA<|AS ?_
 obtain rfl:=AK a
 refine O1 B ab Z (.tmp Z)<|have gw:=Bs cr ac;have gx:=Ss AI bp ac;have gy:=Os bq ac;have gz:=Bs ct ac;⟨a8,Sl cu w.1 cv,Sl cw w.2.1 cx,[I w.2.2.why,I w.2.2.at_],Z,Ho (T3 (Mo [1,3,4] d) c bo ac) z,gw,gx,gy,gz,(Al (x:=w.2.2))⟩
theorem O8(e:AH)(g:Nat)(o:AH.Good e):types_checker_own.Spec (HE e g):=by
 intro f h ai a aj ak al am ko0_2 an c ao ap d aq ar au av aw p hnd hnz l q r s m u w
 refine Calls.mono (O7 e g o (recol (see [a,c,d,ko0_2]) f) h (E9 (Nat.le_of_ble_eq_true Z) f) (BY l [a,c,d,ko0_2] (BU hnd hnz (i:=0) Z)) (EZ AI q [a,c,d,ko0_2]) (Io r [a,c,d,ko0_2] (BU hnd hnz (i:=3) Z)) (F2 s [a,c,d,ko0_2] (BU hnd hnz (i:=1) Z)) (BY m [a,c,d,ko0_2] (BU hnd hnz (i:=2) Z)) (Bd An u [a,c,d,ko0_2]) (Bd AG w [a,c,d,ko0_2]) p) ?_
 rintro ax ay ⟨y,z,aa,ab,ac,n,ad,ae,af,ag,ah⟩
 exact ⟨glue [a,c,d,ko0_2] h f y,z,aa,ab,ac,B8 n (E4 Z Z),EJ l ad dcd,HR AI ae,IV (j:=3) af Z Z n,EJ m ag dcd,ED An ah⟩
theorem Nw(y:AH)(az:Nat)(a0:AH.Good y)(a:Col)(d:World)(a1:∀b,a b<10){z o:Nat}{aa:(List AN)}{ab:Value}{ac:(List AJ)}{ad:Value}{r:Nat}{ae:As}{p:Nat}{s:AF}{af:List Value}{ag:Nat}{ah:AE}{ai:List Value}{aj:Nat}{u:Int}{q:(List AN)×(List AJ)×AF}(a2:Bk a d 1 z [Pt o 0] 130)(a3:Bk a d 2 o [.map (some r),ab,ad,.func (.func 52) #[] [Pt p 0].toArray] 134)(ak:Slc AI a.F d ab aa)(al:Own AZ 87 a d 7 ad ac)(a4:Mp a d 3 r ae)(a5:Bk a d 4 p af 63)(a6:An.rep a.F d af s)(a7:Bk a d 5 ag ai 56)(a8:AG.rep a.F d ai ah)(a9:Bk a d 6 aj [I u] 34)(g:Fi y az aa ac ae s ah u=some q):
  Calls PG 84 #[Pt z 0,Pt ag 0,Pt aj 0] d λba h=>∃l am an ao,ba=.returned (.tuple #[])/\AU [2,4,7] a d l h/\Bk l h 2 o [.map (some r),am,an,.func (.func 52) #[] [Pt p 0].toArray] 134/\Slc AI l.F h am q.1/\Own AZ 87 l h 7 an q.2.1/\Bk l h 4 p ao 63/\An.rep l.F h ao q.2.2:=by
 rw [Fi] at g
 obtain ⟨b4,b5,rfl⟩:=AW ak
 obtain ⟨b6,b7,rfl⟩:=Own.len al
 obtain rfl:=Au a6
 obtain ⟨b9,ca,rfl,ap⟩:=E1 (Ae a8)
 refine Az Tryz.func84 Z Tryz.ntmps84 Z λB bb m=>BZ C7 (qs 0 6 (.one 6 .nil)) [] [2,4,7] a (by kernel_rfl) λaq e=>have bc:=Bs a2 e;Qx m Z (λ_ ⟨_,f⟩=>Ld Kx Z (Bc (Bs bc f) Z))<|Qx m Z (λ_ _=>Fd BR Z)<|have bd:=Bs a7 e;Qx m Z (λ_ ⟨_,f⟩=>Ld CR Z (Bc (Bs bd f) Z))<|Bi g λc be g=>have bf:=Ss AG ap e; ?_
 obtain ⟨bg,bh,cb,bi,bj,bk,bl,bm,w⟩:=A8 (κ:=AG) bf be
 replace w:Ay a aq bg (bh+(2:Int).toNat*7) bi:=w
 obtain ⟨au,av,rfl,ar⟩:=E1 (Ae bm)
 refine Qx m Z (λ_ _=>Ix CG bj Z bk bl)<|Qx m Z (λ_ ⟨_,f⟩=>Lx BA Z Z (Ay.part0 (Es w f) [I c.op,Sb c.name,Sb c.tail,I c.type_,Cx c.num,Sl au c.args av,I c.at_] Z))<|have bn:=Bs a9 e;Qx m Z (λ_ ⟨_,f⟩=>Ld Dl Z (Bc (Bs bn f) Z))<|A2 Z<|have bo:=Bs a3 e;have bp:=Ss AI ak e;have bq:=Os al e;have br:=Ms a4 e;have bt:=Bs a5 e;Bi g λn bu g=>A4 Z (.none Z) Z Z (Cg [Pt o 0,Ag [I c.op,Sb c.name,Sb c.tail,I c.type_,Cx c.num,Sl au c.args av,I c.at_],I u] Z)<|Calls.mono (a0.types_checker_want a aq (ko0_2:=7) bu dcd dcd bo bp bq br bt (Al (x:=s)) (AY (x:=c) ar)) ?_
 rintro _ cd ⟨bv,cf,cg,ch,rfl,aw,bw,ax,ay,bx,bz⟩
 obtain ⟨b0,b1,rfl⟩:=AW ax
 obtain ⟨b2,b3,rfl⟩:=Own.len ay
 obtain rfl:=Au bz
 refine ⟨_,Z,⟨_,(Mo [2,4,7] aw)⟩,?_⟩
 refine CA ?_
 obtain rfl:=AK g
 refine NJ (B:=B) bb<|NI Z<|⟨bv,Sl b0 n.1 b1,Sl b2 n.2.1 b3,[I n.2.2.why,I n.2.2.at_],Z,Ho (Tn (Mo [2,4,7] e) aw) a1,bw,ax,ay,bx,(Al (x:=n.2.2))⟩
theorem Nx(h:AH)(m:Nat)(r:AH.Good h):types_checker_want_1.Spec (Fi h m):=by
 intro l n ao a ap c aq ar au av ko1_2 aw d ax ay e az a0 a1 f a2 a3 a4 g a5 a6 s hnd hnz u o w y z p aa ab ac ad
 refine Calls.mono (Nw h m r (recol (see [a,c,d,e,f,g,ko1_2]) l) n (E9 (Nat.le_of_ble_eq_true Z) l) (BY u [a,c,d,e,f,g,ko1_2] (BU hnd hnz (i:=0) Z)) (BY o [a,c,d,e,f,g,ko1_2] (BU hnd hnz (i:=1) Z)) (EZ AI w [a,c,d,e,f,g,ko1_2]) (Io y [a,c,d,e,f,g,ko1_2] (BU hnd hnz (i:=6) Z)) (F2 z [a,c,d,e,f,g,ko1_2] (BU hnd hnz (i:=2) Z)) (BY p [a,c,d,e,f,g,ko1_2] (BU hnd hnz (i:=3) Z)) (Bd An aa [a,c,d,e,f,g,ko1_2]) (BY ab [a,c,d,e,f,g,ko1_2] (BU hnd hnz (i:=4) Z)) (Bd AG ac [a,c,d,e,f,g,ko1_2]) (BY ad [a,c,d,e,f,g,ko1_2] (BU hnd hnz (i:=5) Z)) s) ?_
 rintro a7 a8 ⟨ae,af,ag,ah,ai,q,aj,ak,al,am,an⟩
 exact ⟨glue [a,c,d,e,f,g,ko1_2] n l ae,af,ag,ah,ai,B8 q (E4 Z Z),EJ o aj dcd,HR AI ak,IV (j:=6) al Z Z q,EJ p am dcd,ED An an⟩
theorem Ny(af:AH)(bf:Nat)(ag:AH.Good af)(c:Col)(g:World)(bg:∀b,c b<10){ah q:Nat}{ai:(List AN)}{aj:Value}{ak:(List AJ)}{al:Value}{w:Nat}{am:As}{s:Nat}{y:AF}{an:List Value}{ao:Nat}{z:AE}{ap:List Value}{aq:Nat}{aa:Int}{u:(List AN)×(List AJ)×AF}(bh:Bk c g 1 ah [Pt q 0] 130)(bi:Bk c g 2 q [.map (some w),aj,al,.func (.func 52) #[] [Pt s 0].toArray] 134)(ar:Slc AI c.F g aj ai)(au:Own AZ 87 c g 7 al ak)(bj:Mp c g 3 w am)(bk:Bk c g 4 s an 63)(bl:An.rep c.F g an y)(bm:Bk c g 5 ao ap 56)(bn:AG.rep c.F g ap z)(bo:Bk c g 6 aq [I aa] 34)(h:Fj af bf ai ak am y z aa=some u):
  Calls PG 85 #[Pt ah 0,Pt ao 0,Pt aq 0] g λbp o=>∃p av aw ax,bp=.returned (.tuple #[])/\AU [2,4,7] c g p o/\Bk p o 2 q [.map (some w),av,aw,.func (.func 52) #[] [Pt s 0].toArray] 134/\Slc AI p.F o av u.1/\Own AZ 87 p o 7 aw u.2.1/\Bk p o 4 s ax 63/\An.rep p.F o ax u.2.2:=by
 rw [Fj] at h
 obtain ⟨c3,c4,rfl⟩:=AW ar
 obtain ⟨c5,c6,rfl⟩:=Own.len au
 obtain rfl:=Au bl
 obtain ⟨c8,c9,rfl,ay⟩:=E1 (Ae bn)
 refine Az Tryz.func85 Z Tryz.ntmps85 Z λB bq f=>AT<|BZ C7 (qs 0 7 (.one 7 .nil)) [] [2,4,7] c (by kernel_rfl) λaz l=>have a0:=Bs bh l;Qx f Z (λ_ ⟨_,a⟩=>Ld Kx Z (Bc (Bs a0 a) Z))<|Qx f Z (λ_ _=>Fd BR Z)<|have ab:=Bs bm l;Qx f Z (λ_ ⟨_,a⟩=>Ld CR Z (Bc (Bs ab a) Z))<|Bi h λd br h=>have a1:=Ss AG ay l; ?_
 obtain ⟨bt,bu,da,bv,bw,bx,bz,b0,ac⟩:=A8 (κ:=AG) a1 br
 replace ac:Ay c az bt (bu+(0:Int).toNat*7) bv:=ac
 obtain ⟨a3,a4,rfl,a2⟩:=E1 (Ae b0)
 refine Qx f Z (λ_ _=>Ix CG bw Z bx bz)<|Qx f Z (λ_ ⟨_,a⟩=>Lx BA Z Z (Ay.part0 (Es ac a) [I d.op,Sb d.name,Sb d.tail,I d.type_,Cx d.num,Sl a3 d.args a4,I d.at_] Z))<|Qx f Z (λ_ _=>Fd Kk Z)<|Qx f Z (λ_ ⟨_,a⟩=>Ld Dl Z (Bc (Bs ab a) Z))<|A2 Z<|have b1:=Bs bi l;have b2:=Ss AI ar l;have b3:=Os au l;have a5:=Ms bj l;have b4:=Bs bk l;Bi h λb5 b6 h=>A4 Z (.none Z) Z Z (Cg [Pt q 0,Ag [I d.op,Sb d.name,Sb d.tail,I d.type_,Cx d.num,Sl a3 d.args a4,I d.at_],I z.type_] Z)<|Calls.mono (ag.types_checker_want c az (ko0_2:=7) b6 dcd dcd b1 b2 b3 a5 b4 (Al (x:=y)) (AY (x:=d) a2)) ?_
 rintro _ dc ⟨ad,de,df,dg,rfl,n,b7,a6,a7,b8,b9⟩
 obtain ⟨dh,di,rfl⟩:=AW a6
 obtain ⟨dj,dk,rfl⟩:=Own.len a7
 obtain rfl:=Au b9
 refine ⟨_,Z,⟨_,(Mo [2,4,7] n)⟩,?_⟩
 refine CA<|BZ C7 (qs 0 6 (.one 6 .nil)) [] [2,4,7] ad (by kernel_rfl) λa8 m=>have ca:=Y2 a0 n m;Qx f Z (λ_ ⟨_,a⟩=>Ld Kx Z (Bc (Bs ca a) Z))<|Qx f Z (λ_ _=>Fd BR Z)<|have cb:=Y2 ab n m;Qx f Z (λ_ ⟨_,a⟩=>Ld CR Z (Bc (Bs cb a) Z))<|Bi h λe cc h=>have cd:=K2 AG a1 n m; ?_
 obtain ⟨cf,cg,dl,ch,ci,cj,ck,cl,ae⟩:=A8 (κ:=AG) cd cc
 replace ae:Ay ad a8 cf (cg+(1:Int).toNat*7) ch:=ae
 obtain ⟨ba,bb,rfl,a9⟩:=E1 (Ae cl)
 refine Qx f Z (λ_ _=>Ix CG ci Z cj ck)<|Qx f Z (λ_ ⟨_,a⟩=>Lx BA Z Z (Ay.part0 (Es ae a) [I e.op,Sb e.name,Sb e.tail,I e.type_,Cx e.num,Sl ba e.args bb,I e.at_] Z))<|have cm:=Y3 bo l n m;Qx f Z (λ_ ⟨_,a⟩=>Ld Dl Z (Bc (Bs cm a) Z))<|A2 Z<|have cn:=Bs b7 m;have co:=Ss AI a6 m;have cq:=Os a7 m;have cr:=Ms (Ms a5 n) m;have ct:=Bs b8 m;Bi h λr cu h=>A4 Z (.none Z) Z Z (Cg [Pt q 0,Ag [I e.op,Sb e.name,Sb e.tail,I e.type_,Cx e.num,Sl ba e.args bb,I e.at_],I aa] Z)<|Calls.mono (ag.types_checker_want ad a8 (ko0_2:=7) cu dcd dcd cn co cq cr ct (Al (x:=b5.2.2)) (AY (x:=e) a9)) ?_
 rintro _ dn ⟨cv,dp,dq,dr,rfl,bc,cw,bd,be,cx,cy⟩
 obtain ⟨cz,c0,rfl⟩:=AW bd
 obtain ⟨c1,c2,rfl⟩:=Own.len be
 obtain rfl:=Au cy
 refine ⟨_,Z,⟨_,(Mo [2,4,7] bc)⟩,?_⟩
 refine CA ?_
 obtain rfl:=AK h
 refine NJ (B:=B) bq<|NI Z<|⟨cv,Sl cz r.1 c0,Sl c1 r.2.1 c2,[I r.2.2.why,I r.2.2.at_],Z,Ho (T3 (Mo [2,4,7] l) n m bc) bg,cw,bd,be,cx,(Al (x:=r.2.2))⟩
theorem Nz(h:AH)(m:Nat)(r:AH.Good h):types_checker_want_2.Spec (Fj h m):=by
 intro l n ao a ap c aq ar au av ko1_2 aw d ax ay e az a0 a1 f a2 a3 a4 g a5 a6 s hnd hnz u o w y z p aa ab ac ad
 refine Calls.mono (Ny h m r (recol (see [a,c,d,e,f,g,ko1_2]) l) n (E9 (Nat.le_of_ble_eq_true Z) l) (BY u [a,c,d,e,f,g,ko1_2] (BU hnd hnz (i:=0) Z)) (BY o [a,c,d,e,f,g,ko1_2] (BU hnd hnz (i:=1) Z)) (EZ AI w [a,c,d,e,f,g,ko1_2]) (Io y [a,c,d,e,f,g,ko1_2] (BU hnd hnz (i:=6) Z)) (F2 z [a,c,d,e,f,g,ko1_2] (BU hnd hnz (i:=2) Z)) (BY p [a,c,d,e,f,g,ko1_2] (BU hnd hnz (i:=3) Z)) (Bd An aa [a,c,d,e,f,g,ko1_2]) (BY ab [a,c,d,e,f,g,ko1_2] (BU hnd hnz (i:=4) Z)) (Bd AG ac [a,c,d,e,f,g,ko1_2]) (BY ad [a,c,d,e,f,g,ko1_2] (BU hnd hnz (i:=5) Z)) s) ?_
 rintro a7 a8 ⟨ae,af,ag,ah,ai,q,aj,ak,al,am,an⟩
 exact ⟨glue [a,c,d,e,f,g,ko1_2] n l ae,af,ag,ah,ai,B8 q (E4 Z Z),EJ o aj dcd,HR AI ak,IV (j:=6) al Z Z q,EJ p am dcd,ED An an⟩
theorem N0(y:AH)(az:Nat)(a0:AH.Good y)(a:Col)(d:World)(a1:∀b,a b<10){z o:Nat}{aa:(List AN)}{ab:Value}{ac:(List AJ)}{ad:Value}{r:Nat}{ae:As}{p:Nat}{s:AF}{af:List Value}{ag:Nat}{ah:AE}{ai:List Value}{aj:Nat}{u:Int}{q:(List AN)×(List AJ)×AF}(a2:Bk a d 1 z [Pt o 0] 130)(a3:Bk a d 2 o [.map (some r),ab,ad,.func (.func 52) #[] [Pt p 0].toArray] 134)(ak:Slc AI a.F d ab aa)(al:Own AZ 87 a d 7 ad ac)(a4:Mp a d 3 r ae)(a5:Bk a d 4 p af 63)(a6:An.rep a.F d af s)(a7:Bk a d 5 ag ai 56)(a8:AG.rep a.F d ai ah)(a9:Bk a d 6 aj [I u] 34)(g:Fk y az aa ac ae s ah u=some q):
  Calls PG 86 #[Pt z 0,Pt ag 0,Pt aj 0] d λba h=>∃l am an ao,ba=.returned (.tuple #[])/\AU [2,4,7] a d l h/\Bk l h 2 o [.map (some r),am,an,.func (.func 52) #[] [Pt p 0].toArray] 134/\Slc AI l.F h am q.1/\Own AZ 87 l h 7 an q.2.1/\Bk l h 4 p ao 63/\An.rep l.F h ao q.2.2:=by
 rw [Fk] at g
 obtain ⟨b4,b5,rfl⟩:=AW ak
 obtain ⟨b6,b7,rfl⟩:=Own.len al
 obtain rfl:=Au a6
 obtain ⟨b9,ca,rfl,ap⟩:=E1 (Ae a8)
 refine Az Tryz.func86 Z Tryz.ntmps86 Z λB bb m=>BZ C7 (qs 0 6 (.one 6 .nil)) [] [2,4,7] a (by kernel_rfl) λaq e=>have bc:=Bs a2 e;Qx m Z (λ_ ⟨_,f⟩=>Ld Kx Z (Bc (Bs bc f) Z))<|Qx m Z (λ_ _=>Fd BR Z)<|have bd:=Bs a7 e;Qx m Z (λ_ ⟨_,f⟩=>Ld CR Z (Bc (Bs bd f) Z))<|Bi g λc be g=>have bf:=Ss AG ap e; ?_
 obtain ⟨bg,bh,cb,bi,bj,bk,bl,bm,w⟩:=A8 (κ:=AG) bf be
 replace w:Ay a aq bg (bh+(1:Int).toNat*7) bi:=w
 obtain ⟨au,av,rfl,ar⟩:=E1 (Ae bm)
 refine Qx m Z (λ_ _=>Ix CG bj Z bk bl)<|Qx m Z (λ_ ⟨_,f⟩=>Lx BA Z Z (Ay.part0 (Es w f) [I c.op,Sb c.name,Sb c.tail,I c.type_,Cx c.num,Sl au c.args av,I c.at_] Z))<|have bn:=Bs a9 e;Qx m Z (λ_ ⟨_,f⟩=>Ld Dl Z (Bc (Bs bn f) Z))<|A2 Z<|have bo:=Bs a3 e;have bp:=Ss AI ak e;have bq:=Os al e;have br:=Ms a4 e;have bt:=Bs a5 e;Bi g λn bu g=>A4 Z (.none Z) Z Z (Cg [Pt o 0,Ag [I c.op,Sb c.name,Sb c.tail,I c.type_,Cx c.num,Sl au c.args av,I c.at_],I u] Z)<|Calls.mono (a0.types_checker_want a aq (ko0_2:=7) bu dcd dcd bo bp bq br bt (Al (x:=s)) (AY (x:=c) ar)) ?_
 rintro _ cd ⟨bv,cf,cg,ch,rfl,aw,bw,ax,ay,bx,bz⟩
 obtain ⟨b0,b1,rfl⟩:=AW ax
 obtain ⟨b2,b3,rfl⟩:=Own.len ay
 obtain rfl:=Au bz
 refine ⟨_,Z,⟨_,(Mo [2,4,7] aw)⟩,?_⟩
 refine CA ?_
 obtain rfl:=AK g
 refine NJ (B:=B) bb<|NI Z<|⟨bv,Sl b0 n.1 b1,Sl b2 n.2.1 b3,[I n.2.2.why,I n.2.2.at_],Z,Ho (Tn (Mo [2,4,7] e) aw) a1,bw,ax,ay,bx,(Al (x:=n.2.2))⟩
theorem N1(h:AH)(m:Nat)(r:AH.Good h):types_checker_want_3.Spec (Fk h m):=by
 intro l n ao a ap c aq ar au av ko1_2 aw d ax ay e az a0 a1 f a2 a3 a4 g a5 a6 s hnd hnz u o w y z p aa ab ac ad
 refine Calls.mono (N0 h m r (recol (see [a,c,d,e,f,g,ko1_2]) l) n (E9 (Nat.le_of_ble_eq_true Z) l) (BY u [a,c,d,e,f,g,ko1_2] (BU hnd hnz (i:=0) Z)) (BY o [a,c,d,e,f,g,ko1_2] (BU hnd hnz (i:=1) Z)) (EZ AI w [a,c,d,e,f,g,ko1_2]) (Io y [a,c,d,e,f,g,ko1_2] (BU hnd hnz (i:=6) Z)) (F2 z [a,c,d,e,f,g,ko1_2] (BU hnd hnz (i:=2) Z)) (BY p [a,c,d,e,f,g,ko1_2] (BU hnd hnz (i:=3) Z)) (Bd An aa [a,c,d,e,f,g,ko1_2]) (BY ab [a,c,d,e,f,g,ko1_2] (BU hnd hnz (i:=4) Z)) (Bd AG ac [a,c,d,e,f,g,ko1_2]) (BY ad [a,c,d,e,f,g,ko1_2] (BU hnd hnz (i:=5) Z)) s) ?_
 rintro a7 a8 ⟨ae,af,ag,ah,ai,q,aj,ak,al,am,an⟩
 exact ⟨glue [a,c,d,e,f,g,ko1_2] n l ae,af,ag,ah,ai,B8 q (E4 Z Z),EJ o aj dcd,HR AI ak,IV (j:=6) al Z Z q,EJ p am dcd,ED An an⟩
theorem OU(af:AH)(a7:Nat)(ci:AH.Good af)(p:Col)(u:World)(bm:∀b,p b<10){q:Nat}{ar:(List AN)}{bn:Value}{au:(List AJ)}{bo:Value}{aw:Nat}{g:As}{ak:Nat}{y:AF}{bp:List Value}{f:AE}{bq:List Value}{z:Int×(List AN)×(List AJ)×AF}(cj:Bk p u 1 q [.map (some aw),bn,bo,.func (.func 52) #[] [Pt ak 0].toArray] 134)(ax:Slc AI p.F u bn ar)(a8:Own AZ 87 p u 4 bo au)(ck:Mp p u 2 aw g)(br:Bk p u 3 ak bp 63)(cl:An.rep p.F u bp y)(cm:AG.rep p.F u bq f)(d:GW af a7 ar au g y f=some z):
  Calls PG 112 #[Pt q 0,Ag bq] u λcn al=>∃am bt bu bv,cn=.returned (I z.1)/\AU [1,3,4] p u am al/\Bk am al 1 q [.map (some aw),bt,bu,.func (.func 52) #[] [Pt ak 0].toArray] 134/\Slc AI am.F al bt z.2.1/\Own AZ 87 am al 4 bu z.2.2.1/\Bk am al 3 ak bv 63/\An.rep am.F al bv z.2.2.2:=by
 rw [GW] at d
 obtain ⟨bw,bx,rfl⟩:=AW ax
 obtain ⟨bz,b0,rfl⟩:=Own.len a8
 obtain rfl:=Au cl
 obtain ⟨e6,e7,rfl,a9⟩:=E1 (Ae cm)
 refine Az Tryz.func112 Z Tryz.ntmps112 Z λB b1 a=>Sr<|Ef<|A0 p 20 Z Z λan e8 b2 co m=>Va (I 0)<|AA<|AT<|BZ C7 (qs 0 8 .nil) [] [] an (by kernel_rfl) λcq l=>Qx a Z (v:=Pt q 0) (λ_ _=>Mv Z)<|Qx a Z (λ_ _=>Nc Z)<|Qx a Z (λ_ _=>Fz VT Z)<|have ay:=Y2 cj m l;Qx a Z (λ_ ⟨_,c⟩=>Ld PL Z (Bc (Bs ay c) Z))<|Qx a Z (λ_ _=>Fd DW Z)<|have ba:=Bs co l;Qx a Z (λ_ ⟨_,c⟩=>Ld B7 Z (Bc (Bs ba c) Z))<|have b3:=Ms (Ms ck m) l;Qx a Z (v:=I (Cz g f.name)) (λ_ ⟨_,c⟩=>KU Ln Z Z (Ms b3 c))<|Qx a Z (v:=I (Cz g f.name)) (λ_ _=>Run.assign Z)<|CA<|AT<|Am (λbb az=>∃av ao bc,bb=Env.puts av [(0,Pt q 0),(3,Pt b2 0),(5,I (Cz g f.name)),(32,.bool bc)]/\F1 af a7 ar au g y f bc=some z/\AU [] an cq ao az) ?_ ?_
 refine BZ C7 (qs 0 18 .nil) [] [] an (by kernel_rfl) λcr ap=>Qx a Z (v:=I (Cz g f.name)) (λ_ _=>Mv Z)<|Qx a Z (v:=.bool ((Cz g f.name)==0)) (λ_ _=>Z)<|Qx a Z (v:=.bool ((Cz g f.name)==0)) (λ_ _=>Mv Z)<|Bo d (λe d=>?_) λe d=>?_
 refine Qp a Z e<|Qp a Z e<|Qp a Z e<|Qp a Z e<|Qp a Z e<|Qp a Z e<|Qp a Z e<|Qp a Z e<|Qp a Z e<|Qp a Z e<|Qp a Z e<|Qp a Z e<|Qp a Z e<|Qp a Z e<|Qx a Z (v:=.bool true) (λ_ _=>(Pk e))<|CA<|⟨_,an,true,Pu,d,(Mo [] ap)⟩
 refine Qg a Z e (v:=Pt q 0) (λ_ _=>Mv Z)<|Qg a Z e (λ_ _=>Nc Z)<|Qg a Z e (λ_ _=>Fd RH Z)<|have ct:=Bs ay ap;Qg a Z e (λ_ ⟨_,c⟩=>Ld Fr Z (Bc (Bs ct c) Z))<|Qg a Z e (v:=I (Cz g f.name)) (λ_ _=>Mv Z)<|Qg a Z e (v:=I (Wr ((Cz g f.name) - 1))) (λ_ _=>Z)<|Bi d λa0 cu d=>have cv:=K3 AI ax m l ap; ?_
 obtain ⟨cw,cx,e9,cy,cz,c0,c1,c2,bd⟩:=A8 (κ:=AI) cv cu
 replace bd:Ay an cr cw (cx+((Wr ((Cz g f.name) - 1))).toNat*11) cy:=bd
 obtain ⟨fa,fb,rfl,b4,c3⟩:=CL c2
 obtain ⟨fc,fd,rfl⟩:=AW b4
 obtain ⟨fe,ff,rfl⟩:=AW c3
 refine Qg a Z e (λ_ _=>Ix FA cz Z c0 c1)<|Qg a Z e (λ_ _=>Fd De Z)<|Qg a Z e (λ_ ⟨_,c⟩=>Ld EF Z (Ay.cell (k:=1) (Es bd c) Z)) ?_
 obtain ⟨fg,fh,c4⟩:=AW b4
 refine Qg a Z e (v:=I (a0.params.length:Int)) (λ_ _=>Ll Df c4)<|Qg a Z e (λ_ _=>Fd BR Z)<|have c5:=Bs ba ap;Qg a Z e (λ_ ⟨_,c⟩=>Ld CR Z (Bc (Bs c5 c) Z))<|have c6:=K3 AG a9 m l ap; ?_
 obtain ⟨fi,fj,c7⟩:=AW c6
 refine Qg a Z e (v:=I (f.args.length:Int)) (λ_ _=>Ll CG c7)<|Qg a Z e (v:=.bool ((a0.params.length:Int) != (f.args.length:Int))) (λ_ _=>Z)<|Qx a Z (v:=.bool ((a0.params.length:Int) != (f.args.length:Int))) (λ_ _=>(Pk e))<|CA<|⟨_,an,((a0.params.length:Int) != (f.args.length:Int)),Pu,d,(Mo [] ap)⟩
 rintro _ az ⟨av,ao,bc,rfl,d,n⟩
 rw [F1] at d
 refine Cn d (λc8 d=>?_) λc8 d=>?_
 refine Sr<|Va (I 0)<|AA<|AS ?_
 obtain rfl:=AK d
 refine O1 B b1 Z (.tmp Z)<|have c9:=Bs ay n;have da:=K3 AI ax m l n;have db:=Os (Os (Os a8 m) l) n;have dc:=Y3 br m l n;⟨ao,Sl bw ar bx,Sl bz au b0,[I y.why,I y.at_],Z,Ho (T2 (Mo [] m) l n) bm,c9,da,db,dc,(Al (x:=y))⟩
 refine AR<|AT<|Sr<|Vm<|Vx (Nc Z)<|Vx (Fd RH Z)<|have b5:=Bs ay n;Vx (Ld Fr Z (Bc b5 Z))<|Vm<|Vr (I (Wr ((Cz g f.name) - 1)))<|Bi d λaa de d=>have b6:=K3 AI ax m l n; ?_
 obtain ⟨df,o80,fk,dg,dh,di,dj,dk,be⟩:=A8 (κ:=AI) b6 de
 replace be:Ay ao az df (o80+((Wr ((Cz g f.name) - 1))).toNat*11) dg:=be
 obtain ⟨fl,fm,rfl,bf,dl⟩:=CL dk
 obtain ⟨dm,dn,rfl⟩:=AW bf
 obtain ⟨fn,fo,rfl⟩:=AW dl
 refine Vx (Ix FA dh Z di dj)<|Vx (Fd De Z)<|Vx (Ld EF Z (Ay.cell (k:=1) be Z)) ?_
 obtain ⟨fp,fq,dp⟩:=AW bf
 refine Vx (v:=I (aa.params.length:Int)) (Ll Df dp)<|Vm<|AA<|Ah<|Bj (λab bb ac=>∃av r o ag a1 a2 ah a3 a4 ai aj,bb=Env.puts av [(0,Pt q 0),(3,Pt b2 0),(5,I (Cz g f.name)),(41,Sl dm aa.params dn),(42,I (aa.params.length:Int)),(43,I o)]/\EH af g f aa ab o ag ah ai aj=some z/\AU [1,3,4,21] ao az r ac/\Slc AI r.F ac (Sl a1 ag a2) ag/\Own AZ 87 r ac 4 (Sl a3 ah a4) ah/\Bk r ac 1 q [.map (some aw),Sl a1 ag a2,Sl a3 ah a4,.func (.func 52) #[] [Pt ak 0].toArray] 134/\Bk r ac 3 ak [I ai,I aj] 63) a7 ?_ ?_
 refine have dq:=Os (Os (Os a8 m) l) n;have dr:=Y3 br m l n;⟨_,ao,0,ar,bw,bx,au,bz,b0,y.why,y.at_,Pu,d,(AU.refl [1,3,4,21] _ _),b6,dq,b5,dr⟩
 rintro ab _ ac ⟨av,r,o,ag,a1,a2,ah,a3,a4,ai,aj,rfl,d,aq,bg,b7,bh,b8⟩
 rcases ab with _|ab
 exact A5 d
 refine have d:Ec af g f aa (EH af g f aa ab) o ag ah ai aj=some z:=d; ?_
 obtain ⟨fr,b9⟩:∃s,s=EH af g f aa ab:=⟨_,rfl⟩
 rw [<-b9,Ec] at d
 refine Sr<|Vr (.bool (decide (o< (aa.params.length:Int))))<|AA<|AT<|Cn d (λds d=>?_) λds d=>?_
 refine AR<|AT<|Ah<|Sr<|Vm<|Bi d λa5 dt d=>have du:=Ss AZ bf aq; ?_
 obtain ⟨dv,dw,fs,dx,dy,dz,d0,d1,bi⟩:=A8 (κ:=AZ) du dt
 replace bi:Ay r ac dv (dw+o.toNat*3) dx:=bi
 obtain rfl:=EK d1
 refine Vx (Ix Df dy Z dz d0)<|Vx (Lx TJ Z Z (Ay.part0 bi [Sb a5.name,I a5.type_,I a5.at_] Z))<|Ef<|Aa r 21 Lo Z λbj ft fu d2 ad=>Va (I o)<|Eu<|St TQ d2 Z Z Z Z λfv d3 ae=>AA<|BZ C7 (qs 0 8 (.one 8 .nil)) [] [1,3,4] bj (by kernel_rfl) λca w=>Qx a Z (v:=Pt q 0) (λ_ _=>Mv Z)<|Qx a Z (λ_ _=>Fd BR Z)<|have d4:=Bs (Y4 ba n aq ad ae) w;Qx a Z (λ_ ⟨_,c⟩=>Ld CR Z (Bc (Bs d4 c) Z))<|Qx a Z (v:=I o) (λ_ _=>Mv Z)<|Bi d λh d5 d=>have d6:=K3 AG (K4 AG a9 m l n aq) ad ae w; ?_
 obtain ⟨d7,d8,fw,d9,ea,eb,ec,ed,bk⟩:=A8 (κ:=AG) d6 d5
 replace bk:Ay bj ca d7 (d8+o.toNat*7) d9:=bk
 obtain ⟨cc,cd,rfl,cb⟩:=E1 (Ae ed)
 refine Qx a Z (λ_ _=>Ix CG ea Z eb ec)<|Qx a Z (λ_ ⟨_,c⟩=>Lx BA Z Z (Ay.part0 (Es bk c) [I h.op,Sb h.name,Sb h.tail,I h.type_,Cx h.num,Sl cc h.args cd,I h.at_] Z))<|Qx a Z (λ_ _=>Fd My Z)<|have ee:=Bs d3 w;Qx a Z (λ_ ⟨_,c⟩=>Ld Dl Z (Bc (Bs ee c) Z))<|A2 Z<|have ef:=Y3 bh ad ae w;have eg:=K3 AI bg ad ae w;have eh:=Os (Os (Os b7 ad) ae) w;have ei:=Ms (Ms (Ms (Ms (Ms b3 n) aq) ad) ae) w;have ej:=Y3 b8 ad ae w;Bi d λa6 ek d=>A4 Z (.none Z) Z Z (Cg [Pt q 0,Ag [I h.op,Sb h.name,Sb h.tail,I h.type_,Cx h.num,Sl cc h.args cd,I h.at_],I a5.type_] Z)<|Calls.mono (ci.types_checker_want bj ca (ko0_2:=4) ek dcd dcd ef eg eh ei ej (Al (x:=(AF.mk ai aj))) (AY (x:=h) cb)) ?_
 rintro _ fy ⟨el,fz,f0,f1,rfl,cf,em,cg,ch,en,eo⟩
 obtain ⟨ep,eq,rfl⟩:=AW cg
 obtain ⟨er,es,rfl⟩:=Own.len ch
 obtain rfl:=Au eo
 refine ⟨_,Z,⟨_,(Mo [1,3,4] cf)⟩,?_⟩
 refine CA<|AM<|Vr (I (Wr (o+1)))<|Vm<|AA<|⟨ab,Nat.lt_succ_self ab,_,el,(Wr (o+1)),a6.1,ep,eq,a6.2.1,er,es,a6.2.2.why,a6.2.2.at_,Pu,(b9▸d),(T4 (Mo [1,3,4,21] aq) ad ae w cf),cg,ch,em,en⟩
 refine BX<|Sr<|Vm<|Vx (Nc Z)<|Vx (Fd RH Z)<|Vx (Ld Fr Z (Bc bh Z))<|Vm<|Vr (I (Wr ((Cz g f.name) - 1)))<|Bi d λet eu d=>?_
 obtain ⟨ew,ex,f2,ey,ez,e0,e1,e2,bl⟩:=A8 (κ:=AI) bg eu
 replace bl:Ay r ac ew (ex+((Wr ((Cz g f.name) - 1))).toNat*11) ey:=bl
 obtain ⟨f3,f4,rfl,e3,e4⟩:=CL e2
 obtain ⟨f5,f6,rfl⟩:=AW e3
 obtain ⟨f7,f8,rfl⟩:=AW e4
 refine Vx (Ix FA ez Z e0 e1)<|Vx (Fd NM Z)<|Vx (Ld Dl Z (Ay.cell (k:=2) bl Z))<|Va (I et.type_)<|AA<|AS ?_
 obtain rfl:=AK d
 refine O1 B b1 Z (.tmp Z)<|⟨r,Sl a1 ag a2,Sl a3 ah a4,[I ai,I aj],Z,Ho (T3 (Mo [1,3,4,21] m) l n aq) bm,bh,bg,b7,b8,(Al (x:=(AF.mk ai aj)))⟩
theorem OV(e:AH)(g:Nat)(o:AH.Good e):types_checker_call.Spec (GW e g):=by
 intro f h ai a aj ak al am ko0_2 an c ao ap d aq ar au av aw p hnd hnz l q r s m u w
 refine Calls.mono (OU e g o (recol (see [a,c,d,ko0_2]) f) h (E9 (Nat.le_of_ble_eq_true Z) f) (BY l [a,c,d,ko0_2] (BU hnd hnz (i:=0) Z)) (EZ AI q [a,c,d,ko0_2]) (Io r [a,c,d,ko0_2] (BU hnd hnz (i:=3) Z)) (F2 s [a,c,d,ko0_2] (BU hnd hnz (i:=1) Z)) (BY m [a,c,d,ko0_2] (BU hnd hnz (i:=2) Z)) (Bd An u [a,c,d,ko0_2]) (Bd AG w [a,c,d,ko0_2]) p) ?_
 rintro ax ay ⟨y,z,aa,ab,ac,n,ad,ae,af,ag,ah⟩
 exact ⟨glue [a,c,d,ko0_2] h f y,z,aa,ab,ac,B8 n (E4 Z Z),EJ l ad dcd,HR AI ae,IV (j:=3) af Z Z n,EJ m ag dcd,ED An ah⟩
theorem AH.good:∀d,AH.Good (AH.at d)
 |0=>⟨by intro a c;intros;(try intro _);intros;exact A5 (by assumption),by intro a c;intros;(try intro _);intros;exact A5 (by assumption),by intro a c;intros;(try intro _);intros;exact A5 (by assumption),by intro a c;intros;(try intro _);intros;exact A5 (by assumption),by intro a c;intros;(try intro _);intros;exact A5 (by assumption),by intro a c;intros;(try intro _);intros;exact A5 (by assumption),by intro a c;intros;(try intro _);intros;exact A5 (by assumption),by intro a c;intros;(try intro _);intros;exact A5 (by assumption),by intro a c;intros;(try intro _);intros;exact A5 (by assumption),by intro a c;intros;(try intro _);intros;exact A5 (by assumption)⟩
 |n+1=>⟨OP _ n (AH.good n),O6 _ n (AH.good n),PY _ n (AH.good n),OR _ n (AH.good n),OT _ n (AH.good n),O8 _ n (AH.good n),Nx _ n (AH.good n),Nz _ n (AH.good n),N1 _ n (AH.good n),OV _ n (AH.good n)⟩
theorem O9(a:Nat):types_checker_want.Spec (types_checker_want a):=(AH.good a).types_checker_want
def HH.At(c:Col)(a:World)(f:AL->Option AF):Prop:=
 ∀{d e g},f d=some g->Bz.rep c.F a e d->
  Calls PG 29 #[Ag e] a λn h=>∃l m,n=.returned (Ag m)/\AU [] c a l h/\An.rep l.F h m g
def HH.Spec(f:AL->Option AF):Prop:=
 ∀a c,HH.At a c f
theorem SJ(l:Nat)(au:Col)(bv:World)(a1:∀b,au b<10):HH.At au bv (HH l):=by
 intro e dw a2 c bw
 rw [HH] at c
 obtain ⟨n,o,rfl,a3⟩:=E1 (BQ bw)
 refine Az Tryz.func29 Z Tryz.ntmps29 Z λB a4 dy=>?_
 refine Sr ?_
 refine Ef (A0 au 20 Z Z λbx dz bz b0 av=>?_)
 refine Ef (Aa bx 21 FR Z λb1 b2 b3 a5 an=>?_)
 refine AA ?_
 refine Sr ?_
 have a6:=(Bs b0 an)
 refine Vx (v:=Ag [Sl n e.funcs o]) (Lx Fw Z Z (Bw a6)) ?_
 have a7:=(K2 AI a3 av an)
 obtain ⟨d,b4,c⟩:=bnd_sm c
 refine CQ (.none Z) Z Z (Cg [Ag [Sl n e.funcs o]] Z) ?_
 refine Calls.mono (Tj l b1 b2 b4 (BL (x:=e) a7)) ?_
 rintro _ d0 ⟨b5,d1,rfl,ae,b6⟩
 obtain rfl:=Au b6
 refine ⟨_,Z,?_⟩
 refine Ef (Aa b5 22 FR Z λa8 d2 p b7 af=>?_)
 refine Eu (St (vs:=[I d.why,I d.at_]) (cs':=[I d.why,I d.at_]) HN b7 Z Z Z Z λb8 ao ag=>?_)
 refine AA ?_
 refine AT ?_
 refine Sr ?_
 refine Vx (v:=Pt p 0) (Fz NN Z) ?_
 refine Vx (v:=I d.why) (Ld NO Z (Bc ao Z)) ?_
 refine Vr (.bool (d.why != 0)) ?_
 refine AA ?_
 refine Cn c (λb9 c=>?_) λb9 c=>?_
 refine Sr ?_
 refine Vx (v:=Ag [I d.why,I d.at_]) (Lx LN Z Z (Bw ao)) ?_
 have ca:=(Y3 a5 ae af ag)
 refine Eu (St (vs:=[I d.why,I d.at_]) (cs':=[I d.why,I d.at_]) HN ca Z Z Z Z λd3 cb cc=>?_)
 refine AA ?_
 refine AS ?_
 obtain rfl:=AK c
 refine Ye (B:=B) a4 (TC Z (.agg LN Z Z (Bw cb)) ?_)
 exact ⟨a8,[I d.why,I d.at_],Z,Ho (Tn (T4 (Mo [21,22] av) an ae af ag) cc) a1,(Al (x:=d))⟩
 refine AR ?_
 refine Sr ?_
 have a9:=(Y3 a6 ae af ag)
 refine Vx (v:=Ag [Sl n e.funcs o]) (Lx Fw Z Z (Bw a9)) ?_
 refine Vx (v:=.func (.func 52) #[] [Pt p 0].toArray) (IZ (vs:=[Pt p 0]) Z) ?_
 have ba:=(K3 AI a7 ae af ag)
 obtain ⟨ah,cd,c⟩:=bnd_sm c
 refine CQ (.none Z) Z Z (Cg [Ag [Sl n e.funcs o],.func (.func 52) #[] [Pt p 0].toArray] Z) ?_
 refine Calls.mono (Un l a8 b8 (kn1:=23) (kn2:=24) (ko1_2:=25) cd dcd dcd (BL (x:=e) ba) ao (Al (x:=d))) ?_
 rintro _ cf ⟨bb,q,bc,d4,d5,rfl,aj,d6,cg,bd,be,ch⟩
 obtain ⟨ci,cj,rfl⟩:=AW bd
 obtain ⟨ck,cl,rfl⟩:=Own.len be
 refine ⟨_,Z,?_⟩
 refine Va (Pt q 0) ?_
 refine AA ?_
 refine AT ?_
 refine Sr ?_
 refine Vx (v:=Pt bz 0) (Fz Dd Z) ?_
 have cm:=(Bs a9 aj)
 refine Vx (v:=Sl n e.funcs o) (Ld Fr Z (Bc cm Z)) ?_
 have bf:=(Ss AI ba aj)
 obtain ⟨d7,d8,cn⟩:=AW bf
 refine Vx (v:=I (e.funcs.length:Int)) (Ll FA cn) ?_
 refine Vx (v:=I 0) (Mv Z) ?_
 refine AA ?_
 refine Ah ?_
 refine Bj (λr co u=>∃bg m h f g w ap aq ai aw ax,co=Env.puts bg [(2,Pt b3 0),(3,Pt p 0),(4,Pt q 0),(17,Sl n e.funcs o),(18,I (e.funcs.length:Int)),(19,I h)]/\H3 l e ah r h f g w ai=some a2/\AU [22,23,25,26] bb cf m u/\Slc AI m.F u (Sl ap w aq) w/\Own AZ 87 m u 25 (Sl aw ai ax) ai/\Bk m u 22 p [I f,I g] 63/\Bk m u 23 q [.map (some bc),Sl ap w aq,Sl aw ai ax,.func (.func 52) #[] [Pt p 0].toArray] 134) l ?_ ?_
 have cq:=(Bs ao aj)
 exact ⟨_,bb,0,d.why,d.at_,ah.2.1,ci,cj,ah.2.2.1,ck,cl,Pu,c,(AU.refl [22,23,25,26] _ _),bd,be,cq,cg⟩
 rintro r _ u ⟨bg,m,h,f,g,w,ap,aq,ai,aw,ax,rfl,c,ak,cr,d9,bh,ct⟩
 rcases r with _|r
 exact A5 c
 have c:IJ l e ah (H3 l e ah r) h f g w ai=some a2:=c
 obtain ⟨ea,bi⟩:∃s,s=H3 l e ah r:=⟨_,rfl⟩
 rw [<-bi,IJ] at c
 refine Sr ?_
 refine Vr (.bool (decide (h< (e.funcs.length:Int)))) ?_
 refine AA ?_
 refine AT ?_
 refine Cn c (λcu c=>?_) λcu c=>?_
 refine AR ?_
 refine AT ?_
 refine Ah ?_
 refine Sr ?_
 obtain ⟨a,cv,c⟩:=bnd_sm c
 have cw:=(Ss AI bf ak)
 obtain ⟨bj,bk,eb,cx,cy,cz,c0,c1,ay⟩:=A8 (κ:=AI) cw cv
 replace ay:Ay m u bj (bk+h.toNat*11) cx:=ay
 obtain ⟨ec,ed,rfl,bl,bm⟩:=CL c1
 obtain ⟨al,am,rfl⟩:=AW bl
 obtain ⟨y,z,rfl⟩:=AW bm
 refine Vx (v:=.pointer (some ⟨bj,bk+h.toNat*11,none⟩)) (Ix FA cy Z cz c0) ?_
 refine Vx (v:=Ag [Sb a.name,Sl al a.params am,I a.type_,I a.body.op,Sb a.body.name,Sb a.body.tail,I a.body.type_,Cx a.body.num,Sl y a.body.args z,I a.body.at_,I a.at_]) (Lx Lm Z Z (Ay.part0 ay [Sb a.name,Sl al a.params am,I a.type_,I a.body.op,Sb a.body.name,Sb a.body.tail,I a.body.type_,Cx a.body.num,Sl y a.body.args z,I a.body.at_,I a.at_] Z)) ?_
 refine Ef (Aa m 26 KZ Z λc2 ee az c3 aa=>?_)
 have c4:=(Ss AZ bl aa)
 have c5:=(Ss AG bm aa)
 refine Eu (St (vs:=[Sb a.name,Sl al a.params am,I a.type_,I a.body.op,Sb a.body.name,Sb a.body.tail,I a.body.type_,Cx a.body.num,Sl y a.body.args z,I a.body.at_,I a.at_]) (cs':=[Sb a.name,Sl al a.params am,I a.type_,I a.body.op,Sb a.body.name,Sb a.body.tail,I a.body.type_,Cx a.body.num,Sl y a.body.args z,I a.body.at_,I a.at_]) LP c3 Z Z Z Z λc6 bn ab=>?_)
 refine AA ?_
 refine Sr ?_
 refine Vx (v:=Pt q 0) (Mv Z) ?_
 refine Vx (v:=Pt az 1) (Fd De Z) ?_
 refine Vx (v:=Sl al a.params am) (Ld EF Z (Bc bn Z)) ?_
 have c7:=(Ss AZ c4 ab)
 obtain ⟨ef,bo,c⟩:=bnd_sm c
 refine Ef (Br (κ:=AZ) Z Z (Own.nil:Own AZ 87 c2 c6 25 _ _) dcd QK (IY c7) (Ea bo) (Ew bo) λeg c8 eh a0 ac=>?_)
 obtain ⟨bp,bq,rfl⟩:=Own.len a0
 refine Vx (v:=Pt q 0) (Nc Z) ?_
 refine Vx (v:=Pt q 2) (Fd Fp Z) ?_
 have c9:=(Y3 ct aa ab ac)
 refine Eu (Bf (vs:=[Sl bp ((([]:List AJ)++a.params)) bq]) (cs':=[.map (some bc),Sl ap w aq,Sl bp ((([]:List AJ)++a.params)) bq,.func (.func 52) #[] [Pt p 0].toArray]) PK Z Z Z Z (AQ (Own.one a0) B6) c9 dcd Z Z λda db ad=>?_)
 refine AA ?_
 refine AM ?_
 refine Vx (v:=Pt q 0) (Mv Z) ?_
 refine Vx (v:=Pt az 3) (Fd LO Z) ?_
 have br:=(Y2 bn ac ad)
 refine Vx (v:=Ag [I a.body.op,Sb a.body.name,Sb a.body.tail,I a.body.type_,Cx a.body.num,Sl y a.body.args z,I a.body.at_]) (Lx BA Z Z (Bk.part br 3 [I a.body.op,Sb a.body.name,Sb a.body.tail,I a.body.type_,Cx a.body.num,Sl y a.body.args z,I a.body.at_] Z)) ?_
 refine Vx (v:=Pt az 2) (Fd NM Z) ?_
 refine Vx (v:=I a.type_) (Ld Dl Z (Bc br Z)) ?_
 have dc:=(K4 AI cr aa ab ac ad)
 have de:=(Os a0 ad)
 have df:=(Ms (Ms (Ms (Ms (Ms ch ak) aa) ab) ac) ad)
 have dg:=(Y4 bh aa ab ac ad)
 have dh:=(K3 AG c5 ab ac ad)
 obtain ⟨ar,di,c⟩:=bnd_sm c
 refine CQ (.none Z) Z Z (Cg [Pt q 0,Ag [I a.body.op,Sb a.body.name,Sb a.body.tail,I a.body.type_,Cx a.body.num,Sl y a.body.args z,I a.body.at_],I a.type_] Z) ?_
 refine Calls.mono (O9 l c8 da (ko0_2:=25) di dcd dcd db dc de df dg (Al (x:=(AF.mk f g))) (AY (x:=(AE.mk a.body.op a.body.name a.body.tail a.body.type_ a.body.num a.body.args a.body.at_)) dh)) ?_
 rintro _ ei ⟨dj,ej,ek,el,rfl,dk,dl,bt,bu,dm,dn⟩
 obtain ⟨dp,dq,rfl⟩:=AW bt
 obtain ⟨dr,ds,rfl⟩:=Own.len bu
 obtain rfl:=Au dn
 refine ⟨_,Z,?_⟩
 refine AA ?_
 refine AM ?_
 refine Vr (I (Wr (h+1))) ?_
 refine Vx (v:=I (Wr (h+1))) (Mv Z) ?_
 refine AA ?_
 exact ⟨r,Nat.lt_succ_self r,_,dj,(Wr (h+1)),ar.2.2.why,ar.2.2.at_,ar.1,dp,dq,ar.2.1,dr,ds,Pu,(bi▸c),(Tn (T4 (Mo [22,23,25,26] ak) aa ab ac ad) dk),bt,bu,dm,dl⟩
 refine BX ?_
 refine Sr ?_
 refine Vx (v:=Ag [I f,I g]) (Lx LN Z Z (Bw bh)) ?_
 have dt:=(Bs (Y4 a5 ae af ag aj) ak)
 refine Eu (St (vs:=[I f,I g]) (cs':=[I f,I g]) HN dt Z Z Z Z λem du dv=>?_)
 refine AA ?_
 refine AS ?_
 obtain rfl:=AK c
 refine Ye (B:=B) a4 (TC Z (.agg LN Z Z (Bw du)) ?_)
 exact ⟨m,[I f,I g],Z,Ho (T3 (T4 (Mo [21,22,23,24,25,26] av) an ae af ag) aj ak dv) a1,(Al (x:=(AF.mk f g)))⟩
theorem Tl(c:Nat):HH.Spec (HH c):=lk0 (SJ c)
def I1.At(e:Col)(a:World)(f:Nat->Option Nat):Prop:=
 ∀{c d},f c=some d->
  Calls PG 113 #[Fl c] a λg h=>∃l,g=.returned (Fl d)/\AU [] e a l h
def I1.Spec(f:Nat->Option Nat):Prop:=
 ∀a c,I1.At a c f
theorem Tm(c:Col)(e:World)(f:∀b,c b<10):I1.At c e I1:=by
 intro g n a
 rw [I1] at a
 refine Az Tryz.func113 Z Tryz.ntmps113 Z λB l o=>Sr<|Va (Fl (0:Nat))<|AA<|AT<|OG (t:=true) Z (λh=>?_) (λh=>by cases h)
 refine Sr<|Vm<|Bi a λd m a=>Vx (v:=Fl d) (AAr (vs:=[Fl g]) Z (Xm m))<|Va (Fl d)<|AA<|AS ?_
 obtain rfl:=AK a
 refine O1 B l Z (.tmp Z)<|⟨c,Z,Ho Rf f⟩
theorem Uo:I1.Spec I1:=lk0 (Tm)
def Ic.At(e:Col)(a:World)(f:Nat->Option Bool):Prop:=
 ∀{c d},f c=some d->
  Calls PG 114 #[Fl c] a λg h=>∃l,g=.returned (.bool d)/\AU [] e a l h
def Ic.Spec(f:Nat->Option Bool):Prop:=
 ∀a c,Ic.At a c f
theorem RW(c:Col)(e:World)(f:∀b,c b<10):Ic.At c e Ic:=by
 intro a h d
 rw [Ic] at d
 refine Az Tryz.func114 Z Tryz.ntmps114 Z λB g l=>Sr<|Va (.bool false)<|AA<|Sr<|Vm<|Vx (v:=.int .u64 ((a:Nat):Int)) (PO (vs:=[Fl a]) Z Z)<|Vr (I (Wr ((a:Nat):Int)))<|Vr (.bool (decide ((Wr ((a:Nat):Int))<0)))<|Va (.bool (decide ((Wr ((a:Nat):Int))<0)))<|AA<|AS ?_
 obtain rfl:=AK d
 refine O1 B g Z (.tmp Z)<|⟨c,Z,Ho Rf f⟩
theorem SK:Ic.Spec Ic:=lk0 (RW)
def HI.At(e:Col)(a:World)(f:Nat->Option Bool):Prop:=
 ∀{c d},f c=some d->
  Calls PG 88 #[Fl c] a λg h=>∃l,g=.returned (.bool d)/\AU [] e a l h
def HI.Spec(f:Nat->Option Bool):Prop:=
 ∀a c,HI.At a c f
theorem SL(g:Col)(l:World)(u:∀b,g b<10):HI.At g l HI:=by
 intro h w a
 rw [HI] at a
 refine Az Tryz.func88 Z Tryz.ntmps88 Z λB y ah=>Sr<|Va (.bool false)<|AA<|Am (λz r=>∃s m n,z=Env.puts s [(2,.bool n)]/\H4 n=some w/\AU [] g l m r) ?_ ?_
 refine AM<|Vm<|Vr (.bool (fge h (13938640846711685120:Nat)))<|Vm<|Bo a (λf a=>?_) λf a=>?_
 refine Gm f<|Gr f (.bool (fle h (4715268809856909312:Nat)))<|Vp f<|Vm<|Bo a (λd a=>?_) λd a=>?_
 refine Gm d<|Gm d<|Bi a λaa ab a=>CQ (.guard (t:=true) (b:=true) Z Z Z Z (Cb d)) Z Z (Cg [Fl h] Z)<|Calls.mono (Uo g l ab) ?_
 rintro _ ac ⟨o,rfl,p⟩
 refine ⟨_,Z,?_⟩
 refine Gr d (.bool (feq h aa))<|Vp d<|Vm<|Bo a (λc a=>?_) λc a=>?_
 refine Gm c<|Gr c (.bool (fne h (0:Nat)))<|Gm c<|Bo a (λe a=>?_) λe a=>?_
 refine Pg e<|Pg e<|Pg e<|Gp c e<|Vp c<|Va (.bool true)<|AA<|⟨_,o,true,Pu,a,(Mo [] p)⟩
 refine Gm e<|Bi a λq ad a=>CQ (.guard (t:=false) (b:=false) Z Z Z Z (Cb e)) Z Z (Cg [Fl h] Z)<|Calls.mono (SK o ac ad) ?_
 rintro _ ai ⟨ae,rfl,af⟩
 refine ⟨_,Z,?_⟩
 refine Gr e (.bool (!q))<|Gp c e<|Vp c<|Va (.bool (!q))<|AA<|⟨_,ae,(!q),Pu,a,(Tn (Mo [] p) af)⟩
 refine Pg c<|Pg c<|Pg c<|Po<|Po<|Po<|Pg c<|Vp c<|Va (.bool false)<|AA<|⟨_,o,false,Pu,a,(Mo [] p)⟩
 refine Pg d<|Pg d<|Pg d<|Pg d<|Vp d<|Vm<|Pg Z<|Pg Z<|Pg Z<|Po<|Po<|Po<|Pg Z<|Vr (.bool false)<|Va (.bool false)<|AA<|⟨_,g,false,Pu,a,Rf⟩
 refine Pg f<|Pg f<|Vp f<|Vm<|Pg Z<|Pg Z<|Pg Z<|Pg Z<|Vr (.bool false)<|Vm<|Pg Z<|Pg Z<|Pg Z<|Po<|Po<|Po<|Pg Z<|Vr (.bool false)<|Va (.bool false)<|AA<|⟨_,g,false,Pu,a,Rf⟩
 rintro _ r ⟨s,m,n,rfl,a,ag⟩
 rw [H4] at a
 refine AS ?_
 obtain rfl:=AK a
 refine O1 B y Z (.tmp Z)<|⟨m,Z,Ho (Mo [] ag) u⟩
theorem PZ:HI.Spec HI:=lk0 (SL)
def CJ.At(e:Col)(a:World)(f:Cpl->Option Bool):Prop:=
 ∀{c d},f c=some d->
  Calls PG 54 #[Cx c] a λg h=>∃l,g=.returned (.bool d)/\AU [] e a l h
def CJ.Spec(f:Cpl->Option Bool):Prop:=
 ∀a c,CJ.At a c f
theorem SM(d:Col)(f:World)(q:∀b,d b<10):CJ.At d f CJ:=by
 intro e r a
 rw [CJ] at a
 refine Az Tryz.func54 Z Tryz.ntmps54 Z λB s ad=>Sr<|Va (.bool false)<|AA<|Am (λu l=>∃m g h,u=Env.puts m [(2,.bool h)]/\K8 h=some r/\AU [] d f g l) ?_ ?_
 refine AM<|Vm<|Vx (v:=Fl e.1) (Run.real Z)<|Bi a λae w a=>Ca (Cg [Fl e.1] Z) (PZ d f w) ?_
 rintro _ y ⟨n,rfl,o⟩
 refine Vm<|Bo a (λc a=>?_) λc a=>?_
 refine Gm c<|Gx c (v:=Fl e.2) (Run.imag Z)<|Bi a λp z a=>CQ (.guard (t:=true) (b:=true) Z Z Z Z (Cb c)) Z Z (Cg [Fl e.2] Z)<|Calls.mono (PZ n y z) ?_
 rintro _ af ⟨aa,rfl,ab⟩
 refine ⟨_,Z,?_⟩
 refine Vp c<|Va (.bool p)<|AA<|⟨_,aa,p,Pu,a,(Tn (Mo [] o) ab)⟩
 refine Pg c<|Pg c<|Pg c<|Vp c<|Va (.bool false)<|AA<|⟨_,n,false,Pu,a,(Mo [] o)⟩
 rintro _ l ⟨m,g,h,rfl,a,ac⟩
 rw [K8] at a
 refine AS ?_
 obtain rfl:=AK a
 refine O1 B s Z (.tmp Z)<|⟨g,Z,Ho (Mo [] ac) q⟩
theorem DK:CJ.Spec CJ:=lk0 (SM)
def DU.At(c:Col)(a:World)(f:AD->Option Int):Prop:=
 ∀{d e g},f d=some g->Aq.rep c.F a e d->
  Calls PG 30 #[Ag e] a λh l=>∃m,h=.returned (I g)/\AU [] c a m l
def DU.Spec(f:AD->Option Int):Prop:=
 ∀a c,DU.At a c f
theorem SN(am:Nat)(an:Col)(bd:World)(az:∀b,an b<10):DU.At an bd (DU am):=by
 intro c b9 y a be
 rw [DU] at a
 obtain ⟨a0,a1,rfl,af⟩:=E1 (A1 be)
 refine Az Tryz.func30 Z Tryz.ntmps30 Z λB a2 cb=>Sr<|Ef<|A0 an 20 Z Z λw z bf o aa=>Va (I 0)<|AA<|Sr<|Va (.bool true)<|AA<|Am (λq a3=>∃d ag ah,q=Env.puts d [(3,.bool ah)]/\El ah=some y/\AU [] w z ag a3) ?_ ?_
 refine Sr<|Vx (Fz JJ Z)<|Vx (Ld Dl Z (Bc o Z))<|AA<|Ah<|Sr<|Vr (.bool (c.type_==1))<|Va (.bool (c.type_==1))<|AA<|Cn a (λbg a=>?_) λbg a=>?_
 refine AM<|Vx (Fd HU Z)<|Vx (Ld Gc Z (Bc o Z))<|Bi a λcc bh a=>Ca (Cg [Cx c.num] Z) (DK w z bh) ?_
 rintro _ cd ⟨ao,rfl,ab⟩
 refine Vm<|Bo a (λh a=>?_) λh a=>?_
 refine Gx h (Fd Kj Z)<|have a4:=Bs o ab;Gx h (Ld M0 Z (Bc a4 Z))<|Gr h (.bool (!c.bool))<|Vp h<|Vm<|Bo a (λe a=>?_) λe a=>?_
 refine Gx e (Fd DV Z)<|Gx e (Ld HO Z (Bc a4 Z))<|have bi:=K2 Kd.cpx af aa ab; ?_
 obtain ⟨cf,cg,bj⟩:=AW bi
 refine Gx e (v:=I (c.list.length:Int)) (Ll HB bj)<|Gr e (.bool ((c.list.length:Int)==0))<|Vp e<|Va (.bool ((c.list.length:Int)==0))<|AA<|⟨_,ao,((c.list.length:Int)==0),Pu,a,(Mo [] ab)⟩
 refine Pg e<|Pg e<|Pg e<|Pg e<|Vp e<|Va (.bool false)<|AA<|⟨_,ao,false,Pu,a,(Mo [] ab)⟩
 refine Pg h<|Pg h<|Pg h<|Vp h<|Vm<|Pg Z<|Pg Z<|Pg Z<|Pg Z<|Vr (.bool false)<|Va (.bool false)<|AA<|⟨_,ao,false,Pu,a,(Mo [] ab)⟩
 refine Sr<|Vr (.bool (c.type_==2))<|Va (.bool (c.type_==2))<|AA<|Cn a (λbk a=>?_) λbk a=>?_
 refine AM<|Vx (Fd HU Z)<|Vx (Ld Gc Z (Bc o Z))<|Bi a λch bl a=>Ca (Cg [Cx c.num] Z) (DK w z bl) ?_
 rintro _ ci ⟨ap,rfl,ac⟩
 refine Vm<|Bo a (λl a=>?_) λl a=>?_
 refine Gx l (Fd HU Z)<|have a5:=Bs o ac;Gx l (Ld Gc Z (Bc a5 Z))<|Gx l (v:=.bool (ceq c.num ((0,0):Cpl))) (Run.ceq Z Z)<|Vp l<|Vm<|Bo a (λf a=>?_) λf a=>?_
 refine Gx f (Fd DV Z)<|Gx f (Ld HO Z (Bc a5 Z))<|have bm:=K2 Kd.cpx af aa ac; ?_
 obtain ⟨cj,ck,bn⟩:=AW bm
 refine Gx f (v:=I (c.list.length:Int)) (Ll HB bn)<|Gr f (.bool ((c.list.length:Int)==0))<|Vp f<|Va (.bool ((c.list.length:Int)==0))<|AA<|⟨_,ap,((c.list.length:Int)==0),Pu,a,(Mo [] ac)⟩
 refine Pg f<|Pg f<|Pg f<|Pg f<|Vp f<|Va (.bool false)<|AA<|⟨_,ap,false,Pu,a,(Mo [] ac)⟩
 refine Pg l<|Pg l<|Pg l<|Vp l<|Vm<|Pg Z<|Pg Z<|Pg Z<|Pg Z<|Vr (.bool false)<|Va (.bool false)<|AA<|⟨_,ap,false,Pu,a,(Mo [] ac)⟩
 refine Sr<|Vr (.bool (c.type_==3))<|Va (.bool (c.type_==3))<|AA<|Cn a (λbo a=>?_) λbo a=>?_
 refine Am (λq aq=>∃d ai aj,q=Env.puts d [(1,Pt bf 0),(3,.bool aj)]/\KG am c aj=some y/\AU [] w z ai aq) ?_ ?_
 refine AM<|Vx (Fd HU Z)<|Vx (Ld Gc Z (Bc o Z))<|Bi a λcl bp a=>Ca (Cg [Cx c.num] Z) (DK w z bp) ?_
 rintro _ cm ⟨ar,rfl,ak⟩
 refine Vm<|Bo a (λm a=>?_) λm a=>?_
 refine Gx m (Fd HU Z)<|have a6:=Bs o ak;Gx m (Ld Gc Z (Bc a6 Z))<|Gx m (v:=.bool (ceq c.num ((0,0):Cpl))) (Run.ceq Z Z)<|Vp m<|Vm<|Bo a (λn a=>?_) λn a=>?_
 refine Gx n (Fd Kj Z)<|Gx n (Ld M0 Z (Bc a6 Z))<|Gr n (.bool (!c.bool))<|Vp n<|Va (.bool (!c.bool))<|AA<|⟨_,ar,(!c.bool),Pu,a,(Mo [] ak)⟩
 refine Pg n<|Pg n<|Pg n<|Vp n<|Va (.bool false)<|AA<|⟨_,ar,false,Pu,a,(Mo [] ak)⟩
 refine Pg m<|Pg m<|Pg m<|Vp m<|Vm<|Pg Z<|Pg Z<|Pg Z<|Vr (.bool false)<|Va (.bool false)<|AA<|⟨_,ar,false,Pu,a,(Mo [] ak)⟩
 rintro _ aq ⟨d,ai,aj,rfl,a,au⟩
 rw [KG] at a
 refine Sr<|Vx (Fd DV Z)<|have bq:=Bs o au;Vx (Ld HO Z (Bc bq Z))<|have a7:=K2 Kd.cpx af aa au; ?_
 obtain ⟨cn,co,br⟩:=AW a7
 refine Vx (v:=I (c.list.length:Int)) (Ll HB br)<|Vm<|AA<|Ah<|Bj (λp q ad=>∃d r ae g,q=Env.puts d [(3,.bool ae),(56,Sl a0 c.list a1),(57,I (c.list.length:Int)),(58,I g)]/\I2 c p ae g=some y/\AU [] ai aq r ad) am ?_ ?_
 exact ⟨_,ai,aj,0,Pu,a,Rf⟩
 rintro p _ ad ⟨d,r,ae,g,rfl,a,av⟩
 rcases p with _|p
 exact A5 a
 refine have a:Ka c (I2 c p) ae g=some y:=a; ?_
 obtain ⟨bt,a8⟩:∃s,s=I2 c p:=⟨_,rfl⟩
 rw [<-a8,Ka] at a
 refine Sr<|Vr (.bool (decide (g< (c.list.length:Int))))<|AA<|AT<|Cn a (λbu a=>?_) λbu a=>?_
 refine AR<|Am (λq a9=>∃d aw al,q=Env.puts d [(3,.bool al),(56,Sl a0 c.list a1),(57,I (c.list.length:Int)),(58,I g)]/\K9 g bt al=some y/\AU [] r ad aw a9) ?_ ?_
 refine Ah<|Sr<|Bi a λax bv a=>have bw:=Ss Kd.cpx a7 av; ?_
 obtain ⟨bx,bz,cq,ba,b0,b1,b2,b3,ay⟩:=A8 (κ:=Kd.cpx) bw bv
 replace ay:Ay r ad bx (bz+g.toNat*1) ba:=ay
 obtain rfl:=(show ba=[Cx ax] from b3)
 refine Vx (Ix HB b0 Z b1 b2)<|Vx (Ld Gc Z (Ay.cell0 ay Z))<|Va (Cx ax)<|AA<|AM<|Vm<|Vm<|Bo a (λu a=>?_) λu a=>?_
 refine Gm u<|Bi a λbb b4 a=>CQ (.guard (t:=true) (b:=true) Z Z Z Z (Cb u)) Z Z (Cg [Cx ax] Z)<|Calls.mono (DK r ad b4) ?_
 rintro _ cr ⟨b5,rfl,b6⟩
 refine ⟨_,Z,?_⟩
 refine Vp u<|Va (.bool bb)<|AA<|⟨_,b5,bb,Pu,a,(Mo [] b6)⟩
 refine Pg u<|Pg u<|Vp u<|Va (.bool false)<|AA<|⟨_,r,false,Pu,a,Rf⟩
 rintro _ a9 ⟨d,aw,al,rfl,a,b7⟩
 rw [K9] at a
 refine AM<|Vr (I (Wr (g+1)))<|Vm<|AA<|⟨p,Nat.lt_succ_self p,_,aw,al,(Wr (g+1)),Pu,(a8▸a),(Tn (Mo [] av) b7)⟩
 refine BX<|⟨_,r,ae,Pu,a,(Tn (Mo [] au) av)⟩
 refine AM<|Va (.bool false)<|AA<|⟨_,w,false,Pu,a,Rf⟩
 rintro _ a3 ⟨d,ag,ah,rfl,a,bc⟩
 rw [El] at a
 refine AT<|Sr<|Vm<|Vr (.bool (!ah))<|AA<|Cn a (λb8 a=>?_) λb8 a=>?_
 refine Sr<|Va (I 3)<|AA<|AS ?_
 obtain rfl:=AK a
 refine O1 B a2 Z (.tmp Z)<|⟨ag,Z,Ho (Tn (Mo [] aa) bc) az⟩
 refine AR<|Sr<|Va (I 0)<|AA<|AS ?_
 obtain rfl:=AK a
 refine O1 B a2 Z (.tmp Z)<|⟨ag,Z,Ho (Tn (Mo [] aa) bc) az⟩
theorem Pa(c:Nat):DU.Spec (DU c):=lk0 (SN c)
def Iq.At(c:Col)(a:World)(f:Ax->Option Th):Prop:=
 ∀{d e g},f d=some g->HA.rep c.F a e d->
  Calls PG 55 #[Ag e] a λn h=>∃l m,n=.returned m/\AU [] c a l h/\MTh 89 90 l.F h m g
def Iq.Spec(f:Ax->Option Th):Prop:=
 ∀a c,Iq.At a c f
theorem Uq(e:Col)(h:World)(l:∀b,e b<10):Iq.At e h Iq:=by
 intro a ae af f m
 rw [Iq] at f
 obtain ⟨ag,n,o,rfl,g,p,q⟩:=Dk m
 obtain ⟨r,s,rfl⟩:=AW g
 refine Az Tryz.func55 Z Tryz.ntmps55 Z λB u ah=>Sr<|Ef<|A0 e 20 Z Z λai aj c w d=>Va .nilFunc<|AA<|Sr<|Vx (v:=.func (.func 89) #[] [Pt c 0].toArray) (IZ (vs:=[Pt c 0]) Z)<|Va (.func (.func 89) #[] [Pt c 0].toArray)<|AA<|AS<|have y:=Ss Kd.cpx g d;have z:=Mt p d;have aa:=Mt q d; ?_
 obtain ⟨ab,ac,ad⟩:=MTh.layDone (L:=90) (cp:=[I a.plain.type_,Cx a.plain.num,.bool a.plain.bool,Sl r a.plain.list s]) (hv:=n) (tv:=o) w dcd (Ao (x:=(AD.mk a.plain.type_ a.plain.num a.plain.bool a.plain.list)) y) z aa
 obtain rfl:=AK f
 refine O1 B u Z (.tmp Z)<|⟨ab,.func (.func 89) #[] [Pt c 0].toArray,Z,Ho (Tn (Mo [20] d) ac) l,ad⟩
theorem MZ:Iq.Spec Iq:=by
 intro a c n o p d e
 refine Calls.mono (Uq (recol (see []) a) c (E9 (Nat.le_of_ble_eq_true Z) a) d (Bd HA e [])) ?_
 rintro q r ⟨f,g,h,l,m⟩
 exact ⟨glue [] c a f,g,h,B8 l Mw,MTh.glue m⟩
def I3.At(c:Col)(a:World)(f:AD->Option Th):Prop:=
 ∀{d e g},f d=some g->Aq.rep c.F a e d->
  Calls PG 31 #[Ag e] a λn h=>∃l m,n=.returned m/\AU [] c a l h/\MTh 89 90 l.F h m g
def I3.Spec(f:AD->Option Th):Prop:=
 ∀a c,I3.At a c f
theorem To(ab:Nat)(p:Col)(av:World)(ac:∀b,p b<10):I3.At p av (I3 ab):=by
 intro c bu ad a aw
 rw [I3] at a
 obtain ⟨r,u,rfl,q⟩:=E1 (A1 aw)
 refine Az Tryz.func31 Z Tryz.ntmps31 Z λB ae bw=>Sr<|Ef<|A0 p 20 Z Z λaf ag ax w n=>Va .nilFunc<|AA<|AT<|Sr<|Vx (Fz JJ Z)<|Vx (Ld Dl Z (Bc w Z))<|Vr (.bool (c.type_ != 3))<|AA<|Cn a (λay a=>?_) λay a=>?_
 refine Sr<|Vx (Lx B5 Z Z (Bw w))<|Vx (v:=Ag [I c.type_,Cx c.num,.bool c.bool,Sl r c.list u,.nilFunc,.nilFunc]) (Bp LR Nt Z (.cons Z Z Z .nil))<|have az:=Ss Kd.cpx q n;Bi a λbx a0 a=>Ca (Cg [Ag [I c.type_,Cx c.num,.bool c.bool,Sl r c.list u,.nilFunc,.nilFunc]] Z) (MZ af ag a0 (Cw (x:=(Ax.mk c Th.nil Th.nil)) az MTh.nil MTh.nil)) ?_
 rintro _ bz ⟨a1,ah,rfl,a2,a3⟩
 refine Va ah<|AA<|AS ?_
 obtain rfl:=AK a
 refine O1 B ae Z (.tmp Z)<|⟨a1,ah,Z,Ho (Tn (Mo [] n) a2) ac,a3⟩
 refine AR<|Sr<|Vx (v:=Ag [I 3,Cx (((0,0):Cpl)),.bool false,.slice none 0 0]) (Bp Cm GK Z (.cons Z Z Z .nil))<|Vx (v:=Ag [I 3,Cx (((0,0):Cpl)),.bool false,.slice none 0 0,.nilFunc,.nilFunc]) (Bp LR Nt Z (.cons Z Z Z .nil))<|Bi a λa4 a5 a=>Ca (Cg [Ag [I 3,Cx (((0,0):Cpl)),.bool false,.slice none 0 0,.nilFunc,.nilFunc]] Z) (MZ af ag a5 (Cw (x:=(Ax.mk (AD.mk 3 ((0,0):Cpl) false []) Th.nil Th.nil)) Ba MTh.nil MTh.nil)) ?_
 rintro _ a6 ⟨ai,aj,rfl,y,a7⟩
 refine Va aj<|AA<|AT<|Sr<|Vx (Fd DV Z)<|have ak:=Bs w y;Vx (Ld HO Z (Bc ak Z))<|have al:=K2 Kd.cpx q n y; ?_
 obtain ⟨b0,b1,a8⟩:=AW al
 refine Vx (v:=I (c.list.length:Int)) (Ll HB a8)<|Vr (I (Wr ((c.list.length:Int) - 1)))<|Va (I (Wr ((c.list.length:Int) - 1)))<|AA<|Ah<|Bj (λe a9 h=>∃am g l f d,a9=Env.puts am [(1,Pt ax 0),(3,f),(4,I d)]/\Jr c e l d=some ad/\AU [] ai a6 g h/\MTh 89 90 g.F h f l) ab ?_ ?_
 exact ⟨_,ai,a4,aj,(Wr ((c.list.length:Int) - 1)),Pu,a,Rf,a7⟩
 rintro e _ h ⟨am,g,l,f,d,rfl,a,o,z⟩
 rcases e with _|e
 exact A5 a
 refine have a:LB c (Jr c e) l d=some ad:=a; ?_
 obtain ⟨b2,an⟩:∃s,s=Jr c e:=⟨_,rfl⟩
 rw [<-an,LB] at a
 refine AT<|Sr<|Vm<|Vr (.bool (decide (d>=0)))<|AA<|Cn a (λba a=>?_) λba a=>?_
 refine AR<|AT<|Ah<|AM<|Vx (Fd DV Z)<|have bb:=Bs ak o;Vx (Ld HO Z (Bc bb Z))<|Vm<|Bi a λm bc a=>have bd:=Ss Kd.cpx al o; ?_
 obtain ⟨be,o130,b3,ao,bf,bg,bh,bi,aa⟩:=A8 (κ:=Kd.cpx) bd bc
 replace aa:Ay g h be (o130+d.toNat*1) ao:=aa
 obtain rfl:=(show ao=[Cx m] from bi)
 refine Vx (Ix HB bf Z bg bh)<|Vx (Ld Gc Z (Ay.cell0 aa Z))<|Vx (v:=Ag [I 1,Cx m,.bool false,.slice none 0 0]) (Bp Cm GK Z (.cons Z Z Z (.cons Z Z Z .nil)))<|Vx (v:=Ag [I 1,Cx m,.bool false,.slice none 0 0,.nilFunc,.nilFunc]) (Bp LR Nt Z (.cons Z Z Z .nil))<|Bi a λbj bk a=>Ca (Cg [Ag [I 1,Cx m,.bool false,.slice none 0 0,.nilFunc,.nilFunc]] Z) (MZ g h bk (Cw (x:=(Ax.mk (AD.mk 1 m false []) Th.nil Th.nil)) Ba MTh.nil MTh.nil)) ?_
 rintro _ bl ⟨bm,ap,rfl,aq,ar⟩
 refine Vm<|Vx (v:=Ag [I 0,Cx (((0,0):Cpl)),.bool false,.slice none 0 0,ap,f]) (Bp LR Nt Z (.cons Z (Dq (MTh.one ar)) Z (.cons Z (Dq (MTh.one z)) Z .nil)))<|have bn:=Mt z aq;Bi a λbo bp a=>Ca (Cg [Ag [I 0,Cx (((0,0):Cpl)),.bool false,.slice none 0 0,ap,f]] Z) (MZ bm bl bp (Cw (x:=(Ax.mk (AD.mk 0 ((0,0):Cpl) false []) bj l)) Ba ar bn)) ?_
 rintro _ b4 ⟨bq,au,rfl,br,bt⟩
 refine Va au<|AA<|AM<|Vm<|Vr (I (Wr (d - 1)))<|Va (I (Wr (d - 1)))<|AA<|⟨e,Nat.lt_succ_self e,_,bq,bo,au,(Wr (d - 1)),Pu,(an▸a),(T2 (Mo [] o) aq br),bt⟩
 refine BX<|Sr<|Vm<|Va f<|AA<|AS ?_
 obtain rfl:=AK a
 refine O1 B ae Z (.tmp Z)<|⟨g,f,Z,Ho (T2 (Mo [] n) y o) ac,z⟩
theorem Ur(c:Nat):I3.Spec (I3 c):=by
 intro a d o p q e f
 refine Calls.mono (To c (recol (see []) a) d (E9 (Nat.le_of_ble_eq_true Z) a) e (Bd Aq f [])) ?_
 rintro r s ⟨g,h,l,m,n⟩
 exact ⟨glue [] d a g,h,l,B8 m Mw,MTh.glue n⟩
def Dr.At(c:Col)(a:World)(f:Nm->Bts->Option Th):Prop:=
 ∀{d v0 e g},f d e=some g->Ge 89 90 c.F a v0 d->
  Calls PG 56 #[v0,Sb e] a λn h=>∃l m,n=.returned m/\AU [] c a l h/\MTh 89 90 l.F h m g
def Dr.Spec(f:Nm->Bts->Option Th):Prop:=
 ∀a c,Dr.At a c f
theorem P4(r:Nat)(g:Col)(u:World)(ab:∀b,g b<10):Dr.At g u (Dr r):=by
 intro ac v0 d w a ad
 rw [Dr] at a
 refine Az Tryz.func56 Z Tryz.ntmps56 Z λB ae am=>Sr<|Va .nilFunc<|AA<|AT<|Ah<|Bj (λc af h=>∃y e l m,af=Env.puts y [(0,m),(1,Sb d)]/\Ed d c l=some w/\AU [] g u e h/\Ge 89 90 e.F h m l) r ?_ ?_
 exact ⟨_,g,ac,v0,Pu,a,Rf,ad⟩
 rintro c _ h ⟨y,e,l,m,rfl,a,z,ag⟩
 rcases c with _|c
 exact A5 a
 refine have a:Lj d (Ed d c) l=some w:=a; ?_
 obtain ⟨an,aa⟩:∃s,s=Ed d c:=⟨_,rfl⟩
 rw [<-aa,Lj] at a
 refine AT<|Sr<|Vm<|Bi a λn ah a=>?_
 obtain ⟨ai,o,p,q,f,aj,ak⟩:=Ge.el ag ah
 replace f:Ay e h ai 0 [Sb n.1,o,p]:=f
 refine Vx (Nc q)<|Vx (Fz Za Z)<|Vx (Ld B7 Z (Ay.cell0 f Z))<|Vm<|Vx (v:=.bool (!(n.1==d))) (Run.strNe Z Z)<|AA<|Cn a (λal a=>?_) λal a=>?_
 refine AR<|Ah<|AM<|Vm<|Vx (Nc q)<|Vx (Fd Zb Z)<|Vx (Ld Zf Z (Ay.cell (k:=2) f Z))<|Va p<|AA<|⟨c,Nat.lt_succ_self c,_,e,n.2.2,p,Pu,(aa▸a),(Mo [] z),ak⟩
 refine BX<|Sr<|Vm<|Vx (Nc q)<|Vx (Fd XJ Z)<|Vx (Ld PM Z (Ay.cell (k:=1) f Z))<|Va o<|AA<|AS ?_
 obtain rfl:=AK a
 refine O1 B ae Z (.tmp Z)<|⟨e,o,Z,Ho (Mo [] z) ab,aj⟩
theorem QN(c:Nat):Dr.Spec (Dr c):=by
 intro a d o v0 p q e f
 refine Calls.mono (P4 c (recol (see []) a) d (E9 (Nat.le_of_ble_eq_true Z) a) e (Ge.recol f [])) ?_
 rintro r s ⟨g,h,l,m,n⟩
 exact ⟨glue [] d a g,h,l,B8 m Mw,MTh.glue n⟩
def Jg.At(c:Col)(a:World)(f:Ax->Option Ax):Prop:=
 ∀{d e g v0 h},f d=some h->Ay c a e 0 g->HA.rep c.F a g d->v0.oneCell'=true->
  Calls PG 89 #[v0,Pt e 0] a λo l=>∃m n,o=.returned (Ag n)/\AU [] c a m l/\HA.rep m.F l n h
def Jg.Spec(f:Ax->Option Ax):Prop:=
 ∀a c,Jg.At a c f
theorem SO(l:Col)(r:World)(s:∀b,l b<10):Jg.At l r Jg:=by
 intro a ag ah v0 ai m u w _p0
 rw [Jg] at m
 obtain ⟨aj,c,d,rfl,n,o,p⟩:=Dk w
 obtain ⟨e,f,rfl⟩:=AW n
 refine Az Tryz.func89 Z Tryz.ntmps89 Z λB y ak=>Sr<|Ef<|Aa l 20 LR Z λz al am aa g=>AA<|Sr<|have ab:=Es u g;Vx (Lx KO Z Z (Ay.part0 ab [I a.plain.type_,Cx a.plain.num,.bool a.plain.bool,Sl e a.plain.list f,c,d] Z))<|have q:=Ss Kd.cpx n g;Eu<|Bf (vs:=[I a.plain.type_,Cx a.plain.num,.bool a.plain.bool,Sl e a.plain.list f,c,d]) (cs':=[I a.plain.type_,Cx a.plain.num,.bool a.plain.bool,Sl e a.plain.list f,c,d]) J0 Z Z Z Z (AQ Z (AQ Z (AQ Z (AQ (Fg q) (AQ (MTh.one o) (AQ (MTh.one p) B6)))))) aa dcd Z Z λan ac h=>AA<|AS ?_
 obtain rfl:=AK m
 refine O1 B y Z (.agg KO Z Z (Bw ac))<|have ad:=Ss Kd.cpx q h;have ae:=Mt (Mt o g) h;have af:=Mt (Mt p g) h;⟨z,[I a.plain.type_,Cx a.plain.num,.bool a.plain.bool,Sl e a.plain.list f,c,d],Z,Ho (Tn (Mo [20] g) h) s,(Cw (x:=a) ad ae af)⟩
theorem Tp:Jg.Spec Jg:=by
 intro a c p q r v0 s d e f g
 refine Calls.mono (SO (recol (see []) a) c (E9 (Nat.le_of_ble_eq_true Z) a) d (QJ e []) (Bd HA f []) g) ?_
 rintro u w ⟨h,l,m,n,o⟩
 exact ⟨glue [] c a h,l,m,B8 n Mw,ED HA o⟩
def Js.Spec(f:AE->Option AE):Prop:=
 ∀g d {h l kn0 kn1 e m},f h=some m->[kn0,kn1].Nodup->0∉[kn0,kn1]->AG.rep g.F d l h->e.oneCell'=true->
  Calls PG 57 #[Ag l,e] d λq a=>∃c n o p,q=.returned (.func (.func 90) #[] [Pt n 0,Pt o 0].toArray)/\AU [kn0,kn1] g d c a/\Bk c a kn0 n p 56/\AG.rep c.F a p m/\Bk c a kn1 o [e] 85
theorem Tq(c:Col)(h:World)(y:∀b,c b<10){a:AE}{n:List Value}{l:Value}{o:AE}(z:AG.rep c.F h n a)(aa:l.oneCell'=true)(p:Js a=some o):
  Calls PG 57 #[Ag n,l] h λab d=>∃e q r s,ab=.returned (.func (.func 90) #[] [Pt q 0,Pt r 0].toArray)/\AU [1,2] c h e d/\Bk e d 1 q s 56/\AG.rep e.F d s o/\Bk e d 2 r [l] 85:=by
 rw [Js] at p
 obtain ⟨ac,ad,rfl,u⟩:=E1 (Ae z)
 refine Az Tryz.func57 Z Tryz.ntmps57 Z λB ae am=>Sr<|Ef<|A0 c 1 Z Z λaf an f ag w=>Ef<|A0 af 2 Z (Dq aa) λah ao g ai m=>Va .nilFunc<|AA<|Sr<|Vx (v:=.func (.func 90) #[] [Pt f 0,Pt g 0].toArray) (IZ (vs:=[Pt f 0,Pt g 0]) Z)<|Va (.func (.func 90) #[] [Pt f 0,Pt g 0].toArray)<|AA<|AS ?_
 obtain rfl:=AK p
 refine O1 B ae Z (.tmp Z)<|have aj:=Bs ag m;have ak:=K2 AG u w m;⟨ah,f,g,[I a.op,Sb a.name,Sb a.tail,I a.type_,Cx a.num,Sl ac a.args ad,I a.at_],Z,Ho (Tn (Mo [] w) m) y,aj,(AY (x:=a) ak),ai⟩
theorem Mn:Js.Spec Js:=by
 intro a d s u kn0 kn1 w y e hnd hnz f g
 refine Calls.mono (Tq (recol (see [kn0,kn1]) a) d (E9 (Nat.le_of_ble_eq_true Z) a) (Bd AG f [kn0,kn1]) g e) ?_
 rintro z aa ⟨h,l,m,n,o,c,p,q,r⟩
 exact ⟨glue [kn0,kn1] d a h,l,m,n,o,B8 c (E4 Z Z),Vt (j:=0) p Z Z c,ED AG q,Vt (j:=1) r Z Z c⟩
def IK.At(e:Col)(c:World)(f:Int->Option (Int×Int)):Prop:=
 ∀{d a},f d=some a->
  Calls PG 115 #[I d] c λg h=>∃l,g=.returned (.tuple #[I a.1,I a.2])/\AU [] e c l h
def IK.Spec(f:Int->Option (Int×Int)):Prop:=
 ∀a c,IK.At a c f
theorem Ts(g:Col)(u:World)(l:∀b,g b<10):IK.At g u IK:=by
 intro c w a
 rw [IK] at a
 refine Az Tryz.func115 Z Tryz.ntmps115 Z λB m ad=>Sr<|Va (I 0)<|Va (I 0)<|AA<|AT<|Ah<|Am (λp q=>∃h d r,p=Env.puts h [(0,I c),(4,.bool r)]/\Ml c r=some w/\AU [] g u d q) ?_ ?_
 refine AM<|Vm<|Vr (.bool (decide (c>=8)))<|Vm<|Bo a (λe a=>?_) λe a=>?_
 refine Gm e<|Gr e (.bool (decide (c<=13)))<|Vp e<|Va (.bool (decide (c<=13)))<|AA<|⟨_,g,(decide (c<=13)),Pu,a,Rf⟩
 refine Pg e<|Pg e<|Vp e<|Va (.bool false)<|AA<|⟨_,g,false,Pu,a,Rf⟩
 rintro _ q ⟨h,d,r,rfl,a,n⟩
 rw [Ml] at a
 refine Cn a (λaa a=>?_) λaa a=>?_
 refine Sr<|Va (I 2)<|Va (I 1)<|AA<|AS ?_
 obtain rfl:=AK a
 refine O2 B m Z (.tmp Z) (.tmp Z)<|⟨d,Z,Ho (Mo [] n) l⟩
 refine Sr<|Vm<|Vr (.bool (c==14))<|Va (.bool (c==14))<|AA<|Cn a (λab a=>?_) λab a=>?_
 refine Sr<|Va (I 1)<|Va (I 2)<|AA<|AS ?_
 obtain rfl:=AK a
 refine O2 B m Z (.tmp Z) (.tmp Z)<|⟨d,Z,Ho (Mo [] n) l⟩
 refine Am (λp y=>∃h o s,p=Env.puts h [(14,.bool s)]/\Mk s=some w/\AU [] d q o y) ?_ ?_
 refine AM<|Vm<|Vr (.bool (decide (c>=15)))<|Vm<|Bo a (λf a=>?_) λf a=>?_
 refine Gm f<|Gr f (.bool (decide (c<=17)))<|Vp f<|Va (.bool (decide (c<=17)))<|AA<|⟨_,d,(decide (c<=17)),Pu,a,Rf⟩
 refine Pg f<|Pg f<|Vp f<|Va (.bool false)<|AA<|⟨_,d,false,Pu,a,Rf⟩
 rintro _ y ⟨h,o,s,rfl,a,z⟩
 rw [Mk] at a
 refine Cn a (λac a=>?_) λac a=>?_
 refine Sr<|Va (I 1)<|Va (I 1)<|AA<|AS ?_
 obtain rfl:=AK a
 refine O2 B m Z (.tmp Z) (.tmp Z)<|⟨o,Z,Ho (Tn (Mo [] n) z) l⟩
 refine AR<|Sr<|Va (I 0)<|Va (I 0)<|AA<|AS ?_
 obtain rfl:=AK a
 refine O2 B m Z (.tmp Z) (.tmp Z)<|⟨o,Z,Ho (Tn (Mo [] n) z) l⟩
theorem Us:IK.Spec IK:=lk0 (Ts)
def EI.At(m:Col)(c:World)(f:Cpl->Int->Option (AD×Int)):Prop:=
 ∀{d e a},f d e=some a->
  Calls PG 116 #[Cx d,I e] c λn g=>∃h l,n=.returned (.tuple #[Ag l,I a.2])/\AU [] m c h g/\Aq.rep h.F g l a.1
def EI.Spec(f:Cpl->Int->Option (AD×Int)):Prop:=
 ∀a c,EI.At a c f
theorem SP(d:Col)(n:World)(e:∀b,d b<10):EI.At d n EI:=by
 intro c f u a
 rw [EI] at a
 refine Az Tryz.func116 Z Tryz.ntmps116 Z λB g w=>Sr<|Ef<|Aa d 20 Cm Z λh y z l m=>Va (I 0)<|AA<|AT<|Sr<|Vm<|Vr (.bool (f != 0))<|AA<|Cn a (λo a=>?_) λo a=>?_
 refine Sr<|Vx (v:=Ag [I 0,Cx (((0,0):Cpl)),.bool false,.slice none 0 0]) (Bp Cm GK Z .nil)<|Vm<|Eu<|St DN l Z Z Z Z λaa p q=>Va (I f)<|AA<|AS ?_
 obtain rfl:=AK a
 refine O2 B g Z (.agg B5 Z Z (Bw p)) (.tmp Z)<|⟨h,[I 0,Cx (((0,0):Cpl)),.bool false,.slice none 0 0],Z,Ho (Tn (Mo [20] m) q) e,(Ao (x:=(AD.mk 0 ((0,0):Cpl) false [])) Ba)⟩
 refine AR<|Sr<|Vm<|Vx (v:=Ag [I 1,Cx c,.bool false,.slice none 0 0]) (Bp Cm GK Z (.cons Z Z Z (.cons Z Z Z .nil)))<|Eu<|St DN l Z Z Z Z λab r s=>Va (I 0)<|AA<|AS ?_
 obtain rfl:=AK a
 refine O2 B g Z (.agg B5 Z Z (Bw r)) (.tmp Z)<|⟨h,[I 1,Cx c,.bool false,.slice none 0 0],Z,Ho (Tn (Mo [20] m) s) e,(Ao (x:=(AD.mk 1 c false [])) Ba)⟩
theorem JL:EI.Spec EI:=lk0 (SP)
def FL.At(e:Col)(c:World)(f:Cpl->Option (Cpl×Int)):Prop:=
 ∀{d a},f d=some a->
  Calls PG 137 #[Cx d] c λg h=>∃l,g=.returned (.tuple #[Cx a.1,I a.2])/\AU [] e c l h
def FL.Spec(f:Cpl->Option (Cpl×Int)):Prop:=
 ∀a c,FL.At a c f
theorem SQ(e:Col)(f:World)(g:∀b,e b<10):FL.At e f FL:=by
 intro h u a
 rw [FL] at a
 refine Az Tryz.func137 Z Tryz.ntmps137 Z λB l w=>Sr<|Va (Cx (((0,0):Cpl)))<|Va (I 0)<|AA<|Sr<|Vm<|Vx (v:=Fl h.1) (Run.real Z)<|Bi a λc o a=>Vx (v:=Fl c) (Run.fadd Z Z o)<|Vm<|Vx (v:=Fl h.2) (Run.imag Z)<|Bi a λd p a=>Vx (v:=Fl d) (Run.fadd Z Z p)<|Vx (v:=Cx ((c,d))) (Run.complex Z Z)<|Va (Cx ((c,d)))<|AA<|AT<|Sr<|Vm<|Bi a λq r a=>Ca (Cg [Cx ((c,d))] Z) (DK e f r) ?_
 rintro _ y ⟨m,rfl,n⟩
 refine Vr (.bool (!q))<|AA<|Cn a (λs a=>?_) λs a=>?_
 refine Sr<|Va (Cx (((0,0):Cpl)))<|Va (I 50)<|AA<|AS ?_
 obtain rfl:=AK a
 refine O2 B l Z (.tmp Z) (.tmp Z)<|⟨m,Z,Ho (Mo [] n) g⟩
 refine AR<|Sr<|Vm<|Va (Cx ((c,d)))<|Va (I 0)<|AA<|AS ?_
 obtain rfl:=AK a
 refine O2 B l Z (.tmp Z) (.tmp Z)<|⟨m,Z,Ho (Mo [] n) g⟩
theorem LU:FL.Spec FL:=lk0 (SQ)
def IL.At(e:Col)(c:World)(f:Cpl->Option (Cpl×Int)):Prop:=
 ∀{d a},f d=some a->
  Calls PG 117 #[Cx d] c λg h=>∃l,g=.returned (.tuple #[Cx a.1,I a.2])/\AU [] e c l h
def IL.Spec(f:Cpl->Option (Cpl×Int)):Prop:=
 ∀a c,IL.At a c f
theorem Tt(e:Col)(f:World)(g:∀b,e b<10):IL.At e f IL:=by
 intro c w a
 rw [IL] at a
 refine Az Tryz.func117 Z Tryz.ntmps117 Z λB h y=>Sr<|Va (Cx (((0,0):Cpl)))<|Va (I 0)<|AA<|AT<|Sr<|Vm<|Bi a λn o a=>Ca (Cg [Cx c] Z) (DK e f o) ?_
 rintro _ p ⟨l,rfl,m⟩
 refine Vr (.bool (!n))<|AA<|Cn a (λq a=>?_) λq a=>?_
 refine Sr<|Va (Cx (((0,0):Cpl)))<|Va (I 3)<|AA<|AS ?_
 obtain rfl:=AK a
 refine O2 B h Z (.tmp Z) (.tmp Z)<|⟨l,Z,Ho (Mo [] m) g⟩
 refine AR<|Sr<|Vm<|Vx (v:=Fl c.1) (Run.real Z)<|Vm<|Vx (v:=Fl c.2) (Run.imag Z)<|Vr (Fl (Op.negFloat .f64 c.2))<|Vx (v:=Cx ((c.1,(Op.negFloat .f64 c.2)))) (Run.complex Z Z)<|Bi a λd r a=>Ca (Cg [Cx ((c.1,(Op.negFloat .f64 c.2)))] Z) (LU l p r) ?_
 rintro _ z ⟨s,rfl,u⟩
 refine Vr (Cx d.1)<|Vr (I d.2)<|Va (Cx d.1)<|Va (I d.2)<|AA<|AS ?_
 obtain rfl:=AK a
 refine O2 B h Z (.tmp Z) (.tmp Z)<|⟨s,Z,Ho (Tn (Mo [] m) u) g⟩
theorem Ut:IL.Spec IL:=lk0 (Tt)
def KH.At(g:Col)(c:World)(f:Cpl->Cpl->Option (Cpl×Int)):Prop:=
 ∀{d e a},f d e=some a->
  Calls PG 138 #[Cx d,Cx e] c λh l=>∃m,h=.returned (.tuple #[Cx a.1,I a.2])/\AU [] g c m l
def KH.Spec(f:Cpl->Cpl->Option (Cpl×Int)):Prop:=
 ∀a c,KH.At a c f
theorem Uu(d:Col)(g:World)(o:∀b,d b<10):KH.At d g KH:=by
 intro h l z a
 rw [KH] at a
 refine Az Tryz.func138 Z Tryz.ntmps138 Z λB p am=>Sr<|Va (Cx (((0,0):Cpl)))<|Va (I 0)<|AA<|AT<|Am (λaa m=>∃q e n,aa=Env.puts q [(0,Cx h),(1,Cx l),(13,.bool n)]/\MJ h l n=some z/\AU [] d g e m) ?_ ?_
 refine AM<|Vm<|Bi a λab ac a=>Ca (Cg [Cx h] Z) (DK d g ac) ?_
 rintro _ ad ⟨r,rfl,s⟩
 refine Vr (.bool (!ab))<|Vm<|Bo a (λc a=>?_) λc a=>?_
 refine Pg c<|Pg c<|Pg c<|Vp c<|AA<|⟨_,r,true,Pu,a,(Mo [] s)⟩
 refine Gm c<|Bi a λu ae a=>CQ (.guard (t:=false) (b:=false) Z Z Z Z (Cb c)) Z Z (Cg [Cx l] Z)<|Calls.mono (DK r ad ae) ?_
 rintro _ an ⟨af,rfl,ag⟩
 refine ⟨_,Z,?_⟩
 refine Gr c (.bool (!u))<|Vp c<|AA<|⟨_,af,(!u),Pu,a,(Tn (Mo [] s) ag)⟩
 rintro _ m ⟨q,e,n,rfl,a,w⟩
 rw [MJ] at a
 refine Cn a (λah a=>?_) λah a=>?_
 refine Sr<|Va (Cx (((0,0):Cpl)))<|Va (I 3)<|AA<|AS ?_
 obtain rfl:=AK a
 refine O2 B p Z (.tmp Z) (.tmp Z)<|⟨e,Z,Ho (Mo [] w) o⟩
 refine AR<|Sr<|Vm<|Vm<|Bi a λy ai a=>Vx (v:=Cx y) (Run.cadd Z Z ai)<|Bi a λf aj a=>Ca (Cg [Cx y] Z) (LU e m aj) ?_
 rintro _ ao ⟨ak,rfl,al⟩
 refine Vr (Cx f.1)<|Vr (I f.2)<|Va (Cx f.1)<|Va (I f.2)<|AA<|AS ?_
 obtain rfl:=AK a
 refine O2 B p Z (.tmp Z) (.tmp Z)<|⟨ak,Z,Ho (Tn (Mo [] w) al) o⟩
theorem WG:KH.Spec KH:=lk0 (Uu)
def KI.At(g:Col)(c:World)(f:Cpl->Cpl->Option (Cpl×Int)):Prop:=
 ∀{d e a},f d e=some a->
  Calls PG 139 #[Cx d,Cx e] c λh l=>∃m,h=.returned (.tuple #[Cx a.1,I a.2])/\AU [] g c m l
def KI.Spec(f:Cpl->Cpl->Option (Cpl×Int)):Prop:=
 ∀a c,KI.At a c f
theorem Uv(d:Col)(g:World)(o:∀b,d b<10):KI.At d g KI:=by
 intro h l z a
 rw [KI] at a
 refine Az Tryz.func139 Z Tryz.ntmps139 Z λB p am=>Sr<|Va (Cx (((0,0):Cpl)))<|Va (I 0)<|AA<|AT<|Am (λaa m=>∃q e n,aa=Env.puts q [(0,Cx h),(1,Cx l),(13,.bool n)]/\MK h l n=some z/\AU [] d g e m) ?_ ?_
 refine AM<|Vm<|Bi a λab ac a=>Ca (Cg [Cx h] Z) (DK d g ac) ?_
 rintro _ ad ⟨r,rfl,s⟩
 refine Vr (.bool (!ab))<|Vm<|Bo a (λc a=>?_) λc a=>?_
 refine Pg c<|Pg c<|Pg c<|Vp c<|AA<|⟨_,r,true,Pu,a,(Mo [] s)⟩
 refine Gm c<|Bi a λu ae a=>CQ (.guard (t:=false) (b:=false) Z Z Z Z (Cb c)) Z Z (Cg [Cx l] Z)<|Calls.mono (DK r ad ae) ?_
 rintro _ an ⟨af,rfl,ag⟩
 refine ⟨_,Z,?_⟩
 refine Gr c (.bool (!u))<|Vp c<|AA<|⟨_,af,(!u),Pu,a,(Tn (Mo [] s) ag)⟩
 rintro _ m ⟨q,e,n,rfl,a,w⟩
 rw [MK] at a
 refine Cn a (λah a=>?_) λah a=>?_
 refine Sr<|Va (Cx (((0,0):Cpl)))<|Va (I 3)<|AA<|AS ?_
 obtain rfl:=AK a
 refine O2 B p Z (.tmp Z) (.tmp Z)<|⟨e,Z,Ho (Mo [] w) o⟩
 refine AR<|Sr<|Vm<|Vm<|Bi a λy ai a=>Vx (v:=Cx y) (Run.csub Z Z ai)<|Bi a λf aj a=>Ca (Cg [Cx y] Z) (LU e m aj) ?_
 rintro _ ao ⟨ak,rfl,al⟩
 refine Vr (Cx f.1)<|Vr (I f.2)<|Va (Cx f.1)<|Va (I f.2)<|AA<|AS ?_
 obtain rfl:=AK a
 refine O2 B p Z (.tmp Z) (.tmp Z)<|⟨ak,Z,Ho (Tn (Mo [] w) al) o⟩
theorem WH:KI.Spec KI:=lk0 (Uv)
def KJ.At(g:Col)(c:World)(f:Cpl->Cpl->Option (Cpl×Int)):Prop:=
 ∀{d e a},f d e=some a->
  Calls PG 140 #[Cx d,Cx e] c λh l=>∃m,h=.returned (.tuple #[Cx a.1,I a.2])/\AU [] g c m l
def KJ.Spec(f:Cpl->Cpl->Option (Cpl×Int)):Prop:=
 ∀a c,KJ.At a c f
theorem Uw(d:Col)(g:World)(o:∀b,d b<10):KJ.At d g KJ:=by
 intro h l z a
 rw [KJ] at a
 refine Az Tryz.func140 Z Tryz.ntmps140 Z λB p am=>Sr<|Va (Cx (((0,0):Cpl)))<|Va (I 0)<|AA<|AT<|Am (λaa m=>∃q e n,aa=Env.puts q [(0,Cx h),(1,Cx l),(13,.bool n)]/\ML h l n=some z/\AU [] d g e m) ?_ ?_
 refine AM<|Vm<|Bi a λab ac a=>Ca (Cg [Cx h] Z) (DK d g ac) ?_
 rintro _ ad ⟨r,rfl,s⟩
 refine Vr (.bool (!ab))<|Vm<|Bo a (λc a=>?_) λc a=>?_
 refine Pg c<|Pg c<|Pg c<|Vp c<|AA<|⟨_,r,true,Pu,a,(Mo [] s)⟩
 refine Gm c<|Bi a λu ae a=>CQ (.guard (t:=false) (b:=false) Z Z Z Z (Cb c)) Z Z (Cg [Cx l] Z)<|Calls.mono (DK r ad ae) ?_
 rintro _ an ⟨af,rfl,ag⟩
 refine ⟨_,Z,?_⟩
 refine Gr c (.bool (!u))<|Vp c<|AA<|⟨_,af,(!u),Pu,a,(Tn (Mo [] s) ag)⟩
 rintro _ m ⟨q,e,n,rfl,a,w⟩
 rw [ML] at a
 refine Cn a (λah a=>?_) λah a=>?_
 refine Sr<|Va (Cx (((0,0):Cpl)))<|Va (I 3)<|AA<|AS ?_
 obtain rfl:=AK a
 refine O2 B p Z (.tmp Z) (.tmp Z)<|⟨e,Z,Ho (Mo [] w) o⟩
 refine AR<|Sr<|Vm<|Vm<|Bi a λy ai a=>Vx (v:=Cx y) (Run.cmul Z Z ai)<|Bi a λf aj a=>Ca (Cg [Cx y] Z) (LU e m aj) ?_
 rintro _ ao ⟨ak,rfl,al⟩
 refine Vr (Cx f.1)<|Vr (I f.2)<|Va (Cx f.1)<|Va (I f.2)<|AA<|AS ?_
 obtain rfl:=AK a
 refine O2 B p Z (.tmp Z) (.tmp Z)<|⟨ak,Z,Ho (Tn (Mo [] w) al) o⟩
theorem WI:KJ.Spec KJ:=lk0 (Uw)
def IW.At(e:Col)(a:World)(f:Nat->Option Nat):Prop:=
 ∀{c d},f c=some d->
  Calls PG 145 #[Fl c] a λg h=>∃l,g=.returned (Fl d)/\AU [] e a l h
def IW.Spec(f:Nat->Option Nat):Prop:=
 ∀a c,IW.At a c f
theorem WJ(c:Col)(e:World)(f:∀b,c b<10):IW.At c e IW:=by
 intro a h d
 rw [IW] at d
 refine Az Tryz.func145 Z Tryz.ntmps145 Z λB g l=>Sr<|Va (Fl (0:Nat))<|AA<|Sr<|Vm<|Vx (v:=.int .u64 ((a:Nat):Int)) (PO (vs:=[Fl a]) Z Z)<|Vr (.int .u64 (C8 .u64 ((a:Nat):Int) 9223372036854775808))<|Vx (v:=Fl (((C8 .u64 ((a:Nat):Int) 9223372036854775808)).toNat)) (RN (vs:=[.int .u64 (C8 .u64 ((a:Nat):Int) 9223372036854775808)]) Z Z)<|Va (Fl (((C8 .u64 ((a:Nat):Int) 9223372036854775808)).toNat))<|AA<|AS ?_
 obtain rfl:=AK d
 refine O1 B g Z (.tmp Z)<|⟨c,Z,Ho Rf f⟩
theorem Pb:IW.Spec IW:=lk0 (WJ)
def HZ.At(g:Col)(a:World)(f:Nat->Int->Option Bool):Prop:=
 ∀{c d e},f c d=some e->
  Calls PG 152 #[Fl c,I d] a λh l=>∃m,h=.returned (.bool e)/\AU [] g a m l
def HZ.Spec(f:Nat->Int->Option Bool):Prop:=
 ∀a c,HZ.At a c f
theorem Tu(c:Col)(f:World)(o:∀b,c b<10):HZ.At c f HZ:=by
 intro d h p a
 rw [HZ] at a
 refine Az Tryz.func152 Z Tryz.ntmps152 Z λB q ab=>Sr<|Va (.bool false)<|AA<|Am (λr l=>∃m g e,r=Env.puts m [(0,Fl e)]/\Kp e=some p/\AU [] c f g l) ?_ ?_
 refine Sr<|Vm<|Vr (.bool (h==0))<|AA<|Cn a (λs a=>?_) λs a=>?_
 refine AM<|Vm<|Bi a λn u a=>Ca (Cg [Fl d] Z) (Pb c f u) ?_
 rintro _ ac ⟨w,rfl,y⟩
 refine Va (Fl n)<|AA<|⟨_,w,n,Pu,a,(Mo [] y)⟩
 refine Sr<|Vm<|Vr (.bool (decide (h<0)))<|AA<|Cn a (λz a=>?_) λz a=>?_
 refine AM<|Vm<|Vr (Fl (Op.negFloat .f64 d))<|Va (Fl (Op.negFloat .f64 d))<|AA<|⟨_,c,(Op.negFloat .f64 d),Pu,a,Rf⟩
 refine AR<|⟨_,c,d,Pu,a,Rf⟩
 rintro _ l ⟨m,g,e,rfl,a,aa⟩
 rw [Kp] at a
 refine Sr<|Vm<|Vr (.bool (fgt e (9218868437227405311:Nat)))<|Va (.bool (fgt e (9218868437227405311:Nat)))<|AA<|AS ?_
 obtain rfl:=AK a
 refine O1 B q Z (.tmp Z)<|⟨g,Z,Ho (Mo [] aa) o⟩
theorem N2:HZ.Spec HZ:=lk0 (Tu)
def Gu.At(e:Col)(a:World)(f:Nat->Option Bool):Prop:=
 ∀{c d},f c=some d->
  Calls PG 153 #[Fl c] a λg h=>∃l,g=.returned (.bool d)/\AU [] e a l h
def Gu.Spec(f:Nat->Option Bool):Prop:=
 ∀a c,Gu.At a c f
theorem Tv(c:Col)(e:World)(f:∀b,c b<10):Gu.At c e Gu:=by
 intro a h d
 rw [Gu] at d
 refine Az Tryz.func153 Z Tryz.ntmps153 Z λB g l=>Sr<|Va (.bool false)<|AA<|Sr<|Vm<|Vm<|Vr (.bool (fne a a))<|Va (.bool (fne a a))<|AA<|AS ?_
 obtain rfl:=AK d
 refine O1 B g Z (.tmp Z)<|⟨c,Z,Ho Rf f⟩
theorem Mq:Gu.Spec Gu:=lk0 (Tv)
def MM.At(d:Col)(a:World)(f:Option Nat):Prop:=
 ∀{c},f=some c->
  Calls PG 154 #[] a λe g=>∃h,e=.returned (Fl c)/\AU [] d a h g
def MM.Spec(f:Option Nat):Prop:=
 ∀a c,MM.At a c f
theorem WK(a:Col)(d:World)(e:∀b,a b<10):MM.At a d MM:=by
 intro g c
 rw [MM] at c
 refine Az Tryz.func154 Z Tryz.ntmps154 Z λB f h=>Sr<|Va (Fl (0:Nat))<|AA<|Sr<|Vx (v:=Fl ((9221120237041090561:Int).toNat)) (RN (vs:=[.int .u64 9221120237041090561]) Z Z)<|Va (Fl ((9221120237041090561:Int).toNat))<|AA<|AS ?_
 obtain rfl:=AK c
 refine O1 B f Z (.tmp Z)<|⟨a,Z,Ho Rf e⟩
theorem XM:MM.Spec MM:=lk0 (WK)
def Em.At(e:Col)(c:World)(f:Nat->Option (Nat×Int)):Prop:=
 ∀{d a},f d=some a->
  Calls PG 164 #[Fl d] c λg h=>∃l,g=.returned (.tuple #[Fl a.1,I a.2])/\AU [] e c l h
def Em.Spec(f:Nat->Option (Nat×Int)):Prop:=
 ∀a c,Em.At a c f
theorem QO(c:Col)(d:World)(e:∀b,c b<10):Em.At c d Em:=by
 intro f r a
 rw [Em] at a
 refine Az Tryz.func164 Z Tryz.ntmps164 Z λB g s=>Sr<|Va (Fl (0:Nat))<|Va (I 0)<|AA<|AT<|Sr<|Vm<|Bi a λn o a=>Ca (Cg [Fl f] Z) (Pb c d o) ?_
 rintro _ u ⟨h,rfl,l⟩
 refine Vr (.bool (flt_ n (4503599627370496:Nat)))<|AA<|Cn a (λp a=>?_) λp a=>?_
 refine Sr<|Vm<|Bi a λm q a=>Vx (v:=Fl m) (Run.fmul Z Z q)<|Va (Fl m)<|Va (I (-52:Int))<|AA<|AS ?_
 obtain rfl:=AK a
 refine O2 B g Z (.tmp Z) (.tmp Z)<|⟨h,Z,Ho (Mo [] l) e⟩
 refine AR<|Sr<|Vm<|Va (Fl f)<|Va (I 0)<|AA<|AS ?_
 obtain rfl:=AK a
 refine O2 B g Z (.tmp Z) (.tmp Z)<|⟨h,Z,Ho (Mo [] l) e⟩
theorem Nl:Em.Spec Em:=lk0 (QO)
def Jt.At(e:Col)(c:World)(f:Nat->Option (Nat×Int)):Prop:=
 ∀{d a},f d=some a->
  Calls PG 159 #[Fl d] c λg h=>∃l,g=.returned (.tuple #[Fl a.1,I a.2])/\AU [] e c l h
def Jt.Spec(f:Nat->Option (Nat×Int)):Prop:=
 ∀a c,Jt.At a c f
theorem Tw(f:Col)(h:World)(l:∀b,f b<10):Jt.At f h Jt:=by
 intro d w a
 rw [Jt] at a
 refine Az Tryz.func159 Z Tryz.ntmps159 Z λB m ak=>Sr<|Va (Fl (0:Nat))<|Va (I 0)<|AA<|AT<|Ah<|Sr<|Vm<|Vr (.bool (feq d (0:Nat)))<|Va (.bool (feq d (0:Nat)))<|AA<|Cn a (λy a=>?_) λy a=>?_
 refine Sr<|Vm<|Va (Fl d)<|Va (I 0)<|AA<|AS ?_
 obtain rfl:=AK a
 refine O2 B m Z (.tmp Z) (.tmp Z)<|⟨f,Z,Ho Rf l⟩
 refine Am (λz n=>∃p g o,z=Env.puts p [(0,Fl d),(9,.bool o)]/\Lq d o=some w/\AU [] f h g n) ?_ ?_
 refine AM<|Vm<|Bi a λal aa a=>Ca (Cg [Fl d,I 0] Z) (N2 f h aa) ?_
 rintro _ ab ⟨q,rfl,r⟩
 refine Vm<|Bo a (λe a=>?_) λe a=>?_
 refine Pg e<|Pg e<|Vp e<|Va (.bool true)<|AA<|⟨_,q,true,Pu,a,(Mo [] r)⟩
 refine Gm e<|Bi a λs ac a=>CQ (.guard (t:=false) (b:=false) Z Z Z Z (Cb e)) Z Z (Cg [Fl d] Z)<|Calls.mono (Mq q ab ac) ?_
 rintro _ am ⟨ad,rfl,ae⟩
 refine ⟨_,Z,?_⟩
 refine Vp e<|Va (.bool s)<|AA<|⟨_,ad,s,Pu,a,(Tn (Mo [] r) ae)⟩
 rintro _ n ⟨p,g,o,rfl,a,u⟩
 rw [Lq] at a
 refine Cn a (λaf a=>?_) λaf a=>?_
 refine Sr<|Vm<|Va (Fl d)<|Va (I 0)<|AA<|AS ?_
 obtain rfl:=AK a
 refine O2 B m Z (.tmp Z) (.tmp Z)<|⟨g,Z,Ho (Mo [] u) l⟩
 refine AR<|Sr<|Vm<|Bi a λc ag a=>Ca (Cg [Fl d] Z) (Nl g n ag) ?_
 rintro _ an ⟨ah,rfl,ai⟩
 refine Vm<|Vr (Fl c.1)<|Vr (I c.2)<|Va (Fl c.1)<|Va (I c.2)<|AA<|Sr<|Vm<|Vx (v:=.int .u64 ((c.1:Nat):Int)) (PO (vs:=[Fl c.1]) Z Z)<|Va (.int .u64 ((c.1:Nat):Int))<|AA<|Sr<|Vm<|Vm<|Bi a λao aj a=>Vx (v:=.int .u64 (shr .u64 ((c.1:Nat):Int) 52)) (Run.shr Z Z (Vn aj))<|Vr (.int .u64 (FB .u64 (shr .u64 ((c.1:Nat):Int) 52) 2047))<|Vr (I (Wr (FB .u64 (shr .u64 ((c.1:Nat):Int) 52) 2047)))<|Vr (I (Wr ((Wr (FB .u64 (shr .u64 ((c.1:Nat):Int) 52) 2047)) - 1023)))<|Vr (I (Wr ((Wr ((Wr (FB .u64 (shr .u64 ((c.1:Nat):Int) 52) 2047)) - 1023))+1)))<|Vr (I (Wr (c.2+(Wr ((Wr ((Wr (FB .u64 (shr .u64 ((c.1:Nat):Int) 52) 2047)) - 1023))+1)))))<|Va (I (Wr (c.2+(Wr ((Wr ((Wr (FB .u64 (shr .u64 ((c.1:Nat):Int) 52) 2047)) - 1023))+1)))))<|AA<|Sr<|Vm<|Vr (.int .u64 (C8 .u64 ((c.1:Nat):Int) 9218868437227405312))<|Va (.int .u64 (C8 .u64 ((c.1:Nat):Int) 9218868437227405312))<|AA<|Sr<|Vm<|Vr (.int .u64 (Md .u64 (C8 .u64 ((c.1:Nat):Int) 9218868437227405312) 4602678819172646912))<|Va (.int .u64 (Md .u64 (C8 .u64 ((c.1:Nat):Int) 9218868437227405312) 4602678819172646912))<|AA<|Sr<|Vm<|Vx (v:=Fl (((Md .u64 (C8 .u64 ((c.1:Nat):Int) 9218868437227405312) 4602678819172646912)).toNat)) (RN (vs:=[.int .u64 (Md .u64 (C8 .u64 ((c.1:Nat):Int) 9218868437227405312) 4602678819172646912)]) Z Z)<|Va (Fl (((Md .u64 (C8 .u64 ((c.1:Nat):Int) 9218868437227405312) 4602678819172646912)).toNat))<|AA<|AS ?_
 obtain rfl:=AK a
 refine O2 B m Z (.tmp Z) (.tmp Z)<|⟨ah,Z,Ho (Tn (Mo [] u) ai) l⟩
theorem Ux:Jt.Spec Jt:=lk0 (Tw)
def IM.At(e:Col)(c:World)(f:Nat->Option (Nat×Int)):Prop:=
 ∀{d a},f d=some a->
  Calls PG 155 #[Fl d] c λg h=>∃l,g=.returned (.tuple #[Fl a.1,I a.2])/\AU [] e c l h
def IM.Spec(f:Nat->Option (Nat×Int)):Prop:=
 ∀a c,IM.At a c f
theorem Tx(d:Col)(e:World)(f:∀b,d b<10):IM.At d e IM:=by
 intro g p a
 rw [IM] at a
 refine Az Tryz.func155 Z Tryz.ntmps155 Z λB l q=>Sr<|Va (Fl (0:Nat))<|Va (I 0)<|AA<|AT<|OG (t:=false) Z (λh=>by cases h) λh=>AR<|Sr<|Vm<|Bi a λc m a=>Ca (Cg [Fl g] Z) (Ux d e m) ?_
 rintro _ r ⟨n,rfl,o⟩
 refine Vr (Fl c.1)<|Vr (I c.2)<|Va (Fl c.1)<|Va (I c.2)<|AA<|AS ?_
 obtain rfl:=AK a
 refine O2 B l Z (.tmp Z) (.tmp Z)<|⟨n,Z,Ho (Mo [] o) f⟩
theorem QE:IM.Spec IM:=lk0 (Tx)
def Hh.At(g:Col)(a:World)(f:Nat->Nat->Option Nat):Prop:=
 ∀{c d e},f c d=some e->
  Calls PG 146 #[Fl c,Fl d] a λh l=>∃m,h=.returned (Fl e)/\AU [] g a m l
def Hh.Spec(f:Nat->Nat->Option Nat):Prop:=
 ∀a c,Hh.At a c f
theorem Qu(d:Col)(f:World)(g:∀b,d b<10):Hh.At d f Hh:=by
 intro a c l e
 rw [Hh] at e
 refine Az Tryz.func146 Z Tryz.ntmps146 Z λB h m=>Sr<|Va (Fl (0:Nat))<|AA<|Sr<|Vm<|Vx (v:=.int .u64 ((a:Nat):Int)) (PO (vs:=[Fl a]) Z Z)<|Vr (.int .u64 (C8 .u64 ((a:Nat):Int) 9223372036854775808))<|Vm<|Vx (v:=.int .u64 ((c:Nat):Int)) (PO (vs:=[Fl c]) Z Z)<|Vr (.int .u64 (FB .u64 ((c:Nat):Int) 9223372036854775808))<|Vr (.int .u64 (Md .u64 (C8 .u64 ((a:Nat):Int) 9223372036854775808) (FB .u64 ((c:Nat):Int) 9223372036854775808)))<|Vx (v:=Fl (((Md .u64 (C8 .u64 ((a:Nat):Int) 9223372036854775808) (FB .u64 ((c:Nat):Int) 9223372036854775808))).toNat)) (RN (vs:=[.int .u64 (Md .u64 (C8 .u64 ((a:Nat):Int) 9223372036854775808) (FB .u64 ((c:Nat):Int) 9223372036854775808))]) Z Z)<|Va (Fl (((Md .u64 (C8 .u64 ((a:Nat):Int) 9223372036854775808) (FB .u64 ((c:Nat):Int) 9223372036854775808))).toNat))<|AA<|AS ?_
 obtain rfl:=AK e
 refine O1 B h Z (.tmp Z)<|⟨d,Z,Ho Rf g⟩
theorem RX:Hh.Spec Hh:=lk0 (Qu)
def Lr.At(e:Col)(a:World)(f:Int->Option Nat):Prop:=
 ∀{c d},f c=some d->
  Calls PG 165 #[I c] a λg h=>∃l,g=.returned (Fl d)/\AU [] e a l h
def Lr.Spec(f:Int->Option Nat):Prop:=
 ∀a c,Lr.At a c f
theorem WM(d:Col)(f:World)(l:∀b,d b<10):Lr.At d f Lr:=by
 intro m n a
 rw [Lr] at a
 refine Az Tryz.func165 Z Tryz.ntmps165 Z λB o s=>Sr<|Va (Fl (0:Nat))<|AA<|Sr<|Va (.int .u64 0)<|AA<|Am (λp g=>∃h e c,p=Env.puts h [(3,.int .u64 c)]/\Ng c=some n/\AU [] d f e g) ?_ ?_
 refine Sr<|Vm<|Vr (.bool (decide (m>=0)))<|AA<|Cn a (λq a=>?_) λq a=>?_
 refine AM<|Va (.int .u64 9218868437227405312)<|AA<|⟨_,d,9218868437227405312,Pu,a,Rf⟩
 refine AM<|Va (.int .u64 18442240474082181120)<|AA<|⟨_,d,18442240474082181120,Pu,a,Rf⟩
 rintro _ g ⟨h,e,c,rfl,a,r⟩
 rw [Ng] at a
 refine Sr<|Vm<|Vx (v:=Fl (c.toNat)) (RN (vs:=[.int .u64 c]) Z Z)<|Va (Fl (c.toNat))<|AA<|AS ?_
 obtain rfl:=AK a
 refine O1 B o Z (.tmp Z)<|⟨e,Z,Ho (Mo [] r) l⟩
theorem Ry:Lr.Spec Lr:=lk0 (WM)
def Ju.At(g:Col)(a:World)(f:Nat->Int->Option Nat):Prop:=
 ∀{c d e},f c d=some e->
  Calls PG 161 #[Fl c,I d] a λh l=>∃m,h=.returned (Fl e)/\AU [] g a m l
def Ju.Spec(f:Nat->Int->Option Nat):Prop:=
 ∀a c,Ju.At a c f
theorem Ty(n:Col)(u:World)(h:∀b,n b<10):Ju.At n u Ju:=by
 intro f d ac a
 rw [Ju] at a
 refine Az Tryz.func161 Z Tryz.ntmps161 Z λB l bc=>Sr<|Va (Fl (0:Nat))<|AA<|AT<|Ah<|Sr<|Vm<|Vr (.bool (feq f (0:Nat)))<|Va (.bool (feq f (0:Nat)))<|AA<|Cn a (λai a=>?_) λai a=>?_
 refine Sr<|Vm<|Va (Fl f)<|AA<|AS ?_
 obtain rfl:=AK a
 refine O1 B l Z (.tmp Z)<|⟨n,Z,Ho Rf h⟩
 refine Am (λw y=>∃o q z,w=Env.puts o [(0,Fl f),(1,I d),(12,.bool z)]/\Lt f d z=some ac/\AU [] n u q y) ?_ ?_
 refine AM<|Vm<|Bi a λbd aj a=>Ca (Cg [Fl f,I 0] Z) (N2 n u aj) ?_
 rintro _ ak ⟨ad,rfl,ae⟩
 refine Vm<|Bo a (λg a=>?_) λg a=>?_
 refine Pg g<|Pg g<|Vp g<|Va (.bool true)<|AA<|⟨_,ad,true,Pu,a,(Mo [] ae)⟩
 refine Gm g<|Bi a λaf al a=>CQ (.guard (t:=false) (b:=false) Z Z Z Z (Cb g)) Z Z (Cg [Fl f] Z)<|Calls.mono (Mq ad ak al) ?_
 rintro _ be ⟨am,rfl,an⟩
 refine ⟨_,Z,?_⟩
 refine Vp g<|Va (.bool af)<|AA<|⟨_,am,af,Pu,a,(Tn (Mo [] ae) an)⟩
 rintro _ y ⟨o,q,z,rfl,a,p⟩
 rw [Lt] at a
 refine Cn a (λao a=>?_) λao a=>?_
 refine Sr<|Vm<|Va (Fl f)<|AA<|AS ?_
 obtain rfl:=AK a
 refine O1 B l Z (.tmp Z)<|⟨q,Z,Ho (Mo [] p) h⟩
 refine AR<|Sr<|Vm<|Bi a λc ap a=>Ca (Cg [Fl f] Z) (Nl q y ap) ?_
 rintro _ r ⟨m,rfl,s⟩
 refine Vm<|Vr (Fl c.1)<|Vr (I c.2)<|Va (Fl c.1)<|Va (I c.2)<|AA<|Sr<|Vm<|Vm<|Vr (I (Wr (d+c.2)))<|Va (I (Wr (d+c.2)))<|AA<|Sr<|Vm<|Vx (v:=.int .u64 ((c.1:Nat):Int)) (PO (vs:=[Fl c.1]) Z Z)<|Va (.int .u64 ((c.1:Nat):Int))<|AA<|Sr<|Vm<|Vm<|Bi a λbf aq a=>Vx (v:=.int .u64 (shr .u64 ((c.1:Nat):Int) 52)) (Run.shr Z Z (Vn aq))<|Vr (I (Wr (shr .u64 ((c.1:Nat):Int) 52)))<|Vr (I (FB .i64 (Wr (shr .u64 ((c.1:Nat):Int) 52)) 2047))<|Vr (I (Wr ((FB .i64 (Wr (shr .u64 ((c.1:Nat):Int) 52)) 2047) - 1023)))<|Vr (I (Wr ((Wr (d+c.2))+(Wr ((FB .i64 (Wr (shr .u64 ((c.1:Nat):Int) 52)) 2047) - 1023)))))<|Va (I (Wr ((Wr (d+c.2))+(Wr ((FB .i64 (Wr (shr .u64 ((c.1:Nat):Int) 52)) 2047) - 1023)))))<|AA<|AT<|Sr<|Vm<|Vr (.bool (decide ((Wr ((Wr (d+c.2))+(Wr ((FB .i64 (Wr (shr .u64 ((c.1:Nat):Int) 52)) 2047) - 1023))))< (-1075:Int))))<|AA<|Cn a (λar a=>?_) λar a=>?_
 refine Sr<|Vm<|Bi a λau av a=>Ca (Cg [Fl (0:Nat),Fl c.1] Z) (RX m r av) ?_
 rintro _ bg ⟨aw,rfl,ax⟩
 refine Va (Fl au)<|AA<|AS ?_
 obtain rfl:=AK a
 refine O1 B l Z (.tmp Z)<|⟨aw,Z,Ho (T2 (Mo [] p) s ax) h⟩
 refine AR<|AT<|Sr<|Vm<|Vr (.bool (decide ((Wr ((Wr (d+c.2))+(Wr ((FB .i64 (Wr (shr .u64 ((c.1:Nat):Int) 52)) 2047) - 1023))))>1023)))<|AA<|Cn a (λay a=>?_) λay a=>?_
 refine AT<|Sr<|Vm<|Vr (.bool (flt_ c.1 (0:Nat)))<|AA<|Cn a (λaz a=>?_) λaz a=>?_
 refine Sr<|Bi a λa0 a1 a=>Ca (Cg [I (-1:Int)] Z) (Ry m r a1) ?_
 rintro _ bh ⟨a2,rfl,a3⟩
 refine Va (Fl a0)<|AA<|AS ?_
 obtain rfl:=AK a
 refine O1 B l Z (.tmp Z)<|⟨a2,Z,Ho (T2 (Mo [] p) s a3) h⟩
 refine AR<|Sr<|Bi a λa4 a5 a=>Ca (Cg [I 1] Z) (Ry m r a5) ?_
 rintro _ bi ⟨a6,rfl,a7⟩
 refine Va (Fl a4)<|AA<|AS ?_
 obtain rfl:=AK a
 refine O1 B l Z (.tmp Z)<|⟨a6,Z,Ho (T2 (Mo [] p) s a7) h⟩
 refine AR<|Sr<|Va (Fl (4607182418800017408:Nat))<|AA<|Am (λw ag=>∃o aa e ab,w=Env.puts o [(1,I e),(6,.int .u64 ((c.1:Nat):Int)),(7,Fl ab)]/\Ls c e ab=some ac/\AU [] m r aa ag) ?_ ?_
 refine Sr<|Vm<|Vr (.bool (decide ((Wr ((Wr (d+c.2))+(Wr ((FB .i64 (Wr (shr .u64 ((c.1:Nat):Int) 52)) 2047) - 1023))))< (-1022:Int))))<|AA<|Cn a (λa8 a=>?_) λa8 a=>?_
 refine Sr<|Vm<|Vr (I (Wr ((Wr ((Wr (d+c.2))+(Wr ((FB .i64 (Wr (shr .u64 ((c.1:Nat):Int) 52)) 2047) - 1023))))+53)))<|Va (I (Wr ((Wr ((Wr (d+c.2))+(Wr ((FB .i64 (Wr (shr .u64 ((c.1:Nat):Int) 52)) 2047) - 1023))))+53)))<|AA<|AM<|Va (Fl (4368491638549381120:Nat))<|AA<|⟨_,m,(Wr ((Wr ((Wr (d+c.2))+(Wr ((FB .i64 (Wr (shr .u64 ((c.1:Nat):Int) 52)) 2047) - 1023))))+53)),(4368491638549381120:Nat),Pu,a,Rf⟩
 refine AR<|⟨_,m,(Wr ((Wr (d+c.2))+(Wr ((FB .i64 (Wr (shr .u64 ((c.1:Nat):Int) 52)) 2047) - 1023)))),(4607182418800017408:Nat),Pu,a,Rf⟩
 rintro _ ag ⟨o,aa,e,ab,rfl,a,a9⟩
 rw [Ls] at a
 refine Sr<|Vm<|Vr (.int .u64 (C8 .u64 ((c.1:Nat):Int) 9218868437227405312))<|Va (.int .u64 (C8 .u64 ((c.1:Nat):Int) 9218868437227405312))<|AA<|Sr<|Vm<|Vm<|Vr (I (Wr (e+1023)))<|Vr (.int .u64 (IntKind.u64.wrap (Wr (e+1023))))<|Bi a λbj ba a=>Vx (v:=.int .u64 (shl .u64 (IntKind.u64.wrap (Wr (e+1023))) 52)) (Run.shl Z Z (Vn ba))<|Vr (.int .u64 (Md .u64 (C8 .u64 ((c.1:Nat):Int) 9218868437227405312) (shl .u64 (IntKind.u64.wrap (Wr (e+1023))) 52)))<|Va (.int .u64 (Md .u64 (C8 .u64 ((c.1:Nat):Int) 9218868437227405312) (shl .u64 (IntKind.u64.wrap (Wr (e+1023))) 52)))<|AA<|Sr<|Vm<|Vm<|Vx (v:=Fl (((Md .u64 (C8 .u64 ((c.1:Nat):Int) 9218868437227405312) (shl .u64 (IntKind.u64.wrap (Wr (e+1023))) 52))).toNat)) (RN (vs:=[.int .u64 (Md .u64 (C8 .u64 ((c.1:Nat):Int) 9218868437227405312) (shl .u64 (IntKind.u64.wrap (Wr (e+1023))) 52))]) Z Z)<|Bi a λah bb a=>Vx (v:=Fl ah) (Run.fmul Z Z bb)<|Va (Fl ah)<|AA<|AS ?_
 obtain rfl:=AK a
 refine O1 B l Z (.tmp Z)<|⟨aa,Z,Ho (T2 (Mo [] p) s a9) h⟩
theorem Uy:Ju.Spec Ju:=lk0 (Ty)
def I4.At(g:Col)(a:World)(f:Nat->Int->Option Nat):Prop:=
 ∀{c d e},f c d=some e->
  Calls PG 156 #[Fl c,I d] a λh l=>∃m,h=.returned (Fl e)/\AU [] g a m l
def I4.Spec(f:Nat->Int->Option Nat):Prop:=
 ∀a c,I4.At a c f
theorem Tz(c:Col)(d:World)(e:∀b,c b<10):I4.At c d I4:=by
 intro f g q a
 rw [I4] at a
 refine Az Tryz.func156 Z Tryz.ntmps156 Z λB l r=>Sr<|Va (Fl (0:Nat))<|AA<|AT<|OG (t:=false) Z (λh=>by cases h) λh=>AR<|Sr<|Vm<|Vm<|Bi a λm n a=>Ca (Cg [Fl f,I g] Z) (Uy c d n) ?_
 rintro _ s ⟨o,rfl,p⟩
 refine Va (Fl m)<|AA<|AS ?_
 obtain rfl:=AK a
 refine O1 B l Z (.tmp Z)<|⟨o,Z,Ho (Mo [] p) e⟩
theorem Uz:I4.Spec I4:=lk0 (Tz)
def Lu.At(g:Col)(a:World)(f:Nat->Nat->Option Nat):Prop:=
 ∀{c d e},f c d=some e->
  Calls PG 150 #[Fl c,Fl d] a λh l=>∃m,h=.returned (Fl e)/\AU [] g a m l
def Lu.Spec(f:Nat->Nat->Option Nat):Prop:=
 ∀a c,Lu.At a c f
theorem WN(z:Nat)(u:Col)(ag:World)(aq:∀b,u b<10):Lu.At u ag (Lu z):=by
 intro c w q a
 rw [Lu] at a
 refine Az Tryz.func150 Z Tryz.ntmps150 Z λB ar b2=>Sr<|Va (Fl (0:Nat))<|AA<|AT<|Am (λh aa=>∃e ab ah,h=Env.puts e [(0,Fl c),(1,Fl w),(23,.bool ah)]/\LD z c w ah=some q/\AU [] u ag ab aa) ?_ ?_
 refine AM<|Vm<|Vr (.bool (feq w (0:Nat)))<|Vm<|Bo a (λn a=>?_) λn a=>?_
 refine Pg n<|Pg n<|Vp n<|Vm<|Pg Z<|Pg Z<|Vr (.bool true)<|Vm<|Pg Z<|Pg Z<|Vr (.bool true)<|AA<|⟨_,u,true,Pu,a,Rf⟩
 refine Gm n<|Bi a λb3 a1 a=>CQ (.guard (t:=false) (b:=false) Z Z Z Z (Cb n)) Z Z (Cg [Fl c,I 0] Z)<|Calls.mono (N2 u ag a1) ?_
 rintro _ a2 ⟨au,rfl,ai⟩
 refine ⟨_,Z,?_⟩
 refine Vp n<|Vm<|Bo a (λo a=>?_) λo a=>?_
 refine Pg o<|Pg o<|Vp o<|Vm<|Pg Z<|Pg Z<|Vr (.bool true)<|AA<|⟨_,au,true,Pu,a,(Mo [] ai)⟩
 refine Gm o<|Bi a λb4 a3 a=>CQ (.guard (t:=false) (b:=false) Z Z Z Z (Cb o)) Z Z (Cg [Fl c] Z)<|Calls.mono (Mq au a2 a3) ?_
 rintro _ a4 ⟨av,rfl,aw⟩
 refine ⟨_,Z,?_⟩
 refine Vp o<|Vm<|Bo a (λp a=>?_) λp a=>?_
 refine Pg p<|Pg p<|Vp p<|AA<|⟨_,av,true,Pu,a,(Tn (Mo [] ai) aw)⟩
 refine Gm p<|Bi a λa5 a6 a=>CQ (.guard (t:=false) (b:=false) Z Z Z Z (Cb p)) Z Z (Cg [Fl w] Z)<|Calls.mono (Mq av a4 a6) ?_
 rintro _ b5 ⟨a7,rfl,a8⟩
 refine ⟨_,Z,?_⟩
 refine Vp p<|AA<|⟨_,a7,a5,Pu,a,(T2 (Mo [] ai) aw a8)⟩
 rintro _ aa ⟨e,ab,ah,rfl,a,ax⟩
 rw [LD] at a
 refine Cn a (λa9 a=>?_) λa9 a=>?_
 refine Sr<|Bi a λba bb a=>Ca (Cg [] Z) (XM ab aa bb) ?_
 rintro _ b6 ⟨bc,rfl,bd⟩
 refine Va (Fl ba)<|AA<|AS ?_
 obtain rfl:=AK a
 refine O1 B ar Z (.tmp Z)<|⟨bc,Z,Ho (Tn (Mo [] ax) bd) aq⟩
 refine AR<|Sr<|Vm<|Bi a λf be a=>Ca (Cg [Fl w] Z) (Pb ab aa be) ?_
 rintro _ bf ⟨bg,rfl,bh⟩
 refine Va (Fl f)<|AA<|Sr<|Vm<|Bi a λd bi a=>Ca (Cg [Fl f] Z) (QE bg bf bi) ?_
 rintro _ bj ⟨aj,rfl,bk⟩
 refine Vm<|Vr (Fl d.1)<|Vr (I d.2)<|Va (Fl d.1)<|Va (I d.2)<|AA<|Sr<|Vm<|Va (Fl c)<|AA<|Am (λh ak=>∃e ac ad,h=Env.puts e [(0,Fl c),(1,Fl f),(5,Fl d.1),(6,I d.2),(7,Fl ad)]/\MC z c f d ad=some q/\AU [] aj bj ac ak) ?_ ?_
 refine Sr<|Vm<|Vr (.bool (flt_ c (0:Nat)))<|AA<|Cn a (λbl a=>?_) λbl a=>?_
 refine AM<|Vm<|Vr (Fl (Op.negFloat .f64 c))<|Va (Fl (Op.negFloat .f64 c))<|AA<|⟨_,aj,(Op.negFloat .f64 c),Pu,a,Rf⟩
 refine AR<|⟨_,aj,c,Pu,a,Rf⟩
 rintro _ ak ⟨e,ac,ad,rfl,a,bm⟩
 rw [MC] at a
 refine AT<|Ah<|Bj (λm h ae=>∃e r g,h=Env.puts e [(0,Fl c),(1,Fl f),(5,Fl d.1),(6,I d.2),(7,Fl g)]/\KT c f d m g=some q/\AU [] ac ak r ae) z ?_ ?_
 exact ⟨_,ac,ad,Pu,a,Rf⟩
 rintro m _ ae ⟨e,r,g,rfl,a,ay⟩
 rcases m with _|m
 exact A5 a
 refine have a:MN c f d (KT c f d m) g=some q:=a; ?_
 obtain ⟨bn,az⟩:∃s,s=KT c f d m:=⟨_,rfl⟩
 rw [<-az,MN] at a
 refine AT<|Sr<|Vm<|Vm<|Vr (.bool (fge g f))<|AA<|Cn a (λbo a=>?_) λbo a=>?_
 refine AR<|Ah<|Sr<|Vm<|Bi a λl bp a=>Ca (Cg [Fl g] Z) (QE r ae bp) ?_
 rintro _ bq ⟨al,rfl,br⟩
 refine Vm<|Vr (Fl l.1)<|Vr (I l.2)<|Va (Fl l.1)<|Va (I l.2)<|AA<|Am (λh am=>∃e an y,h=Env.puts e [(0,Fl c),(1,Fl f),(5,Fl d.1),(6,I d.2),(7,Fl g),(9,I y)]/\LC f d g bn y=some q/\AU [] al bq an am) ?_ ?_
 refine Sr<|Vm<|Vm<|Vr (.bool (flt_ l.1 d.1))<|AA<|Cn a (λbt a=>?_) λbt a=>?_
 refine AM<|Vm<|Vr (I (Wr (l.2 - 1)))<|Va (I (Wr (l.2 - 1)))<|AA<|⟨_,al,(Wr (l.2 - 1)),Pu,a,Rf⟩
 refine AR<|⟨_,al,l.2,Pu,a,Rf⟩
 rintro _ am ⟨e,an,y,rfl,a,bu⟩
 rw [LC] at a
 refine AM<|Vm<|Vm<|Vm<|Vm<|Vr (I (Wr (y - d.2)))<|Bi a λb7 bv a=>Ca (Cg [Fl f,I (Wr (y - d.2))] Z) (Uz an am bv) ?_
 rintro _ b8 ⟨bw,rfl,bx⟩
 refine Bi a λao bz a=>Vx (v:=Fl ao) (Run.fsub Z Z bz)<|Va (Fl ao)<|AA<|⟨m,Nat.lt_succ_self m,_,bw,ao,Pu,(az▸a),(T3 (Mo [] ay) br bu bx)⟩
 refine BX<|Am (λh a0=>∃e ap af,h=Env.puts e [(7,Fl af)]/\Nh af=some q/\AU [] r ae ap a0) ?_ ?_
 refine Sr<|Vm<|Vr (.bool (flt_ c (0:Nat)))<|AA<|Cn a (λb0 a=>?_) λb0 a=>?_
 refine AM<|Vm<|Vr (Fl (Op.negFloat .f64 g))<|Va (Fl (Op.negFloat .f64 g))<|AA<|⟨_,r,(Op.negFloat .f64 g),Pu,a,Rf⟩
 refine AR<|⟨_,r,g,Pu,a,Rf⟩
 rintro _ a0 ⟨e,ap,af,rfl,a,b1⟩
 rw [Nh] at a
 refine Sr<|Vm<|Va (Fl af)<|AA<|AS ?_
 obtain rfl:=AK a
 refine O1 B ar Z (.tmp Z)<|⟨ap,Z,Ho (Tn (T4 (Mo [] ax) bh bk bm ay) b1) aq⟩
theorem XN(c:Nat):Lu.Spec (Lu c):=lk0 (WN c)
def Kb.At(g:Col)(a:World)(f:Nat->Nat->Option Nat):Prop:=
 ∀{c d e},f c d=some e->
  Calls PG 147 #[Fl c,Fl d] a λh l=>∃m,h=.returned (Fl e)/\AU [] g a m l
def Kb.Spec(f:Nat->Nat->Option Nat):Prop:=
 ∀a c,Kb.At a c f
theorem WO(d:Nat)(c:Col)(e:World)(f:∀b,c b<10):Kb.At c e (Kb d):=by
 intro g l r a
 rw [Kb] at a
 refine Az Tryz.func147 Z Tryz.ntmps147 Z λB m s=>Sr<|Va (Fl (0:Nat))<|AA<|AT<|OG (t:=false) Z (λh=>by cases h) λh=>AR<|Sr<|Vm<|Vm<|Bi a λn o a=>Ca (Cg [Fl g,Fl l] Z) (XN d c e o) ?_
 rintro _ u ⟨p,rfl,q⟩
 refine Va (Fl n)<|AA<|AS ?_
 obtain rfl:=AK a
 refine O1 B m Z (.tmp Z)<|⟨p,Z,Ho (Mo [] q) f⟩
theorem Rz(c:Nat):Kb.Spec (Kb c):=lk0 (WO c)
def KK.At(g:Col)(c:World)(f:Cpl->Cpl->Option (Cpl×Int)):Prop:=
 ∀{d e a},f d e=some a->
  Calls PG 141 #[Cx d,Cx e] c λh l=>∃m,h=.returned (.tuple #[Cx a.1,I a.2])/\AU [] g c m l
def KK.Spec(f:Cpl->Cpl->Option (Cpl×Int)):Prop:=
 ∀a c,KK.At a c f
theorem U0(m:Nat)(n:Col)(w:World)(o:∀b,n b<10):KK.At n w (KK m):=by
 intro y d ag a
 rw [KK] at a
 refine Az Tryz.func141 Z Tryz.ntmps141 Z λB p bb=>Sr<|Va (Cx (((0,0):Cpl)))<|Va (I 0)<|AA<|AT<|Ah<|Am (λz q=>∃l h aa,z=Env.puts l [(0,Cx y),(1,Cx d),(9,.bool aa)]/\MP m y d aa=some ag/\AU [] n w h q) ?_ ?_
 refine AM<|Vm<|Bi a λan ao a=>Ca (Cg [Cx y] Z) (DK n w ao) ?_
 rintro _ ap ⟨ah,rfl,ai⟩
 refine Vr (.bool (!an))<|Vm<|Bo a (λf a=>?_) λf a=>?_
 refine Pg f<|Pg f<|Pg f<|Vp f<|Va (.bool true)<|AA<|⟨_,ah,true,Pu,a,(Mo [] ai)⟩
 refine Gm f<|Bi a λab aq a=>CQ (.guard (t:=false) (b:=false) Z Z Z Z (Cb f)) Z Z (Cg [Cx d] Z)<|Calls.mono (DK ah ap aq) ?_
 rintro _ bc ⟨ar,rfl,au⟩
 refine ⟨_,Z,?_⟩
 refine Gr f (.bool (!ab))<|Vp f<|Va (.bool (!ab))<|AA<|⟨_,ar,(!ab),Pu,a,(Tn (Mo [] ai) au)⟩
 rintro _ q ⟨l,h,aa,rfl,a,r⟩
 rw [MP] at a
 refine Cn a (λav a=>?_) λav a=>?_
 refine Sr<|Va (Cx (((0,0):Cpl)))<|Va (I 3)<|AA<|AS ?_
 obtain rfl:=AK a
 refine O2 B p Z (.tmp Z) (.tmp Z)<|⟨h,Z,Ho (Mo [] r) o⟩
 refine Sr<|Vm<|Vx (v:=.bool (ceq d ((0,0):Cpl))) (Run.ceq Z Z)<|Va (.bool (ceq d ((0,0):Cpl)))<|AA<|Cn a (λaw a=>?_) λaw a=>?_
 refine Sr<|Va (Cx (((0,0):Cpl)))<|Va (I 51)<|AA<|AS ?_
 obtain rfl:=AK a
 refine O2 B p Z (.tmp Z) (.tmp Z)<|⟨h,Z,Ho (Mo [] r) o⟩
 refine AR<|Sr<|Vm<|Vx (v:=Fl d.1) (Run.real Z)<|Vm<|Vx (v:=Fl d.2) (Run.imag Z)<|Vr (Fl (Op.negFloat .f64 d.2))<|Vx (v:=Cx ((d.1,(Op.negFloat .f64 d.2)))) (Run.complex Z Z)<|Va (Cx ((d.1,(Op.negFloat .f64 d.2))))<|AA<|Sr<|Vm<|Vm<|Bi a λe ax a=>Vx (v:=Cx e) (Run.cmul Z Z ax)<|Vm<|Vm<|Bi a λg ay a=>Vx (v:=Cx g) (Run.cmul Z Z ay)<|Vx (v:=Fl g.1) (Run.real Z)<|Va (Cx e)<|Va (Fl g.1)<|AA<|AT<|Am (λz ac=>∃l s ad,z=Env.puts l [(7,Cx e),(8,Fl g.1),(45,.bool ad)]/\MO e g ad=some ag/\AU [] h q s ac) ?_ ?_
 refine AM<|Vm<|Vx (v:=Fl e.1) (Run.real Z)<|Vm<|Bi a λaz a0 a=>Ca (Cg [Fl e.1,Fl g.1] Z) (Rz m h q a0) ?_
 rintro _ a1 ⟨aj,rfl,ak⟩
 refine Vr (.bool (fne az (0:Nat)))<|Vm<|Bo a (λc a=>?_) λc a=>?_
 refine Pg c<|Pg c<|Pg c<|Pg c<|Pg c<|Vp c<|AA<|⟨_,aj,true,Pu,a,(Mo [] ak)⟩
 refine Gm c<|Gx c (v:=Fl e.2) (Run.imag Z)<|Gm c<|Bi a λal a2 a=>CQ (.guard (t:=false) (b:=false) Z Z Z Z (Cb c)) Z Z (Cg [Fl e.2,Fl g.1] Z)<|Calls.mono (Rz m aj a1 a2) ?_
 rintro _ bd ⟨a3,rfl,a4⟩
 refine ⟨_,Z,?_⟩
 refine Gr c (.bool (fne al (0:Nat)))<|Vp c<|AA<|⟨_,a3,(fne al (0:Nat)),Pu,a,(Tn (Mo [] ak) a4)⟩
 rintro _ ac ⟨l,s,ad,rfl,a,am⟩
 rw [MO] at a
 refine Cn a (λa5 a=>?_) λa5 a=>?_
 refine Sr<|Va (Cx (((0,0):Cpl)))<|Va (I 51)<|AA<|AS ?_
 obtain rfl:=AK a
 refine O2 B p Z (.tmp Z) (.tmp Z)<|⟨s,Z,Ho (Tn (Mo [] r) am) o⟩
 refine AR<|Sr<|Vm<|Vx (v:=Fl e.1) (Run.real Z)<|Vm<|Bi a λae a6 a=>Vx (v:=Fl ae) (Run.fdiv Z Z a6)<|Vm<|Vx (v:=Fl e.2) (Run.imag Z)<|Vm<|Bi a λaf a7 a=>Vx (v:=Fl af) (Run.fdiv Z Z a7)<|Vx (v:=Cx ((ae,af))) (Run.complex Z Z)<|Bi a λu a8 a=>Ca (Cg [Cx ((ae,af))] Z) (LU s ac a8) ?_
 rintro _ be ⟨a9,rfl,ba⟩
 refine Vr (Cx u.1)<|Vr (I u.2)<|Va (Cx u.1)<|Va (I u.2)<|AA<|AS ?_
 obtain rfl:=AK a
 refine O2 B p Z (.tmp Z) (.tmp Z)<|⟨a9,Z,Ho (T2 (Mo [] r) am ba) o⟩
theorem WQ(c:Nat):KK.Spec (KK c):=lk0 (U0 c)
def I5.At(g:Col)(c:World)(f:Cpl->Cpl->Option (Bool×Int)):Prop:=
 ∀{d e a},f d e=some a->
  Calls PG 142 #[Cx d,Cx e] c λh l=>∃m,h=.returned (.tuple #[.bool a.1,I a.2])/\AU [] g c m l
def I5.Spec(f:Cpl->Cpl->Option (Bool×Int)):Prop:=
 ∀a c,I5.At a c f
theorem T0(g:Col)(h:World)(l:∀b,g b<10):I5.At g h I5:=by
 intro c d w a
 rw [I5] at a
 refine Az Tryz.func142 Z Tryz.ntmps142 Z λB m ah=>Sr<|Va (.bool false)<|Va (I 0)<|AA<|AT<|Am (λy p=>∃q f n,y=Env.puts q [(0,Cx c),(1,Cx d),(13,.bool n)]/\Lv c d n=some w/\AU [] g h f p) ?_ ?_
 refine AM<|Vm<|Bi a λz aa a=>Ca (Cg [Cx c] Z) (DK g h aa) ?_
 rintro _ ab ⟨r,rfl,s⟩
 refine Vr (.bool (!z))<|Vm<|Bo a (λe a=>?_) λe a=>?_
 refine Pg e<|Pg e<|Pg e<|Vp e<|AA<|⟨_,r,true,Pu,a,(Mo [] s)⟩
 refine Gm e<|Bi a λu ac a=>CQ (.guard (t:=false) (b:=false) Z Z Z Z (Cb e)) Z Z (Cg [Cx d] Z)<|Calls.mono (DK r ab ac) ?_
 rintro _ ai ⟨ad,rfl,ae⟩
 refine ⟨_,Z,?_⟩
 refine Gr e (.bool (!u))<|Vp e<|AA<|⟨_,ad,(!u),Pu,a,(Tn (Mo [] s) ae)⟩
 rintro _ p ⟨q,f,n,rfl,a,o⟩
 rw [Lv] at a
 refine Cn a (λaf a=>?_) λaf a=>?_
 refine Sr<|Va (.bool false)<|Va (I 3)<|AA<|AS ?_
 obtain rfl:=AK a
 refine O2 B m Z (.tmp Z) (.tmp Z)<|⟨f,Z,Ho (Mo [] o) l⟩
 refine AR<|AT<|Sr<|Vm<|Vx (v:=Fl c.1) (Run.real Z)<|Vm<|Vx (v:=Fl d.1) (Run.real Z)<|Vr (.bool (fne c.1 d.1))<|AA<|Cn a (λag a=>?_) λag a=>?_
 refine Sr<|Vm<|Vx (v:=Fl c.1) (Run.real Z)<|Vm<|Vx (v:=Fl d.1) (Run.real Z)<|Vr (.bool (flt_ c.1 d.1))<|Va (.bool (flt_ c.1 d.1))<|Va (I 0)<|AA<|AS ?_
 obtain rfl:=AK a
 refine O2 B m Z (.tmp Z) (.tmp Z)<|⟨f,Z,Ho (Mo [] o) l⟩
 refine AR<|Sr<|Vm<|Vx (v:=Fl c.2) (Run.imag Z)<|Vm<|Vx (v:=Fl d.2) (Run.imag Z)<|Vr (.bool (flt_ c.2 d.2))<|Va (.bool (flt_ c.2 d.2))<|Va (I 0)<|AA<|AS ?_
 obtain rfl:=AK a
 refine O2 B m Z (.tmp Z) (.tmp Z)<|⟨f,Z,Ho (Mo [] o) l⟩
theorem U1:I5.Spec I5:=lk0 (T0)
def Kc.At(n:Col)(c:World)(f:Int->Cpl->Cpl->Option (AD×Int)):Prop:=
 ∀{d e g a},f d e g=some a->
  Calls PG 118 #[I d,Cx e,Cx g] c λo h=>∃l m,o=.returned (.tuple #[Ag m,I a.2])/\AU [] n c l h/\Aq.rep l.F h m a.1
def Kc.Spec(f:Int->Cpl->Cpl->Option (AD×Int)):Prop:=
 ∀a c,Kc.At a c f
theorem WR(ai:Nat)(z:Col)(a2:World)(m:∀b,z b<10):Kc.At z a2 (Kc ai):=by
 intro f g h ci a
 rw [Kc] at a
 refine Az Tryz.func118 Z Tryz.ntmps118 Z λB n cj=>Sr<|Ef<|Aa z 20 Cm Z λo r ck p q=>Va (I 0)<|AA<|AT<|Sr<|Vm<|AA<|Ah<|Sr<|Vr (.bool (f==8))<|Va (.bool (f==8))<|AA<|Cn a (λa3 a=>?_) λa3 a=>?_
 refine Sr<|Vm<|Vm<|Bi a λs a4 a=>Ca (Cg [Cx g,Cx h] Z) (WG o r a4) ?_
 rintro _ a5 ⟨a6,rfl,aj⟩
 refine Vr (Cx s.1)<|Vr (I s.2)<|Bi a λc a7 a=>Ca (Cg [Cx s.1,I s.2] Z) (JL a6 a5 a7) ?_
 rintro _ cl ⟨a8,cm,rfl,ak,a9⟩
 obtain ⟨aa,ab,rfl,al⟩:=E1 (A1 a9)
 refine Vr (Ag [I c.1.type_,Cx c.1.num,.bool c.1.bool,Sl aa c.1.list ab])<|Vr (I c.2)<|have ba:=Y2 p aj ak;Eu<|St DN ba Z Z Z Z λco bb am=>Va (I c.2)<|AA<|AS ?_
 obtain rfl:=AK a
 refine O2 B n Z (.agg B5 Z Z (Bw bb)) (.tmp Z)<|have bc:=Ss Kd.cpx al am;⟨a8,[I c.1.type_,Cx c.1.num,.bool c.1.bool,Sl aa c.1.list ab],Z,Ho (T3 (Mo [20] q) aj ak am) m,(Ao (x:=c.1) bc)⟩
 refine Sr<|Vr (.bool (f==9))<|Va (.bool (f==9))<|AA<|Cn a (λbd a=>?_) λbd a=>?_
 refine Sr<|Vm<|Vm<|Bi a λu be a=>Ca (Cg [Cx g,Cx h] Z) (WH o r be) ?_
 rintro _ bf ⟨bg,rfl,an⟩
 refine Vr (Cx u.1)<|Vr (I u.2)<|Bi a λd bh a=>Ca (Cg [Cx u.1,I u.2] Z) (JL bg bf bh) ?_
 rintro _ cq ⟨bi,cr,rfl,ao,bj⟩
 obtain ⟨ac,ad,rfl,ap⟩:=E1 (A1 bj)
 refine Vr (Ag [I d.1.type_,Cx d.1.num,.bool d.1.bool,Sl ac d.1.list ad])<|Vr (I d.2)<|have bk:=Y2 p an ao;Eu<|St DN bk Z Z Z Z λcu bl aq=>Va (I d.2)<|AA<|AS ?_
 obtain rfl:=AK a
 refine O2 B n Z (.agg B5 Z Z (Bw bl)) (.tmp Z)<|have bm:=Ss Kd.cpx ap aq;⟨bi,[I d.1.type_,Cx d.1.num,.bool d.1.bool,Sl ac d.1.list ad],Z,Ho (T3 (Mo [20] q) an ao aq) m,(Ao (x:=d.1) bm)⟩
 refine Sr<|Vr (.bool (f==10))<|Va (.bool (f==10))<|AA<|Cn a (λbn a=>?_) λbn a=>?_
 refine Sr<|Vm<|Vm<|Bi a λw bo a=>Ca (Cg [Cx g,Cx h] Z) (WI o r bo) ?_
 rintro _ bp ⟨bq,rfl,ar⟩
 refine Vr (Cx w.1)<|Vr (I w.2)<|Bi a λx63 br a=>Ca (Cg [Cx w.1,I w.2] Z) (JL bq bp br) ?_
 rintro _ cv ⟨bt,cw,rfl,au,bu⟩
 obtain ⟨ae,af,rfl,av⟩:=E1 (A1 bu)
 refine Vr (Ag [I x63.1.type_,Cx x63.1.num,.bool x63.1.bool,Sl ae x63.1.list af])<|Vr (I x63.2)<|have bv:=Y2 p ar au;Eu<|St DN bv Z Z Z Z λcy bw aw=>Va (I x63.2)<|AA<|AS ?_
 obtain rfl:=AK a
 refine O2 B n Z (.agg B5 Z Z (Bw bw)) (.tmp Z)<|have bx:=Ss Kd.cpx av aw;⟨bt,[I x63.1.type_,Cx x63.1.num,.bool x63.1.bool,Sl ae x63.1.list af],Z,Ho (T3 (Mo [20] q) ar au aw) m,(Ao (x:=x63.1) bx)⟩
 refine Sr<|Vr (.bool (f==11))<|Va (.bool (f==11))<|AA<|Cn a (λbz a=>?_) λbz a=>?_
 refine Sr<|Vm<|Vm<|Bi a λy b0 a=>Ca (Cg [Cx g,Cx h] Z) (WQ ai o r b0) ?_
 rintro _ b1 ⟨b2,rfl,ax⟩
 refine Vr (Cx y.1)<|Vr (I y.2)<|Bi a λe b3 a=>Ca (Cg [Cx y.1,I y.2] Z) (JL b2 b1 b3) ?_
 rintro _ cz ⟨b4,c0,rfl,ay,b5⟩
 obtain ⟨ag,ah,rfl,az⟩:=E1 (A1 b5)
 refine Vr (Ag [I e.1.type_,Cx e.1.num,.bool e.1.bool,Sl ag e.1.list ah])<|Vr (I e.2)<|have b6:=Y2 p ax ay;Eu<|St DN b6 Z Z Z Z λc2 b7 a0=>Va (I e.2)<|AA<|AS ?_
 obtain rfl:=AK a
 refine O2 B n Z (.agg B5 Z Z (Bw b7)) (.tmp Z)<|have b8:=Ss Kd.cpx az a0;⟨b4,[I e.1.type_,Cx e.1.num,.bool e.1.bool,Sl ag e.1.list ah],Z,Ho (T3 (Mo [20] q) ax ay a0) m,(Ao (x:=e.1) b8)⟩
 refine Sr<|Vr (.bool (f==12))<|Va (.bool (f==12))<|AA<|Cn a (λb9 a=>?_) λb9 a=>?_
 refine Sr<|Vm<|Vm<|Vx (v:=.bool (ceq g h)) (Run.ceq Z Z)<|Vx (v:=Ag [I 2,Cx (((0,0):Cpl)),.bool (ceq g h),.slice none 0 0]) (Bp Cm GK Z (.cons Z Z Z (.cons Z Z Z .nil)))<|Eu<|St DN p Z Z Z Z λc3 ca cb=>Va (I 0)<|AA<|AS ?_
 obtain rfl:=AK a
 refine O2 B n Z (.agg B5 Z Z (Bw ca)) (.tmp Z)<|⟨o,[I 2,Cx (((0,0):Cpl)),.bool (ceq g h),.slice none 0 0],Z,Ho (Tn (Mo [20] q) cb) m,(Ao (x:=(AD.mk 2 ((0,0):Cpl) (ceq g h) [])) Ba)⟩
 refine AR<|Sr<|Vm<|Vm<|Bi a λl cc a=>Ca (Cg [Cx g,Cx h] Z) (U1 o r cc) ?_
 rintro _ c4 ⟨cd,rfl,a1⟩
 refine Vm<|Vr (.bool l.1)<|Vr (I l.2)<|Va (.bool l.1)<|Va (I l.2)<|AA<|Sr<|Vm<|Vx (v:=Ag [I 2,Cx (((0,0):Cpl)),.bool l.1,.slice none 0 0]) (Bp Cm GK Z (.cons Z Z Z (.cons Z Z Z .nil)))<|Vm<|have cf:=Bs p a1;Eu<|St DN cf Z Z Z Z λc5 cg ch=>Va (I l.2)<|AA<|AS ?_
 obtain rfl:=AK a
 refine O2 B n Z (.agg B5 Z Z (Bw cg)) (.tmp Z)<|⟨cd,[I 2,Cx (((0,0):Cpl)),.bool l.1,.slice none 0 0],Z,Ho (T2 (Mo [20] q) a1 ch) m,(Ao (x:=(AD.mk 2 ((0,0):Cpl) l.1 [])) Ba)⟩
theorem XO(c:Nat):Kc.Spec (Kc c):=lk0 (WR c)
def EW.At(d:Col)(a:World)(f:Int->(List AD)->Option (AD×Int)):Prop:=
 ∀{e g h c},f e g=some c->Slc Aq d.F a h g->
  Calls PG 91 #[I e,h] a λo l=>∃m n,o=.returned (.tuple #[Ag n,I c.2])/\AU [] d a m l/\Aq.rep m.F l n c.1
def EW.Spec(f:Int->(List AD)->Option (AD×Int)):Prop:=
 ∀a c,EW.At a c f
theorem T5(y:Nat)(ar:Col)(b4:World)(ae:∀b,ar b<10):EW.At ar b4 (EW y):=by
 intro c d ek al a au
 rw [EW] at a
 obtain ⟨ah,ai,rfl⟩:=AW au
 refine Az Tryz.func91 Z Tryz.ntmps91 Z λB af el=>Sr<|Ef<|Aa ar 20 Cm Z λb5 b6 av ag z=>Va (I 0)<|AA<|Sr<|Vm<|Bi a λe b7 a=>Ca (Cg [I c] Z) (Us b5 b6 b7) ?_
 rintro _ b8 ⟨aw,rfl,f⟩
 refine Vm<|Vr (I e.1)<|Vr (I e.2)<|Va (I e.1)<|Va (I e.2)<|AA<|AT<|Am (λaj ax=>∃ac ak ay,aj=Env.puts ac [(0,I c),(1,Sl ah d ai),(4,Pt av 0),(7,I e.2),(23,.bool ay)]/\Mm y c d e ay=some al/\AU [] aw b8 ak ax) ?_ ?_
 refine AM<|Vm<|Vr (.bool (e.1==0))<|Vm<|Bo a (λr a=>?_) λr a=>?_
 refine Pg r<|Pg r<|Pg r<|Pg r<|Vp r<|AA<|⟨_,aw,true,Pu,a,Rf⟩
 refine Gm r<|have b9:=K2 Aq au z f; ?_
 obtain ⟨em,en,ca⟩:=AW b9
 refine Gx r (v:=I (d.length:Int)) (Ll Fs ca)<|Gm r<|Gr r (.bool ((d.length:Int) != e.1))<|Vp r<|AA<|⟨_,aw,((d.length:Int) != e.1),Pu,a,Rf⟩
 rintro _ ax ⟨ac,ak,ay,rfl,a,g⟩
 rw [Mm] at a
 refine Cn a (λcb a=>?_) λcb a=>?_
 refine Sr<|Vx (v:=Ag [I 0,Cx (((0,0):Cpl)),.bool false,.slice none 0 0]) (Bp Cm GK Z .nil)<|have cc:=Y2 ag f g;Eu<|St DN cc Z Z Z Z λeo cd cf=>Va (I 3)<|AA<|AS ?_
 obtain rfl:=AK a
 refine O2 B af Z (.agg B5 Z Z (Bw cd)) (.tmp Z)<|⟨ak,[I 0,Cx (((0,0):Cpl)),.bool false,.slice none 0 0],Z,Ho (T3 (Mo [20] z) f g cf) ae,(Ao (x:=(AD.mk 0 ((0,0):Cpl) false [])) Ba)⟩
 refine AR<|AT<|Sr<|Vm<|have az:=K3 Aq au z f g; ?_
 obtain ⟨ep,eq,cg⟩:=AW az
 refine Vx (v:=I (d.length:Int)) (Ll Fs cg)<|Vm<|AA<|Ah<|Bj (λad aj aa=>∃ac u w,aj=Env.puts ac [(0,I c),(1,Sl ah d ai),(4,Pt av 0),(7,I e.2),(25,Sl ah d ai),(26,I (d.length:Int)),(27,I w)]/\Dp y c d e ad w=some al/\AU [21] ak ax u aa) y ?_ ?_
 exact ⟨_,ak,0,Pu,a,(AU.refl [21] _ _)⟩
 rintro ad _ aa ⟨ac,u,w,rfl,a,h⟩
 rcases ad with _|ad
 exact A5 a
 refine have a:Cv y c d e (Dp y c d e ad) w=some al:=a; ?_
 obtain ⟨ch,bf⟩:∃s,s=Dp y c d e ad:=⟨_,rfl⟩
 rw [<-bf,Cv] at a
 refine Sr<|Vr (.bool (decide (w< (d.length:Int))))<|AA<|AT<|Cn a (λci a=>?_) λci a=>?_
 refine AR<|AT<|Ah<|Sr<|Bi a λp cj a=>have ck:=Ss Aq az h; ?_
 obtain ⟨cl,cm,er,cn,co,cq,cr,ct,a0⟩:=A8 (κ:=Aq) ck cj
 replace a0:Ay u aa cl (cm+w.toNat*4) cn:=a0
 obtain ⟨a1,a2,rfl,bg⟩:=E1 (A1 ct)
 refine Vx (Ix Fs co Z cq cr)<|Vx (Lx B5 Z Z (Ay.part0 a0 [I p.type_,Cx p.num,.bool p.bool,Sl a1 p.list a2] Z))<|Ef<|Aa u 21 Cm Z λa3 et eu cu am=>have cv:=Ss Kd.cpx bg am;Eu<|St DN cu Z Z Z Z λbh bi an=>AA<|Am (λaj bj=>∃ac ao a4,aj=Env.puts ac [(0,I c),(1,Sl ah d ai),(4,Pt av 0),(7,I e.2),(25,Sl ah d ai),(26,I (d.length:Int)),(27,I w),(39,.bool a4)]/\Ik w ch a4=some al/\AU [] a3 bh ao bj) ?_ ?_
 refine AM<|Vx (Fz JJ Z)<|Vx (Ld Dl Z (Bc bi Z))<|Vm<|Vr (.bool (p.type_ != e.2))<|Vm<|Bo a (λab a=>?_) λab a=>?_
 refine Pg ab<|Pg ab<|Pg ab<|Vp ab<|AA<|⟨_,a3,true,Pu,a,Rf⟩
 refine Gx ab (Lx B5 Z Z (Bw bi))<|have cw:=Ss Kd.cpx cv an;Bi a λbk cx a=>CQ (.guard (t:=false) (b:=false) Z Z Z Z (Cb ab)) Z Z (Cg [Ag [I p.type_,Cx p.num,.bool p.bool,Sl a1 p.list a2]] Z)<|Calls.mono (Pa y a3 bh cx (Ao (x:=p) cw)) ?_
 rintro _ ew ⟨cy,rfl,cz⟩
 refine ⟨_,Z,?_⟩
 refine Gr ab (.bool (bk != 0))<|Vp ab<|AA<|⟨_,cy,(bk != 0),Pu,a,(Mo [] cz)⟩
 rintro _ bj ⟨ac,ao,a4,rfl,a,a5⟩
 rw [Ik] at a
 refine Cn a (λc0 a=>?_) λc0 a=>?_
 refine Sr<|Vx (v:=Ag [I 0,Cx (((0,0):Cpl)),.bool false,.slice none 0 0]) (Bp Cm GK Z .nil)<|have c1:=Y2 (Y4 ag f g h am) an a5;Eu<|St DN c1 Z Z Z Z λex c2 c3=>Va (I 3)<|AA<|AS ?_
 obtain rfl:=AK a
 refine O2 B af Z (.agg B5 Z Z (Bw c2)) (.tmp Z)<|⟨ao,[I 0,Cx (((0,0):Cpl)),.bool false,.slice none 0 0],Z,Ho (T3 (T4 (Mo [20,21] z) f g h am) an a5 c3) ae,(Ao (x:=(AD.mk 0 ((0,0):Cpl) false [])) Ba)⟩
 refine AR<|AM<|Vr (I (Wr (w+1)))<|Vm<|AA<|⟨ad,Nat.lt_succ_self ad,_,ao,(Wr (w+1)),Pu,(bf▸a),(T3 (Mo [21] h) am an a5)⟩
 refine BX<|Sr<|Vm<|Bi a λq c4 a=>have bl:=Ss Aq az h; ?_
 obtain ⟨c5,c6,ey,c7,bm,bn,bo,c8,ap⟩:=A8 (κ:=Aq) bl c4
 replace ap:Ay u aa c5 (c6+(0:Int).toNat*4) c7:=ap
 obtain ⟨e0,e1,rfl,c9⟩:=E1 (A1 c8)
 refine Vx (Ix Fs bm Z bn bo)<|Vx (Fd HU Z)<|Vx (Ld Gc Z (Ay.cell (k:=1) ap Z))<|Va (Cx q.num)<|AA<|AT<|Sr<|Vm<|AA<|Ah<|Sr<|Vr (.bool (c==14))<|Va (.bool (c==14))<|AA<|Cn a (λda a=>?_) λda a=>?_
 refine Sr<|Vm<|Vx (Ix Fs bm Z bn bo)<|Vx (Fd Kj Z)<|Vx (Ld M0 Z (Ay.cell (k:=2) ap Z))<|Vr (.bool (!q.bool))<|Vx (v:=Ag [I 2,Cx (((0,0):Cpl)),.bool (!q.bool),.slice none 0 0]) (Bp Cm GK Z (.cons Z Z Z (.cons Z Z Z .nil)))<|have db:=Y3 ag f g h;Eu<|St DN db Z Z Z Z λe2 dc de=>Va (I 0)<|AA<|AS ?_
 obtain rfl:=AK a
 refine O2 B af Z (.agg B5 Z Z (Bw dc)) (.tmp Z)<|⟨u,[I 2,Cx (((0,0):Cpl)),.bool (!q.bool),.slice none 0 0],Z,Ho (T4 (Mo [20,21] z) f g h de) ae,(Ao (x:=(AD.mk 2 ((0,0):Cpl) (!q.bool) [])) Ba)⟩
 refine Sr<|Vr (.bool (c==15))<|Va (.bool (c==15))<|AA<|Cn a (λdf a=>?_) λdf a=>?_
 refine Sr<|Vm<|Vx (v:=Fl q.num.1) (Run.real Z)<|Vx (v:=Cx ((q.num.1,(0:Nat)))) (Run.complex Z Z)<|Bi a λl dg a=>Ca (Cg [Cx ((q.num.1,(0:Nat))),I 0] Z) (JL u aa dg) ?_
 rintro _ e3 ⟨dh,e4,rfl,bp,di⟩
 obtain ⟨a6,a7,rfl,bq⟩:=E1 (A1 di)
 refine Vr (Ag [I l.1.type_,Cx l.1.num,.bool l.1.bool,Sl a6 l.1.list a7])<|Vr (I l.2)<|have dj:=Y4 ag f g h bp;Eu<|St DN dj Z Z Z Z λe6 dk br=>Va (I l.2)<|AA<|AS ?_
 obtain rfl:=AK a
 refine O2 B af Z (.agg B5 Z Z (Bw dk)) (.tmp Z)<|have dl:=Ss Kd.cpx bq br;⟨dh,[I l.1.type_,Cx l.1.num,.bool l.1.bool,Sl a6 l.1.list a7],Z,Ho (Tn (T4 (Mo [20,21] z) f g h bp) br) ae,(Ao (x:=l.1) dl)⟩
 refine Sr<|Vr (.bool (c==16))<|Va (.bool (c==16))<|AA<|Cn a (λdm a=>?_) λdm a=>?_
 refine Sr<|Vm<|Vx (v:=Fl q.num.2) (Run.imag Z)<|Vx (v:=Cx ((q.num.2,(0:Nat)))) (Run.complex Z Z)<|Bi a λm dn a=>Ca (Cg [Cx ((q.num.2,(0:Nat))),I 0] Z) (JL u aa dn) ?_
 rintro _ e7 ⟨dp,e8,rfl,bt,dq⟩
 obtain ⟨a8,a9,rfl,bu⟩:=E1 (A1 dq)
 refine Vr (Ag [I m.1.type_,Cx m.1.num,.bool m.1.bool,Sl a8 m.1.list a9])<|Vr (I m.2)<|have dr:=Y4 ag f g h bt;Eu<|St DN dr Z Z Z Z λfa ds bv=>Va (I m.2)<|AA<|AS ?_
 obtain rfl:=AK a
 refine O2 B af Z (.agg B5 Z Z (Bw ds)) (.tmp Z)<|have dt:=Ss Kd.cpx bu bv;⟨dp,[I m.1.type_,Cx m.1.num,.bool m.1.bool,Sl a8 m.1.list a9],Z,Ho (Tn (T4 (Mo [20,21] z) f g h bt) bv) ae,(Ao (x:=m.1) dt)⟩
 refine Sr<|Vr (.bool (c==17))<|Va (.bool (c==17))<|AA<|Cn a (λdu a=>?_) λdu a=>?_
 refine Sr<|Vm<|Bi a λaq dv a=>Ca (Cg [Cx q.num] Z) (Ut u aa dv) ?_
 rintro _ dw ⟨dx,rfl,bw⟩
 refine Vr (Cx aq.1)<|Vr (I aq.2)<|Bi a λn dy a=>Ca (Cg [Cx aq.1,I aq.2] Z) (JL dx dw dy) ?_
 rintro _ fb ⟨dz,fc,rfl,bx,d0⟩
 obtain ⟨ba,bb,rfl,bz⟩:=E1 (A1 d0)
 refine Vr (Ag [I n.1.type_,Cx n.1.num,.bool n.1.bool,Sl ba n.1.list bb])<|Vr (I n.2)<|have d1:=Bs (Y4 ag f g h bw) bx;Eu<|St DN d1 Z Z Z Z λfe d2 b0=>Va (I n.2)<|AA<|AS ?_
 obtain rfl:=AK a
 refine O2 B af Z (.agg B5 Z Z (Bw d2)) (.tmp Z)<|have d3:=Ss Kd.cpx bz b0;⟨dz,[I n.1.type_,Cx n.1.num,.bool n.1.bool,Sl ba n.1.list bb],Z,Ho (T2 (T4 (Mo [20,21] z) f g h bw) bx b0) ae,(Ao (x:=n.1) d3)⟩
 refine AR<|Sr<|Vm<|Vm<|Vm<|Bi a λd4 d5 a=>?_
 obtain ⟨d6,d7,ff,d8,d9,ea,eb,ec,bc⟩:=A8 (κ:=Aq) bl d5
 replace bc:Ay u aa d6 (d7+(1:Int).toNat*4) d8:=bc
 obtain ⟨fh,fi,rfl,ed⟩:=E1 (A1 ec)
 refine Vx (Ix Fs d9 Z ea eb)<|Vx (Fd HU Z)<|Vx (Ld Gc Z (Ay.cell (k:=1) bc Z))<|Bi a λo ee a=>Ca (Cg [I c,Cx q.num,Cx d4.num] Z) (XO y u aa ee) ?_
 rintro _ fj ⟨ef,fk,rfl,b1,eg⟩
 obtain ⟨bd,be,rfl,b2⟩:=E1 (A1 eg)
 refine Vr (Ag [I o.1.type_,Cx o.1.num,.bool o.1.bool,Sl bd o.1.list be])<|Vr (I o.2)<|have eh:=Y4 ag f g h b1;Eu<|St DN eh Z Z Z Z λfm ei b3=>Va (I o.2)<|AA<|AS ?_
 obtain rfl:=AK a
 refine O2 B af Z (.agg B5 Z Z (Bw ei)) (.tmp Z)<|have ej:=Ss Kd.cpx b2 b3;⟨ef,[I o.1.type_,Cx o.1.num,.bool o.1.bool,Sl bd o.1.list be],Z,Ho (Tn (T4 (Mo [20,21] z) f g h b1) b3) ae,(Ao (x:=o.1) ej)⟩
theorem U2(c:Nat):EW.Spec (EW c):=lk0 (T5 c)
def mean_run_look.At(G1 G2:Prop)(c:Col)(a:World)(f:(List AN)->Int->Int->As->AE->Nm->Option ((Except Int Ax)×(List AN)×Int×Int))(h ac:Nat):Prop:=
 ∀{l n o p q m s w y z aa d},f n p q s w z=some d->G1->G2->Bk c a h l [.map (some m),o,I p,I q] 83->Slc AI c.F a o n->Mp c a ac m s->AG.rep c.F a y w->Ge 89 90 c.F a aa z->
  Calls PG 33 #[Pt l 0,Ag y,aa] a λad e=>∃g ab,AU [h] c a g e/\Bk g e h l [.map (some m),ab,I d.2.2.1,I d.2.2.2] 83/\Slc AI g.F e ab d.2.1/\Ey 33 d.1 ad (λr v=>∃u:List Value,v=Ag u/\HA.rep g.F e u r)
def mean_run_look.Spec(f:(List AN)->Int->Int->As->AE->Nm->Option ((Except Int Ax)×(List AN)×Int×Int)):Prop:=
 ∀d e {a c},mean_run_look.At ([a,c].Nodup) (0∉[a,c]) d e f a c
def mean_later_1.At(G1 G2:Prop)(c:Col)(a:World)(f:(List AN)->Int->Int->As->AE->Nm->Option ((Except Int Ax)×(List AN)×Int×Int))(h ae:Nat):Prop:=
 ∀{l n o p q m s w y z aa ab ac d},f n p q s w aa=some d->G1->G2->Bk c a h l [.map (some m),o,I p,I q] 83->Slc AI c.F a o n->Mp c a ae m s->Ay c a y 0 z->AG.rep c.F a z w->Ay c a ab 0 [ac]->Ge 89 90 c.F a ac aa->
  Calls PG 90 #[Pt l 0,Pt y 0,Pt ab 0] a λaf e=>∃g ad,AU [h] c a g e/\Bk g e h l [.map (some m),ad,I d.2.2.1,I d.2.2.2] 83/\Slc AI g.F e ad d.2.1/\Ey 33 d.1 af (λr v=>∃u:List Value,v=Ag u/\HA.rep g.F e u r)
def mean_later_1.Spec(f:(List AN)->Int->Int->As->AE->Nm->Option ((Except Int Ax)×(List AN)×Int×Int)):Prop:=
 ∀d e {a c},mean_later_1.At ([a,c].Nodup) (0∉[a,c]) d e f a c
def mean_callth.Spec(f:(List AN)->Int->Int->As->Th->Option ((Except Int Ax)×(List AN)×Int×Int)):Prop:=
 ∀c a {m d p q s w n o y z aa e},f p s w y z=some e->[d,o].Nodup->0∉[d,o]->Bk c a d m [.map (some n),q,I s,I w] 83->Slc AI c.F a q p->Mp c a o n y->MTh 89 90 c.F a aa z->
  ∃g caps,ACr PG aa g caps/\Calls PG g ([Pt m 0]++caps:List Value).toArray a λac h=>∃(l:Col) (ab:Value),AU [d] c a l h/\Bk l h d m [.map (some n),ab,I e.2.2.1,I e.2.2.2] 83/\Slc AI l.F h ab e.2.1/\Ey 33 e.1 ac (λr v=>∃u:List Value,v=Ag u/\HA.rep l.F h u r)
def mean_run_parts.At(G1 G2:Prop)(c:Col)(a:World)(f:(List AN)->Int->Int->As->AE->Nm->Option ((Except Int Ax)×(List AN)×Int×Int))(h ac:Nat):Prop:=
 ∀{l n o p q m s w y z aa d},f n p q s w z=some d->G1->G2->Bk c a h l [.map (some m),o,I p,I q] 83->Slc AI c.F a o n->Mp c a ac m s->AG.rep c.F a y w->Ge 89 90 c.F a aa z->
  Calls PG 58 #[Pt l 0,Ag y,aa] a λad e=>∃g ab,AU [h] c a g e/\Bk g e h l [.map (some m),ab,I d.2.2.1,I d.2.2.2] 83/\Slc AI g.F e ab d.2.1/\Ey 33 d.1 ad (λr v=>∃u:List Value,v=Ag u/\HA.rep g.F e u r)
def mean_run_parts.Spec(f:(List AN)->Int->Int->As->AE->Nm->Option ((Except Int Ax)×(List AN)×Int×Int)):Prop:=
 ∀d e {a c},mean_run_parts.At ([a,c].Nodup) (0∉[a,c]) d e f a c
structure Ad.Good(a:Ad):Prop where
 mean_run_look:mean_run_look.Spec a.mean_run_look
 mean_later_1:mean_later_1.Spec a.mean_later_1
 mean_callth:mean_callth.Spec a.mean_callth
 mean_run_parts:mean_run_parts.Spec a.mean_run_parts
theorem Qv(ar:Ad)(bn:Nat)(ca:Ad.Good ar)(cb:Col)(ez:World)(y:∀b,cb b<10):mean_run_look.At True True cb ez (BH ar bn) 1 2:=by
 intro ah z ke au a1 kf av d kg aj ad bo a _ _ da ae cc e0 a2
 rw [BH] at a
 obtain ⟨a3,a4,rfl⟩:=AW ae
 obtain ⟨db,dc,rfl,bp⟩:=E1 (Ae e0)
 refine Az Tryz.func33 Z Tryz.ntmps33 Z λB aa e=>Sr<|Ef<|A0 cb 20 Z Z λe1 ki cd de m=>Ef<|Aa e1 21 LR Z λbq e2 cf aw l=>AA<|Am (λbf df=>∃ax n,bf=Env.puts ax [(0,Pt ah 0),(2,ad),(4,Pt cd 0),(6,Pt cf 0)]/\Ck ar bn z au a1 av d aj=some bo/\AU [] bq e2 n df) ?_ ?_
 refine AT<|BZ C7 (qs 0 9 .nil) [] [] bq (by kernel_rfl) λkj br=>Qx e Z (v:=Pt ah 0) (λ_ _=>Mv Z)<|Qx e Z (λ_ _=>Nc Z)<|Qx e Z (λ_ _=>Fd PI Z)<|have cg:=Y3 da m l br;Qx e Z (λ_ ⟨_,c⟩=>Ld BC Z (Bc (Bs cg c) Z))<|Qx e Z (v:=Pt ah 0) (λ_ _=>Mv Z)<|Qx e Z (λ_ _=>Nc Z)<|Qx e Z (λ_ _=>Fd ZZ Z)<|Qx e Z (λ_ ⟨_,c⟩=>Ld BC Z (Bc (Bs cg c) Z))<|Qx e Z (v:=.bool (decide (au>=a1))) (λ_ _=>Z)<|CA<|Cn a (λe3 a=>?_) λe3 a=>?_
 refine AM<|Vr (.iface 33 (I 60))<|TH (.none Z) (RF Z)<|have e4:=K3 AI ae m l br; ?_
 obtain rfl:=AK a
 refine OI (B:=B) aa<|⟨bq,Sl a3 z a4,Ho (T2 (Mo [] m) l br) y,cg,e4,Gi⟩
 refine AR<|⟨_,bq,Pu,a,(Mo [] br)⟩
 rintro _ df ⟨ax,n,rfl,a,f⟩
 rw [Ck] at a
 refine Sr<|Vm<|Vx (Nc Z)<|Vx (Fd PI Z)<|have dg:=Y3 da m l f;Vx (Ld BC Z (Bc dg Z))<|Vr (I (Wr (au+1)))<|Vx (Nc Z)<|Vx (Fd PI Z)<|Eu<|St Mz dg Z Z Z Z λdh ak g=>AA<|Am (λbf ch=>∃ax ci,bf=Env.puts ax [(0,Pt ah 0),(2,ad),(4,Pt cd 0),(6,Pt cf 0)]/\Lb ar z au a1 av d aj=some bo/\AU [] n dh ci ch) ?_ ?_
 refine Sr<|Vx (Fz Cp Z)<|have bg:=Y3 de l f g;Vx (Ld GC Z (Bc bg Z))<|AA<|Ah<|Sr<|Vr (.bool (d.op==1))<|Va (.bool (d.op==1))<|AA<|Cn a (λe5 a=>?_) λe5 a=>?_
 refine Sr<|Vx (Fd Qj Z)<|Vx (Ld Gc Z (Bc bg Z))<|Vx (v:=Ag [I 1,Cx d.num,.bool false,.slice none 0 0]) (Bp Cm GK Z (.cons Z Z Z (.cons Z Z Z .nil)))<|Vx (v:=Ag [I 1,Cx d.num,.bool false,.slice none 0 0,.nilFunc,.nilFunc]) (Bp LR Nt Z (.cons Z Z Z .nil))<|have e6:=Y2 aw f g;Eu<|St J0 e6 Z Z Z Z λkk e7 cj=>AA<|AS ?_
 obtain rfl:=AK a
 refine O1 B aa Z (.agg KO Z Z (Bw e7))<|have e8:=Bs ak cj;have e9:=Ss AI (K4 AI ae m l f g) cj;⟨n,Sl a3 z a4,Ho (T4 (Mo [1,21] m) l f g cj) y,e8,e9,Fh ⟨[I 1,Cx d.num,.bool false,.slice none 0 0,.nilFunc,.nilFunc],Z,(Cw (x:=(Ax.mk (AD.mk 1 d.num false []) Th.nil Th.nil)) Ba MTh.nil MTh.nil)⟩⟩
 refine Sr<|Vr (.bool (d.op==2))<|Va (.bool (d.op==2))<|AA<|Cn a (λfa a=>?_) λfa a=>?_
 refine Sr<|Vx (v:=Ag [I 2,Cx (((0,0):Cpl)),.bool true,.slice none 0 0]) (Bp Cm GK Z (.cons Z Z Z (.cons Z Z Z .nil)))<|Vx (v:=Ag [I 2,Cx (((0,0):Cpl)),.bool true,.slice none 0 0,.nilFunc,.nilFunc]) (Bp LR Nt Z (.cons Z Z Z .nil))<|have fb:=Y2 aw f g;Eu<|St J0 fb Z Z Z Z λkl fc ck=>AA<|AS ?_
 obtain rfl:=AK a
 refine O1 B aa Z (.agg KO Z Z (Bw fc))<|have fd:=Bs ak ck;have fe:=Ss AI (K4 AI ae m l f g) ck;⟨n,Sl a3 z a4,Ho (T4 (Mo [1,21] m) l f g ck) y,fd,fe,Fh ⟨[I 2,Cx (((0,0):Cpl)),.bool true,.slice none 0 0,.nilFunc,.nilFunc],Z,(Cw (x:=(Ax.mk (AD.mk 2 ((0,0):Cpl) true []) Th.nil Th.nil)) Ba MTh.nil MTh.nil)⟩⟩
 refine Sr<|Vr (.bool (d.op==3))<|Va (.bool (d.op==3))<|AA<|Cn a (λff a=>?_) λff a=>?_
 refine Sr<|Vx (v:=Ag [I 2,Cx (((0,0):Cpl)),.bool false,.slice none 0 0]) (Bp Cm GK Z (.cons Z Z Z .nil))<|Vx (v:=Ag [I 2,Cx (((0,0):Cpl)),.bool false,.slice none 0 0,.nilFunc,.nilFunc]) (Bp LR Nt Z (.cons Z Z Z .nil))<|have fg:=Y2 aw f g;Eu<|St J0 fg Z Z Z Z λkm fh cl=>AA<|AS ?_
 obtain rfl:=AK a
 refine O1 B aa Z (.agg KO Z Z (Bw fh))<|have fi:=Bs ak cl;have fj:=Ss AI (K4 AI ae m l f g) cl;⟨n,Sl a3 z a4,Ho (T4 (Mo [1,21] m) l f g cl) y,fi,fj,Fh ⟨[I 2,Cx (((0,0):Cpl)),.bool false,.slice none 0 0,.nilFunc,.nilFunc],Z,(Cw (x:=(Ax.mk (AD.mk 2 ((0,0):Cpl) false []) Th.nil Th.nil)) Ba MTh.nil MTh.nil)⟩⟩
 refine Sr<|Vr (.bool (d.op==4))<|Va (.bool (d.op==4))<|AA<|Cn a (λfk a=>?_) λfk a=>?_
 refine Sr<|Vx (v:=Ag [I 3,Cx (((0,0):Cpl)),.bool false,.slice none 0 0]) (Bp Cm GK Z (.cons Z Z Z .nil))<|Vx (v:=Ag [I 3,Cx (((0,0):Cpl)),.bool false,.slice none 0 0,.nilFunc,.nilFunc]) (Bp LR Nt Z (.cons Z Z Z .nil))<|have fl:=Y2 aw f g;Eu<|St J0 fl Z Z Z Z λkn fm cm=>AA<|AS ?_
 obtain rfl:=AK a
 refine O1 B aa Z (.agg KO Z Z (Bw fm))<|have fn:=Bs ak cm;have fo:=Ss AI (K4 AI ae m l f g) cm;⟨n,Sl a3 z a4,Ho (T4 (Mo [1,21] m) l f g cm) y,fn,fo,Fh ⟨[I 3,Cx (((0,0):Cpl)),.bool false,.slice none 0 0,.nilFunc,.nilFunc],Z,(Cw (x:=(Ax.mk (AD.mk 3 ((0,0):Cpl) false []) Th.nil Th.nil)) Ba MTh.nil MTh.nil)⟩⟩
 refine Sr<|Vr (.bool (d.op==5))<|Va (.bool (d.op==5))<|AA<|Cn a (λfp a=>?_) λfp a=>?_
 refine AM<|Vr (.iface 33 (I 52))<|TH (.none Z) (RF Z)<|have fq:=K4 AI ae m l f g; ?_
 obtain rfl:=AK a
 refine OI (B:=B) aa<|⟨n,Sl a3 z a4,Ho (T3 (Mo [1] m) l f g) y,ak,fq,Gi⟩
 refine Sr<|Vr (.bool (d.op==6))<|Va (.bool (d.op==6))<|AA<|Cn a (λfr a=>?_) λfr a=>?_
 refine Sr<|Vm<|Vx (Fd DW Z)<|Vx (Ld B7 Z (Bc bg Z))<|have fs:=Me (Me (Me (Me a2 m) l) f) g;Bi a λko ft a=>Ca (Cg [ad,Sb d.name] Z) (QN bn n dh ft fs) ?_
 rintro _ fu ⟨fv,kp,rfl,a8,fw⟩
 refine Vm<|have fx:=Bs ak a8;have fy:=Ss AI (K4 AI ae m l f g) a8;have fz:=Ms (Ms (Ms (Ms (Ms cc m) l) f) g) a8;Bi a λdi f0 a=>?_
 obtain ⟨kq,kr,f1,f2⟩:=ca.mean_callth fv fu f0 dcd dcd fx fy fz fw
 refine Is (.none Z) Z Z (f1 (vs:=[Pt ah 0]) Z Z)<|Calls.mono f2 ?_
 rintro _ ks ⟨dj,kt,cn,dk,co,f3⟩
 obtain ⟨dl,dm,rfl⟩:=AW co
 obtain ⟨ku,f4,rfl⟩| ⟨o,f5,kv,rfl,kw,rfl,f6⟩:=Ey.split f3
 refine have a:=EG a f4; .inl ⟨_,Z,?_⟩
 obtain rfl:=AK a
 refine OI (B:=B) aa<|⟨dj,Sl dl di.2.1 dm,Ho (Tn (T4 (Mo [1] m) l f g a8) cn) y,dk,co,Gi⟩
 refine have a:=HS a f5; ?_
 obtain ⟨kx,bt,bu,rfl,cq,dn,dp⟩:=Dk f6
 obtain ⟨bv,bw,rfl⟩:=AW cq
 refine .inr ⟨_,Z,?_⟩
 refine have f7:=Y4 aw f g a8 cn;Eu<|Bf (vs:=[I o.plain.type_,Cx o.plain.num,.bool o.plain.bool,Sl bv o.plain.list bw,bt,bu]) (cs':=[I o.plain.type_,Cx o.plain.num,.bool o.plain.bool,Sl bv o.plain.list bw,bt,bu]) J0 Z Z Z Z (AQ Z (AQ Z (AQ Z (AQ (Fg cq) (AQ (MTh.one dn) (AQ (MTh.one dp) B6)))))) f7 dcd Z Z λky f8 a9=>AA<|AS ?_
 obtain rfl:=AK a
 refine O1 B aa Z (.agg KO Z Z (Bw f8))<|have f9:=Ss Kd.cpx cq a9;have ga:=Mt dn a9;have gb:=Mt dp a9;have gc:=Bs dk a9;have gd:=Ss AI co a9;⟨dj,Sl dl di.2.1 dm,Ho (T2 (T4 (Mo [1,21] m) l f g a8) cn a9) y,gc,gd,Fh ⟨[I o.plain.type_,Cx o.plain.num,.bool o.plain.bool,Sl bv o.plain.list bw,bt,bu],Z,(Cw (x:=o) f9 ga gb)⟩⟩
 refine Sr<|Vr (.bool (d.op==7))<|Va (.bool (d.op==7))<|AA<|Cn a (λge a=>?_) λge a=>?_
 refine AT<|BZ C7 (qs 0 13 (.one 13 (.one 14 .nil))) [14] [] n (by kernel_rfl) λgf al=>Qx e Z (v:=Pt ah 0) (λ_ _=>Mv Z)<|Qx e Z (λ_ _=>Nc Z)<|Qx e Z (λ_ _=>Fd ZY Z)<|have cr:=Bs ak al;Qx e Z (λ_ ⟨_,c⟩=>Ld Fr Z (Bc (Bs cr c) Z))<|Qx e Z (v:=Pt ah 0) (λ_ _=>Mv Z)<|Qx e Z (λ_ _=>Nc Z)<|Qx e Z (λ_ _=>Fz TN Z)<|Qx e Z (λ_ ⟨_,c⟩=>Ld PL Z (Bc (Bs cr c) Z))<|Qx e Z (λ_ _=>Fd DW Z)<|have dq:=Bs bg al;Qx e Z (λ_ ⟨_,c⟩=>Ld B7 Z (Bc (Bs dq c) Z))<|have dr:=Ms (Ms (Ms (Ms (Ms cc m) l) f) g) al;Qx e Z (v:=I (Cz av d.name)) (λ_ ⟨_,c⟩=>KU Ln Z Z (Ms dr c))<|Bi a λh gg a=>have ds:=Ss AI (K4 AI ae m l f g) al; ?_
 obtain ⟨gh,gi,kz,gj,gk,gl,gm,gn,ct⟩:=A8 (κ:=AI) ds gg
 replace ct:Ay n gf gh (gi+((Cz av d.name)).toNat*11) gj:=ct
 obtain ⟨k0,k1,rfl,dt,du⟩:=CL gn
 obtain ⟨dv,dw,rfl⟩:=AW dt
 obtain ⟨cu,cv,rfl⟩:=AW du
 refine Qx e Z (λ_ _=>Ix FA gk Z gl gm)<|Qx e Z (λ_ ⟨_,c⟩=>Lx Lm Z Z (Ay.part0 (Es ct c) [Sb h.name,Sl dv h.params dw,I h.type_,I h.body.op,Sb h.body.name,Sb h.body.tail,I h.body.type_,Cx h.body.num,Sl cu h.body.args cv,I h.body.at_,I h.at_] Z))<|A2 Z<|Bn Z (.none Z) Z Z<|Aa n 22 KZ Z λdx k2 go gp ac=>⟨⟨_,(Mo [] ac)⟩,?_⟩
 refine E3 dcd<|WY.one<|have gq:=Ss AZ dt ac;have gr:=Ss AG du ac;BS Z (.none Z) Z<|St LP gp Z Z Z Z λgs dy af=>WY.nil<|Sr<|Va (.pointer none)<|AA<|AT<|Sr<|Vx (Fd De Z)<|Vx (Ld EF Z (Bc dy Z))<|have dz:=Ss AZ gq af; ?_
 obtain ⟨k3,k4,gt⟩:=AW dz
 refine Vx (v:=I (h.params.length:Int)) (Ll Df gt)<|Vm<|AA<|Ah<|Bj (λay bf bh=>∃ax ba bi a5 ag,bf=Env.puts ax [(0,Pt ah 0),(2,ad),(4,Pt cd 0),(6,Pt cf 0),(7,Pt go 0),(8,a5),(75,Sl dv h.params dw),(76,I (h.params.length:Int)),(77,I ag)]/\GX ar z au a1 av d aj h ay bi ag=some bo/\AU [23,24,25,26] dx gs ba bh/\Ge 89 90 ba.F bh a5 bi) bn ?_ ?_
 exact ⟨_,dx,Nm.nil,.pointer none,0,Pu,a,(AU.refl [23,24,25,26] _ _),Ge.nil⟩
 rintro ay _ bh ⟨ax,ba,bi,a5,ag,rfl,a,ab,cw⟩
 rcases ay with _|ay
 exact A5 a
 refine have a:Jh ar z au a1 av d aj h (GX ar z au a1 av d aj h ay) bi ag=some bo:=a; ?_
 obtain ⟨k5,d0⟩:∃s,s=GX ar z au a1 av d aj h ay:=⟨_,rfl⟩
 rw [<-d0,Jh] at a
 refine Sr<|Vr (.bool (decide (ag< (h.params.length:Int))))<|AA<|AT<|Cn a (λgu a=>?_) λgu a=>?_
 refine AR<|AT<|Ah<|Sr<|Vm<|Bi a λbb gv a=>have gw:=Ss AZ dz ab; ?_
 obtain ⟨gx,gy,k6,gz,g0,g1,g2,g3,cx⟩:=A8 (κ:=AZ) gw gv
 replace cx:Ay ba bh gx (gy+ag.toNat*3) gz:=cx
 obtain rfl:=EK g3
 refine Vx (Ix Df g0 Z g1 g2)<|Vx (Lx TJ Z Z (Ay.part0 cx [Sb bb.name,I bb.type_,I bb.at_] Z))<|Ef<|Aa ba 23 Lo Z λcy k7 k8 g4 bj=>Va (I ag)<|Eu<|St TQ g4 Z Z Z Z λk9 g5 bk=>AA<|BZ C7 (qs 0 8 (.q 9 (.one 8 (.q 10 (.one 11 (.q 12 .nil)))))) [] [24,25] cy (by kernel_rfl) λd1 bc=>Qx e Z (λ_ _=>Fz Kl Z)<|have g6:=Bs g5 bc;Qx e Z (λ_ ⟨_,c⟩=>Ld B7 Z (Bc (Bs g6 c) Z))<|Qx e Z (λ_ _=>Fd BR Z)<|have g7:=Y2 (Y4 dq ac af ab bj) bk bc;Qx e Z (λ_ ⟨_,c⟩=>Ld CR Z (Bc (Bs g7 c) Z))<|Qx e Z (v:=I ag) (λ_ _=>Mv Z)<|Bi a λr g8 a=>have g9:=K3 AG (K4 AG (K4 AG bp m l f g) al ac af ab) bj bk bc; ?_
 obtain ⟨ha,hb,la,hc,hd,he,hf,hg,cz⟩:=A8 (κ:=AG) g9 g8
 replace cz:Ay cy d1 ha (hb+ag.toNat*7) hc:=cz
 obtain ⟨d3,d4,rfl,d2⟩:=E1 (Ae hg)
 refine Qx e Z (λ_ _=>Ix CG hd Z he hf)<|Qx e Z (λ_ ⟨_,c⟩=>Lx BA Z Z (Ay.part0 (Es cz c) [I r.op,Sb r.name,Sb r.tail,I r.type_,Cx r.num,Sl d3 r.args d4,I r.at_] Z))<|Qx e Z (v:=ad) (λ_ _=>Mv Z)<|Qx e Z (v:=a5) (λ_ _=>Mv Z)<|A2 Z<|Bi a λam hh a=>A4 Z (.none Z) Z Z (Cg [Ag [I r.op,Sb r.name,Sb r.tail,I r.type_,Cx r.num,Sl d3 r.args d4,I r.at_],ad] Z)<|Calls.mono (Mn cy d1 (kn0:=24) (kn1:=25) hh dcd dcd (AY (x:=r) d2) (Ge.one a2)) ?_
 rintro _ lc ⟨hi,d5,d6,ld,rfl,bl,hj,hk,hl⟩
 obtain ⟨hm,hn,rfl,d7⟩:=E1 (Ae hk)
 refine ⟨_,Z,⟨_,(Mo [24,25] bl)⟩,?_⟩
 refine Qx e Z (v:=Ag [Sb bb.name,.func (.func 90) #[] [Pt d5 0,Pt d6 0].toArray,a5]) (λ_ _=>CK (cs:=[Sb bb.name,.func (.func 90) #[] [Pt d5 0,Pt d6 0].toArray,a5]) [Sb ([]:Bts),.nilFunc,.pointer none] RO RM Z (.cons Z Z Z (.cons Z Z Z (.cons Z (Dq (Ge.one cw)) Z .nil))) Z Z)<|A2 Z<|Bn Z (.none Z) Z Z<|A0 hi 26 Z Z λlf lg d8 ho a6=>⟨⟨_,(Tn (Mo [24,25] bl) a6)⟩,?_⟩
 refine Qx e Z (v:=Pt d8 0) (λ_ _=>Run.assign Z)<|CA<|AM<|Vr (I (Wr (ag+1)))<|Vm<|AA<|have hp:=Ss AG d7 a6;have hq:=Bs hj a6;have hr:=Bs hl a6;have hs:=Me (Me (Me (Me (Me (Me (Me (Me (Me (Me (Me (Me (Me a2 m) l) f) g) al) ac) af) ab) bj) bk) bc) bl) a6; ?_
 obtain ⟨lh,c0,ht⟩:=MTh.layLater (D:=89) (ce:=[I am.op,Sb am.name,Sb am.tail,I am.type_,Cx am.num,Sl hm am.args hn,I am.at_]) hq hr dcd (AY (x:=am) hp) hs
 refine have hu:=Bs ho c0;have hw:=Me (Me (Me (Me (Me (Me cw bj) bk) bc) bl) a6) c0; ?_
 obtain ⟨hx,hy,hz⟩:=Ge.lay hu dcd ht hw
 exact ⟨ay,Nat.lt_succ_self ay,_,hx,(Nm.bind bb.name (Th.later am aj) bi),Pt d8 0,(Wr (ag+1)),Pu,(d0▸a),(T3 (T4 (Mo [23,24,25,26] ab) bj bk bc bl) a6 c0 hy),hz⟩
 refine BX<|Sr<|Vm<|Vx (Fd LO Z)<|have h0:=Bs dy ab;Vx (Lx BA Z Z (Bk.part h0 3 [I h.body.op,Sb h.body.name,Sb h.body.tail,I h.body.type_,Cx h.body.num,Sl cu h.body.args cv,I h.body.at_] Z))<|Vm<|have h1:=Y3 cr ac af ab;have h2:=K3 AI ds ac af ab;have h3:=Ms (Ms (Ms dr ac) af) ab;have h4:=K2 AG gr af ab;Bi a λd9 h5 a=>Is (.none Z) Z Z (Cg [Pt ah 0,Ag [I h.body.op,Sb h.body.name,Sb h.body.tail,I h.body.type_,Cx h.body.num,Sl cu h.body.args cv,I h.body.at_],a5] Z)<|Calls.mono (ca.mean_run_look ba bh h5 dcd dcd h1 h2 h3 (AY (x:=(AE.mk h.body.op h.body.name h.body.tail h.body.type_ h.body.num h.body.args h.body.at_)) h4) cw) ?_
 rintro _ li ⟨ea,lj,c1,eb,c2,h6⟩
 obtain ⟨ec,ed,rfl⟩:=AW c2
 obtain ⟨lk,h7,rfl⟩| ⟨p,h8,ll,rfl,lm,rfl,h9⟩:=Ey.split h6
 refine have a:=EG a h7; .inl ⟨_,Z,?_⟩
 obtain rfl:=AK a
 refine OI (B:=B) aa<|⟨ea,Sl ec d9.2.1 ed,Ho (T4 (T4 (Mo [1,22,23,24,25,26] m) l f g al) ac af ab c1) y,eb,c2,Gi⟩
 refine have a:=HS a h8; ?_
 obtain ⟨ln,bx,bz,rfl,c3,ee,ef⟩:=Dk h9
 obtain ⟨b0,b1,rfl⟩:=AW c3
 refine .inr ⟨_,Z,?_⟩
 refine have ia:=Y3 (Y4 aw f g al ac) af ab c1;Eu<|Bf (vs:=[I p.plain.type_,Cx p.plain.num,.bool p.plain.bool,Sl b0 p.plain.list b1,bx,bz]) (cs':=[I p.plain.type_,Cx p.plain.num,.bool p.plain.bool,Sl b0 p.plain.list b1,bx,bz]) J0 Z Z Z Z (AQ Z (AQ Z (AQ Z (AQ (Fg c3) (AQ (MTh.one ee) (AQ (MTh.one ef) B6)))))) ia dcd Z Z λlo ib bd=>AA<|AS ?_
 obtain rfl:=AK a
 refine O1 B aa Z (.agg KO Z Z (Bw ib))<|have ic:=Ss Kd.cpx c3 bd;have id:=Mt ee bd;have ie:=Mt ef bd;have ig:=Bs eb bd;have ih:=Ss AI c2 bd;⟨ea,Sl ec d9.2.1 ed,Ho (Tn (T4 (T4 (Mo [1,21,22,23,24,25,26] m) l f g al) ac af ab c1) bd) y,ig,ih,Fh ⟨[I p.plain.type_,Cx p.plain.num,.bool p.plain.bool,Sl b0 p.plain.list b1,bx,bz],Z,(Cw (x:=p) ic id ie)⟩⟩
 refine Sr<|Vr (.bool (d.op==18))<|Va (.bool (d.op==18))<|AA<|Cn a (λii a=>?_) λii a=>?_
 refine AT<|BZ C7 (qs 0 5 (qs 6 5 (.one 5 (.one 11 (.q 12 (.one 13 .nil)))))) [13] [27,28,29,30] n (by kernel_rfl) λc4 a7=>Qx e Z (λ_ _=>Fd BR Z)<|have eg:=Bs bg a7;Qx e Z (λ_ ⟨_,c⟩=>Ld CR Z (Bc (Bs eg c) Z))<|Bi a λu ij a=>have eh:=Ss AG (K4 AG bp m l f g) a7; ?_
 obtain ⟨ik,il,lp,im,io,ip,iq,ir,c5⟩:=A8 (κ:=AG) eh ij
 replace c5:Ay n c4 ik (il+(0:Int).toNat*7) im:=c5
 obtain ⟨ej,ek,rfl,ei⟩:=E1 (Ae ir)
 refine Qx e Z (λ_ _=>Ix CG io Z ip iq)<|Qx e Z (λ_ ⟨_,c⟩=>Lx BA Z Z (Ay.part0 (Es c5 c) [I u.op,Sb u.name,Sb u.tail,I u.type_,Cx u.num,Sl ej u.args ek,I u.at_] Z))<|Qx e Z (v:=ad) (λ_ _=>Mv Z)<|Qx e Z (λ_ _=>Fd BR Z)<|Qx e Z (λ_ ⟨_,c⟩=>Ld CR Z (Bc (Bs eg c) Z))<|Bi a λw it a=>?_
 obtain ⟨iu,iv,lr,iw,ix,iy,iz,i0,c6⟩:=A8 (κ:=AG) eh it
 replace c6:Ay n c4 iu (iv+(1:Int).toNat*7) iw:=c6
 obtain ⟨em,en,rfl,el⟩:=E1 (Ae i0)
 refine Qx e Z (λ_ _=>Ix CG ix Z iy iz)<|Qx e Z (λ_ ⟨_,c⟩=>Lx BA Z Z (Ay.part0 (Es c6 c) [I w.op,Sb w.name,Sb w.tail,I w.type_,Cx w.num,Sl em w.args en,I w.at_] Z))<|Qx e Z (v:=ad) (λ_ _=>Mv Z)<|A2 Z<|Bi a λan i1 a=>A4 Z (.none Z) Z Z (Cg [Ag [I u.op,Sb u.name,Sb u.tail,I u.type_,Cx u.num,Sl ej u.args ek,I u.at_],ad] Z)<|Calls.mono (Mn n c4 (kn0:=27) (kn1:=28) i1 dcd dcd (AY (x:=u) ei) (Ge.one a2)) ?_
 rintro _ i2 ⟨i3,b2,b3,lt,rfl,az,i4,i5,i6⟩
 obtain ⟨i7,i8,rfl,eo⟩:=E1 (Ae i5)
 refine ⟨_,Z,⟨_,(Mo [27,28,29,30] az)⟩,?_⟩
 refine A2 Z<|have i9:=Ss AG el az;Bi a λao ja a=>A4 Z (.none Z) Z Z (Cg [Ag [I w.op,Sb w.name,Sb w.tail,I w.type_,Cx w.num,Sl em w.args en,I w.at_],ad] Z)<|Calls.mono (Mn i3 i2 (kn0:=29) (kn1:=30) ja dcd dcd (AY (x:=w) i9) (Ge.one a2)) ?_
 rintro _ lv ⟨lw,b4,b5,lx,rfl,ap,jb,jc,jd⟩
 obtain ⟨je,jf,rfl,ep⟩:=E1 (Ae jc)
 refine ⟨_,Z,⟨_,(Tn (Mo [27,28,29,30] az) ap)⟩,?_⟩
 refine Qx e Z (v:=Ag [I 0,Cx (((0,0):Cpl)),.bool false,.slice none 0 0,.func (.func 90) #[] [Pt b2 0,Pt b3 0].toArray,.func (.func 90) #[] [Pt b4 0,Pt b5 0].toArray]) (λ_ _=>CK (cs:=[I 0,Cx (((0,0):Cpl)),.bool false,.slice none 0 0,.func (.func 90) #[] [Pt b2 0,Pt b3 0].toArray,.func (.func 90) #[] [Pt b4 0,Pt b5 0].toArray]) [I 0,Cx (((0,0):Cpl)),.bool false,.slice none 0 0,.nilFunc,.nilFunc] LR Nt Z (.cons Z Z Z (.cons Z Z Z .nil)) Z Z)<|E3 dcd<|WY.one<|have jg:=Bs (Y4 aw f g a7 az) ap;BS Z (.none Z) Z<|St J0 jg Z Z Z Z λlz jh ai=>WY.nil<|AS<|have ji:=K2 AG eo ap ai;have jj:=Y2 i4 ap ai;have jk:=Y2 i6 ap ai;have eq:=Me (Me (Me (Me (Me (Me (Me (Me a2 m) l) f) g) a7) az) ap) ai; ?_
 obtain ⟨l0,a0,jl⟩:=MTh.layLater (D:=89) (ce:=[I an.op,Sb an.name,Sb an.tail,I an.type_,Cx an.num,Sl i7 an.args i8,I an.at_]) jj jk dcd (AY (x:=an) ji) eq
 refine have jm:=K2 AG ep ai a0;have jn:=Y2 jb ai a0;have jo:=Y2 jd ai a0;have jp:=Me eq a0; ?_
 obtain ⟨jq,bm,jr⟩:=MTh.layLater (D:=89) (ce:=[I ao.op,Sb ao.name,Sb ao.tail,I ao.type_,Cx ao.num,Sl je ao.args jf,I ao.at_]) jn jo dcd (AY (x:=ao) jm) jp
 obtain rfl:=AK a
 refine have js:=Y2 jh a0 bm;O1 B aa Z (.agg KO Z Z (Bw js))<|have jt:=Mt jl bm;have ju:=Y2 (Y4 ak a7 az ap ai) a0 bm;have jv:=K2 AI (K4 AI (K4 AI ae m l f g) a7 az ap ai) a0 bm;⟨jq,Sl a3 z a4,Ho (Tn (T4 (T4 (Mo [1,21,27,28,29,30] m) l f g a7) az ap ai a0) bm) y,ju,jv,Fh ⟨[I 0,Cx (((0,0):Cpl)),.bool false,.slice none 0 0,.func (.func 90) #[] [Pt b2 0,Pt b3 0].toArray,.func (.func 90) #[] [Pt b4 0,Pt b5 0].toArray],Z,(Cw (x:=(Ax.mk (AD.mk 0 ((0,0):Cpl) false []) (Th.later an aj) (Th.later ao aj))) Ba jt jr)⟩⟩
 refine AR<|⟨_,n,Pu,a,Rf⟩
 rintro _ ch ⟨ax,ci,rfl,a,aq⟩
 rw [Lb] at a
 refine Sr<|Vm<|have jw:=Y4 de l f g aq;Vx (Lx BA Z Z (Bw jw))<|Vm<|have jx:=Bs ak aq;have jy:=Ss AI (K4 AI ae m l f g) aq;have jz:=Ms (Ms (Ms (Ms (Ms cc m) l) f) g) aq;have j0:=Ss AG (K4 AG bp m l f g) aq;have j1:=Me (Me (Me (Me (Me a2 m) l) f) g) aq;Bi a λer j2 a=>Is (.none Z) Z Z (Cg [Pt ah 0,Ag [I d.op,Sb d.name,Sb d.tail,I d.type_,Cx d.num,Sl db d.args dc,I d.at_],ad] Z)<|Calls.mono (ca.mean_run_parts ci ch j2 dcd dcd jx jy jz (AY (x:=d) j0) j1) ?_
 rintro _ l1 ⟨es,l2,c7,et,c8,j3⟩
 obtain ⟨eu,ew,rfl⟩:=AW c8
 obtain ⟨l3,j4,rfl⟩| ⟨q,j5,l4,rfl,l5,rfl,j6⟩:=Ey.split j3
 refine have a:=EG a j4; .inl ⟨_,Z,?_⟩
 obtain rfl:=AK a
 refine OI (B:=B) aa<|⟨es,Sl eu er.2.1 ew,Ho (Tn (T4 (Mo [1] m) l f g aq) c7) y,et,c8,Gi⟩
 refine have a:=HS a j5; ?_
 obtain ⟨l6,b6,b7,rfl,c9,ex,ey⟩:=Dk j6
 obtain ⟨b8,b9,rfl⟩:=AW c9
 refine .inr ⟨_,Z,?_⟩
 refine have j7:=Y4 aw f g aq c7;Eu<|Bf (vs:=[I q.plain.type_,Cx q.plain.num,.bool q.plain.bool,Sl b8 q.plain.list b9,b6,b7]) (cs':=[I q.plain.type_,Cx q.plain.num,.bool q.plain.bool,Sl b8 q.plain.list b9,b6,b7]) J0 Z Z Z Z (AQ Z (AQ Z (AQ Z (AQ (Fg c9) (AQ (MTh.one ex) (AQ (MTh.one ey) B6)))))) j7 dcd Z Z λl7 j8 be=>AA<|AS ?_
 obtain rfl:=AK a
 refine O1 B aa Z (.agg KO Z Z (Bw j8))<|have j9:=Ss Kd.cpx c9 be;have ka:=Mt ex be;have kb:=Mt ey be;have kc:=Bs et be;have kd:=Ss AI c8 be;⟨es,Sl eu er.2.1 ew,Ho (T2 (T4 (Mo [1,21] m) l f g aq) c7 be) y,kc,kd,Fh ⟨[I q.plain.type_,Cx q.plain.num,.bool q.plain.bool,Sl b8 q.plain.list b9,b6,b7],Z,(Cw (x:=q) j9 ka kb)⟩⟩
theorem Qw(d:Ad)(f:Nat)(m:Ad.Good d):mean_run_look.Spec (BH d f):=by
 intro e g a c ac ad ae af ag ah ai aj ak al am an n hnd hnz l o p q s
 refine Calls.mono (Qv d f m (recol (see [a,c]) e) g (E9 (Nat.le_of_ble_eq_true Z) e) n trivial trivial (BY l [a,c] (BU hnd hnz (i:=0) Z)) (EZ AI o [a,c]) (F2 p [a,c] (BU hnd hnz (i:=1) Z)) (Bd AG q [a,c]) (Ge.recol s [a,c])) ?_
 rintro ao ap ⟨w,y,z,aa,ab,en⟩
 exact ⟨glue [a,c] g e w,y,B8 z (E4 Z Z),EJ l aa dcd,HR AI ab,Ps en λr v ⟨u,hv,h⟩=>⟨u,hv,ED HA h⟩⟩
theorem RY(p:Ad)(ag:Nat)(ah:Ad.Good p)(l:Col)(ai:World)(q:∀b,l b<10):mean_later_1.At True True l ai (MQ p ag) 1 2:=by
 intro aj bf bg bh bi bj bk c bl bm bn bo ak bp d _ _ al r am an ao ap aq
 rw [MQ] at d
 obtain ⟨bq,br,rfl⟩:=AW r
 obtain ⟨u,w,rfl,s⟩:=E1 (Ae ao)
 refine Az Tryz.func90 Z Tryz.ntmps90 Z λB y bu=>Sr<|Ef<|Aa l 20 LR Z λar au bv av e=>AA<|Sr<|Vm<|have aw:=Es an e;Vx (Lx BA Z Z (Ay.part0 aw [I c.op,Sb c.name,Sb c.tail,I c.type_,Cx c.num,Sl u c.args w,I c.at_] Z))<|have ax:=Es ap e;Vx (Ld Zf Z (Ay.cell0 ax Z))<|have ay:=Bs al e;have az:=Ss AI r e;have a0:=Ms am e;have a1:=Ss AG s e;have a2:=Me aq e;Bi d λz a3 d=>Is (.none Z) Z Z (Cg [Pt aj 0,Ag [I c.op,Sb c.name,Sb c.tail,I c.type_,Cx c.num,Sl u c.args w,I c.at_],ak] Z)<|Calls.mono (ah.mean_run_look ar au a3 dcd dcd ay az a0 (AY (x:=c) a1) a2) ?_
 rintro _ bw ⟨aa,bx,m,ab,n,a4⟩
 obtain ⟨ac,ad,rfl⟩:=AW n
 obtain ⟨bz,a5,rfl⟩| ⟨a,a6,b0,rfl,b1,rfl,a7⟩:=Ey.split a4
 refine have d:=EG d a5; .inl ⟨_,Z,?_⟩
 obtain rfl:=AK d
 refine OI (B:=B) y<|⟨aa,Sl ac z.2.1 ad,Ho (Tn (Mo [1] e) m) q,ab,n,Gi⟩
 refine have d:=HS d a6; ?_
 obtain ⟨b2,s52,s54,rfl,o,ae,af⟩:=Dk a7
 obtain ⟨g,h,rfl⟩:=AW o
 refine .inr ⟨_,Z,?_⟩
 refine have a8:=Bs av m;Eu<|Bf (vs:=[I a.plain.type_,Cx a.plain.num,.bool a.plain.bool,Sl g a.plain.list h,s52,s54]) (cs':=[I a.plain.type_,Cx a.plain.num,.bool a.plain.bool,Sl g a.plain.list h,s52,s54]) J0 Z Z Z Z (AQ Z (AQ Z (AQ Z (AQ (Fg o) (AQ (MTh.one ae) (AQ (MTh.one af) B6)))))) a8 dcd Z Z λb3 a9 f=>AA<|AS ?_
 obtain rfl:=AK d
 refine O1 B y Z (.agg KO Z Z (Bw a9))<|have ba:=Ss Kd.cpx o f;have bb:=Mt ae f;have bc:=Mt af f;have bd:=Bs ab f;have be:=Ss AI n f;⟨aa,Sl ac z.2.1 ad,Ho (T2 (Mo [1,20] e) m f) q,bd,be,Fh ⟨[I a.plain.type_,Cx a.plain.num,.bool a.plain.bool,Sl g a.plain.list h,s52,s54],Z,(Cw (x:=a) ba bb bc)⟩⟩
theorem RZ(d:Ad)(f:Nat)(m:Ad.Good d):mean_later_1.Spec (MQ d f):=by
 intro e g a c ae af ag ah ai aj ak al am an ao ap aq ar n hnd hnz l o p q s w y
 refine Calls.mono (RY d f m (recol (see [a,c]) e) g (E9 (Nat.le_of_ble_eq_true Z) e) n trivial trivial (BY l [a,c] (BU hnd hnz (i:=0) Z)) (EZ AI o [a,c]) (F2 p [a,c] (BU hnd hnz (i:=1) Z)) (QJ q [a,c]) (Bd AG s [a,c]) (QJ w [a,c]) (Ge.recol y [a,c])) ?_
 rintro au av ⟨z,aa,ab,ac,ad,en⟩
 exact ⟨glue [a,c] g e z,aa,B8 ab (E4 Z Z),EJ l ac dcd,HR AI ad,Ps en λr v ⟨u,hv,h⟩=>⟨u,hv,ED HA h⟩⟩
theorem SR(f:Ad)(l:Nat)(m:Ad.Good f):mean_callth.Spec (Lw f l):=by
 intro c d n af ag o ah ai aj ak al am an ao a hnd hnz g h p q
 cases q with
 |nil=>rw [Lw] at a;exact A5 a
 |done hF hlt hat hp hh ht=>
 rw [Lw] at a
 refine Bi a λr hr a=>?_
 obtain rfl:=AK a
 obtain ⟨ap,rfl,s⟩:=A1 hp
 refine ⟨89,_,λhx hv=>ABn (caps:=[Pt _ 0]) hx hv,?_⟩
 refine Calls.mono (Tp c d hr ⟨hF,hlt,hat⟩ (show HA.rep c.F d _ _ from ⟨_,_,_,Z,s,hh,ht⟩) (v0:=Pt n 0) Z) ?_
 rintro _ aq ⟨u,ar,rfl,e,hu⟩
 exact ⟨u,o,AU.mono e (by simp),(Bk.step g e (by simp)),(Wy AI h e (by simp)),Fh ⟨_,Z,hu⟩⟩
 |later w y z aa ab ac ad ae=>
 refine ⟨90,_,λhx hv=>ABo (caps:=[Pt _ 0,Pt _ 0]) hx hv,?_⟩
 rw [Lw] at a
 exact m.mean_later_1 c d a hnd hnz g h p ⟨w,y,ab⟩ ac ⟨z,aa,ad⟩ ae
theorem QP(bv:Ad)(bm:Nat)(a3:Ad.Good bv)(dv:Col)(ir:World)(p:∀b,dv b<10):mean_run_parts.At True True dv ir (A9 bv bm) 1 2:=by
 intro ao it sn iu iv iw cl h so cm ap dw a _ _ b7 bw b8 ix bx
 rw [A9] at a
 obtain ⟨iy,iz,rfl⟩:=AW bw
 obtain ⟨i0,i1,rfl,bz⟩:=E1 (Ae ix)
 refine Az Tryz.func58 Z Tryz.ntmps58 Z λB q m=>Sr<|Ef<|A0 dv 20 Z Z λi2 sq i3 i4 d=>Ef<|Aa i2 21 LR Z λa6 bn fi bo c=>AA<|AT<|Sr<|Vx (Fz Cp Z)<|have aq:=Bs i4 c;Vx (Ld GC Z (Bc aq Z))<|AA<|Ah<|Sr<|Vr (.bool (h.op==19))<|Va (.bool (h.op==19))<|AA<|Cn a (λi5 a=>?_) λi5 a=>?_
 refine AT<|Sr<|Vm<|Vx (Fd BR Z)<|Vx (Ld CR Z (Bc aq Z))<|Bi a λac i6 a=>have dx:=K2 AG bz d c; ?_
 obtain ⟨i7,i8,sr,i9,ja,jb,jc,jd,dy⟩:=A8 (κ:=AG) dx i6
 replace dy:Ay a6 bn i7 (i8+(0:Int).toNat*7) i9:=dy
 obtain ⟨fk,fl,rfl,fj⟩:=E1 (Ae jd)
 refine Vx (Ix CG ja Z jb jc)<|Vx (Lx BA Z Z (Ay.part0 dy [I ac.op,Sb ac.name,Sb ac.tail,I ac.type_,Cx ac.num,Sl fk ac.args fl,I ac.at_] Z))<|Vm<|have je:=Y2 b7 d c;have jf:=K2 AI bw d c;have dz:=Ms (Ms b8 d) c;have d0:=Me (Me bx d) c;Bi a λjg jh a=>Is (.none Z) Z Z (Cg [Pt ao 0,Ag [I ac.op,Sb ac.name,Sb ac.tail,I ac.type_,Cx ac.num,Sl fk ac.args fl,I ac.at_],ap] Z)<|Calls.mono (a3.mean_run_look a6 bn jh dcd dcd je jf dz (AY (x:=ac) fj) d0) ?_
 rintro _ cn ⟨b9,st,ad,d1,co,ji⟩
 obtain ⟨jj,jk,rfl⟩:=AW co
 obtain ⟨su,jl,rfl⟩| ⟨ar,jm,sv,rfl,sw,rfl,jn⟩:=Ey.split ji
 refine have a:=EG a jl; .inl ⟨_,Z,?_⟩
 obtain rfl:=AK a
 refine OI (B:=B) q<|⟨b9,Sl jj jg.2.1 jk,Ho (T2 (Mo [1] d) c ad) p,d1,co,Gi⟩
 refine have a:=HS a jm; ?_
 obtain ⟨sx,jo,jp,rfl,jq,sy,sz⟩:=Dk jn
 obtain ⟨d2,d3,rfl⟩:=AW jq
 refine .inr ⟨_,Z,?_⟩
 refine Vx (v:=Ag [I ar.plain.type_,Cx ar.plain.num,.bool ar.plain.bool,Sl d2 ar.plain.list d3]) (QI (cs:=[I ar.plain.type_,Cx ar.plain.num,.bool ar.plain.bool,Sl d2 ar.plain.list d3,jo,jp]) TO Z)<|Vx (v:=.bool ar.plain.bool) (Kz (cs:=[I ar.plain.type_,Cx ar.plain.num,.bool ar.plain.bool,Sl d2 ar.plain.list d3]) Ze Z Z)<|AA<|Cn a (λjr a=>?_) λjr a=>?_
 refine Sr<|Vm<|Vx (Fd BR Z)<|have js:=Bs aq ad;Vx (Ld CR Z (Bc js Z))<|Bi a λae jt a=>have ju:=Ss AG dx ad; ?_
 obtain ⟨jv,o90,s0,jw,jx,jy,jz,j0,d4⟩:=A8 (κ:=AG) ju jt
 replace d4:Ay b9 cn jv (o90+(1:Int).toNat*7) jw:=d4
 obtain ⟨fn,fo,rfl,fm⟩:=E1 (Ae j0)
 refine Vx (Ix CG jx Z jy jz)<|Vx (Lx BA Z Z (Ay.part0 d4 [I ae.op,Sb ae.name,Sb ae.tail,I ae.type_,Cx ae.num,Sl fn ae.args fo,I ae.at_] Z))<|Vm<|have j1:=Ms dz ad;have j2:=Me d0 ad;Bi a λfp j3 a=>Is (.none Z) Z Z (Cg [Pt ao 0,Ag [I ae.op,Sb ae.name,Sb ae.tail,I ae.type_,Cx ae.num,Sl fn ae.args fo,I ae.at_],ap] Z)<|Calls.mono (a3.mean_run_look b9 cn j3 dcd dcd d1 co j1 (AY (x:=ae) fm) j2) ?_
 rintro _ s2 ⟨fq,s3,d5,fr,d6,j4⟩
 obtain ⟨fs,ft,rfl⟩:=AW d6
 obtain ⟨s4,j5,rfl⟩| ⟨r,j6,s5,rfl,s6,rfl,j7⟩:=Ey.split j4
 refine have a:=EG a j5; .inl ⟨_,Z,?_⟩
 obtain rfl:=AK a
 refine OI (B:=B) q<|⟨fq,Sl fs fp.2.1 ft,Ho (T3 (Mo [1] d) c ad d5) p,fr,d6,Gi⟩
 refine have a:=HS a j6; ?_
 obtain ⟨s7,cq,cr,rfl,d7,fu,fv⟩:=Dk j7
 obtain ⟨ct,cu,rfl⟩:=AW d7
 refine .inr ⟨_,Z,?_⟩
 refine have j8:=Y2 bo ad d5;Eu<|Bf (vs:=[I r.plain.type_,Cx r.plain.num,.bool r.plain.bool,Sl ct r.plain.list cu,cq,cr]) (cs':=[I r.plain.type_,Cx r.plain.num,.bool r.plain.bool,Sl ct r.plain.list cu,cq,cr]) J0 Z Z Z Z (AQ Z (AQ Z (AQ Z (AQ (Fg d7) (AQ (MTh.one fu) (AQ (MTh.one fv) B6)))))) j8 dcd Z Z λs8 j9 b0=>AA<|AS ?_
 obtain rfl:=AK a
 refine O1 B q Z (.agg KO Z Z (Bw j9))<|have ka:=Ss Kd.cpx d7 b0;have kb:=Mt fu b0;have kc:=Mt fv b0;have kd:=Bs fr b0;have ke:=Ss AI d6 b0;⟨fq,Sl fs fp.2.1 ft,Ho (T4 (Mo [1,21] d) c ad d5 b0) p,kd,ke,Fh ⟨[I r.plain.type_,Cx r.plain.num,.bool r.plain.bool,Sl ct r.plain.list cu,cq,cr],Z,(Cw (x:=r) ka kb kc)⟩⟩
 refine AR<|Sr<|Vm<|Vx (Fd BR Z)<|have kf:=Bs aq ad;Vx (Ld CR Z (Bc kf Z))<|Bi a λaf kg a=>have kh:=Ss AG dx ad; ?_
 obtain ⟨ki,kj,s9,kk,kl,km,kn,ko,d8⟩:=A8 (κ:=AG) kh kg
 replace d8:Ay b9 cn ki (kj+(2:Int).toNat*7) kk:=d8
 obtain ⟨fx,fy,rfl,fw⟩:=E1 (Ae ko)
 refine Vx (Ix CG kl Z km kn)<|Vx (Lx BA Z Z (Ay.part0 d8 [I af.op,Sb af.name,Sb af.tail,I af.type_,Cx af.num,Sl fx af.args fy,I af.at_] Z))<|Vm<|have kp:=Ms dz ad;have kq:=Me d0 ad;Bi a λfz kr a=>Is (.none Z) Z Z (Cg [Pt ao 0,Ag [I af.op,Sb af.name,Sb af.tail,I af.type_,Cx af.num,Sl fx af.args fy,I af.at_],ap] Z)<|Calls.mono (a3.mean_run_look b9 cn kr dcd dcd d1 co kp (AY (x:=af) fw) kq) ?_
 rintro _ tb ⟨f0,tc,d9,f1,ea,ks⟩
 obtain ⟨f2,f3,rfl⟩:=AW ea
 obtain ⟨td,kt,rfl⟩| ⟨u,ku,te,rfl,tf,rfl,kv⟩:=Ey.split ks
 refine have a:=EG a kt; .inl ⟨_,Z,?_⟩
 obtain rfl:=AK a
 refine OI (B:=B) q<|⟨f0,Sl f2 fz.2.1 f3,Ho (T3 (Mo [1] d) c ad d9) p,f1,ea,Gi⟩
 refine have a:=HS a ku; ?_
 obtain ⟨tg,cv,cw,rfl,eb,f4,f5⟩:=Dk kv
 obtain ⟨cx,cy,rfl⟩:=AW eb
 refine .inr ⟨_,Z,?_⟩
 refine have kw:=Y2 bo ad d9;Eu<|Bf (vs:=[I u.plain.type_,Cx u.plain.num,.bool u.plain.bool,Sl cx u.plain.list cy,cv,cw]) (cs':=[I u.plain.type_,Cx u.plain.num,.bool u.plain.bool,Sl cx u.plain.list cy,cv,cw]) J0 Z Z Z Z (AQ Z (AQ Z (AQ Z (AQ (Fg eb) (AQ (MTh.one f4) (AQ (MTh.one f5) B6)))))) kw dcd Z Z λth kx b1=>AA<|AS ?_
 obtain rfl:=AK a
 refine O1 B q Z (.agg KO Z Z (Bw kx))<|have ky:=Ss Kd.cpx eb b1;have kz:=Mt f4 b1;have k0:=Mt f5 b1;have k1:=Bs f1 b1;have k2:=Ss AI ea b1;⟨f0,Sl f2 fz.2.1 f3,Ho (T4 (Mo [1,21] d) c ad d9 b1) p,k1,k2,Fh ⟨[I u.plain.type_,Cx u.plain.num,.bool u.plain.bool,Sl cx u.plain.list cy,cv,cw],Z,(Cw (x:=u) ky kz k0)⟩⟩
 refine Sr<|Vr (.bool (h.op==20))<|Va (.bool (h.op==20))<|AA<|Cn a (λk3 a=>?_) λk3 a=>?_
 refine Sr<|Vm<|Vx (Fd BR Z)<|Vx (Ld CR Z (Bc aq Z))<|Bi a λag k4 a=>have ec:=K2 AG bz d c; ?_
 obtain ⟨k5,k6,ti,k7,k8,k9,la,lb,ed⟩:=A8 (κ:=AG) ec k4
 replace ed:Ay a6 bn k5 (k6+(0:Int).toNat*7) k7:=ed
 obtain ⟨f7,f8,rfl,f6⟩:=E1 (Ae lb)
 refine Vx (Ix CG k8 Z k9 la)<|Vx (Lx BA Z Z (Ay.part0 ed [I ag.op,Sb ag.name,Sb ag.tail,I ag.type_,Cx ag.num,Sl f7 ag.args f8,I ag.at_] Z))<|Vm<|have lc:=Y2 b7 d c;have ld:=K2 AI bw d c;have ee:=Ms (Ms b8 d) c;have cz:=Me (Me bx d) c;Bi a λle lf a=>Is (.none Z) Z Z (Cg [Pt ao 0,Ag [I ag.op,Sb ag.name,Sb ag.tail,I ag.type_,Cx ag.num,Sl f7 ag.args f8,I ag.at_],ap] Z)<|Calls.mono (a3.mean_run_look a6 bn lf dcd dcd lc ld ee (AY (x:=ag) f6) cz) ?_
 rintro _ tk ⟨f9,tl,ah,ef,c0,lg⟩
 obtain ⟨lh,li,rfl⟩:=AW c0
 obtain ⟨tm,lj,rfl⟩| ⟨a7,lk,tn,rfl,to,rfl,ll⟩:=Ey.split lg
 refine have a:=EG a lj; .inl ⟨_,Z,?_⟩
 obtain rfl:=AK a
 refine OI (B:=B) q<|⟨f9,Sl lh le.2.1 li,Ho (T2 (Mo [1] d) c ah) p,ef,c0,Gi⟩
 refine have a:=HS a lk; ?_
 obtain ⟨tp,eg,c1,rfl,ga,gb,eh⟩:=Dk ll
 obtain ⟨gc,gd,rfl⟩:=AW ga
 refine .inr ⟨_,Z,?_⟩
 refine Ef<|Aa f9 22 LR Z λei tq tr lm n=>have ln:=Ss Kd.cpx ga n;Eu<|Bf (vs:=[I a7.plain.type_,Cx a7.plain.num,.bool a7.plain.bool,Sl gc a7.plain.list gd,eg,c1]) (cs':=[I a7.plain.type_,Cx a7.plain.num,.bool a7.plain.bool,Sl gc a7.plain.list gd,eg,c1]) J0 Z Z Z Z (AQ Z (AQ Z (AQ Z (AQ (Fg ln) (AQ (MTh.one gb) (AQ (MTh.one eh) B6)))))) lm dcd Z Z λge ej o=>AA<|AT<|Sr<|Vx (Fd PJ Z)<|Vx (Ld PM Z (Bc ej Z))<|have ek:=Mt (Mt gb n) o;Vx (v:=.bool (Th.isNil a7.head)) (Rr V2 Z Z ek)<|AA<|Cn a (λlo a=>?_) λlo a=>?_
 refine Sr<|Vm<|Vx (Fd BR Z)<|have lp:=Y3 aq ah n o;Vx (Ld CR Z (Bc lp Z))<|Bi a λai lq a=>have lr:=K3 AG ec ah n o; ?_
 obtain ⟨ls,lt,ts,lu,lv,lw,lx,ly,el⟩:=A8 (κ:=AG) lr lq
 replace el:Ay ei ge ls (lt+(1:Int).toNat*7) lu:=el
 obtain ⟨gg,gh,rfl,gf⟩:=E1 (Ae ly)
 refine Vx (Ix CG lv Z lw lx)<|Vx (Lx BA Z Z (Ay.part0 el [I ai.op,Sb ai.name,Sb ai.tail,I ai.type_,Cx ai.num,Sl gg ai.args gh,I ai.at_] Z))<|Vm<|have lz:=Y2 ef n o;have l0:=K2 AI c0 n o;have l1:=Ms (Ms (Ms ee ah) n) o;have l2:=Me (Me (Me cz ah) n) o;Bi a λgi l3 a=>Is (.none Z) Z Z (Cg [Pt ao 0,Ag [I ai.op,Sb ai.name,Sb ai.tail,I ai.type_,Cx ai.num,Sl gg ai.args gh,I ai.at_],ap] Z)<|Calls.mono (a3.mean_run_look ei ge l3 dcd dcd lz l0 l1 (AY (x:=ai) gf) l2) ?_
 rintro _ tu ⟨gj,tw,em,gk,en,l4⟩
 obtain ⟨gl,gm,rfl⟩:=AW en
 obtain ⟨tx,l5,rfl⟩| ⟨w,l6,ty,rfl,tz,rfl,l7⟩:=Ey.split l4
 refine have a:=EG a l5; .inl ⟨_,Z,?_⟩
 obtain rfl:=AK a
 refine OI (B:=B) q<|⟨gj,Sl gl gi.2.1 gm,Ho (Tn (T4 (Mo [1,22] d) c ah n o) em) p,gk,en,Gi⟩
 refine have a:=HS a l6; ?_
 obtain ⟨t0,c2,c3,rfl,eo,gn,go⟩:=Dk l7
 obtain ⟨c4,c5,rfl⟩:=AW eo
 refine .inr ⟨_,Z,?_⟩
 refine have l8:=Y4 bo ah n o em;Eu<|Bf (vs:=[I w.plain.type_,Cx w.plain.num,.bool w.plain.bool,Sl c4 w.plain.list c5,c2,c3]) (cs':=[I w.plain.type_,Cx w.plain.num,.bool w.plain.bool,Sl c4 w.plain.list c5,c2,c3]) J0 Z Z Z Z (AQ Z (AQ Z (AQ Z (AQ (Fg eo) (AQ (MTh.one gn) (AQ (MTh.one go) B6)))))) l8 dcd Z Z λt1 l9 b2=>AA<|AS ?_
 obtain rfl:=AK a
 refine O1 B q Z (.agg KO Z Z (Bw l9))<|have ma:=Ss Kd.cpx eo b2;have mb:=Mt gn b2;have mc:=Mt go b2;have md:=Bs gk b2;have me:=Ss AI en b2;⟨gj,Sl gl gi.2.1 gm,Ho (T2 (T4 (Mo [1,21,22] d) c ah n o) em b2) p,md,me,Fh ⟨[I w.plain.type_,Cx w.plain.num,.bool w.plain.bool,Sl c4 w.plain.list c5,c2,c3],Z,(Cw (x:=w) ma mb mc)⟩⟩
 refine AR<|Sr<|Vx (Fd DW Z)<|have gp:=Y3 aq ah n o;Vx (Ld B7 Z (Bc gp Z))<|Vx (Fd PJ Z)<|Vx (Ld PM Z (Bc ej Z))<|Vm<|Vx (v:=Ag [Sb h.name,eg,ap]) (Bp RO RM Z (.cons Z Z Z (.cons Z (Dq (MTh.one ek)) Z (.cons Z (Dq (Ge.one cz)) Z .nil))))<|Ef<|A0 ei 23 Z Z λep t2 c6 mf ax=>Va (Pt c6 0)<|AA<|AT<|BZ C7 (qs 0 11 (.one 11 (.one 12 (.one 13 .nil)))) [13] [1,23,24] ep (by kernel_rfl) λmg au=>Qx m Z (v:=Pt ao 0) (λ_ _=>Mv Z)<|Qx m Z (λ_ _=>Fd BR Z)<|have gq:=Y2 gp ax au;Qx m Z (λ_ ⟨_,f⟩=>Ld CR Z (Bc (Bs gq f) Z))<|Bi a λaj mh a=>have mi:=Ss AG (K4 AG ec ah n o ax) au; ?_
 obtain ⟨mj,mk,t3,ml,mm,mn,mo,mp,eq⟩:=A8 (κ:=AG) mi mh
 replace eq:Ay ep mg mj (mk+(2:Int).toNat*7) ml:=eq
 obtain ⟨gs,gt,rfl,gr⟩:=E1 (Ae mp)
 refine Qx m Z (λ_ _=>Ix CG mm Z mn mo)<|Qx m Z (λ_ ⟨_,f⟩=>Lx BA Z Z (Ay.part0 (Es eq f) [I aj.op,Sb aj.name,Sb aj.tail,I aj.type_,Cx aj.num,Sl gs aj.args gt,I aj.at_] Z))<|Qx m Z (λ_ _=>Fd MW Z)<|Qx m Z (λ_ ⟨_,f⟩=>Ld B7 Z (Bc (Bs gq f) Z))<|Qx m Z (λ_ _=>Fd XK Z)<|have mq:=Y2 ej ax au;Qx m Z (λ_ ⟨_,f⟩=>Ld PM Z (Bc (Bs mq f) Z))<|Qx m Z (v:=Pt c6 0) (λ_ _=>Mv Z)<|Qx m Z (v:=Ag [Sb h.tail,c1,Pt c6 0]) (λ_ _=>CK (cs:=[Sb h.tail,c1,Pt c6 0]) [Sb ([]:Bts),.nilFunc,.pointer none] RO RM Z (.cons Z Z Z (.cons Z (Dq (MTh.one eh)) Z (.cons Z Z Z .nil))) Z Z)<|A2 Z<|Bn Z (.none Z) Z Z<|A0 ep 24 Z Z λt5 mr ms mt av=>⟨⟨_,(Mo [1,23,24] av)⟩,?_⟩
 refine Vu Z<|have mu:=Y2 mf au av;have mv:=Mt (Mt (Mt ek ax) au) av;have mw:=Me (Me (Me (Me (Me (Me cz ah) n) o) ax) au) av; ?_
 obtain ⟨t6,a4,mx⟩:=Ge.lay mu dcd mv mw
 refine have my:=Bs mt a4;have mz:=Mt (Mt (Mt (Mt (Mt (Mt eh n) o) ax) au) av) a4; ?_
 obtain ⟨m0,bc,m1⟩:=Ge.lay my dcd mz mx
 refine have m2:=Y3 (Y4 ef n o ax au) av a4 bc;have m3:=K3 AI (K4 AI c0 n o ax au) av a4 bc;have m4:=Ms (Ms (Ms (Ms (Ms (Ms (Ms (Ms ee ah) n) o) ax) au) av) a4) bc;have m5:=K3 AG gr av a4 bc;Bi a λgu m6 a=>VQ.callp Z (.none Z) Z Z (Cg [Pt ao 0,Ag [I aj.op,Sb aj.name,Sb aj.tail,I aj.type_,Cx aj.num,Sl gs aj.args gt,I aj.at_],Pt ms 0] Z)<|Calls.mono (a3.mean_run_look m0 mr m6 dcd dcd m2 m3 m4 (AY (x:=aj) m5) m1) ?_
 rintro _ t7 ⟨gv,t8,c7,gw,er,m7⟩
 obtain ⟨gx,gy,rfl⟩:=AW er
 obtain ⟨t9,m8,rfl⟩| ⟨y,m9,ua,rfl,ub,rfl,na⟩:=Ey.split m7
 refine have a:=EG a m8; .inl ⟨_,Z,?_⟩
 obtain rfl:=AK a
 refine OI (B:=B) q<|⟨gv,Sl gx gu.2.1 gy,Ho (T2 (T4 (T4 (Mo [1,22,23,24] d) c ah n o) ax au av a4) bc c7) p,gw,er,Gi⟩
 refine have a:=HS a m9; ?_
 obtain ⟨uc,c8,c9,rfl,es,gz,g0⟩:=Dk na
 obtain ⟨da,db,rfl⟩:=AW es
 refine .inr ⟨_,Z,⟨_,(T3 (Mo [1,23,24] av) a4 bc c7)⟩,?_⟩
 refine E3 dcd<|WY.one<|have nb:=Bs (Y4 (Y4 bo ah n o ax) au av a4 bc) c7;BS Z (.none Z) Z<|Bf (vs:=[I y.plain.type_,Cx y.plain.num,.bool y.plain.bool,Sl da y.plain.list db,c8,c9]) (cs':=[I y.plain.type_,Cx y.plain.num,.bool y.plain.bool,Sl da y.plain.list db,c8,c9]) J0 Z Z Z Z (AQ Z (AQ Z (AQ Z (AQ (Fg es) (AQ (MTh.one gz) (AQ (MTh.one g0) B6)))))) nb dcd Z Z λud nc b3=>WY.nil<|AS ?_
 obtain rfl:=AK a
 refine O1 B q Z (.agg KO Z Z (Bw nc))<|have nd:=Ss Kd.cpx es b3;have ne:=Mt gz b3;have nf:=Mt g0 b3;have ng:=Bs gw b3;have nh:=Ss AI er b3;⟨gv,Sl gx gu.2.1 gy,Ho (T3 (T4 (T4 (Mo [1,21,22,23,24] d) c ah n o) ax au av a4) bc c7 b3) p,ng,nh,Fh ⟨[I y.plain.type_,Cx y.plain.num,.bool y.plain.bool,Sl da y.plain.list db,c8,c9],Z,(Cw (x:=y) nd ne nf)⟩⟩
 refine Sr<|Vr (.bool (h.op==21))<|Va (.bool (h.op==21))<|AA<|Cn a (λni a=>?_) λni a=>?_
 refine Sr<|Vx (Fd DW Z)<|Vx (Ld B7 Z (Bc aq Z))<|Vm<|Vx (v:=Ag [Sb h.name,.nilFunc,ap]) (Bp RO RM Z (.cons Z Z Z (.cons Z (Dq (Ge.one bx)) Z .nil)))<|Ef<|A0 a6 25 Z Z λg1 g2 et nj a8=>Va (Pt et 0)<|AA<|Sr<|Vm<|Vx (Fd BR Z)<|have g3:=Bs aq a8;Vx (Ld CR Z (Bc g3 Z))<|Bi a λak nk a=>have g4:=K3 AG bz d c a8; ?_
 obtain ⟨nl,nm,ue,np,nq,nr,ns,nt,eu⟩:=A8 (κ:=AG) g4 nk
 replace eu:Ay g1 g2 nl (nm+(0:Int).toNat*7) np:=eu
 obtain ⟨g6,g7,rfl,g5⟩:=E1 (Ae nt)
 refine Vx (Ix CG nq Z nr ns)<|Vx (Lx BA Z Z (Ay.part0 eu [I ak.op,Sb ak.name,Sb ak.tail,I ak.type_,Cx ak.num,Sl g6 ak.args g7,I ak.at_] Z))<|Vm<|Bi a λbd nu a=>Ca (Cg [Ag [I ak.op,Sb ak.name,Sb ak.tail,I ak.type_,Cx ak.num,Sl g6 ak.args g7,I ak.at_],Pt et 0] Z) (Mn g1 g2 (kn0:=26) (kn1:=27) nu dcd dcd (AY (x:=ak) g5) Z) ?_
 rintro _ ug ⟨nv,uh,ui,uj,rfl,a5,nw,nx,ny⟩
 obtain ⟨n0,n1,rfl,g8⟩:=E1 (Ae nx)
 refine Vx (Nc Z)<|Vx (Fd XJ Z)<|have n2:=Bs nj a5;Eu<|St ABu n2 Z Z Z Z λg9 n4 ay=>AA<|Sr<|Vm<|Vx (Fd BR Z)<|have n5:=Y2 g3 a5 ay;Vx (Ld CR Z (Bc n5 Z))<|Bi a λal n6 a=>have n7:=K2 AG g4 a5 ay; ?_
 obtain ⟨n8,oa,ul,ob,oc,od,oe,og,ew⟩:=A8 (κ:=AG) n7 n6
 replace ew:Ay nv g9 n8 (oa+(1:Int).toNat*7) ob:=ew
 obtain ⟨hb,hc,rfl,ha⟩:=E1 (Ae og)
 refine Vx (Ix CG oc Z od oe)<|Vx (Lx BA Z Z (Ay.part0 ew [I al.op,Sb al.name,Sb al.tail,I al.type_,Cx al.num,Sl hb al.args hc,I al.at_] Z))<|Vm<|have oh:=Ss AG g8 ay;have oi:=Bs nw ay;have oj:=Bs ny ay;have ok:=Me (Me (Me (Me (Me bx d) c) a8) a5) ay; ?_
 obtain ⟨ol,bp,om⟩:=Ge.layRec (D:=89) (ce:=[I bd.op,Sb bd.name,Sb bd.tail,I bd.type_,Cx bd.num,Sl n0 bd.args n1,I bd.at_]) n4 oi oj dcd (AY (x:=bd) oh) ok
 refine have oo:=Y2 (Y4 b7 d c a8 a5) ay bp;have op:=K2 AI (K4 AI bw d c a8 a5) ay bp;have oq:=Ms (Ms (Ms (Ms (Ms (Ms b8 d) c) a8) a5) ay) bp;have os:=Ss AG ha bp;Bi a λhd ot a=>Is (.none Z) Z Z (Cg [Pt ao 0,Ag [I al.op,Sb al.name,Sb al.tail,I al.type_,Cx al.num,Sl hb al.args hc,I al.at_],Pt et 0] Z)<|Calls.mono (a3.mean_run_look ol g9 ot dcd dcd oo op oq (AY (x:=al) os) om) ?_
 rintro _ un ⟨he,uo,ex,hf,ey,ou⟩
 obtain ⟨hg,hh,rfl⟩:=AW ey
 obtain ⟨up,ov,rfl⟩| ⟨z,ow,uq,rfl,ur,rfl,ox⟩:=Ey.split ou
 refine have a:=EG a ov; .inl ⟨_,Z,?_⟩
 obtain rfl:=AK a
 refine OI (B:=B) q<|⟨he,Sl hg hd.2.1 hh,Ho (T2 (T4 (Mo [1,25,26,27] d) c a8 a5 ay) bp ex) p,hf,ey,Gi⟩
 refine have a:=HS a ow; ?_
 obtain ⟨us,dc,de,rfl,ez,hi,hj⟩:=Dk ox
 obtain ⟨df,dg,rfl⟩:=AW ez
 refine .inr ⟨_,Z,?_⟩
 refine have oy:=Bs (Y4 bo a8 a5 ay bp) ex;Eu<|Bf (vs:=[I z.plain.type_,Cx z.plain.num,.bool z.plain.bool,Sl df z.plain.list dg,dc,de]) (cs':=[I z.plain.type_,Cx z.plain.num,.bool z.plain.bool,Sl df z.plain.list dg,dc,de]) J0 Z Z Z Z (AQ Z (AQ Z (AQ Z (AQ (Fg ez) (AQ (MTh.one hi) (AQ (MTh.one hj) B6)))))) oy dcd Z Z λut oz b4=>AA<|AS ?_
 obtain rfl:=AK a
 refine O1 B q Z (.agg KO Z Z (Bw oz))<|have o0:=Ss Kd.cpx ez b4;have o1:=Mt hi b4;have o2:=Mt hj b4;have o6:=Bs hf b4;have o7:=Ss AI ey b4;⟨he,Sl hg hd.2.1 hh,Ho (T3 (T4 (Mo [1,21,25,26,27] d) c a8 a5 ay) bp ex b4) p,o6,o7,Fh ⟨[I z.plain.type_,Cx z.plain.num,.bool z.plain.bool,Sl df z.plain.list dg,dc,de],Z,(Cw (x:=z) o0 o1 o2)⟩⟩
 refine Sr<|Vr (.bool (h.op==22))<|Va (.bool (h.op==22))<|AA<|Cn a (λo8 a=>?_) λo8 a=>?_
 refine Sr<|Vm<|Vx (Fd BR Z)<|Vx (Ld CR Z (Bc aq Z))<|Bi a λam pa a=>have hk:=K2 AG bz d c; ?_
 obtain ⟨pb,pc,uu,pd,pe,pf,pg,ph,e0⟩:=A8 (κ:=AG) hk pa
 replace e0:Ay a6 bn pb (pc+(0:Int).toNat*7) pd:=e0
 obtain ⟨hm,hn,rfl,hl⟩:=E1 (Ae ph)
 refine Vx (Ix CG pe Z pf pg)<|Vx (Lx BA Z Z (Ay.part0 e0 [I am.op,Sb am.name,Sb am.tail,I am.type_,Cx am.num,Sl hm am.args hn,I am.at_] Z))<|Vm<|have pi:=Y2 b7 d c;have pj:=K2 AI bw d c;have ho:=Ms (Ms b8 d) c;have e1:=Me (Me bx d) c;Bi a λpk pl a=>Is (.none Z) Z Z (Cg [Pt ao 0,Ag [I am.op,Sb am.name,Sb am.tail,I am.type_,Cx am.num,Sl hm am.args hn,I am.at_],ap] Z)<|Calls.mono (a3.mean_run_look a6 bn pl dcd dcd pi pj ho (AY (x:=am) hl) e1) ?_
 rintro _ uw ⟨hp,ux,be,hq,e2,pm⟩
 obtain ⟨pn,po,rfl⟩:=AW e2
 obtain ⟨uy,pp,rfl⟩| ⟨aa,pq,uz,rfl,u0,rfl,pr⟩:=Ey.split pm
 refine have a:=EG a pp; .inl ⟨_,Z,?_⟩
 obtain rfl:=AK a
 refine OI (B:=B) q<|⟨hp,Sl pn pk.2.1 po,Ho (T2 (Mo [1] d) c be) p,hq,e2,Gi⟩
 refine have a:=HS a pq; ?_
 obtain ⟨u2,dh,di,rfl,hr,hs,ht⟩:=Dk pr
 obtain ⟨dj,dk,rfl⟩:=AW hr
 refine .inr ⟨_,Z,?_⟩
 refine Ef<|Aa hp 28 LR Z λe3 u3 u4 ps az=>have hu:=Ss Kd.cpx hr az;Eu<|Bf (vs:=[I aa.plain.type_,Cx aa.plain.num,.bool aa.plain.bool,Sl dj aa.plain.list dk,dh,di]) (cs':=[I aa.plain.type_,Cx aa.plain.num,.bool aa.plain.bool,Sl dj aa.plain.list dk,dh,di]) J0 Z Z Z Z (AQ Z (AQ Z (AQ Z (AQ (Fg hu) (AQ (MTh.one hs) (AQ (MTh.one ht) B6)))))) ps dcd Z Z λu5 pt a0=>AA<|AT<|BZ C7 (qs 0 8 (.q 9 (.one 8 (.q 10 (.one 11 (.one 12 (.one 13 .nil))))))) [13] [1,29] e3 (by kernel_rfl) λhw aw=>Qx m Z (v:=Pt ao 0) (λ_ _=>Mv Z)<|Qx m Z (λ_ _=>Fd BR Z)<|have hx:=Y4 aq be az a0 aw;Qx m Z (λ_ ⟨_,f⟩=>Ld CR Z (Bc (Bs hx f) Z))<|Bi a λan pu a=>have pv:=K4 AG hk be az a0 aw; ?_
 obtain ⟨pw,px,u6,py,pz,p0,p1,p2,e4⟩:=A8 (κ:=AG) pv pu
 replace e4:Ay e3 hw pw (px+(1:Int).toNat*7) py:=e4
 obtain ⟨hz,h0,rfl,hy⟩:=E1 (Ae p2)
 refine Qx m Z (λ_ _=>Ix CG pz Z p0 p1)<|Qx m Z (λ_ ⟨_,f⟩=>Lx BA Z Z (Ay.part0 (Es e4 f) [I an.op,Sb an.name,Sb an.tail,I an.type_,Cx an.num,Sl hz an.args h0,I an.at_] Z))<|Qx m Z (λ_ _=>Fd DW Z)<|Qx m Z (λ_ ⟨_,f⟩=>Ld B7 Z (Bc (Bs hx f) Z))<|have p3:=Bs pt aw;Qx m Z (λ_ ⟨_,f⟩=>Lx KO Z Z (Bw (Bs p3 f)))<|Qx m Z (v:=ap) (λ_ _=>Mv Z)<|A2 Z<|have p4:=K2 Kd.cpx hu a0 aw;have p5:=Mt (Mt (Mt hs az) a0) aw;have p6:=Mt (Mt (Mt ht az) a0) aw;Bi a λu8 p7 a=>A4 Z (.none Z) Z Z (Cg [Ag [I aa.plain.type_,Cx aa.plain.num,.bool aa.plain.bool,Sl dj aa.plain.list dk,dh,di]] Z)<|Calls.mono (MZ e3 hw p7 (Cw (x:=aa) p4 p5 p6)) ?_
 rintro _ va ⟨p8,h1,rfl,a1,h2⟩
 refine ⟨_,Z,⟨_,(Mo [1,29] a1)⟩,?_⟩
 refine Qx m Z (v:=Ag [Sb h.name,h1,ap]) (λ_ _=>CK (cs:=[Sb h.name,h1,ap]) [Sb ([]:Bts),.nilFunc,.pointer none] RO RM Z (.cons Z Z Z (.cons Z (Dq (MTh.one h2)) Z (.cons Z (Dq (Ge.one e1)) Z .nil))) Z Z)<|A2 Z<|Bn Z (.none Z) Z Z<|A0 p8 29 Z Z λvb p9 qa qb a2=>⟨⟨_,(Tn (Mo [1,29] a1) a2)⟩,?_⟩
 refine Vu Z<|have qc:=Mt h2 a2;have qd:=Me (Me (Me (Me (Me (Me e1 be) az) a0) aw) a1) a2; ?_
 obtain ⟨qe,bf,qf⟩:=Ge.lay qb dcd qc qd
 refine have qg:=Y2 (Y4 hq az a0 aw a1) a2 bf;have qh:=K2 AI (K4 AI e2 az a0 aw a1) a2 bf;have qi:=Ms (Ms (Ms (Ms (Ms (Ms (Ms ho be) az) a0) aw) a1) a2) bf;have qj:=K3 AG hy a1 a2 bf;Bi a λh3 qk a=>VQ.callp Z (.none Z) Z Z (Cg [Pt ao 0,Ag [I an.op,Sb an.name,Sb an.tail,I an.type_,Cx an.num,Sl hz an.args h0,I an.at_],Pt qa 0] Z)<|Calls.mono (a3.mean_run_look qe p9 qk dcd dcd qg qh qi (AY (x:=an) qj) qf) ?_
 rintro _ vc ⟨h4,vd,dl,h5,e5,ql⟩
 obtain ⟨h6,h7,rfl⟩:=AW e5
 obtain ⟨ve,qm,rfl⟩| ⟨ab,qn,vf,rfl,vg,rfl,qo⟩:=Ey.split ql
 refine have a:=EG a qm; .inl ⟨_,Z,?_⟩
 obtain rfl:=AK a
 refine OI (B:=B) q<|⟨h4,Sl h6 h3.2.1 h7,Ho (Tn (T4 (T4 (Mo [1,28,29] d) c be az a0) aw a1 a2 bf) dl) p,h5,e5,Gi⟩
 refine have a:=HS a qn; ?_
 obtain ⟨vh,dm,dn,rfl,e6,h8,h9⟩:=Dk qo
 obtain ⟨dp,dq,rfl⟩:=AW e6
 refine .inr ⟨_,Z,⟨_,(T3 (Mo [1,29] a1) a2 bf dl)⟩,?_⟩
 refine E3 dcd<|WY.one<|have qp:=Y4 (Y4 bo be az a0 aw) a1 a2 bf dl;BS Z (.none Z) Z<|Bf (vs:=[I ab.plain.type_,Cx ab.plain.num,.bool ab.plain.bool,Sl dp ab.plain.list dq,dm,dn]) (cs':=[I ab.plain.type_,Cx ab.plain.num,.bool ab.plain.bool,Sl dp ab.plain.list dq,dm,dn]) J0 Z Z Z Z (AQ Z (AQ Z (AQ Z (AQ (Fg e6) (AQ (MTh.one h8) (AQ (MTh.one h9) B6)))))) qp dcd Z Z λvi qq b5=>WY.nil<|AS ?_
 obtain rfl:=AK a
 refine O1 B q Z (.agg KO Z Z (Bw qq))<|have qr:=Ss Kd.cpx e6 b5;have qs:=Mt h8 b5;have qt:=Mt h9 b5;have qu:=Bs h5 b5;have qv:=Ss AI e5 b5;⟨h4,Sl h6 h3.2.1 h7,Ho (T2 (T4 (T4 (Mo [1,21,28,29] d) c be az a0) aw a1 a2 bf) dl b5) p,qu,qv,Fh ⟨[I ab.plain.type_,Cx ab.plain.num,.bool ab.plain.bool,Sl dp ab.plain.list dq,dm,dn],Z,(Cw (x:=ab) qr qs qt)⟩⟩
 refine AR<|Sr<|Va (.slice none 0 0)<|AA<|AT<|Sr<|Vx (Fd BR Z)<|Vx (Ld CR Z (Bc aq Z))<|have ia:=K2 AG bz d c; ?_
 obtain ⟨vj,vk,qw⟩:=AW ia
 refine Vx (v:=I (h.args.length:Int)) (Ll CG qw)<|Vm<|AA<|Ah<|Bj (λbg e7 bq=>∃ca br a9 dr ds bh ba cb cc cd cf,e7=Env.puts ca [(0,Pt ao 0),(2,ap),(4,Pt i3 0),(6,Pt fi 0),(10,Sl dr a9 ds),(127,Sl i0 h.args i1),(128,I (h.args.length:Int)),(129,I bh)]/\DZ bv bm cl h cm bg a9 bh ba cd cf=some dw/\AU [1,30,32] a6 bn br bq/\Own Aq 38 br bq 32 (Sl dr a9 ds) a9/\Slc AI br.F bq (Sl cb ba cc) ba/\Bk br bq 1 ao [.map (some iw),Sl cb ba cc,I cd,I cf] 83) bm ?_ ?_
 refine have qx:=K2 AI bw d c;have qy:=Y2 b7 d c;⟨_,a6,([]:List AD),none,0,0,it,iy,iz,iu,iv,Pu,a,(AU.refl [1,30,32] _ _),Own.nil,qx,qy⟩
 rintro bg _ bq ⟨ca,br,a9,dr,ds,bh,ba,cb,cc,cd,cf,rfl,a,bb,ib,e8,e9⟩
 rcases bg with _|bg
 exact A5 a
 refine have a:Bb bv bm cl h cm (DZ bv bm cl h cm bg) a9 bh ba cd cf=some dw:=a; ?_
 obtain ⟨vl,ic⟩:∃s,s=DZ bv bm cl h cm bg:=⟨_,rfl⟩
 rw [<-ic,Bb] at a
 refine Sr<|Vr (.bool (decide (bh< (h.args.length:Int))))<|AA<|AT<|Cn a (λqz a=>?_) λqz a=>?_
 refine AR<|AT<|Ah<|Sr<|Bi a λl q0 a=>have q1:=Ss AG ia bb; ?_
 obtain ⟨q2,q3,vm,q4,q5,q6,q7,q8,fa⟩:=A8 (κ:=AG) q1 q0
 replace fa:Ay br bq q2 (q3+bh.toNat*7) q4:=fa
 obtain ⟨fb,fc,rfl,id⟩:=E1 (Ae q8)
 refine Vx (Ix CG q5 Z q6 q7)<|Vx (Lx BA Z Z (Ay.part0 fa [I l.op,Sb l.name,Sb l.tail,I l.type_,Cx l.num,Sl fb l.args fc,I l.at_] Z))<|Ef<|Aa br 30 Dm Z λq9 vo vp ra bi=>have rb:=Ss AG id bi;Eu<|St D7 ra Z Z Z Z λrc rd bj=>AA<|AM<|Vm<|Vm<|Vx (Lx BA Z Z (Bw rd))<|Vm<|have re:=Y2 e9 bi bj;have rf:=K2 AI e8 bi bj;have rg:=Ms (Ms (Ms (Ms (Ms b8 d) c) bb) bi) bj;have rh:=Ss AG rb bj;have ri:=Me (Me (Me (Me (Me bx d) c) bb) bi) bj;Bi a λdt rj a=>Is (.none Z) Z Z (Cg [Pt ao 0,Ag [I l.op,Sb l.name,Sb l.tail,I l.type_,Cx l.num,Sl fb l.args fc,I l.at_],ap] Z)<|Calls.mono (a3.mean_run_look q9 rc rj dcd dcd re rf rg (AY (x:=l) rh) ri) ?_
 rintro _ vq ⟨ie,vr,fd,ig,fe,rk⟩
 obtain ⟨ih,ii,rfl⟩:=AW fe
 obtain ⟨vt,rl,rfl⟩| ⟨e,rm,vu,rfl,vv,rfl,rn⟩:=Ey.split rk
 refine have a:=EG a rl; .inl ⟨_,Z,?_⟩
 obtain rfl:=AK a
 refine OI (B:=B) q<|⟨ie,Sl ih dt.2.1 ii,Ho (Tn (T4 (Mo [1,30,32] d) c bb bi bj) fd) p,ig,fe,Gi⟩
 refine have a:=HS a rm; ?_
 obtain ⟨vw,ro,rp,rfl,ij,vx,vy⟩:=Dk rn
 obtain ⟨cg,ch,rfl⟩:=AW ij
 refine .inr ⟨_,Z,?_⟩
 refine Vx (v:=Ag [I e.plain.type_,Cx e.plain.num,.bool e.plain.bool,Sl cg e.plain.list ch]) (QI (cs:=[I e.plain.type_,Cx e.plain.num,.bool e.plain.bool,Sl cg e.plain.list ch,ro,rp]) TO Z)<|Ef<|Cj (cs:=[I e.plain.type_,Cx e.plain.num,.bool e.plain.bool,Sl cg e.plain.list ch]) ie 31 [[I e.plain.type_,Cx e.plain.num,.bool e.plain.bool,Sl cg e.plain.list ch]] Fs Cm Z Z (.cons Z Z Z .nil) Z λrq rr rs rt ci=>have ru:=Ss Kd.cpx ij ci;have rx:Own Aq 38 rq rr 31 (.slice (some ⟨rs,0,none⟩) 1 1) ([(AD.mk e.plain.type_ e.plain.num e.plain.bool e.plain.list)]:List AD):=Own.lit (css:=[[I e.plain.type_,Cx e.plain.num,.bool e.plain.bool,Sl cg e.plain.list ch]]) rt Z Z Z (Ac (Ao (x:=(AD.mk e.plain.type_ e.plain.num e.plain.bool e.plain.list)) ru) BB) (A6 Z Ds) Z;have ry:=Os (Os (Os (Os ib bi) bj) fd) ci;Bi a λvz ik a=>Ef<|Br (κ:=Aq) Z Z ry dcd TL (CI rx) (Ea ik) (Ew ik) λv1 rz v2 il ff=>?_
 obtain ⟨im,io,rfl⟩:=Own.len il
 refine Va (Sl im ((a9++([(AD.mk e.plain.type_ e.plain.num e.plain.bool e.plain.list)]:List AD))) io)<|AA<|AM<|Vr (I (Wr (bh+1)))<|Vm<|AA<|have r0:=K2 AI fe ci ff;have r1:=Y2 ig ci ff;⟨bg,Nat.lt_succ_self bg,_,rz,(a9++([(AD.mk e.plain.type_ e.plain.num e.plain.bool e.plain.list)]:List AD)),im,io,(Wr (bh+1)),dt.2.1,ih,ii,dt.2.2.1,dt.2.2.2,Pu,(ic▸a),(Tn (T4 (Mo [1,30,32] bb) bi bj fd ci) ff),il,r0,r1⟩
 refine BX<|Sr<|Vx (Fz Cp Z)<|have r2:=Bs aq bb;Vx (Ld GC Z (Bc r2 Z))<|Vm ?_
 obtain ⟨r3,bt,r4⟩:=Own.freeze (S:=[32]) ib dcd dcd
 refine Bi a λg r5 a=>Ca (Cg [I h.op,Sl dr a9 ds] Z) (U2 bm r3 bq r5 r4) ?_
 rintro _ v3 ⟨r6,v4,rfl,bu,r7⟩
 obtain ⟨cj,ck,rfl,ip⟩:=E1 (A1 r7)
 refine Vm<|Vr (Ag [I g.1.type_,Cx g.1.num,.bool g.1.bool,Sl cj g.1.list ck])<|Vr (I g.2)<|Ef<|Aa r6 33 Cm Z λfg v6 r8 r9 bk=>have sa:=Ss Kd.cpx ip bk;Eu<|St DN r9 Z Z Z Z λsb sc bl=>Va (I g.2)<|AA<|Am (λe7 iq=>∃ca fh,e7=Env.puts ca [(6,Pt fi 0),(13,Pt r8 0)]/\MR ba cd cf g=some dw/\AU [] fg sb fh iq) ?_ ?_
 refine Sr<|Vm<|Vr (.bool (g.2 != 0))<|AA<|Cn a (λsd a=>?_) λsd a=>?_
 refine AM<|Vm<|Vr (.iface 33 (I g.2))<|TH (.none Z) (RF Z)<|have se:=Y4 e9 bt bu bk bl;have sf:=K4 AI e8 bt bu bk bl; ?_
 obtain rfl:=AK a
 refine OI (B:=B) q<|⟨fg,Sl cb ba cc,Ho (T2 (T4 (Mo [1,30,32,33] d) c bb bt bu) bk bl) p,se,sf,Gi⟩
 refine AR<|⟨_,fg,Pu,a,Rf⟩
 rintro _ iq ⟨ca,fh,rfl,a,b6⟩
 rw [MR] at a
 refine Sr<|have sg:=Bs sc b6;Vx (Lx B5 Z Z (Bw sg))<|Vx (v:=Ag [I g.1.type_,Cx g.1.num,.bool g.1.bool,Sl cj g.1.list ck,.nilFunc,.nilFunc]) (Bp LR Nt Z (.cons Z Z Z .nil))<|have sh:=Y2 (Y4 bo bb bt bu bk) bl b6;have si:=K2 Kd.cpx sa bl b6;Eu<|St J0 sh Z Z Z Z λv7 sj du=>AA<|AS ?_
 obtain rfl:=AK a
 refine O1 B q Z (.agg KO Z Z (Bw sj))<|have sk:=Ss Kd.cpx si du;have sl:=Y2 (Y4 e9 bt bu bk bl) b6 du;have sm:=K2 AI (K4 AI e8 bt bu bk bl) b6 du;⟨fh,Sl cb ba cc,Ho (T4 (T4 (Mo [1,21,30,32,33] d) c bb bt bu) bk bl b6 du) p,sl,sm,Fh ⟨[I g.1.type_,Cx g.1.num,.bool g.1.bool,Sl cj g.1.list ck,.nilFunc,.nilFunc],Z,(Cw (x:=(Ax.mk g.1 Th.nil Th.nil)) sk MTh.nil MTh.nil)⟩⟩
theorem QQ(d:Ad)(f:Nat)(m:Ad.Good d):mean_run_parts.Spec (A9 d f):=by
 intro e g a c ac ad ae af ag ah ai aj ak al am an n hnd hnz l o p q s
 refine Calls.mono (QP d f m (recol (see [a,c]) e) g (E9 (Nat.le_of_ble_eq_true Z) e) n trivial trivial (BY l [a,c] (BU hnd hnz (i:=0) Z)) (EZ AI o [a,c]) (F2 p [a,c] (BU hnd hnz (i:=1) Z)) (Bd AG q [a,c]) (Ge.recol s [a,c])) ?_
 rintro ao ap ⟨w,y,z,aa,ab,en⟩
 exact ⟨glue [a,c] g e w,y,B8 z (E4 Z Z),EJ l aa dcd,HR AI ab,Ps en λr v ⟨u,hv,h⟩=>⟨u,hv,ED HA h⟩⟩
theorem Ad.good:∀d,Ad.Good (Ad.at d)
 |0=>⟨by intro a c;intros;(try intro _);intros;exact A5 (by assumption),by intro a c;intros;(try intro _);intros;exact A5 (by assumption),by intro a c;intros;(try intro _);intros;exact A5 (by assumption),by intro a c;intros;(try intro _);intros;exact A5 (by assumption)⟩
 |n+1=>⟨Qw _ n (Ad.good n),RZ _ n (Ad.good n),SR _ n (Ad.good n),QQ _ n (Ad.good n)⟩
theorem Ra(a:Nat):mean_run_look.Spec (mean_run_look a):=(Ad.good a).mean_run_look
theorem Pc(a:Nat):mean_callth.Spec (mean_callth a):=(Ad.good a).mean_callth
def GA.Spec(f:(List AN)->Int->Int->As->Ax->Option ((Except Int AD)×(List AN)×Int×Int)):Prop:=
 ∀c a {l d o p q s m n w y z kw0 e},f o q s w y=some e->[d,n,kw0].Nodup->0∉[d,n,kw0]->Bk c a d l [.map (some m),p,I q,I s] 83->Slc AI c.F a p o->Mp c a n m w->HA.rep c.F a z y->
  Calls PG 34 #[Pt l 0,Ag z] a λab g=>∃h aa,AU [d,kw0] c a h g/\Bk h g d l [.map (some m),aa,I e.2.2.1,I e.2.2.2] 83/\Slc AI h.F g aa e.2.1/\Ey 33 e.1 ab (λr v=>∃u:Value,v=Ag [I r.type_,Cx r.num,.bool r.bool,u]/\Own Kd.cpx 35 h g kw0 u r.list)
theorem QR(aa:Nat)(ai:Col)(al:World)(ar:∀b,ai b<10){ab:Nat}{au:(List AN)}{b0:Value}{bc bd:Int}{av:Nat}{am:As}{d:Ax}{b1:List Value}{aj:(Except Int AD)×(List AN)×Int×Int}(b2:Bk ai al 1 ab [.map (some av),b0,I bc,I bd] 83)(be:Slc AI ai.F al b0 au)(cz:Mp ai al 2 av am)(c0:HA.rep ai.F al b1 d)(a:GA aa au bc bd am d=some aj):
  Calls PG 34 #[Pt ab 0,Ag b1] al λc1 aw=>∃ax b3,AU [1,3] ai al ax aw/\Bk ax aw 1 ab [.map (some av),b3,I aj.2.2.1,I aj.2.2.2] 83/\Slc AI ax.F aw b3 aj.2.1/\Ey 33 aj.1 c1 (λr v=>∃u:Value,v=Ag [I r.type_,Cx r.num,.bool r.bool,u]/\Own Kd.cpx 35 ax aw 3 u r.list):=by
 rw [GA] at a
 obtain ⟨b4,b5,rfl⟩:=AW be
 obtain ⟨fb,c2,c3,rfl,bf,c4,c5⟩:=Dk c0
 obtain ⟨ay,az,rfl⟩:=AW bf
 refine Az Tryz.func34 Z Tryz.ntmps34 Z λB a0 ac=>Sr<|Ef<|A0 ai 20 Z Z λc6 fc b6 c7 h=>Ef<|Aa c6 21 Cm Z λb7 fd c8 b8 e=>AA<|AT<|Sr<|Vx (Fd PJ Z)<|have bg:=Bs c7 e;Vx (Ld PM Z (Bc bg Z))<|have b9:=Mt (Mt c4 h) e;Vx (v:=.bool (Th.isNil d.head)) (Rr V2 Z Z b9)<|AA<|Cn a (λc9 a=>?_) λc9 a=>?_
 refine Sr<|Vx (Fz Zc Z)<|Vx (Lx B5 Z Z (Bk.part bg 0 [I d.plain.type_,Cx d.plain.num,.bool d.plain.bool,Sl ay d.plain.list az] Z))<|have da:=K2 Kd.cpx bf h e;Eu<|St DN b8 Z Z Z Z λfe db a1=>AA<|AS<|have dc:=Ss Kd.cpx da a1;Bi a λ_ de a=>?_
 obtain rfl:=AK a
 refine O1 B a0 Z (.agg B5 Z Z (Bk.part db 0 [I d.plain.type_,Cx d.plain.num,.bool d.plain.bool,Sl ay d.plain.list az] Z))<|have df:=Y3 b2 h e a1;have dg:=K3 AI be h e a1;⟨b7,Sl b4 au b5,Ho (T2 (Mo [21] h) e a1) ar,df,dg,Fh ⟨Sl ay d.plain.list az,Z,(Vs dc (Yh de))⟩⟩
 refine AR<|Sr<|Vx (v:=Ag [I 3,Cx (((0,0):Cpl)),.bool false,.slice none 0 0]) (Bp Cm GK Z (.cons Z Z Z .nil))<|Ef<|Aa b7 22 Cm Z λca ff cb dh m=>Eu<|St DN dh Z Z Z Z λdi dj n=>AA<|AT<|Ah<|Bj (λad dk w=>∃cc l ak a2 a3 a4 a5 a6 a7 a8 an bh bi ap bj a9 bk f ae af,dk=Env.puts cc [(0,Pt ab 0),(3,Pt b6 0),(4,Pt c8 0),(5,Pt cb 0)]/\D5 aa am ad ak a4 a5 a6 a7 a8 an ap a9 f=some aj/\AU [1,3,20,22] ca di l w/\Slc AI l.F w (Sl a2 ak a3) ak/\Slc Kd.cpx l.F w (Sl bh an bi) an/\Own Kd.cpx 35 l w 3 (Sl ae f af) f/\MTh 89 90 l.F w bj ap/\MTh 89 90 l.F w bk a9/\Bk l w 1 ab [.map (some av),Sl a2 ak a3,I a4,I a5] 83/\Bk l w 20 b6 [I a6,Cx a7,.bool a8,Sl bh an bi,bj,bk] 96/\Bk l w 22 cb [I 3,Cx (((0,0):Cpl)),.bool false,Sl ae f af] 38) aa ?_ ?_
 refine have dl:=K4 AI be h e m n;have dm:=K4 Kd.cpx bf h e m n;have dn:=Mt (Mt b9 m) n;have dp:=Mt (Mt (Mt (Mt c5 h) e) m) n;have dq:=Y4 b2 h e m n;have dr:=Y2 bg m n;⟨_,ca,au,b4,b5,bc,bd,d.plain.type_,d.plain.num,d.plain.bool,d.plain.list,ay,az,d.head,c2,d.tail,c3,([]:List Cpl),none,0,Pu,a,(AU.refl [1,3,20,22] _ _),dl,dm,Own.nil,dn,dp,dq,dr,dj⟩
 rintro ad _ w ⟨cc,l,ak,a2,a3,a4,a5,a6,a7,a8,an,bh,bi,ap,bj,a9,bk,f,ae,af,rfl,a,ao,cd,fg,bl,cf,ds,cg,ch,ci⟩
 rcases ad with _|ad
 exact A5 a
 refine have a:Cl aa am (D5 aa am ad) ak a4 a5 a6 a7 a8 an ap a9 f=some aj:=a; ?_
 obtain ⟨fh,cj⟩:∃s,s=D5 aa am ad:=⟨_,rfl⟩
 rw [<-cj,Cl] at a
 refine AT<|Sr<|Vx (Fd PJ Z)<|Vx (Ld PM Z (Bc ch Z))<|Vx (v:=.bool (!(Th.isNil ap))) (TI V2 Z Z cf)<|AA<|Cn a (λdt a=>?_) λdt a=>?_
 refine AR<|Ah<|AT<|BZ C7 (qs 0 5 (.one 5 (.q 6 (.q 7 (.one 8 (.one 9 (.q 10 (.one 11 .nil)))))))) [11] [1,3] l (by kernel_rfl) λdu o=>Qx ac Z (λ_ _=>Fd DV Z)<|have ck:=Bs ci o;Qx ac Z (λ_ ⟨_,y⟩=>Ld HO Z (Bc (Bs ck y) Z))<|Qx ac Z (λ_ _=>Fd PJ Z)<|have cl:=Bs ch o;Qx ac Z (λ_ ⟨_,y⟩=>Ld PM Z (Bc (Bs cl y) Z))<|Qx ac Z (v:=Pt ab 0) (λ_ _=>Mv Z)<|Vu Z<|have dv:=Bs cg o;have dw:=Ss AI cd o;have cm:=Ms (Ms (Ms (Ms (Ms (Ms cz h) e) m) n) ao) o;have dx:=Mt cf o;Bi a λdy dz a=>?_
 obtain ⟨fi,fj,d0,d1⟩:=Pc aa l du dz dcd dcd dv dw cm dx
 refine VQ.callp Z (.none Z) Z Z (d0 (vs:=[Pt ab 0]) Z Z)<|Calls.mono d1 ?_
 rintro _ fk ⟨cn,fl,p,co,bm,d2⟩
 obtain ⟨d3,d4,rfl⟩:=AW bm
 obtain ⟨fm,d5,rfl⟩| ⟨c,d6,fn,rfl,fo,rfl,d7⟩:=Ey.split d2
 refine have a:=EG a d5; .inl ⟨_,Z,?_⟩
 obtain rfl:=AK a
 refine OI (B:=B) a0<|⟨cn,Sl d3 dy.2.1 d4,Ho (T2 (T4 (Mo [1,3,20,22] h) e m n ao) o p) ar,co,bm,Gi⟩
 refine have a:=HS a d6; ?_
 obtain ⟨fp,d8,d9,rfl,ea,fq,fr⟩:=Dk d7
 obtain ⟨bn,bo,rfl⟩:=AW ea
 refine .inr ⟨_,Z,⟨_,(Mo [1,3] p)⟩,?_⟩
 refine Qx ac Z (v:=Ag [I c.plain.type_,Cx c.plain.num,.bool c.plain.bool,Sl bn c.plain.list bo]) (λ_ _=>QI (cs:=[I c.plain.type_,Cx c.plain.num,.bool c.plain.bool,Sl bn c.plain.list bo,d8,d9]) TO Z)<|Qx ac Z (v:=Cx c.plain.num) (λ_ _=>Kz (cs:=[I c.plain.type_,Cx c.plain.num,.bool c.plain.bool,Sl bn c.plain.list bo]) Zd Z Z)<|A2 Z<|Bn Z (.none Z) Z Z<|Cj (cs:=[Cx c.plain.num]) cn 23 [[Cx c.plain.num]] HB V8 Z Z (.cons Z Z Z .nil) Z λeb ec ed ee q=>have ef:Own Kd.cpx 35 eb ec 23 (.slice (some ⟨ed,0,none⟩) 1 1) ([c.plain.num]:List Cpl):=Own.lit (css:=[[Cx c.plain.num]]) ee Z Z Z (Ac Z BB) (A6 Z Ds) Z;⟨⟨_,(Tn (Mo [1,3] p) q)⟩,?_⟩
 refine A2 Z<|have eg:=Os (Os (Os bl o) p) q;Bi a λfs cq a=>Bn Z (.none Z) Z Z<|Br (κ:=Kd.cpx) Z Z eg dcd V0 (CI ef) (Ea cq) (Ew cq) λft eh fu bp z=>?_
 obtain ⟨bq,br,rfl⟩:=Own.len bp
 refine ⟨⟨_,(T2 (Mo [1,3] p) q z)⟩,?_⟩
 refine Qx ac Z (λ_ _=>Fd DV Z)<|E3 dcd<|WY.one<|have ei:=Y3 ck p q z;BS Z (.none Z) Z<|Bf (vs:=[Sl bq ((f++([c.plain.num]:List Cpl))) br]) (cs':=[I 3,Cx (((0,0):Cpl)),.bool false,Sl bq ((f++([c.plain.num]:List Cpl))) br]) V4 Z Z Z Z (AQ (Own.one bp) B6) ei dcd Z Z λej ek ag=>WY.nil<|AM<|Vx (Fd XK Z)<|have cr:=Y4 cl p q z ag;Vx (Ld PM Z (Bc cr Z))<|Vm<|have el:=Y3 co q z ag;have em:=K3 AI bm q z ag;have en:=Ms (Ms (Ms (Ms cm p) q) z) ag;have eo:=Mt (Mt (Mt (Mt (Mt ds o) p) q) z) ag;Bi a λba ep a=>?_
 obtain ⟨fv,fw,eq,er⟩:=Pc aa eh ej ep dcd dcd el em en eo
 refine Is (.none Z) Z Z (eq (vs:=[Pt ab 0]) Z Z)<|Calls.mono er ?_
 rintro _ fx ⟨ct,fy,aq,cu,bt,es⟩
 obtain ⟨cv,cw,rfl⟩:=AW bt
 obtain ⟨fz,et,rfl⟩| ⟨g,eu,f0,rfl,f1,rfl,ew⟩:=Ey.split es
 refine have a:=EG a et; .inl ⟨_,Z,?_⟩
 obtain rfl:=AK a
 refine OI (B:=B) a0<|⟨ct,Sl cv ba.2.1 cw,Ho (T2 (T4 (T4 (Mo [1,3,20,22] h) e m n ao) o p q z) ag aq) ar,cu,bt,Gi⟩
 refine have a:=HS a eu; ?_
 obtain ⟨f2,bu,bv,rfl,bw,cx,cy⟩:=Dk ew
 obtain ⟨bx,bz,rfl⟩:=AW bw
 refine .inr ⟨_,Z,?_⟩
 refine have ex:=Bs cr aq;Eu<|Bf (vs:=[I g.plain.type_,Cx g.plain.num,.bool g.plain.bool,Sl bx g.plain.list bz,bu,bv]) (cs':=[I g.plain.type_,Cx g.plain.num,.bool g.plain.bool,Sl bx g.plain.list bz,bu,bv]) J0 Z Z Z Z (AQ Z (AQ Z (AQ Z (AQ (Fg bw) (AQ (MTh.one cx) (AQ (MTh.one cy) B6)))))) ex dcd Z Z λf3 ey ah=>AA<|have ez:=Ss AI bt ah;have e0:=Ss Kd.cpx bw ah;have e1:=Os (Os (Os bp ag) aq) ah;have e2:=Mt cx ah;have e3:=Mt cy ah;have e4:=Bs cu ah;have e5:=Y2 ek aq ah;⟨ad,Nat.lt_succ_self ad,_,ct,ba.2.1,cv,cw,ba.2.2.1,ba.2.2.2,g.plain.type_,g.plain.num,g.plain.bool,g.plain.list,bx,bz,g.head,bu,g.tail,bv,(f++([c.plain.num]:List Cpl)),bq,br,Pu,(cj▸a),(T3 (T4 (Mo [1,3,20,22] ao) o p q z) ag aq ah),ez,e0,e1,e2,e3,e4,ey,e5⟩
 refine BX<|Sr<|Vx (Lx B5 Z Z (Bk.part ci 0 [I 3,Cx (((0,0):Cpl)),.bool false,Sl ae f af] Z))<|have e6:=Y3 b8 m n ao;Eu<|Bf (vs:=[I 3,Cx (((0,0):Cpl)),.bool false,Sl ae f af]) (cs':=[I 3,Cx (((0,0):Cpl)),.bool false,Sl ae f af]) DN Z Z Z Z (AQ Z (AQ Z (AQ Z (AQ (Own.one bl) B6)))) e6 dcd Z Z λf4 e7 bb=>AA<|AS ?_
 obtain rfl:=AK a
 refine O1 B a0 Z (.agg B5 Z Z (Bk.part e7 0 [I 3,Cx (((0,0):Cpl)),.bool false,Sl ae f af] Z))<|have e8:=Os bl bb;have e9:=Bs cg bb;have fa:=Ss AI cd bb;⟨l,Sl a2 ak a3,Ho (Tn (T4 (Mo [1,3,20,21,22] h) e m n ao) bb) ar,e9,fa,Fh ⟨Sl ae f af,Z,e8⟩⟩
theorem Qy(e:Nat):GA.Spec (GA e):=by
 intro d f z a aa ab ac ad ae c af ag ah kw0 ai m hnd hnz g n o p
 refine Calls.mono (QR e (recol (see [a,c,kw0]) d) f (E9 (Nat.le_of_ble_eq_true Z) d) (BY g [a,c,kw0] (BU hnd hnz (i:=0) Z)) (EZ AI n [a,c,kw0]) (F2 o [a,c,kw0] (BU hnd hnz (i:=1) Z)) (Bd HA p [a,c,kw0]) m) ?_
 rintro aj ak ⟨q,s,l,w,y,en⟩
 exact ⟨glue [a,c,kw0] f d q,s,B8 l (E4 Z Z),EJ g w dcd,HR AI y,Ps en λr v ⟨u,hv,h⟩=>⟨u,hv,IV (j:=2) h Z Z l⟩⟩
def Ha.Spec(f:AL->Bts->(List AD)->Int->Option BK):Prop:=
 ∀d c {e g h l m n kw0 a},f e h l n=some a->[kw0].Nodup->0∉[kw0]->Bz.rep d.F c g e->Slc Aq d.F c m l->
  Calls PG 13 #[Ag g,Sb h,m,I n] c λr o=>∃p q,r=.returned (Ag [I a.why,I a.value.type_,Cx a.value.num,.bool a.value.bool,q,I a.moves,I a.thunks,I a.updates,I a.calls])/\AU [kw0] d c p o/\Own Kd.cpx 35 p o kw0 q a.value.list
end Fth
