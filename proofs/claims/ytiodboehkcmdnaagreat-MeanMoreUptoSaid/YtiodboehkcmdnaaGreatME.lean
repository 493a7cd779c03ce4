/- Part 5 of the proof: what it says holds of the given program; no condition. -/
import Derived.Test.YtiodboehkcmdnaaGreatProg
import Derived.KernelRfl
import Derived.Test.YtiodboehkcmdnaaGreatMD
set_option linter.all false
set_option exponentiation.threshold 3000
namespace Fth
open Go Go.Proofs Sh
set_option maxRecDepth 100000
set_option maxHeartbeats 8000000
theorem NJ(cd:AF)(e0:Nat)(al:AF.Good cd)(w:Col)(am:World)(cf:∀b,w b<10){l:Nat}{cg:(List AK)}{ch:Value}{ci:(List AH)}{cj:Value}{bo:Nat}{ck:Ae}{ao:Nat}{au:AE}{cl:List Value}{a:AD}{cm:List Value}{r:Int}{bd:(List AK)×(List AH)×AE}(be:Bk w am 1 l [.map (some bo),ch,cj,.func (.func 52) #[] [Pt ao 0].toArray] 134)(a2:Slc AL w.F am ch cg)(a3:Own Ai 87 w am 4 cj ci)(bf:Mp w am 2 bo ck)(bg:Bk w am 3 ao cl 63)(e1:Aq.rep w.F am cl au)(e2:AJ.rep w.F am cm a)(c:FX cd e0 cg ci ck au a r=some bd):
  Calls Tryz.prog 53 #[Pt l 0,.agg cm.toArray,I r] am fun e3 a4=>∃(a5:Col) (cn:Value) (co:Value) (cq:List Value),e3=.returned (.tuple #[])∧AO [1,3,4] w am a5 a4∧Bk a5 a4 1 l [.map (some bo),cn,co,.func (.func 52) #[] [Pt ao 0].toArray] 134∧Slc AL a5.F a4 cn bd.1∧Own Ai 87 a5 a4 4 co bd.2.1∧Bk a5 a4 3 ao cq 63∧Aq.rep a5.F a4 cq bd.2.2:=by
 rw [FX] at c
 obtain ⟨kn,ko,rfl⟩:=AI a2
 obtain ⟨kp,kq,rfl⟩:=Own.len a3
 obtain rfl:=An e1
 obtain ⟨kr,rfl,a6⟩:=Am e2
 obtain ⟨ap,aq,rfl⟩:=AI a6
 refine A5 Tryz.func53 rfl Tryz.ntmps53 rfl fun B cr g=>?_
 refine Sr ?_
 refine Ef (By w 20 rfl rfl fun e4 ks y a7 h=>?_)
 refine Ef (By e4 21 rfl rfl fun e5 kt m ct f=>?_)
 refine Ef (By e5 22 rfl rfl fun u cu z a8 e=>?_)
 refine AA ?_
 refine Sr ?_
 refine Vx (v:=I r) (Run.load1 Fy rfl (Bk.cell a8 rfl)) ?_
 refine Va (I r) ?_
 refine AA ?_
 refine Au (fun e6 a9=>∃(cv:Env) (an:Col) (bh:Int) (av:(List AK)) (bi:Option Addr) (bj:Nat) (aw:(List AH)) (bk:Option Addr) (bl:Nat) (ba:Int) (bb:Int),e6=cv.puts [(3,.pointer (some ⟨y,0,none⟩)),(4,.pointer (some ⟨m,0,none⟩)),(5,.pointer (some ⟨z,0,none⟩)),(6,.int .i64 bh)]∧CC a r bh av aw ba bb=some bd∧AO [1,3,4,23,24,25] u cu an a9∧Slc AL an.F a9 (Sl bi av bj) av∧Own Ai 87 an a9 4 (Sl bk aw bl) aw∧Bk an a9 1 l [.map (some bo),Sl bi av bj,Sl bk aw bl,.func (.func 52) #[] [Pt ao 0].toArray] 134∧Bk an a9 3 ao [I ba,I bb] 63) ?_ ?_
 refine Sr ?_
 refine Vx (v:=Pt m 0) (Run.fieldAddr0 GJ rfl) ?_
 have ar:=(Bs ct e)
 refine Vx (v:=I a.op) (Run.load1 Kl rfl (Bk.cell ar rfl)) ?_
 refine AA ?_
 refine Ao ?_
 refine Sr ?_
 refine Vr (.bool (a.op==19)) ?_
 refine Va (.bool (a.op==19)) ?_
 refine AA ?_
 refine Cn c (fun e7 c=>?_) fun e7 c=>?_
 refine Ac ?_
 refine Cc Ff (.q 0 (.q 1 (.q 2 (.q 3 (.q 4 (.one 5 .nil)))))) [] [1,3,4] u (by kernel_rfl) fun cw aa=>?_
 have cx:=(Y3 a7 f e aa)
 refine Qx g rfl (v:=Pt l 0) (fun _ ⟨_,d⟩=>Run.load1 JM rfl (Bk.cell (Bs cx d) rfl)) ?_
 refine Qx g rfl (v:=Pt m 5) (fun _ ⟨_,d⟩=>Run.fieldAddr B6 rfl) ?_
 have cy:=(Bs ar aa)
 refine Qx g rfl (v:=Sl ap a.args aq) (fun _ ⟨_,d⟩=>Run.load1 Ez rfl (Bk.cell (Bs cy d) rfl)) ?_
 obtain ⟨n,e8,c⟩:=bnd_sm c
 have cz:=(K4 AJ a6 h f e aa)
 obtain ⟨c0,c1,ku,e9,fa,fb,fc,fd,bu⟩:=BX (κ:=AJ) cz e8
 replace bu:BG u cw c0 (c1+(0:Int).toNat*7) e9:=bu
 obtain ⟨kv,rfl,c2⟩:=Am fd
 obtain ⟨bv,bw,rfl⟩:=AI c2
 refine Qx g rfl (v:=.pointer (some ⟨c0,c1+(0:Int).toNat*7,none⟩)) (fun _ ⟨_,d⟩=>Run.indexAddr Dx fa rfl fb fc) ?_
 refine Qx g rfl (v:=.agg [I n.op,Sb n.name,Sb n.tail,I n.type_,Cx n.num,Sl bv n.args bw,I n.at_].toArray) (fun _ ⟨_,d⟩=>Run.loadN BL rfl rfl (BG.part0 (Es bu d) [I n.op,Sb n.name,Sb n.tail,I n.type_,Cx n.num,Sl bv n.args bw,I n.at_] rfl)) ?_
 refine BW rfl ?_
 have fe:=(Y4 be h f e aa)
 have ff:=(K4 AL a2 h f e aa)
 have fg:=(Os (Os (Os (Os a3 h) f) e) aa)
 have c3:=(Ms (Ms (Ms (Ms bf h) f) e) aa)
 have fh:=(Y4 bg h f e aa)
 obtain ⟨fi,fj,c⟩:=bnd_sm c
 refine BN rfl (.none rfl) rfl rfl (K1 [Pt l 0,.agg [I n.op,Sb n.name,Sb n.tail,I n.type_,Cx n.num,Sl bv n.args bw,I n.at_].toArray,I 2] rfl) ?_
 refine Calls.mono (al.types_checker_want u cw (ko0_2:=4) fj dcd dcd fe ff fg c3 fh (Aj (x:=au)) (Ag (x:=n) c2)) ?_
 rintro _ kw ⟨c4,kx,ky,kz,rfl,ax,fk,c5,c6,fl,fm⟩
 obtain ⟨k0,k1,rfl⟩:=AI c5
 obtain ⟨k2,k3,rfl⟩:=Own.len c6
 obtain rfl:=An fm
 refine ⟨_,rfl,⟨_,(Mo [1,3,4] ax)⟩,?_⟩
 refine Ex ?_
 refine Cc Ff (.q 0 (.q 1 (.q 2 (.q 3 (.q 4 (.one 5 .nil)))))) [] [1,3,4] c4 (by kernel_rfl) fun fn ab=>?_
 have fo:=(Y2 cx ax ab)
 refine Qx g rfl (v:=Pt l 0) (fun _ ⟨_,d⟩=>Run.load1 JM rfl (Bk.cell (Bs fo d) rfl)) ?_
 have fp:=(Y3 a8 aa ax ab)
 refine Qx g rfl (v:=I r) (fun _ ⟨_,d⟩=>Run.load1 Fy rfl (Bk.cell (Bs fp d) rfl)) ?_
 refine Qx g rfl (v:=Pt m 5) (fun _ ⟨_,d⟩=>Run.fieldAddr B6 rfl) ?_
 have fq:=(Y2 cy ax ab)
 refine Qx g rfl (v:=Sl ap a.args aq) (fun _ ⟨_,d⟩=>Run.load1 Ez rfl (Bk.cell (Bs fq d) rfl)) ?_
 obtain ⟨c7,c8,c⟩:=bnd_sm c
 have fr:=(K2 AJ cz ax ab)
 obtain ⟨c9,da,fs,ft,bx⟩:=Te fr c8
 obtain ⟨k4,db⟩:∃s,s=Value.slice (if da=(1:Int).toNat then c9 else c9.map (·.add ((1:Int).toNat*AJ.size))) ((a.args.length:Int).toNat - (1:Int).toNat) (da - (1:Int).toNat):=⟨_,rfl⟩
 rw [←db] at bx
 obtain ⟨fu,fv,fw,_⟩:=KT c8
 obtain ⟨dc,de,rfl⟩:=AI bx
 refine Qx g rfl (v:=.slice dc c7.length de) (fun _ ⟨_,d⟩=>(by rw [db];exact Run.sliceSlc Dx fs ⟨_,rfl⟩ rfl fu fv fw ft)) ?_
 refine BW rfl ?_
 have fx:=(Bs fk ab)
 have fy:=(Ss AL c5 ab)
 have fz:=(Os c6 ab)
 have f0:=(Ms (Ms c3 ax) ab)
 have f1:=(Bs fl ab)
 obtain ⟨bp,f2,c⟩:=bnd_sm c
 refine BN rfl (.none rfl) rfl rfl (VZ [Pt l 0,I r,Sl dc c7 de] rfl) ?_
 refine Calls.mono (al.types_checker_all c4 fn (ko0_2:=4) f2 dcd dcd fx fy fz f0 f1 (Aj (x:=fi.2.2)) bx) ?_
 rintro _ k5 ⟨f3,k6,k7,k8,rfl,df,f4,dg,dh,f5,f6⟩
 obtain ⟨f7,f8,rfl⟩:=AI dg
 obtain ⟨f9,ga,rfl⟩:=Own.len dh
 obtain rfl:=An f6
 refine ⟨_,rfl,⟨_,(Mo [1,3,4] df)⟩,?_⟩
 refine Ex ?_
 exact ⟨_,f3,r,bp.1,f7,f8,bp.2.1,f9,ga,bp.2.2.why,bp.2.2.at_,Pu,c,(T3 (Mo [1,3,4,23,24,25] aa) ax ab df),dg,dh,f4,f5⟩
 refine Sr ?_
 refine Vr (.bool (a.op==20)) ?_
 refine Va (.bool (a.op==20)) ?_
 refine AA ?_
 refine Cn c (fun gb c=>?_) fun gb c=>?_
 refine Ac ?_
 refine Cc Ff (.q 0 (.q 1 (.q 2 (.q 3 (.q 4 (.one 5 .nil)))))) [] [1,3,4] u (by kernel_rfl) fun di ac=>?_
 have dj:=(Y3 a7 f e ac)
 refine Qx g rfl (v:=Pt l 0) (fun _ ⟨_,d⟩=>Run.load1 JM rfl (Bk.cell (Bs dj d) rfl)) ?_
 refine Qx g rfl (v:=Pt m 5) (fun _ ⟨_,d⟩=>Run.fieldAddr B6 rfl) ?_
 have dk:=(Bs ar ac)
 refine Qx g rfl (v:=Sl ap a.args aq) (fun _ ⟨_,d⟩=>Run.load1 Ez rfl (Bk.cell (Bs dk d) rfl)) ?_
 obtain ⟨o,gc,c⟩:=bnd_sm c
 have dl:=(K4 AJ a6 h f e ac)
 obtain ⟨dm,dn,k9,gd,ge,gf,gg,gh,bz⟩:=BX (κ:=AJ) dl gc
 replace bz:BG u di dm (dn+(0:Int).toNat*7) gd:=bz
 obtain ⟨la,rfl,dp⟩:=Am gh
 obtain ⟨b0,b1,rfl⟩:=AI dp
 refine Qx g rfl (v:=.pointer (some ⟨dm,dn+(0:Int).toNat*7,none⟩)) (fun _ ⟨_,d⟩=>Run.indexAddr Dx ge rfl gf gg) ?_
 refine Qx g rfl (v:=.agg [I o.op,Sb o.name,Sb o.tail,I o.type_,Cx o.num,Sl b0 o.args b1,I o.at_].toArray) (fun _ ⟨_,d⟩=>Run.loadN BL rfl rfl (BG.part0 (Es bz d) [I o.op,Sb o.name,Sb o.tail,I o.type_,Cx o.num,Sl b0 o.args b1,I o.at_] rfl)) ?_
 refine BW rfl ?_
 have gi:=(Y4 be h f e ac)
 have gj:=(K4 AL a2 h f e ac)
 have gk:=(Os (Os (Os (Os a3 h) f) e) ac)
 have dq:=(Ms (Ms (Ms (Ms bf h) f) e) ac)
 have gl:=(Y4 bg h f e ac)
 obtain ⟨gm,gn,c⟩:=bnd_sm c
 refine BN rfl (.none rfl) rfl rfl (K1 [Pt l 0,.agg [I o.op,Sb o.name,Sb o.tail,I o.type_,Cx o.num,Sl b0 o.args b1,I o.at_].toArray,I 3] rfl) ?_
 refine Calls.mono (al.types_checker_want u di (ko0_2:=4) gn dcd dcd gi gj gk dq gl (Aj (x:=au)) (Ag (x:=o) dp)) ?_
 rintro _ lb ⟨b2,lc,ld,le,rfl,ay,go,dr,ds,gp,gq⟩
 obtain ⟨lf,lg,rfl⟩:=AI dr
 obtain ⟨lh,li,rfl⟩:=Own.len ds
 obtain rfl:=An gq
 refine ⟨_,rfl,⟨_,(Mo [1,3,4] ay)⟩,?_⟩
 refine Ex ?_
 refine Ac ?_
 refine Cc Ff (.q 0 (.q 1 (.q 2 (.q 3 (.q 4 (.q 5 (.one 6 .nil))))))) [] [1,3,4] b2 (by kernel_rfl) fun dt ad=>?_
 have du:=(Y2 dj ay ad)
 refine Qx g rfl (v:=Pt l 0) (fun _ ⟨_,d⟩=>Run.load1 JM rfl (Bk.cell (Bs du d) rfl)) ?_
 refine Qx g rfl (v:=Pt m 5) (fun _ ⟨_,d⟩=>Run.fieldAddr B6 rfl) ?_
 have dv:=(Y2 dk ay ad)
 refine Qx g rfl (v:=Sl ap a.args aq) (fun _ ⟨_,d⟩=>Run.load1 Ez rfl (Bk.cell (Bs dv d) rfl)) ?_
 obtain ⟨p,gr,c⟩:=bnd_sm c
 have dw:=(K2 AJ dl ay ad)
 obtain ⟨dx,dy,lj,gs,gt,gu,gv,gw,b3⟩:=BX (κ:=AJ) dw gr
 replace b3:BG b2 dt dx (dy+(1:Int).toNat*7) gs:=b3
 obtain ⟨lk,rfl,dz⟩:=Am gw
 obtain ⟨b4,b5,rfl⟩:=AI dz
 refine Qx g rfl (v:=.pointer (some ⟨dx,dy+(1:Int).toNat*7,none⟩)) (fun _ ⟨_,d⟩=>Run.indexAddr Dx gt rfl gu gv) ?_
 refine Qx g rfl (v:=.agg [I p.op,Sb p.name,Sb p.tail,I p.type_,Cx p.num,Sl b4 p.args b5,I p.at_].toArray) (fun _ ⟨_,d⟩=>Run.loadN BL rfl rfl (BG.part0 (Es b3 d) [I p.op,Sb p.name,Sb p.tail,I p.type_,Cx p.num,Sl b4 p.args b5,I p.at_] rfl)) ?_
 have d0:=(Y3 a8 ac ay ad)
 refine Qx g rfl (v:=I r) (fun _ ⟨_,d⟩=>Run.load1 Fy rfl (Bk.cell (Bs d0 d) rfl)) ?_
 refine BW rfl ?_
 have gx:=(Bs go ad)
 have gy:=(Ss AL dr ad)
 have gz:=(Os ds ad)
 have d1:=(Ms (Ms dq ay) ad)
 have g0:=(Bs gp ad)
 obtain ⟨g1,g2,c⟩:=bnd_sm c
 refine BN rfl (.none rfl) rfl rfl (K1 [Pt l 0,.agg [I p.op,Sb p.name,Sb p.tail,I p.type_,Cx p.num,Sl b4 p.args b5,I p.at_].toArray,I r] rfl) ?_
 refine Calls.mono (al.types_checker_want b2 dt (ko0_2:=4) g2 dcd dcd gx gy gz d1 g0 (Aj (x:=gm.2.2)) (Ag (x:=p) dz)) ?_
 rintro _ ll ⟨g3,lm,ln,lo,rfl,az,g4,d2,d3,g5,g6⟩
 obtain ⟨lp,lq,rfl⟩:=AI d2
 obtain ⟨lr,ls,rfl⟩:=Own.len d3
 obtain rfl:=An g6
 refine ⟨_,rfl,⟨_,(Mo [1,3,4] az)⟩,?_⟩
 refine Ex ?_
 refine AQ ?_
 have d4:=(Bs du az)
 refine Vx (v:=Pt l 0) (Run.load1 JM rfl (Bk.cell d4 rfl)) ?_
 refine Vx (v:=.func (.func 84) #[] [Pt y 0,Pt m 0,Pt z 0].toArray) (HS (vs:=[Pt y 0,Pt m 0,Pt z 0]) rfl) ?_
 refine Vx (v:=Pt m 1) (Run.fieldAddr HR rfl) ?_
 have b6:=(Bs dv az)
 refine Vx (v:=Sb a.name) (Run.load1 De rfl (Bk.cell b6 rfl)) ?_
 refine Vx (v:=.agg [Sb a.name,I 1,I 0].toArray) (Bp LU Ru rfl (.cons rfl rfl rfl (.cons rfl rfl rfl .nil))) ?_
 refine Vx (v:=Pt m 2) (Run.fieldAddr PU rfl) ?_
 refine Vx (v:=Sb a.tail) (Run.load1 De rfl (Bk.cell b6 rfl)) ?_
 refine Vx (v:=.agg [Sb a.tail,I 3,I 0].toArray) (Bp LU Ru rfl (.cons rfl rfl rfl (.cons rfl rfl rfl .nil))) ?_
 refine Ef (E1 (cs:=[Sb a.name,I 1,I 0,Sb a.tail,I 3,I 0]) g3 23 [[Sb a.name,I 1,I 0],[Sb a.tail,I 3,I 0]] G9 LU rfl rfl (.cons rfl rfl rfl (.cons rfl rfl rfl .nil)) rfl fun g7 d5 d6 g8 ae=>?_)
 have g9:Own Ai 87 g7 d5 23 (.slice (some ⟨d6,0,none⟩) 2 2) ([(AH.mk a.name 1 0),(AH.mk a.tail 3 0)]:List AH):=Own.lit (css:=[[Sb a.name,I 1,I 0],[Sb a.tail,I 3,I 0]]) g8 rfl rfl rfl (Aa (KU (x:=(AH.mk a.name 1 0))) (Aa (KU (x:=(AH.mk a.tail 3 0))) Ba)) (A9 rfl (A9 rfl Gg)) rfl
 obtain ⟨ha,af,hb⟩:=Own.freeze (S:=[23]) g9 dcd dcd
 have hc:=(Y2 g4 ae af)
 have hd:=(K2 AL d2 ae af)
 have he:=(Os (Os d3 ae) af)
 have hf:=(Ms (Ms (Ms d1 az) ae) af)
 have hg:=(Y2 g5 ae af)
 have hh:=(Y2 d4 ae af)
 have hi:=(Y2 b6 ae af)
 have hj:=(K3 AJ dw az ae af)
 have hk:=(Y3 d0 az ae af)
 obtain ⟨bq,hl,c⟩:=bnd_sm c
 refine Bx (.none rfl) rfl rfl (Vb [Pt l 0,.func (.func 84) #[] [Pt y 0,Pt m 0,Pt z 0].toArray,Sl (some ⟨d6,0,none⟩) (([(AH.mk a.name 1 0),(AH.mk a.tail 3 0)]:List AH)) 2] rfl) ?_
 refine Calls.mono (al.types_checker_in ha d5 (ko0_2:=4) hl dcd dcd hc hd he hf hg (Aj (x:=g1.2.2)) hh hi (Ag (x:=a) hj) hk hb) ?_
 rintro _ lt ⟨hm,lu,lv,lw,rfl,hn,ho,d7,d8,hp,hq⟩
 obtain ⟨hr,hs,rfl⟩:=AI d7
 obtain ⟨ht,hu,rfl⟩:=Own.len d8
 obtain rfl:=An hq
 refine ⟨_,rfl,?_⟩
 refine AA ?_
 exact ⟨_,hm,r,bq.1,hr,hs,bq.2.1,ht,hu,bq.2.2.why,bq.2.2.at_,Pu,c,(T2 (T4 (Mo [1,3,4,23,24,25] ac) ay ad az ae) af hn),d7,d8,ho,hp⟩
 refine Sr ?_
 refine Vr (.bool (a.op==21)) ?_
 refine Va (.bool (a.op==21)) ?_
 refine AA ?_
 refine Cn c (fun hw c=>?_) fun hw c=>?_
 refine AQ ?_
 have d9:=(Y2 a7 f e)
 refine Vx (v:=Pt l 0) (Run.load1 JM rfl (Bk.cell d9 rfl)) ?_
 refine Vx (v:=.func (.func 85) #[] [Pt y 0,Pt m 0,Pt z 0].toArray) (HS (vs:=[Pt y 0,Pt m 0,Pt z 0]) rfl) ?_
 refine Vx (v:=Pt m 1) (Run.fieldAddr HR rfl) ?_
 refine Vx (v:=Sb a.name) (Run.load1 De rfl (Bk.cell ar rfl)) ?_
 refine Vx (v:=Pt m 3) (Run.fieldAddr Ly rfl) ?_
 refine Vx (v:=I a.type_) (Run.load1 Fy rfl (Bk.cell ar rfl)) ?_
 refine Vx (v:=.agg [Sb a.name,I a.type_,I 0].toArray) (Bp LU Ru rfl (.cons rfl rfl rfl (.cons rfl rfl rfl .nil))) ?_
 refine Ef (E1 (cs:=[Sb a.name,I a.type_,I 0]) u 24 [[Sb a.name,I a.type_,I 0]] G9 LU rfl rfl (.cons rfl rfl rfl .nil) rfl fun hx ea eb hy ag=>?_)
 have hz:Own Ai 87 hx ea 24 (.slice (some ⟨eb,0,none⟩) 1 1) ([(AH.mk a.name a.type_ 0)]:List AH):=Own.lit (css:=[[Sb a.name,I a.type_,I 0]]) hy rfl rfl rfl (Aa (KU (x:=(AH.mk a.name a.type_ 0))) Ba) (A9 rfl Gg) rfl
 obtain ⟨h0,ah,h1⟩:=Own.freeze (S:=[24]) hz dcd dcd
 have h2:=(Bs (Y4 be h f e ag) ah)
 have h3:=(Ss AL (K4 AL a2 h f e ag) ah)
 have h4:=(Os (Os (Os (Os (Os a3 h) f) e) ag) ah)
 have h5:=(Ms (Ms (Ms (Ms (Ms bf h) f) e) ag) ah)
 have h6:=(Bs (Y4 bg h f e ag) ah)
 have h7:=(Y2 d9 ag ah)
 have h8:=(Y2 ar ag ah)
 have h9:=(Ss AJ (K4 AJ a6 h f e ag) ah)
 have ia:=(Y2 a8 ag ah)
 obtain ⟨br,ib,c⟩:=bnd_sm c
 refine Bx (.none rfl) rfl rfl (Vb [Pt l 0,.func (.func 85) #[] [Pt y 0,Pt m 0,Pt z 0].toArray,Sl (some ⟨eb,0,none⟩) (([(AH.mk a.name a.type_ 0)]:List AH)) 1] rfl) ?_
 refine Calls.mono (al.types_checker_in_2 h0 ea (ko0_2:=4) ib dcd dcd h2 h3 h4 h5 h6 (Aj (x:=au)) h7 h8 (Ag (x:=a) h9) ia h1) ?_
 rintro _ lx ⟨ic,ly,lz,l0,rfl,id,ie,ec,ed,ig,ih⟩
 obtain ⟨ii,ij,rfl⟩:=AI ec
 obtain ⟨ik,il,rfl⟩:=Own.len ed
 obtain rfl:=An ih
 refine ⟨_,rfl,?_⟩
 refine AA ?_
 exact ⟨_,ic,r,br.1,ii,ij,br.2.1,ik,il,br.2.2.why,br.2.2.at_,Pu,c,(T2 (Mo [1,3,4,23,24,25] ag) ah id),ec,ed,ie,ig⟩
 refine Sr ?_
 refine Vr (.bool (a.op==22)) ?_
 refine Va (.bool (a.op==22)) ?_
 refine AA ?_
 refine Cn c (fun im c=>?_) fun im c=>?_
 refine Ac ?_
 refine Cc Ff (.q 0 (.q 1 (.q 2 (.q 3 (.q 4 (.q 5 (.q 6 (.one 7 .nil)))))))) [] [1,3,4] u (by kernel_rfl) fun ee ai=>?_
 have ef:=(Y3 a7 f e ai)
 refine Qx g rfl (v:=Pt l 0) (fun _ ⟨_,d⟩=>Run.load1 JM rfl (Bk.cell (Bs ef d) rfl)) ?_
 refine Qx g rfl (v:=Pt m 5) (fun _ ⟨_,d⟩=>Run.fieldAddr B6 rfl) ?_
 have b7:=(Bs ar ai)
 refine Qx g rfl (v:=Sl ap a.args aq) (fun _ ⟨_,d⟩=>Run.load1 Ez rfl (Bk.cell (Bs b7 d) rfl)) ?_
 obtain ⟨q,io,c⟩:=bnd_sm c
 have eg:=(K4 AJ a6 h f e ai)
 obtain ⟨eh,ei,l1,ip,iq,ir,it,iu,b8⟩:=BX (κ:=AJ) eg io
 replace b8:BG u ee eh (ei+(0:Int).toNat*7) ip:=b8
 obtain ⟨l2,rfl,ej⟩:=Am iu
 obtain ⟨b9,ca,rfl⟩:=AI ej
 refine Qx g rfl (v:=.pointer (some ⟨eh,ei+(0:Int).toNat*7,none⟩)) (fun _ ⟨_,d⟩=>Run.indexAddr Dx iq rfl ir it) ?_
 refine Qx g rfl (v:=.agg [I q.op,Sb q.name,Sb q.tail,I q.type_,Cx q.num,Sl b9 q.args ca,I q.at_].toArray) (fun _ ⟨_,d⟩=>Run.loadN BL rfl rfl (BG.part0 (Es b8 d) [I q.op,Sb q.name,Sb q.tail,I q.type_,Cx q.num,Sl b9 q.args ca,I q.at_] rfl)) ?_
 refine Qx g rfl (v:=Pt m 3) (fun _ ⟨_,d⟩=>Run.fieldAddr Ly rfl) ?_
 refine Qx g rfl (v:=I a.type_) (fun _ ⟨_,d⟩=>Run.load1 Fy rfl (Bk.cell (Bs b7 d) rfl)) ?_
 refine BW rfl ?_
 have iv:=(Y4 be h f e ai)
 have iw:=(K4 AL a2 h f e ai)
 have ix:=(Os (Os (Os (Os a3 h) f) e) ai)
 have ek:=(Ms (Ms (Ms (Ms bf h) f) e) ai)
 have iy:=(Y4 bg h f e ai)
 obtain ⟨iz,i0,c⟩:=bnd_sm c
 refine BN rfl (.none rfl) rfl rfl (K1 [Pt l 0,.agg [I q.op,Sb q.name,Sb q.tail,I q.type_,Cx q.num,Sl b9 q.args ca,I q.at_].toArray,I a.type_] rfl) ?_
 refine Calls.mono (al.types_checker_want u ee (ko0_2:=4) i0 dcd dcd iv iw ix ek iy (Aj (x:=au)) (Ag (x:=q) ej)) ?_
 rintro _ l3 ⟨i1,l4,l5,l6,rfl,a0,i2,el,em,i3,i4⟩
 obtain ⟨l7,l8,rfl⟩:=AI el
 obtain ⟨l9,ma,rfl⟩:=Own.len em
 obtain rfl:=An i4
 refine ⟨_,rfl,⟨_,(Mo [1,3,4] a0)⟩,?_⟩
 refine Ex ?_
 refine AQ ?_
 have en:=(Bs ef a0)
 refine Vx (v:=Pt l 0) (Run.load1 JM rfl (Bk.cell en rfl)) ?_
 refine Vx (v:=.func (.func 86) #[] [Pt y 0,Pt m 0,Pt z 0].toArray) (HS (vs:=[Pt y 0,Pt m 0,Pt z 0]) rfl) ?_
 refine Vx (v:=Pt m 1) (Run.fieldAddr HR rfl) ?_
 have cb:=(Bs b7 a0)
 refine Vx (v:=Sb a.name) (Run.load1 De rfl (Bk.cell cb rfl)) ?_
 refine Vx (v:=Pt m 3) (Run.fieldAddr Ly rfl) ?_
 refine Vx (v:=I a.type_) (Run.load1 Fy rfl (Bk.cell cb rfl)) ?_
 refine Vx (v:=.agg [Sb a.name,I a.type_,I 0].toArray) (Bp LU Ru rfl (.cons rfl rfl rfl (.cons rfl rfl rfl .nil))) ?_
 refine Ef (E1 (cs:=[Sb a.name,I a.type_,I 0]) i1 25 [[Sb a.name,I a.type_,I 0]] G9 LU rfl rfl (.cons rfl rfl rfl .nil) rfl fun i5 eo ep i6 aj=>?_)
 have i7:Own Ai 87 i5 eo 25 (.slice (some ⟨ep,0,none⟩) 1 1) ([(AH.mk a.name a.type_ 0)]:List AH):=Own.lit (css:=[[Sb a.name,I a.type_,I 0]]) i6 rfl rfl rfl (Aa (KU (x:=(AH.mk a.name a.type_ 0))) Ba) (A9 rfl Gg) rfl
 obtain ⟨i8,ak,i9⟩:=Own.freeze (S:=[25]) i7 dcd dcd
 have ja:=(Y2 i2 aj ak)
 have jb:=(K2 AL el aj ak)
 have jc:=(Os (Os em aj) ak)
 have jd:=(Ms (Ms (Ms ek a0) aj) ak)
 have je:=(Y2 i3 aj ak)
 have jf:=(Y2 en aj ak)
 have jg:=(Y2 cb aj ak)
 have jh:=(K3 AJ eg a0 aj ak)
 have ji:=(Y4 a8 ai a0 aj ak)
 obtain ⟨bt,jj,c⟩:=bnd_sm c
 refine Bx (.none rfl) rfl rfl (Vb [Pt l 0,.func (.func 86) #[] [Pt y 0,Pt m 0,Pt z 0].toArray,Sl (some ⟨ep,0,none⟩) (([(AH.mk a.name a.type_ 0)]:List AH)) 1] rfl) ?_
 refine Calls.mono (al.types_checker_in_3 i8 eo (ko0_2:=4) jj dcd dcd ja jb jc jd je (Aj (x:=iz.2.2)) jf jg (Ag (x:=a) jh) ji i9) ?_
 rintro _ mb ⟨jk,mc,md,me,rfl,jl,jm,eq,er,jn,jo⟩
 obtain ⟨jp,jq,rfl⟩:=AI eq
 obtain ⟨jr,js,rfl⟩:=Own.len er
 obtain rfl:=An jo
 refine ⟨_,rfl,?_⟩
 refine AA ?_
 exact ⟨_,jk,r,bt.1,jp,jq,bt.2.1,jr,js,bt.2.2.why,bt.2.2.at_,Pu,c,(T4 (Mo [1,3,4,23,24,25] ai) a0 aj ak jl),eq,er,jm,jn⟩
 refine AQ ?_
 have jt:=(Y2 a7 f e)
 refine Vx (v:=Pt l 0) (Run.load1 JM rfl (Bk.cell jt rfl)) ?_
 refine Vx (v:=.agg [I a.op,Sb a.name,Sb a.tail,I a.type_,Cx a.num,Sl ap a.args aq,I a.at_].toArray) (Run.loadN BL rfl rfl (Bk.part ar 0 [I a.op,Sb a.name,Sb a.tail,I a.type_,Cx a.num,Sl ap a.args aq,I a.at_] rfl)) ?_
 have ju:=(Y3 be h f e)
 have jv:=(K3 AL a2 h f e)
 have jw:=(Os (Os (Os a3 h) f) e)
 have jx:=(Ms (Ms (Ms bf h) f) e)
 have jy:=(Y3 bg h f e)
 have jz:=(K3 AJ a6 h f e)
 obtain ⟨bc,j0,c⟩:=bnd_sm c
 refine Bx (.none rfl) rfl rfl (AAO [Pt l 0,.agg [I a.op,Sb a.name,Sb a.tail,I a.type_,Cx a.num,Sl ap a.args aq,I a.at_].toArray] rfl) ?_
 refine Calls.mono (al.types_checker_own u cu (ko0_2:=4) j0 dcd dcd ju jv jw jx jy (Aj (x:=au)) (Ag (x:=a) jz)) ?_
 rintro _ mf ⟨j1,mg,mh,mi,rfl,j2,j3,es,et,j4,j5⟩
 obtain ⟨j6,j7,rfl⟩:=AI es
 obtain ⟨j8,j9,rfl⟩:=Own.len et
 obtain rfl:=An j5
 refine ⟨_,rfl,?_⟩
 refine Va (I bc.1) ?_
 refine AA ?_
 exact ⟨_,j1,bc.1,bc.2.1,j6,j7,bc.2.2.1,j8,j9,bc.2.2.2.why,bc.2.2.2.at_,Pu,c,(Mo [1,3,4,23,24,25] j2),es,et,j3,j4⟩
 rintro _ a9 ⟨cv,an,bh,av,bi,bj,aw,bk,bl,ba,bb,rfl,c,bm,eu,ew,ex,ey⟩
 rw [CC] at c
 refine Sr ?_
 refine Vx (v:=I bh) (Run.move rfl) ?_
 have ka:=(Bs a8 bm)
 refine Vx (v:=I r) (Run.load1 Fy rfl (Bk.cell ka rfl)) ?_
 refine Vr (.bool (bh != r)) ?_
 refine AA ?_
 refine Cn c (fun kb c=>?_) fun kb c=>?_
 refine Cc Ff (.q 0 (.q 1 (.q 2 (.q 3 (.q 4 (.q 5 (.one 6 .nil))))))) [] [3] an (by kernel_rfl) fun kc a1=>?_
 have kd:=(Y4 a7 f e bm a1)
 refine Qx g rfl (v:=Pt l 0) (fun _ ⟨_,d⟩=>Run.load1 JM rfl (Bk.cell (Bs kd d) rfl)) ?_
 refine Qx g rfl (v:=Pt l 0) (fun _ ⟨_,d⟩=>Run.nilCheck rfl) ?_
 refine Qx g rfl (v:=Pt l 3) (fun _ ⟨_,d⟩=>Run.fieldAddr Ws rfl) ?_
 have ez:=(Bs ex a1)
 refine Qx g rfl (v:=.func (.func 52) #[] [Pt ao 0].toArray) (fun _ ⟨_,d⟩=>Run.load1 ZB rfl (Bk.cell (Bs ez d) rfl)) ?_
 refine Qx g rfl (v:=Pt m 6) (fun _ ⟨_,d⟩=>Run.fieldAddr PV rfl) ?_
 have ke:=(Y3 ct e bm a1)
 refine Qx g rfl (v:=I a.at_) (fun _ ⟨_,d⟩=>Run.load1 Be rfl (Bk.cell (Bs ke d) rfl)) ?_
 refine BW rfl ?_
 have kf:=(Bs ey a1)
 obtain ⟨cc,kg,c⟩:=bnd_sm c
 refine BN rfl (.none rfl) rfl rfl (AAS (vs:=[I a.at_]) (caps:=[Pt ao 0]) rfl rfl) ?_
 refine Calls.mono (QL an kc kg dcd dcd kf (Aj (x:=(AE.mk ba bb)))) ?_
 rintro _ mj ⟨kh,mk,rfl,bn,ki,kj⟩
 obtain rfl:=An kj
 refine ⟨_,rfl,⟨_,(Mo [3] bn)⟩,?_⟩
 refine Ex ?_
 obtain rfl:=AP c
 refine Ln (B:=B) cr (Lm rfl ?_)
 have kk:=(Bs ez bn)
 have kl:=(K2 AL eu a1 bn)
 have km:=(Os (Os ew a1) bn)
 exact ⟨kh,Sl bi av bj,Sl bk aw bl,[I cc.why,I cc.at_],rfl,Ho (Tn (T4 (Mo [1,3,4,23,24,25] h) f e bm a1) bn) cf,kk,kl,km,ki,(Aj (x:=cc))⟩
 refine WC.skip ?_
 obtain rfl:=AP c
 refine Ln (B:=B) cr (Lm rfl ?_)
 exact ⟨an,Sl bi av bj,Sl bk aw bl,[I ba,I bb],rfl,Ho (T3 (Mo [1,3,4,23,24,25] h) f e bm) cf,ex,eu,ew,ey,(Aj (x:=(AE.mk ba bb)))⟩
theorem NK(e:AF)(g:Nat)(o:AF.Good e):types_checker_want.Spec (FX e g):=by
 intro f h ai a aj ak al am ko0_2 an c ao ap d aq ar au av aw ax p hnd hnz l q r s m u w
 refine Calls.mono (NJ e g o (recol (see [a,c,d,ko0_2]) f) h (A3 lbr f) (A1 l [a,c,d,ko0_2] (A8 hnd hnz (i:=0) rfl)) (DC AL q [a,c,d,ko0_2]) (JE r [a,c,d,ko0_2] (A8 hnd hnz (i:=3) rfl)) (GE s [a,c,d,ko0_2] (A8 hnd hnz (i:=1) rfl)) (A1 m [a,c,d,ko0_2] (A8 hnd hnz (i:=2) rfl)) (Av Aq u [a,c,d,ko0_2]) (Av AJ w [a,c,d,ko0_2]) p) ?_
 rintro ay az ⟨y,z,aa,ab,ac,n,ad,ae,af,ag,ah⟩
 exact ⟨glue [a,c,d,ko0_2] h f y,z,aa,ab,ac,Ah n (DI rfl rfl),B9 l ad dcd,Et AL ae,JQ (j:=3) af rfl rfl n,B9 m ag dcd,BA Aq ah⟩
theorem Ns(w:AF)(au:Nat)(bd:AF.Good w)(d:Col)(e:World)(be:∀b,d b<10){y:Nat}{am:(List AK)}{av:Value}{an:(List AH)}{aw:Value}{ae:Nat}{z:Ae}{aa:Nat}{af:AE}{ax:List Value}{h:Int}{f:(List AD)}{ay:Value}{ab:(List AK)×(List AH)×AE}(bf:Bk d e 1 y [.map (some ae),av,aw,.func (.func 52) #[] [Pt aa 0].toArray] 134)(az:Slc AL d.F e av am)(a0:Own Ai 87 d e 4 aw an)(bg:Mp d e 2 ae z)(bh:Bk d e 3 aa ax 63)(bi:Aq.rep d.F e ax af)(ao:Slc AJ d.F e ay f)(c:IT w au am an z af h f=some ab):
  Calls Tryz.prog 82 #[Pt y 0,I h,ay] e fun bj ac=>∃(ad:Col) (a1:Value) (a2:Value) (a3:List Value),bj=.returned (.tuple #[])∧AO [1,3,4] d e ad ac∧Bk ad ac 1 y [.map (some ae),a1,a2,.func (.func 52) #[] [Pt aa 0].toArray] 134∧Slc AL ad.F ac a1 ab.1∧Own Ai 87 ad ac 4 a2 ab.2.1∧Bk ad ac 3 aa a3 63∧Aq.rep ad.F ac a3 ab.2.2:=by
 rw [IT] at c
 obtain ⟨bk,bl,rfl⟩:=AI az
 obtain ⟨bm,bn,rfl⟩:=Own.len a0
 obtain rfl:=An bi
 obtain ⟨bo,bp,rfl⟩:=AI ao
 refine A5 Tryz.func82 rfl Tryz.ntmps82 rfl fun B bq ct=>Sr<|Vm ?_
 obtain ⟨cu,cv,br⟩:=AI ao
 refine Vx (v:=I (f.length:Int)) (Run.lenSlc Dx br)<|Vm<|AA<|Ao<|CZ (fun l bt m=>∃(a4:Env) (g:Col) (x93:Int) (n:(List AK)) (ag:Option Addr) (ah:Nat) (o:(List AH)) (ai:Option Addr) (aj:Nat) (p:Int) (q:Int),bt=a4.puts [(0,.pointer (some ⟨y,0,none⟩)),(1,.int .i64 h),(8,.slice bo f.length bp),(9,.int .i64 (f.length:Int)),(10,.int .i64 x93)]∧DX w z h f l x93 n o p q=some ab∧AO [1,3,4,20] d e g m∧Slc AL g.F m (Sl ag n ah) n∧Own Ai 87 g m 4 (Sl ai o aj) o∧Bk g m 1 y [.map (some ae),Sl ag n ah,Sl ai o aj,.func (.func 52) #[] [Pt aa 0].toArray] 134∧Bk g m 3 aa [I p,I q] 63) au ?_ ?_
 exact ⟨_,d,0,am,bk,bl,an,bm,bn,af.why,af.at_,Pu,c,(AO.refl [1,3,4,20] _ _),az,a0,bf,bh⟩
 rintro l _ m ⟨a4,g,x93,n,ag,ah,o,ai,aj,p,q,rfl,c,ak,a5,a6,a7,a8⟩
 rcases l with _|l
 exact BK c
 refine have c:D7 w z h f (DX w z h f l) x93 n o p q=some ab:=c; ?_
 obtain ⟨cw,a9⟩:∃s,s=DX w z h f l:=⟨_,rfl⟩
 rw [←a9,D7] at c
 refine Sr<|Vr (.bool (decide (x93< (f.length:Int))))<|AA<|Ac<|Cn c (fun bu c=>?_) fun bu c=>?_
 refine WC.skip<|Ac<|Ao<|Sr<|Bi c fun a bv c=>have bw:=Ss AJ ao ak; ?_
 obtain ⟨bx,bz,cx,b0,b1,b2,b3,b4,ap⟩:=BX (κ:=AJ) bw bv
 replace ap:BG g m bx (bz+x93.toNat*7) b0:=ap
 obtain ⟨cy,rfl,ba⟩:=Am b4
 obtain ⟨aq,ar,rfl⟩:=AI ba
 refine Vx (Run.indexAddr Dx b1 rfl b2 b3)<|Vx (Run.loadN BL rfl rfl (BG.part0 ap [I a.op,Sb a.name,Sb a.tail,I a.type_,Cx a.num,Sl aq a.args ar,I a.at_] rfl))<|Ef (AY g 20 DJ rfl fun b5 cz c0 b6 r=>?_)
 refine have b7:=Ss AJ ba r;Eu (St Dd b6 rfl rfl rfl rfl fun b8 b9 u=>?_)
 refine AA<|AQ<|Vm<|Vx (Run.loadN BL rfl rfl (Bk.part b9 0 [I a.op,Sb a.name,Sb a.tail,I a.type_,Cx a.num,Sl aq a.args ar,I a.at_] rfl))<|Vm<|have ca:=Y2 a7 r u;have cb:=K2 AL a5 r u;have cc:=Os (Os a6 r) u;have cd:=Ms (Ms (Ms bg ak) r) u;have cf:=Y2 a8 r u;have cg:=Ss AJ b7 u;Bi c fun al ch c=>Ca (K1 [Pt y 0,.agg [I a.op,Sb a.name,Sb a.tail,I a.type_,Cx a.num,Sl aq a.args ar,I a.at_].toArray,I h] rfl) (bd.types_checker_want b5 b8 (ko0_2:=4) ch dcd dcd ca cb cc cd cf (Aj (x:=(AE.mk p q))) (Ag (x:=a) cg)) ?_
 rintro _ c1 ⟨ci,c2,c3,c4,rfl,cj,ck,bb,bc,cl,cm⟩
 obtain ⟨cn,co,rfl⟩:=AI bb
 obtain ⟨cq,cr,rfl⟩:=Own.len bc
 obtain rfl:=An cm
 refine ⟨_,rfl,?_⟩
 refine AA<|AQ<|Vr (I (Wr (x93+1)))<|Vm<|AA<|⟨l,Nat.lt_succ_self l,_,ci,(Wr (x93+1)),al.1,cn,co,al.2.1,cq,cr,al.2.2.why,al.2.2.at_,Pu,(a9▸c),(T3 (Mo [1,3,4,20] ak) r u cj),bb,bc,ck,cl⟩
 refine CF ?_
 obtain rfl:=AP c
 refine Ln (B:=B) bq (Lm rfl ?_)
 exact ⟨g,Sl ag n ah,Sl ai o aj,[I p,I q],rfl,Ho (Mo [1,3,4,20] ak) be,a7,a5,a6,a8,(Aj (x:=(AE.mk p q)))⟩
theorem Nt(e:AF)(g:Nat)(o:AF.Good e):types_checker_all.Spec (IT e g):=by
 intro f h ai a aj ak al am ko0_2 an c ao ap d aq ar au av aw ax p hnd hnz l q r s m u w
 refine Calls.mono (Ns e g o (recol (see [a,c,d,ko0_2]) f) h (A3 lbr f) (A1 l [a,c,d,ko0_2] (A8 hnd hnz (i:=0) rfl)) (DC AL q [a,c,d,ko0_2]) (JE r [a,c,d,ko0_2] (A8 hnd hnz (i:=3) rfl)) (GE s [a,c,d,ko0_2] (A8 hnd hnz (i:=1) rfl)) (A1 m [a,c,d,ko0_2] (A8 hnd hnz (i:=2) rfl)) (Av Aq u [a,c,d,ko0_2]) (DC AJ w [a,c,d,ko0_2]) p) ?_
 rintro ay az ⟨y,z,aa,ab,ac,n,ad,ae,af,ag,ah⟩
 exact ⟨glue [a,c,d,ko0_2] h f y,z,aa,ab,ac,Ah n (DI rfl rfl),B9 l ad dcd,Et AL ae,JQ (j:=3) af rfl rfl n,B9 m ag dcd,BA Aq ah⟩
theorem OR(ak:AF)(bc:Nat)(bd:AF.Good ak)(a:Col)(c:World)(be:∀b,a b<10){p:Nat}{ab:(List AK)}{al:Value}{g:(List AH)}{am:Value}{n:Nat}{an:Ae}{h:Nat}{ac:AE}{ao:List Value}{ad:Nat}{ae:Nat}{af:AD}{ap:List Value}{ag:Nat}{aq:Int}{q:(List AH)}{ar:Value}{r:(List AK)×(List AH)×AE}(ah:Bk a c 1 p [.map (some n),al,am,.func (.func 52) #[] [Pt h 0].toArray] 134)(au:Slc AL a.F c al ab)(ai:Own Ai 87 a c 7 am g)(bf:Mp a c 2 n an)(bg:Bk a c 3 h ao 63)(bh:Aq.rep a.F c ao ac)(bi:Bk a c 4 ad [Pt p 0] 130)(bj:Bk a c 5 ae ap 56)(bk:AJ.rep a.F c ap af)(bl:Bk a c 6 ag [I aq] 34)(av:Slc Ai a.F c ar q)(f:GP ak bc ab g an ac af aq q=some r):
  Calls Tryz.prog 83 #[Pt p 0,.func (.func 84) #[] [Pt ad 0,Pt ae 0,Pt ag 0].toArray,ar] c fun bm l=>∃(m:Col) (aw:Value) (ax:Value) (ay:List Value),bm=.returned (.tuple #[])∧AO [1,3,7] a c m l∧Bk m l 1 p [.map (some n),aw,ax,.func (.func 52) #[] [Pt h 0].toArray] 134∧Slc AL m.F l aw r.1∧Own Ai 87 m l 7 ax r.2.1∧Bk m l 3 h ay 63∧Aq.rep m.F l ay r.2.2:=by
 rw [GP] at f
 obtain ⟨bn,bo,rfl⟩:=AI au
 obtain ⟨ck,cl,rfl⟩:=Own.len ai
 obtain rfl:=An bh
 obtain ⟨cm,rfl,az⟩:=Am bk
 obtain ⟨cn,co,rfl⟩:=AI az
 obtain ⟨cq,cr,rfl⟩:=AI av
 refine A5 Tryz.func83 rfl Tryz.ntmps83 rfl fun B bp ct=>Sr<|Vm<|Vx (Run.nilCheck rfl)<|Vx (Run.fieldAddr En rfl)<|Vx (Run.load1 HY rfl (Bk.cell ah rfl)) ?_
 obtain ⟨cu,cv,bq⟩:=Own.len ai
 refine Vx (v:=I (g.length:Int)) (Run.lenSlc G9 bq)<|Va (I (g.length:Int))<|AA<|Sr<|Vm<|Vm<|Vx (Run.nilCheck rfl)<|Vx (Run.fieldAddr En rfl)<|Vx (Run.load1 HY rfl (Bk.cell ah rfl))<|Vm<|Bi f fun cw a0 f=>Ef (Ey (κ:=Ai) rfl rfl ai dcd Rm (LX av) (JP a0) (Js a0) fun cx br cy aj d=>?_)
 obtain ⟨a1,a2,rfl⟩:=Own.len aj
 refine Vx (Run.nilCheck rfl)<|Vx (Run.fieldAddr En rfl)<|have bt:=Bs ah d;Eu (Bf (vs:=[Sl a1 ((g++q)) a2]) (cs':=[.map (some n),Sl bn ab bo,Sl a1 ((g++q)) a2,.func (.func 52) #[] [Pt h 0].toArray]) OE rfl rfl rfl rfl (AU (Own.one aj) CI) bt dcd rfl rfl fun bu bv e=>?_)
 refine AA<|Sr<|Vm<|have bw:=Y2 bi d e;have bx:=K2 AL au d e;have bz:=Os aj e;have b0:=Ms (Ms bf d) e;have b1:=Y2 bg d e;have b2:=Y2 bj d e;have b3:=K2 AJ az d e;have b4:=Y2 bl d e;Bi f fun o b5 f=>Ca (AAU (vs:=[]) (caps:=[Pt ad 0,Pt ae 0,Pt ag 0]) rfl rfl) (bd.types_checker_want_1 br bu (ko1_2:=7) b5 dcd dcd bw bv bx bz b0 b1 (Aj (x:=ac)) b2 (Ag (x:=af) b3) b4) ?_
 rintro _ cz ⟨b6,c0,c1,c2,rfl,b7,a3,a4,a5,b8,b9⟩
 obtain ⟨a6,a7,rfl⟩:=AI a4
 obtain ⟨c3,c4,rfl⟩:=Own.len a5
 obtain rfl:=An b9
 refine ⟨_,rfl,?_⟩
 refine AA<|AQ<|Vm<|Vm<|Vx (Run.nilCheck rfl)<|Vx (Run.fieldAddr En rfl)<|Vx (Run.load1 HY rfl (Bk.cell a3 rfl))<|Vm<|Bi f fun u a8 f=>?_
 obtain ⟨a9,ba,ca,cb,w⟩:=Own.sub a5 a8
 obtain ⟨c5,bb⟩:∃s,s=Value.slice (if ba=(0:Int).toNat then a9 else a9.map (·.add ((0:Int).toNat*Ai.size))) ((g.length:Int).toNat - (0:Int).toNat) (ba - (0:Int).toNat):=⟨_,rfl⟩
 rw [←bb] at w
 obtain ⟨cc,cd,cf,_⟩:=KT a8
 obtain ⟨y,z,rfl⟩:=Own.len w
 refine Vx (v:=.slice y u.length z) (by rw [bb];exact Run.sliceSlc G9 ca rfl ⟨_,rfl⟩ cc cd cf cb)<|Vx (Run.nilCheck rfl)<|Vx (Run.fieldAddr En rfl)<|Eu (Bf (vs:=[Sl y u z]) (cs':=[.map (some n),Sl a6 o.1 a7,Sl y u z,.func (.func 52) #[] [Pt h 0].toArray]) OE rfl rfl rfl rfl (AU (Own.one w) CI) a3 dcd rfl rfl fun c6 cg aa=>?_)
 refine AA ?_
 obtain rfl:=AP f
 refine Ln (B:=B) bp (Lm rfl ?_)
 refine have ch:=Ss AL a4 aa;have ci:=Os w aa;have cj:=Bs b8 aa;⟨b6,Sl a6 o.1 a7,Sl y u z,[I o.2.2.why,I o.2.2.at_],rfl,Ho (T3 (Mo [1,3,7] d) e b7 aa) be,cg,ch,ci,cj,(Aj (x:=o.2.2))⟩
theorem OS(h:AF)(m:Nat)(r:AF.Good h):types_checker_in.Spec (GP h m):=by
 intro l n ap a aq ar au av ko0_2 aw c ax ay d az a0 a1 e a2 f a3 a4 a5 g a6 a7 a8 a9 s hnd hnz o u w y p z aa ab ac ad ae
 refine Calls.mono (OR h m r (recol (see [a,c,d,e,f,g,ko0_2]) l) n (A3 lbr l) (A1 o [a,c,d,e,f,g,ko0_2] (A8 hnd hnz (i:=0) rfl)) (DC AL u [a,c,d,e,f,g,ko0_2]) (JE w [a,c,d,e,f,g,ko0_2] (A8 hnd hnz (i:=6) rfl)) (GE y [a,c,d,e,f,g,ko0_2] (A8 hnd hnz (i:=1) rfl)) (A1 p [a,c,d,e,f,g,ko0_2] (A8 hnd hnz (i:=2) rfl)) (Av Aq z [a,c,d,e,f,g,ko0_2]) (A1 aa [a,c,d,e,f,g,ko0_2] (A8 hnd hnz (i:=3) rfl)) (A1 ab [a,c,d,e,f,g,ko0_2] (A8 hnd hnz (i:=4) rfl)) (Av AJ ac [a,c,d,e,f,g,ko0_2]) (A1 ad [a,c,d,e,f,g,ko0_2] (A8 hnd hnz (i:=5) rfl)) (DC Ai ae [a,c,d,e,f,g,ko0_2]) s) ?_
 rintro ba bb ⟨af,ag,ah,ai,aj,q,ak,al,am,an,ao⟩
 exact ⟨glue [a,c,d,e,f,g,ko0_2] n l af,ag,ah,ai,aj,Ah q (DI rfl rfl),B9 o ak dcd,Et AL al,JQ (j:=6) am rfl rfl q,B9 p an dcd,BA Aq ao⟩
theorem NL(ak:AF)(bc:Nat)(bd:AF.Good ak)(a:Col)(c:World)(be:∀b,a b<10){p:Nat}{ab:(List AK)}{al:Value}{g:(List AH)}{am:Value}{n:Nat}{an:Ae}{h:Nat}{ac:AE}{ao:List Value}{ad:Nat}{ae:Nat}{af:AD}{ap:List Value}{ag:Nat}{aq:Int}{q:(List AH)}{ar:Value}{r:(List AK)×(List AH)×AE}(ah:Bk a c 1 p [.map (some n),al,am,.func (.func 52) #[] [Pt h 0].toArray] 134)(au:Slc AL a.F c al ab)(ai:Own Ai 87 a c 7 am g)(bf:Mp a c 2 n an)(bg:Bk a c 3 h ao 63)(bh:Aq.rep a.F c ao ac)(bi:Bk a c 4 ad [Pt p 0] 130)(bj:Bk a c 5 ae ap 56)(bk:AJ.rep a.F c ap af)(bl:Bk a c 6 ag [I aq] 34)(av:Slc Ai a.F c ar q)(f:FY ak bc ab g an ac af aq q=some r):
  Calls Tryz.prog 83 #[Pt p 0,.func (.func 85) #[] [Pt ad 0,Pt ae 0,Pt ag 0].toArray,ar] c fun bm l=>∃(m:Col) (aw:Value) (ax:Value) (ay:List Value),bm=.returned (.tuple #[])∧AO [1,3,7] a c m l∧Bk m l 1 p [.map (some n),aw,ax,.func (.func 52) #[] [Pt h 0].toArray] 134∧Slc AL m.F l aw r.1∧Own Ai 87 m l 7 ax r.2.1∧Bk m l 3 h ay 63∧Aq.rep m.F l ay r.2.2:=by
 rw [FY] at f
 obtain ⟨bn,bo,rfl⟩:=AI au
 obtain ⟨ck,cl,rfl⟩:=Own.len ai
 obtain rfl:=An bh
 obtain ⟨cm,rfl,az⟩:=Am bk
 obtain ⟨cn,co,rfl⟩:=AI az
 obtain ⟨cq,cr,rfl⟩:=AI av
 refine A5 Tryz.func83 rfl Tryz.ntmps83 rfl fun B bp ct=>Sr<|Vm<|Vx (Run.nilCheck rfl)<|Vx (Run.fieldAddr En rfl)<|Vx (Run.load1 HY rfl (Bk.cell ah rfl)) ?_
 obtain ⟨cu,cv,bq⟩:=Own.len ai
 refine Vx (v:=I (g.length:Int)) (Run.lenSlc G9 bq)<|Va (I (g.length:Int))<|AA<|Sr<|Vm<|Vm<|Vx (Run.nilCheck rfl)<|Vx (Run.fieldAddr En rfl)<|Vx (Run.load1 HY rfl (Bk.cell ah rfl))<|Vm<|Bi f fun cw a0 f=>Ef (Ey (κ:=Ai) rfl rfl ai dcd Rm (LX av) (JP a0) (Js a0) fun cx br cy aj d=>?_)
 obtain ⟨a1,a2,rfl⟩:=Own.len aj
 refine Vx (Run.nilCheck rfl)<|Vx (Run.fieldAddr En rfl)<|have bt:=Bs ah d;Eu (Bf (vs:=[Sl a1 ((g++q)) a2]) (cs':=[.map (some n),Sl bn ab bo,Sl a1 ((g++q)) a2,.func (.func 52) #[] [Pt h 0].toArray]) OE rfl rfl rfl rfl (AU (Own.one aj) CI) bt dcd rfl rfl fun bu bv e=>?_)
 refine AA<|Sr<|Vm<|have bw:=Y2 bi d e;have bx:=K2 AL au d e;have bz:=Os aj e;have b0:=Ms (Ms bf d) e;have b1:=Y2 bg d e;have b2:=Y2 bj d e;have b3:=K2 AJ az d e;have b4:=Y2 bl d e;Bi f fun o b5 f=>Ca (AAV (vs:=[]) (caps:=[Pt ad 0,Pt ae 0,Pt ag 0]) rfl rfl) (bd.types_checker_want_2 br bu (ko1_2:=7) b5 dcd dcd bw bv bx bz b0 b1 (Aj (x:=ac)) b2 (Ag (x:=af) b3) b4) ?_
 rintro _ cz ⟨b6,c0,c1,c2,rfl,b7,a3,a4,a5,b8,b9⟩
 obtain ⟨a6,a7,rfl⟩:=AI a4
 obtain ⟨c3,c4,rfl⟩:=Own.len a5
 obtain rfl:=An b9
 refine ⟨_,rfl,?_⟩
 refine AA<|AQ<|Vm<|Vm<|Vx (Run.nilCheck rfl)<|Vx (Run.fieldAddr En rfl)<|Vx (Run.load1 HY rfl (Bk.cell a3 rfl))<|Vm<|Bi f fun u a8 f=>?_
 obtain ⟨a9,ba,ca,cb,w⟩:=Own.sub a5 a8
 obtain ⟨c5,bb⟩:∃s,s=Value.slice (if ba=(0:Int).toNat then a9 else a9.map (·.add ((0:Int).toNat*Ai.size))) ((g.length:Int).toNat - (0:Int).toNat) (ba - (0:Int).toNat):=⟨_,rfl⟩
 rw [←bb] at w
 obtain ⟨cc,cd,cf,_⟩:=KT a8
 obtain ⟨y,z,rfl⟩:=Own.len w
 refine Vx (v:=.slice y u.length z) (by rw [bb];exact Run.sliceSlc G9 ca rfl ⟨_,rfl⟩ cc cd cf cb)<|Vx (Run.nilCheck rfl)<|Vx (Run.fieldAddr En rfl)<|Eu (Bf (vs:=[Sl y u z]) (cs':=[.map (some n),Sl a6 o.1 a7,Sl y u z,.func (.func 52) #[] [Pt h 0].toArray]) OE rfl rfl rfl rfl (AU (Own.one w) CI) a3 dcd rfl rfl fun c6 cg aa=>?_)
 refine AA ?_
 obtain rfl:=AP f
 refine Ln (B:=B) bp (Lm rfl ?_)
 refine have ch:=Ss AL a4 aa;have ci:=Os w aa;have cj:=Bs b8 aa;⟨b6,Sl a6 o.1 a7,Sl y u z,[I o.2.2.why,I o.2.2.at_],rfl,Ho (T3 (Mo [1,3,7] d) e b7 aa) be,cg,ch,ci,cj,(Aj (x:=o.2.2))⟩
theorem NM(h:AF)(m:Nat)(r:AF.Good h):types_checker_in_2.Spec (FY h m):=by
 intro l n ap a aq ar au av ko0_2 aw c ax ay d az a0 a1 e a2 f a3 a4 a5 g a6 a7 a8 a9 s hnd hnz o u w y p z aa ab ac ad ae
 refine Calls.mono (NL h m r (recol (see [a,c,d,e,f,g,ko0_2]) l) n (A3 lbr l) (A1 o [a,c,d,e,f,g,ko0_2] (A8 hnd hnz (i:=0) rfl)) (DC AL u [a,c,d,e,f,g,ko0_2]) (JE w [a,c,d,e,f,g,ko0_2] (A8 hnd hnz (i:=6) rfl)) (GE y [a,c,d,e,f,g,ko0_2] (A8 hnd hnz (i:=1) rfl)) (A1 p [a,c,d,e,f,g,ko0_2] (A8 hnd hnz (i:=2) rfl)) (Av Aq z [a,c,d,e,f,g,ko0_2]) (A1 aa [a,c,d,e,f,g,ko0_2] (A8 hnd hnz (i:=3) rfl)) (A1 ab [a,c,d,e,f,g,ko0_2] (A8 hnd hnz (i:=4) rfl)) (Av AJ ac [a,c,d,e,f,g,ko0_2]) (A1 ad [a,c,d,e,f,g,ko0_2] (A8 hnd hnz (i:=5) rfl)) (DC Ai ae [a,c,d,e,f,g,ko0_2]) s) ?_
 rintro ba bb ⟨af,ag,ah,ai,aj,q,ak,al,am,an,ao⟩
 exact ⟨glue [a,c,d,e,f,g,ko0_2] n l af,ag,ah,ai,aj,Ah q (DI rfl rfl),B9 o ak dcd,Et AL al,JQ (j:=6) am rfl rfl q,B9 p an dcd,BA Aq ao⟩
theorem NN(ak:AF)(bc:Nat)(bd:AF.Good ak)(a:Col)(c:World)(be:∀b,a b<10){p:Nat}{ab:(List AK)}{al:Value}{g:(List AH)}{am:Value}{n:Nat}{an:Ae}{h:Nat}{ac:AE}{ao:List Value}{ad:Nat}{ae:Nat}{af:AD}{ap:List Value}{ag:Nat}{aq:Int}{q:(List AH)}{ar:Value}{r:(List AK)×(List AH)×AE}(ah:Bk a c 1 p [.map (some n),al,am,.func (.func 52) #[] [Pt h 0].toArray] 134)(au:Slc AL a.F c al ab)(ai:Own Ai 87 a c 7 am g)(bf:Mp a c 2 n an)(bg:Bk a c 3 h ao 63)(bh:Aq.rep a.F c ao ac)(bi:Bk a c 4 ad [Pt p 0] 130)(bj:Bk a c 5 ae ap 56)(bk:AJ.rep a.F c ap af)(bl:Bk a c 6 ag [I aq] 34)(av:Slc Ai a.F c ar q)(f:FZ ak bc ab g an ac af aq q=some r):
  Calls Tryz.prog 83 #[Pt p 0,.func (.func 86) #[] [Pt ad 0,Pt ae 0,Pt ag 0].toArray,ar] c fun bm l=>∃(m:Col) (aw:Value) (ax:Value) (ay:List Value),bm=.returned (.tuple #[])∧AO [1,3,7] a c m l∧Bk m l 1 p [.map (some n),aw,ax,.func (.func 52) #[] [Pt h 0].toArray] 134∧Slc AL m.F l aw r.1∧Own Ai 87 m l 7 ax r.2.1∧Bk m l 3 h ay 63∧Aq.rep m.F l ay r.2.2:=by
 rw [FZ] at f
 obtain ⟨bn,bo,rfl⟩:=AI au
 obtain ⟨ck,cl,rfl⟩:=Own.len ai
 obtain rfl:=An bh
 obtain ⟨cm,rfl,az⟩:=Am bk
 obtain ⟨cn,co,rfl⟩:=AI az
 obtain ⟨cq,cr,rfl⟩:=AI av
 refine A5 Tryz.func83 rfl Tryz.ntmps83 rfl fun B bp ct=>Sr<|Vm<|Vx (Run.nilCheck rfl)<|Vx (Run.fieldAddr En rfl)<|Vx (Run.load1 HY rfl (Bk.cell ah rfl)) ?_
 obtain ⟨cu,cv,bq⟩:=Own.len ai
 refine Vx (v:=I (g.length:Int)) (Run.lenSlc G9 bq)<|Va (I (g.length:Int))<|AA<|Sr<|Vm<|Vm<|Vx (Run.nilCheck rfl)<|Vx (Run.fieldAddr En rfl)<|Vx (Run.load1 HY rfl (Bk.cell ah rfl))<|Vm<|Bi f fun cw a0 f=>Ef (Ey (κ:=Ai) rfl rfl ai dcd Rm (LX av) (JP a0) (Js a0) fun cx br cy aj d=>?_)
 obtain ⟨a1,a2,rfl⟩:=Own.len aj
 refine Vx (Run.nilCheck rfl)<|Vx (Run.fieldAddr En rfl)<|have bt:=Bs ah d;Eu (Bf (vs:=[Sl a1 ((g++q)) a2]) (cs':=[.map (some n),Sl bn ab bo,Sl a1 ((g++q)) a2,.func (.func 52) #[] [Pt h 0].toArray]) OE rfl rfl rfl rfl (AU (Own.one aj) CI) bt dcd rfl rfl fun bu bv e=>?_)
 refine AA<|Sr<|Vm<|have bw:=Y2 bi d e;have bx:=K2 AL au d e;have bz:=Os aj e;have b0:=Ms (Ms bf d) e;have b1:=Y2 bg d e;have b2:=Y2 bj d e;have b3:=K2 AJ az d e;have b4:=Y2 bl d e;Bi f fun o b5 f=>Ca (AAW (vs:=[]) (caps:=[Pt ad 0,Pt ae 0,Pt ag 0]) rfl rfl) (bd.types_checker_want_3 br bu (ko1_2:=7) b5 dcd dcd bw bv bx bz b0 b1 (Aj (x:=ac)) b2 (Ag (x:=af) b3) b4) ?_
 rintro _ cz ⟨b6,c0,c1,c2,rfl,b7,a3,a4,a5,b8,b9⟩
 obtain ⟨a6,a7,rfl⟩:=AI a4
 obtain ⟨c3,c4,rfl⟩:=Own.len a5
 obtain rfl:=An b9
 refine ⟨_,rfl,?_⟩
 refine AA<|AQ<|Vm<|Vm<|Vx (Run.nilCheck rfl)<|Vx (Run.fieldAddr En rfl)<|Vx (Run.load1 HY rfl (Bk.cell a3 rfl))<|Vm<|Bi f fun u a8 f=>?_
 obtain ⟨a9,ba,ca,cb,w⟩:=Own.sub a5 a8
 obtain ⟨c5,bb⟩:∃s,s=Value.slice (if ba=(0:Int).toNat then a9 else a9.map (·.add ((0:Int).toNat*Ai.size))) ((g.length:Int).toNat - (0:Int).toNat) (ba - (0:Int).toNat):=⟨_,rfl⟩
 rw [←bb] at w
 obtain ⟨cc,cd,cf,_⟩:=KT a8
 obtain ⟨y,z,rfl⟩:=Own.len w
 refine Vx (v:=.slice y u.length z) (by rw [bb];exact Run.sliceSlc G9 ca rfl ⟨_,rfl⟩ cc cd cf cb)<|Vx (Run.nilCheck rfl)<|Vx (Run.fieldAddr En rfl)<|Eu (Bf (vs:=[Sl y u z]) (cs':=[.map (some n),Sl a6 o.1 a7,Sl y u z,.func (.func 52) #[] [Pt h 0].toArray]) OE rfl rfl rfl rfl (AU (Own.one w) CI) a3 dcd rfl rfl fun c6 cg aa=>?_)
 refine AA ?_
 obtain rfl:=AP f
 refine Ln (B:=B) bp (Lm rfl ?_)
 refine have ch:=Ss AL a4 aa;have ci:=Os w aa;have cj:=Bs b8 aa;⟨b6,Sl a6 o.1 a7,Sl y u z,[I o.2.2.why,I o.2.2.at_],rfl,Ho (T3 (Mo [1,3,7] d) e b7 aa) be,cg,ch,ci,cj,(Aj (x:=o.2.2))⟩
theorem NO(h:AF)(m:Nat)(r:AF.Good h):types_checker_in_3.Spec (FZ h m):=by
 intro l n ap a aq ar au av ko0_2 aw c ax ay d az a0 a1 e a2 f a3 a4 a5 g a6 a7 a8 a9 s hnd hnz o u w y p z aa ab ac ad ae
 refine Calls.mono (NN h m r (recol (see [a,c,d,e,f,g,ko0_2]) l) n (A3 lbr l) (A1 o [a,c,d,e,f,g,ko0_2] (A8 hnd hnz (i:=0) rfl)) (DC AL u [a,c,d,e,f,g,ko0_2]) (JE w [a,c,d,e,f,g,ko0_2] (A8 hnd hnz (i:=6) rfl)) (GE y [a,c,d,e,f,g,ko0_2] (A8 hnd hnz (i:=1) rfl)) (A1 p [a,c,d,e,f,g,ko0_2] (A8 hnd hnz (i:=2) rfl)) (Av Aq z [a,c,d,e,f,g,ko0_2]) (A1 aa [a,c,d,e,f,g,ko0_2] (A8 hnd hnz (i:=3) rfl)) (A1 ab [a,c,d,e,f,g,ko0_2] (A8 hnd hnz (i:=4) rfl)) (Av AJ ac [a,c,d,e,f,g,ko0_2]) (A1 ad [a,c,d,e,f,g,ko0_2] (A8 hnd hnz (i:=5) rfl)) (DC Ai ae [a,c,d,e,f,g,ko0_2]) s) ?_
 rintro ba bb ⟨af,ag,ah,ai,aj,q,ak,al,am,an,ao⟩
 exact ⟨glue [a,c,d,e,f,g,ko0_2] n l af,ag,ah,ai,aj,Ah q (DI rfl rfl),B9 o ak dcd,Et AL al,JQ (j:=6) am rfl rfl q,B9 p an dcd,BA Aq ao⟩
theorem Nu(a9:AF)(ba:Nat)(au:AF.Good a9)(y:Col)(ad:World)(z:∀b,y b<10){q:Nat}{n:(List AK)}{bt:Value}{g:(List AH)}{bu:Value}{bb:Nat}{bc:Ae}{a3:Nat}{f:AE}{bv:List Value}{e:AD}{bw:List Value}{ae:Int×(List AK)×(List AH)×AE}(ai:Bk y ad 1 q [.map (some bb),bt,bu,.func (.func 52) #[] [Pt a3 0].toArray] 134)(aa:Slc AL y.F ad bt n)(af:Own Ai 87 y ad 4 bu g)(a4:Mp y ad 2 bb bc)(ag:Bk y ad 3 a3 bv 63)(c0:Aq.rep y.F ad bv f)(c1:AJ.rep y.F ad bw e)(a:F2 a9 ba n g bc f e=some ae):
  Calls Tryz.prog 87 #[Pt q 0,.agg bw.toArray] ad fun c2 ap=>∃(aq:Col) (bx:Value) (bz:Value) (b0:List Value),c2=.returned (I ae.1)∧AO [1,3,4] y ad aq ap∧Bk aq ap 1 q [.map (some bb),bx,bz,.func (.func 52) #[] [Pt a3 0].toArray] 134∧Slc AL aq.F ap bx ae.2.1∧Own Ai 87 aq ap 4 bz ae.2.2.1∧Bk aq ap 3 a3 b0 63∧Aq.rep aq.F ap b0 ae.2.2.2:=by
 rw [F2] at a
 obtain ⟨av,aw,rfl⟩:=AI aa
 obtain ⟨ax,ay,rfl⟩:=Own.len af
 obtain rfl:=An c0
 obtain ⟨g0,rfl,az⟩:=Am c1
 obtain ⟨a5,a6,rfl⟩:=AI az
 refine A5 Tryz.func87 rfl Tryz.ntmps87 rfl fun B ab r=>Sr<|Ef (By y 20 rfl rfl fun bd c3 b1 an d=>?_)
 refine Va (I 0)<|AA<|Ac<|Sr<|Vx (Run.fieldAddr0 GJ rfl)<|Vx (Run.load1 Kl rfl (Bk.cell an rfl))<|AA<|Ao<|Au (fun a0 aj=>∃(ak:Env) (o:Col) (be:Bool),a0=ak.puts [(0,.pointer (some ⟨q,0,none⟩)),(3,.pointer (some ⟨b1,0,none⟩)),(7,.int .i64 e.op),(8,.bool be)]∧ER a9 ba n g bc f e be=some ae∧AO [] bd c3 o aj) ?_ ?_
 refine Sr<|Vr (.bool (e.op==2))<|Va (.bool (e.op==2))<|AA<|Cn a (fun c4 a=>?_) fun c4 a=>?_
 refine WC.skip<|⟨_,bd,(e.op==2),Pu,a,(AO.refl [] _ _)⟩
 refine AQ<|Vr (.bool (e.op==3))<|Va (.bool (e.op==3))<|AA<|⟨_,bd,(e.op==3),Pu,a,(AO.refl [] _ _)⟩
 rintro _ aj ⟨ak,o,be,rfl,a,c⟩
 rw [ER] at a
 refine Cn a (fun c5 a=>?_) fun c5 a=>?_
 refine Sr<|Va (I 2)<|AA<|AZ ?_
 obtain rfl:=AP a
 refine A0 (B:=B) ab (BQ rfl (.tmp rfl) ?_)
 refine have c6:=Y2 ai d c;have c7:=K2 AL aa d c;have c8:=Os (Os af d) c;have c9:=Y2 ag d c;⟨o,Sl av n aw,Sl ax g ay,[I f.why,I f.at_],rfl,Ho (Tn (Mo [] d) c) z,c6,c7,c8,c9,(Aj (x:=f))⟩
 refine Sr<|Vr (.bool (e.op==4))<|Va (.bool (e.op==4))<|AA<|Cn a (fun da a=>?_) fun da a=>?_
 refine Sr<|Va (I 3)<|AA<|AZ ?_
 obtain rfl:=AP a
 refine A0 (B:=B) ab (BQ rfl (.tmp rfl) ?_)
 refine have db:=Y2 ai d c;have dc:=K2 AL aa d c;have de:=Os (Os af d) c;have df:=Y2 ag d c;⟨o,Sl av n aw,Sl ax g ay,[I f.why,I f.at_],rfl,Ho (Tn (Mo [] d) c) z,db,dc,de,df,(Aj (x:=f))⟩
 refine Sr<|Vr (.bool (e.op==5))<|Va (.bool (e.op==5))<|AA<|Cn a (fun dg a=>?_) fun dg a=>?_
 refine Sr<|Vx (Run.fieldAddr Ly rfl)<|have dh:=Bs an c;Vx (Run.load1 Fy rfl (Bk.cell dh rfl))<|Va (I e.type_)<|AA<|AZ ?_
 obtain rfl:=AP a
 refine A0 (B:=B) ab (BQ rfl (.tmp rfl) ?_)
 refine have di:=Y2 ai d c;have dj:=K2 AL aa d c;have dk:=Os (Os af d) c;have dl:=Y2 ag d c;⟨o,Sl av n aw,Sl ax g ay,[I f.why,I f.at_],rfl,Ho (Tn (Mo [] d) c) z,di,dj,dk,dl,(Aj (x:=f))⟩
 refine Sr<|Vr (.bool (e.op==6))<|Va (.bool (e.op==6))<|AA<|Cn a (fun dm a=>?_) fun dm a=>?_
 refine Ac<|Sr<|Vm<|Vx (Run.nilCheck rfl)<|Vx (Run.fieldAddr En rfl)<|have bf:=Y2 ai d c;Vx (Run.load1 HY rfl (Bk.cell bf rfl))<|have bg:=Os (Os af d) c; ?_
 obtain ⟨g1,g2,dn⟩:=Own.len bg
 refine Vx (v:=I (g.length:Int)) (Run.lenSlc G9 dn)<|Vr (I (Wr ((g.length:Int) - 1)))<|Va (I (Wr ((g.length:Int) - 1)))<|AA<|Ao<|CZ (fun al a0 b2=>∃(ak:Env) (am:Col) (u:Int),a0=ak.puts [(0,.pointer (some ⟨q,0,none⟩)),(3,.pointer (some ⟨b1,0,none⟩)),(5,.int .i64 u)]∧EQ n g f e al u=some ae∧AO [] o aj am b2) ba ?_ ?_
 exact ⟨_,o,(Wr ((g.length:Int) - 1)),Pu,a,(AO.refl [] _ _)⟩
 rintro al _ b2 ⟨ak,am,u,rfl,a,p⟩
 rcases al with _|al
 exact BK a
 refine have a:GH n g f e (EQ n g f e al) u=some ae:=a; ?_
 obtain ⟨g3,b3⟩:∃s,s=EQ n g f e al:=⟨_,rfl⟩
 rw [←b3,GH] at a
 refine Ac<|Sr<|Vm<|Vr (.bool (decide (u≥0)))<|AA<|Cn a (fun dp a=>?_) fun dp a=>?_
 refine WC.skip<|Ac<|Ao<|Ac<|Cc Ff (.q 0 (.q 1 (.q 2 (.q 3 (.q 4 (.q 5 (.q 6 (.q 7 (.q 8 (.q 9 (.q 10 .nil))))))))))) [] [] am (by kernel_rfl) fun b4 ao=>Qx r rfl (v:=Pt q 0) (fun _ ⟨_,m⟩=>Run.move rfl)<|Qx r rfl (fun _ ⟨_,m⟩=>Run.nilCheck rfl)<|Qx r rfl (fun _ ⟨_,m⟩=>Run.fieldAddr En rfl)<|have bh:=Y2 bf p ao;Qx r rfl (fun _ ⟨_,m⟩=>Run.load1 HY rfl (Bk.cell (Bs bh m) rfl))<|Qx r rfl (v:=I u) (fun _ ⟨_,m⟩=>Run.move rfl)<|Bi a fun dq dr a=>have bi:=Os (Os bg p) ao; ?_
 obtain ⟨ds,g4,dt,du,dv,dw,dx,bj⟩:=VM (κ:=Ai) bi dr
 replace bj:O6 4 am b4 ds (0+u.toNat*3) dt:=bj
 obtain rfl:=Iy dx
 refine Qx r rfl (fun _ ⟨_,m⟩=>Run.indexAddr G9 du rfl dv dw)<|Qx r rfl (fun _ ⟨_,m⟩=>Run.fieldAddr0 OC rfl)<|Qx r rfl (fun _ ⟨_,m⟩=>Run.load1 De rfl (O6.cell0 (O6.step bj m dcd) rfl))<|Qx r rfl (fun _ ⟨_,m⟩=>Run.fieldAddr HR rfl)<|have dy:=Y3 an c p ao;Qx r rfl (fun _ ⟨_,m⟩=>Run.load1 De rfl (Bk.cell (Bs dy m) rfl))<|Qx r rfl (v:=.bool (dq.name==e.name)) (fun _ ⟨_,m⟩=>Run.strEq rfl rfl)<|Ex<|Cn a (fun dz a=>?_) fun dz a=>?_
 refine Sr<|Vm<|Vx (Run.nilCheck rfl)<|Vx (Run.fieldAddr En rfl)<|Vx (Run.load1 HY rfl (Bk.cell bh rfl))<|Vm<|Bi a fun d0 d1 a=>?_
 obtain ⟨d2,g5,d3,d4,d5,d6,d7,bk⟩:=VM (κ:=Ai) bi d1
 replace bk:O6 4 am b4 d2 (0+u.toNat*3) d3:=bk
 obtain rfl:=Iy d7
 refine Vx (Run.indexAddr G9 d4 rfl d5 d6)<|Vx (Run.fieldAddr Rq rfl)<|Vx (Run.load1 Fy rfl (O6.cell (j:=1) bk rfl))<|Va (I d0.type_)<|AA<|AZ ?_
 obtain rfl:=AP a
 refine A0 (B:=B) ab (BQ rfl (.tmp rfl) ?_)
 refine have d8:=K4 AL aa d c p ao;have d9:=Y4 ag d c p ao;⟨am,Sl av n aw,Sl ax g ay,[I f.why,I f.at_],rfl,Ho (T3 (Mo [] d) c p ao) z,bh,d8,bi,d9,(Aj (x:=f))⟩
 refine WC.skip<|AQ<|Vm<|Vr (I (Wr (u - 1)))<|Va (I (Wr (u - 1)))<|AA<|⟨al,Nat.lt_succ_self al,_,am,(Wr (u - 1)),Pu,(b3▸a),(Tn (Mo [] p) ao)⟩
 refine CF<|Sr<|Va (I 0)<|AA<|AZ ?_
 obtain rfl:=AP a
 refine A0 (B:=B) ab (BQ rfl (.tmp rfl) ?_)
 refine have ea:=Bs bf p;have eb:=K3 AL aa d c p;have ec:=Os bg p;have ed:=Y3 ag d c p;⟨am,Sl av n aw,Sl ax g ay,[I f.why,I f.at_],rfl,Ho (T2 (Mo [] d) c p) z,ea,eb,ec,ed,(Aj (x:=f))⟩
 refine Sr<|Vr (.bool (e.op==7))<|Va (.bool (e.op==7))<|AA<|Cn a (fun ee a=>?_) fun ee a=>?_
 refine Sr<|Vm<|have ef:=Bs an c;Vx (Run.loadN BL rfl rfl (Bk.part ef 0 [I e.op,Sb e.name,Sb e.tail,I e.type_,Cx e.num,Sl a5 e.args a6,I e.at_] rfl))<|have eg:=Y2 ai d c;have eh:=K2 AL aa d c;have ei:=Os (Os af d) c;have ej:=Ms (Ms a4 d) c;have ek:=Y2 ag d c;have el:=K2 AJ az d c;Bi a fun ar em a=>Ca (Yi [Pt q 0,.agg [I e.op,Sb e.name,Sb e.tail,I e.type_,Cx e.num,Sl a5 e.args a6,I e.at_].toArray] rfl) (au.types_checker_call o aj (ko0_2:=4) em dcd dcd eg eh ei ej ek (Aj (x:=f)) (Ag (x:=e) el)) ?_
 rintro _ g6 ⟨en,g7,g8,g9,rfl,eo,ep,b5,b6,eq,er⟩
 obtain ⟨es,et,rfl⟩:=AI b5
 obtain ⟨eu,ew,rfl⟩:=Own.len b6
 obtain rfl:=An er
 refine ⟨_,rfl,?_⟩
 refine Va (I ar.1)<|AA<|AZ ?_
 obtain rfl:=AP a
 refine A0 (B:=B) ab (BQ rfl (.tmp rfl) ?_)
 exact ⟨en,Sl es ar.2.1 et,Sl eu ar.2.2.1 ew,[I ar.2.2.2.why,I ar.2.2.2.at_],rfl,Ho (T2 (Mo [1,3,4] d) c eo) z,ep,b5,b6,eq,(Aj (x:=ar.2.2.2))⟩
 refine Sr<|Vr (.bool (e.op==14))<|Va (.bool (e.op==14))<|AA<|Cn a (fun ex a=>?_) fun ex a=>?_
 refine Sr<|Vm<|Vx (Run.fieldAddr B6 rfl)<|have ey:=Bs an c;Vx (Run.load1 Ez rfl (Bk.cell ey rfl))<|have ez:=Y2 ai d c;have e0:=K2 AL aa d c;have e1:=Os (Os af d) c;have e2:=Ms (Ms a4 d) c;have e3:=Y2 ag d c;have e4:=K2 AJ az d c;Bi a fun a1 e5 a=>Ca (VZ [Pt q 0,I 2,Sl a5 e.args a6] rfl) (au.types_checker_all o aj (ko0_2:=4) e5 dcd dcd ez e0 e1 e2 e3 (Aj (x:=f)) e4) ?_
 rintro _ ha ⟨e6,hb,hc,hd,rfl,e7,e8,b7,b8,e9,fa⟩
 obtain ⟨fb,fc,rfl⟩:=AI b7
 obtain ⟨fd,fe,rfl⟩:=Own.len b8
 obtain rfl:=An fa
 refine ⟨_,rfl,?_⟩
 refine AA<|Sr<|Va (I 2)<|AA<|AZ ?_
 obtain rfl:=AP a
 refine A0 (B:=B) ab (BQ rfl (.tmp rfl) ?_)
 exact ⟨e6,Sl fb a1.1 fc,Sl fd a1.2.1 fe,[I a1.2.2.why,I a1.2.2.at_],rfl,Ho (T2 (Mo [1,3,4] d) c e7) z,e8,b7,b8,e9,(Aj (x:=a1.2.2))⟩
 refine Sr<|Vr (.bool (e.op==18))<|Va (.bool (e.op==18))<|AA<|Cn a (fun ff a=>?_) fun ff a=>?_
 refine Sr<|Vm<|Vx (Run.fieldAddr B6 rfl)<|have b9:=Bs an c;Vx (Run.load1 Ez rfl (Bk.cell b9 rfl))<|Bi a fun h fg a=>have ca:=K2 AJ az d c; ?_
 obtain ⟨fh,fi,he,fj,fk,fl,fm,fn,bl⟩:=BX (κ:=AJ) ca fg
 replace bl:BG o aj fh (fi+(0:Int).toNat*7) fj:=bl
 obtain ⟨hf,rfl,cb⟩:=Am fn
 obtain ⟨cc,cd,rfl⟩:=AI cb
 refine Vx (Run.indexAddr Dx fk rfl fl fm)<|Vx (Run.loadN BL rfl rfl (BG.part0 bl [I h.op,Sb h.name,Sb h.tail,I h.type_,Cx h.num,Sl cc h.args cd,I h.at_] rfl))<|have fo:=Y2 ai d c;have fp:=K2 AL aa d c;have fq:=Os (Os af d) c;have cf:=Ms (Ms a4 d) c;have fr:=Y2 ag d c;Bi a fun fs ft a=>Ca (K1 [Pt q 0,.agg [I h.op,Sb h.name,Sb h.tail,I h.type_,Cx h.num,Sl cc h.args cd,I h.at_].toArray,I 1] rfl) (au.types_checker_want o aj (ko0_2:=4) ft dcd dcd fo fp fq cf fr (Aj (x:=f)) (Ag (x:=h) cb)) ?_
 rintro _ cg ⟨ch,hg,hh,hi,rfl,a7,fu,ci,cj,fv,fw⟩
 obtain ⟨hj,hk,rfl⟩:=AI ci
 obtain ⟨hl,hm,rfl⟩:=Own.len cj
 obtain rfl:=An fw
 refine ⟨_,rfl,?_⟩
 refine AA<|Sr<|Vm<|Vx (Run.fieldAddr B6 rfl)<|have fx:=Bs b9 a7;Vx (Run.load1 Ez rfl (Bk.cell fx rfl))<|Bi a fun l fy a=>have fz:=Ss AJ ca a7; ?_
 obtain ⟨f0,f1,hn,f2,f3,f4,f5,f6,bm⟩:=BX (κ:=AJ) fz fy
 replace bm:BG ch cg f0 (f1+(1:Int).toNat*7) f2:=bm
 obtain ⟨ho,rfl,ck⟩:=Am f6
 obtain ⟨cl,cm,rfl⟩:=AI ck
 refine Vx (Run.indexAddr Dx f3 rfl f4 f5)<|Vx (Run.loadN BL rfl rfl (BG.part0 bm [I l.op,Sb l.name,Sb l.tail,I l.type_,Cx l.num,Sl cl l.args cm,I l.at_] rfl))<|have f7:=Ms cf a7;Bi a fun a2 f8 a=>Ca (K1 [Pt q 0,.agg [I l.op,Sb l.name,Sb l.tail,I l.type_,Cx l.num,Sl cl l.args cm,I l.at_].toArray,I 3] rfl) (au.types_checker_want ch cg (ko0_2:=4) f8 dcd dcd fu ci cj f7 fv (Aj (x:=fs.2.2)) (Ag (x:=l) ck)) ?_
 rintro _ hp ⟨f9,hq,hr,hs,rfl,ga,gb,cn,co,gc,gd⟩
 obtain ⟨ge,gf,rfl⟩:=AI cn
 obtain ⟨gg,gh,rfl⟩:=Own.len co
 obtain rfl:=An gd
 refine ⟨_,rfl,?_⟩
 refine AA<|Sr<|Va (I 3)<|AA<|AZ ?_
 obtain rfl:=AP a
 refine A0 (B:=B) ab (BQ rfl (.tmp rfl) ?_)
 exact ⟨f9,Sl ge a2.1 gf,Sl gg a2.2.1 gh,[I a2.2.2.why,I a2.2.2.at_],rfl,Ho (T3 (Mo [1,3,4] d) c a7 ga) z,gb,cn,co,gc,(Aj (x:=a2.2.2))⟩
 refine WC.skip<|Sr<|Vm<|Vx (Run.fieldAddr B6 rfl)<|have cq:=Bs an c;Vx (Run.load1 Ez rfl (Bk.cell cq rfl))<|have gi:=Y2 ai d c;have gj:=K2 AL aa d c;have gk:=Os (Os af d) c;have gl:=Ms (Ms a4 d) c;have gm:=Y2 ag d c;have gn:=K2 AJ az d c;Bi a fun w go a=>Ca (VZ [Pt q 0,I 1,Sl a5 e.args a6] rfl) (au.types_checker_all o aj (ko0_2:=4) go dcd dcd gi gj gk gl gm (Aj (x:=f)) gn) ?_
 rintro _ gp ⟨bn,ht,hu,hw,rfl,bo,cr,bp,bq,ct,gq⟩
 obtain ⟨cu,cv,rfl⟩:=AI bp
 obtain ⟨cw,cx,rfl⟩:=Own.len bq
 obtain rfl:=An gq
 refine ⟨_,rfl,?_⟩
 refine AA<|Ac<|Au (fun a0 cy=>∃(ak:Env) (a8:Col) (br:Bool),a0=ak.puts [(84,.bool br)]∧Gz w br=some ae∧AO [] bn gp a8 cy) ?_ ?_
 refine AQ<|Vx (Run.fieldAddr0 GJ rfl)<|have cz:=Bs cq bo;Vx (Run.load1 Kl rfl (Bk.cell cz rfl))<|Vr (.bool (e.op==12))<|Vm<|Bo a (fun ah a=>?_) fun ah a=>?_
 refine Pg ah<|Pg ah<|Pg ah<|Vp ah<|AA<|⟨_,bn,true,Pu,a,(AO.refl [] _ _)⟩
 refine Gx ah (Run.fieldAddr0 GJ rfl)<|Gx ah (Run.load1 Kl rfl (Bk.cell cz rfl))<|Gr ah (.bool (e.op==13))<|Vp ah<|AA<|⟨_,bn,(e.op==13),Pu,a,(AO.refl [] _ _)⟩
 rintro _ cy ⟨ak,a8,br,rfl,a,ac⟩
 rw [Gz] at a
 refine Cn a (fun gr a=>?_) fun gr a=>?_
 refine Sr<|Va (I 2)<|AA<|AZ ?_
 obtain rfl:=AP a
 refine A0 (B:=B) ab (BQ rfl (.tmp rfl) ?_)
 refine have gs:=Bs cr ac;have gt:=Ss AL bp ac;have gu:=Os bq ac;have gv:=Bs ct ac;⟨a8,Sl cu w.1 cv,Sl cw w.2.1 cx,[I w.2.2.why,I w.2.2.at_],rfl,Ho (T3 (Mo [1,3,4] d) c bo ac) z,gs,gt,gu,gv,(Aj (x:=w.2.2))⟩
 refine WC.skip<|Sr<|Va (I 1)<|AA<|AZ ?_
 obtain rfl:=AP a
 refine A0 (B:=B) ab (BQ rfl (.tmp rfl) ?_)
 refine have gw:=Bs cr ac;have gx:=Ss AL bp ac;have gy:=Os bq ac;have gz:=Bs ct ac;⟨a8,Sl cu w.1 cv,Sl cw w.2.1 cx,[I w.2.2.why,I w.2.2.at_],rfl,Ho (T3 (Mo [1,3,4] d) c bo ac) z,gw,gx,gy,gz,(Aj (x:=w.2.2))⟩
theorem Nv(e:AF)(g:Nat)(o:AF.Good e):types_checker_own.Spec (F2 e g):=by
 intro f h ai a aj ak al am ko0_2 an c ao ap d aq ar au av aw p hnd hnz l q r s m u w
 refine Calls.mono (Nu e g o (recol (see [a,c,d,ko0_2]) f) h (A3 lbr f) (A1 l [a,c,d,ko0_2] (A8 hnd hnz (i:=0) rfl)) (DC AL q [a,c,d,ko0_2]) (JE r [a,c,d,ko0_2] (A8 hnd hnz (i:=3) rfl)) (GE s [a,c,d,ko0_2] (A8 hnd hnz (i:=1) rfl)) (A1 m [a,c,d,ko0_2] (A8 hnd hnz (i:=2) rfl)) (Av Aq u [a,c,d,ko0_2]) (Av AJ w [a,c,d,ko0_2]) p) ?_
 rintro ax ay ⟨y,z,aa,ab,ac,n,ad,ae,af,ag,ah⟩
 exact ⟨glue [a,c,d,ko0_2] h f y,z,aa,ab,ac,Ah n (DI rfl rfl),B9 l ad dcd,Et AL ae,JQ (j:=3) af rfl rfl n,B9 m ag dcd,BA Aq ah⟩
theorem Mh(y:AF)(az:Nat)(a0:AF.Good y)(a:Col)(d:World)(a1:∀b,a b<10){z:Nat}{o:Nat}{aa:(List AK)}{ab:Value}{ac:(List AH)}{ad:Value}{r:Nat}{ae:Ae}{p:Nat}{s:AE}{af:List Value}{ag:Nat}{ah:AD}{ai:List Value}{aj:Nat}{u:Int}{q:(List AK)×(List AH)×AE}(a2:Bk a d 1 z [Pt o 0] 130)(a3:Bk a d 2 o [.map (some r),ab,ad,.func (.func 52) #[] [Pt p 0].toArray] 134)(ak:Slc AL a.F d ab aa)(al:Own Ai 87 a d 7 ad ac)(a4:Mp a d 3 r ae)(a5:Bk a d 4 p af 63)(a6:Aq.rep a.F d af s)(a7:Bk a d 5 ag ai 56)(a8:AJ.rep a.F d ai ah)(a9:Bk a d 6 aj [I u] 34)(g:Ek y az aa ac ae s ah u=some q):
  Calls Tryz.prog 84 #[Pt z 0,Pt ag 0,Pt aj 0] d fun ba h=>∃(l:Col) (am:Value) (an:Value) (ao:List Value),ba=.returned (.tuple #[])∧AO [2,4,7] a d l h∧Bk l h 2 o [.map (some r),am,an,.func (.func 52) #[] [Pt p 0].toArray] 134∧Slc AL l.F h am q.1∧Own Ai 87 l h 7 an q.2.1∧Bk l h 4 p ao 63∧Aq.rep l.F h ao q.2.2:=by
 rw [Ek] at g
 obtain ⟨b4,b5,rfl⟩:=AI ak
 obtain ⟨b6,b7,rfl⟩:=Own.len al
 obtain rfl:=An a6
 obtain ⟨b8,rfl,ap⟩:=Am a8
 obtain ⟨b9,ca,rfl⟩:=AI ap
 refine A5 Tryz.func84 rfl Tryz.ntmps84 rfl fun B bb m=>Cc Ff (.q 0 (.q 1 (.q 2 (.q 3 (.q 4 (.q 5 (.one 6 .nil))))))) [] [2,4,7] a (by kernel_rfl) fun aq e=>have bc:=Bs a2 e;Qx m rfl (fun _ ⟨_,f⟩=>Run.load1 JM rfl (Bk.cell (Bs bc f) rfl))<|Qx m rfl (fun _ ⟨_,f⟩=>Run.fieldAddr B6 rfl)<|have bd:=Bs a7 e;Qx m rfl (fun _ ⟨_,f⟩=>Run.load1 Ez rfl (Bk.cell (Bs bd f) rfl))<|Bi g fun c be g=>have bf:=Ss AJ ap e; ?_
 obtain ⟨bg,bh,cb,bi,bj,bk,bl,bm,w⟩:=BX (κ:=AJ) bf be
 replace w:BG a aq bg (bh+(2:Int).toNat*7) bi:=w
 obtain ⟨cc,rfl,ar⟩:=Am bm
 obtain ⟨au,av,rfl⟩:=AI ar
 refine Qx m rfl (fun _ ⟨_,f⟩=>Run.indexAddr Dx bj rfl bk bl)<|Qx m rfl (fun _ ⟨_,f⟩=>Run.loadN BL rfl rfl (BG.part0 (Es w f) [I c.op,Sb c.name,Sb c.tail,I c.type_,Cx c.num,Sl au c.args av,I c.at_] rfl))<|have bn:=Bs a9 e;Qx m rfl (fun _ ⟨_,f⟩=>Run.load1 Fy rfl (Bk.cell (Bs bn f) rfl))<|BW rfl<|have bo:=Bs a3 e;have bp:=Ss AL ak e;have bq:=Os al e;have br:=Ms a4 e;have bt:=Bs a5 e;Bi g fun n bu g=>BN rfl (.none rfl) rfl rfl (K1 [Pt o 0,.agg [I c.op,Sb c.name,Sb c.tail,I c.type_,Cx c.num,Sl au c.args av,I c.at_].toArray,I u] rfl)<|Calls.mono (a0.types_checker_want a aq (ko0_2:=7) bu dcd dcd bo bp bq br bt (Aj (x:=s)) (Ag (x:=c) ar)) ?_
 rintro _ cd ⟨bv,cf,cg,ch,rfl,aw,bw,ax,ay,bx,bz⟩
 obtain ⟨b0,b1,rfl⟩:=AI ax
 obtain ⟨b2,b3,rfl⟩:=Own.len ay
 obtain rfl:=An bz
 refine ⟨_,rfl,⟨_,(Mo [2,4,7] aw)⟩,?_⟩
 refine Ex ?_
 obtain rfl:=AP g
 refine Ln (B:=B) bb (Lm rfl ?_)
 exact ⟨bv,Sl b0 n.1 b1,Sl b2 n.2.1 b3,[I n.2.2.why,I n.2.2.at_],rfl,Ho (Tn (Mo [2,4,7] e) aw) a1,bw,ax,ay,bx,(Aj (x:=n.2.2))⟩
theorem Mi(h:AF)(m:Nat)(r:AF.Good h):types_checker_want_1.Spec (Ek h m):=by
 intro l n ao a ap c aq ar au av ko1_2 aw d ax ay e az a0 a1 f a2 a3 a4 g a5 a6 s hnd hnz u o w y z p aa ab ac ad
 refine Calls.mono (Mh h m r (recol (see [a,c,d,e,f,g,ko1_2]) l) n (A3 lbr l) (A1 u [a,c,d,e,f,g,ko1_2] (A8 hnd hnz (i:=0) rfl)) (A1 o [a,c,d,e,f,g,ko1_2] (A8 hnd hnz (i:=1) rfl)) (DC AL w [a,c,d,e,f,g,ko1_2]) (JE y [a,c,d,e,f,g,ko1_2] (A8 hnd hnz (i:=6) rfl)) (GE z [a,c,d,e,f,g,ko1_2] (A8 hnd hnz (i:=2) rfl)) (A1 p [a,c,d,e,f,g,ko1_2] (A8 hnd hnz (i:=3) rfl)) (Av Aq aa [a,c,d,e,f,g,ko1_2]) (A1 ab [a,c,d,e,f,g,ko1_2] (A8 hnd hnz (i:=4) rfl)) (Av AJ ac [a,c,d,e,f,g,ko1_2]) (A1 ad [a,c,d,e,f,g,ko1_2] (A8 hnd hnz (i:=5) rfl)) s) ?_
 rintro a7 a8 ⟨ae,af,ag,ah,ai,q,aj,ak,al,am,an⟩
 exact ⟨glue [a,c,d,e,f,g,ko1_2] n l ae,af,ag,ah,ai,Ah q (DI rfl rfl),B9 o aj dcd,Et AL ak,JQ (j:=6) al rfl rfl q,B9 p am dcd,BA Aq an⟩
theorem Mj(af:AF)(bf:Nat)(ag:AF.Good af)(c:Col)(g:World)(bg:∀b,c b<10){ah:Nat}{q:Nat}{ai:(List AK)}{aj:Value}{ak:(List AH)}{al:Value}{w:Nat}{am:Ae}{s:Nat}{y:AE}{an:List Value}{ao:Nat}{z:AD}{ap:List Value}{aq:Nat}{aa:Int}{u:(List AK)×(List AH)×AE}(bh:Bk c g 1 ah [Pt q 0] 130)(bi:Bk c g 2 q [.map (some w),aj,al,.func (.func 52) #[] [Pt s 0].toArray] 134)(ar:Slc AL c.F g aj ai)(au:Own Ai 87 c g 7 al ak)(bj:Mp c g 3 w am)(bk:Bk c g 4 s an 63)(bl:Aq.rep c.F g an y)(bm:Bk c g 5 ao ap 56)(bn:AJ.rep c.F g ap z)(bo:Bk c g 6 aq [I aa] 34)(h:El af bf ai ak am y z aa=some u):
  Calls Tryz.prog 85 #[Pt ah 0,Pt ao 0,Pt aq 0] g fun bp o=>∃(p:Col) (av:Value) (aw:Value) (ax:List Value),bp=.returned (.tuple #[])∧AO [2,4,7] c g p o∧Bk p o 2 q [.map (some w),av,aw,.func (.func 52) #[] [Pt s 0].toArray] 134∧Slc AL p.F o av u.1∧Own Ai 87 p o 7 aw u.2.1∧Bk p o 4 s ax 63∧Aq.rep p.F o ax u.2.2:=by
 rw [El] at h
 obtain ⟨c3,c4,rfl⟩:=AI ar
 obtain ⟨c5,c6,rfl⟩:=Own.len au
 obtain rfl:=An bl
 obtain ⟨c7,rfl,ay⟩:=Am bn
 obtain ⟨c8,c9,rfl⟩:=AI ay
 refine A5 Tryz.func85 rfl Tryz.ntmps85 rfl fun B bq f=>Ac<|Cc Ff (.q 0 (.q 1 (.q 2 (.q 3 (.q 4 (.q 5 (.q 6 (.one 7 .nil)))))))) [] [2,4,7] c (by kernel_rfl) fun az l=>have a0:=Bs bh l;Qx f rfl (fun _ ⟨_,a⟩=>Run.load1 JM rfl (Bk.cell (Bs a0 a) rfl))<|Qx f rfl (fun _ ⟨_,a⟩=>Run.fieldAddr B6 rfl)<|have ab:=Bs bm l;Qx f rfl (fun _ ⟨_,a⟩=>Run.load1 Ez rfl (Bk.cell (Bs ab a) rfl))<|Bi h fun d br h=>have a1:=Ss AJ ay l; ?_
 obtain ⟨bt,bu,da,bv,bw,bx,bz,b0,ac⟩:=BX (κ:=AJ) a1 br
 replace ac:BG c az bt (bu+(0:Int).toNat*7) bv:=ac
 obtain ⟨db,rfl,a2⟩:=Am b0
 obtain ⟨a3,a4,rfl⟩:=AI a2
 refine Qx f rfl (fun _ ⟨_,a⟩=>Run.indexAddr Dx bw rfl bx bz)<|Qx f rfl (fun _ ⟨_,a⟩=>Run.loadN BL rfl rfl (BG.part0 (Es ac a) [I d.op,Sb d.name,Sb d.tail,I d.type_,Cx d.num,Sl a3 d.args a4,I d.at_] rfl))<|Qx f rfl (fun _ ⟨_,a⟩=>Run.fieldAddr Ly rfl)<|Qx f rfl (fun _ ⟨_,a⟩=>Run.load1 Fy rfl (Bk.cell (Bs ab a) rfl))<|BW rfl<|have b1:=Bs bi l;have b2:=Ss AL ar l;have b3:=Os au l;have a5:=Ms bj l;have b4:=Bs bk l;Bi h fun b5 b6 h=>BN rfl (.none rfl) rfl rfl (K1 [Pt q 0,.agg [I d.op,Sb d.name,Sb d.tail,I d.type_,Cx d.num,Sl a3 d.args a4,I d.at_].toArray,I z.type_] rfl)<|Calls.mono (ag.types_checker_want c az (ko0_2:=7) b6 dcd dcd b1 b2 b3 a5 b4 (Aj (x:=y)) (Ag (x:=d) a2)) ?_
 rintro _ dc ⟨ad,de,df,dg,rfl,n,b7,a6,a7,b8,b9⟩
 obtain ⟨dh,di,rfl⟩:=AI a6
 obtain ⟨dj,dk,rfl⟩:=Own.len a7
 obtain rfl:=An b9
 refine ⟨_,rfl,⟨_,(Mo [2,4,7] n)⟩,?_⟩
 refine Ex<|Cc Ff (.q 0 (.q 1 (.q 2 (.q 3 (.q 4 (.q 5 (.one 6 .nil))))))) [] [2,4,7] ad (by kernel_rfl) fun a8 m=>have ca:=Y2 a0 n m;Qx f rfl (fun _ ⟨_,a⟩=>Run.load1 JM rfl (Bk.cell (Bs ca a) rfl))<|Qx f rfl (fun _ ⟨_,a⟩=>Run.fieldAddr B6 rfl)<|have cb:=Y2 ab n m;Qx f rfl (fun _ ⟨_,a⟩=>Run.load1 Ez rfl (Bk.cell (Bs cb a) rfl))<|Bi h fun e cc h=>have cd:=K2 AJ a1 n m; ?_
 obtain ⟨cf,cg,dl,ch,ci,cj,ck,cl,ae⟩:=BX (κ:=AJ) cd cc
 replace ae:BG ad a8 cf (cg+(1:Int).toNat*7) ch:=ae
 obtain ⟨dm,rfl,a9⟩:=Am cl
 obtain ⟨ba,bb,rfl⟩:=AI a9
 refine Qx f rfl (fun _ ⟨_,a⟩=>Run.indexAddr Dx ci rfl cj ck)<|Qx f rfl (fun _ ⟨_,a⟩=>Run.loadN BL rfl rfl (BG.part0 (Es ae a) [I e.op,Sb e.name,Sb e.tail,I e.type_,Cx e.num,Sl ba e.args bb,I e.at_] rfl))<|have cm:=Y3 bo l n m;Qx f rfl (fun _ ⟨_,a⟩=>Run.load1 Fy rfl (Bk.cell (Bs cm a) rfl))<|BW rfl<|have cn:=Bs b7 m;have co:=Ss AL a6 m;have cq:=Os a7 m;have cr:=Ms (Ms a5 n) m;have ct:=Bs b8 m;Bi h fun r cu h=>BN rfl (.none rfl) rfl rfl (K1 [Pt q 0,.agg [I e.op,Sb e.name,Sb e.tail,I e.type_,Cx e.num,Sl ba e.args bb,I e.at_].toArray,I aa] rfl)<|Calls.mono (ag.types_checker_want ad a8 (ko0_2:=7) cu dcd dcd cn co cq cr ct (Aj (x:=b5.2.2)) (Ag (x:=e) a9)) ?_
 rintro _ dn ⟨cv,dp,dq,dr,rfl,bc,cw,bd,be,cx,cy⟩
 obtain ⟨cz,c0,rfl⟩:=AI bd
 obtain ⟨c1,c2,rfl⟩:=Own.len be
 obtain rfl:=An cy
 refine ⟨_,rfl,⟨_,(Mo [2,4,7] bc)⟩,?_⟩
 refine Ex ?_
 obtain rfl:=AP h
 refine Ln (B:=B) bq (Lm rfl ?_)
 exact ⟨cv,Sl cz r.1 c0,Sl c1 r.2.1 c2,[I r.2.2.why,I r.2.2.at_],rfl,Ho (T3 (Mo [2,4,7] l) n m bc) bg,cw,bd,be,cx,(Aj (x:=r.2.2))⟩
theorem Mk(h:AF)(m:Nat)(r:AF.Good h):types_checker_want_2.Spec (El h m):=by
 intro l n ao a ap c aq ar au av ko1_2 aw d ax ay e az a0 a1 f a2 a3 a4 g a5 a6 s hnd hnz u o w y z p aa ab ac ad
 refine Calls.mono (Mj h m r (recol (see [a,c,d,e,f,g,ko1_2]) l) n (A3 lbr l) (A1 u [a,c,d,e,f,g,ko1_2] (A8 hnd hnz (i:=0) rfl)) (A1 o [a,c,d,e,f,g,ko1_2] (A8 hnd hnz (i:=1) rfl)) (DC AL w [a,c,d,e,f,g,ko1_2]) (JE y [a,c,d,e,f,g,ko1_2] (A8 hnd hnz (i:=6) rfl)) (GE z [a,c,d,e,f,g,ko1_2] (A8 hnd hnz (i:=2) rfl)) (A1 p [a,c,d,e,f,g,ko1_2] (A8 hnd hnz (i:=3) rfl)) (Av Aq aa [a,c,d,e,f,g,ko1_2]) (A1 ab [a,c,d,e,f,g,ko1_2] (A8 hnd hnz (i:=4) rfl)) (Av AJ ac [a,c,d,e,f,g,ko1_2]) (A1 ad [a,c,d,e,f,g,ko1_2] (A8 hnd hnz (i:=5) rfl)) s) ?_
 rintro a7 a8 ⟨ae,af,ag,ah,ai,q,aj,ak,al,am,an⟩
 exact ⟨glue [a,c,d,e,f,g,ko1_2] n l ae,af,ag,ah,ai,Ah q (DI rfl rfl),B9 o aj dcd,Et AL ak,JQ (j:=6) al rfl rfl q,B9 p am dcd,BA Aq an⟩
theorem Ml(y:AF)(az:Nat)(a0:AF.Good y)(a:Col)(d:World)(a1:∀b,a b<10){z:Nat}{o:Nat}{aa:(List AK)}{ab:Value}{ac:(List AH)}{ad:Value}{r:Nat}{ae:Ae}{p:Nat}{s:AE}{af:List Value}{ag:Nat}{ah:AD}{ai:List Value}{aj:Nat}{u:Int}{q:(List AK)×(List AH)×AE}(a2:Bk a d 1 z [Pt o 0] 130)(a3:Bk a d 2 o [.map (some r),ab,ad,.func (.func 52) #[] [Pt p 0].toArray] 134)(ak:Slc AL a.F d ab aa)(al:Own Ai 87 a d 7 ad ac)(a4:Mp a d 3 r ae)(a5:Bk a d 4 p af 63)(a6:Aq.rep a.F d af s)(a7:Bk a d 5 ag ai 56)(a8:AJ.rep a.F d ai ah)(a9:Bk a d 6 aj [I u] 34)(g:Em y az aa ac ae s ah u=some q):
  Calls Tryz.prog 86 #[Pt z 0,Pt ag 0,Pt aj 0] d fun ba h=>∃(l:Col) (am:Value) (an:Value) (ao:List Value),ba=.returned (.tuple #[])∧AO [2,4,7] a d l h∧Bk l h 2 o [.map (some r),am,an,.func (.func 52) #[] [Pt p 0].toArray] 134∧Slc AL l.F h am q.1∧Own Ai 87 l h 7 an q.2.1∧Bk l h 4 p ao 63∧Aq.rep l.F h ao q.2.2:=by
 rw [Em] at g
 obtain ⟨b4,b5,rfl⟩:=AI ak
 obtain ⟨b6,b7,rfl⟩:=Own.len al
 obtain rfl:=An a6
 obtain ⟨b8,rfl,ap⟩:=Am a8
 obtain ⟨b9,ca,rfl⟩:=AI ap
 refine A5 Tryz.func86 rfl Tryz.ntmps86 rfl fun B bb m=>Cc Ff (.q 0 (.q 1 (.q 2 (.q 3 (.q 4 (.q 5 (.one 6 .nil))))))) [] [2,4,7] a (by kernel_rfl) fun aq e=>have bc:=Bs a2 e;Qx m rfl (fun _ ⟨_,f⟩=>Run.load1 JM rfl (Bk.cell (Bs bc f) rfl))<|Qx m rfl (fun _ ⟨_,f⟩=>Run.fieldAddr B6 rfl)<|have bd:=Bs a7 e;Qx m rfl (fun _ ⟨_,f⟩=>Run.load1 Ez rfl (Bk.cell (Bs bd f) rfl))<|Bi g fun c be g=>have bf:=Ss AJ ap e; ?_
 obtain ⟨bg,bh,cb,bi,bj,bk,bl,bm,w⟩:=BX (κ:=AJ) bf be
 replace w:BG a aq bg (bh+(1:Int).toNat*7) bi:=w
 obtain ⟨cc,rfl,ar⟩:=Am bm
 obtain ⟨au,av,rfl⟩:=AI ar
 refine Qx m rfl (fun _ ⟨_,f⟩=>Run.indexAddr Dx bj rfl bk bl)<|Qx m rfl (fun _ ⟨_,f⟩=>Run.loadN BL rfl rfl (BG.part0 (Es w f) [I c.op,Sb c.name,Sb c.tail,I c.type_,Cx c.num,Sl au c.args av,I c.at_] rfl))<|have bn:=Bs a9 e;Qx m rfl (fun _ ⟨_,f⟩=>Run.load1 Fy rfl (Bk.cell (Bs bn f) rfl))<|BW rfl<|have bo:=Bs a3 e;have bp:=Ss AL ak e;have bq:=Os al e;have br:=Ms a4 e;have bt:=Bs a5 e;Bi g fun n bu g=>BN rfl (.none rfl) rfl rfl (K1 [Pt o 0,.agg [I c.op,Sb c.name,Sb c.tail,I c.type_,Cx c.num,Sl au c.args av,I c.at_].toArray,I u] rfl)<|Calls.mono (a0.types_checker_want a aq (ko0_2:=7) bu dcd dcd bo bp bq br bt (Aj (x:=s)) (Ag (x:=c) ar)) ?_
 rintro _ cd ⟨bv,cf,cg,ch,rfl,aw,bw,ax,ay,bx,bz⟩
 obtain ⟨b0,b1,rfl⟩:=AI ax
 obtain ⟨b2,b3,rfl⟩:=Own.len ay
 obtain rfl:=An bz
 refine ⟨_,rfl,⟨_,(Mo [2,4,7] aw)⟩,?_⟩
 refine Ex ?_
 obtain rfl:=AP g
 refine Ln (B:=B) bb (Lm rfl ?_)
 exact ⟨bv,Sl b0 n.1 b1,Sl b2 n.2.1 b3,[I n.2.2.why,I n.2.2.at_],rfl,Ho (Tn (Mo [2,4,7] e) aw) a1,bw,ax,ay,bx,(Aj (x:=n.2.2))⟩
theorem Mm(h:AF)(m:Nat)(r:AF.Good h):types_checker_want_3.Spec (Em h m):=by
 intro l n ao a ap c aq ar au av ko1_2 aw d ax ay e az a0 a1 f a2 a3 a4 g a5 a6 s hnd hnz u o w y z p aa ab ac ad
 refine Calls.mono (Ml h m r (recol (see [a,c,d,e,f,g,ko1_2]) l) n (A3 lbr l) (A1 u [a,c,d,e,f,g,ko1_2] (A8 hnd hnz (i:=0) rfl)) (A1 o [a,c,d,e,f,g,ko1_2] (A8 hnd hnz (i:=1) rfl)) (DC AL w [a,c,d,e,f,g,ko1_2]) (JE y [a,c,d,e,f,g,ko1_2] (A8 hnd hnz (i:=6) rfl)) (GE z [a,c,d,e,f,g,ko1_2] (A8 hnd hnz (i:=2) rfl)) (A1 p [a,c,d,e,f,g,ko1_2] (A8 hnd hnz (i:=3) rfl)) (Av Aq aa [a,c,d,e,f,g,ko1_2]) (A1 ab [a,c,d,e,f,g,ko1_2] (A8 hnd hnz (i:=4) rfl)) (Av AJ ac [a,c,d,e,f,g,ko1_2]) (A1 ad [a,c,d,e,f,g,ko1_2] (A8 hnd hnz (i:=5) rfl)) s) ?_
 rintro a7 a8 ⟨ae,af,ag,ah,ai,q,aj,ak,al,am,an⟩
 exact ⟨glue [a,c,d,e,f,g,ko1_2] n l ae,af,ag,ah,ai,Ah q (DI rfl rfl),B9 o aj dcd,Et AL ak,JQ (j:=6) al rfl rfl q,B9 p am dcd,BA Aq an⟩
theorem NP(ag:AF)(a8:Nat)(cl:AF.Good ag)(r:Col)(w:World)(bt:∀b,r b<10){p:Nat}{al:(List AK)}{bu:Value}{av:(List AH)}{bv:Value}{ay:Nat}{g:Ae}{am:Nat}{z:AE}{bw:List Value}{f:AD}{bx:List Value}{aa:Int×(List AK)×(List AH)×AE}(cm:Bk r w 1 p [.map (some ay),bu,bv,.func (.func 52) #[] [Pt am 0].toArray] 134)(az:Slc AL r.F w bu al)(a9:Own Ai 87 r w 4 bv av)(cn:Mp r w 2 ay g)(bz:Bk r w 3 am bw 63)(co:Aq.rep r.F w bw z)(cq:AJ.rep r.F w bx f)(d:Fa ag a8 al av g z f=some aa):
  Calls Tryz.prog 112 #[Pt p 0,.agg bx.toArray] w fun cr an=>∃(ao:Col) (b0:Value) (b1:Value) (b2:List Value),cr=.returned (I aa.1)∧AO [1,3,4] r w ao an∧Bk ao an 1 p [.map (some ay),b0,b1,.func (.func 52) #[] [Pt am 0].toArray] 134∧Slc AL ao.F an b0 aa.2.1∧Own Ai 87 ao an 4 b1 aa.2.2.1∧Bk ao an 3 am b2 63∧Aq.rep ao.F an b2 aa.2.2.2:=by
 rw [Fa] at d
 obtain ⟨ba,bb,rfl⟩:=AI az
 obtain ⟨b3,b4,rfl⟩:=Own.len a9
 obtain rfl:=An co
 obtain ⟨fa,rfl,bc⟩:=Am cq
 obtain ⟨ct,cu,rfl⟩:=AI bc
 refine A5 Tryz.func112 rfl Tryz.ntmps112 rfl fun B b5 a=>Sr<|Ef (By r 20 rfl rfl fun ap fb bd cv n=>?_)
 refine Va (I 0)<|AA<|Ac<|Cc Ff (.q 0 (.q 1 (.q 2 (.q 3 (.q 4 (.q 5 (.q 6 (.q 7 .nil)))))))) [] [] ap (by kernel_rfl) fun cw m=>Qx a rfl (v:=Pt p 0) (fun _ ⟨_,c⟩=>Run.move rfl)<|Qx a rfl (fun _ ⟨_,c⟩=>Run.nilCheck rfl)<|Qx a rfl (fun _ ⟨_,c⟩=>Run.fieldAddr0 TS rfl)<|have a0:=Y2 cm n m;Qx a rfl (fun _ ⟨_,c⟩=>Run.load1 OF rfl (Bk.cell (Bs a0 c) rfl))<|Qx a rfl (fun _ ⟨_,c⟩=>Run.fieldAddr HR rfl)<|have be:=Bs cv m;Qx a rfl (fun _ ⟨_,c⟩=>Run.load1 De rfl (Bk.cell (Bs be c) rfl))<|have b6:=Ms (Ms cn n) m;Qx a rfl (v:=I (CJ g f.name)) (fun _ ⟨_,c⟩=>Ix Jv rfl rfl (Ms b6 c))<|Qx a rfl (v:=I (CJ g f.name)) (fun _ ⟨_,c⟩=>Run.assign rfl)<|Ex<|Ac<|Au (fun bf a1=>∃(aw:Env) (aq:Col) (bg:Bool),bf=aw.puts [(0,.pointer (some ⟨p,0,none⟩)),(3,.pointer (some ⟨bd,0,none⟩)),(5,.int .i64 (CJ g f.name)),(32,.bool bg)]∧E8 ag a8 al av g z f bg=some aa∧AO [] ap cw aq a1) ?_ ?_
 refine Cc Ff (.q 0 (.q 1 (.q 2 (.q 3 (.q 4 (.q 5 (.q 6 (.q 7 (.q 8 (.q 9 (.q 10 (.q 11 (.q 12 (.q 13 (.q 14 (.q 15 (.q 16 (.q 17 .nil)))))))))))))))))) [] [] ap (by kernel_rfl) fun cx ar=>Qx a rfl (v:=I (CJ g f.name)) (fun _ ⟨_,c⟩=>Run.move rfl)<|Qx a rfl (v:=.bool ((CJ g f.name)==0)) (fun _ ⟨_,c⟩=>rfl)<|Qx a rfl (v:=.bool ((CJ g f.name)==0)) (fun _ ⟨_,c⟩=>Run.move rfl)<|Bo d (fun e d=>?_) fun e d=>?_
 refine Qp a rfl e<|Qp a rfl e<|Qp a rfl e<|Qp a rfl e<|Qp a rfl e<|Qp a rfl e<|Qp a rfl e<|Qp a rfl e<|Qp a rfl e<|Qp a rfl e<|Qp a rfl e<|Qp a rfl e<|Qp a rfl e<|Qp a rfl e<|Qx a rfl (v:=.bool true) (fun _ ⟨_,c⟩=>(Pk e))<|Ex<|⟨_,ap,true,Pu,d,(Mo [] ar)⟩
 refine BC (fun _ _ _ _ h=>a _ _ _ _ h) rfl rfl (.guard (t:=false) (b:=false) rfl rfl rfl rfl (Cb e)) rfl rfl (v:=Pt p 0) (fun _ ⟨_,c⟩=>Run.move rfl)<|BC (fun _ _ _ _ h=>a _ _ _ _ h) rfl rfl (.guard (t:=false) (b:=false) rfl rfl rfl rfl (Cb e)) rfl rfl (v:=Pt p 0) (fun _ ⟨_,c⟩=>Run.nilCheck rfl)<|BC (fun _ _ _ _ h=>a _ _ _ _ h) rfl rfl (.guard (t:=false) (b:=false) rfl rfl rfl rfl (Cb e)) rfl rfl (v:=Pt p 1) (fun _ ⟨_,c⟩=>Run.fieldAddr P8 rfl)<|have cy:=Bs a0 ar;BC (fun _ _ _ _ h=>a _ _ _ _ h) rfl rfl (.guard (t:=false) (b:=false) rfl rfl rfl rfl (Cb e)) rfl rfl (v:=Sl ba al bb) (fun _ ⟨_,c⟩=>Run.load1 Ji rfl (Bk.cell (Bs cy c) rfl))<|BC (fun _ _ _ _ h=>a _ _ _ _ h) rfl rfl (.guard (t:=false) (b:=false) rfl rfl rfl rfl (Cb e)) rfl rfl (v:=I (CJ g f.name)) (fun _ ⟨_,c⟩=>Run.move rfl)<|BC (fun _ _ _ _ h=>a _ _ _ _ h) rfl rfl (.guard (t:=false) (b:=false) rfl rfl rfl rfl (Cb e)) rfl rfl (v:=I (Wr ((CJ g f.name) - 1))) (fun _ ⟨_,c⟩=>rfl)<|Bi d fun ax cz d=>have c0:=K3 AL az n m ar; ?_
 obtain ⟨bh,bi,fc,c1,c2,c3,c4,c5,bj⟩:=BX (κ:=AL) c0 cz
 replace bj:BG ap cx bh (bi+((Wr ((CJ g f.name) - 1))).toNat*11) c1:=bj
 obtain ⟨fd,fe,rfl,b7,c6⟩:=F4 c5
 obtain ⟨c7,c8,rfl⟩:=AI b7
 obtain ⟨ff,fg,rfl⟩:=AI c6
 refine BC (fun _ _ _ _ h=>a _ _ _ _ h) rfl rfl (.guard (t:=false) (b:=false) rfl rfl rfl rfl (Cb e)) rfl rfl (v:=.pointer (some ⟨bh,bi+((Wr ((CJ g f.name) - 1))).toNat*11,none⟩)) (fun _ ⟨_,c⟩=>Run.indexAddr I3 c2 rfl c3 c4)<|BC (fun _ _ _ _ h=>a _ _ _ _ h) rfl rfl (.guard (t:=false) (b:=false) rfl rfl rfl rfl (Cb e)) rfl rfl (v:=.pointer (some ⟨bh,bi+((Wr ((CJ g f.name) - 1))).toNat*11+1,none⟩)) (fun _ ⟨_,c⟩=>Run.fieldAddr Io rfl)<|BC (fun _ _ _ _ h=>a _ _ _ _ h) rfl rfl (.guard (t:=false) (b:=false) rfl rfl rfl rfl (Cb e)) rfl rfl (v:=Sl c7 ax.params c8) (fun _ ⟨_,c⟩=>Run.load1 HY rfl (BG.cell (k:=1) (Es bj c) rfl)) ?_
 obtain ⟨fh,fi,c9⟩:=AI b7
 refine BC (fun _ _ _ _ h=>a _ _ _ _ h) rfl rfl (.guard (t:=false) (b:=false) rfl rfl rfl rfl (Cb e)) rfl rfl (v:=I (ax.params.length:Int)) (fun _ ⟨_,c⟩=>Run.lenSlc G9 c9)<|BC (fun _ _ _ _ h=>a _ _ _ _ h) rfl rfl (.guard (t:=false) (b:=false) rfl rfl rfl rfl (Cb e)) rfl rfl (v:=Pt bd 5) (fun _ ⟨_,c⟩=>Run.fieldAddr B6 rfl)<|have da:=Bs be ar;BC (fun _ _ _ _ h=>a _ _ _ _ h) rfl rfl (.guard (t:=false) (b:=false) rfl rfl rfl rfl (Cb e)) rfl rfl (v:=Sl ct f.args cu) (fun _ ⟨_,c⟩=>Run.load1 Ez rfl (Bk.cell (Bs da c) rfl))<|have db:=K3 AJ bc n m ar; ?_
 obtain ⟨fj,fk,dc⟩:=AI db
 refine BC (fun _ _ _ _ h=>a _ _ _ _ h) rfl rfl (.guard (t:=false) (b:=false) rfl rfl rfl rfl (Cb e)) rfl rfl (v:=I (f.args.length:Int)) (fun _ ⟨_,c⟩=>Run.lenSlc Dx dc)<|BC (fun _ _ _ _ h=>a _ _ _ _ h) rfl rfl (.guard (t:=false) (b:=false) rfl rfl rfl rfl (Cb e)) rfl rfl (v:=.bool ((ax.params.length:Int) != (f.args.length:Int))) (fun _ ⟨_,c⟩=>rfl)<|Qx a rfl (v:=.bool ((ax.params.length:Int) != (f.args.length:Int))) (fun _ ⟨_,c⟩=>(Pk e))<|Ex<|⟨_,ap,((ax.params.length:Int) != (f.args.length:Int)),Pu,d,(Mo [] ar)⟩
 rintro _ a1 ⟨aw,aq,bg,rfl,d,o⟩
 rw [E8] at d
 refine Cn d (fun de d=>?_) fun de d=>?_
 refine Sr<|Va (I 0)<|AA<|AZ ?_
 obtain rfl:=AP d
 refine A0 (B:=B) b5 (BQ rfl (.tmp rfl) ?_)
 refine have df:=Bs a0 o;have dg:=K3 AL az n m o;have dh:=Os (Os (Os a9 n) m) o;have di:=Y3 bz n m o;⟨aq,Sl ba al bb,Sl b3 av b4,[I z.why,I z.at_],rfl,Ho (T2 (Mo [] n) m o) bt,df,dg,dh,di,(Aj (x:=z))⟩
 refine WC.skip<|Ac<|Sr<|Vm<|Vx (Run.nilCheck rfl)<|Vx (Run.fieldAddr P8 rfl)<|have b8:=Bs a0 o;Vx (Run.load1 Ji rfl (Bk.cell b8 rfl))<|Vm<|Vr (I (Wr ((CJ g f.name) - 1)))<|Bi d fun ab dj d=>have b9:=K3 AL az n m o; ?_
 obtain ⟨dk,o80,fl,dl,dm,dn,dp,dq,bk⟩:=BX (κ:=AL) b9 dj
 replace bk:BG aq a1 dk (o80+((Wr ((CJ g f.name) - 1))).toNat*11) dl:=bk
 obtain ⟨fm,fn,rfl,bl,dr⟩:=F4 dq
 obtain ⟨ds,dt,rfl⟩:=AI bl
 obtain ⟨fo,fp,rfl⟩:=AI dr
 refine Vx (Run.indexAddr I3 dm rfl dn dp)<|Vx (Run.fieldAddr Io rfl)<|Vx (Run.load1 HY rfl (BG.cell (k:=1) bk rfl)) ?_
 obtain ⟨fq,fr,du⟩:=AI bl
 refine Vx (v:=I (ab.params.length:Int)) (Run.lenSlc G9 du)<|Vm<|AA<|Ao<|CZ (fun ac bf ad=>∃(aw:Env) (u:Col) (q:Int) (ah:(List AK)) (a2:Option Addr) (a3:Nat) (ai:(List AH)) (a4:Option Addr) (a5:Nat) (aj:Int) (ak:Int),bf=aw.puts [(0,.pointer (some ⟨p,0,none⟩)),(3,.pointer (some ⟨bd,0,none⟩)),(5,.int .i64 (CJ g f.name)),(41,.slice ds ab.params.length dt),(42,.int .i64 (ab.params.length:Int)),(43,.int .i64 q)]∧Dh ag g f ab ac q ah ai aj ak=some aa∧AO [1,3,4,21] aq a1 u ad∧Slc AL u.F ad (Sl a2 ah a3) ah∧Own Ai 87 u ad 4 (Sl a4 ai a5) ai∧Bk u ad 1 p [.map (some ay),Sl a2 ah a3,Sl a4 ai a5,.func (.func 52) #[] [Pt am 0].toArray] 134∧Bk u ad 3 am [I aj,I ak] 63) a8 ?_ ?_
 refine have dv:=Os (Os (Os a9 n) m) o;have dw:=Y3 bz n m o;⟨_,aq,0,al,ba,bb,av,b3,b4,z.why,z.at_,Pu,d,(AO.refl [1,3,4,21] _ _),b9,dv,b8,dw⟩
 rintro ac _ ad ⟨aw,u,q,ah,a2,a3,ai,a4,a5,aj,ak,rfl,d,au,bm,ca,bn,cb⟩
 rcases ac with _|ac
 exact BK d
 refine have d:Dv ag g f ab (Dh ag g f ab ac) q ah ai aj ak=some aa:=d; ?_
 obtain ⟨fs,cc⟩:∃s,s=Dh ag g f ab ac:=⟨_,rfl⟩
 rw [←cc,Dv] at d
 refine Sr<|Vr (.bool (decide (q< (ab.params.length:Int))))<|AA<|Ac<|Cn d (fun dx d=>?_) fun dx d=>?_
 refine WC.skip<|Ac<|Ao<|Sr<|Vm<|Bi d fun a6 dy d=>have dz:=Ss Ai bl au; ?_
 obtain ⟨d0,d1,ft,d2,d3,d4,d5,d6,bo⟩:=BX (κ:=Ai) dz dy
 replace bo:BG u ad d0 (d1+q.toNat*3) d2:=bo
 obtain rfl:=Iy d6
 refine Vx (Run.indexAddr G9 d3 rfl d4 d5)<|Vx (Run.loadN VS rfl rfl (BG.part0 bo [Sb a6.name,I a6.type_,I a6.at_] rfl))<|Ef (AY u 21 LU rfl fun bp fu fv d7 ae=>?_)
 refine Va (I q)<|Eu (St Ve d7 rfl rfl rfl rfl fun fw d8 af=>?_)
 refine AA<|Cc Ff (.q 0 (.q 1 (.q 2 (.q 3 (.q 4 (.q 5 (.q 6 (.q 7 (.one 8 .nil))))))))) [] [1,3,4] bp (by kernel_rfl) fun cd y=>Qx a rfl (v:=Pt p 0) (fun _ ⟨_,c⟩=>Run.move rfl)<|Qx a rfl (fun _ ⟨_,c⟩=>Run.fieldAddr B6 rfl)<|have d9:=Bs (Y4 be o au ae af) y;Qx a rfl (fun _ ⟨_,c⟩=>Run.load1 Ez rfl (Bk.cell (Bs d9 c) rfl))<|Qx a rfl (v:=I q) (fun _ ⟨_,c⟩=>Run.move rfl)<|Bi d fun l ea d=>have eb:=K3 AJ (K4 AJ bc n m o au) ae af y; ?_
 obtain ⟨ec,ed,fx,ee,ef,eg,eh,ei,bq⟩:=BX (κ:=AJ) eb ea
 replace bq:BG bp cd ec (ed+q.toNat*7) ee:=bq
 obtain ⟨fy,rfl,cf⟩:=Am ei
 obtain ⟨cg,ch,rfl⟩:=AI cf
 refine Qx a rfl (fun _ ⟨_,c⟩=>Run.indexAddr Dx ef rfl eg eh)<|Qx a rfl (fun _ ⟨_,c⟩=>Run.loadN BL rfl rfl (BG.part0 (Es bq c) [I l.op,Sb l.name,Sb l.tail,I l.type_,Cx l.num,Sl cg l.args ch,I l.at_] rfl))<|Qx a rfl (fun _ ⟨_,c⟩=>Run.fieldAddr Rq rfl)<|have ej:=Bs d8 y;Qx a rfl (fun _ ⟨_,c⟩=>Run.load1 Fy rfl (Bk.cell (Bs ej c) rfl))<|BW rfl<|have ek:=Y3 bn ae af y;have el:=K3 AL bm ae af y;have em:=Os (Os (Os ca ae) af) y;have en:=Ms (Ms (Ms (Ms (Ms b6 o) au) ae) af) y;have eo:=Y3 cb ae af y;Bi d fun a7 ep d=>BN rfl (.none rfl) rfl rfl (K1 [Pt p 0,.agg [I l.op,Sb l.name,Sb l.tail,I l.type_,Cx l.num,Sl cg l.args ch,I l.at_].toArray,I a6.type_] rfl)<|Calls.mono (cl.types_checker_want bp cd (ko0_2:=4) ep dcd dcd ek el em en eo (Aj (x:=(AE.mk aj ak))) (Ag (x:=l) cf)) ?_
 rintro _ fz ⟨eq,f0,f1,f2,rfl,ci,er,cj,ck,es,et⟩
 obtain ⟨eu,ew,rfl⟩:=AI cj
 obtain ⟨ex,ey,rfl⟩:=Own.len ck
 obtain rfl:=An et
 refine ⟨_,rfl,⟨_,(Mo [1,3,4] ci)⟩,?_⟩
 refine Ex<|AQ<|Vr (I (Wr (q+1)))<|Vm<|AA<|⟨ac,Nat.lt_succ_self ac,_,eq,(Wr (q+1)),a7.1,eu,ew,a7.2.1,ex,ey,a7.2.2.why,a7.2.2.at_,Pu,(cc▸d),(T4 (Mo [1,3,4,21] au) ae af y ci),cj,ck,er,es⟩
 refine CF<|Sr<|Vm<|Vx (Run.nilCheck rfl)<|Vx (Run.fieldAddr P8 rfl)<|Vx (Run.load1 Ji rfl (Bk.cell bn rfl))<|Vm<|Vr (I (Wr ((CJ g f.name) - 1)))<|Bi d fun ez e0 d=>?_
 obtain ⟨e1,e2,f3,e3,e4,e5,e6,e7,br⟩:=BX (κ:=AL) bm e0
 replace br:BG u ad e1 (e2+((Wr ((CJ g f.name) - 1))).toNat*11) e3:=br
 obtain ⟨f4,f5,rfl,e8,e9⟩:=F4 e7
 obtain ⟨f6,f7,rfl⟩:=AI e8
 obtain ⟨f8,f9,rfl⟩:=AI e9
 refine Vx (Run.indexAddr I3 e4 rfl e5 e6)<|Vx (Run.fieldAddr Ro rfl)<|Vx (Run.load1 Fy rfl (BG.cell (k:=2) br rfl))<|Va (I ez.type_)<|AA<|AZ ?_
 obtain rfl:=AP d
 refine A0 (B:=B) b5 (BQ rfl (.tmp rfl) ?_)
 exact ⟨u,Sl a2 ah a3,Sl a4 ai a5,[I aj,I ak],rfl,Ho (T3 (Mo [1,3,4,21] n) m o au) bt,bn,bm,ca,cb,(Aj (x:=(AE.mk aj ak)))⟩
theorem NQ(e:AF)(g:Nat)(o:AF.Good e):types_checker_call.Spec (Fa e g):=by
 intro f h ai a aj ak al am ko0_2 an c ao ap d aq ar au av aw p hnd hnz l q r s m u w
 refine Calls.mono (NP e g o (recol (see [a,c,d,ko0_2]) f) h (A3 lbr f) (A1 l [a,c,d,ko0_2] (A8 hnd hnz (i:=0) rfl)) (DC AL q [a,c,d,ko0_2]) (JE r [a,c,d,ko0_2] (A8 hnd hnz (i:=3) rfl)) (GE s [a,c,d,ko0_2] (A8 hnd hnz (i:=1) rfl)) (A1 m [a,c,d,ko0_2] (A8 hnd hnz (i:=2) rfl)) (Av Aq u [a,c,d,ko0_2]) (Av AJ w [a,c,d,ko0_2]) p) ?_
 rintro ax ay ⟨y,z,aa,ab,ac,n,ad,ae,af,ag,ah⟩
 exact ⟨glue [a,c,d,ko0_2] h f y,z,aa,ab,ac,Ah n (DI rfl rfl),B9 l ad dcd,Et AL ae,JQ (j:=3) af rfl rfl n,B9 m ag dcd,BA Aq ah⟩
theorem AF.good:∀d,AF.Good (AF.at d)
 |0=>⟨by intro a c;intros;(try intro _);intros;exact BK (by assumption),by intro a c;intros;(try intro _);intros;exact BK (by assumption),by intro a c;intros;(try intro _);intros;exact BK (by assumption),by intro a c;intros;(try intro _);intros;exact BK (by assumption),by intro a c;intros;(try intro _);intros;exact BK (by assumption),by intro a c;intros;(try intro _);intros;exact BK (by assumption),by intro a c;intros;(try intro _);intros;exact BK (by assumption),by intro a c;intros;(try intro _);intros;exact BK (by assumption),by intro a c;intros;(try intro _);intros;exact BK (by assumption),by intro a c;intros;(try intro _);intros;exact BK (by assumption)⟩
 |n+1=>⟨NK _ n (AF.good n),Nt _ n (AF.good n),OS _ n (AF.good n),NM _ n (AF.good n),NO _ n (AF.good n),Nv _ n (AF.good n),Mi _ n (AF.good n),Mk _ n (AF.good n),Mm _ n (AF.good n),NQ _ n (AF.good n)⟩
theorem Nw(a:Nat):types_checker_want.Spec (types_checker_want a):=(AF.good a).types_checker_want
def F7.At(c:Col)(a:World)(f:AN→Option AE):Prop:=
 ∀{d:AN} {e:List Value} {g:AE},f d=some g→Cp.rep c.F a e d→
  Calls Tryz.prog 29 #[.agg e.toArray] a fun n h=>∃(l:Col) (m:List Value),n=.returned (.agg m.toArray)∧AO [] c a l h∧Aq.rep l.F h m g
def F7.Spec(f:AN→Option AE):Prop:=
 ∀(a:Col) (c:World),F7.At a c f
theorem Q7(l:Nat)(au:Col)(bv:World)(a1:∀b,au b<10):F7.At au bv (F7 l):=by
 intro e dw a2 c bw
 rw [F7] at c
 obtain ⟨dx,rfl,a3⟩:=Bl bw
 obtain ⟨n,o,rfl⟩:=AI a3
 refine A5 Tryz.func29 rfl Tryz.ntmps29 rfl fun B a4 dy=>?_
 refine Sr ?_
 refine Ef (By au 20 rfl rfl fun bx dz bz b0 av=>?_)
 refine Ef (AY bx 21 Is rfl fun b1 b2 b3 a5 an=>?_)
 refine AA ?_
 refine Sr ?_
 have a6:=(Bs b0 an)
 refine Vx (v:=.agg [Sl n e.funcs o].toArray) (Run.loadN JI rfl rfl (Bk.part a6 0 [Sl n e.funcs o] rfl)) ?_
 have a7:=(K2 AL a3 av an)
 obtain ⟨d,b4,c⟩:=bnd_sm c
 refine Bx (.none rfl) rfl rfl (AAF [.agg [Sl n e.funcs o].toArray] rfl) ?_
 refine Calls.mono (SC l b1 b2 b4 (CA (x:=e) a7)) ?_
 rintro _ d0 ⟨b5,d1,rfl,ae,b6⟩
 obtain rfl:=An b6
 refine ⟨_,rfl,?_⟩
 refine Ef (AY b5 22 Is rfl fun a8 d2 p b7 af=>?_)
 refine Eu (St (vs:=[I d.why,I d.at_]) (cs':=[I d.why,I d.at_]) H0 b7 rfl rfl rfl rfl fun b8 ao ag=>?_)
 refine AA ?_
 refine Ac ?_
 refine Sr ?_
 refine Vx (v:=Pt p 0) (Run.fieldAddr0 PX rfl) ?_
 refine Vx (v:=I d.why) (Run.load1 KO rfl (Bk.cell ao rfl)) ?_
 refine Vr (.bool (d.why != 0)) ?_
 refine AA ?_
 refine Cn c (fun b9 c=>?_) fun b9 c=>?_
 refine Sr ?_
 refine Vx (v:=.agg [I d.why,I d.at_].toArray) (Run.loadN Mb rfl rfl (Bk.part ao 0 [I d.why,I d.at_] rfl)) ?_
 have ca:=(Y3 a5 ae af ag)
 refine Eu (St (vs:=[I d.why,I d.at_]) (cs':=[I d.why,I d.at_]) H0 ca rfl rfl rfl rfl fun d3 cb cc=>?_)
 refine AA ?_
 refine AZ ?_
 obtain rfl:=AP c
 refine A0 (B:=B) a4 (BQ rfl (.agg Mb rfl rfl (Bk.part cb 0 [I d.why,I d.at_] rfl)) ?_)
 exact ⟨a8,[I d.why,I d.at_],rfl,Ho (Tn (T4 (Mo [21,22] av) an ae af ag) cc) a1,(Aj (x:=d))⟩
 refine WC.skip ?_
 refine Sr ?_
 have a9:=(Y3 a6 ae af ag)
 refine Vx (v:=.agg [Sl n e.funcs o].toArray) (Run.loadN JI rfl rfl (Bk.part a9 0 [Sl n e.funcs o] rfl)) ?_
 refine Vx (v:=.func (.func 52) #[] [Pt p 0].toArray) (HS (vs:=[Pt p 0]) rfl) ?_
 have ba:=(K3 AL a7 ae af ag)
 obtain ⟨ah,cd,c⟩:=bnd_sm c
 refine Bx (.none rfl) rfl rfl (AAG [.agg [Sl n e.funcs o].toArray,.func (.func 52) #[] [Pt p 0].toArray] rfl) ?_
 refine Calls.mono (S0 l a8 b8 (kn1:=23) (kn2:=24) (ko1_2:=25) cd dcd dcd (CA (x:=e) ba) ao (Aj (x:=d))) ?_
 rintro _ cf ⟨bb,q,bc,d4,d5,rfl,aj,d6,cg,bd,be,ch⟩
 obtain ⟨ci,cj,rfl⟩:=AI bd
 obtain ⟨ck,cl,rfl⟩:=Own.len be
 refine ⟨_,rfl,?_⟩
 refine Va (Pt q 0) ?_
 refine AA ?_
 refine Ac ?_
 refine Sr ?_
 refine Vx (v:=Pt bz 0) (Run.fieldAddr0 IC rfl) ?_
 have cm:=(Bs a9 aj)
 refine Vx (v:=Sl n e.funcs o) (Run.load1 Ji rfl (Bk.cell cm rfl)) ?_
 have bf:=(Ss AL ba aj)
 obtain ⟨d7,d8,cn⟩:=AI bf
 refine Vx (v:=I (e.funcs.length:Int)) (Run.lenSlc I3 cn) ?_
 refine Vx (v:=I 0) (Run.move rfl) ?_
 refine AA ?_
 refine Ao ?_
 refine CZ (fun r co u=>∃(bg:Env) (m:Col) (h:Int) (f:Int) (g:Int) (w:(List AK)) (ap:Option Addr) (aq:Nat) (ai:(List AH)) (aw:Option Addr) (ax:Nat),co=bg.puts [(2,.pointer (some ⟨b3,0,none⟩)),(3,.pointer (some ⟨p,0,none⟩)),(4,.pointer (some ⟨q,0,none⟩)),(17,.slice n e.funcs.length o),(18,.int .i64 (e.funcs.length:Int)),(19,.int .i64 h)]∧G0 l e ah r h f g w ai=some a2∧AO [22,23,25,26] bb cf m u∧Slc AL m.F u (Sl ap w aq) w∧Own Ai 87 m u 25 (Sl aw ai ax) ai∧Bk m u 22 p [I f,I g] 63∧Bk m u 23 q [.map (some bc),Sl ap w aq,Sl aw ai ax,.func (.func 52) #[] [Pt p 0].toArray] 134) l ?_ ?_
 have cq:=(Bs ao aj)
 exact ⟨_,bb,0,d.why,d.at_,ah.2.1,ci,cj,ah.2.2.1,ck,cl,Pu,c,(AO.refl [22,23,25,26] _ _),bd,be,cq,cg⟩
 rintro r _ u ⟨bg,m,h,f,g,w,ap,aq,ai,aw,ax,rfl,c,ak,cr,d9,bh,ct⟩
 rcases r with _|r
 exact BK c
 have c:HI l e ah (G0 l e ah r) h f g w ai=some a2:=c
 obtain ⟨ea,bi⟩:∃s,s=G0 l e ah r:=⟨_,rfl⟩
 rw [←bi,HI] at c
 refine Sr ?_
 refine Vr (.bool (decide (h< (e.funcs.length:Int)))) ?_
 refine AA ?_
 refine Ac ?_
 refine Cn c (fun cu c=>?_) fun cu c=>?_
 refine WC.skip ?_
 refine Ac ?_
 refine Ao ?_
 refine Sr ?_
 obtain ⟨a,cv,c⟩:=bnd_sm c
 have cw:=(Ss AL bf ak)
 obtain ⟨bj,bk,eb,cx,cy,cz,c0,c1,ay⟩:=BX (κ:=AL) cw cv
 replace ay:BG m u bj (bk+h.toNat*11) cx:=ay
 obtain ⟨ec,ed,rfl,bl,bm⟩:=F4 c1
 obtain ⟨al,am,rfl⟩:=AI bl
 obtain ⟨y,z,rfl⟩:=AI bm
 refine Vx (v:=.pointer (some ⟨bj,bk+h.toNat*11,none⟩)) (Run.indexAddr I3 cy rfl cz c0) ?_
 refine Vx (v:=.agg [Sb a.name,Sl al a.params am,I a.type_,I a.body.op,Sb a.body.name,Sb a.body.tail,I a.body.type_,Cx a.body.num,Sl y a.body.args z,I a.body.at_,I a.at_].toArray) (Run.loadN M9 rfl rfl (BG.part0 ay [Sb a.name,Sl al a.params am,I a.type_,I a.body.op,Sb a.body.name,Sb a.body.tail,I a.body.type_,Cx a.body.num,Sl y a.body.args z,I a.body.at_,I a.at_] rfl)) ?_
 refine Ef (AY m 26 L3 rfl fun c2 ee az c3 aa=>?_)
 have c4:=(Ss Ai bl aa)
 have c5:=(Ss AJ bm aa)
 refine Eu (St (vs:=[Sb a.name,Sl al a.params am,I a.type_,I a.body.op,Sb a.body.name,Sb a.body.tail,I a.body.type_,Cx a.body.num,Sl y a.body.args z,I a.body.at_,I a.at_]) (cs':=[Sb a.name,Sl al a.params am,I a.type_,I a.body.op,Sb a.body.name,Sb a.body.tail,I a.body.type_,Cx a.body.num,Sl y a.body.args z,I a.body.at_,I a.at_]) ND c3 rfl rfl rfl rfl fun c6 bn ab=>?_)
 refine AA ?_
 refine Sr ?_
 refine Vx (v:=Pt q 0) (Run.move rfl) ?_
 refine Vx (v:=Pt az 1) (Run.fieldAddr Io rfl) ?_
 refine Vx (v:=Sl al a.params am) (Run.load1 HY rfl (Bk.cell bn rfl)) ?_
 have c7:=(Ss Ai c4 ab)
 obtain ⟨ef,bo,c⟩:=bnd_sm c
 refine Ef (Ey (κ:=Ai) rfl rfl (Own.nil:Own Ai 87 c2 c6 25 _ _) dcd Rm (LX c7) (JP bo) (Js bo) fun eg c8 eh a0 ac=>?_)
 obtain ⟨bp,bq,rfl⟩:=Own.len a0
 refine Vx (v:=Pt q 0) (Run.nilCheck rfl) ?_
 refine Vx (v:=Pt q 2) (Run.fieldAddr En rfl) ?_
 have c9:=(Y3 ct aa ab ac)
 refine Eu (Bf (vs:=[Sl bp ((([]:List AH)++a.params)) bq]) (cs':=[.map (some bc),Sl ap w aq,Sl bp ((([]:List AH)++a.params)) bq,.func (.func 52) #[] [Pt p 0].toArray]) OE rfl rfl rfl rfl (AU (Own.one a0) CI) c9 dcd rfl rfl fun da db ad=>?_)
 refine AA ?_
 refine AQ ?_
 refine Vx (v:=Pt q 0) (Run.move rfl) ?_
 refine Vx (v:=Pt az 3) (Run.fieldAddr OA rfl) ?_
 have br:=(Y2 bn ac ad)
 refine Vx (v:=.agg [I a.body.op,Sb a.body.name,Sb a.body.tail,I a.body.type_,Cx a.body.num,Sl y a.body.args z,I a.body.at_].toArray) (Run.loadN BL rfl rfl (Bk.part br 3 [I a.body.op,Sb a.body.name,Sb a.body.tail,I a.body.type_,Cx a.body.num,Sl y a.body.args z,I a.body.at_] rfl)) ?_
 refine Vx (v:=Pt az 2) (Run.fieldAddr Ro rfl) ?_
 refine Vx (v:=I a.type_) (Run.load1 Fy rfl (Bk.cell br rfl)) ?_
 have dc:=(K4 AL cr aa ab ac ad)
 have de:=(Os a0 ad)
 have df:=(Ms (Ms (Ms (Ms (Ms ch ak) aa) ab) ac) ad)
 have dg:=(Y4 bh aa ab ac ad)
 have dh:=(K3 AJ c5 ab ac ad)
 obtain ⟨ar,di,c⟩:=bnd_sm c
 refine Bx (.none rfl) rfl rfl (K1 [Pt q 0,.agg [I a.body.op,Sb a.body.name,Sb a.body.tail,I a.body.type_,Cx a.body.num,Sl y a.body.args z,I a.body.at_].toArray,I a.type_] rfl) ?_
 refine Calls.mono (Nw l c8 da (ko0_2:=25) di dcd dcd db dc de df dg (Aj (x:=(AE.mk f g))) (Ag (x:=(AD.mk a.body.op a.body.name a.body.tail a.body.type_ a.body.num a.body.args a.body.at_)) dh)) ?_
 rintro _ ei ⟨dj,ej,ek,el,rfl,dk,dl,bt,bu,dm,dn⟩
 obtain ⟨dp,dq,rfl⟩:=AI bt
 obtain ⟨dr,ds,rfl⟩:=Own.len bu
 obtain rfl:=An dn
 refine ⟨_,rfl,?_⟩
 refine AA ?_
 refine AQ ?_
 refine Vr (I (Wr (h+1))) ?_
 refine Vx (v:=I (Wr (h+1))) (Run.move rfl) ?_
 refine AA ?_
 exact ⟨r,Nat.lt_succ_self r,_,dj,(Wr (h+1)),ar.2.2.why,ar.2.2.at_,ar.1,dp,dq,ar.2.1,dr,ds,Pu,(bi▸c),(Tn (T4 (Mo [22,23,25,26] ak) aa ab ac ad) dk),bt,bu,dm,dl⟩
 refine CF ?_
 refine Sr ?_
 refine Vx (v:=.agg [I f,I g].toArray) (Run.loadN Mb rfl rfl (Bk.part bh 0 [I f,I g] rfl)) ?_
 have dt:=(Bs (Y4 a5 ae af ag aj) ak)
 refine Eu (St (vs:=[I f,I g]) (cs':=[I f,I g]) H0 dt rfl rfl rfl rfl fun em du dv=>?_)
 refine AA ?_
 refine AZ ?_
 obtain rfl:=AP c
 refine A0 (B:=B) a4 (BQ rfl (.agg Mb rfl rfl (Bk.part du 0 [I f,I g] rfl)) ?_)
 exact ⟨m,[I f,I g],rfl,Ho (T3 (T4 (Mo [21,22,23,24,25,26] av) an ae af ag) aj ak dv) a1,(Aj (x:=(AE.mk f g)))⟩
theorem SE(c:Nat):F7.Spec (F7 c):=by
 intro a d o p q e f
 refine Calls.mono (Q7 c (recol (see []) a) d (A3 lbr a) e (Av Cp f [])) ?_
 rintro r s ⟨g,h,l,m,n⟩
 exact ⟨glue [] d a g,h,l,Ah m A2,BA Aq n⟩
def Hq.At(e:Col)(a:World)(f:Nat→Option Nat):Prop:=
 ∀{c:Nat} {d:Nat},f c=some d→
  Calls Tryz.prog 113 #[Fl c] a fun g h=>∃(l:Col),g=.returned (Fl d)∧AO [] e a l h
def Hq.Spec(f:Nat→Option Nat):Prop:=
 ∀(a:Col) (c:World),Hq.At a c f
theorem SF(c:Col)(e:World)(f:∀b,c b<10):Hq.At c e Hq:=by
 intro g n a
 rw [Hq] at a
 refine A5 Tryz.func113 rfl Tryz.ntmps113 rfl fun B l o=>Sr<|Va (Fl (0:Nat))<|AA<|Ac<|WC.cond (t:=true) rfl (fun h=>?_) (fun h=>by cases h)
 refine Sr<|Vm<|Bi a fun d m a=>Vx (v:=Fl d) (ZE (vs:=[Fl g]) rfl (VL m))<|Va (Fl d)<|AA<|AZ ?_
 obtain rfl:=AP a
 refine A0 (B:=B) l (BQ rfl (.tmp rfl) ?_)
 exact ⟨c,rfl,Ho (AO.refl [] _ _) f⟩
theorem S5:Hq.Spec Hq:=by
 intro a c h l d
 refine Calls.mono (SF (recol (see []) a) c (A3 lbr a) d) ?_
 rintro m n ⟨e,f,g⟩
 exact ⟨glue [] c a e,f,Ah g A2⟩
def HV.At(e:Col)(a:World)(f:Nat→Option Bool):Prop:=
 ∀{c:Nat} {d:Bool},f c=some d→
  Calls Tryz.prog 114 #[Fl c] a fun g h=>∃(l:Col),g=.returned (.bool d)∧AO [] e a l h
def HV.Spec(f:Nat→Option Bool):Prop:=
 ∀(a:Col) (c:World),HV.At a c f
theorem QM(c:Col)(e:World)(f:∀b,c b<10):HV.At c e HV:=by
 intro a h d
 rw [HV] at d
 refine A5 Tryz.func114 rfl Tryz.ntmps114 rfl fun B g l=>Sr<|Va (.bool false)<|AA<|Sr<|Vm<|Vx (v:=.int .u64 ((a:Nat):Int)) (OH (vs:=[Fl a]) rfl rfl)<|Vr (I (Wr ((a:Nat):Int)))<|Vr (.bool (decide ((Wr ((a:Nat):Int))<0)))<|Va (.bool (decide ((Wr ((a:Nat):Int))<0)))<|AA<|AZ ?_
 obtain rfl:=AP d
 refine A0 (B:=B) g (BQ rfl (.tmp rfl) ?_)
 exact ⟨c,rfl,Ho (AO.refl [] _ _) f⟩
theorem Q8:HV.Spec HV:=by
 intro a c h l d
 refine Calls.mono (QM (recol (see []) a) c (A3 lbr a) d) ?_
 rintro m n ⟨e,f,g⟩
 exact ⟨glue [] c a e,f,Ah g A2⟩
def F8.At(e:Col)(a:World)(f:Nat→Option Bool):Prop:=
 ∀{c:Nat} {d:Bool},f c=some d→
  Calls Tryz.prog 88 #[Fl c] a fun g h=>∃(l:Col),g=.returned (.bool d)∧AO [] e a l h
def F8.Spec(f:Nat→Option Bool):Prop:=
 ∀(a:Col) (c:World),F8.At a c f
theorem Q9(g:Col)(l:World)(u:∀b,g b<10):F8.At g l F8:=by
 intro h w a
 rw [F8] at a
 refine A5 Tryz.func88 rfl Tryz.ntmps88 rfl fun B y ah=>Sr<|Va (.bool false)<|AA<|Au (fun z r=>∃(s:Env) (m:Col) (n:Bool),z=s.puts [(2,.bool n)]∧G3 n=some w∧AO [] g l m r) ?_ ?_
 refine AQ<|Vm<|Vr (.bool (fge h (13938640846711685120:Nat)))<|Vm<|Bo a (fun f a=>?_) fun f a=>?_
 refine Gm f<|Gr f (.bool (fle h (4715268809856909312:Nat)))<|Vp f<|Vm<|Bo a (fun d a=>?_) fun d a=>?_
 refine Gm d<|Gm d<|Bi a fun aa ab a=>Bx (.guard (t:=true) (b:=true) rfl rfl rfl rfl (Cb d)) rfl rfl (Yj [Fl h] rfl)<|Calls.mono (S5 g l ab) ?_
 rintro _ ac ⟨o,rfl,p⟩
 refine ⟨_,rfl,?_⟩
 refine Gr d (.bool (feq h aa))<|Vp d<|Vm<|Bo a (fun c a=>?_) fun c a=>?_
 refine Gm c<|Gr c (.bool (fne h (0:Nat)))<|Gm c<|Bo a (fun e a=>?_) fun e a=>?_
 refine Pg e<|Pg e<|Pg e<|Gp c e<|Vp c<|Va (.bool true)<|AA<|⟨_,o,true,Pu,a,(Mo [] p)⟩
 refine Gm e<|Bi a fun q ad a=>Bx (.guard (t:=false) (b:=false) rfl rfl rfl rfl (Cb e)) rfl rfl (Yk [Fl h] rfl)<|Calls.mono (Q8 o ac ad) ?_
 rintro _ ai ⟨ae,rfl,af⟩
 refine ⟨_,rfl,?_⟩
 refine Gr e (.bool (!q))<|Gp c e<|Vp c<|Va (.bool (!q))<|AA<|⟨_,ae,(!q),Pu,a,(Tn (Mo [] p) af)⟩
 refine Pg c<|Pg c<|Pg c<|Po<|Po<|Po<|Pg c<|Vp c<|Va (.bool false)<|AA<|⟨_,o,false,Pu,a,(Mo [] p)⟩
 refine Pg d<|Pg d<|Pg d<|Pg d<|Vp d<|Vm<|Pg rfl<|Pg rfl<|Pg rfl<|Po<|Po<|Po<|Pg rfl<|Vr (.bool false)<|Va (.bool false)<|AA<|⟨_,g,false,Pu,a,(AO.refl [] _ _)⟩
 refine Pg f<|Pg f<|Vp f<|Vm<|Pg rfl<|Pg rfl<|Pg rfl<|Pg rfl<|Vr (.bool false)<|Vm<|Pg rfl<|Pg rfl<|Pg rfl<|Po<|Po<|Po<|Pg rfl<|Vr (.bool false)<|Va (.bool false)<|AA<|⟨_,g,false,Pu,a,(AO.refl [] _ _)⟩
 rintro _ r ⟨s,m,n,rfl,a,ag⟩
 rw [G3] at a
 refine AZ ?_
 obtain rfl:=AP a
 refine A0 (B:=B) y (BQ rfl (.tmp rfl) ?_)
 exact ⟨m,rfl,Ho (Mo [] ag) u⟩
theorem OT:F8.Spec F8:=by
 intro a c h l d
 refine Calls.mono (Q9 (recol (see []) a) c (A3 lbr a) d) ?_
 rintro m n ⟨e,f,g⟩
 exact ⟨glue [] c a e,f,Ah g A2⟩
def Bh.At(e:Col)(a:World)(f:(Nat×Nat)→Option Bool):Prop:=
 ∀{c:(Nat×Nat)} {d:Bool},f c=some d→
  Calls Tryz.prog 54 #[Cx c] a fun g h=>∃(l:Col),g=.returned (.bool d)∧AO [] e a l h
def Bh.Spec(f:(Nat×Nat)→Option Bool):Prop:=
 ∀(a:Col) (c:World),Bh.At a c f
theorem RA(d:Col)(f:World)(q:∀b,d b<10):Bh.At d f Bh:=by
 intro e r a
 rw [Bh] at a
 refine A5 Tryz.func54 rfl Tryz.ntmps54 rfl fun B s ad=>Sr<|Va (.bool false)<|AA<|Au (fun u l=>∃(m:Env) (g:Col) (h:Bool),u=m.puts [(2,.bool h)]∧JV h=some r∧AO [] d f g l) ?_ ?_
 refine AQ<|Vm<|Vx (v:=Fl e.1) (Run.real rfl)<|Bi a fun ae w a=>Ca (XM [Fl e.1] rfl) (OT d f w) ?_
 rintro _ y ⟨n,rfl,o⟩
 refine ⟨_,rfl,?_⟩
 refine Vm<|Bo a (fun c a=>?_) fun c a=>?_
 refine Gm c<|Gx c (v:=Fl e.2) (Run.imag rfl)<|Bi a fun p z a=>Bx (.guard (t:=true) (b:=true) rfl rfl rfl rfl (Cb c)) rfl rfl (XM [Fl e.2] rfl)<|Calls.mono (OT n y z) ?_
 rintro _ af ⟨aa,rfl,ab⟩
 refine ⟨_,rfl,?_⟩
 refine Vp c<|Va (.bool p)<|AA<|⟨_,aa,p,Pu,a,(Tn (Mo [] o) ab)⟩
 refine Pg c<|Pg c<|Pg c<|Vp c<|Va (.bool false)<|AA<|⟨_,n,false,Pu,a,(Mo [] o)⟩
 rintro _ l ⟨m,g,h,rfl,a,ac⟩
 rw [JV] at a
 refine AZ ?_
 obtain rfl:=AP a
 refine A0 (B:=B) s (BQ rfl (.tmp rfl) ?_)
 exact ⟨g,rfl,Ho (Mo [] ac) q⟩
theorem Cl:Bh.Spec Bh:=by
 intro a c h l d
 refine Calls.mono (RA (recol (see []) a) c (A3 lbr a) d) ?_
 rintro m n ⟨e,f,g⟩
 exact ⟨glue [] c a e,f,Ah g A2⟩
def Cw.At(c:Col)(a:World)(f:AG→Option Int):Prop:=
 ∀{d:AG} {e:List Value} {g:Int},f d=some g→Ax.rep c.F a e d→
  Calls Tryz.prog 30 #[.agg e.toArray] a fun h l=>∃(m:Col),h=.returned (I g)∧AO [] c a m l
def Cw.Spec(f:AG→Option Int):Prop:=
 ∀(a:Col) (c:World),Cw.At a c f
theorem RB(am:Nat)(an:Col)(bd:World)(az:∀b,an b<10):Cw.At an bd (Cw am):=by
 intro c b9 y a be
 rw [Cw] at a
 obtain ⟨ca,rfl,af⟩:=Bt be
 obtain ⟨a0,a1,rfl⟩:=AI af
 refine A5 Tryz.func30 rfl Tryz.ntmps30 rfl fun B a2 cb=>Sr<|Ef (By an 20 rfl rfl fun w z bf o aa=>?_)
 refine Va (I 0)<|AA<|Sr<|Va (.bool true)<|AA<|Au (fun q a3=>∃(d:Env) (ag:Col) (ah:Bool),q=d.puts [(3,.bool ah)]∧D2 ah=some y∧AO [] w z ag a3) ?_ ?_
 refine Sr<|Vx (Run.fieldAddr0 JB rfl)<|Vx (Run.load1 Fy rfl (Bk.cell o rfl))<|AA<|Ao<|Sr<|Vr (.bool (c.type_==1))<|Va (.bool (c.type_==1))<|AA<|Cn a (fun bg a=>?_) fun bg a=>?_
 refine AQ<|Vx (Run.fieldAddr HQ rfl)<|Vx (Run.load1 HX rfl (Bk.cell o rfl))<|Bi a fun cc bh a=>Ca (Ju [Cx c.num] rfl) (Cl w z bh) ?_
 rintro _ cd ⟨ao,rfl,ab⟩
 refine ⟨_,rfl,?_⟩
 refine Vm<|Bo a (fun h a=>?_) fun h a=>?_
 refine Gx h (Run.fieldAddr J6 rfl)<|have a4:=Bs o ab;Gx h (Run.load1 Oz rfl (Bk.cell a4 rfl))<|Gr h (.bool (!c.bool))<|Vp h<|Vm<|Bo a (fun e a=>?_) fun e a=>?_
 refine Gx e (Run.fieldAddr Ew rfl)<|Gx e (Run.load1 Ip rfl (Bk.cell a4 rfl))<|have bi:=K2 Kd.cpx af aa ab; ?_
 obtain ⟨cf,cg,bj⟩:=AI bi
 refine Gx e (v:=I (c.list.length:Int)) (Run.lenSlc IQ bj)<|Gr e (.bool ((c.list.length:Int)==0))<|Vp e<|Va (.bool ((c.list.length:Int)==0))<|AA<|⟨_,ao,((c.list.length:Int)==0),Pu,a,(Mo [] ab)⟩
 refine Pg e<|Pg e<|Pg e<|Pg e<|Vp e<|Va (.bool false)<|AA<|⟨_,ao,false,Pu,a,(Mo [] ab)⟩
 refine Pg h<|Pg h<|Pg h<|Vp h<|Vm<|Pg rfl<|Pg rfl<|Pg rfl<|Pg rfl<|Vr (.bool false)<|Va (.bool false)<|AA<|⟨_,ao,false,Pu,a,(Mo [] ab)⟩
 refine Sr<|Vr (.bool (c.type_==2))<|Va (.bool (c.type_==2))<|AA<|Cn a (fun bk a=>?_) fun bk a=>?_
 refine AQ<|Vx (Run.fieldAddr HQ rfl)<|Vx (Run.load1 HX rfl (Bk.cell o rfl))<|Bi a fun ch bl a=>Ca (Ju [Cx c.num] rfl) (Cl w z bl) ?_
 rintro _ ci ⟨ap,rfl,ac⟩
 refine ⟨_,rfl,?_⟩
 refine Vm<|Bo a (fun l a=>?_) fun l a=>?_
 refine Gx l (Run.fieldAddr HQ rfl)<|have a5:=Bs o ac;Gx l (Run.load1 HX rfl (Bk.cell a5 rfl))<|Gx l (v:=.bool (ceq c.num ((0,0):Nat×Nat))) (Run.ceq rfl rfl)<|Vp l<|Vm<|Bo a (fun f a=>?_) fun f a=>?_
 refine Gx f (Run.fieldAddr Ew rfl)<|Gx f (Run.load1 Ip rfl (Bk.cell a5 rfl))<|have bm:=K2 Kd.cpx af aa ac; ?_
 obtain ⟨cj,ck,bn⟩:=AI bm
 refine Gx f (v:=I (c.list.length:Int)) (Run.lenSlc IQ bn)<|Gr f (.bool ((c.list.length:Int)==0))<|Vp f<|Va (.bool ((c.list.length:Int)==0))<|AA<|⟨_,ap,((c.list.length:Int)==0),Pu,a,(Mo [] ac)⟩
 refine Pg f<|Pg f<|Pg f<|Pg f<|Vp f<|Va (.bool false)<|AA<|⟨_,ap,false,Pu,a,(Mo [] ac)⟩
 refine Pg l<|Pg l<|Pg l<|Vp l<|Vm<|Pg rfl<|Pg rfl<|Pg rfl<|Pg rfl<|Vr (.bool false)<|Va (.bool false)<|AA<|⟨_,ap,false,Pu,a,(Mo [] ac)⟩
 refine Sr<|Vr (.bool (c.type_==3))<|Va (.bool (c.type_==3))<|AA<|Cn a (fun bo a=>?_) fun bo a=>?_
 refine Au (fun q aq=>∃(d:Env) (ai:Col) (aj:Bool),q=d.puts [(1,.pointer (some ⟨bf,0,none⟩)),(3,.bool aj)]∧Ie am c aj=some y∧AO [] w z ai aq) ?_ ?_
 refine AQ<|Vx (Run.fieldAddr HQ rfl)<|Vx (Run.load1 HX rfl (Bk.cell o rfl))<|Bi a fun cl bp a=>Ca (Ju [Cx c.num] rfl) (Cl w z bp) ?_
 rintro _ cm ⟨ar,rfl,ak⟩
 refine ⟨_,rfl,?_⟩
 refine Vm<|Bo a (fun m a=>?_) fun m a=>?_
 refine Gx m (Run.fieldAddr HQ rfl)<|have a6:=Bs o ak;Gx m (Run.load1 HX rfl (Bk.cell a6 rfl))<|Gx m (v:=.bool (ceq c.num ((0,0):Nat×Nat))) (Run.ceq rfl rfl)<|Vp m<|Vm<|Bo a (fun n a=>?_) fun n a=>?_
 refine Gx n (Run.fieldAddr J6 rfl)<|Gx n (Run.load1 Oz rfl (Bk.cell a6 rfl))<|Gr n (.bool (!c.bool))<|Vp n<|Va (.bool (!c.bool))<|AA<|⟨_,ar,(!c.bool),Pu,a,(Mo [] ak)⟩
 refine Pg n<|Pg n<|Pg n<|Vp n<|Va (.bool false)<|AA<|⟨_,ar,false,Pu,a,(Mo [] ak)⟩
 refine Pg m<|Pg m<|Pg m<|Vp m<|Vm<|Pg rfl<|Pg rfl<|Pg rfl<|Vr (.bool false)<|Va (.bool false)<|AA<|⟨_,ar,false,Pu,a,(Mo [] ak)⟩
 rintro _ aq ⟨d,ai,aj,rfl,a,au⟩
 rw [Ie] at a
 refine Sr<|Vx (Run.fieldAddr Ew rfl)<|have bq:=Bs o au;Vx (Run.load1 Ip rfl (Bk.cell bq rfl))<|have a7:=K2 Kd.cpx af aa au; ?_
 obtain ⟨cn,co,br⟩:=AI a7
 refine Vx (v:=I (c.list.length:Int)) (Run.lenSlc IQ br)<|Vm<|AA<|Ao<|CZ (fun p q ad=>∃(d:Env) (r:Col) (ae:Bool) (g:Int),q=d.puts [(3,.bool ae),(56,.slice a0 c.list.length a1),(57,.int .i64 (c.list.length:Int)),(58,.int .i64 g)]∧Hr c p ae g=some y∧AO [] ai aq r ad) am ?_ ?_
 exact ⟨_,ai,aj,0,Pu,a,(AO.refl [] _ _)⟩
 rintro p _ ad ⟨d,r,ae,g,rfl,a,av⟩
 rcases p with _|p
 exact BK a
 refine have a:I5 c (Hr c p) ae g=some y:=a; ?_
 obtain ⟨bt,a8⟩:∃s,s=Hr c p:=⟨_,rfl⟩
 rw [←a8,I5] at a
 refine Sr<|Vr (.bool (decide (g< (c.list.length:Int))))<|AA<|Ac<|Cn a (fun bu a=>?_) fun bu a=>?_
 refine WC.skip<|Au (fun q a9=>∃(d:Env) (aw:Col) (al:Bool),q=d.puts [(3,.bool al),(56,.slice a0 c.list.length a1),(57,.int .i64 (c.list.length:Int)),(58,.int .i64 g)]∧JW g bt al=some y∧AO [] r ad aw a9) ?_ ?_
 refine Ao<|Sr<|Bi a fun ax bv a=>have bw:=Ss Kd.cpx a7 av; ?_
 obtain ⟨bx,bz,cq,ba,b0,b1,b2,b3,ay⟩:=BX (κ:=Kd.cpx) bw bv
 replace ay:BG r ad bx (bz+g.toNat*1) ba:=ay
 obtain rfl:=(show ba=[Cx ax] from b3)
 refine Vx (Run.indexAddr IQ b0 rfl b1 b2)<|Vx (Run.load1 HX rfl (BG.cell0 ay rfl))<|Va (Cx ax)<|AA<|AQ<|Vm<|Vm<|Bo a (fun u a=>?_) fun u a=>?_
 refine Gm u<|Bi a fun bb b4 a=>Bx (.guard (t:=true) (b:=true) rfl rfl rfl rfl (Cb u)) rfl rfl (Ju [Cx ax] rfl)<|Calls.mono (Cl r ad b4) ?_
 rintro _ cr ⟨b5,rfl,b6⟩
 refine ⟨_,rfl,?_⟩
 refine Vp u<|Va (.bool bb)<|AA<|⟨_,b5,bb,Pu,a,(Mo [] b6)⟩
 refine Pg u<|Pg u<|Vp u<|Va (.bool false)<|AA<|⟨_,r,false,Pu,a,(AO.refl [] _ _)⟩
 rintro _ a9 ⟨d,aw,al,rfl,a,b7⟩
 rw [JW] at a
 refine AQ<|Vr (I (Wr (g+1)))<|Vm<|AA<|⟨p,Nat.lt_succ_self p,_,aw,al,(Wr (g+1)),Pu,(a8▸a),(Tn (Mo [] av) b7)⟩
 refine CF<|⟨_,r,ae,Pu,a,(Tn (Mo [] au) av)⟩
 refine AQ<|Va (.bool false)<|AA<|⟨_,w,false,Pu,a,(AO.refl [] _ _)⟩
 rintro _ a3 ⟨d,ag,ah,rfl,a,bc⟩
 rw [D2] at a
 refine Ac<|Sr<|Vm<|Vr (.bool (!ah))<|AA<|Cn a (fun b8 a=>?_) fun b8 a=>?_
 refine Sr<|Va (I 3)<|AA<|AZ ?_
 obtain rfl:=AP a
 refine A0 (B:=B) a2 (BQ rfl (.tmp rfl) ?_)
 exact ⟨ag,rfl,Ho (Tn (Mo [] aa) bc) az⟩
 refine WC.skip<|Sr<|Va (I 0)<|AA<|AZ ?_
 obtain rfl:=AP a
 refine A0 (B:=B) a2 (BQ rfl (.tmp rfl) ?_)
 exact ⟨ag,rfl,Ho (Tn (Mo [] aa) bc) az⟩
theorem OU(c:Nat):Cw.Spec (Cw c):=by
 intro a d m n o e f
 refine Calls.mono (RB c (recol (see []) a) d (A3 lbr a) e (Av Ax f [])) ?_
 rintro p q ⟨g,h,l⟩
 exact ⟨glue [] d a g,h,Ah l A2⟩
def Hg.At(c:Col)(a:World)(f:Ak→Option Th):Prop:=
 ∀{d:Ak} {e:List Value} {g:Th},f d=some g→GI.rep c.F a e d→
  Calls Tryz.prog 55 #[.agg e.toArray] a fun n h=>∃(l:Col) (m:Value),n=.returned m∧AO [] c a l h∧MTh 89 90 l.F h m g
def Hg.Spec(f:Ak→Option Th):Prop:=
 ∀(a:Col) (c:World),Hg.At a c f
theorem S6(e:Col)(h:World)(l:∀b,e b<10):Hg.At e h Hg:=by
 intro a ae af f m
 rw [Hg] at f
 obtain ⟨ag,n,o,rfl,g,p,q⟩:=DE m
 obtain ⟨r,s,rfl⟩:=AI g
 refine A5 Tryz.func55 rfl Tryz.ntmps55 rfl fun B u ah=>Sr<|Ef (By e 20 rfl rfl fun ai aj c w d=>?_)
 refine Va .nilFunc<|AA<|Sr<|Vx (v:=.func (.func 89) #[] [Pt c 0].toArray) (HS (vs:=[Pt c 0]) rfl)<|Va (.func (.func 89) #[] [Pt c 0].toArray)<|AA<|AZ<|have y:=Ss Kd.cpx g d;have z:=Mt p d;have aa:=Mt q d; ?_
 obtain ⟨ab,ac,ad⟩:=MTh.layDone (L:=90) (cp:=[I a.plain.type_,Cx a.plain.num,.bool a.plain.bool,Sl r a.plain.list s]) (hv:=n) (tv:=o) w dcd (BB (x:=(AG.mk a.plain.type_ a.plain.num a.plain.bool a.plain.list)) y) z aa
 obtain rfl:=AP f
 refine A0 (B:=B) u (BQ rfl (.tmp rfl) ?_)
 exact ⟨ab,.func (.func 89) #[] [Pt c 0].toArray,rfl,Ho (Tn (Mo [20] d) ac) l,ad⟩
theorem Km:Hg.Spec Hg:=by
 intro a c n o p d e
 refine Calls.mono (S6 (recol (see []) a) c (A3 lbr a) d (Av GI e [])) ?_
 rintro q r ⟨f,g,h,l,m⟩
 exact ⟨glue [] c a f,g,h,Ah l A2,MTh.glue m⟩
def Hs.At(c:Col)(a:World)(f:AG→Option Th):Prop:=
 ∀{d:AG} {e:List Value} {g:Th},f d=some g→Ax.rep c.F a e d→
  Calls Tryz.prog 31 #[.agg e.toArray] a fun n h=>∃(l:Col) (m:Value),n=.returned m∧AO [] c a l h∧MTh 89 90 l.F h m g
def Hs.Spec(f:AG→Option Th):Prop:=
 ∀(a:Col) (c:World),Hs.At a c f
theorem SG(ab:Nat)(p:Col)(av:World)(ac:∀b,p b<10):Hs.At p av (Hs ab):=by
 intro c bu ad a aw
 rw [Hs] at a
 obtain ⟨bv,rfl,q⟩:=Bt aw
 obtain ⟨r,u,rfl⟩:=AI q
 refine A5 Tryz.func31 rfl Tryz.ntmps31 rfl fun B ae bw=>Sr<|Ef (By p 20 rfl rfl fun af ag ax w n=>?_)
 refine Va .nilFunc<|AA<|Ac<|Sr<|Vx (Run.fieldAddr0 JB rfl)<|Vx (Run.load1 Fy rfl (Bk.cell w rfl))<|Vr (.bool (c.type_ != 3))<|AA<|Cn a (fun ay a=>?_) fun ay a=>?_
 refine Sr<|Vx (Run.loadN Dc rfl rfl (Bk.part w 0 [I c.type_,Cx c.num,.bool c.bool,Sl r c.list u] rfl))<|Vx (v:=.agg [I c.type_,Cx c.num,.bool c.bool,Sl r c.list u,.nilFunc,.nilFunc].toArray) (Bp Jj Md rfl (.cons rfl rfl rfl .nil))<|have az:=Ss Kd.cpx q n;Bi a fun bx a0 a=>Ca (Rk [.agg [I c.type_,Cx c.num,.bool c.bool,Sl r c.list u,.nilFunc,.nilFunc].toArray] rfl) (Km af ag a0 (CS (x:=(Ak.mk c Th.nil Th.nil)) az MTh.nil MTh.nil)) ?_
 rintro _ bz ⟨a1,ah,rfl,a2,a3⟩
 refine ⟨_,rfl,?_⟩
 refine Va ah<|AA<|AZ ?_
 obtain rfl:=AP a
 refine A0 (B:=B) ae (BQ rfl (.tmp rfl) ?_)
 exact ⟨a1,ah,rfl,Ho (Tn (Mo [] n) a2) ac,a3⟩
 refine WC.skip<|Sr<|Vx (v:=.agg [I 3,Cx (((0,0):Nat×Nat)),.bool false,.slice none 0 0].toArray) (Bp Ep Iq rfl (.cons rfl rfl rfl .nil))<|Vx (v:=.agg [I 3,Cx (((0,0):Nat×Nat)),.bool false,.slice none 0 0,.nilFunc,.nilFunc].toArray) (Bp Jj Md rfl (.cons rfl rfl rfl .nil))<|Bi a fun a4 a5 a=>Ca (Rk [.agg [I 3,Cx (((0,0):Nat×Nat)),.bool false,.slice none 0 0,.nilFunc,.nilFunc].toArray] rfl) (Km af ag a5 (CS (x:=(Ak.mk (AG.mk 3 ((0,0):Nat×Nat) false []) Th.nil Th.nil)) Cd MTh.nil MTh.nil)) ?_
 rintro _ a6 ⟨ai,aj,rfl,y,a7⟩
 refine ⟨_,rfl,?_⟩
 refine Va aj<|AA<|Ac<|Sr<|Vx (Run.fieldAddr Ew rfl)<|have ak:=Bs w y;Vx (Run.load1 Ip rfl (Bk.cell ak rfl))<|have al:=K2 Kd.cpx q n y; ?_
 obtain ⟨b0,b1,a8⟩:=AI al
 refine Vx (v:=I (c.list.length:Int)) (Run.lenSlc IQ a8)<|Vr (I (Wr ((c.list.length:Int) - 1)))<|Va (I (Wr ((c.list.length:Int) - 1)))<|AA<|Ao<|CZ (fun e a9 h=>∃(am:Env) (g:Col) (l:Th) (f:Value) (d:Int),a9=am.puts [(1,.pointer (some ⟨ax,0,none⟩)),(3,f),(4,.int .i64 d)]∧IG c e l d=some ad∧AO [] ai a6 g h∧MTh 89 90 g.F h f l) ab ?_ ?_
 exact ⟨_,ai,a4,aj,(Wr ((c.list.length:Int) - 1)),Pu,a,(AO.refl [] _ _),a7⟩
 rintro e _ h ⟨am,g,l,f,d,rfl,a,o,z⟩
 rcases e with _|e
 exact BK a
 refine have a:JX c (IG c e) l d=some ad:=a; ?_
 obtain ⟨b2,an⟩:∃s,s=IG c e:=⟨_,rfl⟩
 rw [←an,JX] at a
 refine Ac<|Sr<|Vm<|Vr (.bool (decide (d≥0)))<|AA<|Cn a (fun ba a=>?_) fun ba a=>?_
 refine WC.skip<|Ac<|Ao<|AQ<|Vx (Run.fieldAddr Ew rfl)<|have bb:=Bs ak o;Vx (Run.load1 Ip rfl (Bk.cell bb rfl))<|Vm<|Bi a fun m bc a=>have bd:=Ss Kd.cpx al o; ?_
 obtain ⟨be,o130,b3,ao,bf,bg,bh,bi,aa⟩:=BX (κ:=Kd.cpx) bd bc
 replace aa:BG g h be (o130+d.toNat*1) ao:=aa
 obtain rfl:=(show ao=[Cx m] from bi)
 refine Vx (Run.indexAddr IQ bf rfl bg bh)<|Vx (Run.load1 HX rfl (BG.cell0 aa rfl))<|Vx (v:=.agg [I 1,Cx m,.bool false,.slice none 0 0].toArray) (Bp Ep Iq rfl (.cons rfl rfl rfl (.cons rfl rfl rfl .nil)))<|Vx (v:=.agg [I 1,Cx m,.bool false,.slice none 0 0,.nilFunc,.nilFunc].toArray) (Bp Jj Md rfl (.cons rfl rfl rfl .nil))<|Bi a fun bj bk a=>Ca (Rk [.agg [I 1,Cx m,.bool false,.slice none 0 0,.nilFunc,.nilFunc].toArray] rfl) (Km g h bk (CS (x:=(Ak.mk (AG.mk 1 m false []) Th.nil Th.nil)) Cd MTh.nil MTh.nil)) ?_
 rintro _ bl ⟨bm,ap,rfl,aq,ar⟩
 refine ⟨_,rfl,?_⟩
 refine Vm<|Vx (v:=.agg [I 0,Cx (((0,0):Nat×Nat)),.bool false,.slice none 0 0,ap,f].toArray) (Bp Jj Md rfl (.cons rfl (H1 (MTh.one ar)) rfl (.cons rfl (H1 (MTh.one z)) rfl .nil)))<|have bn:=Mt z aq;Bi a fun bo bp a=>Ca (Rk [.agg [I 0,Cx (((0,0):Nat×Nat)),.bool false,.slice none 0 0,ap,f].toArray] rfl) (Km bm bl bp (CS (x:=(Ak.mk (AG.mk 0 ((0,0):Nat×Nat) false []) bj l)) Cd ar bn)) ?_
 rintro _ b4 ⟨bq,au,rfl,br,bt⟩
 refine ⟨_,rfl,?_⟩
 refine Va au<|AA<|AQ<|Vm<|Vr (I (Wr (d - 1)))<|Va (I (Wr (d - 1)))<|AA<|⟨e,Nat.lt_succ_self e,_,bq,bo,au,(Wr (d - 1)),Pu,(an▸a),(T2 (Mo [] o) aq br),bt⟩
 refine CF<|Sr<|Vm<|Va f<|AA<|AZ ?_
 obtain rfl:=AP a
 refine A0 (B:=B) ae (BQ rfl (.tmp rfl) ?_)
 exact ⟨g,f,rfl,Ho (T2 (Mo [] n) y o) ac,z⟩
theorem S7(c:Nat):Hs.Spec (Hs c):=by
 intro a d o p q e f
 refine Calls.mono (SG c (recol (see []) a) d (A3 lbr a) e (Av Ax f [])) ?_
 rintro r s ⟨g,h,l,m,n⟩
 exact ⟨glue [] d a g,h,l,Ah m A2,MTh.glue n⟩
def DK.At(c:Col)(a:World)(f:Nm→Bts→Option Th):Prop:=
 ∀{d:Nm} {v0:Value} {e:Bts} {g:Th},f d e=some g→Fg 89 90 c.F a v0 d→
  Calls Tryz.prog 56 #[v0,Sb e] a fun n h=>∃(l:Col) (m:Value),n=.returned m∧AO [] c a l h∧MTh 89 90 l.F h m g
def DK.Spec(f:Nm→Bts→Option Th):Prop:=
 ∀(a:Col) (c:World),DK.At a c f
theorem Ot(r:Nat)(g:Col)(u:World)(ab:∀b,g b<10):DK.At g u (DK r):=by
 intro ac v0 d w a ad
 rw [DK] at a
 refine A5 Tryz.func56 rfl Tryz.ntmps56 rfl fun B ae am=>Sr<|Va .nilFunc<|AA<|Ac<|Ao<|CZ (fun c af h=>∃(y:Env) (e:Col) (l:Nm) (m:Value),af=y.puts [(0,m),(1,.string (bs d))]∧Dw d c l=some w∧AO [] g u e h∧Fg 89 90 e.F h m l) r ?_ ?_
 exact ⟨_,g,ac,v0,Pu,a,(AO.refl [] _ _),ad⟩
 rintro c _ h ⟨y,e,l,m,rfl,a,z,ag⟩
 rcases c with _|c
 exact BK a
 refine have a:Jt d (Dw d c) l=some w:=a; ?_
 obtain ⟨an,aa⟩:∃s,s=Dw d c:=⟨_,rfl⟩
 rw [←aa,Jt] at a
 refine Ac<|Sr<|Vm<|Bi a fun n ah a=>?_
 obtain ⟨ai,o,p,q,f,aj,ak⟩:=Fg.el ag ah
 replace f:BG e h ai 0 [Sb n.1,o,p]:=f
 refine Vx (Run.nilCheck q)<|Vx (Run.fieldAddr0 Xc rfl)<|Vx (Run.load1 De rfl (BG.cell0 f rfl))<|Vm<|Vx (v:=.bool (!(n.1==d))) (Run.strNe rfl rfl)<|AA<|Cn a (fun al a=>?_) fun al a=>?_
 refine WC.skip<|Ao<|AQ<|Vm<|Vx (Run.nilCheck q)<|Vx (Run.fieldAddr Xd rfl)<|Vx (Run.load1 Xj rfl (BG.cell (k:=2) f rfl))<|Va p<|AA<|⟨c,Nat.lt_succ_self c,_,e,n.2.2,p,Pu,(aa▸a),(Mo [] z),ak⟩
 refine CF<|Sr<|Vm<|Vx (Run.nilCheck q)<|Vx (Run.fieldAddr Ur rfl)<|Vx (Run.load1 OG rfl (BG.cell (k:=1) f rfl))<|Va o<|AA<|AZ ?_
 obtain rfl:=AP a
 refine A0 (B:=B) ae (BQ rfl (.tmp rfl) ?_)
 exact ⟨e,o,rfl,Ho (Mo [] z) ab,aj⟩
theorem PB(c:Nat):DK.Spec (DK c):=by
 intro a d o v0 p q e f
 refine Calls.mono (Ot c (recol (see []) a) d (A3 lbr a) e (Fg.recol f [])) ?_
 rintro r s ⟨g,h,l,m,n⟩
 exact ⟨glue [] d a g,h,l,Ah m A2,MTh.glue n⟩
def H7.At(c:Col)(a:World)(f:Ak→Option Ak):Prop:=
 ∀{d:Ak} {e:Nat} {g:List Value} {v0:Value} {h:Ak},f d=some h→BG c a e 0 g→GI.rep c.F a g d→v0.oneCell'=true→
  Calls Tryz.prog 89 #[v0,Pt e 0] a fun o l=>∃(m:Col) (n:List Value),o=.returned (.agg n.toArray)∧AO [] c a m l∧GI.rep m.F l n h
def H7.Spec(f:Ak→Option Ak):Prop:=
 ∀(a:Col) (c:World),H7.At a c f
theorem RC(l:Col)(r:World)(s:∀b,l b<10):H7.At l r H7:=by
 intro a ag ah v0 ai m u w _p0
 rw [H7] at m
 obtain ⟨aj,c,d,rfl,n,o,p⟩:=DE w
 obtain ⟨e,f,rfl⟩:=AI n
 refine A5 Tryz.func89 rfl Tryz.ntmps89 rfl fun B y ak=>Sr<|Ef (AY l 20 Jj rfl fun z al am aa g=>?_)
 refine AA<|Sr<|have ab:=Es u g;Vx (Run.loadN In rfl rfl (BG.part0 ab [I a.plain.type_,Cx a.plain.num,.bool a.plain.bool,Sl e a.plain.list f,c,d] rfl))<|have q:=Ss Kd.cpx n g;Eu (Bf (vs:=[I a.plain.type_,Cx a.plain.num,.bool a.plain.bool,Sl e a.plain.list f,c,d]) (cs':=[I a.plain.type_,Cx a.plain.num,.bool a.plain.bool,Sl e a.plain.list f,c,d]) IP rfl rfl rfl rfl (AU rfl (AU rfl (AU rfl (AU (FK q) (AU (MTh.one o) (AU (MTh.one p) CI)))))) aa dcd rfl rfl fun an ac h=>?_)
 refine AA<|AZ ?_
 obtain rfl:=AP m
 refine A0 (B:=B) y (BQ rfl (.agg In rfl rfl (Bk.part ac 0 [I a.plain.type_,Cx a.plain.num,.bool a.plain.bool,Sl e a.plain.list f,c,d] rfl)) ?_)
 refine have ad:=Ss Kd.cpx q h;have ae:=Mt (Mt o g) h;have af:=Mt (Mt p g) h;⟨z,[I a.plain.type_,Cx a.plain.num,.bool a.plain.bool,Sl e a.plain.list f,c,d],rfl,Ho (Tn (Mo [20] g) h) s,(CS (x:=a) ad ae af)⟩
theorem SH:H7.Spec H7:=by
 intro a c p q r v0 s d e f g
 refine Calls.mono (RC (recol (see []) a) c (A3 lbr a) d (O7 e []) (Av GI f []) g) ?_
 rintro u w ⟨h,l,m,n,o⟩
 exact ⟨glue [] c a h,l,m,Ah n A2,BA GI o⟩
def IH.Spec(f:AD→Option AD):Prop:=
 ∀(g:Col) (d:World) {h:AD} {l:List Value} {kn0:Nat} {kn1:Nat} {e:Value} {m:AD},f h=some m→[kn0,kn1].Nodup→0∉[kn0,kn1]→AJ.rep g.F d l h→e.oneCell'=true→
  Calls Tryz.prog 57 #[.agg l.toArray,e] d fun q a=>∃(c:Col) (n:Nat) (o:Nat) (p:List Value),q=.returned (.func (.func 90) #[] [Pt n 0,Pt o 0].toArray)∧AO [kn0,kn1] g d c a∧Bk c a kn0 n p 56∧AJ.rep c.F a p m∧Bk c a kn1 o [e] 85
theorem SI(c:Col)(h:World)(y:∀b,c b<10){a:AD}{n:List Value}{l:Value}{o:AD}(z:AJ.rep c.F h n a)(aa:l.oneCell'=true)(p:IH a=some o):
  Calls Tryz.prog 57 #[.agg n.toArray,l] h fun ab d=>∃(e:Col) (q:Nat) (r:Nat) (s:List Value),ab=.returned (.func (.func 90) #[] [Pt q 0,Pt r 0].toArray)∧AO [1,2] c h e d∧Bk e d 1 q s 56∧AJ.rep e.F d s o∧Bk e d 2 r [l] 85:=by
 rw [IH] at p
 obtain ⟨al,rfl,u⟩:=Am z
 obtain ⟨ac,ad,rfl⟩:=AI u
 refine A5 Tryz.func57 rfl Tryz.ntmps57 rfl fun B ae am=>Sr<|Ef (By c 1 rfl rfl fun af an f ag w=>?_)
 refine Ef (By af 2 rfl (H1 aa) fun ah ao g ai m=>?_)
 refine Va .nilFunc<|AA<|Sr<|Vx (v:=.func (.func 90) #[] [Pt f 0,Pt g 0].toArray) (HS (vs:=[Pt f 0,Pt g 0]) rfl)<|Va (.func (.func 90) #[] [Pt f 0,Pt g 0].toArray)<|AA<|AZ ?_
 obtain rfl:=AP p
 refine A0 (B:=B) ae (BQ rfl (.tmp rfl) ?_)
 refine have aj:=Bs ag m;have ak:=K2 AJ u w m;⟨ah,f,g,[I a.op,Sb a.name,Sb a.tail,I a.type_,Cx a.num,Sl ac a.args ad,I a.at_],rfl,Ho (Tn (Mo [] w) m) y,aj,(Ag (x:=a) ak),ai⟩
theorem LD:IH.Spec IH:=by
 intro a d s u kn0 kn1 w y e hnd hnz f g
 refine Calls.mono (SI (recol (see [kn0,kn1]) a) d (A3 lbr a) (Av AJ f [kn0,kn1]) g e) ?_
 rintro z aa ⟨h,l,m,n,o,c,p,q,r⟩
 exact ⟨glue [kn0,kn1] d a h,l,m,n,o,Ah c (DI rfl rfl),Tm (j:=0) p rfl rfl c,BA AJ q,Tm (j:=1) r rfl rfl c⟩
def HJ.At(e:Col)(c:World)(f:Int→Option (Int×Int)):Prop:=
 ∀{d:Int} {a:Int×Int},f d=some a→
  Calls Tryz.prog 115 #[I d] c fun g h=>∃(l:Col),g=.returned (.tuple #[I a.1,I a.2])∧AO [] e c l h
def HJ.Spec(f:Int→Option (Int×Int)):Prop:=
 ∀(a:Col) (c:World),HJ.At a c f
theorem SJ(g:Col)(u:World)(l:∀b,g b<10):HJ.At g u HJ:=by
 intro c w a
 rw [HJ] at a
 refine A5 Tryz.func115 rfl Tryz.ntmps115 rfl fun B m ad=>Sr<|Va (I 0)<|Va (I 0)<|AA<|Ac<|Ao<|Au (fun p q=>∃(h:Env) (d:Col) (r:Bool),p=h.puts [(0,.int .i64 c),(4,.bool r)]∧K8 c r=some w∧AO [] g u d q) ?_ ?_
 refine AQ<|Vm<|Vr (.bool (decide (c≥8)))<|Vm<|Bo a (fun e a=>?_) fun e a=>?_
 refine Gm e<|Gr e (.bool (decide (c≤13)))<|Vp e<|Va (.bool (decide (c≤13)))<|AA<|⟨_,g,(decide (c≤13)),Pu,a,(AO.refl [] _ _)⟩
 refine Pg e<|Pg e<|Vp e<|Va (.bool false)<|AA<|⟨_,g,false,Pu,a,(AO.refl [] _ _)⟩
 rintro _ q ⟨h,d,r,rfl,a,n⟩
 rw [K8] at a
 refine Cn a (fun aa a=>?_) fun aa a=>?_
 refine Sr<|Va (I 2)<|Va (I 1)<|AA<|AZ ?_
 obtain rfl:=AP a
 refine A0 (B:=B) m (D4 rfl (.tmp rfl) (.tmp rfl) ?_)
 exact ⟨d,rfl,Ho (Mo [] n) l⟩
 refine Sr<|Vm<|Vr (.bool (c==14))<|Va (.bool (c==14))<|AA<|Cn a (fun ab a=>?_) fun ab a=>?_
 refine Sr<|Va (I 1)<|Va (I 2)<|AA<|AZ ?_
 obtain rfl:=AP a
 refine A0 (B:=B) m (D4 rfl (.tmp rfl) (.tmp rfl) ?_)
 exact ⟨d,rfl,Ho (Mo [] n) l⟩
 refine Au (fun p y=>∃(h:Env) (o:Col) (s:Bool),p=h.puts [(14,.bool s)]∧K7 s=some w∧AO [] d q o y) ?_ ?_
 refine AQ<|Vm<|Vr (.bool (decide (c≥15)))<|Vm<|Bo a (fun f a=>?_) fun f a=>?_
 refine Gm f<|Gr f (.bool (decide (c≤17)))<|Vp f<|Va (.bool (decide (c≤17)))<|AA<|⟨_,d,(decide (c≤17)),Pu,a,(AO.refl [] _ _)⟩
 refine Pg f<|Pg f<|Vp f<|Va (.bool false)<|AA<|⟨_,d,false,Pu,a,(AO.refl [] _ _)⟩
 rintro _ y ⟨h,o,s,rfl,a,z⟩
 rw [K7] at a
 refine Cn a (fun ac a=>?_) fun ac a=>?_
 refine Sr<|Va (I 1)<|Va (I 1)<|AA<|AZ ?_
 obtain rfl:=AP a
 refine A0 (B:=B) m (D4 rfl (.tmp rfl) (.tmp rfl) ?_)
 exact ⟨o,rfl,Ho (Tn (Mo [] n) z) l⟩
 refine WC.skip<|Sr<|Va (I 0)<|Va (I 0)<|AA<|AZ ?_
 obtain rfl:=AP a
 refine A0 (B:=B) m (D4 rfl (.tmp rfl) (.tmp rfl) ?_)
 exact ⟨o,rfl,Ho (Tn (Mo [] n) z) l⟩
theorem S8:HJ.Spec HJ:=by
 intro a c h l d
 refine Calls.mono (SJ (recol (see []) a) c (A3 lbr a) d) ?_
 rintro m n ⟨e,f,g⟩
 exact ⟨glue [] c a e,f,Ah g A2⟩
def Di.At(m:Col)(c:World)(f:(Nat×Nat)→Int→Option (AG×Int)):Prop:=
 ∀{d:(Nat×Nat)} {e:Int} {a:AG×Int},f d e=some a→
  Calls Tryz.prog 116 #[Cx d,I e] c fun n g=>∃(h:Col) (l:List Value),n=.returned (.tuple #[.agg l.toArray,I a.2])∧AO [] m c h g∧Ax.rep h.F g l a.1
def Di.Spec(f:(Nat×Nat)→Int→Option (AG×Int)):Prop:=
 ∀(a:Col) (c:World),Di.At a c f
theorem RD(d:Col)(n:World)(e:∀b,d b<10):Di.At d n Di:=by
 intro c f u a
 rw [Di] at a
 refine A5 Tryz.func116 rfl Tryz.ntmps116 rfl fun B g w=>Sr<|Ef (AY d 20 Ep rfl fun h y z l m=>?_)
 refine Va (I 0)<|AA<|Ac<|Sr<|Vm<|Vr (.bool (f != 0))<|AA<|Cn a (fun o a=>?_) fun o a=>?_
 refine Sr<|Vx (v:=.agg [I 0,Cx (((0,0):Nat×Nat)),.bool false,.slice none 0 0].toArray) (Bp Ep Iq rfl .nil)<|Vm<|Eu (St Fe l rfl rfl rfl rfl fun aa p q=>?_)
 refine Va (I f)<|AA<|AZ ?_
 obtain rfl:=AP a
 refine A0 (B:=B) g (D4 rfl (.agg Dc rfl rfl (Bk.part p 0 [I 0,Cx (((0,0):Nat×Nat)),.bool false,.slice none 0 0] rfl)) (.tmp rfl) ?_)
 exact ⟨h,[I 0,Cx (((0,0):Nat×Nat)),.bool false,.slice none 0 0],rfl,Ho (Tn (Mo [20] m) q) e,(BB (x:=(AG.mk 0 ((0,0):Nat×Nat) false [])) Cd)⟩
 refine WC.skip<|Sr<|Vm<|Vx (v:=.agg [I 1,Cx c,.bool false,.slice none 0 0].toArray) (Bp Ep Iq rfl (.cons rfl rfl rfl (.cons rfl rfl rfl .nil)))<|Eu (St Fe l rfl rfl rfl rfl fun ab r s=>?_)
 refine Va (I 0)<|AA<|AZ ?_
 obtain rfl:=AP a
 refine A0 (B:=B) g (D4 rfl (.agg Dc rfl rfl (Bk.part r 0 [I 1,Cx c,.bool false,.slice none 0 0] rfl)) (.tmp rfl) ?_)
 exact ⟨h,[I 1,Cx c,.bool false,.slice none 0 0],rfl,Ho (Tn (Mo [20] m) s) e,(BB (x:=(AG.mk 1 c false [])) Cd)⟩
theorem Hv:Di.Spec Di:=by
 intro a c m n o d
 refine Calls.mono (RD (recol (see []) a) c (A3 lbr a) d) ?_
 rintro p q ⟨e,f,g,h,l⟩
 exact ⟨glue [] c a e,f,g,Ah h A2,BA Ax l⟩
def ES.At(e:Col)(c:World)(f:(Nat×Nat)→Option ((Nat×Nat)×Int)):Prop:=
 ∀{d:(Nat×Nat)} {a:(Nat×Nat)×Int},f d=some a→
  Calls Tryz.prog 137 #[Cx d] c fun g h=>∃(l:Col),g=.returned (.tuple #[Cx a.1,I a.2])∧AO [] e c l h
def ES.Spec(f:(Nat×Nat)→Option ((Nat×Nat)×Int)):Prop:=
 ∀(a:Col) (c:World),ES.At a c f
theorem RE(e:Col)(f:World)(g:∀b,e b<10):ES.At e f ES:=by
 intro h u a
 rw [ES] at a
 refine A5 Tryz.func137 rfl Tryz.ntmps137 rfl fun B l w=>Sr<|Va (Cx (((0,0):Nat×Nat)))<|Va (I 0)<|AA<|Sr<|Vm<|Vx (v:=Fl h.1) (Run.real rfl)<|Bi a fun c o a=>Vx (v:=Fl c) (Run.fadd rfl rfl o)<|Vm<|Vx (v:=Fl h.2) (Run.imag rfl)<|Bi a fun d p a=>Vx (v:=Fl d) (Run.fadd rfl rfl p)<|Vx (v:=Cx ((c,d))) (Run.complex rfl rfl)<|Va (Cx ((c,d)))<|AA<|Ac<|Sr<|Vm<|Bi a fun q r a=>Ca (Ju [Cx ((c,d))] rfl) (Cl e f r) ?_
 rintro _ y ⟨m,rfl,n⟩
 refine ⟨_,rfl,?_⟩
 refine Vr (.bool (!q))<|AA<|Cn a (fun s a=>?_) fun s a=>?_
 refine Sr<|Va (Cx (((0,0):Nat×Nat)))<|Va (I 50)<|AA<|AZ ?_
 obtain rfl:=AP a
 refine A0 (B:=B) l (D4 rfl (.tmp rfl) (.tmp rfl) ?_)
 exact ⟨m,rfl,Ho (Mo [] n) g⟩
 refine WC.skip<|Sr<|Vm<|Va (Cx ((c,d)))<|Va (I 0)<|AA<|AZ ?_
 obtain rfl:=AP a
 refine A0 (B:=B) l (D4 rfl (.tmp rfl) (.tmp rfl) ?_)
 exact ⟨m,rfl,Ho (Mo [] n) g⟩
theorem Jk:ES.Spec ES:=by
 intro a c h l d
 refine Calls.mono (RE (recol (see []) a) c (A3 lbr a) d) ?_
 rintro m n ⟨e,f,g⟩
 exact ⟨glue [] c a e,f,Ah g A2⟩
def HK.At(e:Col)(c:World)(f:(Nat×Nat)→Option ((Nat×Nat)×Int)):Prop:=
 ∀{d:(Nat×Nat)} {a:(Nat×Nat)×Int},f d=some a→
  Calls Tryz.prog 117 #[Cx d] c fun g h=>∃(l:Col),g=.returned (.tuple #[Cx a.1,I a.2])∧AO [] e c l h
def HK.Spec(f:(Nat×Nat)→Option ((Nat×Nat)×Int)):Prop:=
 ∀(a:Col) (c:World),HK.At a c f
theorem SK(e:Col)(f:World)(g:∀b,e b<10):HK.At e f HK:=by
 intro c w a
 rw [HK] at a
 refine A5 Tryz.func117 rfl Tryz.ntmps117 rfl fun B h y=>Sr<|Va (Cx (((0,0):Nat×Nat)))<|Va (I 0)<|AA<|Ac<|Sr<|Vm<|Bi a fun n o a=>Ca (Ju [Cx c] rfl) (Cl e f o) ?_
 rintro _ p ⟨l,rfl,m⟩
 refine ⟨_,rfl,?_⟩
 refine Vr (.bool (!n))<|AA<|Cn a (fun q a=>?_) fun q a=>?_
 refine Sr<|Va (Cx (((0,0):Nat×Nat)))<|Va (I 3)<|AA<|AZ ?_
 obtain rfl:=AP a
 refine A0 (B:=B) h (D4 rfl (.tmp rfl) (.tmp rfl) ?_)
 exact ⟨l,rfl,Ho (Mo [] m) g⟩
 refine WC.skip<|Sr<|Vm<|Vx (v:=Fl c.1) (Run.real rfl)<|Vm<|Vx (v:=Fl c.2) (Run.imag rfl)<|Vr (Fl (Op.negFloat .f64 c.2))<|Vx (v:=Cx ((c.1,(Op.negFloat .f64 c.2)))) (Run.complex rfl rfl)<|Bi a fun d r a=>Ca (PS [Cx ((c.1,(Op.negFloat .f64 c.2)))] rfl) (Jk l p r) ?_
 rintro _ z ⟨s,rfl,u⟩
 refine ⟨_,rfl,?_⟩
 refine Vr (Cx d.1)<|Vr (I d.2)<|Va (Cx d.1)<|Va (I d.2)<|AA<|AZ ?_
 obtain rfl:=AP a
 refine A0 (B:=B) h (D4 rfl (.tmp rfl) (.tmp rfl) ?_)
 exact ⟨s,rfl,Ho (Tn (Mo [] m) u) g⟩
theorem S9:HK.Spec HK:=by
 intro a c h l d
 refine Calls.mono (SK (recol (see []) a) c (A3 lbr a) d) ?_
 rintro m n ⟨e,f,g⟩
 exact ⟨glue [] c a e,f,Ah g A2⟩
def If.At(g:Col)(c:World)(f:(Nat×Nat)→(Nat×Nat)→Option ((Nat×Nat)×Int)):Prop:=
 ∀{d:(Nat×Nat)} {e:(Nat×Nat)} {a:(Nat×Nat)×Int},f d e=some a→
  Calls Tryz.prog 138 #[Cx d,Cx e] c fun h l=>∃(m:Col),h=.returned (.tuple #[Cx a.1,I a.2])∧AO [] g c m l
def If.Spec(f:(Nat×Nat)→(Nat×Nat)→Option ((Nat×Nat)×Int)):Prop:=
 ∀(a:Col) (c:World),If.At a c f
theorem TA(d:Col)(l:World)(o:∀b,d b<10):If.At d l If:=by
 intro e f z a
 rw [If] at a
 refine A5 Tryz.func138 rfl Tryz.ntmps138 rfl fun B p am=>Sr<|Va (Cx (((0,0):Nat×Nat)))<|Va (I 0)<|AA<|Ac<|Au (fun aa m=>∃(q:Env) (g:Col) (n:Bool),aa=q.puts [(0,.complex .f64 e.1 e.2),(1,.complex .f64 f.1 f.2),(13,.bool n)]∧KX e f n=some z∧AO [] d l g m) ?_ ?_
 refine AQ<|Vm<|Bi a fun ab ac a=>Ca (Ju [Cx e] rfl) (Cl d l ac) ?_
 rintro _ ad ⟨r,rfl,s⟩
 refine ⟨_,rfl,?_⟩
 refine Vr (.bool (!ab))<|Vm<|Bo a (fun c a=>?_) fun c a=>?_
 refine Pg c<|Pg c<|Pg c<|Vp c<|AA<|⟨_,r,true,Pu,a,(Mo [] s)⟩
 refine Gm c<|Bi a fun u ae a=>Bx (.guard (t:=false) (b:=false) rfl rfl rfl rfl (Cb c)) rfl rfl (Ju [Cx f] rfl)<|Calls.mono (Cl r ad ae) ?_
 rintro _ an ⟨af,rfl,ag⟩
 refine ⟨_,rfl,?_⟩
 refine Gr c (.bool (!u))<|Vp c<|AA<|⟨_,af,(!u),Pu,a,(Tn (Mo [] s) ag)⟩
 rintro _ m ⟨q,g,n,rfl,a,w⟩
 rw [KX] at a
 refine Cn a (fun ah a=>?_) fun ah a=>?_
 refine Sr<|Va (Cx (((0,0):Nat×Nat)))<|Va (I 3)<|AA<|AZ ?_
 obtain rfl:=AP a
 refine A0 (B:=B) p (D4 rfl (.tmp rfl) (.tmp rfl) ?_)
 exact ⟨g,rfl,Ho (Mo [] w) o⟩
 refine WC.skip<|Sr<|Vm<|Vm<|Bi a fun y ai a=>Vx (v:=Cx y) (Run.cadd rfl rfl ai)<|Bi a fun h aj a=>Ca (PS [Cx y] rfl) (Jk g m aj) ?_
 rintro _ ao ⟨ak,rfl,al⟩
 refine ⟨_,rfl,?_⟩
 refine Vr (Cx h.1)<|Vr (I h.2)<|Va (Cx h.1)<|Va (I h.2)<|AA<|AZ ?_
 obtain rfl:=AP a
 refine A0 (B:=B) p (D4 rfl (.tmp rfl) (.tmp rfl) ?_)
 exact ⟨ak,rfl,Ho (Tn (Mo [] w) al) o⟩
theorem UA:If.Spec If:=by
 intro a c h l m d
 refine Calls.mono (TA (recol (see []) a) c (A3 lbr a) d) ?_
 rintro n o ⟨e,f,g⟩
 exact ⟨glue [] c a e,f,Ah g A2⟩
def Ig.At(g:Col)(c:World)(f:(Nat×Nat)→(Nat×Nat)→Option ((Nat×Nat)×Int)):Prop:=
 ∀{d:(Nat×Nat)} {e:(Nat×Nat)} {a:(Nat×Nat)×Int},f d e=some a→
  Calls Tryz.prog 139 #[Cx d,Cx e] c fun h l=>∃(m:Col),h=.returned (.tuple #[Cx a.1,I a.2])∧AO [] g c m l
def Ig.Spec(f:(Nat×Nat)→(Nat×Nat)→Option ((Nat×Nat)×Int)):Prop:=
 ∀(a:Col) (c:World),Ig.At a c f
theorem TB(d:Col)(l:World)(o:∀b,d b<10):Ig.At d l Ig:=by
 intro e f z a
 rw [Ig] at a
 refine A5 Tryz.func139 rfl Tryz.ntmps139 rfl fun B p am=>Sr<|Va (Cx (((0,0):Nat×Nat)))<|Va (I 0)<|AA<|Ac<|Au (fun aa m=>∃(q:Env) (g:Col) (n:Bool),aa=q.puts [(0,.complex .f64 e.1 e.2),(1,.complex .f64 f.1 f.2),(13,.bool n)]∧KY e f n=some z∧AO [] d l g m) ?_ ?_
 refine AQ<|Vm<|Bi a fun ab ac a=>Ca (Ju [Cx e] rfl) (Cl d l ac) ?_
 rintro _ ad ⟨r,rfl,s⟩
 refine ⟨_,rfl,?_⟩
 refine Vr (.bool (!ab))<|Vm<|Bo a (fun c a=>?_) fun c a=>?_
 refine Pg c<|Pg c<|Pg c<|Vp c<|AA<|⟨_,r,true,Pu,a,(Mo [] s)⟩
 refine Gm c<|Bi a fun u ae a=>Bx (.guard (t:=false) (b:=false) rfl rfl rfl rfl (Cb c)) rfl rfl (Ju [Cx f] rfl)<|Calls.mono (Cl r ad ae) ?_
 rintro _ an ⟨af,rfl,ag⟩
 refine ⟨_,rfl,?_⟩
 refine Gr c (.bool (!u))<|Vp c<|AA<|⟨_,af,(!u),Pu,a,(Tn (Mo [] s) ag)⟩
 rintro _ m ⟨q,g,n,rfl,a,w⟩
 rw [KY] at a
 refine Cn a (fun ah a=>?_) fun ah a=>?_
 refine Sr<|Va (Cx (((0,0):Nat×Nat)))<|Va (I 3)<|AA<|AZ ?_
 obtain rfl:=AP a
 refine A0 (B:=B) p (D4 rfl (.tmp rfl) (.tmp rfl) ?_)
 exact ⟨g,rfl,Ho (Mo [] w) o⟩
 refine WC.skip<|Sr<|Vm<|Vm<|Bi a fun y ai a=>Vx (v:=Cx y) (Run.csub rfl rfl ai)<|Bi a fun h aj a=>Ca (PS [Cx y] rfl) (Jk g m aj) ?_
 rintro _ ao ⟨ak,rfl,al⟩
 refine ⟨_,rfl,?_⟩
 refine Vr (Cx h.1)<|Vr (I h.2)<|Va (Cx h.1)<|Va (I h.2)<|AA<|AZ ?_
 obtain rfl:=AP a
 refine A0 (B:=B) p (D4 rfl (.tmp rfl) (.tmp rfl) ?_)
 exact ⟨ak,rfl,Ho (Tn (Mo [] w) al) o⟩
theorem UB:Ig.Spec Ig:=by
 intro a c h l m d
 refine Calls.mono (TB (recol (see []) a) c (A3 lbr a) d) ?_
 rintro n o ⟨e,f,g⟩
 exact ⟨glue [] c a e,f,Ah g A2⟩
def Ih.At(g:Col)(c:World)(f:(Nat×Nat)→(Nat×Nat)→Option ((Nat×Nat)×Int)):Prop:=
 ∀{d:(Nat×Nat)} {e:(Nat×Nat)} {a:(Nat×Nat)×Int},f d e=some a→
  Calls Tryz.prog 140 #[Cx d,Cx e] c fun h l=>∃(m:Col),h=.returned (.tuple #[Cx a.1,I a.2])∧AO [] g c m l
def Ih.Spec(f:(Nat×Nat)→(Nat×Nat)→Option ((Nat×Nat)×Int)):Prop:=
 ∀(a:Col) (c:World),Ih.At a c f
theorem TC(d:Col)(l:World)(o:∀b,d b<10):Ih.At d l Ih:=by
 intro e f z a
 rw [Ih] at a
 refine A5 Tryz.func140 rfl Tryz.ntmps140 rfl fun B p am=>Sr<|Va (Cx (((0,0):Nat×Nat)))<|Va (I 0)<|AA<|Ac<|Au (fun aa m=>∃(q:Env) (g:Col) (n:Bool),aa=q.puts [(0,.complex .f64 e.1 e.2),(1,.complex .f64 f.1 f.2),(13,.bool n)]∧KZ e f n=some z∧AO [] d l g m) ?_ ?_
 refine AQ<|Vm<|Bi a fun ab ac a=>Ca (Ju [Cx e] rfl) (Cl d l ac) ?_
 rintro _ ad ⟨r,rfl,s⟩
 refine ⟨_,rfl,?_⟩
 refine Vr (.bool (!ab))<|Vm<|Bo a (fun c a=>?_) fun c a=>?_
 refine Pg c<|Pg c<|Pg c<|Vp c<|AA<|⟨_,r,true,Pu,a,(Mo [] s)⟩
 refine Gm c<|Bi a fun u ae a=>Bx (.guard (t:=false) (b:=false) rfl rfl rfl rfl (Cb c)) rfl rfl (Ju [Cx f] rfl)<|Calls.mono (Cl r ad ae) ?_
 rintro _ an ⟨af,rfl,ag⟩
 refine ⟨_,rfl,?_⟩
 refine Gr c (.bool (!u))<|Vp c<|AA<|⟨_,af,(!u),Pu,a,(Tn (Mo [] s) ag)⟩
 rintro _ m ⟨q,g,n,rfl,a,w⟩
 rw [KZ] at a
 refine Cn a (fun ah a=>?_) fun ah a=>?_
 refine Sr<|Va (Cx (((0,0):Nat×Nat)))<|Va (I 3)<|AA<|AZ ?_
 obtain rfl:=AP a
 refine A0 (B:=B) p (D4 rfl (.tmp rfl) (.tmp rfl) ?_)
 exact ⟨g,rfl,Ho (Mo [] w) o⟩
 refine WC.skip<|Sr<|Vm<|Vm<|Bi a fun y ai a=>Vx (v:=Cx y) (Run.cmul rfl rfl ai)<|Bi a fun h aj a=>Ca (PS [Cx y] rfl) (Jk g m aj) ?_
 rintro _ ao ⟨ak,rfl,al⟩
 refine ⟨_,rfl,?_⟩
 refine Vr (Cx h.1)<|Vr (I h.2)<|Va (Cx h.1)<|Va (I h.2)<|AA<|AZ ?_
 obtain rfl:=AP a
 refine A0 (B:=B) p (D4 rfl (.tmp rfl) (.tmp rfl) ?_)
 exact ⟨ak,rfl,Ho (Tn (Mo [] w) al) o⟩
theorem UC:Ih.Spec Ih:=by
 intro a c h l m d
 refine Calls.mono (TC (recol (see []) a) c (A3 lbr a) d) ?_
 rintro n o ⟨e,f,g⟩
 exact ⟨glue [] c a e,f,Ah g A2⟩
def HO.At(e:Col)(a:World)(f:Nat→Option Nat):Prop:=
 ∀{c:Nat} {d:Nat},f c=some d→
  Calls Tryz.prog 145 #[Fl c] a fun g h=>∃(l:Col),g=.returned (Fl d)∧AO [] e a l h
def HO.Spec(f:Nat→Option Nat):Prop:=
 ∀(a:Col) (c:World),HO.At a c f
theorem UD(c:Col)(e:World)(f:∀b,c b<10):HO.At c e HO:=by
 intro a h d
 rw [HO] at d
 refine A5 Tryz.func145 rfl Tryz.ntmps145 rfl fun B g l=>Sr<|Va (Fl (0:Nat))<|AA<|Sr<|Vm<|Vx (v:=.int .u64 ((a:Nat):Int)) (OH (vs:=[Fl a]) rfl rfl)<|Vr (.int .u64 (CT .u64 ((a:Nat):Int) 9223372036854775808))<|Vx (v:=Fl (((CT .u64 ((a:Nat):Int) 9223372036854775808)).toNat)) (QE (vs:=[.int .u64 (CT .u64 ((a:Nat):Int) 9223372036854775808)]) rfl rfl)<|Va (Fl (((CT .u64 ((a:Nat):Int) 9223372036854775808)).toNat))<|AA<|AZ ?_
 obtain rfl:=AP d
 refine A0 (B:=B) g (BQ rfl (.tmp rfl) ?_)
 exact ⟨c,rfl,Ho (AO.refl [] _ _) f⟩
theorem OV:HO.Spec HO:=by
 intro a c h l d
 refine Calls.mono (UD (recol (see []) a) c (A3 lbr a) d) ?_
 rintro m n ⟨e,f,g⟩
 exact ⟨glue [] c a e,f,Ah g A2⟩
def GQ.At(g:Col)(a:World)(f:Nat→Int→Option Bool):Prop:=
 ∀{c:Nat} {d:Int} {e:Bool},f c d=some e→
  Calls Tryz.prog 152 #[Fl c,I d] a fun h l=>∃(m:Col),h=.returned (.bool e)∧AO [] g a m l
def GQ.Spec(f:Nat→Int→Option Bool):Prop:=
 ∀(a:Col) (c:World),GQ.At a c f
theorem SL(c:Col)(f:World)(o:∀b,c b<10):GQ.At c f GQ:=by
 intro d h p a
 rw [GQ] at a
 refine A5 Tryz.func152 rfl Tryz.ntmps152 rfl fun B q ab=>Sr<|Va (.bool false)<|AA<|Au (fun r l=>∃(m:Env) (g:Col) (e:Nat),r=m.puts [(0,.float .f64 e)]∧JG e=some p∧AO [] c f g l) ?_ ?_
 refine Sr<|Vm<|Vr (.bool (h==0))<|AA<|Cn a (fun s a=>?_) fun s a=>?_
 refine AQ<|Vm<|Bi a fun n u a=>Ca (Tt [Fl d] rfl) (OV c f u) ?_
 rintro _ ac ⟨w,rfl,y⟩
 refine ⟨_,rfl,?_⟩
 refine Va (Fl n)<|AA<|⟨_,w,n,Pu,a,(Mo [] y)⟩
 refine Sr<|Vm<|Vr (.bool (decide (h<0)))<|AA<|Cn a (fun z a=>?_) fun z a=>?_
 refine AQ<|Vm<|Vr (Fl (Op.negFloat .f64 d))<|Va (Fl (Op.negFloat .f64 d))<|AA<|⟨_,c,(Op.negFloat .f64 d),Pu,a,(AO.refl [] _ _)⟩
 refine WC.skip<|⟨_,c,d,Pu,a,(AO.refl [] _ _)⟩
 rintro _ l ⟨m,g,e,rfl,a,aa⟩
 rw [JG] at a
 refine Sr<|Vm<|Vr (.bool (fgt e (9218868437227405311:Nat)))<|Va (.bool (fgt e (9218868437227405311:Nat)))<|AA<|AZ ?_
 obtain rfl:=AP a
 refine A0 (B:=B) q (BQ rfl (.tmp rfl) ?_)
 exact ⟨g,rfl,Ho (Mo [] aa) o⟩
theorem Mn:GQ.Spec GQ:=by
 intro a c h l m d
 refine Calls.mono (SL (recol (see []) a) c (A3 lbr a) d) ?_
 rintro n o ⟨e,f,g⟩
 exact ⟨glue [] c a e,f,Ah g A2⟩
def Fs.At(e:Col)(a:World)(f:Nat→Option Bool):Prop:=
 ∀{c:Nat} {d:Bool},f c=some d→
  Calls Tryz.prog 153 #[Fl c] a fun g h=>∃(l:Col),g=.returned (.bool d)∧AO [] e a l h
def Fs.Spec(f:Nat→Option Bool):Prop:=
 ∀(a:Col) (c:World),Fs.At a c f
theorem SM(c:Col)(e:World)(f:∀b,c b<10):Fs.At c e Fs:=by
 intro a h d
 rw [Fs] at d
 refine A5 Tryz.func153 rfl Tryz.ntmps153 rfl fun B g l=>Sr<|Va (.bool false)<|AA<|Sr<|Vm<|Vm<|Vr (.bool (fne a a))<|Va (.bool (fne a a))<|AA<|AZ ?_
 obtain rfl:=AP d
 refine A0 (B:=B) g (BQ rfl (.tmp rfl) ?_)
 exact ⟨c,rfl,Ho (AO.refl [] _ _) f⟩
theorem LE:Fs.Spec Fs:=by
 intro a c h l d
 refine Calls.mono (SM (recol (see []) a) c (A3 lbr a) d) ?_
 rintro m n ⟨e,f,g⟩
 exact ⟨glue [] c a e,f,Ah g A2⟩
def Ka.At(d:Col)(a:World)(f:Option Nat):Prop:=
 ∀{c:Nat},f=some c→
  Calls Tryz.prog 154 #[] a fun e g=>∃(h:Col),e=.returned (Fl c)∧AO [] d a h g
def Ka.Spec(f:Option Nat):Prop:=
 ∀(a:Col) (c:World),Ka.At a c f
theorem UE(a:Col)(d:World)(e:∀b,a b<10):Ka.At a d Ka:=by
 intro g c
 rw [Ka] at c
 refine A5 Tryz.func154 rfl Tryz.ntmps154 rfl fun B f h=>Sr<|Va (Fl (0:Nat))<|AA<|Sr<|Vx (v:=Fl ((9221120237041090561:Int).toNat)) (QE (vs:=[.int .u64 9221120237041090561]) rfl rfl)<|Va (Fl ((9221120237041090561:Int).toNat))<|AA<|AZ ?_
 obtain rfl:=AP c
 refine A0 (B:=B) f (BQ rfl (.tmp rfl) ?_)
 exact ⟨a,rfl,Ho (AO.refl [] _ _) e⟩
theorem Uu:Ka.Spec Ka:=by
 intro a c h d
 refine Calls.mono (UE (recol (see []) a) c (A3 lbr a) d) ?_
 rintro l m ⟨e,f,g⟩
 exact ⟨glue [] c a e,f,Ah g A2⟩
def D3.At(e:Col)(c:World)(f:Nat→Option (Nat×Int)):Prop:=
 ∀{d:Nat} {a:Nat×Int},f d=some a→
  Calls Tryz.prog 164 #[Fl d] c fun g h=>∃(l:Col),g=.returned (.tuple #[Fl a.1,I a.2])∧AO [] e c l h
def D3.Spec(f:Nat→Option (Nat×Int)):Prop:=
 ∀(a:Col) (c:World),D3.At a c f
theorem PC(c:Col)(d:World)(e:∀b,c b<10):D3.At c d D3:=by
 intro f r a
 rw [D3] at a
 refine A5 Tryz.func164 rfl Tryz.ntmps164 rfl fun B g s=>Sr<|Va (Fl (0:Nat))<|Va (I 0)<|AA<|Ac<|Sr<|Vm<|Bi a fun n o a=>Ca (Tt [Fl f] rfl) (OV c d o) ?_
 rintro _ u ⟨h,rfl,l⟩
 refine ⟨_,rfl,?_⟩
 refine Vr (.bool (flt_ n (4503599627370496:Nat)))<|AA<|Cn a (fun p a=>?_) fun p a=>?_
 refine Sr<|Vm<|Bi a fun m q a=>Vx (v:=Fl m) (Run.fmul rfl rfl q)<|Va (Fl m)<|Va (I (-52:Int))<|AA<|AZ ?_
 obtain rfl:=AP a
 refine A0 (B:=B) g (D4 rfl (.tmp rfl) (.tmp rfl) ?_)
 exact ⟨h,rfl,Ho (Mo [] l) e⟩
 refine WC.skip<|Sr<|Vm<|Va (Fl f)<|Va (I 0)<|AA<|AZ ?_
 obtain rfl:=AP a
 refine A0 (B:=B) g (D4 rfl (.tmp rfl) (.tmp rfl) ?_)
 exact ⟨h,rfl,Ho (Mo [] l) e⟩
theorem MT:D3.Spec D3:=by
 intro a c h l d
 refine Calls.mono (PC (recol (see []) a) c (A3 lbr a) d) ?_
 rintro m n ⟨e,f,g⟩
 exact ⟨glue [] c a e,f,Ah g A2⟩
def II.At(e:Col)(c:World)(f:Nat→Option (Nat×Int)):Prop:=
 ∀{d:Nat} {a:Nat×Int},f d=some a→
  Calls Tryz.prog 159 #[Fl d] c fun g h=>∃(l:Col),g=.returned (.tuple #[Fl a.1,I a.2])∧AO [] e c l h
def II.Spec(f:Nat→Option (Nat×Int)):Prop:=
 ∀(a:Col) (c:World),II.At a c f
theorem SN(f:Col)(h:World)(l:∀b,f b<10):II.At f h II:=by
 intro d w a
 rw [II] at a
 refine A5 Tryz.func159 rfl Tryz.ntmps159 rfl fun B m ak=>Sr<|Va (Fl (0:Nat))<|Va (I 0)<|AA<|Ac<|Ao<|Sr<|Vm<|Vr (.bool (feq d (0:Nat)))<|Va (.bool (feq d (0:Nat)))<|AA<|Cn a (fun y a=>?_) fun y a=>?_
 refine Sr<|Vm<|Va (Fl d)<|Va (I 0)<|AA<|AZ ?_
 obtain rfl:=AP a
 refine A0 (B:=B) m (D4 rfl (.tmp rfl) (.tmp rfl) ?_)
 exact ⟨f,rfl,Ho (AO.refl [] _ _) l⟩
 refine Au (fun z n=>∃(p:Env) (g:Col) (o:Bool),z=p.puts [(0,.float .f64 d),(9,.bool o)]∧Jw d o=some w∧AO [] f h g n) ?_ ?_
 refine AQ<|Vm<|Bi a fun al aa a=>Ca (Tu [Fl d,I 0] rfl) (Mn f h aa) ?_
 rintro _ ab ⟨q,rfl,r⟩
 refine ⟨_,rfl,?_⟩
 refine Vm<|Bo a (fun e a=>?_) fun e a=>?_
 refine Pg e<|Pg e<|Vp e<|Va (.bool true)<|AA<|⟨_,q,true,Pu,a,(Mo [] r)⟩
 refine Gm e<|Bi a fun s ac a=>Bx (.guard (t:=false) (b:=false) rfl rfl rfl rfl (Cb e)) rfl rfl (RM [Fl d] rfl)<|Calls.mono (LE q ab ac) ?_
 rintro _ am ⟨ad,rfl,ae⟩
 refine ⟨_,rfl,?_⟩
 refine Vp e<|Va (.bool s)<|AA<|⟨_,ad,s,Pu,a,(Tn (Mo [] r) ae)⟩
 rintro _ n ⟨p,g,o,rfl,a,u⟩
 rw [Jw] at a
 refine Cn a (fun af a=>?_) fun af a=>?_
 refine Sr<|Vm<|Va (Fl d)<|Va (I 0)<|AA<|AZ ?_
 obtain rfl:=AP a
 refine A0 (B:=B) m (D4 rfl (.tmp rfl) (.tmp rfl) ?_)
 exact ⟨g,rfl,Ho (Mo [] u) l⟩
 refine WC.skip<|Sr<|Vm<|Bi a fun c ag a=>Ca (V7 [Fl d] rfl) (MT g n ag) ?_
 rintro _ an ⟨ah,rfl,ai⟩
 refine ⟨_,rfl,?_⟩
 refine Vm<|Vr (Fl c.1)<|Vr (I c.2)<|Va (Fl c.1)<|Va (I c.2)<|AA<|Sr<|Vm<|Vx (v:=.int .u64 ((c.1:Nat):Int)) (OH (vs:=[Fl c.1]) rfl rfl)<|Va (.int .u64 ((c.1:Nat):Int))<|AA<|Sr<|Vm<|Vm<|Bi a fun ao aj a=>Vx (v:=.int .u64 (shr .u64 ((c.1:Nat):Int) 52)) (Run.shr rfl rfl (Tk aj))<|Vr (.int .u64 (EG .u64 (shr .u64 ((c.1:Nat):Int) 52) 2047))<|Vr (I (Wr (EG .u64 (shr .u64 ((c.1:Nat):Int) 52) 2047)))<|Vr (I (Wr ((Wr (EG .u64 (shr .u64 ((c.1:Nat):Int) 52) 2047)) - 1023)))<|Vr (I (Wr ((Wr ((Wr (EG .u64 (shr .u64 ((c.1:Nat):Int) 52) 2047)) - 1023))+1)))<|Vr (I (Wr (c.2+(Wr ((Wr ((Wr (EG .u64 (shr .u64 ((c.1:Nat):Int) 52) 2047)) - 1023))+1)))))<|Va (I (Wr (c.2+(Wr ((Wr ((Wr (EG .u64 (shr .u64 ((c.1:Nat):Int) 52) 2047)) - 1023))+1)))))<|AA<|Sr<|Vm<|Vr (.int .u64 (CT .u64 ((c.1:Nat):Int) 9218868437227405312))<|Va (.int .u64 (CT .u64 ((c.1:Nat):Int) 9218868437227405312))<|AA<|Sr<|Vm<|Vr (.int .u64 (Kp .u64 (CT .u64 ((c.1:Nat):Int) 9218868437227405312) 4602678819172646912))<|Va (.int .u64 (Kp .u64 (CT .u64 ((c.1:Nat):Int) 9218868437227405312) 4602678819172646912))<|AA<|Sr<|Vm<|Vx (v:=Fl (((Kp .u64 (CT .u64 ((c.1:Nat):Int) 9218868437227405312) 4602678819172646912)).toNat)) (QE (vs:=[.int .u64 (Kp .u64 (CT .u64 ((c.1:Nat):Int) 9218868437227405312) 4602678819172646912)]) rfl rfl)<|Va (Fl (((Kp .u64 (CT .u64 ((c.1:Nat):Int) 9218868437227405312) 4602678819172646912)).toNat))<|AA<|AZ ?_
 obtain rfl:=AP a
 refine A0 (B:=B) m (D4 rfl (.tmp rfl) (.tmp rfl) ?_)
 exact ⟨ah,rfl,Ho (Tn (Mo [] u) ai) l⟩
theorem TD:II.Spec II:=by
 intro a c h l d
 refine Calls.mono (SN (recol (see []) a) c (A3 lbr a) d) ?_
 rintro m n ⟨e,f,g⟩
 exact ⟨glue [] c a e,f,Ah g A2⟩
def HL.At(e:Col)(c:World)(f:Nat→Option (Nat×Int)):Prop:=
 ∀{d:Nat} {a:Nat×Int},f d=some a→
  Calls Tryz.prog 155 #[Fl d] c fun g h=>∃(l:Col),g=.returned (.tuple #[Fl a.1,I a.2])∧AO [] e c l h
def HL.Spec(f:Nat→Option (Nat×Int)):Prop:=
 ∀(a:Col) (c:World),HL.At a c f
theorem SO(d:Col)(e:World)(f:∀b,d b<10):HL.At d e HL:=by
 intro g p a
 rw [HL] at a
 refine A5 Tryz.func155 rfl Tryz.ntmps155 rfl fun B l q=>Sr<|Va (Fl (0:Nat))<|Va (I 0)<|AA<|Ac<|WC.cond (t:=false) rfl (fun h=>by cases h) (fun h=>?_)
 refine WC.skip<|Sr<|Vm<|Bi a fun c m a=>Ca (Y1 [Fl g] rfl) (TD d e m) ?_
 rintro _ r ⟨n,rfl,o⟩
 refine ⟨_,rfl,?_⟩
 refine Vr (Fl c.1)<|Vr (I c.2)<|Va (Fl c.1)<|Va (I c.2)<|AA<|AZ ?_
 obtain rfl:=AP a
 refine A0 (B:=B) l (D4 rfl (.tmp rfl) (.tmp rfl) ?_)
 exact ⟨n,rfl,Ho (Mo [] o) f⟩
theorem O2:HL.Spec HL:=by
 intro a c h l d
 refine Calls.mono (SO (recol (see []) a) c (A3 lbr a) d) ?_
 rintro m n ⟨e,f,g⟩
 exact ⟨glue [] c a e,f,Ah g A2⟩
def GZ.At(g:Col)(a:World)(f:Nat→Nat→Option Nat):Prop:=
 ∀{c:Nat} {d:Nat} {e:Nat},f c d=some e→
  Calls Tryz.prog 146 #[Fl c,Fl d] a fun h l=>∃(m:Col),h=.returned (Fl e)∧AO [] g a m l
def GZ.Spec(f:Nat→Nat→Option Nat):Prop:=
 ∀(a:Col) (c:World),GZ.At a c f
theorem Pe(d:Col)(f:World)(g:∀b,d b<10):GZ.At d f GZ:=by
 intro a c l e
 rw [GZ] at e
 refine A5 Tryz.func146 rfl Tryz.ntmps146 rfl fun B h m=>Sr<|Va (Fl (0:Nat))<|AA<|Sr<|Vm<|Vx (v:=.int .u64 ((a:Nat):Int)) (OH (vs:=[Fl a]) rfl rfl)<|Vr (.int .u64 (CT .u64 ((a:Nat):Int) 9223372036854775808))<|Vm<|Vx (v:=.int .u64 ((c:Nat):Int)) (OH (vs:=[Fl c]) rfl rfl)<|Vr (.int .u64 (EG .u64 ((c:Nat):Int) 9223372036854775808))<|Vr (.int .u64 (Kp .u64 (CT .u64 ((a:Nat):Int) 9223372036854775808) (EG .u64 ((c:Nat):Int) 9223372036854775808)))<|Vx (v:=Fl (((Kp .u64 (CT .u64 ((a:Nat):Int) 9223372036854775808) (EG .u64 ((c:Nat):Int) 9223372036854775808))).toNat)) (QE (vs:=[.int .u64 (Kp .u64 (CT .u64 ((a:Nat):Int) 9223372036854775808) (EG .u64 ((c:Nat):Int) 9223372036854775808))]) rfl rfl)<|Va (Fl (((Kp .u64 (CT .u64 ((a:Nat):Int) 9223372036854775808) (EG .u64 ((c:Nat):Int) 9223372036854775808))).toNat))<|AA<|AZ ?_
 obtain rfl:=AP e
 refine A0 (B:=B) h (BQ rfl (.tmp rfl) ?_)
 exact ⟨d,rfl,Ho (AO.refl [] _ _) g⟩
theorem QN:GZ.Spec GZ:=by
 intro a c h l m d
 refine Calls.mono (Pe (recol (see []) a) c (A3 lbr a) d) ?_
 rintro n o ⟨e,f,g⟩
 exact ⟨glue [] c a e,f,Ah g A2⟩
def Jx.At(e:Col)(a:World)(f:Int→Option Nat):Prop:=
 ∀{c:Int} {d:Nat},f c=some d→
  Calls Tryz.prog 165 #[I c] a fun g h=>∃(l:Col),g=.returned (Fl d)∧AO [] e a l h
def Jx.Spec(f:Int→Option Nat):Prop:=
 ∀(a:Col) (c:World),Jx.At a c f
theorem UF(d:Col)(f:World)(l:∀b,d b<10):Jx.At d f Jx:=by
 intro m n a
 rw [Jx] at a
 refine A5 Tryz.func165 rfl Tryz.ntmps165 rfl fun B o s=>Sr<|Va (Fl (0:Nat))<|AA<|Sr<|Va (.int .u64 0)<|AA<|Au (fun p g=>∃(h:Env) (e:Col) (c:Int),p=h.puts [(3,.int .u64 c)]∧MK c=some n∧AO [] d f e g) ?_ ?_
 refine Sr<|Vm<|Vr (.bool (decide (m≥0)))<|AA<|Cn a (fun q a=>?_) fun q a=>?_
 refine AQ<|Va (.int .u64 9218868437227405312)<|AA<|⟨_,d,9218868437227405312,Pu,a,(AO.refl [] _ _)⟩
 refine AQ<|Va (.int .u64 18442240474082181120)<|AA<|⟨_,d,18442240474082181120,Pu,a,(AO.refl [] _ _)⟩
 rintro _ g ⟨h,e,c,rfl,a,r⟩
 rw [MK] at a
 refine Sr<|Vm<|Vx (v:=Fl (c.toNat)) (QE (vs:=[.int .u64 c]) rfl rfl)<|Va (Fl (c.toNat))<|AA<|AZ ?_
 obtain rfl:=AP a
 refine A0 (B:=B) o (BQ rfl (.tmp rfl) ?_)
 exact ⟨e,rfl,Ho (Mo [] r) l⟩
theorem Qh:Jx.Spec Jx:=by
 intro a c h l d
 refine Calls.mono (UF (recol (see []) a) c (A3 lbr a) d) ?_
 rintro m n ⟨e,f,g⟩
 exact ⟨glue [] c a e,f,Ah g A2⟩
def IJ.At(g:Col)(a:World)(f:Nat→Int→Option Nat):Prop:=
 ∀{c:Nat} {d:Int} {e:Nat},f c d=some e→
  Calls Tryz.prog 161 #[Fl c,I d] a fun h l=>∃(m:Col),h=.returned (Fl e)∧AO [] g a m l
def IJ.Spec(f:Nat→Int→Option Nat):Prop:=
 ∀(a:Col) (c:World),IJ.At a c f
theorem SP(n:Col)(u:World)(h:∀b,n b<10):IJ.At n u IJ:=by
 intro f d ac a
 rw [IJ] at a
 refine A5 Tryz.func161 rfl Tryz.ntmps161 rfl fun B l bc=>Sr<|Va (Fl (0:Nat))<|AA<|Ac<|Ao<|Sr<|Vm<|Vr (.bool (feq f (0:Nat)))<|Va (.bool (feq f (0:Nat)))<|AA<|Cn a (fun ai a=>?_) fun ai a=>?_
 refine Sr<|Vm<|Va (Fl f)<|AA<|AZ ?_
 obtain rfl:=AP a
 refine A0 (B:=B) l (BQ rfl (.tmp rfl) ?_)
 exact ⟨n,rfl,Ho (AO.refl [] _ _) h⟩
 refine Au (fun w y=>∃(o:Env) (q:Col) (z:Bool),w=o.puts [(0,.float .f64 f),(1,.int .i64 d),(12,.bool z)]∧Jz f d z=some ac∧AO [] n u q y) ?_ ?_
 refine AQ<|Vm<|Bi a fun bd aj a=>Ca (Tu [Fl f,I 0] rfl) (Mn n u aj) ?_
 rintro _ ak ⟨ad,rfl,ae⟩
 refine ⟨_,rfl,?_⟩
 refine Vm<|Bo a (fun g a=>?_) fun g a=>?_
 refine Pg g<|Pg g<|Vp g<|Va (.bool true)<|AA<|⟨_,ad,true,Pu,a,(Mo [] ae)⟩
 refine Gm g<|Bi a fun af al a=>Bx (.guard (t:=false) (b:=false) rfl rfl rfl rfl (Cb g)) rfl rfl (RM [Fl f] rfl)<|Calls.mono (LE ad ak al) ?_
 rintro _ be ⟨am,rfl,an⟩
 refine ⟨_,rfl,?_⟩
 refine Vp g<|Va (.bool af)<|AA<|⟨_,am,af,Pu,a,(Tn (Mo [] ae) an)⟩
 rintro _ y ⟨o,q,z,rfl,a,p⟩
 rw [Jz] at a
 refine Cn a (fun ao a=>?_) fun ao a=>?_
 refine Sr<|Vm<|Va (Fl f)<|AA<|AZ ?_
 obtain rfl:=AP a
 refine A0 (B:=B) l (BQ rfl (.tmp rfl) ?_)
 exact ⟨q,rfl,Ho (Mo [] p) h⟩
 refine WC.skip<|Sr<|Vm<|Bi a fun c ap a=>Ca (V7 [Fl f] rfl) (MT q y ap) ?_
 rintro _ r ⟨m,rfl,s⟩
 refine ⟨_,rfl,?_⟩
 refine Vm<|Vr (Fl c.1)<|Vr (I c.2)<|Va (Fl c.1)<|Va (I c.2)<|AA<|Sr<|Vm<|Vm<|Vr (I (Wr (d+c.2)))<|Va (I (Wr (d+c.2)))<|AA<|Sr<|Vm<|Vx (v:=.int .u64 ((c.1:Nat):Int)) (OH (vs:=[Fl c.1]) rfl rfl)<|Va (.int .u64 ((c.1:Nat):Int))<|AA<|Sr<|Vm<|Vm<|Bi a fun bf aq a=>Vx (v:=.int .u64 (shr .u64 ((c.1:Nat):Int) 52)) (Run.shr rfl rfl (Tk aq))<|Vr (I (Wr (shr .u64 ((c.1:Nat):Int) 52)))<|Vr (I (EG .i64 (Wr (shr .u64 ((c.1:Nat):Int) 52)) 2047))<|Vr (I (Wr ((EG .i64 (Wr (shr .u64 ((c.1:Nat):Int) 52)) 2047) - 1023)))<|Vr (I (Wr ((Wr (d+c.2))+(Wr ((EG .i64 (Wr (shr .u64 ((c.1:Nat):Int) 52)) 2047) - 1023)))))<|Va (I (Wr ((Wr (d+c.2))+(Wr ((EG .i64 (Wr (shr .u64 ((c.1:Nat):Int) 52)) 2047) - 1023)))))<|AA<|Ac<|Sr<|Vm<|Vr (.bool (decide ((Wr ((Wr (d+c.2))+(Wr ((EG .i64 (Wr (shr .u64 ((c.1:Nat):Int) 52)) 2047) - 1023))))< (-1075:Int))))<|AA<|Cn a (fun ar a=>?_) fun ar a=>?_
 refine Sr<|Vm<|Bi a fun au av a=>Ca (Yx [Fl (0:Nat),Fl c.1] rfl) (QN m r av) ?_
 rintro _ bg ⟨aw,rfl,ax⟩
 refine ⟨_,rfl,?_⟩
 refine Va (Fl au)<|AA<|AZ ?_
 obtain rfl:=AP a
 refine A0 (B:=B) l (BQ rfl (.tmp rfl) ?_)
 exact ⟨aw,rfl,Ho (T2 (Mo [] p) s ax) h⟩
 refine WC.skip<|Ac<|Sr<|Vm<|Vr (.bool (decide ((Wr ((Wr (d+c.2))+(Wr ((EG .i64 (Wr (shr .u64 ((c.1:Nat):Int) 52)) 2047) - 1023))))>1023)))<|AA<|Cn a (fun ay a=>?_) fun ay a=>?_
 refine Ac<|Sr<|Vm<|Vr (.bool (flt_ c.1 (0:Nat)))<|AA<|Cn a (fun az a=>?_) fun az a=>?_
 refine Sr<|Bi a fun a0 a1 a=>Ca (V8 [I (-1:Int)] rfl) (Qh m r a1) ?_
 rintro _ bh ⟨a2,rfl,a3⟩
 refine ⟨_,rfl,?_⟩
 refine Va (Fl a0)<|AA<|AZ ?_
 obtain rfl:=AP a
 refine A0 (B:=B) l (BQ rfl (.tmp rfl) ?_)
 exact ⟨a2,rfl,Ho (T2 (Mo [] p) s a3) h⟩
 refine WC.skip<|Sr<|Bi a fun a4 a5 a=>Ca (V8 [I 1] rfl) (Qh m r a5) ?_
 rintro _ bi ⟨a6,rfl,a7⟩
 refine ⟨_,rfl,?_⟩
 refine Va (Fl a4)<|AA<|AZ ?_
 obtain rfl:=AP a
 refine A0 (B:=B) l (BQ rfl (.tmp rfl) ?_)
 exact ⟨a6,rfl,Ho (T2 (Mo [] p) s a7) h⟩
 refine WC.skip<|Sr<|Va (Fl (4607182418800017408:Nat))<|AA<|Au (fun w ag=>∃(o:Env) (aa:Col) (e:Int) (ab:Nat),w=o.puts [(1,.int .i64 e),(6,.int .u64 ((c.1:Nat):Int)),(7,.float .f64 ab)]∧Jy c e ab=some ac∧AO [] m r aa ag) ?_ ?_
 refine Sr<|Vm<|Vr (.bool (decide ((Wr ((Wr (d+c.2))+(Wr ((EG .i64 (Wr (shr .u64 ((c.1:Nat):Int) 52)) 2047) - 1023))))< (-1022:Int))))<|AA<|Cn a (fun a8 a=>?_) fun a8 a=>?_
 refine Sr<|Vm<|Vr (I (Wr ((Wr ((Wr (d+c.2))+(Wr ((EG .i64 (Wr (shr .u64 ((c.1:Nat):Int) 52)) 2047) - 1023))))+53)))<|Va (I (Wr ((Wr ((Wr (d+c.2))+(Wr ((EG .i64 (Wr (shr .u64 ((c.1:Nat):Int) 52)) 2047) - 1023))))+53)))<|AA<|AQ<|Va (Fl (4368491638549381120:Nat))<|AA<|⟨_,m,(Wr ((Wr ((Wr (d+c.2))+(Wr ((EG .i64 (Wr (shr .u64 ((c.1:Nat):Int) 52)) 2047) - 1023))))+53)),(4368491638549381120:Nat),Pu,a,(AO.refl [] _ _)⟩
 refine WC.skip<|⟨_,m,(Wr ((Wr (d+c.2))+(Wr ((EG .i64 (Wr (shr .u64 ((c.1:Nat):Int) 52)) 2047) - 1023)))),(4607182418800017408:Nat),Pu,a,(AO.refl [] _ _)⟩
 rintro _ ag ⟨o,aa,e,ab,rfl,a,a9⟩
 rw [Jy] at a
 refine Sr<|Vm<|Vr (.int .u64 (CT .u64 ((c.1:Nat):Int) 9218868437227405312))<|Va (.int .u64 (CT .u64 ((c.1:Nat):Int) 9218868437227405312))<|AA<|Sr<|Vm<|Vm<|Vr (I (Wr (e+1023)))<|Vr (.int .u64 (IntKind.u64.wrap (Wr (e+1023))))<|Bi a fun bj ba a=>Vx (v:=.int .u64 (shl .u64 (IntKind.u64.wrap (Wr (e+1023))) 52)) (Run.shl rfl rfl (Tk ba))<|Vr (.int .u64 (Kp .u64 (CT .u64 ((c.1:Nat):Int) 9218868437227405312) (shl .u64 (IntKind.u64.wrap (Wr (e+1023))) 52)))<|Va (.int .u64 (Kp .u64 (CT .u64 ((c.1:Nat):Int) 9218868437227405312) (shl .u64 (IntKind.u64.wrap (Wr (e+1023))) 52)))<|AA<|Sr<|Vm<|Vm<|Vx (v:=Fl (((Kp .u64 (CT .u64 ((c.1:Nat):Int) 9218868437227405312) (shl .u64 (IntKind.u64.wrap (Wr (e+1023))) 52))).toNat)) (QE (vs:=[.int .u64 (Kp .u64 (CT .u64 ((c.1:Nat):Int) 9218868437227405312) (shl .u64 (IntKind.u64.wrap (Wr (e+1023))) 52))]) rfl rfl)<|Bi a fun ah bb a=>Vx (v:=Fl ah) (Run.fmul rfl rfl bb)<|Va (Fl ah)<|AA<|AZ ?_
 obtain rfl:=AP a
 refine A0 (B:=B) l (BQ rfl (.tmp rfl) ?_)
 exact ⟨aa,rfl,Ho (T2 (Mo [] p) s a9) h⟩
theorem TE:IJ.Spec IJ:=by
 intro a c h l m d
 refine Calls.mono (SP (recol (see []) a) c (A3 lbr a) d) ?_
 rintro n o ⟨e,f,g⟩
 exact ⟨glue [] c a e,f,Ah g A2⟩
def Ht.At(g:Col)(a:World)(f:Nat→Int→Option Nat):Prop:=
 ∀{c:Nat} {d:Int} {e:Nat},f c d=some e→
  Calls Tryz.prog 156 #[Fl c,I d] a fun h l=>∃(m:Col),h=.returned (Fl e)∧AO [] g a m l
def Ht.Spec(f:Nat→Int→Option Nat):Prop:=
 ∀(a:Col) (c:World),Ht.At a c f
theorem SQ(c:Col)(d:World)(e:∀b,c b<10):Ht.At c d Ht:=by
 intro f g q a
 rw [Ht] at a
 refine A5 Tryz.func156 rfl Tryz.ntmps156 rfl fun B l r=>Sr<|Va (Fl (0:Nat))<|AA<|Ac<|WC.cond (t:=false) rfl (fun h=>by cases h) (fun h=>?_)
 refine WC.skip<|Sr<|Vm<|Vm<|Bi a fun m n a=>Ca (Y5 [Fl f,I g] rfl) (TE c d n) ?_
 rintro _ s ⟨o,rfl,p⟩
 refine ⟨_,rfl,?_⟩
 refine Va (Fl m)<|AA<|AZ ?_
 obtain rfl:=AP a
 refine A0 (B:=B) l (BQ rfl (.tmp rfl) ?_)
 exact ⟨o,rfl,Ho (Mo [] p) e⟩
theorem TF:Ht.Spec Ht:=by
 intro a c h l m d
 refine Calls.mono (SQ (recol (see []) a) c (A3 lbr a) d) ?_
 rintro n o ⟨e,f,g⟩
 exact ⟨glue [] c a e,f,Ah g A2⟩
def J0.At(g:Col)(a:World)(f:Nat→Nat→Option Nat):Prop:=
 ∀{c:Nat} {d:Nat} {e:Nat},f c d=some e→
  Calls Tryz.prog 150 #[Fl c,Fl d] a fun h l=>∃(m:Col),h=.returned (Fl e)∧AO [] g a m l
def J0.Spec(f:Nat→Nat→Option Nat):Prop:=
 ∀(a:Col) (c:World),J0.At a c f
theorem UG(z:Nat)(u:Col)(ag:World)(aq:∀b,u b<10):J0.At u ag (J0 z):=by
 intro c w q a
 rw [J0] at a
 refine A5 Tryz.func150 rfl Tryz.ntmps150 rfl fun B ar b2=>Sr<|Va (Fl (0:Nat))<|AA<|Ac<|Au (fun h aa=>∃(e:Env) (ab:Col) (ah:Bool),h=e.puts [(0,.float .f64 c),(1,.float .f64 w),(23,.bool ah)]∧JZ z c w ah=some q∧AO [] u ag ab aa) ?_ ?_
 refine AQ<|Vm<|Vr (.bool (feq w (0:Nat)))<|Vm<|Bo a (fun n a=>?_) fun n a=>?_
 refine Pg n<|Pg n<|Vp n<|Vm<|Pg rfl<|Pg rfl<|Vr (.bool true)<|Vm<|Pg rfl<|Pg rfl<|Vr (.bool true)<|AA<|⟨_,u,true,Pu,a,(AO.refl [] _ _)⟩
 refine Gm n<|Bi a fun b3 a1 a=>Bx (.guard (t:=false) (b:=false) rfl rfl rfl rfl (Cb n)) rfl rfl (Tu [Fl c,I 0] rfl)<|Calls.mono (Mn u ag a1) ?_
 rintro _ a2 ⟨au,rfl,ai⟩
 refine ⟨_,rfl,?_⟩
 refine Vp n<|Vm<|Bo a (fun o a=>?_) fun o a=>?_
 refine Pg o<|Pg o<|Vp o<|Vm<|Pg rfl<|Pg rfl<|Vr (.bool true)<|AA<|⟨_,au,true,Pu,a,(Mo [] ai)⟩
 refine Gm o<|Bi a fun b4 a3 a=>Bx (.guard (t:=false) (b:=false) rfl rfl rfl rfl (Cb o)) rfl rfl (RM [Fl c] rfl)<|Calls.mono (LE au a2 a3) ?_
 rintro _ a4 ⟨av,rfl,aw⟩
 refine ⟨_,rfl,?_⟩
 refine Vp o<|Vm<|Bo a (fun p a=>?_) fun p a=>?_
 refine Pg p<|Pg p<|Vp p<|AA<|⟨_,av,true,Pu,a,(Tn (Mo [] ai) aw)⟩
 refine Gm p<|Bi a fun a5 a6 a=>Bx (.guard (t:=false) (b:=false) rfl rfl rfl rfl (Cb p)) rfl rfl (RM [Fl w] rfl)<|Calls.mono (LE av a4 a6) ?_
 rintro _ b5 ⟨a7,rfl,a8⟩
 refine ⟨_,rfl,?_⟩
 refine Vp p<|AA<|⟨_,a7,a5,Pu,a,(T2 (Mo [] ai) aw a8)⟩
 rintro _ aa ⟨e,ab,ah,rfl,a,ax⟩
 rw [JZ] at a
 refine Cn a (fun a9 a=>?_) fun a9 a=>?_
 refine Sr<|Bi a fun ba bb a=>Ca (Yz [] rfl) (Uu ab aa bb) ?_
 rintro _ b6 ⟨bc,rfl,bd⟩
 refine ⟨_,rfl,?_⟩
 refine Va (Fl ba)<|AA<|AZ ?_
 obtain rfl:=AP a
 refine A0 (B:=B) ar (BQ rfl (.tmp rfl) ?_)
 exact ⟨bc,rfl,Ho (Tn (Mo [] ax) bd) aq⟩
 refine WC.skip<|Sr<|Vm<|Bi a fun f be a=>Ca (Tt [Fl w] rfl) (OV ab aa be) ?_
 rintro _ bf ⟨bg,rfl,bh⟩
 refine ⟨_,rfl,?_⟩
 refine Va (Fl f)<|AA<|Sr<|Vm<|Bi a fun d bi a=>Ca (V5 [Fl f] rfl) (O2 bg bf bi) ?_
 rintro _ bj ⟨aj,rfl,bk⟩
 refine ⟨_,rfl,?_⟩
 refine Vm<|Vr (Fl d.1)<|Vr (I d.2)<|Va (Fl d.1)<|Va (I d.2)<|AA<|Sr<|Vm<|Va (Fl c)<|AA<|Au (fun h ak=>∃(e:Env) (ac:Col) (ad:Nat),h=e.puts [(0,.float .f64 c),(1,.float .f64 f),(5,.float .f64 d.1),(6,.int .i64 d.2),(7,.float .f64 ad)]∧KQ z c f d ad=some q∧AO [] aj bj ac ak) ?_ ?_
 refine Sr<|Vm<|Vr (.bool (flt_ c (0:Nat)))<|AA<|Cn a (fun bl a=>?_) fun bl a=>?_
 refine AQ<|Vm<|Vr (Fl (Op.negFloat .f64 c))<|Va (Fl (Op.negFloat .f64 c))<|AA<|⟨_,aj,(Op.negFloat .f64 c),Pu,a,(AO.refl [] _ _)⟩
 refine WC.skip<|⟨_,aj,c,Pu,a,(AO.refl [] _ _)⟩
 rintro _ ak ⟨e,ac,ad,rfl,a,bm⟩
 rw [KQ] at a
 refine Ac<|Ao<|CZ (fun m h ae=>∃(e:Env) (r:Col) (g:Nat),h=e.puts [(0,.float .f64 c),(1,.float .f64 f),(5,.float .f64 d.1),(6,.int .i64 d.2),(7,.float .f64 g)]∧Iw c f d m g=some q∧AO [] ac ak r ae) z ?_ ?_
 exact ⟨_,ac,ad,Pu,a,(AO.refl [] _ _)⟩
 rintro m _ ae ⟨e,r,g,rfl,a,ay⟩
 rcases m with _|m
 exact BK a
 refine have a:Kb c f d (Iw c f d m) g=some q:=a; ?_
 obtain ⟨bn,az⟩:∃s,s=Iw c f d m:=⟨_,rfl⟩
 rw [←az,Kb] at a
 refine Ac<|Sr<|Vm<|Vm<|Vr (.bool (fge g f))<|AA<|Cn a (fun bo a=>?_) fun bo a=>?_
 refine WC.skip<|Ao<|Sr<|Vm<|Bi a fun l bp a=>Ca (V5 [Fl g] rfl) (O2 r ae bp) ?_
 rintro _ bq ⟨al,rfl,br⟩
 refine ⟨_,rfl,?_⟩
 refine Vm<|Vr (Fl l.1)<|Vr (I l.2)<|Va (Fl l.1)<|Va (I l.2)<|AA<|Au (fun h am=>∃(e:Env) (an:Col) (y:Int),h=e.puts [(0,.float .f64 c),(1,.float .f64 f),(5,.float .f64 d.1),(6,.int .i64 d.2),(7,.float .f64 g),(9,.int .i64 y)]∧JY f d g bn y=some q∧AO [] al bq an am) ?_ ?_
 refine Sr<|Vm<|Vm<|Vr (.bool (flt_ l.1 d.1))<|AA<|Cn a (fun bt a=>?_) fun bt a=>?_
 refine AQ<|Vm<|Vr (I (Wr (l.2 - 1)))<|Va (I (Wr (l.2 - 1)))<|AA<|⟨_,al,(Wr (l.2 - 1)),Pu,a,(AO.refl [] _ _)⟩
 refine WC.skip<|⟨_,al,l.2,Pu,a,(AO.refl [] _ _)⟩
 rintro _ am ⟨e,an,y,rfl,a,bu⟩
 rw [JY] at a
 refine AQ<|Vm<|Vm<|Vm<|Vm<|Vr (I (Wr (y - d.2)))<|Bi a fun b7 bv a=>Ca (Y0 [Fl f,I (Wr (y - d.2))] rfl) (TF an am bv) ?_
 rintro _ b8 ⟨bw,rfl,bx⟩
 refine ⟨_,rfl,?_⟩
 refine Bi a fun ao bz a=>Vx (v:=Fl ao) (Run.fsub rfl rfl bz)<|Va (Fl ao)<|AA<|⟨m,Nat.lt_succ_self m,_,bw,ao,Pu,(az▸a),(T3 (Mo [] ay) br bu bx)⟩
 refine CF<|Au (fun h a0=>∃(e:Env) (ap:Col) (af:Nat),h=e.puts [(7,.float .f64 af)]∧ML af=some q∧AO [] r ae ap a0) ?_ ?_
 refine Sr<|Vm<|Vr (.bool (flt_ c (0:Nat)))<|AA<|Cn a (fun b0 a=>?_) fun b0 a=>?_
 refine AQ<|Vm<|Vr (Fl (Op.negFloat .f64 g))<|Va (Fl (Op.negFloat .f64 g))<|AA<|⟨_,r,(Op.negFloat .f64 g),Pu,a,(AO.refl [] _ _)⟩
 refine WC.skip<|⟨_,r,g,Pu,a,(AO.refl [] _ _)⟩
 rintro _ a0 ⟨e,ap,af,rfl,a,b1⟩
 rw [ML] at a
 refine Sr<|Vm<|Va (Fl af)<|AA<|AZ ?_
 obtain rfl:=AP a
 refine A0 (B:=B) ar (BQ rfl (.tmp rfl) ?_)
 exact ⟨ap,rfl,Ho (Tn (T4 (Mo [] ax) bh bk bm ay) b1) aq⟩
theorem Uv(c:Nat):J0.Spec (J0 c):=by
 intro a d l m n e
 refine Calls.mono (UG c (recol (see []) a) d (A3 lbr a) e) ?_
 rintro o p ⟨f,g,h⟩
 exact ⟨glue [] d a f,g,Ah h A2⟩
def I6.At(g:Col)(a:World)(f:Nat→Nat→Option Nat):Prop:=
 ∀{c:Nat} {d:Nat} {e:Nat},f c d=some e→
  Calls Tryz.prog 147 #[Fl c,Fl d] a fun h l=>∃(m:Col),h=.returned (Fl e)∧AO [] g a m l
def I6.Spec(f:Nat→Nat→Option Nat):Prop:=
 ∀(a:Col) (c:World),I6.At a c f
theorem UH(d:Nat)(c:Col)(e:World)(f:∀b,c b<10):I6.At c e (I6 d):=by
 intro g l r a
 rw [I6] at a
 refine A5 Tryz.func147 rfl Tryz.ntmps147 rfl fun B m s=>Sr<|Va (Fl (0:Nat))<|AA<|Ac<|WC.cond (t:=false) rfl (fun h=>by cases h) (fun h=>?_)
 refine WC.skip<|Sr<|Vm<|Vm<|Bi a fun n o a=>Ca (Yy [Fl g,Fl l] rfl) (Uv d c e o) ?_
 rintro _ u ⟨p,rfl,q⟩
 refine ⟨_,rfl,?_⟩
 refine Va (Fl n)<|AA<|AZ ?_
 obtain rfl:=AP a
 refine A0 (B:=B) m (BQ rfl (.tmp rfl) ?_)
 exact ⟨p,rfl,Ho (Mo [] q) f⟩
theorem Qi(c:Nat):I6.Spec (I6 c):=by
 intro a d l m n e
 refine Calls.mono (UH c (recol (see []) a) d (A3 lbr a) e) ?_
 rintro o p ⟨f,g,h⟩
 exact ⟨glue [] d a f,g,Ah h A2⟩
def Ii.At(g:Col)(c:World)(f:(Nat×Nat)→(Nat×Nat)→Option ((Nat×Nat)×Int)):Prop:=
 ∀{d:(Nat×Nat)} {e:(Nat×Nat)} {a:(Nat×Nat)×Int},f d e=some a→
  Calls Tryz.prog 141 #[Cx d,Cx e] c fun h l=>∃(m:Col),h=.returned (.tuple #[Cx a.1,I a.2])∧AO [] g c m l
def Ii.Spec(f:(Nat×Nat)→(Nat×Nat)→Option ((Nat×Nat)×Int)):Prop:=
 ∀(a:Col) (c:World),Ii.At a c f
theorem TG(m:Nat)(n:Col)(y:World)(o:∀b,n b<10):Ii.At n y (Ii m):=by
 intro p c ag a
 rw [Ii] at a
 refine A5 Tryz.func141 rfl Tryz.ntmps141 rfl fun B q bb=>Sr<|Va (Cx (((0,0):Nat×Nat)))<|Va (I 0)<|AA<|Ac<|Ao<|Au (fun z r=>∃(l:Env) (h:Col) (aa:Bool),z=l.puts [(0,.complex .f64 p.1 p.2),(1,.complex .f64 c.1 c.2),(9,.bool aa)]∧Ke m p c aa=some ag∧AO [] n y h r) ?_ ?_
 refine AQ<|Vm<|Bi a fun an ao a=>Ca (Ju [Cx p] rfl) (Cl n y ao) ?_
 rintro _ ap ⟨ah,rfl,ai⟩
 refine ⟨_,rfl,?_⟩
 refine Vr (.bool (!an))<|Vm<|Bo a (fun f a=>?_) fun f a=>?_
 refine Pg f<|Pg f<|Pg f<|Vp f<|Va (.bool true)<|AA<|⟨_,ah,true,Pu,a,(Mo [] ai)⟩
 refine Gm f<|Bi a fun ab aq a=>Bx (.guard (t:=false) (b:=false) rfl rfl rfl rfl (Cb f)) rfl rfl (Ju [Cx c] rfl)<|Calls.mono (Cl ah ap aq) ?_
 rintro _ bc ⟨ar,rfl,au⟩
 refine ⟨_,rfl,?_⟩
 refine Gr f (.bool (!ab))<|Vp f<|Va (.bool (!ab))<|AA<|⟨_,ar,(!ab),Pu,a,(Tn (Mo [] ai) au)⟩
 rintro _ r ⟨l,h,aa,rfl,a,s⟩
 rw [Ke] at a
 refine Cn a (fun av a=>?_) fun av a=>?_
 refine Sr<|Va (Cx (((0,0):Nat×Nat)))<|Va (I 3)<|AA<|AZ ?_
 obtain rfl:=AP a
 refine A0 (B:=B) q (D4 rfl (.tmp rfl) (.tmp rfl) ?_)
 exact ⟨h,rfl,Ho (Mo [] s) o⟩
 refine Sr<|Vm<|Vx (v:=.bool (ceq c ((0,0):Nat×Nat))) (Run.ceq rfl rfl)<|Va (.bool (ceq c ((0,0):Nat×Nat)))<|AA<|Cn a (fun aw a=>?_) fun aw a=>?_
 refine Sr<|Va (Cx (((0,0):Nat×Nat)))<|Va (I 51)<|AA<|AZ ?_
 obtain rfl:=AP a
 refine A0 (B:=B) q (D4 rfl (.tmp rfl) (.tmp rfl) ?_)
 exact ⟨h,rfl,Ho (Mo [] s) o⟩
 refine WC.skip<|Sr<|Vm<|Vx (v:=Fl c.1) (Run.real rfl)<|Vm<|Vx (v:=Fl c.2) (Run.imag rfl)<|Vr (Fl (Op.negFloat .f64 c.2))<|Vx (v:=Cx ((c.1,(Op.negFloat .f64 c.2)))) (Run.complex rfl rfl)<|Va (Cx ((c.1,(Op.negFloat .f64 c.2))))<|AA<|Sr<|Vm<|Vm<|Bi a fun e ax a=>Vx (v:=Cx e) (Run.cmul rfl rfl ax)<|Vm<|Vm<|Bi a fun g ay a=>Vx (v:=Cx g) (Run.cmul rfl rfl ay)<|Vx (v:=Fl g.1) (Run.real rfl)<|Va (Cx e)<|Va (Fl g.1)<|AA<|Ac<|Au (fun z ac=>∃(l:Env) (u:Col) (ad:Bool),z=l.puts [(7,.complex .f64 e.1 e.2),(8,.float .f64 g.1),(45,.bool ad)]∧Kc e g ad=some ag∧AO [] h r u ac) ?_ ?_
 refine AQ<|Vm<|Vx (v:=Fl e.1) (Run.real rfl)<|Vm<|Bi a fun az a0 a=>Ca (V2 [Fl e.1,Fl g.1] rfl) (Qi m h r a0) ?_
 rintro _ a1 ⟨aj,rfl,ak⟩
 refine ⟨_,rfl,?_⟩
 refine Vr (.bool (fne az (0:Nat)))<|Vm<|Bo a (fun d a=>?_) fun d a=>?_
 refine Pg d<|Pg d<|Pg d<|Pg d<|Pg d<|Vp d<|AA<|⟨_,aj,true,Pu,a,(Mo [] ak)⟩
 refine Gm d<|Gx d (v:=Fl e.2) (Run.imag rfl)<|Gm d<|Bi a fun al a2 a=>Bx (.guard (t:=false) (b:=false) rfl rfl rfl rfl (Cb d)) rfl rfl (V2 [Fl e.2,Fl g.1] rfl)<|Calls.mono (Qi m aj a1 a2) ?_
 rintro _ bd ⟨a3,rfl,a4⟩
 refine ⟨_,rfl,?_⟩
 refine Gr d (.bool (fne al (0:Nat)))<|Vp d<|AA<|⟨_,a3,(fne al (0:Nat)),Pu,a,(Tn (Mo [] ak) a4)⟩
 rintro _ ac ⟨l,u,ad,rfl,a,am⟩
 rw [Kc] at a
 refine Cn a (fun a5 a=>?_) fun a5 a=>?_
 refine Sr<|Va (Cx (((0,0):Nat×Nat)))<|Va (I 51)<|AA<|AZ ?_
 obtain rfl:=AP a
 refine A0 (B:=B) q (D4 rfl (.tmp rfl) (.tmp rfl) ?_)
 exact ⟨u,rfl,Ho (Tn (Mo [] s) am) o⟩
 refine WC.skip<|Sr<|Vm<|Vx (v:=Fl e.1) (Run.real rfl)<|Vm<|Bi a fun ae a6 a=>Vx (v:=Fl ae) (Run.fdiv rfl rfl a6)<|Vm<|Vx (v:=Fl e.2) (Run.imag rfl)<|Vm<|Bi a fun af a7 a=>Vx (v:=Fl af) (Run.fdiv rfl rfl a7)<|Vx (v:=Cx ((ae,af))) (Run.complex rfl rfl)<|Bi a fun w a8 a=>Ca (PS [Cx ((ae,af))] rfl) (Jk u ac a8) ?_
 rintro _ be ⟨a9,rfl,ba⟩
 refine ⟨_,rfl,?_⟩
 refine Vr (Cx w.1)<|Vr (I w.2)<|Va (Cx w.1)<|Va (I w.2)<|AA<|AZ ?_
 obtain rfl:=AP a
 refine A0 (B:=B) q (D4 rfl (.tmp rfl) (.tmp rfl) ?_)
 exact ⟨a9,rfl,Ho (T2 (Mo [] s) am ba) o⟩
theorem UI(c:Nat):Ii.Spec (Ii c):=by
 intro a d l m n e
 refine Calls.mono (TG c (recol (see []) a) d (A3 lbr a) e) ?_
 rintro o p ⟨f,g,h⟩
 exact ⟨glue [] d a f,g,Ah h A2⟩
def Hu.At(g:Col)(c:World)(f:(Nat×Nat)→(Nat×Nat)→Option (Bool×Int)):Prop:=
 ∀{d:(Nat×Nat)} {e:(Nat×Nat)} {a:Bool×Int},f d e=some a→
  Calls Tryz.prog 142 #[Cx d,Cx e] c fun h l=>∃(m:Col),h=.returned (.tuple #[.bool a.1,I a.2])∧AO [] g c m l
def Hu.Spec(f:(Nat×Nat)→(Nat×Nat)→Option (Bool×Int)):Prop:=
 ∀(a:Col) (c:World),Hu.At a c f
theorem SR(g:Col)(h:World)(l:∀b,g b<10):Hu.At g h Hu:=by
 intro c d w a
 rw [Hu] at a
 refine A5 Tryz.func142 rfl Tryz.ntmps142 rfl fun B m ah=>Sr<|Va (.bool false)<|Va (I 0)<|AA<|Ac<|Au (fun y p=>∃(q:Env) (f:Col) (n:Bool),y=q.puts [(0,.complex .f64 c.1 c.2),(1,.complex .f64 d.1 d.2),(13,.bool n)]∧J1 c d n=some w∧AO [] g h f p) ?_ ?_
 refine AQ<|Vm<|Bi a fun z aa a=>Ca (Ju [Cx c] rfl) (Cl g h aa) ?_
 rintro _ ab ⟨r,rfl,s⟩
 refine ⟨_,rfl,?_⟩
 refine Vr (.bool (!z))<|Vm<|Bo a (fun e a=>?_) fun e a=>?_
 refine Pg e<|Pg e<|Pg e<|Vp e<|AA<|⟨_,r,true,Pu,a,(Mo [] s)⟩
 refine Gm e<|Bi a fun u ac a=>Bx (.guard (t:=false) (b:=false) rfl rfl rfl rfl (Cb e)) rfl rfl (Ju [Cx d] rfl)<|Calls.mono (Cl r ab ac) ?_
 rintro _ ai ⟨ad,rfl,ae⟩
 refine ⟨_,rfl,?_⟩
 refine Gr e (.bool (!u))<|Vp e<|AA<|⟨_,ad,(!u),Pu,a,(Tn (Mo [] s) ae)⟩
 rintro _ p ⟨q,f,n,rfl,a,o⟩
 rw [J1] at a
 refine Cn a (fun af a=>?_) fun af a=>?_
 refine Sr<|Va (.bool false)<|Va (I 3)<|AA<|AZ ?_
 obtain rfl:=AP a
 refine A0 (B:=B) m (D4 rfl (.tmp rfl) (.tmp rfl) ?_)
 exact ⟨f,rfl,Ho (Mo [] o) l⟩
 refine WC.skip<|Ac<|Sr<|Vm<|Vx (v:=Fl c.1) (Run.real rfl)<|Vm<|Vx (v:=Fl d.1) (Run.real rfl)<|Vr (.bool (fne c.1 d.1))<|AA<|Cn a (fun ag a=>?_) fun ag a=>?_
 refine Sr<|Vm<|Vx (v:=Fl c.1) (Run.real rfl)<|Vm<|Vx (v:=Fl d.1) (Run.real rfl)<|Vr (.bool (flt_ c.1 d.1))<|Va (.bool (flt_ c.1 d.1))<|Va (I 0)<|AA<|AZ ?_
 obtain rfl:=AP a
 refine A0 (B:=B) m (D4 rfl (.tmp rfl) (.tmp rfl) ?_)
 exact ⟨f,rfl,Ho (Mo [] o) l⟩
 refine WC.skip<|Sr<|Vm<|Vx (v:=Fl c.2) (Run.imag rfl)<|Vm<|Vx (v:=Fl d.2) (Run.imag rfl)<|Vr (.bool (flt_ c.2 d.2))<|Va (.bool (flt_ c.2 d.2))<|Va (I 0)<|AA<|AZ ?_
 obtain rfl:=AP a
 refine A0 (B:=B) m (D4 rfl (.tmp rfl) (.tmp rfl) ?_)
 exact ⟨f,rfl,Ho (Mo [] o) l⟩
theorem TH:Hu.Spec Hu:=by
 intro a c h l m d
 refine Calls.mono (SR (recol (see []) a) c (A3 lbr a) d) ?_
 rintro n o ⟨e,f,g⟩
 exact ⟨glue [] c a e,f,Ah g A2⟩
def I7.At(n:Col)(c:World)(f:Int→(Nat×Nat)→(Nat×Nat)→Option (AG×Int)):Prop:=
 ∀{d:Int} {e:(Nat×Nat)} {g:(Nat×Nat)} {a:AG×Int},f d e g=some a→
  Calls Tryz.prog 118 #[I d,Cx e,Cx g] c fun o h=>∃(l:Col) (m:List Value),o=.returned (.tuple #[.agg m.toArray,I a.2])∧AO [] n c l h∧Ax.rep l.F h m a.1
def I7.Spec(f:Int→(Nat×Nat)→(Nat×Nat)→Option (AG×Int)):Prop:=
 ∀(a:Col) (c:World),I7.At a c f
theorem UJ(ai:Nat)(z:Col)(a2:World)(m:∀b,z b<10):I7.At z a2 (I7 ai):=by
 intro f g h ci a
 rw [I7] at a
 refine A5 Tryz.func118 rfl Tryz.ntmps118 rfl fun B n cj=>Sr<|Ef (AY z 20 Ep rfl fun o r ck p q=>?_)
 refine Va (I 0)<|AA<|Ac<|Sr<|Vm<|AA<|Ao<|Sr<|Vr (.bool (f==8))<|Va (.bool (f==8))<|AA<|Cn a (fun a3 a=>?_) fun a3 a=>?_
 refine Sr<|Vm<|Vm<|Bi a fun s a4 a=>Ca (Yr [Cx g,Cx h] rfl) (UA o r a4) ?_
 rintro _ a5 ⟨a6,rfl,aj⟩
 refine ⟨_,rfl,?_⟩
 refine Vr (Cx s.1)<|Vr (I s.2)<|Bi a fun c a7 a=>Ca (NB [Cx s.1,I s.2] rfl) (Hv a6 a5 a7) ?_
 rintro _ cl ⟨a8,cm,rfl,ak,a9⟩
 obtain ⟨cn,rfl,al⟩:=Bt a9
 obtain ⟨aa,ab,rfl⟩:=AI al
 refine ⟨_,rfl,?_⟩
 refine Vr (.agg [I c.1.type_,Cx c.1.num,.bool c.1.bool,Sl aa c.1.list ab].toArray)<|Vr (I c.2)<|have ba:=Y2 p aj ak;Eu (St Fe ba rfl rfl rfl rfl fun co bb am=>?_)
 refine Va (I c.2)<|AA<|AZ ?_
 obtain rfl:=AP a
 refine A0 (B:=B) n (D4 rfl (.agg Dc rfl rfl (Bk.part bb 0 [I c.1.type_,Cx c.1.num,.bool c.1.bool,Sl aa c.1.list ab] rfl)) (.tmp rfl) ?_)
 refine have bc:=Ss Kd.cpx al am;⟨a8,[I c.1.type_,Cx c.1.num,.bool c.1.bool,Sl aa c.1.list ab],rfl,Ho (T3 (Mo [20] q) aj ak am) m,(BB (x:=c.1) bc)⟩
 refine Sr<|Vr (.bool (f==9))<|Va (.bool (f==9))<|AA<|Cn a (fun bd a=>?_) fun bd a=>?_
 refine Sr<|Vm<|Vm<|Bi a fun u be a=>Ca (Ys [Cx g,Cx h] rfl) (UB o r be) ?_
 rintro _ bf ⟨bg,rfl,an⟩
 refine ⟨_,rfl,?_⟩
 refine Vr (Cx u.1)<|Vr (I u.2)<|Bi a fun d bh a=>Ca (NB [Cx u.1,I u.2] rfl) (Hv bg bf bh) ?_
 rintro _ cq ⟨bi,cr,rfl,ao,bj⟩
 obtain ⟨ct,rfl,ap⟩:=Bt bj
 obtain ⟨ac,ad,rfl⟩:=AI ap
 refine ⟨_,rfl,?_⟩
 refine Vr (.agg [I d.1.type_,Cx d.1.num,.bool d.1.bool,Sl ac d.1.list ad].toArray)<|Vr (I d.2)<|have bk:=Y2 p an ao;Eu (St Fe bk rfl rfl rfl rfl fun cu bl aq=>?_)
 refine Va (I d.2)<|AA<|AZ ?_
 obtain rfl:=AP a
 refine A0 (B:=B) n (D4 rfl (.agg Dc rfl rfl (Bk.part bl 0 [I d.1.type_,Cx d.1.num,.bool d.1.bool,Sl ac d.1.list ad] rfl)) (.tmp rfl) ?_)
 refine have bm:=Ss Kd.cpx ap aq;⟨bi,[I d.1.type_,Cx d.1.num,.bool d.1.bool,Sl ac d.1.list ad],rfl,Ho (T3 (Mo [20] q) an ao aq) m,(BB (x:=d.1) bm)⟩
 refine Sr<|Vr (.bool (f==10))<|Va (.bool (f==10))<|AA<|Cn a (fun bn a=>?_) fun bn a=>?_
 refine Sr<|Vm<|Vm<|Bi a fun w bo a=>Ca (Yt [Cx g,Cx h] rfl) (UC o r bo) ?_
 rintro _ bp ⟨bq,rfl,ar⟩
 refine ⟨_,rfl,?_⟩
 refine Vr (Cx w.1)<|Vr (I w.2)<|Bi a fun x63 br a=>Ca (NB [Cx w.1,I w.2] rfl) (Hv bq bp br) ?_
 rintro _ cv ⟨bt,cw,rfl,au,bu⟩
 obtain ⟨cx,rfl,av⟩:=Bt bu
 obtain ⟨ae,af,rfl⟩:=AI av
 refine ⟨_,rfl,?_⟩
 refine Vr (.agg [I x63.1.type_,Cx x63.1.num,.bool x63.1.bool,Sl ae x63.1.list af].toArray)<|Vr (I x63.2)<|have bv:=Y2 p ar au;Eu (St Fe bv rfl rfl rfl rfl fun cy bw aw=>?_)
 refine Va (I x63.2)<|AA<|AZ ?_
 obtain rfl:=AP a
 refine A0 (B:=B) n (D4 rfl (.agg Dc rfl rfl (Bk.part bw 0 [I x63.1.type_,Cx x63.1.num,.bool x63.1.bool,Sl ae x63.1.list af] rfl)) (.tmp rfl) ?_)
 refine have bx:=Ss Kd.cpx av aw;⟨bt,[I x63.1.type_,Cx x63.1.num,.bool x63.1.bool,Sl ae x63.1.list af],rfl,Ho (T3 (Mo [20] q) ar au aw) m,(BB (x:=x63.1) bx)⟩
 refine Sr<|Vr (.bool (f==11))<|Va (.bool (f==11))<|AA<|Cn a (fun bz a=>?_) fun bz a=>?_
 refine Sr<|Vm<|Vm<|Bi a fun y b0 a=>Ca (Yu [Cx g,Cx h] rfl) (UI ai o r b0) ?_
 rintro _ b1 ⟨b2,rfl,ax⟩
 refine ⟨_,rfl,?_⟩
 refine Vr (Cx y.1)<|Vr (I y.2)<|Bi a fun e b3 a=>Ca (NB [Cx y.1,I y.2] rfl) (Hv b2 b1 b3) ?_
 rintro _ cz ⟨b4,c0,rfl,ay,b5⟩
 obtain ⟨c1,rfl,az⟩:=Bt b5
 obtain ⟨ag,ah,rfl⟩:=AI az
 refine ⟨_,rfl,?_⟩
 refine Vr (.agg [I e.1.type_,Cx e.1.num,.bool e.1.bool,Sl ag e.1.list ah].toArray)<|Vr (I e.2)<|have b6:=Y2 p ax ay;Eu (St Fe b6 rfl rfl rfl rfl fun c2 b7 a0=>?_)
 refine Va (I e.2)<|AA<|AZ ?_
 obtain rfl:=AP a
 refine A0 (B:=B) n (D4 rfl (.agg Dc rfl rfl (Bk.part b7 0 [I e.1.type_,Cx e.1.num,.bool e.1.bool,Sl ag e.1.list ah] rfl)) (.tmp rfl) ?_)
 refine have b8:=Ss Kd.cpx az a0;⟨b4,[I e.1.type_,Cx e.1.num,.bool e.1.bool,Sl ag e.1.list ah],rfl,Ho (T3 (Mo [20] q) ax ay a0) m,(BB (x:=e.1) b8)⟩
 refine Sr<|Vr (.bool (f==12))<|Va (.bool (f==12))<|AA<|Cn a (fun b9 a=>?_) fun b9 a=>?_
 refine Sr<|Vm<|Vm<|Vx (v:=.bool (ceq g h)) (Run.ceq rfl rfl)<|Vx (v:=.agg [I 2,Cx (((0,0):Nat×Nat)),.bool (ceq g h),.slice none 0 0].toArray) (Bp Ep Iq rfl (.cons rfl rfl rfl (.cons rfl rfl rfl .nil)))<|Eu (St Fe p rfl rfl rfl rfl fun c3 ca cb=>?_)
 refine Va (I 0)<|AA<|AZ ?_
 obtain rfl:=AP a
 refine A0 (B:=B) n (D4 rfl (.agg Dc rfl rfl (Bk.part ca 0 [I 2,Cx (((0,0):Nat×Nat)),.bool (ceq g h),.slice none 0 0] rfl)) (.tmp rfl) ?_)
 exact ⟨o,[I 2,Cx (((0,0):Nat×Nat)),.bool (ceq g h),.slice none 0 0],rfl,Ho (Tn (Mo [20] q) cb) m,(BB (x:=(AG.mk 2 ((0,0):Nat×Nat) (ceq g h) [])) Cd)⟩
 refine WC.skip<|Sr<|Vm<|Vm<|Bi a fun l cc a=>Ca (Yv [Cx g,Cx h] rfl) (TH o r cc) ?_
 rintro _ c4 ⟨cd,rfl,a1⟩
 refine ⟨_,rfl,?_⟩
 refine Vm<|Vr (.bool l.1)<|Vr (I l.2)<|Va (.bool l.1)<|Va (I l.2)<|AA<|Sr<|Vm<|Vx (v:=.agg [I 2,Cx (((0,0):Nat×Nat)),.bool l.1,.slice none 0 0].toArray) (Bp Ep Iq rfl (.cons rfl rfl rfl (.cons rfl rfl rfl .nil)))<|Vm<|have cf:=Bs p a1;Eu (St Fe cf rfl rfl rfl rfl fun c5 cg ch=>?_)
 refine Va (I l.2)<|AA<|AZ ?_
 obtain rfl:=AP a
 refine A0 (B:=B) n (D4 rfl (.agg Dc rfl rfl (Bk.part cg 0 [I 2,Cx (((0,0):Nat×Nat)),.bool l.1,.slice none 0 0] rfl)) (.tmp rfl) ?_)
 exact ⟨cd,[I 2,Cx (((0,0):Nat×Nat)),.bool l.1,.slice none 0 0],rfl,Ho (T2 (Mo [20] q) a1 ch) m,(BB (x:=(AG.mk 2 ((0,0):Nat×Nat) l.1 [])) Cd)⟩
theorem Uw(c:Nat):I7.Spec (I7 c):=by
 intro a d n o p q e
 refine Calls.mono (UJ c (recol (see []) a) d (A3 lbr a) e) ?_
 rintro r s ⟨f,g,h,l,m⟩
 exact ⟨glue [] d a f,g,h,Ah l A2,BA Ax m⟩
def Dq.At(d:Col)(a:World)(f:Int→(List AG)→Option (AG×Int)):Prop:=
 ∀{e:Int} {g:(List AG)} {h:Value} {c:AG×Int},f e g=some c→Slc Ax d.F a h g→
  Calls Tryz.prog 91 #[I e,h] a fun o l=>∃(m:Col) (n:List Value),o=.returned (.tuple #[.agg n.toArray,I c.2])∧AO [] d a m l∧Ax.rep m.F l n c.1
def Dq.Spec(f:Int→(List AG)→Option (AG×Int)):Prop:=
 ∀(a:Col) (c:World),Dq.At a c f
theorem SS(y:Nat)(ar:Col)(b4:World)(ae:∀b,ar b<10):Dq.At ar b4 (Dq y):=by
 intro c d ek al a au
 rw [Dq] at a
 obtain ⟨ah,ai,rfl⟩:=AI au
 refine A5 Tryz.func91 rfl Tryz.ntmps91 rfl fun B af el=>Sr<|Ef (AY ar 20 Ep rfl fun b5 b6 av ag z=>?_)
 refine Va (I 0)<|AA<|Sr<|Vm<|Bi a fun e b7 a=>Ca (Yl [I c] rfl) (S8 b5 b6 b7) ?_
 rintro _ b8 ⟨aw,rfl,f⟩
 refine ⟨_,rfl,?_⟩
 refine Vm<|Vr (I e.1)<|Vr (I e.2)<|Va (I e.1)<|Va (I e.2)<|AA<|Ac<|Au (fun aj ax=>∃(ac:Env) (ak:Col) (ay:Bool),aj=ac.puts [(0,.int .i64 c),(1,.slice ah d.length ai),(4,.pointer (some ⟨av,0,none⟩)),(7,.int .i64 e.2),(23,.bool ay)]∧K9 y c d e ay=some al∧AO [] aw b8 ak ax) ?_ ?_
 refine AQ<|Vm<|Vr (.bool (e.1==0))<|Vm<|Bo a (fun r a=>?_) fun r a=>?_
 refine Pg r<|Pg r<|Pg r<|Pg r<|Vp r<|AA<|⟨_,aw,true,Pu,a,(AO.refl [] _ _)⟩
 refine Gm r<|have b9:=K2 Ax au z f; ?_
 obtain ⟨em,en,ca⟩:=AI b9
 refine Gx r (v:=I (d.length:Int)) (Run.lenSlc L2 ca)<|Gm r<|Gr r (.bool ((d.length:Int) != e.1))<|Vp r<|AA<|⟨_,aw,((d.length:Int) != e.1),Pu,a,(AO.refl [] _ _)⟩
 rintro _ ax ⟨ac,ak,ay,rfl,a,g⟩
 rw [K9] at a
 refine Cn a (fun cb a=>?_) fun cb a=>?_
 refine Sr<|Vx (v:=.agg [I 0,Cx (((0,0):Nat×Nat)),.bool false,.slice none 0 0].toArray) (Bp Ep Iq rfl .nil)<|have cc:=Y2 ag f g;Eu (St Fe cc rfl rfl rfl rfl fun eo cd cf=>?_)
 refine Va (I 3)<|AA<|AZ ?_
 obtain rfl:=AP a
 refine A0 (B:=B) af (D4 rfl (.agg Dc rfl rfl (Bk.part cd 0 [I 0,Cx (((0,0):Nat×Nat)),.bool false,.slice none 0 0] rfl)) (.tmp rfl) ?_)
 exact ⟨ak,[I 0,Cx (((0,0):Nat×Nat)),.bool false,.slice none 0 0],rfl,Ho (T3 (Mo [20] z) f g cf) ae,(BB (x:=(AG.mk 0 ((0,0):Nat×Nat) false [])) Cd)⟩
 refine WC.skip<|Ac<|Sr<|Vm<|have az:=K3 Ax au z f g; ?_
 obtain ⟨ep,eq,cg⟩:=AI az
 refine Vx (v:=I (d.length:Int)) (Run.lenSlc L2 cg)<|Vm<|AA<|Ao<|CZ (fun ad aj aa=>∃(ac:Env) (u:Col) (w:Int),aj=ac.puts [(0,.int .i64 c),(1,.slice ah d.length ai),(4,.pointer (some ⟨av,0,none⟩)),(7,.int .i64 e.2),(25,.slice ah d.length ai),(26,.int .i64 (d.length:Int)),(27,.int .i64 w)]∧DH y c d e ad w=some al∧AO [21] ak ax u aa) y ?_ ?_
 exact ⟨_,ak,0,Pu,a,(AO.refl [21] _ _)⟩
 rintro ad _ aa ⟨ac,u,w,rfl,a,h⟩
 rcases ad with _|ad
 exact BK a
 refine have a:CQ y c d e (DH y c d e ad) w=some al:=a; ?_
 obtain ⟨ch,bf⟩:∃s,s=DH y c d e ad:=⟨_,rfl⟩
 rw [←bf,CQ] at a
 refine Sr<|Vr (.bool (decide (w< (d.length:Int))))<|AA<|Ac<|Cn a (fun ci a=>?_) fun ci a=>?_
 refine WC.skip<|Ac<|Ao<|Sr<|Bi a fun p cj a=>have ck:=Ss Ax az h; ?_
 obtain ⟨cl,cm,er,cn,co,cq,cr,ct,a0⟩:=BX (κ:=Ax) ck cj
 replace a0:BG u aa cl (cm+w.toNat*4) cn:=a0
 obtain ⟨es,rfl,bg⟩:=Bt ct
 obtain ⟨a1,a2,rfl⟩:=AI bg
 refine Vx (Run.indexAddr L2 co rfl cq cr)<|Vx (Run.loadN Dc rfl rfl (BG.part0 a0 [I p.type_,Cx p.num,.bool p.bool,Sl a1 p.list a2] rfl))<|Ef (AY u 21 Ep rfl fun a3 et eu cu am=>?_)
 refine have cv:=Ss Kd.cpx bg am;Eu (St Fe cu rfl rfl rfl rfl fun bh bi an=>?_)
 refine AA<|Au (fun aj bj=>∃(ac:Env) (ao:Col) (a4:Bool),aj=ac.puts [(0,.int .i64 c),(1,.slice ah d.length ai),(4,.pointer (some ⟨av,0,none⟩)),(7,.int .i64 e.2),(25,.slice ah d.length ai),(26,.int .i64 (d.length:Int)),(27,.int .i64 w),(39,.bool a4)]∧He w ch a4=some al∧AO [] a3 bh ao bj) ?_ ?_
 refine AQ<|Vx (Run.fieldAddr0 JB rfl)<|Vx (Run.load1 Fy rfl (Bk.cell bi rfl))<|Vm<|Vr (.bool (p.type_ != e.2))<|Vm<|Bo a (fun ab a=>?_) fun ab a=>?_
 refine Pg ab<|Pg ab<|Pg ab<|Vp ab<|AA<|⟨_,a3,true,Pu,a,(AO.refl [] _ _)⟩
 refine Gx ab (Run.loadN Dc rfl rfl (Bk.part bi 0 [I p.type_,Cx p.num,.bool p.bool,Sl a1 p.list a2] rfl))<|have cw:=Ss Kd.cpx cv an;Bi a fun bk cx a=>Bx (.guard (t:=false) (b:=false) rfl rfl rfl rfl (Cb ab)) rfl rfl (XJ [.agg [I p.type_,Cx p.num,.bool p.bool,Sl a1 p.list a2].toArray] rfl)<|Calls.mono (OU y a3 bh cx (BB (x:=p) cw)) ?_
 rintro _ ew ⟨cy,rfl,cz⟩
 refine ⟨_,rfl,?_⟩
 refine Gr ab (.bool (bk != 0))<|Vp ab<|AA<|⟨_,cy,(bk != 0),Pu,a,(Mo [] cz)⟩
 rintro _ bj ⟨ac,ao,a4,rfl,a,a5⟩
 rw [He] at a
 refine Cn a (fun c0 a=>?_) fun c0 a=>?_
 refine Sr<|Vx (v:=.agg [I 0,Cx (((0,0):Nat×Nat)),.bool false,.slice none 0 0].toArray) (Bp Ep Iq rfl .nil)<|have c1:=Y2 (Y4 ag f g h am) an a5;Eu (St Fe c1 rfl rfl rfl rfl fun ex c2 c3=>?_)
 refine Va (I 3)<|AA<|AZ ?_
 obtain rfl:=AP a
 refine A0 (B:=B) af (D4 rfl (.agg Dc rfl rfl (Bk.part c2 0 [I 0,Cx (((0,0):Nat×Nat)),.bool false,.slice none 0 0] rfl)) (.tmp rfl) ?_)
 exact ⟨ao,[I 0,Cx (((0,0):Nat×Nat)),.bool false,.slice none 0 0],rfl,Ho (T3 (T4 (Mo [20,21] z) f g h am) an a5 c3) ae,(BB (x:=(AG.mk 0 ((0,0):Nat×Nat) false [])) Cd)⟩
 refine WC.skip<|AQ<|Vr (I (Wr (w+1)))<|Vm<|AA<|⟨ad,Nat.lt_succ_self ad,_,ao,(Wr (w+1)),Pu,(bf▸a),(T3 (Mo [21] h) am an a5)⟩
 refine CF<|Sr<|Vm<|Bi a fun q c4 a=>have bl:=Ss Ax az h; ?_
 obtain ⟨c5,c6,ey,c7,bm,bn,bo,c8,ap⟩:=BX (κ:=Ax) bl c4
 replace ap:BG u aa c5 (c6+(0:Int).toNat*4) c7:=ap
 obtain ⟨ez,rfl,c9⟩:=Bt c8
 obtain ⟨e0,e1,rfl⟩:=AI c9
 refine Vx (Run.indexAddr L2 bm rfl bn bo)<|Vx (Run.fieldAddr HQ rfl)<|Vx (Run.load1 HX rfl (BG.cell (k:=1) ap rfl))<|Va (Cx q.num)<|AA<|Ac<|Sr<|Vm<|AA<|Ao<|Sr<|Vr (.bool (c==14))<|Va (.bool (c==14))<|AA<|Cn a (fun da a=>?_) fun da a=>?_
 refine Sr<|Vm<|Vx (Run.indexAddr L2 bm rfl bn bo)<|Vx (Run.fieldAddr J6 rfl)<|Vx (Run.load1 Oz rfl (BG.cell (k:=2) ap rfl))<|Vr (.bool (!q.bool))<|Vx (v:=.agg [I 2,Cx (((0,0):Nat×Nat)),.bool (!q.bool),.slice none 0 0].toArray) (Bp Ep Iq rfl (.cons rfl rfl rfl (.cons rfl rfl rfl .nil)))<|have db:=Y3 ag f g h;Eu (St Fe db rfl rfl rfl rfl fun e2 dc de=>?_)
 refine Va (I 0)<|AA<|AZ ?_
 obtain rfl:=AP a
 refine A0 (B:=B) af (D4 rfl (.agg Dc rfl rfl (Bk.part dc 0 [I 2,Cx (((0,0):Nat×Nat)),.bool (!q.bool),.slice none 0 0] rfl)) (.tmp rfl) ?_)
 exact ⟨u,[I 2,Cx (((0,0):Nat×Nat)),.bool (!q.bool),.slice none 0 0],rfl,Ho (T4 (Mo [20,21] z) f g h de) ae,(BB (x:=(AG.mk 2 ((0,0):Nat×Nat) (!q.bool) [])) Cd)⟩
 refine Sr<|Vr (.bool (c==15))<|Va (.bool (c==15))<|AA<|Cn a (fun df a=>?_) fun df a=>?_
 refine Sr<|Vm<|Vx (v:=Fl q.num.1) (Run.real rfl)<|Vx (v:=Cx ((q.num.1,(0:Nat)))) (Run.complex rfl rfl)<|Bi a fun l dg a=>Ca (NB [Cx ((q.num.1,(0:Nat))),I 0] rfl) (Hv u aa dg) ?_
 rintro _ e3 ⟨dh,e4,rfl,bp,di⟩
 obtain ⟨e5,rfl,bq⟩:=Bt di
 obtain ⟨a6,a7,rfl⟩:=AI bq
 refine ⟨_,rfl,?_⟩
 refine Vr (.agg [I l.1.type_,Cx l.1.num,.bool l.1.bool,Sl a6 l.1.list a7].toArray)<|Vr (I l.2)<|have dj:=Y4 ag f g h bp;Eu (St Fe dj rfl rfl rfl rfl fun e6 dk br=>?_)
 refine Va (I l.2)<|AA<|AZ ?_
 obtain rfl:=AP a
 refine A0 (B:=B) af (D4 rfl (.agg Dc rfl rfl (Bk.part dk 0 [I l.1.type_,Cx l.1.num,.bool l.1.bool,Sl a6 l.1.list a7] rfl)) (.tmp rfl) ?_)
 refine have dl:=Ss Kd.cpx bq br;⟨dh,[I l.1.type_,Cx l.1.num,.bool l.1.bool,Sl a6 l.1.list a7],rfl,Ho (Tn (T4 (Mo [20,21] z) f g h bp) br) ae,(BB (x:=l.1) dl)⟩
 refine Sr<|Vr (.bool (c==16))<|Va (.bool (c==16))<|AA<|Cn a (fun dm a=>?_) fun dm a=>?_
 refine Sr<|Vm<|Vx (v:=Fl q.num.2) (Run.imag rfl)<|Vx (v:=Cx ((q.num.2,(0:Nat)))) (Run.complex rfl rfl)<|Bi a fun m dn a=>Ca (NB [Cx ((q.num.2,(0:Nat))),I 0] rfl) (Hv u aa dn) ?_
 rintro _ e7 ⟨dp,e8,rfl,bt,dq⟩
 obtain ⟨e9,rfl,bu⟩:=Bt dq
 obtain ⟨a8,a9,rfl⟩:=AI bu
 refine ⟨_,rfl,?_⟩
 refine Vr (.agg [I m.1.type_,Cx m.1.num,.bool m.1.bool,Sl a8 m.1.list a9].toArray)<|Vr (I m.2)<|have dr:=Y4 ag f g h bt;Eu (St Fe dr rfl rfl rfl rfl fun fa ds bv=>?_)
 refine Va (I m.2)<|AA<|AZ ?_
 obtain rfl:=AP a
 refine A0 (B:=B) af (D4 rfl (.agg Dc rfl rfl (Bk.part ds 0 [I m.1.type_,Cx m.1.num,.bool m.1.bool,Sl a8 m.1.list a9] rfl)) (.tmp rfl) ?_)
 refine have dt:=Ss Kd.cpx bu bv;⟨dp,[I m.1.type_,Cx m.1.num,.bool m.1.bool,Sl a8 m.1.list a9],rfl,Ho (Tn (T4 (Mo [20,21] z) f g h bt) bv) ae,(BB (x:=m.1) dt)⟩
 refine Sr<|Vr (.bool (c==17))<|Va (.bool (c==17))<|AA<|Cn a (fun du a=>?_) fun du a=>?_
 refine Sr<|Vm<|Bi a fun aq dv a=>Ca (Ym [Cx q.num] rfl) (S9 u aa dv) ?_
 rintro _ dw ⟨dx,rfl,bw⟩
 refine ⟨_,rfl,?_⟩
 refine Vr (Cx aq.1)<|Vr (I aq.2)<|Bi a fun n dy a=>Ca (NB [Cx aq.1,I aq.2] rfl) (Hv dx dw dy) ?_
 rintro _ fb ⟨dz,fc,rfl,bx,d0⟩
 obtain ⟨fd,rfl,bz⟩:=Bt d0
 obtain ⟨ba,bb,rfl⟩:=AI bz
 refine ⟨_,rfl,?_⟩
 refine Vr (.agg [I n.1.type_,Cx n.1.num,.bool n.1.bool,Sl ba n.1.list bb].toArray)<|Vr (I n.2)<|have d1:=Bs (Y4 ag f g h bw) bx;Eu (St Fe d1 rfl rfl rfl rfl fun fe d2 b0=>?_)
 refine Va (I n.2)<|AA<|AZ ?_
 obtain rfl:=AP a
 refine A0 (B:=B) af (D4 rfl (.agg Dc rfl rfl (Bk.part d2 0 [I n.1.type_,Cx n.1.num,.bool n.1.bool,Sl ba n.1.list bb] rfl)) (.tmp rfl) ?_)
 refine have d3:=Ss Kd.cpx bz b0;⟨dz,[I n.1.type_,Cx n.1.num,.bool n.1.bool,Sl ba n.1.list bb],rfl,Ho (T2 (T4 (Mo [20,21] z) f g h bw) bx b0) ae,(BB (x:=n.1) d3)⟩
 refine WC.skip<|Sr<|Vm<|Vm<|Vm<|Bi a fun d4 d5 a=>?_
 obtain ⟨d6,d7,ff,d8,d9,ea,eb,ec,bc⟩:=BX (κ:=Ax) bl d5
 replace bc:BG u aa d6 (d7+(1:Int).toNat*4) d8:=bc
 obtain ⟨fg,rfl,ed⟩:=Bt ec
 obtain ⟨fh,fi,rfl⟩:=AI ed
 refine Vx (Run.indexAddr L2 d9 rfl ea eb)<|Vx (Run.fieldAddr HQ rfl)<|Vx (Run.load1 HX rfl (BG.cell (k:=1) bc rfl))<|Bi a fun o ee a=>Ca (Yn [I c,Cx q.num,Cx d4.num] rfl) (Uw y u aa ee) ?_
 rintro _ fj ⟨ef,fk,rfl,b1,eg⟩
 obtain ⟨fl,rfl,b2⟩:=Bt eg
 obtain ⟨bd,be,rfl⟩:=AI b2
 refine ⟨_,rfl,?_⟩
 refine Vr (.agg [I o.1.type_,Cx o.1.num,.bool o.1.bool,Sl bd o.1.list be].toArray)<|Vr (I o.2)<|have eh:=Y4 ag f g h b1;Eu (St Fe eh rfl rfl rfl rfl fun fm ei b3=>?_)
 refine Va (I o.2)<|AA<|AZ ?_
 obtain rfl:=AP a
 refine A0 (B:=B) af (D4 rfl (.agg Dc rfl rfl (Bk.part ei 0 [I o.1.type_,Cx o.1.num,.bool o.1.bool,Sl bd o.1.list be] rfl)) (.tmp rfl) ?_)
 refine have ej:=Ss Kd.cpx b2 b3;⟨ef,[I o.1.type_,Cx o.1.num,.bool o.1.bool,Sl bd o.1.list be],rfl,Ho (Tn (T4 (Mo [20,21] z) f g h b1) b3) ae,(BB (x:=o.1) ej)⟩
theorem TI(c:Nat):Dq.Spec (Dq c):=by
 intro a d o p q r e f
 refine Calls.mono (SS c (recol (see []) a) d (A3 lbr a) e (DC Ax f [])) ?_
 rintro s u ⟨g,h,l,m,n⟩
 exact ⟨glue [] d a g,h,l,Ah m A2,BA Ax n⟩
def mean_run_look.At(G1 G2:Prop)(c:Col)(a:World)(f:(List AK)→Int→Int→Ae→AD→Nm→Option ((Except Int Ak)×(List AK)×Int×Int))(h:Nat)(ac:Nat):Prop:=
 ∀{l:Nat} {n:(List AK)} {o:Value} {p:Int} {q:Int} {m:Nat} {s:Ae} {w:AD} {y:List Value} {z:Nm} {aa:Value} {d:(Except Int Ak)×(List AK)×Int×Int},f n p q s w z=some d→G1→G2→Bk c a h l [.map (some m),o,I p,I q] 83→Slc AL c.F a o n→Mp c a ac m s→AJ.rep c.F a y w→Fg 89 90 c.F a aa z→
  Calls Tryz.prog 33 #[Pt l 0,.agg y.toArray,aa] a fun ad e=>∃(g:Col) (ab:Value),AO [h] c a g e∧Bk g e h l [.map (some m),ab,I d.2.2.1,I d.2.2.2] 83∧Slc AL g.F e ab d.2.1∧D8 33 d.1 ad (fun r v=>∃u:List Value,v=.agg u.toArray∧GI.rep g.F e u r)
def mean_run_look.Spec(f:(List AK)→Int→Int→Ae→AD→Nm→Option ((Except Int Ak)×(List AK)×Int×Int)):Prop:=
 ∀(d:Col) (e:World) {a:Nat} {c:Nat},mean_run_look.At ([a,c].Nodup) (0∉[a,c]) d e f a c
def mean_later_1.At(G1 G2:Prop)(c:Col)(a:World)(f:(List AK)→Int→Int→Ae→AD→Nm→Option ((Except Int Ak)×(List AK)×Int×Int))(h:Nat)(ae:Nat):Prop:=
 ∀{l:Nat} {n:(List AK)} {o:Value} {p:Int} {q:Int} {m:Nat} {s:Ae} {w:AD} {y:Nat} {z:List Value} {aa:Nm} {ab:Nat} {ac:Value} {d:(Except Int Ak)×(List AK)×Int×Int},f n p q s w aa=some d→G1→G2→Bk c a h l [.map (some m),o,I p,I q] 83→Slc AL c.F a o n→Mp c a ae m s→BG c a y 0 z→AJ.rep c.F a z w→BG c a ab 0 [ac]→Fg 89 90 c.F a ac aa→
  Calls Tryz.prog 90 #[Pt l 0,Pt y 0,Pt ab 0] a fun af e=>∃(g:Col) (ad:Value),AO [h] c a g e∧Bk g e h l [.map (some m),ad,I d.2.2.1,I d.2.2.2] 83∧Slc AL g.F e ad d.2.1∧D8 33 d.1 af (fun r v=>∃u:List Value,v=.agg u.toArray∧GI.rep g.F e u r)
def mean_later_1.Spec(f:(List AK)→Int→Int→Ae→AD→Nm→Option ((Except Int Ak)×(List AK)×Int×Int)):Prop:=
 ∀(d:Col) (e:World) {a:Nat} {c:Nat},mean_later_1.At ([a,c].Nodup) (0∉[a,c]) d e f a c
def mean_callth.Spec(f:(List AK)→Int→Int→Ae→Th→Option ((Except Int Ak)×(List AK)×Int×Int)):Prop:=
 ∀(c:Col) (a:World) {m:Nat} {d:Nat} {p:(List AK)} {q:Value} {s:Int} {w:Int} {n:Nat} {o:Nat} {y:Ae} {z:Th} {aa:Value} {e:(Except Int Ak)×(List AK)×Int×Int},f p s w y z=some e→[d,o].Nodup→0∉[d,o]→Bk c a d m [.map (some n),q,I s,I w] 83→Slc AL c.F a q p→Mp c a o n y→MTh 89 90 c.F a aa z→
  ∃g caps,ABd Tryz.prog aa g caps∧Calls Tryz.prog g ([Pt m 0]++caps:List Value).toArray a fun ac h=>∃(l:Col) (ab:Value),AO [d] c a l h∧Bk l h d m [.map (some n),ab,I e.2.2.1,I e.2.2.2] 83∧Slc AL l.F h ab e.2.1∧D8 33 e.1 ac (fun r v=>∃u:List Value,v=.agg u.toArray∧GI.rep l.F h u r)
def mean_run_parts.At(G1 G2:Prop)(c:Col)(a:World)(f:(List AK)→Int→Int→Ae→AD→Nm→Option ((Except Int Ak)×(List AK)×Int×Int))(h:Nat)(ac:Nat):Prop:=
 ∀{l:Nat} {n:(List AK)} {o:Value} {p:Int} {q:Int} {m:Nat} {s:Ae} {w:AD} {y:List Value} {z:Nm} {aa:Value} {d:(Except Int Ak)×(List AK)×Int×Int},f n p q s w z=some d→G1→G2→Bk c a h l [.map (some m),o,I p,I q] 83→Slc AL c.F a o n→Mp c a ac m s→AJ.rep c.F a y w→Fg 89 90 c.F a aa z→
  Calls Tryz.prog 58 #[Pt l 0,.agg y.toArray,aa] a fun ad e=>∃(g:Col) (ab:Value),AO [h] c a g e∧Bk g e h l [.map (some m),ab,I d.2.2.1,I d.2.2.2] 83∧Slc AL g.F e ab d.2.1∧D8 33 d.1 ad (fun r v=>∃u:List Value,v=.agg u.toArray∧GI.rep g.F e u r)
def mean_run_parts.Spec(f:(List AK)→Int→Int→Ae→AD→Nm→Option ((Except Int Ak)×(List AK)×Int×Int)):Prop:=
 ∀(d:Col) (e:World) {a:Nat} {c:Nat},mean_run_parts.At ([a,c].Nodup) (0∉[a,c]) d e f a c
structure AT.Good(a:AT):Prop where
 mean_run_look:mean_run_look.Spec a.mean_run_look
 mean_later_1:mean_later_1.Spec a.mean_later_1
 mean_callth:mean_callth.Spec a.mean_callth
 mean_run_parts:mean_run_parts.Spec a.mean_run_parts
theorem Pf(ar:AT)(bn:Nat)(ca:AT.Good ar)(cb:Col)(ez:World)(y:∀b,cb b<10):mean_run_look.At True True cb ez (A7 ar bn) 1 2:=by
 intro ah z ke au a1 kf av d kg aj ad bo a _ _ da ae cc e0 a2
 rw [A7] at a
 obtain ⟨a3,a4,rfl⟩:=AI ae
 obtain ⟨kh,rfl,bp⟩:=Am e0
 obtain ⟨db,dc,rfl⟩:=AI bp
 refine A5 Tryz.func33 rfl Tryz.ntmps33 rfl fun B aa e=>Sr<|Ef (By cb 20 rfl rfl fun e1 ki cd de m=>?_)
 refine Ef (AY e1 21 Jj rfl fun bq e2 cf aw l=>?_)
 refine AA<|Au (fun bf df=>∃(ax:Env) (n:Col),bf=ax.puts [(0,.pointer (some ⟨ah,0,none⟩)),(2,ad),(4,.pointer (some ⟨cd,0,none⟩)),(6,.pointer (some ⟨cf,0,none⟩))]∧CG ar bn z au a1 av d aj=some bo∧AO [] bq e2 n df) ?_ ?_
 refine Ac<|Cc Ff (.q 0 (.q 1 (.q 2 (.q 3 (.q 4 (.q 5 (.q 6 (.q 7 (.q 8 .nil))))))))) [] [] bq (by kernel_rfl) fun kj br=>Qx e rfl (v:=Pt ah 0) (fun _ ⟨_,c⟩=>Run.move rfl)<|Qx e rfl (fun _ ⟨_,c⟩=>Run.nilCheck rfl)<|Qx e rfl (fun _ ⟨_,c⟩=>Run.fieldAddr OB rfl)<|have cg:=Y3 da m l br;Qx e rfl (fun _ ⟨_,c⟩=>Run.load1 Be rfl (Bk.cell (Bs cg c) rfl))<|Qx e rfl (v:=Pt ah 0) (fun _ ⟨_,c⟩=>Run.move rfl)<|Qx e rfl (fun _ ⟨_,c⟩=>Run.nilCheck rfl)<|Qx e rfl (fun _ ⟨_,c⟩=>Run.fieldAddr Xa rfl)<|Qx e rfl (fun _ ⟨_,c⟩=>Run.load1 Be rfl (Bk.cell (Bs cg c) rfl))<|Qx e rfl (v:=.bool (decide (au≥a1))) (fun _ ⟨_,c⟩=>rfl)<|Ex<|Cn a (fun e3 a=>?_) fun e3 a=>?_
 refine AQ<|Vr (.iface 33 (I 60))<|Rh (.none rfl) (P4 rfl)<|have e4:=K3 AL ae m l br; ?_
 obtain rfl:=AP a
 refine M3 (B:=B) aa<|⟨bq,Sl a3 z a4,Ho (T2 (Mo [] m) l br) y,cg,e4,Fk⟩
 refine WC.skip<|⟨_,bq,Pu,a,(Mo [] br)⟩
 rintro _ df ⟨ax,n,rfl,a,f⟩
 rw [CG] at a
 refine Sr<|Vm<|Vx (Run.nilCheck rfl)<|Vx (Run.fieldAddr OB rfl)<|have dg:=Y3 da m l f;Vx (Run.load1 Be rfl (Bk.cell dg rfl))<|Vr (I (Wr (au+1)))<|Vx (Run.nilCheck rfl)<|Vx (Run.fieldAddr OB rfl)<|Eu (St Lz dg rfl rfl rfl rfl fun dh ak g=>?_)
 refine AA<|Au (fun bf ch=>∃(ax:Env) (ci:Col),bf=ax.puts [(0,.pointer (some ⟨ah,0,none⟩)),(2,ad),(4,.pointer (some ⟨cd,0,none⟩)),(6,.pointer (some ⟨cf,0,none⟩))]∧Jo ar z au a1 av d aj=some bo∧AO [] n dh ci ch) ?_ ?_
 refine Sr<|Vx (Run.fieldAddr0 GJ rfl)<|have bg:=Y3 de l f g;Vx (Run.load1 Kl rfl (Bk.cell bg rfl))<|AA<|Ao<|Sr<|Vr (.bool (d.op==1))<|Va (.bool (d.op==1))<|AA<|Cn a (fun e5 a=>?_) fun e5 a=>?_
 refine Sr<|Vx (Run.fieldAddr XU rfl)<|Vx (Run.load1 HX rfl (Bk.cell bg rfl))<|Vx (v:=.agg [I 1,Cx d.num,.bool false,.slice none 0 0].toArray) (Bp Ep Iq rfl (.cons rfl rfl rfl (.cons rfl rfl rfl .nil)))<|Vx (v:=.agg [I 1,Cx d.num,.bool false,.slice none 0 0,.nilFunc,.nilFunc].toArray) (Bp Jj Md rfl (.cons rfl rfl rfl .nil))<|have e6:=Y2 aw f g;Eu (St IP e6 rfl rfl rfl rfl fun kk e7 cj=>?_)
 refine AA<|AZ ?_
 obtain rfl:=AP a
 refine A0 (B:=B) aa (BQ rfl (.agg In rfl rfl (Bk.part e7 0 [I 1,Cx d.num,.bool false,.slice none 0 0,.nilFunc,.nilFunc] rfl)) ?_)
 refine have e8:=Bs ak cj;have e9:=Ss AL (K4 AL ae m l f g) cj;⟨n,Sl a3 z a4,Ho (T4 (Mo [1,21] m) l f g cj) y,e8,e9,Ej ⟨[I 1,Cx d.num,.bool false,.slice none 0 0,.nilFunc,.nilFunc],rfl,(CS (x:=(Ak.mk (AG.mk 1 d.num false []) Th.nil Th.nil)) Cd MTh.nil MTh.nil)⟩⟩
 refine Sr<|Vr (.bool (d.op==2))<|Va (.bool (d.op==2))<|AA<|Cn a (fun fa a=>?_) fun fa a=>?_
 refine Sr<|Vx (v:=.agg [I 2,Cx (((0,0):Nat×Nat)),.bool true,.slice none 0 0].toArray) (Bp Ep Iq rfl (.cons rfl rfl rfl (.cons rfl rfl rfl .nil)))<|Vx (v:=.agg [I 2,Cx (((0,0):Nat×Nat)),.bool true,.slice none 0 0,.nilFunc,.nilFunc].toArray) (Bp Jj Md rfl (.cons rfl rfl rfl .nil))<|have fb:=Y2 aw f g;Eu (St IP fb rfl rfl rfl rfl fun kl fc ck=>?_)
 refine AA<|AZ ?_
 obtain rfl:=AP a
 refine A0 (B:=B) aa (BQ rfl (.agg In rfl rfl (Bk.part fc 0 [I 2,Cx (((0,0):Nat×Nat)),.bool true,.slice none 0 0,.nilFunc,.nilFunc] rfl)) ?_)
 refine have fd:=Bs ak ck;have fe:=Ss AL (K4 AL ae m l f g) ck;⟨n,Sl a3 z a4,Ho (T4 (Mo [1,21] m) l f g ck) y,fd,fe,Ej ⟨[I 2,Cx (((0,0):Nat×Nat)),.bool true,.slice none 0 0,.nilFunc,.nilFunc],rfl,(CS (x:=(Ak.mk (AG.mk 2 ((0,0):Nat×Nat) true []) Th.nil Th.nil)) Cd MTh.nil MTh.nil)⟩⟩
 refine Sr<|Vr (.bool (d.op==3))<|Va (.bool (d.op==3))<|AA<|Cn a (fun ff a=>?_) fun ff a=>?_
 refine Sr<|Vx (v:=.agg [I 2,Cx (((0,0):Nat×Nat)),.bool false,.slice none 0 0].toArray) (Bp Ep Iq rfl (.cons rfl rfl rfl .nil))<|Vx (v:=.agg [I 2,Cx (((0,0):Nat×Nat)),.bool false,.slice none 0 0,.nilFunc,.nilFunc].toArray) (Bp Jj Md rfl (.cons rfl rfl rfl .nil))<|have fg:=Y2 aw f g;Eu (St IP fg rfl rfl rfl rfl fun km fh cl=>?_)
 refine AA<|AZ ?_
 obtain rfl:=AP a
 refine A0 (B:=B) aa (BQ rfl (.agg In rfl rfl (Bk.part fh 0 [I 2,Cx (((0,0):Nat×Nat)),.bool false,.slice none 0 0,.nilFunc,.nilFunc] rfl)) ?_)
 refine have fi:=Bs ak cl;have fj:=Ss AL (K4 AL ae m l f g) cl;⟨n,Sl a3 z a4,Ho (T4 (Mo [1,21] m) l f g cl) y,fi,fj,Ej ⟨[I 2,Cx (((0,0):Nat×Nat)),.bool false,.slice none 0 0,.nilFunc,.nilFunc],rfl,(CS (x:=(Ak.mk (AG.mk 2 ((0,0):Nat×Nat) false []) Th.nil Th.nil)) Cd MTh.nil MTh.nil)⟩⟩
 refine Sr<|Vr (.bool (d.op==4))<|Va (.bool (d.op==4))<|AA<|Cn a (fun fk a=>?_) fun fk a=>?_
 refine Sr<|Vx (v:=.agg [I 3,Cx (((0,0):Nat×Nat)),.bool false,.slice none 0 0].toArray) (Bp Ep Iq rfl (.cons rfl rfl rfl .nil))<|Vx (v:=.agg [I 3,Cx (((0,0):Nat×Nat)),.bool false,.slice none 0 0,.nilFunc,.nilFunc].toArray) (Bp Jj Md rfl (.cons rfl rfl rfl .nil))<|have fl:=Y2 aw f g;Eu (St IP fl rfl rfl rfl rfl fun kn fm cm=>?_)
 refine AA<|AZ ?_
 obtain rfl:=AP a
 refine A0 (B:=B) aa (BQ rfl (.agg In rfl rfl (Bk.part fm 0 [I 3,Cx (((0,0):Nat×Nat)),.bool false,.slice none 0 0,.nilFunc,.nilFunc] rfl)) ?_)
 refine have fn:=Bs ak cm;have fo:=Ss AL (K4 AL ae m l f g) cm;⟨n,Sl a3 z a4,Ho (T4 (Mo [1,21] m) l f g cm) y,fn,fo,Ej ⟨[I 3,Cx (((0,0):Nat×Nat)),.bool false,.slice none 0 0,.nilFunc,.nilFunc],rfl,(CS (x:=(Ak.mk (AG.mk 3 ((0,0):Nat×Nat) false []) Th.nil Th.nil)) Cd MTh.nil MTh.nil)⟩⟩
 refine Sr<|Vr (.bool (d.op==5))<|Va (.bool (d.op==5))<|AA<|Cn a (fun fp a=>?_) fun fp a=>?_
 refine AQ<|Vr (.iface 33 (I 52))<|Rh (.none rfl) (P4 rfl)<|have fq:=K4 AL ae m l f g; ?_
 obtain rfl:=AP a
 refine M3 (B:=B) aa<|⟨n,Sl a3 z a4,Ho (T3 (Mo [1] m) l f g) y,ak,fq,Fk⟩
 refine Sr<|Vr (.bool (d.op==6))<|Va (.bool (d.op==6))<|AA<|Cn a (fun fr a=>?_) fun fr a=>?_
 refine Sr<|Vm<|Vx (Run.fieldAddr HR rfl)<|Vx (Run.load1 De rfl (Bk.cell bg rfl))<|have fs:=Me (Me (Me (Me a2 m) l) f) g;Bi a fun ko ft a=>Ca (AAH [ad,Sb d.name] rfl) (PB bn n dh ft fs) ?_
 rintro _ fu ⟨fv,kp,rfl,a8,fw⟩
 refine ⟨_,rfl,?_⟩
 refine Vm<|have fx:=Bs ak a8;have fy:=Ss AL (K4 AL ae m l f g) a8;have fz:=Ms (Ms (Ms (Ms (Ms cc m) l) f) g) a8;Bi a fun di f0 a=>?_
 obtain ⟨kq,kr,f1,f2⟩:=ca.mean_callth fv fu f0 dcd dcd fx fy fz fw
 refine Hh (.none rfl) rfl rfl (f1 (vs:=[Pt ah 0]) rfl rfl)<|Calls.mono f2 ?_
 rintro _ ks ⟨dj,kt,cn,dk,co,f3⟩
 obtain ⟨dl,dm,rfl⟩:=AI co
 obtain ⟨ku,f4,rfl⟩| ⟨o,f5,kv,rfl,kw,rfl,f6⟩:=D8.split f3
 refine have a:=Dg a f4; .inl ⟨_,rfl,?_⟩
 obtain rfl:=AP a
 refine M3 (B:=B) aa<|⟨dj,Sl dl di.2.1 dm,Ho (Tn (T4 (Mo [1] m) l f g a8) cn) y,dk,co,Fk⟩
 refine have a:=GG a f5; ?_
 obtain ⟨kx,bt,bu,rfl,cq,dn,dp⟩:=DE f6
 obtain ⟨bv,bw,rfl⟩:=AI cq
 refine .inr ⟨_,rfl,?_⟩
 refine have f7:=Y4 aw f g a8 cn;Eu (Bf (vs:=[I o.plain.type_,Cx o.plain.num,.bool o.plain.bool,Sl bv o.plain.list bw,bt,bu]) (cs':=[I o.plain.type_,Cx o.plain.num,.bool o.plain.bool,Sl bv o.plain.list bw,bt,bu]) IP rfl rfl rfl rfl (AU rfl (AU rfl (AU rfl (AU (FK cq) (AU (MTh.one dn) (AU (MTh.one dp) CI)))))) f7 dcd rfl rfl fun ky f8 a9=>?_)
 refine AA<|AZ ?_
 obtain rfl:=AP a
 refine A0 (B:=B) aa (BQ rfl (.agg In rfl rfl (Bk.part f8 0 [I o.plain.type_,Cx o.plain.num,.bool o.plain.bool,Sl bv o.plain.list bw,bt,bu] rfl)) ?_)
 refine have f9:=Ss Kd.cpx cq a9;have ga:=Mt dn a9;have gb:=Mt dp a9;have gc:=Bs dk a9;have gd:=Ss AL co a9;⟨dj,Sl dl di.2.1 dm,Ho (T2 (T4 (Mo [1,21] m) l f g a8) cn a9) y,gc,gd,Ej ⟨[I o.plain.type_,Cx o.plain.num,.bool o.plain.bool,Sl bv o.plain.list bw,bt,bu],rfl,(CS (x:=o) f9 ga gb)⟩⟩
 refine Sr<|Vr (.bool (d.op==7))<|Va (.bool (d.op==7))<|AA<|Cn a (fun ge a=>?_) fun ge a=>?_
 refine Ac<|Cc Ff (.q 0 (.q 1 (.q 2 (.q 3 (.q 4 (.q 5 (.q 6 (.q 7 (.q 8 (.q 9 (.q 10 (.q 11 (.q 12 (.one 13 (.one 14 .nil))))))))))))))) [14] [] n (by kernel_rfl) fun gf al=>Qx e rfl (v:=Pt ah 0) (fun _ ⟨_,c⟩=>Run.move rfl)<|Qx e rfl (fun _ ⟨_,c⟩=>Run.nilCheck rfl)<|Qx e rfl (fun _ ⟨_,c⟩=>Run.fieldAddr XZ rfl)<|have cr:=Bs ak al;Qx e rfl (fun _ ⟨_,c⟩=>Run.load1 Ji rfl (Bk.cell (Bs cr c) rfl))<|Qx e rfl (v:=Pt ah 0) (fun _ ⟨_,c⟩=>Run.move rfl)<|Qx e rfl (fun _ ⟨_,c⟩=>Run.nilCheck rfl)<|Qx e rfl (fun _ ⟨_,c⟩=>Run.fieldAddr0 Rp rfl)<|Qx e rfl (fun _ ⟨_,c⟩=>Run.load1 OF rfl (Bk.cell (Bs cr c) rfl))<|Qx e rfl (fun _ ⟨_,c⟩=>Run.fieldAddr HR rfl)<|have dq:=Bs bg al;Qx e rfl (fun _ ⟨_,c⟩=>Run.load1 De rfl (Bk.cell (Bs dq c) rfl))<|have dr:=Ms (Ms (Ms (Ms (Ms cc m) l) f) g) al;Qx e rfl (v:=I (CJ av d.name)) (fun _ ⟨_,c⟩=>Ix Jv rfl rfl (Ms dr c))<|Bi a fun h gg a=>have ds:=Ss AL (K4 AL ae m l f g) al; ?_
 obtain ⟨gh,gi,kz,gj,gk,gl,gm,gn,ct⟩:=BX (κ:=AL) ds gg
 replace ct:BG n gf gh (gi+((CJ av d.name)).toNat*11) gj:=ct
 obtain ⟨k0,k1,rfl,dt,du⟩:=F4 gn
 obtain ⟨dv,dw,rfl⟩:=AI dt
 obtain ⟨cu,cv,rfl⟩:=AI du
 refine Qx e rfl (fun _ ⟨_,c⟩=>Run.indexAddr I3 gk rfl gl gm)<|Qx e rfl (fun _ ⟨_,c⟩=>Run.loadN M9 rfl rfl (BG.part0 (Es ct c) [Sb h.name,Sl dv h.params dw,I h.type_,I h.body.op,Sb h.body.name,Sb h.body.tail,I h.body.type_,Cx h.body.num,Sl cu h.body.args cv,I h.body.at_,I h.at_] rfl))<|BW rfl<|DL rfl (.none rfl) rfl rfl (AY n 22 L3 rfl fun dx k2 go gp ac=>?_)
 refine ⟨⟨_,(Mo [] ac)⟩,?_⟩
 refine E0 dcd<|WY.one<|have gq:=Ss Ai dt ac;have gr:=Ss AJ du ac;BT rfl (.none rfl) rfl (St ND gp rfl rfl rfl rfl fun gs dy af=>?_)
 refine WY.nil<|Sr<|Va (.pointer none)<|AA<|Ac<|Sr<|Vx (Run.fieldAddr Io rfl)<|Vx (Run.load1 HY rfl (Bk.cell dy rfl))<|have dz:=Ss Ai gq af; ?_
 obtain ⟨k3,k4,gt⟩:=AI dz
 refine Vx (v:=I (h.params.length:Int)) (Run.lenSlc G9 gt)<|Vm<|AA<|Ao<|CZ (fun ay bf bh=>∃(ax:Env) (ba:Col) (bi:Nm) (a5:Value) (ag:Int),bf=ax.puts [(0,.pointer (some ⟨ah,0,none⟩)),(2,ad),(4,.pointer (some ⟨cd,0,none⟩)),(6,.pointer (some ⟨cf,0,none⟩)),(7,.pointer (some ⟨go,0,none⟩)),(8,a5),(75,.slice dv h.params.length dw),(76,.int .i64 (h.params.length:Int)),(77,.int .i64 ag)]∧Fb ar z au a1 av d aj h ay bi ag=some bo∧AO [23,24,25,26] dx gs ba bh∧Fg 89 90 ba.F bh a5 bi) bn ?_ ?_
 exact ⟨_,dx,Nm.nil,.pointer none,0,Pu,a,(AO.refl [23,24,25,26] _ _),Fg.nil⟩
 rintro ay _ bh ⟨ax,ba,bi,a5,ag,rfl,a,ab,cw⟩
 rcases ay with _|ay
 exact BK a
 refine have a:H8 ar z au a1 av d aj h (Fb ar z au a1 av d aj h ay) bi ag=some bo:=a; ?_
 obtain ⟨k5,d0⟩:∃s,s=Fb ar z au a1 av d aj h ay:=⟨_,rfl⟩
 rw [←d0,H8] at a
 refine Sr<|Vr (.bool (decide (ag< (h.params.length:Int))))<|AA<|Ac<|Cn a (fun gu a=>?_) fun gu a=>?_
 refine WC.skip<|Ac<|Ao<|Sr<|Vm<|Bi a fun bb gv a=>have gw:=Ss Ai dz ab; ?_
 obtain ⟨gx,gy,k6,gz,g0,g1,g2,g3,cx⟩:=BX (κ:=Ai) gw gv
 replace cx:BG ba bh gx (gy+ag.toNat*3) gz:=cx
 obtain rfl:=Iy g3
 refine Vx (Run.indexAddr G9 g0 rfl g1 g2)<|Vx (Run.loadN VS rfl rfl (BG.part0 cx [Sb bb.name,I bb.type_,I bb.at_] rfl))<|Ef (AY ba 23 LU rfl fun cy k7 k8 g4 bj=>?_)
 refine Va (I ag)<|Eu (St Ve g4 rfl rfl rfl rfl fun k9 g5 bk=>?_)
 refine AA<|Cc Ff (.q 0 (.q 1 (.q 2 (.q 3 (.q 4 (.q 5 (.q 6 (.q 7 (.q 9 (.one 8 (.q 10 (.one 11 (.q 12 .nil))))))))))))) [] [24,25] cy (by kernel_rfl) fun d1 bc=>Qx e rfl (fun _ ⟨_,c⟩=>Run.fieldAddr0 OC rfl)<|have g6:=Bs g5 bc;Qx e rfl (fun _ ⟨_,c⟩=>Run.load1 De rfl (Bk.cell (Bs g6 c) rfl))<|Qx e rfl (fun _ ⟨_,c⟩=>Run.fieldAddr B6 rfl)<|have g7:=Y2 (Y4 dq ac af ab bj) bk bc;Qx e rfl (fun _ ⟨_,c⟩=>Run.load1 Ez rfl (Bk.cell (Bs g7 c) rfl))<|Qx e rfl (v:=I ag) (fun _ ⟨_,c⟩=>Run.move rfl)<|Bi a fun r g8 a=>have g9:=K3 AJ (K4 AJ (K4 AJ bp m l f g) al ac af ab) bj bk bc; ?_
 obtain ⟨ha,hb,la,hc,hd,he,hf,hg,cz⟩:=BX (κ:=AJ) g9 g8
 replace cz:BG cy d1 ha (hb+ag.toNat*7) hc:=cz
 obtain ⟨lb,rfl,d2⟩:=Am hg
 obtain ⟨d3,d4,rfl⟩:=AI d2
 refine Qx e rfl (fun _ ⟨_,c⟩=>Run.indexAddr Dx hd rfl he hf)<|Qx e rfl (fun _ ⟨_,c⟩=>Run.loadN BL rfl rfl (BG.part0 (Es cz c) [I r.op,Sb r.name,Sb r.tail,I r.type_,Cx r.num,Sl d3 r.args d4,I r.at_] rfl))<|Qx e rfl (v:=ad) (fun _ ⟨_,c⟩=>Run.move rfl)<|Qx e rfl (v:=a5) (fun _ ⟨_,c⟩=>Run.move rfl)<|BW rfl<|Bi a fun am hh a=>BN rfl (.none rfl) rfl rfl (Tw [.agg [I r.op,Sb r.name,Sb r.tail,I r.type_,Cx r.num,Sl d3 r.args d4,I r.at_].toArray,ad] rfl)<|Calls.mono (LD cy d1 (kn0:=24) (kn1:=25) hh dcd dcd (Ag (x:=r) d2) (Fg.one a2)) ?_
 rintro _ lc ⟨hi,d5,d6,ld,rfl,bl,hj,hk,hl⟩
 obtain ⟨le,rfl,d7⟩:=Am hk
 obtain ⟨hm,hn,rfl⟩:=AI d7
 refine ⟨_,rfl,⟨_,(Mo [24,25] bl)⟩,?_⟩
 refine Qx e rfl (v:=.agg [Sb bb.name,.func (.func 90) #[] [Pt d5 0,Pt d6 0].toArray,a5].toArray) (fun _ ⟨_,c⟩=>GK (cs:=[Sb bb.name,.func (.func 90) #[] [Pt d5 0,Pt d6 0].toArray,a5]) [Sb ([]:List UInt8),.nilFunc,.pointer none] QF QD rfl (.cons rfl rfl rfl (.cons rfl rfl rfl (.cons rfl (H1 (Fg.one cw)) rfl .nil))) rfl rfl)<|BW rfl<|DL rfl (.none rfl) rfl rfl (By hi 26 rfl rfl fun lf lg d8 ho a6=>?_)
 refine ⟨⟨_,(Tn (Mo [24,25] bl) a6)⟩,?_⟩
 refine Qx e rfl (v:=Pt d8 0) (fun _ ⟨_,c⟩=>Run.assign rfl)<|Ex<|AQ<|Vr (I (Wr (ag+1)))<|Vm<|AA<|have hp:=Ss AJ d7 a6;have hq:=Bs hj a6;have hr:=Bs hl a6;have hs:=Me (Me (Me (Me (Me (Me (Me (Me (Me (Me (Me (Me (Me a2 m) l) f) g) al) ac) af) ab) bj) bk) bc) bl) a6; ?_
 obtain ⟨lh,c0,ht⟩:=MTh.layLater (D:=89) (ce:=[I am.op,Sb am.name,Sb am.tail,I am.type_,Cx am.num,Sl hm am.args hn,I am.at_]) hq hr dcd (Ag (x:=am) hp) hs
 refine have hu:=Bs ho c0;have hw:=Me (Me (Me (Me (Me (Me cw bj) bk) bc) bl) a6) c0; ?_
 obtain ⟨hx,hy,hz⟩:=Fg.lay hu dcd ht hw
 exact ⟨ay,Nat.lt_succ_self ay,_,hx,(Nm.bind bb.name (Th.later am aj) bi),Pt d8 0,(Wr (ag+1)),Pu,(d0▸a),(T3 (T4 (Mo [23,24,25,26] ab) bj bk bc bl) a6 c0 hy),hz⟩
 refine CF<|Sr<|Vm<|Vx (Run.fieldAddr OA rfl)<|have h0:=Bs dy ab;Vx (Run.loadN BL rfl rfl (Bk.part h0 3 [I h.body.op,Sb h.body.name,Sb h.body.tail,I h.body.type_,Cx h.body.num,Sl cu h.body.args cv,I h.body.at_] rfl))<|Vm<|have h1:=Y3 cr ac af ab;have h2:=K3 AL ds ac af ab;have h3:=Ms (Ms (Ms dr ac) af) ab;have h4:=K2 AJ gr af ab;Bi a fun d9 h5 a=>Hh (.none rfl) rfl rfl (K0 [Pt ah 0,.agg [I h.body.op,Sb h.body.name,Sb h.body.tail,I h.body.type_,Cx h.body.num,Sl cu h.body.args cv,I h.body.at_].toArray,a5] rfl)<|Calls.mono (ca.mean_run_look ba bh h5 dcd dcd h1 h2 h3 (Ag (x:=(AD.mk h.body.op h.body.name h.body.tail h.body.type_ h.body.num h.body.args h.body.at_)) h4) cw) ?_
 rintro _ li ⟨ea,lj,c1,eb,c2,h6⟩
 obtain ⟨ec,ed,rfl⟩:=AI c2
 obtain ⟨lk,h7,rfl⟩| ⟨p,h8,ll,rfl,lm,rfl,h9⟩:=D8.split h6
 refine have a:=Dg a h7; .inl ⟨_,rfl,?_⟩
 obtain rfl:=AP a
 refine M3 (B:=B) aa<|⟨ea,Sl ec d9.2.1 ed,Ho (T4 (T4 (Mo [1,22,23,24,25,26] m) l f g al) ac af ab c1) y,eb,c2,Fk⟩
 refine have a:=GG a h8; ?_
 obtain ⟨ln,bx,bz,rfl,c3,ee,ef⟩:=DE h9
 obtain ⟨b0,b1,rfl⟩:=AI c3
 refine .inr ⟨_,rfl,?_⟩
 refine have ia:=Y3 (Y4 aw f g al ac) af ab c1;Eu (Bf (vs:=[I p.plain.type_,Cx p.plain.num,.bool p.plain.bool,Sl b0 p.plain.list b1,bx,bz]) (cs':=[I p.plain.type_,Cx p.plain.num,.bool p.plain.bool,Sl b0 p.plain.list b1,bx,bz]) IP rfl rfl rfl rfl (AU rfl (AU rfl (AU rfl (AU (FK c3) (AU (MTh.one ee) (AU (MTh.one ef) CI)))))) ia dcd rfl rfl fun lo ib bd=>?_)
 refine AA<|AZ ?_
 obtain rfl:=AP a
 refine A0 (B:=B) aa (BQ rfl (.agg In rfl rfl (Bk.part ib 0 [I p.plain.type_,Cx p.plain.num,.bool p.plain.bool,Sl b0 p.plain.list b1,bx,bz] rfl)) ?_)
 refine have ic:=Ss Kd.cpx c3 bd;have id:=Mt ee bd;have ie:=Mt ef bd;have ig:=Bs eb bd;have ih:=Ss AL c2 bd;⟨ea,Sl ec d9.2.1 ed,Ho (Tn (T4 (T4 (Mo [1,21,22,23,24,25,26] m) l f g al) ac af ab c1) bd) y,ig,ih,Ej ⟨[I p.plain.type_,Cx p.plain.num,.bool p.plain.bool,Sl b0 p.plain.list b1,bx,bz],rfl,(CS (x:=p) ic id ie)⟩⟩
 refine Sr<|Vr (.bool (d.op==18))<|Va (.bool (d.op==18))<|AA<|Cn a (fun ii a=>?_) fun ii a=>?_
 refine Ac<|Cc Ff (.q 0 (.q 1 (.q 2 (.q 3 (.q 4 (.q 6 (.q 7 (.q 8 (.q 9 (.q 10 (.one 5 (.one 11 (.q 12 (.one 13 .nil)))))))))))))) [13] [27,28,29,30] n (by kernel_rfl) fun c4 a7=>Qx e rfl (fun _ ⟨_,c⟩=>Run.fieldAddr B6 rfl)<|have eg:=Bs bg a7;Qx e rfl (fun _ ⟨_,c⟩=>Run.load1 Ez rfl (Bk.cell (Bs eg c) rfl))<|Bi a fun u ij a=>have eh:=Ss AJ (K4 AJ bp m l f g) a7; ?_
 obtain ⟨ik,il,lp,im,io,ip,iq,ir,c5⟩:=BX (κ:=AJ) eh ij
 replace c5:BG n c4 ik (il+(0:Int).toNat*7) im:=c5
 obtain ⟨lq,rfl,ei⟩:=Am ir
 obtain ⟨ej,ek,rfl⟩:=AI ei
 refine Qx e rfl (fun _ ⟨_,c⟩=>Run.indexAddr Dx io rfl ip iq)<|Qx e rfl (fun _ ⟨_,c⟩=>Run.loadN BL rfl rfl (BG.part0 (Es c5 c) [I u.op,Sb u.name,Sb u.tail,I u.type_,Cx u.num,Sl ej u.args ek,I u.at_] rfl))<|Qx e rfl (v:=ad) (fun _ ⟨_,c⟩=>Run.move rfl)<|Qx e rfl (fun _ ⟨_,c⟩=>Run.fieldAddr B6 rfl)<|Qx e rfl (fun _ ⟨_,c⟩=>Run.load1 Ez rfl (Bk.cell (Bs eg c) rfl))<|Bi a fun w it a=>?_
 obtain ⟨iu,iv,lr,iw,ix,iy,iz,i0,c6⟩:=BX (κ:=AJ) eh it
 replace c6:BG n c4 iu (iv+(1:Int).toNat*7) iw:=c6
 obtain ⟨ls,rfl,el⟩:=Am i0
 obtain ⟨em,en,rfl⟩:=AI el
 refine Qx e rfl (fun _ ⟨_,c⟩=>Run.indexAddr Dx ix rfl iy iz)<|Qx e rfl (fun _ ⟨_,c⟩=>Run.loadN BL rfl rfl (BG.part0 (Es c6 c) [I w.op,Sb w.name,Sb w.tail,I w.type_,Cx w.num,Sl em w.args en,I w.at_] rfl))<|Qx e rfl (v:=ad) (fun _ ⟨_,c⟩=>Run.move rfl)<|BW rfl<|Bi a fun an i1 a=>BN rfl (.none rfl) rfl rfl (Tw [.agg [I u.op,Sb u.name,Sb u.tail,I u.type_,Cx u.num,Sl ej u.args ek,I u.at_].toArray,ad] rfl)<|Calls.mono (LD n c4 (kn0:=27) (kn1:=28) i1 dcd dcd (Ag (x:=u) ei) (Fg.one a2)) ?_
 rintro _ i2 ⟨i3,b2,b3,lt,rfl,az,i4,i5,i6⟩
 obtain ⟨lu,rfl,eo⟩:=Am i5
 obtain ⟨i7,i8,rfl⟩:=AI eo
 refine ⟨_,rfl,⟨_,(Mo [27,28,29,30] az)⟩,?_⟩
 refine BW rfl<|have i9:=Ss AJ el az;Bi a fun ao ja a=>BN rfl (.none rfl) rfl rfl (Tw [.agg [I w.op,Sb w.name,Sb w.tail,I w.type_,Cx w.num,Sl em w.args en,I w.at_].toArray,ad] rfl)<|Calls.mono (LD i3 i2 (kn0:=29) (kn1:=30) ja dcd dcd (Ag (x:=w) i9) (Fg.one a2)) ?_
 rintro _ lv ⟨lw,b4,b5,lx,rfl,ap,jb,jc,jd⟩
 obtain ⟨ly,rfl,ep⟩:=Am jc
 obtain ⟨je,jf,rfl⟩:=AI ep
 refine ⟨_,rfl,⟨_,(Tn (Mo [27,28,29,30] az) ap)⟩,?_⟩
 refine Qx e rfl (v:=.agg [I 0,Cx (((0,0):Nat×Nat)),.bool false,.slice none 0 0,.func (.func 90) #[] [Pt b2 0,Pt b3 0].toArray,.func (.func 90) #[] [Pt b4 0,Pt b5 0].toArray].toArray) (fun _ ⟨_,c⟩=>GK (cs:=[I 0,Cx (((0,0):Nat×Nat)),.bool false,.slice none 0 0,.func (.func 90) #[] [Pt b2 0,Pt b3 0].toArray,.func (.func 90) #[] [Pt b4 0,Pt b5 0].toArray]) [I 0,Cx (((0,0):Nat×Nat)),.bool false,.slice none 0 0,.nilFunc,.nilFunc] Jj Md rfl (.cons rfl rfl rfl (.cons rfl rfl rfl .nil)) rfl rfl)<|E0 dcd<|WY.one<|have jg:=Bs (Y4 aw f g a7 az) ap;BT rfl (.none rfl) rfl (St IP jg rfl rfl rfl rfl fun lz jh ai=>?_)
 refine WY.nil<|AZ<|have ji:=K2 AJ eo ap ai;have jj:=Y2 i4 ap ai;have jk:=Y2 i6 ap ai;have eq:=Me (Me (Me (Me (Me (Me (Me (Me a2 m) l) f) g) a7) az) ap) ai; ?_
 obtain ⟨l0,a0,jl⟩:=MTh.layLater (D:=89) (ce:=[I an.op,Sb an.name,Sb an.tail,I an.type_,Cx an.num,Sl i7 an.args i8,I an.at_]) jj jk dcd (Ag (x:=an) ji) eq
 refine have jm:=K2 AJ ep ai a0;have jn:=Y2 jb ai a0;have jo:=Y2 jd ai a0;have jp:=Me eq a0; ?_
 obtain ⟨jq,bm,jr⟩:=MTh.layLater (D:=89) (ce:=[I ao.op,Sb ao.name,Sb ao.tail,I ao.type_,Cx ao.num,Sl je ao.args jf,I ao.at_]) jn jo dcd (Ag (x:=ao) jm) jp
 obtain rfl:=AP a
 refine have js:=Y2 jh a0 bm;A0 (B:=B) aa (BQ rfl (.agg In rfl rfl (Bk.part js 0 [I 0,Cx (((0,0):Nat×Nat)),.bool false,.slice none 0 0,.func (.func 90) #[] [Pt b2 0,Pt b3 0].toArray,.func (.func 90) #[] [Pt b4 0,Pt b5 0].toArray] rfl)) ?_)
 refine have jt:=Mt jl bm;have ju:=Y2 (Y4 ak a7 az ap ai) a0 bm;have jv:=K2 AL (K4 AL (K4 AL ae m l f g) a7 az ap ai) a0 bm;⟨jq,Sl a3 z a4,Ho (Tn (T4 (T4 (Mo [1,21,27,28,29,30] m) l f g a7) az ap ai a0) bm) y,ju,jv,Ej ⟨[I 0,Cx (((0,0):Nat×Nat)),.bool false,.slice none 0 0,.func (.func 90) #[] [Pt b2 0,Pt b3 0].toArray,.func (.func 90) #[] [Pt b4 0,Pt b5 0].toArray],rfl,(CS (x:=(Ak.mk (AG.mk 0 ((0,0):Nat×Nat) false []) (Th.later an aj) (Th.later ao aj))) Cd jt jr)⟩⟩
 refine WC.skip<|⟨_,n,Pu,a,(AO.refl [] _ _)⟩
 rintro _ ch ⟨ax,ci,rfl,a,aq⟩
 rw [Jo] at a
 refine Sr<|Vm<|have jw:=Y4 de l f g aq;Vx (Run.loadN BL rfl rfl (Bk.part jw 0 [I d.op,Sb d.name,Sb d.tail,I d.type_,Cx d.num,Sl db d.args dc,I d.at_] rfl))<|Vm<|have jx:=Bs ak aq;have jy:=Ss AL (K4 AL ae m l f g) aq;have jz:=Ms (Ms (Ms (Ms (Ms cc m) l) f) g) aq;have j0:=Ss AJ (K4 AJ bp m l f g) aq;have j1:=Me (Me (Me (Me (Me a2 m) l) f) g) aq;Bi a fun er j2 a=>Hh (.none rfl) rfl rfl (AAI [Pt ah 0,.agg [I d.op,Sb d.name,Sb d.tail,I d.type_,Cx d.num,Sl db d.args dc,I d.at_].toArray,ad] rfl)<|Calls.mono (ca.mean_run_parts ci ch j2 dcd dcd jx jy jz (Ag (x:=d) j0) j1) ?_
 rintro _ l1 ⟨es,l2,c7,et,c8,j3⟩
 obtain ⟨eu,ew,rfl⟩:=AI c8
 obtain ⟨l3,j4,rfl⟩| ⟨q,j5,l4,rfl,l5,rfl,j6⟩:=D8.split j3
 refine have a:=Dg a j4; .inl ⟨_,rfl,?_⟩
 obtain rfl:=AP a
 refine M3 (B:=B) aa<|⟨es,Sl eu er.2.1 ew,Ho (Tn (T4 (Mo [1] m) l f g aq) c7) y,et,c8,Fk⟩
 refine have a:=GG a j5; ?_
 obtain ⟨l6,b6,b7,rfl,c9,ex,ey⟩:=DE j6
 obtain ⟨b8,b9,rfl⟩:=AI c9
 refine .inr ⟨_,rfl,?_⟩
 refine have j7:=Y4 aw f g aq c7;Eu (Bf (vs:=[I q.plain.type_,Cx q.plain.num,.bool q.plain.bool,Sl b8 q.plain.list b9,b6,b7]) (cs':=[I q.plain.type_,Cx q.plain.num,.bool q.plain.bool,Sl b8 q.plain.list b9,b6,b7]) IP rfl rfl rfl rfl (AU rfl (AU rfl (AU rfl (AU (FK c9) (AU (MTh.one ex) (AU (MTh.one ey) CI)))))) j7 dcd rfl rfl fun l7 j8 be=>?_)
 refine AA<|AZ ?_
 obtain rfl:=AP a
 refine A0 (B:=B) aa (BQ rfl (.agg In rfl rfl (Bk.part j8 0 [I q.plain.type_,Cx q.plain.num,.bool q.plain.bool,Sl b8 q.plain.list b9,b6,b7] rfl)) ?_)
 refine have j9:=Ss Kd.cpx c9 be;have ka:=Mt ex be;have kb:=Mt ey be;have kc:=Bs et be;have kd:=Ss AL c8 be;⟨es,Sl eu er.2.1 ew,Ho (T2 (T4 (Mo [1,21] m) l f g aq) c7 be) y,kc,kd,Ej ⟨[I q.plain.type_,Cx q.plain.num,.bool q.plain.bool,Sl b8 q.plain.list b9,b6,b7],rfl,(CS (x:=q) j9 ka kb)⟩⟩
theorem Ph(d:AT)(f:Nat)(m:AT.Good d):mean_run_look.Spec (A7 d f):=by
 intro e g a c ac ad ae af ag ah ai aj ak al am an n hnd hnz l o p q s
 refine Calls.mono (Pf d f m (recol (see [a,c]) e) g (A3 lbr e) n trivial trivial (A1 l [a,c] (A8 hnd hnz (i:=0) rfl)) (DC AL o [a,c]) (GE p [a,c] (A8 hnd hnz (i:=1) rfl)) (Av AJ q [a,c]) (Fg.recol s [a,c])) ?_
 rintro ao ap ⟨w,y,z,aa,ab,en⟩
 exact ⟨glue [a,c] g e w,y,Ah z (DI rfl rfl),B9 l aa dcd,Et AL ab,Oe en fun r v ⟨u,hv,h⟩=>⟨u,hv,BA GI h⟩⟩
theorem QO(p:AT)(ag:Nat)(ah:AT.Good p)(l:Col)(ai:World)(q:∀b,l b<10):mean_later_1.At True True l ai (Kf p ag) 1 2:=by
 intro aj bf bg bh bi bj bk c bl bm bn bo ak bp d _ _ al r am an ao ap aq
 rw [Kf] at d
 obtain ⟨bq,br,rfl⟩:=AI r
 obtain ⟨bt,rfl,s⟩:=Am ao
 obtain ⟨u,w,rfl⟩:=AI s
 refine A5 Tryz.func90 rfl Tryz.ntmps90 rfl fun B y bu=>Sr<|Ef (AY l 20 Jj rfl fun ar au bv av e=>?_)
 refine AA<|Sr<|Vm<|have aw:=Es an e;Vx (Run.loadN BL rfl rfl (BG.part0 aw [I c.op,Sb c.name,Sb c.tail,I c.type_,Cx c.num,Sl u c.args w,I c.at_] rfl))<|have ax:=Es ap e;Vx (Run.load1 Xj rfl (BG.cell0 ax rfl))<|have ay:=Bs al e;have az:=Ss AL r e;have a0:=Ms am e;have a1:=Ss AJ s e;have a2:=Me aq e;Bi d fun z a3 d=>Hh (.none rfl) rfl rfl (K0 [Pt aj 0,.agg [I c.op,Sb c.name,Sb c.tail,I c.type_,Cx c.num,Sl u c.args w,I c.at_].toArray,ak] rfl)<|Calls.mono (ah.mean_run_look ar au a3 dcd dcd ay az a0 (Ag (x:=c) a1) a2) ?_
 rintro _ bw ⟨aa,bx,m,ab,n,a4⟩
 obtain ⟨ac,ad,rfl⟩:=AI n
 obtain ⟨bz,a5,rfl⟩| ⟨a,a6,b0,rfl,b1,rfl,a7⟩:=D8.split a4
 refine have d:=Dg d a5; .inl ⟨_,rfl,?_⟩
 obtain rfl:=AP d
 refine M3 (B:=B) y<|⟨aa,Sl ac z.2.1 ad,Ho (Tn (Mo [1] e) m) q,ab,n,Fk⟩
 refine have d:=GG d a6; ?_
 obtain ⟨b2,s52,s54,rfl,o,ae,af⟩:=DE a7
 obtain ⟨g,h,rfl⟩:=AI o
 refine .inr ⟨_,rfl,?_⟩
 refine have a8:=Bs av m;Eu (Bf (vs:=[I a.plain.type_,Cx a.plain.num,.bool a.plain.bool,Sl g a.plain.list h,s52,s54]) (cs':=[I a.plain.type_,Cx a.plain.num,.bool a.plain.bool,Sl g a.plain.list h,s52,s54]) IP rfl rfl rfl rfl (AU rfl (AU rfl (AU rfl (AU (FK o) (AU (MTh.one ae) (AU (MTh.one af) CI)))))) a8 dcd rfl rfl fun b3 a9 f=>?_)
 refine AA<|AZ ?_
 obtain rfl:=AP d
 refine A0 (B:=B) y (BQ rfl (.agg In rfl rfl (Bk.part a9 0 [I a.plain.type_,Cx a.plain.num,.bool a.plain.bool,Sl g a.plain.list h,s52,s54] rfl)) ?_)
 refine have ba:=Ss Kd.cpx o f;have bb:=Mt ae f;have bc:=Mt af f;have bd:=Bs ab f;have be:=Ss AL n f;⟨aa,Sl ac z.2.1 ad,Ho (T2 (Mo [1,20] e) m f) q,bd,be,Ej ⟨[I a.plain.type_,Cx a.plain.num,.bool a.plain.bool,Sl g a.plain.list h,s52,s54],rfl,(CS (x:=a) ba bb bc)⟩⟩
end Fth
namespace Fth
open Go Go.Proofs Sh
set_option maxRecDepth 100000
set_option maxHeartbeats 8000000
theorem QP(d:AT)(f:Nat)(m:AT.Good d):mean_later_1.Spec (Kf d f):=by
 intro e g a c ae af ag ah ai aj ak al am an ao ap aq ar n hnd hnz l o p q s w y
 refine Calls.mono (QO d f m (recol (see [a,c]) e) g (A3 lbr e) n trivial trivial (A1 l [a,c] (A8 hnd hnz (i:=0) rfl)) (DC AL o [a,c]) (GE p [a,c] (A8 hnd hnz (i:=1) rfl)) (O7 q [a,c]) (Av AJ s [a,c]) (O7 w [a,c]) (Fg.recol y [a,c])) ?_
 rintro au av ⟨z,aa,ab,ac,ad,en⟩
 exact ⟨glue [a,c] g e z,aa,Ah ab (DI rfl rfl),B9 l ac dcd,Et AL ad,Oe en fun r v ⟨u,hv,h⟩=>⟨u,hv,BA GI h⟩⟩
theorem RF(f:AT)(l:Nat)(m:AT.Good f):mean_callth.Spec (J2 f l):=by
 intro c d n af ag o ah ai aj ak al am an ao a hnd hnz g h p q
 cases q with
 |nil=>rw [J2] at a;exact BK a
 |done hF hlt hat hp hh ht=>
 rw [J2] at a
 refine Bi a fun r hr a=>?_
 obtain rfl:=AP a
 obtain ⟨ap,rfl,s⟩:=Bt hp
 refine ⟨89,_,fun hx hv=>AAX (caps:=[Pt _ 0]) hx hv,?_⟩
 refine Calls.mono (SH c d hr ⟨hF,hlt,hat⟩ (show GI.rep c.F d _ _ from ⟨_,_,_,rfl,s,hh,ht⟩) (v0:=Pt n 0) rfl) ?_
 rintro _ aq ⟨u,ar,rfl,e,hu⟩
 exact ⟨u,o,AO.mono e (by simp),(Bk.step g e (by simp)),(Ua AL h e (by simp)),Ej ⟨_,rfl,hu⟩⟩
 |later w y z aa ab ac ad ae=>
 refine ⟨90,_,fun hx hv=>AAY (caps:=[Pt _ 0,Pt _ 0]) hx hv,?_⟩
 rw [J2] at a
 exact m.mean_later_1 c d a hnd hnz g h p ⟨w,y,ab⟩ ac ⟨z,aa,ad⟩ ae
theorem PD(bv:AT)(bm:Nat)(a3:AT.Good bv)(dv:Col)(ir:World)(p:∀b,dv b<10):mean_run_parts.At True True dv ir (Ay bv bm) 1 2:=by
 intro ao it sn iu iv iw cl h so cm ap dw a _ _ b7 bw b8 ix bx
 rw [Ay] at a
 obtain ⟨iy,iz,rfl⟩:=AI bw
 obtain ⟨sp,rfl,bz⟩:=Am ix
 obtain ⟨i0,i1,rfl⟩:=AI bz
 refine A5 Tryz.func58 rfl Tryz.ntmps58 rfl fun B q m=>Sr<|Ef (By dv 20 rfl rfl fun i2 sq i3 i4 d=>?_)
 refine Ef (AY i2 21 Jj rfl fun a6 bn fi bo c=>?_)
 refine AA<|Ac<|Sr<|Vx (Run.fieldAddr0 GJ rfl)<|have aq:=Bs i4 c;Vx (Run.load1 Kl rfl (Bk.cell aq rfl))<|AA<|Ao<|Sr<|Vr (.bool (h.op==19))<|Va (.bool (h.op==19))<|AA<|Cn a (fun i5 a=>?_) fun i5 a=>?_
 refine Ac<|Sr<|Vm<|Vx (Run.fieldAddr B6 rfl)<|Vx (Run.load1 Ez rfl (Bk.cell aq rfl))<|Bi a fun ac i6 a=>have dx:=K2 AJ bz d c; ?_
 obtain ⟨i7,i8,sr,i9,ja,jb,jc,jd,dy⟩:=BX (κ:=AJ) dx i6
 replace dy:BG a6 bn i7 (i8+(0:Int).toNat*7) i9:=dy
 obtain ⟨ss,rfl,fj⟩:=Am jd
 obtain ⟨fk,fl,rfl⟩:=AI fj
 refine Vx (Run.indexAddr Dx ja rfl jb jc)<|Vx (Run.loadN BL rfl rfl (BG.part0 dy [I ac.op,Sb ac.name,Sb ac.tail,I ac.type_,Cx ac.num,Sl fk ac.args fl,I ac.at_] rfl))<|Vm<|have je:=Y2 b7 d c;have jf:=K2 AL bw d c;have dz:=Ms (Ms b8 d) c;have d0:=Me (Me bx d) c;Bi a fun jg jh a=>Hh (.none rfl) rfl rfl (K0 [Pt ao 0,.agg [I ac.op,Sb ac.name,Sb ac.tail,I ac.type_,Cx ac.num,Sl fk ac.args fl,I ac.at_].toArray,ap] rfl)<|Calls.mono (a3.mean_run_look a6 bn jh dcd dcd je jf dz (Ag (x:=ac) fj) d0) ?_
 rintro _ cn ⟨b9,st,ad,d1,co,ji⟩
 obtain ⟨jj,jk,rfl⟩:=AI co
 obtain ⟨su,jl,rfl⟩| ⟨ar,jm,sv,rfl,sw,rfl,jn⟩:=D8.split ji
 refine have a:=Dg a jl; .inl ⟨_,rfl,?_⟩
 obtain rfl:=AP a
 refine M3 (B:=B) q<|⟨b9,Sl jj jg.2.1 jk,Ho (T2 (Mo [1] d) c ad) p,d1,co,Fk⟩
 refine have a:=GG a jm; ?_
 obtain ⟨sx,jo,jp,rfl,jq,sy,sz⟩:=DE jn
 obtain ⟨d2,d3,rfl⟩:=AI jq
 refine .inr ⟨_,rfl,?_⟩
 refine Vx (v:=.agg [I ar.plain.type_,Cx ar.plain.num,.bool ar.plain.bool,Sl d2 ar.plain.list d3].toArray) (O5 (cs:=[I ar.plain.type_,Cx ar.plain.num,.bool ar.plain.bool,Sl d2 ar.plain.list d3,jo,jp]) Rr rfl)<|Vx (v:=.bool ar.plain.bool) (KK (cs:=[I ar.plain.type_,Cx ar.plain.num,.bool ar.plain.bool,Sl d2 ar.plain.list d3]) Xg rfl rfl)<|AA<|Cn a (fun jr a=>?_) fun jr a=>?_
 refine Sr<|Vm<|Vx (Run.fieldAddr B6 rfl)<|have js:=Bs aq ad;Vx (Run.load1 Ez rfl (Bk.cell js rfl))<|Bi a fun ae jt a=>have ju:=Ss AJ dx ad; ?_
 obtain ⟨jv,o90,s0,jw,jx,jy,jz,j0,d4⟩:=BX (κ:=AJ) ju jt
 replace d4:BG b9 cn jv (o90+(1:Int).toNat*7) jw:=d4
 obtain ⟨s1,rfl,fm⟩:=Am j0
 obtain ⟨fn,fo,rfl⟩:=AI fm
 refine Vx (Run.indexAddr Dx jx rfl jy jz)<|Vx (Run.loadN BL rfl rfl (BG.part0 d4 [I ae.op,Sb ae.name,Sb ae.tail,I ae.type_,Cx ae.num,Sl fn ae.args fo,I ae.at_] rfl))<|Vm<|have j1:=Ms dz ad;have j2:=Me d0 ad;Bi a fun fp j3 a=>Hh (.none rfl) rfl rfl (K0 [Pt ao 0,.agg [I ae.op,Sb ae.name,Sb ae.tail,I ae.type_,Cx ae.num,Sl fn ae.args fo,I ae.at_].toArray,ap] rfl)<|Calls.mono (a3.mean_run_look b9 cn j3 dcd dcd d1 co j1 (Ag (x:=ae) fm) j2) ?_
 rintro _ s2 ⟨fq,s3,d5,fr,d6,j4⟩
 obtain ⟨fs,ft,rfl⟩:=AI d6
 obtain ⟨s4,j5,rfl⟩| ⟨r,j6,s5,rfl,s6,rfl,j7⟩:=D8.split j4
 refine have a:=Dg a j5; .inl ⟨_,rfl,?_⟩
 obtain rfl:=AP a
 refine M3 (B:=B) q<|⟨fq,Sl fs fp.2.1 ft,Ho (T3 (Mo [1] d) c ad d5) p,fr,d6,Fk⟩
 refine have a:=GG a j6; ?_
 obtain ⟨s7,cq,cr,rfl,d7,fu,fv⟩:=DE j7
 obtain ⟨ct,cu,rfl⟩:=AI d7
 refine .inr ⟨_,rfl,?_⟩
 refine have j8:=Y2 bo ad d5;Eu (Bf (vs:=[I r.plain.type_,Cx r.plain.num,.bool r.plain.bool,Sl ct r.plain.list cu,cq,cr]) (cs':=[I r.plain.type_,Cx r.plain.num,.bool r.plain.bool,Sl ct r.plain.list cu,cq,cr]) IP rfl rfl rfl rfl (AU rfl (AU rfl (AU rfl (AU (FK d7) (AU (MTh.one fu) (AU (MTh.one fv) CI)))))) j8 dcd rfl rfl fun s8 j9 b0=>?_)
 refine AA<|AZ ?_
 obtain rfl:=AP a
 refine A0 (B:=B) q (BQ rfl (.agg In rfl rfl (Bk.part j9 0 [I r.plain.type_,Cx r.plain.num,.bool r.plain.bool,Sl ct r.plain.list cu,cq,cr] rfl)) ?_)
 refine have ka:=Ss Kd.cpx d7 b0;have kb:=Mt fu b0;have kc:=Mt fv b0;have kd:=Bs fr b0;have ke:=Ss AL d6 b0;⟨fq,Sl fs fp.2.1 ft,Ho (T4 (Mo [1,21] d) c ad d5 b0) p,kd,ke,Ej ⟨[I r.plain.type_,Cx r.plain.num,.bool r.plain.bool,Sl ct r.plain.list cu,cq,cr],rfl,(CS (x:=r) ka kb kc)⟩⟩
 refine WC.skip<|Sr<|Vm<|Vx (Run.fieldAddr B6 rfl)<|have kf:=Bs aq ad;Vx (Run.load1 Ez rfl (Bk.cell kf rfl))<|Bi a fun af kg a=>have kh:=Ss AJ dx ad; ?_
 obtain ⟨ki,kj,s9,kk,kl,km,kn,ko,d8⟩:=BX (κ:=AJ) kh kg
 replace d8:BG b9 cn ki (kj+(2:Int).toNat*7) kk:=d8
 obtain ⟨ta,rfl,fw⟩:=Am ko
 obtain ⟨fx,fy,rfl⟩:=AI fw
 refine Vx (Run.indexAddr Dx kl rfl km kn)<|Vx (Run.loadN BL rfl rfl (BG.part0 d8 [I af.op,Sb af.name,Sb af.tail,I af.type_,Cx af.num,Sl fx af.args fy,I af.at_] rfl))<|Vm<|have kp:=Ms dz ad;have kq:=Me d0 ad;Bi a fun fz kr a=>Hh (.none rfl) rfl rfl (K0 [Pt ao 0,.agg [I af.op,Sb af.name,Sb af.tail,I af.type_,Cx af.num,Sl fx af.args fy,I af.at_].toArray,ap] rfl)<|Calls.mono (a3.mean_run_look b9 cn kr dcd dcd d1 co kp (Ag (x:=af) fw) kq) ?_
 rintro _ tb ⟨f0,tc,d9,f1,ea,ks⟩
 obtain ⟨f2,f3,rfl⟩:=AI ea
 obtain ⟨td,kt,rfl⟩| ⟨u,ku,te,rfl,tf,rfl,kv⟩:=D8.split ks
 refine have a:=Dg a kt; .inl ⟨_,rfl,?_⟩
 obtain rfl:=AP a
 refine M3 (B:=B) q<|⟨f0,Sl f2 fz.2.1 f3,Ho (T3 (Mo [1] d) c ad d9) p,f1,ea,Fk⟩
 refine have a:=GG a ku; ?_
 obtain ⟨tg,cv,cw,rfl,eb,f4,f5⟩:=DE kv
 obtain ⟨cx,cy,rfl⟩:=AI eb
 refine .inr ⟨_,rfl,?_⟩
 refine have kw:=Y2 bo ad d9;Eu (Bf (vs:=[I u.plain.type_,Cx u.plain.num,.bool u.plain.bool,Sl cx u.plain.list cy,cv,cw]) (cs':=[I u.plain.type_,Cx u.plain.num,.bool u.plain.bool,Sl cx u.plain.list cy,cv,cw]) IP rfl rfl rfl rfl (AU rfl (AU rfl (AU rfl (AU (FK eb) (AU (MTh.one f4) (AU (MTh.one f5) CI)))))) kw dcd rfl rfl fun th kx b1=>?_)
 refine AA<|AZ ?_
 obtain rfl:=AP a
 refine A0 (B:=B) q (BQ rfl (.agg In rfl rfl (Bk.part kx 0 [I u.plain.type_,Cx u.plain.num,.bool u.plain.bool,Sl cx u.plain.list cy,cv,cw] rfl)) ?_)
 refine have ky:=Ss Kd.cpx eb b1;have kz:=Mt f4 b1;have k0:=Mt f5 b1;have k1:=Bs f1 b1;have k2:=Ss AL ea b1;⟨f0,Sl f2 fz.2.1 f3,Ho (T4 (Mo [1,21] d) c ad d9 b1) p,k1,k2,Ej ⟨[I u.plain.type_,Cx u.plain.num,.bool u.plain.bool,Sl cx u.plain.list cy,cv,cw],rfl,(CS (x:=u) ky kz k0)⟩⟩
 refine Sr<|Vr (.bool (h.op==20))<|Va (.bool (h.op==20))<|AA<|Cn a (fun k3 a=>?_) fun k3 a=>?_
 refine Sr<|Vm<|Vx (Run.fieldAddr B6 rfl)<|Vx (Run.load1 Ez rfl (Bk.cell aq rfl))<|Bi a fun ag k4 a=>have ec:=K2 AJ bz d c; ?_
 obtain ⟨k5,k6,ti,k7,k8,k9,la,lb,ed⟩:=BX (κ:=AJ) ec k4
 replace ed:BG a6 bn k5 (k6+(0:Int).toNat*7) k7:=ed
 obtain ⟨tj,rfl,f6⟩:=Am lb
 obtain ⟨f7,f8,rfl⟩:=AI f6
 refine Vx (Run.indexAddr Dx k8 rfl k9 la)<|Vx (Run.loadN BL rfl rfl (BG.part0 ed [I ag.op,Sb ag.name,Sb ag.tail,I ag.type_,Cx ag.num,Sl f7 ag.args f8,I ag.at_] rfl))<|Vm<|have lc:=Y2 b7 d c;have ld:=K2 AL bw d c;have ee:=Ms (Ms b8 d) c;have cz:=Me (Me bx d) c;Bi a fun le lf a=>Hh (.none rfl) rfl rfl (K0 [Pt ao 0,.agg [I ag.op,Sb ag.name,Sb ag.tail,I ag.type_,Cx ag.num,Sl f7 ag.args f8,I ag.at_].toArray,ap] rfl)<|Calls.mono (a3.mean_run_look a6 bn lf dcd dcd lc ld ee (Ag (x:=ag) f6) cz) ?_
 rintro _ tk ⟨f9,tl,ah,ef,c0,lg⟩
 obtain ⟨lh,li,rfl⟩:=AI c0
 obtain ⟨tm,lj,rfl⟩| ⟨a7,lk,tn,rfl,to,rfl,ll⟩:=D8.split lg
 refine have a:=Dg a lj; .inl ⟨_,rfl,?_⟩
 obtain rfl:=AP a
 refine M3 (B:=B) q<|⟨f9,Sl lh le.2.1 li,Ho (T2 (Mo [1] d) c ah) p,ef,c0,Fk⟩
 refine have a:=GG a lk; ?_
 obtain ⟨tp,eg,c1,rfl,ga,gb,eh⟩:=DE ll
 obtain ⟨gc,gd,rfl⟩:=AI ga
 refine .inr ⟨_,rfl,?_⟩
 refine Ef (AY f9 22 Jj rfl fun ei tq tr lm n=>?_)
 refine have ln:=Ss Kd.cpx ga n;Eu (Bf (vs:=[I a7.plain.type_,Cx a7.plain.num,.bool a7.plain.bool,Sl gc a7.plain.list gd,eg,c1]) (cs':=[I a7.plain.type_,Cx a7.plain.num,.bool a7.plain.bool,Sl gc a7.plain.list gd,eg,c1]) IP rfl rfl rfl rfl (AU rfl (AU rfl (AU rfl (AU (FK ln) (AU (MTh.one gb) (AU (MTh.one eh) CI)))))) lm dcd rfl rfl fun ge ej o=>?_)
 refine AA<|Ac<|Sr<|Vx (Run.fieldAddr OD rfl)<|Vx (Run.load1 OG rfl (Bk.cell ej rfl))<|have ek:=Mt (Mt gb n) o;Vx (v:=.bool (Th.isNil a7.head)) (Qc Tx rfl rfl ek)<|AA<|Cn a (fun lo a=>?_) fun lo a=>?_
 refine Sr<|Vm<|Vx (Run.fieldAddr B6 rfl)<|have lp:=Y3 aq ah n o;Vx (Run.load1 Ez rfl (Bk.cell lp rfl))<|Bi a fun ai lq a=>have lr:=K3 AJ ec ah n o; ?_
 obtain ⟨ls,lt,ts,lu,lv,lw,lx,ly,el⟩:=BX (κ:=AJ) lr lq
 replace el:BG ei ge ls (lt+(1:Int).toNat*7) lu:=el
 obtain ⟨tt,rfl,gf⟩:=Am ly
 obtain ⟨gg,gh,rfl⟩:=AI gf
 refine Vx (Run.indexAddr Dx lv rfl lw lx)<|Vx (Run.loadN BL rfl rfl (BG.part0 el [I ai.op,Sb ai.name,Sb ai.tail,I ai.type_,Cx ai.num,Sl gg ai.args gh,I ai.at_] rfl))<|Vm<|have lz:=Y2 ef n o;have l0:=K2 AL c0 n o;have l1:=Ms (Ms (Ms ee ah) n) o;have l2:=Me (Me (Me cz ah) n) o;Bi a fun gi l3 a=>Hh (.none rfl) rfl rfl (K0 [Pt ao 0,.agg [I ai.op,Sb ai.name,Sb ai.tail,I ai.type_,Cx ai.num,Sl gg ai.args gh,I ai.at_].toArray,ap] rfl)<|Calls.mono (a3.mean_run_look ei ge l3 dcd dcd lz l0 l1 (Ag (x:=ai) gf) l2) ?_
 rintro _ tu ⟨gj,tw,em,gk,en,l4⟩
 obtain ⟨gl,gm,rfl⟩:=AI en
 obtain ⟨tx,l5,rfl⟩| ⟨w,l6,ty,rfl,tz,rfl,l7⟩:=D8.split l4
 refine have a:=Dg a l5; .inl ⟨_,rfl,?_⟩
 obtain rfl:=AP a
 refine M3 (B:=B) q<|⟨gj,Sl gl gi.2.1 gm,Ho (Tn (T4 (Mo [1,22] d) c ah n o) em) p,gk,en,Fk⟩
 refine have a:=GG a l6; ?_
 obtain ⟨t0,c2,c3,rfl,eo,gn,go⟩:=DE l7
 obtain ⟨c4,c5,rfl⟩:=AI eo
 refine .inr ⟨_,rfl,?_⟩
 refine have l8:=Y4 bo ah n o em;Eu (Bf (vs:=[I w.plain.type_,Cx w.plain.num,.bool w.plain.bool,Sl c4 w.plain.list c5,c2,c3]) (cs':=[I w.plain.type_,Cx w.plain.num,.bool w.plain.bool,Sl c4 w.plain.list c5,c2,c3]) IP rfl rfl rfl rfl (AU rfl (AU rfl (AU rfl (AU (FK eo) (AU (MTh.one gn) (AU (MTh.one go) CI)))))) l8 dcd rfl rfl fun t1 l9 b2=>?_)
 refine AA<|AZ ?_
 obtain rfl:=AP a
 refine A0 (B:=B) q (BQ rfl (.agg In rfl rfl (Bk.part l9 0 [I w.plain.type_,Cx w.plain.num,.bool w.plain.bool,Sl c4 w.plain.list c5,c2,c3] rfl)) ?_)
 refine have ma:=Ss Kd.cpx eo b2;have mb:=Mt gn b2;have mc:=Mt go b2;have md:=Bs gk b2;have me:=Ss AL en b2;⟨gj,Sl gl gi.2.1 gm,Ho (T2 (T4 (Mo [1,21,22] d) c ah n o) em b2) p,md,me,Ej ⟨[I w.plain.type_,Cx w.plain.num,.bool w.plain.bool,Sl c4 w.plain.list c5,c2,c3],rfl,(CS (x:=w) ma mb mc)⟩⟩
 refine WC.skip<|Sr<|Vx (Run.fieldAddr HR rfl)<|have gp:=Y3 aq ah n o;Vx (Run.load1 De rfl (Bk.cell gp rfl))<|Vx (Run.fieldAddr OD rfl)<|Vx (Run.load1 OG rfl (Bk.cell ej rfl))<|Vm<|Vx (v:=.agg [Sb h.name,eg,ap].toArray) (Bp QF QD rfl (.cons rfl rfl rfl (.cons rfl (H1 (MTh.one ek)) rfl (.cons rfl (H1 (Fg.one cz)) rfl .nil))))<|Ef (By ei 23 rfl rfl fun ep t2 c6 mf ax=>?_)
 refine Va (Pt c6 0)<|AA<|Ac<|Cc Ff (.q 0 (.q 1 (.q 2 (.q 3 (.q 4 (.q 5 (.q 6 (.q 7 (.q 8 (.q 9 (.q 10 (.one 11 (.one 12 (.one 13 .nil)))))))))))))) [13] [1,23,24] ep (by kernel_rfl) fun mg au=>Qx m rfl (v:=Pt ao 0) (fun _ ⟨_,f⟩=>Run.move rfl)<|Qx m rfl (fun _ ⟨_,f⟩=>Run.fieldAddr B6 rfl)<|have gq:=Y2 gp ax au;Qx m rfl (fun _ ⟨_,f⟩=>Run.load1 Ez rfl (Bk.cell (Bs gq f) rfl))<|Bi a fun aj mh a=>have mi:=Ss AJ (K4 AJ ec ah n o ax) au; ?_
 obtain ⟨mj,mk,t3,ml,mm,mn,mo,mp,eq⟩:=BX (κ:=AJ) mi mh
 replace eq:BG ep mg mj (mk+(2:Int).toNat*7) ml:=eq
 obtain ⟨t4,rfl,gr⟩:=Am mp
 obtain ⟨gs,gt,rfl⟩:=AI gr
 refine Qx m rfl (fun _ ⟨_,f⟩=>Run.indexAddr Dx mm rfl mn mo)<|Qx m rfl (fun _ ⟨_,f⟩=>Run.loadN BL rfl rfl (BG.part0 (Es eq f) [I aj.op,Sb aj.name,Sb aj.tail,I aj.type_,Cx aj.num,Sl gs aj.args gt,I aj.at_] rfl))<|Qx m rfl (fun _ ⟨_,f⟩=>Run.fieldAddr PU rfl)<|Qx m rfl (fun _ ⟨_,f⟩=>Run.load1 De rfl (Bk.cell (Bs gq f) rfl))<|Qx m rfl (fun _ ⟨_,f⟩=>Run.fieldAddr Us rfl)<|have mq:=Y2 ej ax au;Qx m rfl (fun _ ⟨_,f⟩=>Run.load1 OG rfl (Bk.cell (Bs mq f) rfl))<|Qx m rfl (v:=Pt c6 0) (fun _ ⟨_,f⟩=>Run.move rfl)<|Qx m rfl (v:=.agg [Sb h.tail,c1,Pt c6 0].toArray) (fun _ ⟨_,f⟩=>GK (cs:=[Sb h.tail,c1,Pt c6 0]) [Sb ([]:List UInt8),.nilFunc,.pointer none] QF QD rfl (.cons rfl rfl rfl (.cons rfl (H1 (MTh.one eh)) rfl (.cons rfl rfl rfl .nil))) rfl rfl)<|BW rfl<|DL rfl (.none rfl) rfl rfl (By ep 24 rfl rfl fun t5 mr ms mt av=>?_)
 refine ⟨⟨_,(Mo [1,23,24] av)⟩,?_⟩
 refine To rfl<|have mu:=Y2 mf au av;have mv:=Mt (Mt (Mt ek ax) au) av;have mw:=Me (Me (Me (Me (Me (Me cz ah) n) o) ax) au) av; ?_
 obtain ⟨t6,a4,mx⟩:=Fg.lay mu dcd mv mw
 refine have my:=Bs mt a4;have mz:=Mt (Mt (Mt (Mt (Mt (Mt eh n) o) ax) au) av) a4; ?_
 obtain ⟨m0,bc,m1⟩:=Fg.lay my dcd mz mx
 refine have m2:=Y3 (Y4 ef n o ax au) av a4 bc;have m3:=K3 AL (K4 AL c0 n o ax au) av a4 bc;have m4:=Ms (Ms (Ms (Ms (Ms (Ms (Ms (Ms ee ah) n) o) ax) au) av) a4) bc;have m5:=K3 AJ gr av a4 bc;Bi a fun gu m6 a=>TQ.callp rfl (.none rfl) rfl rfl (K0 [Pt ao 0,.agg [I aj.op,Sb aj.name,Sb aj.tail,I aj.type_,Cx aj.num,Sl gs aj.args gt,I aj.at_].toArray,Pt ms 0] rfl)<|Calls.mono (a3.mean_run_look m0 mr m6 dcd dcd m2 m3 m4 (Ag (x:=aj) m5) m1) ?_
 rintro _ t7 ⟨gv,t8,c7,gw,er,m7⟩
 obtain ⟨gx,gy,rfl⟩:=AI er
 obtain ⟨t9,m8,rfl⟩| ⟨y,m9,ua,rfl,ub,rfl,na⟩:=D8.split m7
 refine have a:=Dg a m8; .inl ⟨_,rfl,?_⟩
 obtain rfl:=AP a
 refine M3 (B:=B) q<|⟨gv,Sl gx gu.2.1 gy,Ho (T2 (T4 (T4 (Mo [1,22,23,24] d) c ah n o) ax au av a4) bc c7) p,gw,er,Fk⟩
 refine have a:=GG a m9; ?_
 obtain ⟨uc,c8,c9,rfl,es,gz,g0⟩:=DE na
 obtain ⟨da,db,rfl⟩:=AI es
 refine .inr ⟨_,rfl,⟨_,(T3 (Mo [1,23,24] av) a4 bc c7)⟩,?_⟩
 refine E0 dcd<|WY.one<|have nb:=Bs (Y4 (Y4 bo ah n o ax) au av a4 bc) c7;BT rfl (.none rfl) rfl (Bf (vs:=[I y.plain.type_,Cx y.plain.num,.bool y.plain.bool,Sl da y.plain.list db,c8,c9]) (cs':=[I y.plain.type_,Cx y.plain.num,.bool y.plain.bool,Sl da y.plain.list db,c8,c9]) IP rfl rfl rfl rfl (AU rfl (AU rfl (AU rfl (AU (FK es) (AU (MTh.one gz) (AU (MTh.one g0) CI)))))) nb dcd rfl rfl fun ud nc b3=>?_)
 refine WY.nil<|AZ ?_
 obtain rfl:=AP a
 refine A0 (B:=B) q (BQ rfl (.agg In rfl rfl (Bk.part nc 0 [I y.plain.type_,Cx y.plain.num,.bool y.plain.bool,Sl da y.plain.list db,c8,c9] rfl)) ?_)
 refine have nd:=Ss Kd.cpx es b3;have ne:=Mt gz b3;have nf:=Mt g0 b3;have ng:=Bs gw b3;have nh:=Ss AL er b3;⟨gv,Sl gx gu.2.1 gy,Ho (T3 (T4 (T4 (Mo [1,21,22,23,24] d) c ah n o) ax au av a4) bc c7 b3) p,ng,nh,Ej ⟨[I y.plain.type_,Cx y.plain.num,.bool y.plain.bool,Sl da y.plain.list db,c8,c9],rfl,(CS (x:=y) nd ne nf)⟩⟩
 refine Sr<|Vr (.bool (h.op==21))<|Va (.bool (h.op==21))<|AA<|Cn a (fun ni a=>?_) fun ni a=>?_
 refine Sr<|Vx (Run.fieldAddr HR rfl)<|Vx (Run.load1 De rfl (Bk.cell aq rfl))<|Vm<|Vx (v:=.agg [Sb h.name,.nilFunc,ap].toArray) (Bp QF QD rfl (.cons rfl rfl rfl (.cons rfl (H1 (Fg.one bx)) rfl .nil)))<|Ef (By a6 25 rfl rfl fun g1 g2 et nj a8=>?_)
 refine Va (Pt et 0)<|AA<|Sr<|Vm<|Vx (Run.fieldAddr B6 rfl)<|have g3:=Bs aq a8;Vx (Run.load1 Ez rfl (Bk.cell g3 rfl))<|Bi a fun ak nk a=>have g4:=K3 AJ bz d c a8; ?_
 obtain ⟨nl,nm,ue,np,nq,nr,ns,nt,eu⟩:=BX (κ:=AJ) g4 nk
 replace eu:BG g1 g2 nl (nm+(0:Int).toNat*7) np:=eu
 obtain ⟨uf,rfl,g5⟩:=Am nt
 obtain ⟨g6,g7,rfl⟩:=AI g5
 refine Vx (Run.indexAddr Dx nq rfl nr ns)<|Vx (Run.loadN BL rfl rfl (BG.part0 eu [I ak.op,Sb ak.name,Sb ak.tail,I ak.type_,Cx ak.num,Sl g6 ak.args g7,I ak.at_] rfl))<|Vm<|Bi a fun bd nu a=>Ca (Tw [.agg [I ak.op,Sb ak.name,Sb ak.tail,I ak.type_,Cx ak.num,Sl g6 ak.args g7,I ak.at_].toArray,Pt et 0] rfl) (LD g1 g2 (kn0:=26) (kn1:=27) nu dcd dcd (Ag (x:=ak) g5) rfl) ?_
 rintro _ ug ⟨nv,uh,ui,uj,rfl,a5,nw,nx,ny⟩
 obtain ⟨uk,rfl,g8⟩:=Am nx
 obtain ⟨n0,n1,rfl⟩:=AI g8
 refine ⟨_,rfl,?_⟩
 refine Vx (Run.nilCheck rfl)<|Vx (Run.fieldAddr Ur rfl)<|have n2:=Bs nj a5;Eu (St AAg n2 rfl rfl rfl rfl fun g9 n4 ay=>?_)
 refine AA<|Sr<|Vm<|Vx (Run.fieldAddr B6 rfl)<|have n5:=Y2 g3 a5 ay;Vx (Run.load1 Ez rfl (Bk.cell n5 rfl))<|Bi a fun al n6 a=>have n7:=K2 AJ g4 a5 ay; ?_
 obtain ⟨n8,oa,ul,ob,oc,od,oe,og,ew⟩:=BX (κ:=AJ) n7 n6
 replace ew:BG nv g9 n8 (oa+(1:Int).toNat*7) ob:=ew
 obtain ⟨um,rfl,ha⟩:=Am og
 obtain ⟨hb,hc,rfl⟩:=AI ha
 refine Vx (Run.indexAddr Dx oc rfl od oe)<|Vx (Run.loadN BL rfl rfl (BG.part0 ew [I al.op,Sb al.name,Sb al.tail,I al.type_,Cx al.num,Sl hb al.args hc,I al.at_] rfl))<|Vm<|have oh:=Ss AJ g8 ay;have oi:=Bs nw ay;have oj:=Bs ny ay;have ok:=Me (Me (Me (Me (Me bx d) c) a8) a5) ay; ?_
 obtain ⟨ol,bp,om⟩:=Fg.layRec (D:=89) (ce:=[I bd.op,Sb bd.name,Sb bd.tail,I bd.type_,Cx bd.num,Sl n0 bd.args n1,I bd.at_]) n4 oi oj dcd (Ag (x:=bd) oh) ok
 refine have oo:=Y2 (Y4 b7 d c a8 a5) ay bp;have op:=K2 AL (K4 AL bw d c a8 a5) ay bp;have oq:=Ms (Ms (Ms (Ms (Ms (Ms b8 d) c) a8) a5) ay) bp;have os:=Ss AJ ha bp;Bi a fun hd ot a=>Hh (.none rfl) rfl rfl (K0 [Pt ao 0,.agg [I al.op,Sb al.name,Sb al.tail,I al.type_,Cx al.num,Sl hb al.args hc,I al.at_].toArray,Pt et 0] rfl)<|Calls.mono (a3.mean_run_look ol g9 ot dcd dcd oo op oq (Ag (x:=al) os) om) ?_
 rintro _ un ⟨he,uo,ex,hf,ey,ou⟩
 obtain ⟨hg,hh,rfl⟩:=AI ey
 obtain ⟨up,ov,rfl⟩| ⟨z,ow,uq,rfl,ur,rfl,ox⟩:=D8.split ou
 refine have a:=Dg a ov; .inl ⟨_,rfl,?_⟩
 obtain rfl:=AP a
 refine M3 (B:=B) q<|⟨he,Sl hg hd.2.1 hh,Ho (T2 (T4 (Mo [1,25,26,27] d) c a8 a5 ay) bp ex) p,hf,ey,Fk⟩
 refine have a:=GG a ow; ?_
 obtain ⟨us,dc,de,rfl,ez,hi,hj⟩:=DE ox
 obtain ⟨df,dg,rfl⟩:=AI ez
 refine .inr ⟨_,rfl,?_⟩
 refine have oy:=Bs (Y4 bo a8 a5 ay bp) ex;Eu (Bf (vs:=[I z.plain.type_,Cx z.plain.num,.bool z.plain.bool,Sl df z.plain.list dg,dc,de]) (cs':=[I z.plain.type_,Cx z.plain.num,.bool z.plain.bool,Sl df z.plain.list dg,dc,de]) IP rfl rfl rfl rfl (AU rfl (AU rfl (AU rfl (AU (FK ez) (AU (MTh.one hi) (AU (MTh.one hj) CI)))))) oy dcd rfl rfl fun ut oz b4=>?_)
 refine AA<|AZ ?_
 obtain rfl:=AP a
 refine A0 (B:=B) q (BQ rfl (.agg In rfl rfl (Bk.part oz 0 [I z.plain.type_,Cx z.plain.num,.bool z.plain.bool,Sl df z.plain.list dg,dc,de] rfl)) ?_)
 refine have o0:=Ss Kd.cpx ez b4;have o1:=Mt hi b4;have o2:=Mt hj b4;have o6:=Bs hf b4;have o7:=Ss AL ey b4;⟨he,Sl hg hd.2.1 hh,Ho (T3 (T4 (Mo [1,21,25,26,27] d) c a8 a5 ay) bp ex b4) p,o6,o7,Ej ⟨[I z.plain.type_,Cx z.plain.num,.bool z.plain.bool,Sl df z.plain.list dg,dc,de],rfl,(CS (x:=z) o0 o1 o2)⟩⟩
 refine Sr<|Vr (.bool (h.op==22))<|Va (.bool (h.op==22))<|AA<|Cn a (fun o8 a=>?_) fun o8 a=>?_
 refine Sr<|Vm<|Vx (Run.fieldAddr B6 rfl)<|Vx (Run.load1 Ez rfl (Bk.cell aq rfl))<|Bi a fun am pa a=>have hk:=K2 AJ bz d c; ?_
 obtain ⟨pb,pc,uu,pd,pe,pf,pg,ph,e0⟩:=BX (κ:=AJ) hk pa
 replace e0:BG a6 bn pb (pc+(0:Int).toNat*7) pd:=e0
 obtain ⟨uv,rfl,hl⟩:=Am ph
 obtain ⟨hm,hn,rfl⟩:=AI hl
 refine Vx (Run.indexAddr Dx pe rfl pf pg)<|Vx (Run.loadN BL rfl rfl (BG.part0 e0 [I am.op,Sb am.name,Sb am.tail,I am.type_,Cx am.num,Sl hm am.args hn,I am.at_] rfl))<|Vm<|have pi:=Y2 b7 d c;have pj:=K2 AL bw d c;have ho:=Ms (Ms b8 d) c;have e1:=Me (Me bx d) c;Bi a fun pk pl a=>Hh (.none rfl) rfl rfl (K0 [Pt ao 0,.agg [I am.op,Sb am.name,Sb am.tail,I am.type_,Cx am.num,Sl hm am.args hn,I am.at_].toArray,ap] rfl)<|Calls.mono (a3.mean_run_look a6 bn pl dcd dcd pi pj ho (Ag (x:=am) hl) e1) ?_
 rintro _ uw ⟨hp,ux,be,hq,e2,pm⟩
 obtain ⟨pn,po,rfl⟩:=AI e2
 obtain ⟨uy,pp,rfl⟩| ⟨aa,pq,uz,rfl,u0,rfl,pr⟩:=D8.split pm
 refine have a:=Dg a pp; .inl ⟨_,rfl,?_⟩
 obtain rfl:=AP a
 refine M3 (B:=B) q<|⟨hp,Sl pn pk.2.1 po,Ho (T2 (Mo [1] d) c be) p,hq,e2,Fk⟩
 refine have a:=GG a pq; ?_
 obtain ⟨u2,dh,di,rfl,hr,hs,ht⟩:=DE pr
 obtain ⟨dj,dk,rfl⟩:=AI hr
 refine .inr ⟨_,rfl,?_⟩
 refine Ef (AY hp 28 Jj rfl fun e3 u3 u4 ps az=>?_)
 refine have hu:=Ss Kd.cpx hr az;Eu (Bf (vs:=[I aa.plain.type_,Cx aa.plain.num,.bool aa.plain.bool,Sl dj aa.plain.list dk,dh,di]) (cs':=[I aa.plain.type_,Cx aa.plain.num,.bool aa.plain.bool,Sl dj aa.plain.list dk,dh,di]) IP rfl rfl rfl rfl (AU rfl (AU rfl (AU rfl (AU (FK hu) (AU (MTh.one hs) (AU (MTh.one ht) CI)))))) ps dcd rfl rfl fun u5 pt a0=>?_)
 refine AA<|Ac<|Cc Ff (.q 0 (.q 1 (.q 2 (.q 3 (.q 4 (.q 5 (.q 6 (.q 7 (.q 9 (.one 8 (.q 10 (.one 11 (.one 12 (.one 13 .nil)))))))))))))) [13] [1,29] e3 (by kernel_rfl) fun hw aw=>Qx m rfl (v:=Pt ao 0) (fun _ ⟨_,f⟩=>Run.move rfl)<|Qx m rfl (fun _ ⟨_,f⟩=>Run.fieldAddr B6 rfl)<|have hx:=Y4 aq be az a0 aw;Qx m rfl (fun _ ⟨_,f⟩=>Run.load1 Ez rfl (Bk.cell (Bs hx f) rfl))<|Bi a fun an pu a=>have pv:=K4 AJ hk be az a0 aw; ?_
 obtain ⟨pw,px,u6,py,pz,p0,p1,p2,e4⟩:=BX (κ:=AJ) pv pu
 replace e4:BG e3 hw pw (px+(1:Int).toNat*7) py:=e4
 obtain ⟨u7,rfl,hy⟩:=Am p2
 obtain ⟨hz,h0,rfl⟩:=AI hy
 refine Qx m rfl (fun _ ⟨_,f⟩=>Run.indexAddr Dx pz rfl p0 p1)<|Qx m rfl (fun _ ⟨_,f⟩=>Run.loadN BL rfl rfl (BG.part0 (Es e4 f) [I an.op,Sb an.name,Sb an.tail,I an.type_,Cx an.num,Sl hz an.args h0,I an.at_] rfl))<|Qx m rfl (fun _ ⟨_,f⟩=>Run.fieldAddr HR rfl)<|Qx m rfl (fun _ ⟨_,f⟩=>Run.load1 De rfl (Bk.cell (Bs hx f) rfl))<|have p3:=Bs pt aw;Qx m rfl (fun _ ⟨_,f⟩=>Run.loadN In rfl rfl (Bk.part (Bs p3 f) 0 [I aa.plain.type_,Cx aa.plain.num,.bool aa.plain.bool,Sl dj aa.plain.list dk,dh,di] rfl))<|Qx m rfl (v:=ap) (fun _ ⟨_,f⟩=>Run.move rfl)<|BW rfl<|have p4:=K2 Kd.cpx hu a0 aw;have p5:=Mt (Mt (Mt hs az) a0) aw;have p6:=Mt (Mt (Mt ht az) a0) aw;Bi a fun u8 p7 a=>BN rfl (.none rfl) rfl rfl (Rk [.agg [I aa.plain.type_,Cx aa.plain.num,.bool aa.plain.bool,Sl dj aa.plain.list dk,dh,di].toArray] rfl)<|Calls.mono (Km e3 hw p7 (CS (x:=aa) p4 p5 p6)) ?_
 rintro _ va ⟨p8,h1,rfl,a1,h2⟩
 refine ⟨_,rfl,⟨_,(Mo [1,29] a1)⟩,?_⟩
 refine Qx m rfl (v:=.agg [Sb h.name,h1,ap].toArray) (fun _ ⟨_,f⟩=>GK (cs:=[Sb h.name,h1,ap]) [Sb ([]:List UInt8),.nilFunc,.pointer none] QF QD rfl (.cons rfl rfl rfl (.cons rfl (H1 (MTh.one h2)) rfl (.cons rfl (H1 (Fg.one e1)) rfl .nil))) rfl rfl)<|BW rfl<|DL rfl (.none rfl) rfl rfl (By p8 29 rfl rfl fun vb p9 qa qb a2=>?_)
 refine ⟨⟨_,(Tn (Mo [1,29] a1) a2)⟩,?_⟩
 refine To rfl<|have qc:=Mt h2 a2;have qd:=Me (Me (Me (Me (Me (Me e1 be) az) a0) aw) a1) a2; ?_
 obtain ⟨qe,bf,qf⟩:=Fg.lay qb dcd qc qd
 refine have qg:=Y2 (Y4 hq az a0 aw a1) a2 bf;have qh:=K2 AL (K4 AL e2 az a0 aw a1) a2 bf;have qi:=Ms (Ms (Ms (Ms (Ms (Ms (Ms ho be) az) a0) aw) a1) a2) bf;have qj:=K3 AJ hy a1 a2 bf;Bi a fun h3 qk a=>TQ.callp rfl (.none rfl) rfl rfl (K0 [Pt ao 0,.agg [I an.op,Sb an.name,Sb an.tail,I an.type_,Cx an.num,Sl hz an.args h0,I an.at_].toArray,Pt qa 0] rfl)<|Calls.mono (a3.mean_run_look qe p9 qk dcd dcd qg qh qi (Ag (x:=an) qj) qf) ?_
 rintro _ vc ⟨h4,vd,dl,h5,e5,ql⟩
 obtain ⟨h6,h7,rfl⟩:=AI e5
 obtain ⟨ve,qm,rfl⟩| ⟨ab,qn,vf,rfl,vg,rfl,qo⟩:=D8.split ql
 refine have a:=Dg a qm; .inl ⟨_,rfl,?_⟩
 obtain rfl:=AP a
 refine M3 (B:=B) q<|⟨h4,Sl h6 h3.2.1 h7,Ho (Tn (T4 (T4 (Mo [1,28,29] d) c be az a0) aw a1 a2 bf) dl) p,h5,e5,Fk⟩
 refine have a:=GG a qn; ?_
 obtain ⟨vh,dm,dn,rfl,e6,h8,h9⟩:=DE qo
 obtain ⟨dp,dq,rfl⟩:=AI e6
 refine .inr ⟨_,rfl,⟨_,(T3 (Mo [1,29] a1) a2 bf dl)⟩,?_⟩
 refine E0 dcd<|WY.one<|have qp:=Y4 (Y4 bo be az a0 aw) a1 a2 bf dl;BT rfl (.none rfl) rfl (Bf (vs:=[I ab.plain.type_,Cx ab.plain.num,.bool ab.plain.bool,Sl dp ab.plain.list dq,dm,dn]) (cs':=[I ab.plain.type_,Cx ab.plain.num,.bool ab.plain.bool,Sl dp ab.plain.list dq,dm,dn]) IP rfl rfl rfl rfl (AU rfl (AU rfl (AU rfl (AU (FK e6) (AU (MTh.one h8) (AU (MTh.one h9) CI)))))) qp dcd rfl rfl fun vi qq b5=>?_)
 refine WY.nil<|AZ ?_
 obtain rfl:=AP a
 refine A0 (B:=B) q (BQ rfl (.agg In rfl rfl (Bk.part qq 0 [I ab.plain.type_,Cx ab.plain.num,.bool ab.plain.bool,Sl dp ab.plain.list dq,dm,dn] rfl)) ?_)
 refine have qr:=Ss Kd.cpx e6 b5;have qs:=Mt h8 b5;have qt:=Mt h9 b5;have qu:=Bs h5 b5;have qv:=Ss AL e5 b5;⟨h4,Sl h6 h3.2.1 h7,Ho (T2 (T4 (T4 (Mo [1,21,28,29] d) c be az a0) aw a1 a2 bf) dl b5) p,qu,qv,Ej ⟨[I ab.plain.type_,Cx ab.plain.num,.bool ab.plain.bool,Sl dp ab.plain.list dq,dm,dn],rfl,(CS (x:=ab) qr qs qt)⟩⟩
 refine WC.skip<|Sr<|Va (.slice none 0 0)<|AA<|Ac<|Sr<|Vx (Run.fieldAddr B6 rfl)<|Vx (Run.load1 Ez rfl (Bk.cell aq rfl))<|have ia:=K2 AJ bz d c; ?_
 obtain ⟨vj,vk,qw⟩:=AI ia
 refine Vx (v:=I (h.args.length:Int)) (Run.lenSlc Dx qw)<|Vm<|AA<|Ao<|CZ (fun bg e7 bq=>∃(ca:Env) (br:Col) (a9:(List AG)) (dr:Option Addr) (ds:Nat) (bh:Int) (ba:(List AK)) (cb:Option Addr) (cc:Nat) (cd:Int) (cf:Int),e7=ca.puts [(0,.pointer (some ⟨ao,0,none⟩)),(2,ap),(4,.pointer (some ⟨i3,0,none⟩)),(6,.pointer (some ⟨fi,0,none⟩)),(10,.slice dr a9.length ds),(127,.slice i0 h.args.length i1),(128,.int .i64 (h.args.length:Int)),(129,.int .i64 bh)]∧Cy bv bm cl h cm bg a9 bh ba cd cf=some dw∧AO [1,30,32] a6 bn br bq∧Own Ax 38 br bq 32 (Sl dr a9 ds) a9∧Slc AL br.F bq (Sl cb ba cc) ba∧Bk br bq 1 ao [.map (some iw),Sl cb ba cc,I cd,I cf] 83) bm ?_ ?_
 refine have qx:=K2 AL bw d c;have qy:=Y2 b7 d c;⟨_,a6,([]:List AG),none,0,0,it,iy,iz,iu,iv,Pu,a,(AO.refl [1,30,32] _ _),Own.nil,qx,qy⟩
 rintro bg _ bq ⟨ca,br,a9,dr,ds,bh,ba,cb,cc,cd,cf,rfl,a,bb,ib,e8,e9⟩
 rcases bg with _|bg
 exact BK a
 refine have a:BE bv bm cl h cm (Cy bv bm cl h cm bg) a9 bh ba cd cf=some dw:=a; ?_
 obtain ⟨vl,ic⟩:∃s,s=Cy bv bm cl h cm bg:=⟨_,rfl⟩
 rw [←ic,BE] at a
 refine Sr<|Vr (.bool (decide (bh< (h.args.length:Int))))<|AA<|Ac<|Cn a (fun qz a=>?_) fun qz a=>?_
 refine WC.skip<|Ac<|Ao<|Sr<|Bi a fun l q0 a=>have q1:=Ss AJ ia bb; ?_
 obtain ⟨q2,q3,vm,q4,q5,q6,q7,q8,fa⟩:=BX (κ:=AJ) q1 q0
 replace fa:BG br bq q2 (q3+bh.toNat*7) q4:=fa
 obtain ⟨vn,rfl,id⟩:=Am q8
 obtain ⟨fb,fc,rfl⟩:=AI id
 refine Vx (Run.indexAddr Dx q5 rfl q6 q7)<|Vx (Run.loadN BL rfl rfl (BG.part0 fa [I l.op,Sb l.name,Sb l.tail,I l.type_,Cx l.num,Sl fb l.args fc,I l.at_] rfl))<|Ef (AY br 30 DJ rfl fun q9 vo vp ra bi=>?_)
 refine have rb:=Ss AJ id bi;Eu (St Dd ra rfl rfl rfl rfl fun rc rd bj=>?_)
 refine AA<|AQ<|Vm<|Vm<|Vx (Run.loadN BL rfl rfl (Bk.part rd 0 [I l.op,Sb l.name,Sb l.tail,I l.type_,Cx l.num,Sl fb l.args fc,I l.at_] rfl))<|Vm<|have re:=Y2 e9 bi bj;have rf:=K2 AL e8 bi bj;have rg:=Ms (Ms (Ms (Ms (Ms b8 d) c) bb) bi) bj;have rh:=Ss AJ rb bj;have ri:=Me (Me (Me (Me (Me bx d) c) bb) bi) bj;Bi a fun dt rj a=>Hh (.none rfl) rfl rfl (K0 [Pt ao 0,.agg [I l.op,Sb l.name,Sb l.tail,I l.type_,Cx l.num,Sl fb l.args fc,I l.at_].toArray,ap] rfl)<|Calls.mono (a3.mean_run_look q9 rc rj dcd dcd re rf rg (Ag (x:=l) rh) ri) ?_
 rintro _ vq ⟨ie,vr,fd,ig,fe,rk⟩
 obtain ⟨ih,ii,rfl⟩:=AI fe
 obtain ⟨vt,rl,rfl⟩| ⟨e,rm,vu,rfl,vv,rfl,rn⟩:=D8.split rk
 refine have a:=Dg a rl; .inl ⟨_,rfl,?_⟩
 obtain rfl:=AP a
 refine M3 (B:=B) q<|⟨ie,Sl ih dt.2.1 ii,Ho (Tn (T4 (Mo [1,30,32] d) c bb bi bj) fd) p,ig,fe,Fk⟩
 refine have a:=GG a rm; ?_
 obtain ⟨vw,ro,rp,rfl,ij,vx,vy⟩:=DE rn
 obtain ⟨cg,ch,rfl⟩:=AI ij
 refine .inr ⟨_,rfl,?_⟩
 refine Vx (v:=.agg [I e.plain.type_,Cx e.plain.num,.bool e.plain.bool,Sl cg e.plain.list ch].toArray) (O5 (cs:=[I e.plain.type_,Cx e.plain.num,.bool e.plain.bool,Sl cg e.plain.list ch,ro,rp]) Rr rfl)<|Ef (E1 (cs:=[I e.plain.type_,Cx e.plain.num,.bool e.plain.bool,Sl cg e.plain.list ch]) ie 31 [[I e.plain.type_,Cx e.plain.num,.bool e.plain.bool,Sl cg e.plain.list ch]] L2 Ep rfl rfl (.cons rfl rfl rfl .nil) rfl fun rq rr rs rt ci=>?_)
 refine have ru:=Ss Kd.cpx ij ci;have rx:Own Ax 38 rq rr 31 (.slice (some ⟨rs,0,none⟩) 1 1) ([(AG.mk e.plain.type_ e.plain.num e.plain.bool e.plain.list)]:List AG):=Own.lit (css:=[[I e.plain.type_,Cx e.plain.num,.bool e.plain.bool,Sl cg e.plain.list ch]]) rt rfl rfl rfl (Aa (BB (x:=(AG.mk e.plain.type_ e.plain.num e.plain.bool e.plain.list)) ru) Ba) (A9 rfl Gg) rfl;have ry:=Os (Os (Os (Os ib bi) bj) fd) ci;Bi a fun vz ik a=>Ef (Ey (κ:=Ax) rfl rfl ry dcd XP (F3 rx) (JP ik) (Js ik) fun v1 rz v2 il ff=>?_)
 obtain ⟨im,io,rfl⟩:=Own.len il
 refine Va (Sl im ((a9++([(AG.mk e.plain.type_ e.plain.num e.plain.bool e.plain.list)]:List AG))) io)<|AA<|AQ<|Vr (I (Wr (bh+1)))<|Vm<|AA<|have r0:=K2 AL fe ci ff;have r1:=Y2 ig ci ff;⟨bg,Nat.lt_succ_self bg,_,rz,(a9++([(AG.mk e.plain.type_ e.plain.num e.plain.bool e.plain.list)]:List AG)),im,io,(Wr (bh+1)),dt.2.1,ih,ii,dt.2.2.1,dt.2.2.2,Pu,(ic▸a),(Tn (T4 (Mo [1,30,32] bb) bi bj fd ci) ff),il,r0,r1⟩
 refine CF<|Sr<|Vx (Run.fieldAddr0 GJ rfl)<|have r2:=Bs aq bb;Vx (Run.load1 Kl rfl (Bk.cell r2 rfl))<|Vm ?_
 obtain ⟨r3,bt,r4⟩:=Own.freeze (S:=[32]) ib dcd dcd
 refine Bi a fun g r5 a=>Ca (AAP [I h.op,Sl dr a9 ds] rfl) (TI bm r3 bq r5 r4) ?_
 rintro _ v3 ⟨r6,v4,rfl,bu,r7⟩
 obtain ⟨v5,rfl,ip⟩:=Bt r7
 obtain ⟨cj,ck,rfl⟩:=AI ip
 refine ⟨_,rfl,?_⟩
 refine Vm<|Vr (.agg [I g.1.type_,Cx g.1.num,.bool g.1.bool,Sl cj g.1.list ck].toArray)<|Vr (I g.2)<|Ef (AY r6 33 Ep rfl fun fg v6 r8 r9 bk=>?_)
 refine have sa:=Ss Kd.cpx ip bk;Eu (St Fe r9 rfl rfl rfl rfl fun sb sc bl=>?_)
 refine Va (I g.2)<|AA<|Au (fun e7 iq=>∃(ca:Env) (fh:Col),e7=ca.puts [(6,.pointer (some ⟨fi,0,none⟩)),(13,.pointer (some ⟨r8,0,none⟩))]∧Kg ba cd cf g=some dw∧AO [] fg sb fh iq) ?_ ?_
 refine Sr<|Vm<|Vr (.bool (g.2 != 0))<|AA<|Cn a (fun sd a=>?_) fun sd a=>?_
 refine AQ<|Vm<|Vr (.iface 33 (I g.2))<|Rh (.none rfl) (P4 rfl)<|have se:=Y4 e9 bt bu bk bl;have sf:=K4 AL e8 bt bu bk bl; ?_
 obtain rfl:=AP a
 refine M3 (B:=B) q<|⟨fg,Sl cb ba cc,Ho (T2 (T4 (Mo [1,30,32,33] d) c bb bt bu) bk bl) p,se,sf,Fk⟩
 refine WC.skip<|⟨_,fg,Pu,a,(AO.refl [] _ _)⟩
 rintro _ iq ⟨ca,fh,rfl,a,b6⟩
 rw [Kg] at a
 refine Sr<|have sg:=Bs sc b6;Vx (Run.loadN Dc rfl rfl (Bk.part sg 0 [I g.1.type_,Cx g.1.num,.bool g.1.bool,Sl cj g.1.list ck] rfl))<|Vx (v:=.agg [I g.1.type_,Cx g.1.num,.bool g.1.bool,Sl cj g.1.list ck,.nilFunc,.nilFunc].toArray) (Bp Jj Md rfl (.cons rfl rfl rfl .nil))<|have sh:=Y2 (Y4 bo bb bt bu bk) bl b6;have si:=K2 Kd.cpx sa bl b6;Eu (St IP sh rfl rfl rfl rfl fun v7 sj du=>?_)
 refine AA<|AZ ?_
 obtain rfl:=AP a
 refine A0 (B:=B) q (BQ rfl (.agg In rfl rfl (Bk.part sj 0 [I g.1.type_,Cx g.1.num,.bool g.1.bool,Sl cj g.1.list ck,.nilFunc,.nilFunc] rfl)) ?_)
 refine have sk:=Ss Kd.cpx si du;have sl:=Y2 (Y4 e9 bt bu bk bl) b6 du;have sm:=K2 AL (K4 AL e8 bt bu bk bl) b6 du;⟨fh,Sl cb ba cc,Ho (T4 (T4 (Mo [1,21,30,32,33] d) c bb bt bu) bk bl b6 du) p,sl,sm,Ej ⟨[I g.1.type_,Cx g.1.num,.bool g.1.bool,Sl cj g.1.list ck,.nilFunc,.nilFunc],rfl,(CS (x:=(Ak.mk g.1 Th.nil Th.nil)) sk MTh.nil MTh.nil)⟩⟩
theorem PE(d:AT)(f:Nat)(m:AT.Good d):mean_run_parts.Spec (Ay d f):=by
 intro e g a c ac ad ae af ag ah ai aj ak al am an n hnd hnz l o p q s
 refine Calls.mono (PD d f m (recol (see [a,c]) e) g (A3 lbr e) n trivial trivial (A1 l [a,c] (A8 hnd hnz (i:=0) rfl)) (DC AL o [a,c]) (GE p [a,c] (A8 hnd hnz (i:=1) rfl)) (Av AJ q [a,c]) (Fg.recol s [a,c])) ?_
 rintro ao ap ⟨w,y,z,aa,ab,en⟩
 exact ⟨glue [a,c] g e w,y,Ah z (DI rfl rfl),B9 l aa dcd,Et AL ab,Oe en fun r v ⟨u,hv,h⟩=>⟨u,hv,BA GI h⟩⟩
theorem AT.good:∀d,AT.Good (AT.at d)
 |0=>⟨by intro a c;intros;(try intro _);intros;exact BK (by assumption),by intro a c;intros;(try intro _);intros;exact BK (by assumption),by intro a c;intros;(try intro _);intros;exact BK (by assumption),by intro a c;intros;(try intro _);intros;exact BK (by assumption)⟩
 |n+1=>⟨Ph _ n (AT.good n),QP _ n (AT.good n),RF _ n (AT.good n),PE _ n (AT.good n)⟩
theorem QQ(a:Nat):mean_run_look.Spec (mean_run_look a):=(AT.good a).mean_run_look
theorem OW(a:Nat):mean_callth.Spec (mean_callth a):=(AT.good a).mean_callth
def Dr.At(G1 G2:Prop)(c:Col)(a:World)(f:(List AK)→Int→Int→Ae→Ak→Option ((Except Int AG)×(List AK)×Int×Int))(h:Nat)(aa:Nat):Prop:=
 ∀{l:Nat} {n:(List AK)} {o:Value} {p:Int} {q:Int} {m:Nat} {s:Ae} {w:Ak} {y:List Value} {d:(Except Int AG)×(List AK)×Int×Int},f n p q s w=some d→G1→G2→Bk c a h l [.map (some m),o,I p,I q] 83→Slc AL c.F a o n→Mp c a aa m s→GI.rep c.F a y w→
  Calls Tryz.prog 34 #[Pt l 0,.agg y.toArray] a fun ab e=>∃(g:Col) (z:Value),AO [h] c a g e∧Bk g e h l [.map (some m),z,I d.2.2.1,I d.2.2.2] 83∧Slc AL g.F e z d.2.1∧D8 33 d.1 ab (fun r v=>∃u:List Value,v=.agg u.toArray∧Ax.rep g.F e u r)
def Dr.Spec(f:(List AK)→Int→Int→Ae→Ak→Option ((Except Int AG)×(List AK)×Int×Int)):Prop:=
 ∀(d:Col) (e:World) {a:Nat} {c:Nat},Dr.At ([a,c].Nodup) (0∉[a,c]) d e f a c
theorem PF(y:Nat)(a4:Col)(cn:World)(al:∀b,a4 b<10):Dr.At True True a4 cn (Dr y) 1 2:=by
 intro ai bp e6 co cq cr am c e7 bq a _ _ br a5 ct cu
 rw [Dr] at a
 obtain ⟨bt,bu,rfl⟩:=AI a5
 obtain ⟨e8,cv,cw,rfl,a6,cx,cy⟩:=DE cu
 obtain ⟨an,ao,rfl⟩:=AI a6
 refine A5 Tryz.func34 rfl Tryz.ntmps34 rfl fun B ap z=>Sr<|Ef (By a4 20 rfl rfl fun cz e9 bv c0 h=>?_)
 refine Ef (AY cz 21 Ep rfl fun bw fa c1 bx f=>?_)
 refine AA<|Ac<|Sr<|Vx (Run.fieldAddr OD rfl)<|have a7:=Bs c0 f;Vx (Run.load1 OG rfl (Bk.cell a7 rfl))<|have bz:=Mt (Mt cx h) f;Vx (v:=.bool (Th.isNil c.head)) (Qc Tx rfl rfl bz)<|AA<|Cn a (fun c2 a=>?_) fun c2 a=>?_
 refine Sr<|Vx (Run.fieldAddr0 Xe rfl)<|Vx (Run.loadN Dc rfl rfl (Bk.part a7 0 [I c.plain.type_,Cx c.plain.num,.bool c.plain.bool,Sl an c.plain.list ao] rfl))<|have c3:=K2 Kd.cpx a6 h f;Eu (St Fe bx rfl rfl rfl rfl fun fb c4 aq=>?_)
 refine AA<|AZ ?_
 obtain rfl:=AP a
 refine A0 (B:=B) ap (BQ rfl (.agg Dc rfl rfl (Bk.part c4 0 [I c.plain.type_,Cx c.plain.num,.bool c.plain.bool,Sl an c.plain.list ao] rfl)) ?_)
 refine have c5:=Ss Kd.cpx c3 aq;have c6:=Y3 br h f aq;have c7:=K3 AL a5 h f aq;⟨bw,Sl bt bp bu,Ho (T2 (Mo [21] h) f aq) al,c6,c7,Ej ⟨[I c.plain.type_,Cx c.plain.num,.bool c.plain.bool,Sl an c.plain.list ao],rfl,(BB (x:=(AG.mk c.plain.type_ c.plain.num c.plain.bool c.plain.list)) c5)⟩⟩
 refine WC.skip<|Sr<|Vx (v:=.agg [I 3,Cx (((0,0):Nat×Nat)),.bool false,.slice none 0 0].toArray) (Bp Ep Iq rfl (.cons rfl rfl rfl .nil))<|Ef (AY bw 22 Ep rfl fun b0 fc b1 c8 m=>?_)
 refine Eu (St Fe c8 rfl rfl rfl rfl fun c9 da n=>?_)
 refine AA<|Ac<|Ao<|CZ (fun aa db r=>∃(b2:Env) (l:Col) (af:(List AK)) (ar:Option Addr) (au:Nat) (av:Int) (aw:Int) (ax:Int) (ay:(Nat×Nat)) (az:Bool) (ag:(List (Nat×Nat))) (a8:Option Addr) (a9:Nat) (aj:Th) (ba:Value) (a0:Th) (bb:Value) (e:(List (Nat×Nat))) (ab:Option Addr) (ac:Nat),db=b2.puts [(0,.pointer (some ⟨ai,0,none⟩)),(3,.pointer (some ⟨bv,0,none⟩)),(4,.pointer (some ⟨c1,0,none⟩)),(5,.pointer (some ⟨b1,0,none⟩))]∧DY y am aa af av aw ax ay az ag aj a0 e=some bq∧AO [1,20,22,24] b0 c9 l r∧Slc AL l.F r (Sl ar af au) af∧Slc Kd.cpx l.F r (Sl a8 ag a9) ag∧Own Kd.cpx 35 l r 24 (Sl ab e ac) e∧MTh 89 90 l.F r ba aj∧MTh 89 90 l.F r bb a0∧Bk l r 1 ai [.map (some cr),Sl ar af au,I av,I aw] 83∧Bk l r 20 bv [I ax,Cx ay,.bool az,Sl a8 ag a9,ba,bb] 96∧Bk l r 22 b1 [I 3,Cx (((0,0):Nat×Nat)),.bool false,Sl ab e ac] 38) y ?_ ?_
 refine have dc:=K4 AL a5 h f m n;have de:=K4 Kd.cpx a6 h f m n;have df:=Mt (Mt bz m) n;have dg:=Mt (Mt (Mt (Mt cy h) f) m) n;have dh:=Y4 br h f m n;have di:=Y2 a7 m n;⟨_,b0,bp,bt,bu,co,cq,c.plain.type_,c.plain.num,c.plain.bool,c.plain.list,an,ao,c.head,cv,c.tail,cw,([]:List (Nat×Nat)),none,0,Pu,a,(AO.refl [1,20,22,24] _ _),dc,de,Own.nil,df,dg,dh,di,da⟩
 rintro aa _ r ⟨b2,l,af,ar,au,av,aw,ax,ay,az,ag,a8,a9,aj,ba,a0,bb,e,ab,ac,rfl,a,ah,b3,fd,bc,b4,dj,b5,b6,b7⟩
 rcases aa with _|aa
 exact BK a
 refine have a:CH y am (DY y am aa) af av aw ax ay az ag aj a0 e=some bq:=a; ?_
 obtain ⟨fe,b8⟩:∃s,s=DY y am aa:=⟨_,rfl⟩
 rw [←b8,CH] at a
 refine Ac<|Sr<|Vx (Run.fieldAddr OD rfl)<|Vx (Run.load1 OG rfl (Bk.cell b6 rfl))<|Vx (v:=.bool (!(Th.isNil aj))) (Ri Tx rfl rfl b4)<|AA<|Cn a (fun dk a=>?_) fun dk a=>?_
 refine WC.skip<|Ao<|Ac<|Cc Ff (.q 0 (.q 1 (.q 2 (.q 3 (.q 4 (.one 5 (.q 6 (.q 7 (.one 8 (.one 9 (.q 10 (.one 11 .nil)))))))))))) [11] [1,24] l (by kernel_rfl) fun dl o=>Qx z rfl (fun _ ⟨_,u⟩=>Run.fieldAddr Ew rfl)<|have b9:=Bs b7 o;Qx z rfl (fun _ ⟨_,u⟩=>Run.load1 Ip rfl (Bk.cell (Bs b9 u) rfl))<|Qx z rfl (fun _ ⟨_,u⟩=>Run.fieldAddr OD rfl)<|have ca:=Bs b6 o;Qx z rfl (fun _ ⟨_,u⟩=>Run.load1 OG rfl (Bk.cell (Bs ca u) rfl))<|Qx z rfl (v:=Pt ai 0) (fun _ ⟨_,u⟩=>Run.move rfl)<|To rfl<|have dm:=Bs b5 o;have dn:=Ss AL b3 o;have cb:=Ms (Ms (Ms (Ms (Ms (Ms ct h) f) m) n) ah) o;have dp:=Mt b4 o;Bi a fun dq dr a=>?_
 obtain ⟨ff,fg,ds,dt⟩:=OW y l dl dr dcd dcd dm dn cb dp
 refine TQ.callp rfl (.none rfl) rfl rfl (ds (vs:=[Pt ai 0]) rfl rfl)<|Calls.mono dt ?_
 rintro _ fh ⟨cc,fi,p,cd,bd,du⟩
 obtain ⟨dv,dw,rfl⟩:=AI bd
 obtain ⟨fj,dx,rfl⟩| ⟨d,dy,fk,rfl,fl,rfl,dz⟩:=D8.split du
 refine have a:=Dg a dx; .inl ⟨_,rfl,?_⟩
 obtain rfl:=AP a
 refine M3 (B:=B) ap<|⟨cc,Sl dv dq.2.1 dw,Ho (T2 (T4 (Mo [1,20,22,24] h) f m n ah) o p) al,cd,bd,Fk⟩
 refine have a:=GG a dy; ?_
 obtain ⟨fm,d0,d1,rfl,d2,fn,fo⟩:=DE dz
 obtain ⟨be,bf,rfl⟩:=AI d2
 refine .inr ⟨_,rfl,⟨_,(Mo [1,24] p)⟩,?_⟩
 refine Qx z rfl (v:=.agg [I d.plain.type_,Cx d.plain.num,.bool d.plain.bool,Sl be d.plain.list bf].toArray) (fun _ ⟨_,u⟩=>O5 (cs:=[I d.plain.type_,Cx d.plain.num,.bool d.plain.bool,Sl be d.plain.list bf,d0,d1]) Rr rfl)<|Qx z rfl (v:=Cx d.plain.num) (fun _ ⟨_,u⟩=>KK (cs:=[I d.plain.type_,Cx d.plain.num,.bool d.plain.bool,Sl be d.plain.list bf]) Xf rfl rfl)<|BW rfl<|DL rfl (.none rfl) rfl rfl (E1 (cs:=[Cx d.plain.num]) cc 23 [[Cx d.plain.num]] IQ Xl rfl rfl (.cons rfl rfl rfl .nil) rfl fun d3 d4 d5 d6 q=>?_)
 refine have d7:Own Kd.cpx 35 d3 d4 23 (.slice (some ⟨d5,0,none⟩) 1 1) ([d.plain.num]:List (Nat×Nat)):=Own.lit (css:=[[Cx d.plain.num]]) d6 rfl rfl rfl (Aa rfl Ba) (A9 rfl Gg) rfl;⟨⟨_,(Tn (Mo [1,24] p) q)⟩,?_⟩
 refine BW rfl<|have d8:=Os (Os (Os bc o) p) q;Bi a fun fp cf a=>DL rfl (.none rfl) rfl rfl (Ey (κ:=Kd.cpx) rfl rfl d8 dcd XQ (F3 d7) (JP cf) (Js cf) fun fq d9 fr bg w=>?_)
 obtain ⟨bh,bi,rfl⟩:=Own.len bg
 refine ⟨⟨_,(T2 (Mo [1,24] p) q w)⟩,?_⟩
 refine Qx z rfl (fun _ ⟨_,u⟩=>Run.fieldAddr Ew rfl)<|E0 dcd<|WY.one<|have ea:=Y3 b9 p q w;BT rfl (.none rfl) rfl (Bf (vs:=[Sl bh ((e++([d.plain.num]:List (Nat×Nat)))) bi]) (cs':=[I 3,Cx (((0,0):Nat×Nat)),.bool false,Sl bh ((e++([d.plain.num]:List (Nat×Nat)))) bi]) Xi rfl rfl rfl rfl (AU (Own.one bg) CI) ea dcd rfl rfl fun eb ec ad=>?_)
 refine WY.nil<|AQ<|Vx (Run.fieldAddr Us rfl)<|have cg:=Y4 ca p q w ad;Vx (Run.load1 OG rfl (Bk.cell cg rfl))<|Vm<|have ed:=Y3 cd q w ad;have ee:=K3 AL bd q w ad;have ef:=Ms (Ms (Ms (Ms cb p) q) w) ad;have eg:=Mt (Mt (Mt (Mt (Mt dj o) p) q) w) ad;Bi a fun a1 eh a=>?_
 obtain ⟨fs,ft,ei,ej⟩:=OW y d9 eb eh dcd dcd ed ee ef eg
 refine Hh (.none rfl) rfl rfl (ei (vs:=[Pt ai 0]) rfl rfl)<|Calls.mono ej ?_
 rintro _ fu ⟨ch,fv,ak,ci,bj,ek⟩
 obtain ⟨cj,ck,rfl⟩:=AI bj
 obtain ⟨fw,el,rfl⟩| ⟨g,em,fx,rfl,fy,rfl,en⟩:=D8.split ek
 refine have a:=Dg a el; .inl ⟨_,rfl,?_⟩
 obtain rfl:=AP a
 refine M3 (B:=B) ap<|⟨ch,Sl cj a1.2.1 ck,Ho (T2 (T4 (T4 (Mo [1,20,22,24] h) f m n ah) o p q w) ad ak) al,ci,bj,Fk⟩
 refine have a:=GG a em; ?_
 obtain ⟨fz,bk,bl,rfl,bm,cl,cm⟩:=DE en
 obtain ⟨bn,bo,rfl⟩:=AI bm
 refine .inr ⟨_,rfl,?_⟩
 refine have eo:=Bs cg ak;Eu (Bf (vs:=[I g.plain.type_,Cx g.plain.num,.bool g.plain.bool,Sl bn g.plain.list bo,bk,bl]) (cs':=[I g.plain.type_,Cx g.plain.num,.bool g.plain.bool,Sl bn g.plain.list bo,bk,bl]) IP rfl rfl rfl rfl (AU rfl (AU rfl (AU rfl (AU (FK bm) (AU (MTh.one cl) (AU (MTh.one cm) CI)))))) eo dcd rfl rfl fun f0 ep ae=>?_)
 refine AA<|have eq:=Ss AL bj ae;have er:=Ss Kd.cpx bm ae;have es:=Os (Os (Os bg ad) ak) ae;have et:=Mt cl ae;have eu:=Mt cm ae;have ew:=Bs ci ae;have ex:=Y2 ec ak ae;⟨aa,Nat.lt_succ_self aa,_,ch,a1.2.1,cj,ck,a1.2.2.1,a1.2.2.2,g.plain.type_,g.plain.num,g.plain.bool,g.plain.list,bn,bo,g.head,bk,g.tail,bl,(e++([d.plain.num]:List (Nat×Nat))),bh,bi,Pu,(b8▸a),(T3 (T4 (Mo [1,20,22,24] ah) o p q w) ad ak ae),eq,er,es,et,eu,ew,ep,ex⟩
 refine CF<|Sr<|Vx (Run.loadN Dc rfl rfl (Bk.part b7 0 [I 3,Cx (((0,0):Nat×Nat)),.bool false,Sl ab e ac] rfl))<|have ey:=Y3 bx m n ah;Eu (Bf (vs:=[I 3,Cx (((0,0):Nat×Nat)),.bool false,Sl ab e ac]) (cs':=[I 3,Cx (((0,0):Nat×Nat)),.bool false,Sl ab e ac]) Fe rfl rfl rfl rfl (AU rfl (AU rfl (AU rfl (AU (Own.one bc) CI)))) ey dcd rfl rfl fun f1 ez a2=>?_)
 refine AA<|AZ<|have e0:=Os bc a2; ?_
 obtain ⟨e1,a3,e2⟩:=Own.freeze (S:=[24]) e0 dcd dcd
 obtain rfl:=AP a
 refine have e3:=Bs ez a3;A0 (B:=B) ap (BQ rfl (.agg Dc rfl rfl (Bk.part e3 0 [I 3,Cx (((0,0):Nat×Nat)),.bool false,Sl ab e ac] rfl)) ?_)
 refine have e4:=Y2 b5 a2 a3;have e5:=K2 AL b3 a2 a3;⟨e1,Sl ar af au,Ho (T2 (T4 (Mo [1,20,21,22,24] h) f m n ah) a2 a3) al,e4,e5,Ej ⟨[I 3,Cx (((0,0):Nat×Nat)),.bool false,Sl ab e ac],rfl,(BB (x:=(AG.mk 3 ((0,0):Nat×Nat) false e)) e2)⟩⟩
theorem Pi(e:Nat):Dr.Spec (Dr e):=by
 intro d f a c z aa ab ac ad ae af ag ah ai l hnd hnz g m n o
 refine Calls.mono (PF e (recol (see [a,c]) d) f (A3 lbr d) l trivial trivial (A1 g [a,c] (A8 hnd hnz (i:=0) rfl)) (DC AL m [a,c]) (GE n [a,c] (A8 hnd hnz (i:=1) rfl)) (Av GI o [a,c])) ?_
 rintro aj ak ⟨p,q,s,w,y,en⟩
 exact ⟨glue [a,c] f d p,q,Ah s (DI rfl rfl),B9 g w dcd,Et AL y,Oe en fun r v ⟨u,hv,h⟩=>⟨u,hv,BA Ax h⟩⟩
def EE.At(c:Col)(a:World)(f:AN→Bts→(List AG)→Int→Option Az):Prop:=
 ∀{d:AN} {e:List Value} {g:Bts} {h:(List AG)} {l:Value} {m:Int} {n:Az},f d g h m=some n→Cp.rep c.F a e d→Slc Ax c.F a l h→
  Calls Tryz.prog 13 #[.agg e.toArray,Sb g,l,I m] a fun r o=>∃(p:Col) (q:List Value),r=.returned (.agg q.toArray)∧AO [] c a p o∧JR.rep p.F o q n
def EE.Spec(f:AN→Bts→(List AG)→Int→Option Az):Prop:=
 ∀(a:Col) (c:World),EE.At a c f
theorem TJ(o:Nat)(b4:Col)(d4:World)(a0:∀b,b4 b<10):EE.At b4 d4 (EE o):=by
 intro z i0 ae p i1 l bd a d5 cu
 rw [EE] at a
 obtain ⟨i2,rfl,cv⟩:=Bl d5
 obtain ⟨bn,bo,rfl⟩:=AI cv
 obtain ⟨b5,b6,rfl⟩:=AI cu
 refine Qo Tryz.func13 rfl Tryz.ntmps13 rfl fun W B hW ad=>WA'.seq ad<|AQ<|Ef (By b4 20 rfl rfl fun d6 i3 d7 d8 ao=>?_)
 refine Ef (AY d6 21 LT rfl fun d9 ea ak a1 al=>?_)
 refine AA<|WA'.seq ad<|Sr<|have cw:=Bs d8 al;Vx (Run.loadN JI rfl rfl (Bk.part cw 0 [Sl bn z.funcs bo] rfl))<|have cx:=K2 AL cv ao al;Bi a fun bp eb a=>Ca (Z9 [.agg [Sl bn z.funcs bo].toArray] rfl) (SE o d9 ea eb (CA (x:=z) cx)) ?_
 rintro _ i4 ⟨cy,i5,rfl,q,ec⟩
 obtain rfl:=An ec
 refine ⟨_,rfl,?_⟩
 refine Vx (v:=I bp.why) (KK (cs:=[I bp.why,I bp.at_]) Xh rfl rfl)<|Vr (.bool (bp.why != 0))<|AA<|Cn a (fun ed a=>?_) fun ed a=>?_
 refine Sr<|Vx (v:=.agg [I 3,I 0,Cx (((0,0):Nat×Nat)),.bool false,.slice none 0 0,I 0,I 0,I 0,I 0].toArray) (Bp LT QB rfl (.cons rfl rfl rfl .nil))<|have ee:=Bs a1 q;Eu (St L0 ee rfl rfl rfl rfl fun i6 ef eg=>?_)
 refine AA<|AZ ?_
 obtain rfl:=AP a
 refine Ye hW (B:=B) ad (BQ rfl (.agg LQ rfl rfl (Bk.part ef 0 [I 3,I 0,Cx (((0,0):Nat×Nat)),.bool false,.slice none 0 0,I 0,I 0,I 0,I 0] rfl)) ?_)
 exact ⟨cy,[I 3,I 0,Cx (((0,0):Nat×Nat)),.bool false,.slice none 0 0,I 0,I 0,I 0,I 0],rfl,Ho (T3 (Mo [21] ao) al q eg) a0,(D5 (x:=(Az.mk 3 (AG.mk 0 ((0,0):Nat×Nat) false []) 0 0 0 0)) Cd)⟩
 refine WC.skip<|WA'.seq ad<|AQ<|Ef (MI cy 22 fun eh i7 bq ei ac=>?_)
 refine Vx (Run.fieldAddr0 IC rfl)<|have cz:=Y2 cw q ac;Vx (Run.load1 Ji rfl (Bk.cell cz rfl))<|Vm<|Vx (v:=I (if l<0 then 0 else l)) (Run.max rfl rfl)<|Vx (v:=I (if 16384< (if l<0 then 0 else l) then 16384 else (if l<0 then 0 else l))) (Run.min rfl rfl)<|Vx (v:=.agg [.map (some bq),Sl bn z.funcs bo,I 0,I (if 16384< (if l<0 then 0 else l) then 16384 else (if l<0 then 0 else l))].toArray) (Bp AAp AAk rfl (.cons rfl rfl rfl (.cons rfl rfl rfl (.cons rfl rfl rfl .nil))))<|Ef (By eh 23 rfl rfl fun ej i8 br c0 aa=>?_)
 refine Ef (AY ej 24 AAn rfl fun c1 i9 am ek m=>?_)
 refine Eu (St AAe ek rfl rfl rfl rfl fun el c2 n=>?_)
 refine AA<|WA'.seq ad<|Sr<|Vx (Run.fieldAddr0 IC rfl)<|have c3:=Y3 cz aa m n;Vx (Run.load1 Ji rfl (Bk.cell c3 rfl))<|have b7:=Ss AL (K4 AL cx q ac aa m) n; ?_
 obtain ⟨ja,jb,em⟩:=AI b7
 refine Vx (v:=I (z.funcs.length:Int)) (Run.lenSlc I3 em)<|Vm<|AA<|Ao<|CZ (fun au be bf=>∃(av:Env) (aw:Col) (ag:Int) (r:Ae),be=av.puts [(1,.string (bs ae)),(2,.slice b5 p.length b6),(4,.pointer (some ⟨d7,0,none⟩)),(8,.pointer (some ⟨ak,0,none⟩)),(9,.pointer (some ⟨am,0,none⟩)),(34,.slice bn z.funcs.length bo),(35,.int .i64 (z.funcs.length:Int)),(36,.int .i64 ag)]∧H9 o z ae p l au ag r=some bd∧AO [22,25] c1 el aw bf∧Mp aw bf 22 bq r) o ?_ ?_
 refine have en:=Ms (Ms (Ms ei aa) m) n;⟨_,c1,0,([]:Ae),Pu,a,(AO.refl [22,25] _ _),en⟩
 rintro au _ bf ⟨av,aw,ag,r,rfl,a,f,b8⟩
 rcases au with _|au
 exact BK a
 refine have a:IK o z ae p l (H9 o z ae p l au) ag r=some bd:=a; ?_
 obtain ⟨jc,c4⟩:∃s,s=H9 o z ae p l au:=⟨_,rfl⟩
 rw [←c4,IK] at a
 refine Sr<|Vr (.bool (decide (ag< (z.funcs.length:Int))))<|AA<|Ac<|Cn a (fun eo a=>?_) fun eo a=>?_
 refine WC.skip<|Ac<|Ao<|Sr<|Vm<|Bi a fun af ep a=>have eq:=Ss AL b7 f; ?_
 obtain ⟨er,es,jd,et,eu,ew,ex,ey,b9⟩:=BX (κ:=AL) eq ep
 replace b9:BG aw bf er (es+ag.toNat*11) et:=b9
 obtain ⟨je,jf,rfl,c5,c6⟩:=F4 ey
 obtain ⟨ez,e0,rfl⟩:=AI c5
 obtain ⟨e1,e2,rfl⟩:=AI c6
 refine Vx (Run.indexAddr I3 eu rfl ew ex)<|Vx (Run.loadN M9 rfl rfl (BG.part0 b9 [Sb af.name,Sl ez af.params e0,I af.type_,I af.body.op,Sb af.body.name,Sb af.body.tail,I af.body.type_,Cx af.body.num,Sl e1 af.body.args e2,I af.body.at_,I af.at_] rfl))<|Ef (AY aw 25 L3 rfl fun c7 jg jh e3 a2=>?_)
 refine Va (I ag)<|have ji:=Ss Ai c5 a2;have jj:=Ss AJ c6 a2;Eu (St ND e3 rfl rfl rfl rfl fun jk e4 bt=>?_)
 refine AA<|RJ<|Cc Ff (.q 0 (.q 1 (.q 2 (.q 3 (.q 4 (.q 5 (.q 6 (.one 7 .nil)))))))) [7] [] c7 (by kernel_rfl) fun jl bg=>have e5:=Y4 c2 f a2 bt bg;Qx Cm rfl (fun _ ⟨_,c⟩=>Run.load1 QA rfl (Bk.cell (Bs e5 c) rfl))<|Qx Cm rfl (fun _ ⟨_,c⟩=>Run.nilCheck rfl)<|Qx Cm rfl (fun _ ⟨_,c⟩=>Run.fieldAddr0 Rp rfl)<|have e6:=Y2 (Y4 c0 m n f a2) bt bg;Qx Cm rfl (fun _ ⟨_,c⟩=>Run.load1 OF rfl (Bk.cell (Bs e6 c) rfl))<|Qx Cm rfl (fun _ ⟨_,c⟩=>Run.fieldAddr0 PW rfl)<|have e7:=Bs e4 bg;Qx Cm rfl (fun _ ⟨_,c⟩=>Run.load1 De rfl (Bk.cell (Bs e7 c) rfl))<|Qx Cm rfl (v:=I ag) (fun _ ⟨_,c⟩=>Run.move rfl)<|E0 dcd<|WY.one<|have e8:=Ms (Ms (Ms b8 a2) bt) bg;BT rfl (.none rfl) rfl (JD Jv rfl rfl rfl e8 fun jm e9 fa=>?_)
 refine WY.nil<|AQ<|Vr (I (Wr (ag+1)))<|Vm<|AA<|⟨au,Nat.lt_succ_self au,_,c7,(Wr (ag+1)),(Ko af.name ag r),Pu,(c4▸a),(T4 (Mo [22,25] f) a2 bt bg fa),e9⟩
 refine CF<|WA'.seq ad<|AQ<|have c8:=Bs c2 f;Vx (Run.load1 QA rfl (Bk.cell c8 rfl))<|Vx (Run.nilCheck rfl)<|Vx (Run.fieldAddr0 Rp rfl)<|have c9:=Y3 c0 m n f;Vx (Run.load1 OF rfl (Bk.cell c9 rfl))<|Vm<|Vx (v:=.tuple #[I (CJ r ae),.bool (Na r ae)]) (Uh Jv rfl rfl b8)<|Vm<|Vr (I (CJ r ae))<|Vr (.bool (Na r ae))<|Va (I (CJ r ae))<|Va (.bool (Na r ae))<|AA<|WA'.seq ad<|Sr<|Vm<|Vr (.bool (!(Na r ae)))<|AA<|Cn a (fun fb a=>?_) fun fb a=>?_
 refine Sr<|Vx (v:=.agg [I 32,I 0,Cx (((0,0):Nat×Nat)),.bool false,.slice none 0 0,I 0,I 0,I 0,I 0].toArray) (Bp LT QB rfl (.cons rfl rfl rfl .nil))<|have fc:=Y2 (Y4 a1 q ac aa m) n f;Eu (St L0 fc rfl rfl rfl rfl fun jn fd fe=>?_)
 refine AA<|AZ ?_
 obtain rfl:=AP a
 refine Ye hW (B:=B) ad (BQ rfl (.agg LQ rfl rfl (Bk.part fd 0 [I 32,I 0,Cx (((0,0):Nat×Nat)),.bool false,.slice none 0 0,I 0,I 0,I 0,I 0] rfl)) ?_)
 exact ⟨aw,[I 32,I 0,Cx (((0,0):Nat×Nat)),.bool false,.slice none 0 0,I 0,I 0,I 0,I 0],rfl,Ho (T4 (T4 (Mo [21,22,24,25] ao) al q ac aa) m n f fe) a0,(D5 (x:=(Az.mk 32 (AG.mk 0 ((0,0):Nat×Nat) false []) 0 0 0 0)) Cd)⟩
 refine WC.skip<|WA'.seq ad<|AQ<|Vx (Run.fieldAddr0 IC rfl)<|have ff:=Bs c3 f;Vx (Run.load1 Ji rfl (Bk.cell ff rfl))<|Vm<|Bi a fun d fg a=>have da:=Ss AL b7 f; ?_
 obtain ⟨fh,fi,jo,fj,fk,fl,fm,fn,ca⟩:=BX (κ:=AL) da fg
 replace ca:BG aw bf fh (fi+((CJ r ae)).toNat*11) fj:=ca
 obtain ⟨jp,jq,rfl,db,dc⟩:=F4 fn
 obtain ⟨fo,fp,rfl⟩:=AI db
 obtain ⟨cb,cc,rfl⟩:=AI dc
 refine Vx (Run.indexAddr I3 fk rfl fl fm)<|Vx (Run.loadN M9 rfl rfl (BG.part0 ca [Sb d.name,Sl fo d.params fp,I d.type_,I d.body.op,Sb d.body.name,Sb d.body.tail,I d.body.type_,Cx d.body.num,Sl cb d.body.args cc,I d.body.at_,I d.at_] rfl))<|Ef (AY aw 26 L3 rfl fun cd jr de fq u=>?_)
 refine have fr:=Ss Ai db u;have fs:=Ss AJ dc u;Eu (St ND fq rfl rfl rfl rfl fun ft bu w=>?_)
 refine AA<|WA'.seq ad<|Sr<|Vm<|have cf:=K2 Ax (K4 Ax (K4 Ax cu ao al q ac) aa m n f) u w; ?_
 obtain ⟨js,jt,fu⟩:=AI cf
 refine Vx (v:=I (p.length:Int)) (Run.lenSlc L2 fu)<|Vx (Run.fieldAddr Io rfl)<|Vx (Run.load1 HY rfl (Bk.cell bu rfl))<|have cg:=Ss Ai fr w; ?_
 obtain ⟨ju,jv,fv⟩:=AI cg
 refine Vx (v:=I (d.params.length:Int)) (Run.lenSlc G9 fv)<|Vr (.bool ((p.length:Int) != (d.params.length:Int)))<|AA<|Cn a (fun fw a=>?_) fun fw a=>?_
 refine Sr<|Vx (v:=.agg [I 40,I 0,Cx (((0,0):Nat×Nat)),.bool false,.slice none 0 0,I 0,I 0,I 0,I 0].toArray) (Bp LT QB rfl (.cons rfl rfl rfl .nil))<|have fx:=Y4 (Y4 a1 q ac aa m) n f u w;Eu (St L0 fx rfl rfl rfl rfl fun jw fy fz=>?_)
 refine AA<|AZ ?_
 obtain rfl:=AP a
 refine Ye hW (B:=B) ad (BQ rfl (.agg LQ rfl rfl (Bk.part fy 0 [I 40,I 0,Cx (((0,0):Nat×Nat)),.bool false,.slice none 0 0,I 0,I 0,I 0,I 0] rfl)) ?_)
 exact ⟨cd,[I 40,I 0,Cx (((0,0):Nat×Nat)),.bool false,.slice none 0 0,I 0,I 0,I 0,I 0],rfl,Ho (T2 (T4 (T4 (Mo [21,22,24,25,26] ao) al q ac aa) m n f u) w fz) a0,(D5 (x:=(Az.mk 40 (AG.mk 0 ((0,0):Nat×Nat) false []) 0 0 0 0)) Cd)⟩
 refine WC.skip<|WA'.seq ad<|AQ<|Va (.pointer none)<|AA<|WA'.seq ad<|Sr<|Vm ?_
 obtain ⟨jx,jy,f0⟩:=AI cf
 refine Vx (v:=I (p.length:Int)) (Run.lenSlc L2 f0)<|Vm<|AA<|Ao<|CZ (fun ax be bh=>∃(av:Env) (a3:Col) (a4:Nm) (ay:Value) (ab:Int),be=av.puts [(8,.pointer (some ⟨ak,0,none⟩)),(9,.pointer (some ⟨am,0,none⟩)),(14,.pointer (some ⟨de,0,none⟩)),(15,ay),(73,.slice b5 p.length b6),(74,.int .i64 (p.length:Int)),(75,.int .i64 ab)]∧EB o z p l r d ax a4 ab=some bd∧AO [27,28] cd ft a3 bh∧Fg 89 90 a3.F bh ay a4) o ?_ ?_
 exact ⟨_,cd,Nm.nil,.pointer none,0,Pu,a,(AO.refl [27,28] _ _),Fg.nil⟩
 rintro ax _ bh ⟨av,a3,a4,ay,ab,rfl,a,h,ch⟩
 rcases ax with _|ax
 exact BK a
 refine have a:FH o z p l r d (EB o z p l r d ax) a4 ab=some bd:=a; ?_
 obtain ⟨f1,df⟩:∃s,s=EB o z p l r d ax:=⟨_,rfl⟩
 rw [←df,FH] at a
 refine Sr<|Vr (.bool (decide (ab< (p.length:Int))))<|AA<|Ac<|Cn a (fun f2 a=>?_) fun f2 a=>?_
 refine WC.skip<|Ac<|Ao<|Sr<|Vm<|Bi a fun e f3 a=>have f4:=Ss Ax cf h; ?_
 obtain ⟨f5,f6,jz,f7,f8,f9,ga,gb,ci⟩:=BX (κ:=Ax) f4 f3
 replace ci:BG a3 bh f5 (f6+ab.toNat*4) f7:=ci
 obtain ⟨j0,rfl,dg⟩:=Bt gb
 obtain ⟨a5,a6,rfl⟩:=AI dg
 refine Vx (Run.indexAddr L2 f8 rfl f9 ga)<|Vx (Run.loadN Dc rfl rfl (BG.part0 ci [I e.type_,Cx e.num,.bool e.bool,Sl a5 e.list a6] rfl))<|Ef (AY a3 27 Ep rfl fun bi j1 gc gd ap=>?_)
 refine Va (I ab)<|have dh:=Ss Kd.cpx dg ap;Eu (St Fe gd rfl rfl rfl rfl fun ge di an=>?_)
 refine AA<|Ac<|Au (fun be dj=>∃(av:Env) (a7:Col) (cj:Bool),be=av.puts [(8,.pointer (some ⟨ak,0,none⟩)),(9,.pointer (some ⟨am,0,none⟩)),(14,.pointer (some ⟨de,0,none⟩)),(15,ay),(16,.int .i64 ab),(17,.pointer (some ⟨gc,0,none⟩)),(73,.slice b5 p.length b6),(74,.int .i64 (p.length:Int)),(75,.int .i64 ab),(93,.bool cj)]∧Kh o d a4 ab f1 e cj=some bd∧AO [] bi ge a7 dj) ?_ ?_
 refine RJ<|Cc Ff (.q 0 (.q 1 (.q 2 (.q 3 (.q 4 (.q 5 (.q 6 (.q 7 (.q 8 (.q 9 (.q 10 (.one 11 (.q 12 (.q 13 .nil)))))))))))))) [] [] bi (by kernel_rfl) fun dk a8=>Qx Cm rfl (fun _ ⟨_,c⟩=>Run.fieldAddr0 JB rfl)<|have dl:=Bs di a8;Qx Cm rfl (fun _ ⟨_,c⟩=>Run.load1 Fy rfl (Bk.cell (Bs dl c) rfl))<|Qx Cm rfl (fun _ ⟨_,c⟩=>Run.fieldAddr Io rfl)<|have gf:=Y4 bu h ap an a8;Qx Cm rfl (fun _ ⟨_,c⟩=>Run.load1 HY rfl (Bk.cell (Bs gf c) rfl))<|Qx Cm rfl (v:=I ab) (fun _ ⟨_,c⟩=>Run.move rfl)<|Bi a fun dm gg a=>have gh:=K4 Ai cg h ap an a8; ?_
 obtain ⟨gi,gj,j2,gk,gl,gm,gn,go,ck⟩:=BX (κ:=Ai) gh gg
 replace ck:BG bi dk gi (gj+ab.toNat*3) gk:=ck
 obtain rfl:=Iy go
 refine Qx Cm rfl (fun _ ⟨_,c⟩=>Run.indexAddr G9 gl rfl gm gn)<|Qx Cm rfl (fun _ ⟨_,c⟩=>Run.fieldAddr Rq rfl)<|Qx Cm rfl (fun _ ⟨_,c⟩=>Run.load1 Fy rfl (BG.cell (k:=1) (Es ck c) rfl))<|Qx Cm rfl (v:=.bool (e.type_ != dm.type_)) (fun _ ⟨_,c⟩=>rfl)<|Qx Cm rfl (v:=.bool (e.type_ != dm.type_)) (fun _ ⟨_,c⟩=>Run.move rfl)<|Bo a (fun aq a=>?_) fun aq a=>?_
 refine Qp Cm rfl aq<|BW rfl<|Oc rfl (.guard (t:=true) (b:=false) rfl rfl rfl rfl (Cb aq)) rfl rfl<|⟨⟨_,(AO.refl [] _ _)⟩,?_⟩
 refine Qp Cm rfl aq<|Qx Cm rfl (v:=.bool true) (fun _ ⟨_,c⟩=>(Pk aq))<|Ex<|⟨_,bi,true,Pu,a,(Mo [] a8)⟩
 refine BC Cm rfl rfl (.guard (t:=false) (b:=false) rfl rfl rfl rfl (Cb aq)) rfl rfl (v:=.agg [I e.type_,Cx e.num,.bool e.bool,Sl a5 e.list a6].toArray) (fun _ ⟨_,c⟩=>Run.loadN Dc rfl rfl (Bk.part (Bs dl c) 0 [I e.type_,Cx e.num,.bool e.bool,Sl a5 e.list a6] rfl))<|BW rfl<|have gp:=K2 Kd.cpx dh an a8;Bi a fun cl gq a=>BN rfl (.guard (t:=false) (b:=false) rfl rfl rfl rfl (Cb aq)) rfl rfl (XJ [.agg [I e.type_,Cx e.num,.bool e.bool,Sl a5 e.list a6].toArray] rfl)<|Calls.mono (OU o bi dk gq (BB (x:=e) gp)) ?_
 rintro _ j3 ⟨gr,rfl,dn⟩
 refine ⟨_,rfl,⟨_,(Mo [] dn)⟩,?_⟩
 refine BC Cm rfl rfl (.guard (t:=false) (b:=false) rfl rfl rfl rfl (Cb aq)) rfl rfl (v:=.bool (cl != 0)) (fun _ ⟨_,c⟩=>rfl)<|Qx Cm rfl (v:=.bool (cl != 0)) (fun _ ⟨_,c⟩=>(Pk aq))<|Ex<|⟨_,gr,(cl != 0),Pu,a,(Tn (Mo [] a8) dn)⟩
 rintro _ dj ⟨av,a7,cj,rfl,a,az⟩
 rw [Kh] at a
 refine Cn a (fun gs a=>?_) fun gs a=>?_
 refine Sr<|Vx (v:=.agg [I 40,I 0,Cx (((0,0):Nat×Nat)),.bool false,.slice none 0 0,I 0,I 0,I 0,I 0].toArray) (Bp LT QB rfl (.cons rfl rfl rfl .nil))<|have gt:=Y4 (Y4 (Y4 a1 q ac aa m) n f u w) h ap an az;Eu (St L0 gt rfl rfl rfl rfl fun j4 gu gv=>?_)
 refine AA<|AZ ?_
 obtain rfl:=AP a
 refine Ye hW (B:=B) ad (BQ rfl (.agg LQ rfl rfl (Bk.part gu 0 [I 40,I 0,Cx (((0,0):Nat×Nat)),.bool false,.slice none 0 0,I 0,I 0,I 0,I 0] rfl)) ?_)
 exact ⟨a7,[I 40,I 0,Cx (((0,0):Nat×Nat)),.bool false,.slice none 0 0,I 0,I 0,I 0,I 0],rfl,Ho (T2 (T4 (T4 (T4 (Mo [21,22,24,25,26,27,28] ao) al q ac aa) m n f u) w h ap an) az gv) a0,(D5 (x:=(Az.mk 40 (AG.mk 0 ((0,0):Nat×Nat) false []) 0 0 0 0)) Cd)⟩
 refine WC.skip<|RJ<|Cc Ff (.q 0 (.q 1 (.q 2 (.q 3 (.q 4 (.q 5 (.q 6 (.q 8 (.one 7 (.q 9 (.one 10 (.q 11 .nil)))))))))))) [] [] a7 (by kernel_rfl) fun dp a9=>Qx Cm rfl (fun _ ⟨_,c⟩=>Run.fieldAddr Io rfl)<|have gw:=Bs (Y4 bu h ap an az) a9;Qx Cm rfl (fun _ ⟨_,c⟩=>Run.load1 HY rfl (Bk.cell (Bs gw c) rfl))<|Qx Cm rfl (v:=I ab) (fun _ ⟨_,c⟩=>Run.move rfl)<|Bi a fun cm gx a=>have gy:=Ss Ai (K4 Ai cg h ap an az) a9; ?_
 obtain ⟨gz,g0,j5,g1,g2,g3,g4,g5,cn⟩:=BX (κ:=Ai) gy gx
 replace cn:BG a7 dp gz (g0+ab.toNat*3) g1:=cn
 obtain rfl:=Iy g5
 refine Qx Cm rfl (fun _ ⟨_,c⟩=>Run.indexAddr G9 g2 rfl g3 g4)<|Qx Cm rfl (fun _ ⟨_,c⟩=>Run.fieldAddr0 OC rfl)<|Qx Cm rfl (fun _ ⟨_,c⟩=>Run.load1 De rfl (BG.cell0 (Es cn c) rfl))<|have g6:=Y2 di az a9;Qx Cm rfl (fun _ ⟨_,c⟩=>Run.loadN Dc rfl rfl (Bk.part (Bs g6 c) 0 [I e.type_,Cx e.num,.bool e.bool,Sl a5 e.list a6] rfl))<|Qx Cm rfl (v:=ay) (fun _ ⟨_,c⟩=>Run.move rfl)<|BW rfl<|have g7:=K3 Kd.cpx dh an az a9;Bi a fun g8 g9 a=>BN rfl (.none rfl) rfl rfl (AAA [.agg [I e.type_,Cx e.num,.bool e.bool,Sl a5 e.list a6].toArray] rfl)<|Calls.mono (S7 o a7 dp g9 (BB (x:=e) g7)) ?_
 rintro _ j6 ⟨ha,dq,rfl,bv,dr⟩
 refine ⟨_,rfl,⟨_,(Mo [] bv)⟩,?_⟩
 refine Qx Cm rfl (v:=.agg [Sb cm.name,dq,ay].toArray) (fun _ ⟨_,c⟩=>GK (cs:=[Sb cm.name,dq,ay]) [Sb ([]:List UInt8),.nilFunc,.pointer none] QF QD rfl (.cons rfl rfl rfl (.cons rfl (H1 (MTh.one dr)) rfl (.cons rfl (H1 (Fg.one ch)) rfl .nil))) rfl rfl)<|BW rfl<|DL rfl (.none rfl) rfl rfl (By ha 28 rfl rfl fun j7 j8 ds hb bw=>?_)
 refine ⟨⟨_,(Tn (Mo [] bv) bw)⟩,?_⟩
 refine Qx Cm rfl (v:=Pt ds 0) (fun _ ⟨_,c⟩=>Run.assign rfl)<|Ex<|AQ<|Vr (I (Wr (ab+1)))<|Vm<|AA<|have hc:=Mt dr bw;have hd:=Me (Me (Me (Me (Me (Me ch ap) an) az) a9) bv) bw; ?_
 obtain ⟨he,hf,hg⟩:=Fg.lay hb dcd hc hd
 exact ⟨ax,Nat.lt_succ_self ax,_,he,(Nm.bind cm.name g8 a4),Pt ds 0,(Wr (ab+1)),Pu,(df▸a),(T3 (T4 (Mo [27,28] h) ap an az a9) bv bw hf),hg⟩
 refine CF<|WA'.region<|LA.val (.none rfl) rfl rfl (v:=.func (.func 32) #[] [Pt am 0,Pt ak 0].toArray) (HS (vs:=[Pt am 0,Pt ak 0]) rfl)<|LA.defer (dd:={target:=.fn (.func 32) [Pt am 0,Pt ak 0].toArray,args:=#[]}) (.none rfl) rfl (VR rfl)<|LA.nil (?_:WA' _ _ _ _ W _ _)
 obtain ⟨B2,hB2⟩:∃B2,B2=Lo [{target:=.fn (.func 32) [Pt am 0,Pt ak 0].toArray,args:=#[]}] 122 W:=⟨_,rfl⟩
 refine XG hB2<|Sr<|have co:=Y3 c8 u w h;Vx (Run.load1 QA rfl (Bk.cell co rfl))<|Vx (Run.fieldAddr OA rfl)<|have hh:=Bs bu h;Vx (Run.loadN BL rfl rfl (Bk.part hh 3 [I d.body.op,Sb d.body.name,Sb d.body.tail,I d.body.type_,Cx d.body.num,Sl cb d.body.args cc,I d.body.at_] rfl))<|Vm<|have hi:=Y3 c9 u w h;have hj:=K3 AL da u w h;have dt:=Ms (Ms (Ms b8 u) w) h;have hk:=K2 AJ fs w h;Bi a fun ba hl a=>Hh (.none rfl) rfl rfl (K0 [Pt br 0,.agg [I d.body.op,Sb d.body.name,Sb d.body.tail,I d.body.type_,Cx d.body.num,Sl cb d.body.args cc,I d.body.at_].toArray,ay] rfl)<|Calls.mono (QQ o a3 bh hl dcd dcd hi hj dt (Ag (x:=(AD.mk d.body.op d.body.name d.body.tail d.body.type_ d.body.num d.body.args d.body.at_)) hk) ch) ?_
 rintro _ hm ⟨cq,j9,ar,du,dv,hn⟩
 obtain ⟨ho,hp,rfl⟩:=AI dv
 obtain ⟨bx,hq,rfl⟩| ⟨y,hr,ka,rfl,kb,rfl,hs⟩:=D8.split hn
 refine have a:=Dg a hq; .inl ⟨_,rfl,?_⟩
 refine have ht:=Bs co ar;have hu:=Y2 (Y4 (Y4 a1 q ac aa m) n f u w) h ar;ABR hW (B:=B2) hB2 (N4 Tryz.func32 rfl dcd) (Qg cq hm am ak 0 0 ((0,0):Nat×Nat) false (.slice none 0 0) 0 0 0 0 br (.map (some bq)) (Sl ho ba.2.1 hp) ba.2.2.1 ba.2.2.2 bx ht hu du) fun kc hw=>?_
 obtain ⟨hx,hy⟩:=hw
 obtain rfl:=AP a
 refine (BQ rfl (.agg LQ rfl rfl (Bk.part hx 0 [I bx,I 0,Cx (((0,0):Nat×Nat)),.bool false,.slice none 0 0,I ba.2.2.1,I 0,I 0,I 0] rfl)) ?_)
 exact ⟨cq,[I bx,I 0,Cx (((0,0):Nat×Nat)),.bool false,.slice none 0 0,I ba.2.2.1,I 0,I 0,I 0],rfl,Ho (T4 (T4 (T4 (Mo [21,22,23,24,25,26,27,28] ao) al q ac aa) m n f u) w h ar hy) a0,(D5 (x:=(Az.mk bx (AG.mk 0 ((0,0):Nat×Nat) false []) ba.2.2.1 0 0 0)) Cd)⟩
 refine have a:=GG a hr; ?_
 obtain ⟨kd,bz,b0,rfl,dw,dx,dy⟩:=DE hs
 obtain ⟨b1,b2,rfl⟩:=AI dw
 refine .inr ⟨_,rfl,?_⟩
 refine Ef (AY cq 29 Jj rfl fun hz ke kf h0 ah=>?_)
 refine have dz:=Ss Kd.cpx dw ah;Eu (Bf (vs:=[I y.plain.type_,Cx y.plain.num,.bool y.plain.bool,Sl b1 y.plain.list b2,bz,b0]) (cs':=[I y.plain.type_,Cx y.plain.num,.bool y.plain.bool,Sl b1 y.plain.list b2,bz,b0]) IP rfl rfl rfl rfl (AU rfl (AU rfl (AU rfl (AU (FK dz) (AU (MTh.one dx) (AU (MTh.one dy) CI)))))) h0 dcd rfl rfl fun h1 h2 ai=>?_)
 refine AA<|Sr<|have cr:=Y3 co ar ah ai;Vx (Run.load1 QA rfl (Bk.cell cr rfl))<|Vx (Run.loadN In rfl rfl (Bk.part h2 0 [I y.plain.type_,Cx y.plain.num,.bool y.plain.bool,Sl b1 y.plain.list b2,bz,b0] rfl))<|have h3:=Y2 du ah ai;have h4:=K2 AL dv ah ai;have h5:=Ms (Ms (Ms dt ar) ah) ai;have h6:=Ss Kd.cpx dz ai;have h7:=Mt (Mt dx ah) ai;have h8:=Mt (Mt dy ah) ai;Bi a fun aj h9 a=>Hh (.none rfl) rfl rfl (AAB [Pt br 0,.agg [I y.plain.type_,Cx y.plain.num,.bool y.plain.bool,Sl b1 y.plain.list b2,bz,b0].toArray] rfl)<|Calls.mono (Pi o hz h1 h9 dcd dcd h3 h4 h5 (CS (x:=y) h6 h7 h8)) ?_
 rintro _ ia ⟨ct,kg,bb,d0,ib,ic⟩
 obtain ⟨id,ie,rfl⟩:=AI ib
 obtain ⟨b3,ig,rfl⟩| ⟨g,ih,kh,rfl,ki,rfl,ii⟩:=D8.split ic
 refine have a:=Dg a ig; .inl ⟨_,rfl,?_⟩
 refine have ij:=Bs cr bb;have ik:=Bs (Y4 (Y4 (Y4 a1 q ac aa m) n f u w) h ar ah ai) bb;ABR hW (B:=B2) hB2 (N4 Tryz.func32 rfl dcd) (Qg ct ia am ak 0 0 ((0,0):Nat×Nat) false (.slice none 0 0) 0 0 0 0 br (.map (some bq)) (Sl id aj.2.1 ie) aj.2.2.1 aj.2.2.2 b3 ij ik d0) fun kj il=>?_
 obtain ⟨im,io⟩:=il
 obtain rfl:=AP a
 refine (BQ rfl (.agg LQ rfl rfl (Bk.part im 0 [I b3,I 0,Cx (((0,0):Nat×Nat)),.bool false,.slice none 0 0,I aj.2.2.1,I 0,I 0,I 0] rfl)) ?_)
 exact ⟨ct,[I b3,I 0,Cx (((0,0):Nat×Nat)),.bool false,.slice none 0 0,I aj.2.2.1,I 0,I 0,I 0],rfl,Ho (T3 (T4 (T4 (T4 (Mo [21,22,23,24,25,26,27,28,29] ao) al q ac aa) m n f u) w h ar ah) ai bb io) a0,(D5 (x:=(Az.mk b3 (AG.mk 0 ((0,0):Nat×Nat) false []) aj.2.2.1 0 0 0)) Cd)⟩
 refine have a:=GG a ih; ?_
 obtain ⟨kk,rfl,d1⟩:=Bt ii
 obtain ⟨bj,bk,rfl⟩:=AI d1
 refine .inr ⟨_,rfl,?_⟩
 refine Ef (AY ct 30 Ep rfl fun d2 kl km ip bl=>?_)
 refine have iq:=Ss Kd.cpx d1 bl;Eu (St Fe ip rfl rfl rfl rfl fun kn ir bm=>?_)
 refine AA<|Ac<|RJ<|Cc Ff (.q 0 (.q 1 (.q 2 (.q 3 (.q 4 (.q 5 (.one 6 .nil))))))) [6] [] d2 (by kernel_rfl) fun ko bc=>have it:=Bs ir bc;Qx Cm rfl (fun _ ⟨_,c⟩=>Run.loadN Dc rfl rfl (Bk.part (Bs it c) 0 [I g.type_,Cx g.num,.bool g.bool,Sl bj g.list bk] rfl))<|have iu:=Y4 cr bb bl bm bc;Qx Cm rfl (fun _ ⟨_,c⟩=>Run.load1 QA rfl (Bk.cell (Bs iu c) rfl))<|Qx Cm rfl (fun _ ⟨_,c⟩=>Run.nilCheck rfl)<|Qx Cm rfl (fun _ ⟨_,c⟩=>Run.fieldAddr OB rfl)<|have iv:=Y3 d0 bl bm bc;Qx Cm rfl (fun _ ⟨_,c⟩=>Run.load1 Be rfl (Bk.cell (Bs iv c) rfl))<|Qx Cm rfl (v:=.agg [I 0,I g.type_,Cx g.num,.bool g.bool,Sl bj g.list bk,I aj.2.2.1,I 0,I 0,I 0].toArray) (fun _ ⟨_,c⟩=>GK (cs:=[I 0,I g.type_,Cx g.num,.bool g.bool,Sl bj g.list bk,I aj.2.2.1,I 0,I 0,I 0]) [I 0,I 0,Cx (((0,0):Nat×Nat)),.bool false,.slice none 0 0,I 0,I 0,I 0,I 0] LT QB rfl (.cons rfl rfl rfl (.cons rfl rfl rfl .nil)) rfl rfl)<|E0 dcd<|WY.one<|have iw:=Y4 (Y4 (Y4 (Y4 a1 q ac aa m) n f u w) h ar ah ai) bb bl bm bc;have ix:=K2 Kd.cpx iq bm bc;BT rfl (.none rfl) rfl (St L0 iw rfl rfl rfl rfl fun kp iy d3=>?_)
 refine WY.nil<|AZ ?_
 obtain rfl:=AP a
 refine ABe hW (B:=B2) hB2 (N4 Tryz.func32 rfl dcd) (Wu (Pt am 0) (Pt ak 0) _) (BQ rfl (.agg LQ rfl rfl (Bk.part iy 0 [I 0,I g.type_,Cx g.num,.bool g.bool,Sl bj g.list bk,I aj.2.2.1,I 0,I 0,I 0] rfl)) ?_)
 refine have iz:=Ss Kd.cpx ix d3;⟨d2,[I 0,I g.type_,Cx g.num,.bool g.bool,Sl bj g.list bk,I aj.2.2.1,I 0,I 0,I 0],rfl,Ho (T2 (T4 (T4 (T4 (T4 (Mo [21,22,23,24,25,26,27,28,29,30] ao) al q ac aa) m n f u) w h ar ah) ai bb bl bm) bc d3) a0,(D5 (x:=(Az.mk 0 g aj.2.2.1 0 0 0)) iz)⟩
theorem Jr(c:Nat):EE.Spec (EE c):=by
 intro a d p q r s u w y e f g
 refine Calls.mono (TJ c (recol (see []) a) d (A3 lbr a) e (Av Cp f []) (DC Ax g [])) ?_
 rintro z aa ⟨h,l,m,n,o⟩
 exact ⟨glue [] d a h,l,m,Ah n A2,BA JR o⟩
def G4.At(d:Col)(a:World)(f:Option Bool):Prop:=
 ∀{c:Bool},f=some c→
  Calls Tryz.prog 10 #[] a fun e g=>∃(h:Col),e=.returned (.bool c)∧AO [] d a h g
def G4.Spec(f:Option Bool):Prop:=
 ∀(a:Col) (c:World),G4.At a c f
theorem RG(q:Nat)(ab:Col)(aw:World)(ax:∀b,ab b<10):G4.At ab aw (G4 q):=by
 intro ay a
 rw [G4] at a
 refine A5 Tryz.func10 rfl Tryz.ntmps10 rfl fun B az b0=>Sr<|Va (.bool false)<|AA<|Sr<|Ef (E1 (cs:=[.int .u8 ((102:UInt8).toNat:Int),.int .u8 ((40:UInt8).toNat:Int),.int .u8 ((120:UInt8).toNat:Int),.int .u8 ((32:UInt8).toNat:Int),.int .u8 ((78:UInt8).toNat:Int),.int .u8 ((41:UInt8).toNat:Int),.int .u8 ((58:UInt8).toNat:Int),.int .u8 ((78:UInt8).toNat:Int),.int .u8 ((61:UInt8).toNat:Int),.int .u8 ((120:UInt8).toNat:Int),.int .u8 ((43:UInt8).toNat:Int),.int .u8 ((120:UInt8).toNat:Int),.int .u8 ((59:UInt8).toNat:Int),.int .u8 ((103:UInt8).toNat:Int),.int .u8 ((40:UInt8).toNat:Int),.int .u8 ((41:UInt8).toNat:Int),.int .u8 ((58:UInt8).toNat:Int),.int .u8 ((78:UInt8).toNat:Int),.int .u8 ((61:UInt8).toNat:Int),.int .u8 ((102:UInt8).toNat:Int),.int .u8 ((40:UInt8).toNat:Int),.int .u8 ((49:UInt8).toNat:Int),.int .u8 ((43:UInt8).toNat:Int),.int .u8 ((50:UInt8).toNat:Int),.int .u8 ((41:UInt8).toNat:Int),.int .u8 ((59:UInt8).toNat:Int)]) ab 20 [[.int .u8 ((102:UInt8).toNat:Int)],[.int .u8 ((40:UInt8).toNat:Int)],[.int .u8 ((120:UInt8).toNat:Int)],[.int .u8 ((32:UInt8).toNat:Int)],[.int .u8 ((78:UInt8).toNat:Int)],[.int .u8 ((41:UInt8).toNat:Int)],[.int .u8 ((58:UInt8).toNat:Int)],[.int .u8 ((78:UInt8).toNat:Int)],[.int .u8 ((61:UInt8).toNat:Int)],[.int .u8 ((120:UInt8).toNat:Int)],[.int .u8 ((43:UInt8).toNat:Int)],[.int .u8 ((120:UInt8).toNat:Int)],[.int .u8 ((59:UInt8).toNat:Int)],[.int .u8 ((103:UInt8).toNat:Int)],[.int .u8 ((40:UInt8).toNat:Int)],[.int .u8 ((41:UInt8).toNat:Int)],[.int .u8 ((58:UInt8).toNat:Int)],[.int .u8 ((78:UInt8).toNat:Int)],[.int .u8 ((61:UInt8).toNat:Int)],[.int .u8 ((102:UInt8).toNat:Int)],[.int .u8 ((40:UInt8).toNat:Int)],[.int .u8 ((49:UInt8).toNat:Int)],[.int .u8 ((43:UInt8).toNat:Int)],[.int .u8 ((50:UInt8).toNat:Int)],[.int .u8 ((41:UInt8).toNat:Int)],[.int .u8 ((59:UInt8).toNat:Int)]] G8 Xm rfl rfl (.cons rfl rfl rfl (.cons rfl rfl rfl (.cons rfl rfl rfl (.cons rfl rfl rfl (.cons rfl rfl rfl (.cons rfl rfl rfl (.cons rfl rfl rfl (.cons rfl rfl rfl (.cons rfl rfl rfl (.cons rfl rfl rfl (.cons rfl rfl rfl (.cons rfl rfl rfl (.cons rfl rfl rfl (.cons rfl rfl rfl (.cons rfl rfl rfl (.cons rfl rfl rfl (.cons rfl rfl rfl (.cons rfl rfl rfl (.cons rfl rfl rfl (.cons rfl rfl rfl (.cons rfl rfl rfl (.cons rfl rfl rfl (.cons rfl rfl rfl (.cons rfl rfl rfl (.cons rfl rfl rfl (.cons rfl rfl rfl .nil)))))))))))))))))))))))))) rfl fun a0 a1 ac a2 a3=>?_)
 refine have a4:Own Kd.u8 5 a0 a1 20 (.slice (some ⟨ac,0,none⟩) 26 26) ([(102:UInt8),(40:UInt8),(120:UInt8),(32:UInt8),(78:UInt8),(41:UInt8),(58:UInt8),(78:UInt8),(61:UInt8),(120:UInt8),(43:UInt8),(120:UInt8),(59:UInt8),(103:UInt8),(40:UInt8),(41:UInt8),(58:UInt8),(78:UInt8),(61:UInt8),(102:UInt8),(40:UInt8),(49:UInt8),(43:UInt8),(50:UInt8),(41:UInt8),(59:UInt8)]:List UInt8):=Own.lit (css:=[[.int .u8 ((102:UInt8).toNat:Int)],[.int .u8 ((40:UInt8).toNat:Int)],[.int .u8 ((120:UInt8).toNat:Int)],[.int .u8 ((32:UInt8).toNat:Int)],[.int .u8 ((78:UInt8).toNat:Int)],[.int .u8 ((41:UInt8).toNat:Int)],[.int .u8 ((58:UInt8).toNat:Int)],[.int .u8 ((78:UInt8).toNat:Int)],[.int .u8 ((61:UInt8).toNat:Int)],[.int .u8 ((120:UInt8).toNat:Int)],[.int .u8 ((43:UInt8).toNat:Int)],[.int .u8 ((120:UInt8).toNat:Int)],[.int .u8 ((59:UInt8).toNat:Int)],[.int .u8 ((103:UInt8).toNat:Int)],[.int .u8 ((40:UInt8).toNat:Int)],[.int .u8 ((41:UInt8).toNat:Int)],[.int .u8 ((58:UInt8).toNat:Int)],[.int .u8 ((78:UInt8).toNat:Int)],[.int .u8 ((61:UInt8).toNat:Int)],[.int .u8 ((102:UInt8).toNat:Int)],[.int .u8 ((40:UInt8).toNat:Int)],[.int .u8 ((49:UInt8).toNat:Int)],[.int .u8 ((43:UInt8).toNat:Int)],[.int .u8 ((50:UInt8).toNat:Int)],[.int .u8 ((41:UInt8).toNat:Int)],[.int .u8 ((59:UInt8).toNat:Int)]]) a2 rfl rfl rfl (Aa rfl (Aa rfl (Aa rfl (Aa rfl (Aa rfl (Aa rfl (Aa rfl (Aa rfl (Aa rfl (Aa rfl (Aa rfl (Aa rfl (Aa rfl (Aa rfl (Aa rfl (Aa rfl (Aa rfl (Aa rfl (Aa rfl (Aa rfl (Aa rfl (Aa rfl (Aa rfl (Aa rfl (Aa rfl (Aa rfl Ba)))))))))))))))))))))))))) (A9 rfl (A9 rfl (A9 rfl (A9 rfl (A9 rfl (A9 rfl (A9 rfl (A9 rfl (A9 rfl (A9 rfl (A9 rfl (A9 rfl (A9 rfl (A9 rfl (A9 rfl (A9 rfl (A9 rfl (A9 rfl (A9 rfl (A9 rfl (A9 rfl (A9 rfl (A9 rfl (A9 rfl (A9 rfl (A9 rfl Gg)))))))))))))))))))))))))) rfl;Ef (XF Y8 rfl a4 (by simp) dcd fun a5 a6 a7 a8=>?_)
 refine Vx (v:=.agg [Sl (some ⟨ac,0,none⟩) (([(102:UInt8),(40:UInt8),(120:UInt8),(32:UInt8),(78:UInt8),(41:UInt8),(58:UInt8),(78:UInt8),(61:UInt8),(120:UInt8),(43:UInt8),(120:UInt8),(59:UInt8),(103:UInt8),(40:UInt8),(41:UInt8),(58:UInt8),(78:UInt8),(61:UInt8),(102:UInt8),(40:UInt8),(49:UInt8),(43:UInt8),(50:UInt8),(41:UInt8),(59:UInt8)]:List UInt8)) 26,Sb ([103]:List UInt8),Sb ([]:List UInt8)].toArray) (Bp AAm Tb.p24 rfl (.cons rfl rfl rfl (.cons rfl rfl rfl (.cons rfl rfl rfl .nil))))<|Bi a fun c a9 a=>Ca (XI [.agg [Sl (some ⟨ac,0,none⟩) (([(102:UInt8),(40:UInt8),(120:UInt8),(32:UInt8),(78:UInt8),(41:UInt8),(58:UInt8),(78:UInt8),(61:UInt8),(120:UInt8),(43:UInt8),(120:UInt8),(59:UInt8),(103:UInt8),(40:UInt8),(41:UInt8),(58:UInt8),(78:UInt8),(61:UInt8),(102:UInt8),(40:UInt8),(49:UInt8),(43:UInt8),(50:UInt8),(41:UInt8),(59:UInt8)]:List UInt8)) 26,Sb ([103]:List UInt8),Sb ([]:List UInt8)].toArray] rfl) (MS q a5 a6 a9 (PO (x:=(Dy.mk ([(102:UInt8),(40:UInt8),(120:UInt8),(32:UInt8),(78:UInt8),(41:UInt8),(58:UInt8),(78:UInt8),(61:UInt8),(120:UInt8),(43:UInt8),(120:UInt8),(59:UInt8),(103:UInt8),(40:UInt8),(41:UInt8),(58:UInt8),(78:UInt8),(61:UInt8),(102:UInt8),(40:UInt8),(49:UInt8),(43:UInt8),(50:UInt8),(41:UInt8),(59:UInt8)]:List UInt8) ([103]:List UInt8) ([]:List UInt8))) a7)) ?_
 rintro _ b1 ⟨ba,b2,b3,rfl,bb,bc,ai⟩
 obtain ⟨b4,rfl,aj⟩:=Bl bc
 obtain ⟨n,o,rfl⟩:=AI aj
 obtain ⟨r,s,rfl⟩:=AI ai
 refine ⟨_,rfl,?_⟩
 refine Vm<|Vr (.agg [Sl n c.1.funcs o].toArray)<|Vr (Sl r c.2.1 s)<|Vr (.bool c.2.2)<|Ef (AY ba 21 I4 rfl fun bd b5 b6 be ad=>?_)
 refine have bf:=Ss AL aj ad;Eu (St Hz be rfl rfl rfl rfl fun bg ak ae=>?_)
 refine Va (Sl r c.2.1 s)<|Va (.bool c.2.2)<|AA<|Sr<|Vx (Run.loadN JI rfl rfl (Bk.part ak 0 [Sl n c.1.funcs o] rfl))<|Vm<|have al:=Ss AL bf ae;have am:=K2 Ax ai ad ae;Bi a fun u bh a=>Ca (P6 [.agg [Sl n c.1.funcs o].toArray,Sb ([103]:List UInt8),Sl r c.2.1 s,I 99] rfl) (Jr q bd bg bh (CA (x:=c.1) al) am) ?_
 rintro _ b7 ⟨bi,b8,rfl,w,bj⟩
 obtain ⟨b9,rfl,an⟩:=HZ bj
 obtain ⟨ca,cb,rfl⟩:=AI an
 refine ⟨_,rfl,?_⟩
 refine Ef (AY bi 22 LT rfl fun bk cc cd bl p=>?_)
 refine have cf:=Ss Kd.cpx an p;Eu (St L0 bl rfl rfl rfl rfl fun bm bn y=>?_)
 refine AA<|Sr<|have bo:=Y3 ak w p y;Vx (Run.loadN JI rfl rfl (Bk.part bo 0 [Sl n c.1.funcs o] rfl))<|Vm<|have bp:=K3 AL al w p y;have bq:=K3 Ax am w p y;Bi a fun z br a=>Ca (P6 [.agg [Sl n c.1.funcs o].toArray,Sb ([103]:List UInt8),Sl r c.2.1 s,I 9] rfl) (Jr q bk bm br (CA (x:=c.1) bp) bq) ?_
 rintro _ cg ⟨bt,ch,rfl,ao,bu⟩
 obtain ⟨ci,rfl,ap⟩:=HZ bu
 obtain ⟨cj,ck,rfl⟩:=AI ap
 refine ⟨_,rfl,?_⟩
 refine Ef (AY bt 23 LT rfl fun m cl cm bv af=>?_)
 refine have cn:=Ss Kd.cpx ap af;Eu (St L0 bv rfl rfl rfl rfl fun bw aq ar=>?_)
 refine AA<|Au (fun bx au=>∃(av:Env) (ag:Col) (ah:Bool),bx=av.puts [(0,.bool ah)]∧Ft ah=some ay∧AO [] m bw ag au) ?_ ?_
 refine AQ<|Vm<|Vm<|Bo a (fun f a=>?_) fun f a=>?_
 refine Gx f (Run.fieldAddr0 Jh rfl)<|have aa:=Y3 bn ao af ar;Gx f (Run.load1 KO rfl (Bk.cell aa rfl))<|Gr f (.bool (u.why==0))<|Vp f<|Vm<|Bo a (fun d a=>?_) fun d a=>?_
 refine Gx d (Run.fieldAddr N9 rfl)<|Gx d (Run.fieldAddr0 JB rfl)<|Gx d (Run.load1 Fy rfl (Bk.cell aa rfl))<|Gr d (.bool (u.value.type_==1))<|Vp d<|Vm<|Bo a (fun e a=>?_) fun e a=>?_
 refine Gx e (Run.fieldAddr N9 rfl)<|Gx e (Run.fieldAddr HQ rfl)<|Gx e (Run.load1 HX rfl (Bk.cell aa rfl))<|Gx e (v:=.bool (ceq u.value.num ((4618441417868443648,0):Nat×Nat))) (Run.ceq rfl rfl)<|Vp e<|Vm<|Bo a (fun g a=>?_) fun g a=>?_
 refine Gx g (Run.fieldAddr G7 rfl)<|Gx g (Run.load1 Be rfl (Bk.cell aa rfl))<|Gr g (.bool (u.moves==10))<|Vp g<|Vm<|Bo a (fun h a=>?_) fun h a=>?_
 refine Gx h (Run.fieldAddr0 Jh rfl)<|Gx h (Run.load1 KO rfl (Bk.cell aq rfl))<|Gr h (.bool (z.why==60))<|Vp h<|Vm<|Bo a (fun l a=>?_) fun l a=>?_
 refine Gx l (Run.fieldAddr G7 rfl)<|Gx l (Run.load1 Be rfl (Bk.cell aq rfl))<|Gr l (.bool (z.moves==9))<|Vp l<|Va (.bool (z.moves==9))<|AA<|⟨_,m,(z.moves==9),Pu,a,(AO.refl [] _ _)⟩
 refine Pg l<|Pg l<|Pg l<|Vp l<|Va (.bool false)<|AA<|⟨_,m,false,Pu,a,(AO.refl [] _ _)⟩
 refine Pg h<|Pg h<|Pg h<|Vp h<|Vm<|Pg rfl<|Pg rfl<|Pg rfl<|Vr (.bool false)<|Va (.bool false)<|AA<|⟨_,m,false,Pu,a,(AO.refl [] _ _)⟩
 refine Pg g<|Pg g<|Pg g<|Vp g<|Vm<|Pg rfl<|Pg rfl<|Pg rfl<|Vr (.bool false)<|Vm<|Pg rfl<|Pg rfl<|Pg rfl<|Vr (.bool false)<|Va (.bool false)<|AA<|⟨_,m,false,Pu,a,(AO.refl [] _ _)⟩
 refine Pg e<|Pg e<|Pg e<|Pg e<|Vp e<|Vm<|Pg rfl<|Pg rfl<|Pg rfl<|Vr (.bool false)<|Vm<|Pg rfl<|Pg rfl<|Pg rfl<|Vr (.bool false)<|Vm<|Pg rfl<|Pg rfl<|Pg rfl<|Vr (.bool false)<|Va (.bool false)<|AA<|⟨_,m,false,Pu,a,(AO.refl [] _ _)⟩
 refine Pg d<|Pg d<|Pg d<|Pg d<|Vp d<|Vm<|Pg rfl<|Pg rfl<|Pg rfl<|Pg rfl<|Vr (.bool false)<|Vm<|Pg rfl<|Pg rfl<|Pg rfl<|Vr (.bool false)<|Vm<|Pg rfl<|Pg rfl<|Pg rfl<|Vr (.bool false)<|Vm<|Pg rfl<|Pg rfl<|Pg rfl<|Vr (.bool false)<|Va (.bool false)<|AA<|⟨_,m,false,Pu,a,(AO.refl [] _ _)⟩
 refine Pg f<|Pg f<|Pg f<|Vp f<|Vm<|Pg rfl<|Pg rfl<|Pg rfl<|Pg rfl<|Vr (.bool false)<|Vm<|Pg rfl<|Pg rfl<|Pg rfl<|Pg rfl<|Vr (.bool false)<|Vm<|Pg rfl<|Pg rfl<|Pg rfl<|Vr (.bool false)<|Vm<|Pg rfl<|Pg rfl<|Pg rfl<|Vr (.bool false)<|Vm<|Pg rfl<|Pg rfl<|Pg rfl<|Vr (.bool false)<|Va (.bool false)<|AA<|⟨_,m,false,Pu,a,(AO.refl [] _ _)⟩
 rintro _ au ⟨av,ag,ah,rfl,a,bz⟩
 rw [Ft] at a
 refine AZ ?_
 obtain rfl:=AP a
 refine A0 (B:=B) az (BQ rfl (.tmp rfl) ?_)
 exact ⟨ag,rfl,Ho (T3 (T4 (T4 (Mo [20,21,22,23] a3) a8 bb ad ae) w p y ao) af ar bz) ax⟩
theorem ST(c:Nat):G4.Spec (G4 c):=by
 intro a d l e
 refine Calls.mono (RG c (recol (see []) a) d (A3 lbr a) e) ?_
 rintro m n ⟨f,g,h⟩
 exact ⟨glue [] d a f,g,Ah h A2⟩
end Fth
