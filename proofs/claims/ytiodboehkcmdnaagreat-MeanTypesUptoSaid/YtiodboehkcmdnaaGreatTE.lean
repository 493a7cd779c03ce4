/- Part 5 of the proof: what it says holds of the given program; no condition. -/
import Derived.Test.YtiodboehkcmdnaaGreatProg
import Derived.KernelRfl
import Derived.Test.YtiodboehkcmdnaaGreatTD
set_option linter.all false
set_option exponentiation.threshold 3000
namespace Fth
open Go Go.Proofs Sh
set_option maxRecDepth 100000
set_option maxHeartbeats 8000000
theorem NN(cd:AF)(e0:Nat)(al:AF.Good cd)(w:Col)(am:World)(cf:∀b,w b<10){l:Nat}{cg:(List AK)}{ch:Value}{ci:(List AH)}{cj:Value}{bo:Nat}{ck:Ak}{ao:Nat}{au:AD}{cl:List Value}{a:AE}{cm:List Value}{r:Int}{bd:(List AK)×(List AH)×AD}(be:Bk w am 1 l [.map (some bo),ch,cj,.func (.func 52) #[] [Pt ao 0].toArray] 134)(a2:Slc AL w.F am ch cg)(a3:Own AY 87 w am 4 cj ci)(bf:Mp w am 2 bo ck)(bg:Bk w am 3 ao cl 63)(e1:Ag.rep w.F am cl au)(e2:AJ.rep w.F am cm a)(c:Fy cd e0 cg ci ck au a r=some bd):
  Calls Tryz.prog 53 #[Pt l 0,.agg cm.toArray,I r] am fun e3 a4=>∃(a5:Col) (cn:Value) (co:Value) (cq:List Value),e3=.returned (.tuple #[])∧AQ [1,3,4] w am a5 a4∧Bk a5 a4 1 l [.map (some bo),cn,co,.func (.func 52) #[] [Pt ao 0].toArray] 134∧Slc AL a5.F a4 cn bd.1∧Own AY 87 a5 a4 4 co bd.2.1∧Bk a5 a4 3 ao cq 63∧Ag.rep a5.F a4 cq bd.2.2:=by
 rw [Fy] at c
 obtain ⟨kn,ko,rfl⟩:=AG a2
 obtain ⟨kp,kq,rfl⟩:=Own.len a3
 obtain rfl:=As e1
 obtain ⟨kr,rfl,a6⟩:=Am e2
 obtain ⟨ap,aq,rfl⟩:=AG a6
 refine A0 Tryz.func53 rfl Tryz.ntmps53 rfl fun B cr g=>?_
 refine Sr ?_
 refine Ef (Bf w 20 rfl rfl fun e4 ks y a7 h=>?_)
 refine Ef (Bf e4 21 rfl rfl fun e5 kt m ct f=>?_)
 refine Ef (Bf e5 22 rfl rfl fun u cu z a8 e=>?_)
 refine AA ?_
 refine Sr ?_
 refine Vx (v:=I r) (Run.load1 EA rfl (Bk.cell a8 rfl)) ?_
 refine Va (I r) ?_
 refine AA ?_
 refine Ao (fun e6 a9=>∃(cv:Env) (an:Col) (bh:Int) (av:(List AK)) (bi:Option Addr) (bj:Nat) (aw:(List AH)) (bk:Option Addr) (bl:Nat) (ba:Int) (bb:Int),e6=cv.puts [(3,.pointer (some ⟨y,0,none⟩)),(4,.pointer (some ⟨m,0,none⟩)),(5,.pointer (some ⟨z,0,none⟩)),(6,.int .i64 bh)]∧CM a r bh av aw ba bb=some bd∧AQ [1,3,4,23,24,25] u cu an a9∧Slc AL an.F a9 (Sl bi av bj) av∧Own AY 87 an a9 4 (Sl bk aw bl) aw∧Bk an a9 1 l [.map (some bo),Sl bi av bj,Sl bk aw bl,.func (.func 52) #[] [Pt ao 0].toArray] 134∧Bk an a9 3 ao [I ba,I bb] 63) ?_ ?_
 refine Sr ?_
 refine Vx (v:=Pt m 0) (Run.fieldAddr0 DR rfl) ?_
 have ar:=(Bs ct e)
 refine Vx (v:=I a.op) (Run.load1 HS rfl (Bk.cell ar rfl)) ?_
 refine AA ?_
 refine Aj ?_
 refine Sr ?_
 refine Vr (.bool (a.op==19)) ?_
 refine Va (.bool (a.op==19)) ?_
 refine AA ?_
 refine Cn c (fun e7 c=>?_) fun e7 c=>?_
 refine AZ ?_
 refine CJ FL (.q 0 (.q 1 (.q 2 (.q 3 (.q 4 (.one 5 .nil)))))) [] [1,3,4] u (by kernel_rfl) fun cw aa=>?_
 have cx:=(Y3 a7 f e aa)
 refine Qx g rfl (v:=Pt l 0) (fun _ ⟨_,d⟩=>Run.load1 Jr rfl (Bk.cell (Bs cx d) rfl)) ?_
 refine Qx g rfl (v:=Pt m 5) (fun _ ⟨_,d⟩=>Run.fieldAddr Bq rfl) ?_
 have cy:=(Bs ar aa)
 refine Qx g rfl (v:=Sl ap a.args aq) (fun _ ⟨_,d⟩=>Run.load1 EB rfl (Bk.cell (Bs cy d) rfl)) ?_
 obtain ⟨n,e8,c⟩:=bnd_sm c
 have cz:=(K4 AJ a6 h f e aa)
 obtain ⟨c0,c1,ku,e9,fa,fb,fc,fd,bu⟩:=BL (κ:=AJ) cz e8
 replace bu:A8 u cw c0 (c1+(0:Int).toNat*7) e9:=bu
 obtain ⟨kv,rfl,c2⟩:=Am fd
 obtain ⟨bv,bw,rfl⟩:=AG c2
 refine Qx g rfl (v:=.pointer (some ⟨c0,c1+(0:Int).toNat*7,none⟩)) (fun _ ⟨_,d⟩=>Run.indexAddr DT fa rfl fb fc) ?_
 refine Qx g rfl (v:=.agg [I n.op,Sb n.name,Sb n.tail,I n.type_,Cx n.num,Sl bv n.args bw,I n.at_].toArray) (fun _ ⟨_,d⟩=>Run.loadN BF rfl rfl (A8.part0 (Es bu d) [I n.op,Sb n.name,Sb n.tail,I n.type_,Cx n.num,Sl bv n.args bw,I n.at_] rfl)) ?_
 refine BX rfl ?_
 have fe:=(Y4 be h f e aa)
 have ff:=(K4 AL a2 h f e aa)
 have fg:=(Os (Os (Os (Os a3 h) f) e) aa)
 have c3:=(Ms (Ms (Ms (Ms bf h) f) e) aa)
 have fh:=(Y4 bg h f e aa)
 obtain ⟨fi,fj,c⟩:=bnd_sm c
 refine BR rfl (.none rfl) rfl rfl (LQ [Pt l 0,.agg [I n.op,Sb n.name,Sb n.tail,I n.type_,Cx n.num,Sl bv n.args bw,I n.at_].toArray,I 2] rfl) ?_
 refine Calls.mono (al.types_checker_want u cw (ko0_2:=4) fj dcd dcd fe ff fg c3 fh (Ah (x:=au)) (Ae (x:=n) c2)) ?_
 rintro _ kw ⟨c4,kx,ky,kz,rfl,ax,fk,c5,c6,fl,fm⟩
 obtain ⟨k0,k1,rfl⟩:=AG c5
 obtain ⟨k2,k3,rfl⟩:=Own.len c6
 obtain rfl:=As fm
 refine ⟨_,rfl,⟨_,(Mo [1,3,4] ax)⟩,?_⟩
 refine Dy ?_
 refine CJ FL (.q 0 (.q 1 (.q 2 (.q 3 (.q 4 (.one 5 .nil)))))) [] [1,3,4] c4 (by kernel_rfl) fun fn ab=>?_
 have fo:=(Y2 cx ax ab)
 refine Qx g rfl (v:=Pt l 0) (fun _ ⟨_,d⟩=>Run.load1 Jr rfl (Bk.cell (Bs fo d) rfl)) ?_
 have fp:=(Y3 a8 aa ax ab)
 refine Qx g rfl (v:=I r) (fun _ ⟨_,d⟩=>Run.load1 EA rfl (Bk.cell (Bs fp d) rfl)) ?_
 refine Qx g rfl (v:=Pt m 5) (fun _ ⟨_,d⟩=>Run.fieldAddr Bq rfl) ?_
 have fq:=(Y2 cy ax ab)
 refine Qx g rfl (v:=Sl ap a.args aq) (fun _ ⟨_,d⟩=>Run.load1 EB rfl (Bk.cell (Bs fq d) rfl)) ?_
 obtain ⟨c7,c8,c⟩:=bnd_sm c
 have fr:=(K2 AJ cz ax ab)
 obtain ⟨c9,da,fs,ft,bx⟩:=Tu fr c8
 obtain ⟨k4,db⟩:∃s,s=Value.slice (if da=(1:Int).toNat then c9 else c9.map (·.add ((1:Int).toNat*AJ.size))) ((a.args.length:Int).toNat - (1:Int).toNat) (da - (1:Int).toNat):=⟨_,rfl⟩
 rw [←db] at bx
 obtain ⟨fu,fv,fw,_⟩:=Kq c8
 obtain ⟨dc,de,rfl⟩:=AG bx
 refine Qx g rfl (v:=.slice dc c7.length de) (fun _ ⟨_,d⟩=>(by rw [db];exact Run.sliceSlc DT fs ⟨_,rfl⟩ rfl fu fv fw ft)) ?_
 refine BX rfl ?_
 have fx:=(Bs fk ab)
 have fy:=(Ss AL c5 ab)
 have fz:=(Os c6 ab)
 have f0:=(Ms (Ms c3 ax) ab)
 have f1:=(Bs fl ab)
 obtain ⟨bp,f2,c⟩:=bnd_sm c
 refine BR rfl (.none rfl) rfl rfl (Vs [Pt l 0,I r,Sl dc c7 de] rfl) ?_
 refine Calls.mono (al.types_checker_all c4 fn (ko0_2:=4) f2 dcd dcd fx fy fz f0 f1 (Ah (x:=fi.2.2)) bx) ?_
 rintro _ k5 ⟨f3,k6,k7,k8,rfl,df,f4,dg,dh,f5,f6⟩
 obtain ⟨f7,f8,rfl⟩:=AG dg
 obtain ⟨f9,ga,rfl⟩:=Own.len dh
 obtain rfl:=As f6
 refine ⟨_,rfl,⟨_,(Mo [1,3,4] df)⟩,?_⟩
 refine Dy ?_
 exact ⟨_,f3,r,bp.1,f7,f8,bp.2.1,f9,ga,bp.2.2.why,bp.2.2.at_,Pu,c,(T3 (Mo [1,3,4,23,24,25] aa) ax ab df),dg,dh,f4,f5⟩
 refine Sr ?_
 refine Vr (.bool (a.op==20)) ?_
 refine Va (.bool (a.op==20)) ?_
 refine AA ?_
 refine Cn c (fun gb c=>?_) fun gb c=>?_
 refine AZ ?_
 refine CJ FL (.q 0 (.q 1 (.q 2 (.q 3 (.q 4 (.one 5 .nil)))))) [] [1,3,4] u (by kernel_rfl) fun di ac=>?_
 have dj:=(Y3 a7 f e ac)
 refine Qx g rfl (v:=Pt l 0) (fun _ ⟨_,d⟩=>Run.load1 Jr rfl (Bk.cell (Bs dj d) rfl)) ?_
 refine Qx g rfl (v:=Pt m 5) (fun _ ⟨_,d⟩=>Run.fieldAddr Bq rfl) ?_
 have dk:=(Bs ar ac)
 refine Qx g rfl (v:=Sl ap a.args aq) (fun _ ⟨_,d⟩=>Run.load1 EB rfl (Bk.cell (Bs dk d) rfl)) ?_
 obtain ⟨o,gc,c⟩:=bnd_sm c
 have dl:=(K4 AJ a6 h f e ac)
 obtain ⟨dm,dn,k9,gd,ge,gf,gg,gh,bz⟩:=BL (κ:=AJ) dl gc
 replace bz:A8 u di dm (dn+(0:Int).toNat*7) gd:=bz
 obtain ⟨la,rfl,dp⟩:=Am gh
 obtain ⟨b0,b1,rfl⟩:=AG dp
 refine Qx g rfl (v:=.pointer (some ⟨dm,dn+(0:Int).toNat*7,none⟩)) (fun _ ⟨_,d⟩=>Run.indexAddr DT ge rfl gf gg) ?_
 refine Qx g rfl (v:=.agg [I o.op,Sb o.name,Sb o.tail,I o.type_,Cx o.num,Sl b0 o.args b1,I o.at_].toArray) (fun _ ⟨_,d⟩=>Run.loadN BF rfl rfl (A8.part0 (Es bz d) [I o.op,Sb o.name,Sb o.tail,I o.type_,Cx o.num,Sl b0 o.args b1,I o.at_] rfl)) ?_
 refine BX rfl ?_
 have gi:=(Y4 be h f e ac)
 have gj:=(K4 AL a2 h f e ac)
 have gk:=(Os (Os (Os (Os a3 h) f) e) ac)
 have dq:=(Ms (Ms (Ms (Ms bf h) f) e) ac)
 have gl:=(Y4 bg h f e ac)
 obtain ⟨gm,gn,c⟩:=bnd_sm c
 refine BR rfl (.none rfl) rfl rfl (LQ [Pt l 0,.agg [I o.op,Sb o.name,Sb o.tail,I o.type_,Cx o.num,Sl b0 o.args b1,I o.at_].toArray,I 3] rfl) ?_
 refine Calls.mono (al.types_checker_want u di (ko0_2:=4) gn dcd dcd gi gj gk dq gl (Ah (x:=au)) (Ae (x:=o) dp)) ?_
 rintro _ lb ⟨b2,lc,ld,le,rfl,ay,go,dr,ds,gp,gq⟩
 obtain ⟨lf,lg,rfl⟩:=AG dr
 obtain ⟨lh,li,rfl⟩:=Own.len ds
 obtain rfl:=As gq
 refine ⟨_,rfl,⟨_,(Mo [1,3,4] ay)⟩,?_⟩
 refine Dy ?_
 refine AZ ?_
 refine CJ FL (.q 0 (.q 1 (.q 2 (.q 3 (.q 4 (.q 5 (.one 6 .nil))))))) [] [1,3,4] b2 (by kernel_rfl) fun dt ad=>?_
 have du:=(Y2 dj ay ad)
 refine Qx g rfl (v:=Pt l 0) (fun _ ⟨_,d⟩=>Run.load1 Jr rfl (Bk.cell (Bs du d) rfl)) ?_
 refine Qx g rfl (v:=Pt m 5) (fun _ ⟨_,d⟩=>Run.fieldAddr Bq rfl) ?_
 have dv:=(Y2 dk ay ad)
 refine Qx g rfl (v:=Sl ap a.args aq) (fun _ ⟨_,d⟩=>Run.load1 EB rfl (Bk.cell (Bs dv d) rfl)) ?_
 obtain ⟨p,gr,c⟩:=bnd_sm c
 have dw:=(K2 AJ dl ay ad)
 obtain ⟨dx,dy,lj,gs,gt,gu,gv,gw,b3⟩:=BL (κ:=AJ) dw gr
 replace b3:A8 b2 dt dx (dy+(1:Int).toNat*7) gs:=b3
 obtain ⟨lk,rfl,dz⟩:=Am gw
 obtain ⟨b4,b5,rfl⟩:=AG dz
 refine Qx g rfl (v:=.pointer (some ⟨dx,dy+(1:Int).toNat*7,none⟩)) (fun _ ⟨_,d⟩=>Run.indexAddr DT gt rfl gu gv) ?_
 refine Qx g rfl (v:=.agg [I p.op,Sb p.name,Sb p.tail,I p.type_,Cx p.num,Sl b4 p.args b5,I p.at_].toArray) (fun _ ⟨_,d⟩=>Run.loadN BF rfl rfl (A8.part0 (Es b3 d) [I p.op,Sb p.name,Sb p.tail,I p.type_,Cx p.num,Sl b4 p.args b5,I p.at_] rfl)) ?_
 have d0:=(Y3 a8 ac ay ad)
 refine Qx g rfl (v:=I r) (fun _ ⟨_,d⟩=>Run.load1 EA rfl (Bk.cell (Bs d0 d) rfl)) ?_
 refine BX rfl ?_
 have gx:=(Bs go ad)
 have gy:=(Ss AL dr ad)
 have gz:=(Os ds ad)
 have d1:=(Ms (Ms dq ay) ad)
 have g0:=(Bs gp ad)
 obtain ⟨g1,g2,c⟩:=bnd_sm c
 refine BR rfl (.none rfl) rfl rfl (LQ [Pt l 0,.agg [I p.op,Sb p.name,Sb p.tail,I p.type_,Cx p.num,Sl b4 p.args b5,I p.at_].toArray,I r] rfl) ?_
 refine Calls.mono (al.types_checker_want b2 dt (ko0_2:=4) g2 dcd dcd gx gy gz d1 g0 (Ah (x:=gm.2.2)) (Ae (x:=p) dz)) ?_
 rintro _ ll ⟨g3,lm,ln,lo,rfl,az,g4,d2,d3,g5,g6⟩
 obtain ⟨lp,lq,rfl⟩:=AG d2
 obtain ⟨lr,ls,rfl⟩:=Own.len d3
 obtain rfl:=As g6
 refine ⟨_,rfl,⟨_,(Mo [1,3,4] az)⟩,?_⟩
 refine Dy ?_
 refine AO ?_
 have d4:=(Bs du az)
 refine Vx (v:=Pt l 0) (Run.load1 Jr rfl (Bk.cell d4 rfl)) ?_
 refine Vx (v:=.func (.func 84) #[] [Pt y 0,Pt m 0,Pt z 0].toArray) (Hm (vs:=[Pt y 0,Pt m 0,Pt z 0]) rfl) ?_
 refine Vx (v:=Pt m 1) (Run.fieldAddr EN rfl) ?_
 have b6:=(Bs dv az)
 refine Vx (v:=Sb a.name) (Run.load1 CS rfl (Bk.cell b6 rfl)) ?_
 refine Vx (v:=.agg [Sb a.name,I 1,I 0].toArray) (Bp LC P4 rfl (.cons rfl rfl rfl (.cons rfl rfl rfl .nil))) ?_
 refine Vx (v:=Pt m 2) (Run.fieldAddr M3 rfl) ?_
 refine Vx (v:=Sb a.tail) (Run.load1 CS rfl (Bk.cell b6 rfl)) ?_
 refine Vx (v:=.agg [Sb a.tail,I 3,I 0].toArray) (Bp LC P4 rfl (.cons rfl rfl rfl (.cons rfl rfl rfl .nil))) ?_
 refine Ef (DC (cs:=[Sb a.name,I 1,I 0,Sb a.tail,I 3,I 0]) g3 23 [[Sb a.name,I 1,I 0],[Sb a.tail,I 3,I 0]] D3 LC rfl rfl (.cons rfl rfl rfl (.cons rfl rfl rfl .nil)) rfl fun g7 d5 d6 g8 ae=>?_)
 have g9:Own AY 87 g7 d5 23 (.slice (some ⟨d6,0,none⟩) 2 2) ([(AH.mk a.name 1 0),(AH.mk a.tail 3 0)]:List AH):=Own.lit (css:=[[Sb a.name,I 1,I 0],[Sb a.tail,I 3,I 0]]) g8 rfl rfl rfl (AW (KD (x:=(AH.mk a.name 1 0))) (AW (KD (x:=(AH.mk a.tail 3 0))) BE)) (A2 rfl (A2 rfl ED)) rfl
 obtain ⟨ha,af,hb⟩:=Own.freeze (S:=[23]) g9 dcd dcd
 have hc:=(Y2 g4 ae af)
 have hd:=(K2 AL d2 ae af)
 have he:=(Os (Os d3 ae) af)
 have hf:=(Ms (Ms (Ms d1 az) ae) af)
 have hg:=(Y2 g5 ae af)
 have hh:=(Y2 d4 ae af)
 have hi:=(Y2 b6 ae af)
 have hj:=(K3 AJ dw az ae af)
 have hk:=(Y3 d0 az ae af)
 obtain ⟨bq,hl,c⟩:=bnd_sm c
 refine CI (.none rfl) rfl rfl (Vt [Pt l 0,.func (.func 84) #[] [Pt y 0,Pt m 0,Pt z 0].toArray,Sl (some ⟨d6,0,none⟩) (([(AH.mk a.name 1 0),(AH.mk a.tail 3 0)]:List AH)) 2] rfl) ?_
 refine Calls.mono (al.types_checker_in ha d5 (ko0_2:=4) hl dcd dcd hc hd he hf hg (Ah (x:=g1.2.2)) hh hi (Ae (x:=a) hj) hk hb) ?_
 rintro _ lt ⟨hm,lu,lv,lw,rfl,hn,ho,d7,d8,hp,hq⟩
 obtain ⟨hr,hs,rfl⟩:=AG d7
 obtain ⟨ht,hu,rfl⟩:=Own.len d8
 obtain rfl:=As hq
 refine ⟨_,rfl,?_⟩
 refine AA ?_
 exact ⟨_,hm,r,bq.1,hr,hs,bq.2.1,ht,hu,bq.2.2.why,bq.2.2.at_,Pu,c,(T2 (T4 (Mo [1,3,4,23,24,25] ac) ay ad az ae) af hn),d7,d8,ho,hp⟩
 refine Sr ?_
 refine Vr (.bool (a.op==21)) ?_
 refine Va (.bool (a.op==21)) ?_
 refine AA ?_
 refine Cn c (fun hw c=>?_) fun hw c=>?_
 refine AO ?_
 have d9:=(Y2 a7 f e)
 refine Vx (v:=Pt l 0) (Run.load1 Jr rfl (Bk.cell d9 rfl)) ?_
 refine Vx (v:=.func (.func 85) #[] [Pt y 0,Pt m 0,Pt z 0].toArray) (Hm (vs:=[Pt y 0,Pt m 0,Pt z 0]) rfl) ?_
 refine Vx (v:=Pt m 1) (Run.fieldAddr EN rfl) ?_
 refine Vx (v:=Sb a.name) (Run.load1 CS rfl (Bk.cell ar rfl)) ?_
 refine Vx (v:=Pt m 3) (Run.fieldAddr KY rfl) ?_
 refine Vx (v:=I a.type_) (Run.load1 EA rfl (Bk.cell ar rfl)) ?_
 refine Vx (v:=.agg [Sb a.name,I a.type_,I 0].toArray) (Bp LC P4 rfl (.cons rfl rfl rfl (.cons rfl rfl rfl .nil))) ?_
 refine Ef (DC (cs:=[Sb a.name,I a.type_,I 0]) u 24 [[Sb a.name,I a.type_,I 0]] D3 LC rfl rfl (.cons rfl rfl rfl .nil) rfl fun hx ea eb hy ag=>?_)
 have hz:Own AY 87 hx ea 24 (.slice (some ⟨eb,0,none⟩) 1 1) ([(AH.mk a.name a.type_ 0)]:List AH):=Own.lit (css:=[[Sb a.name,I a.type_,I 0]]) hy rfl rfl rfl (AW (KD (x:=(AH.mk a.name a.type_ 0))) BE) (A2 rfl ED) rfl
 obtain ⟨h0,ah,h1⟩:=Own.freeze (S:=[24]) hz dcd dcd
 have h2:=(Bs (Y4 be h f e ag) ah)
 have h3:=(Ss AL (K4 AL a2 h f e ag) ah)
 have h4:=(Os (Os (Os (Os (Os a3 h) f) e) ag) ah)
 have h5:=(Ms (Ms (Ms (Ms (Ms bf h) f) e) ag) ah)
 have h6:=(Bs (Y4 bg h f e ag) ah)
 have h7:=(Y2 d9 ag ah)
 have h8:=(Y2 ar ag ah)
 have h9:=(Ss AJ (K4 AJ a6 h f e ag) ah)
 have ia:=(Y2 a8 ag ah)
 obtain ⟨br,ib,c⟩:=bnd_sm c
 refine CI (.none rfl) rfl rfl (Vt [Pt l 0,.func (.func 85) #[] [Pt y 0,Pt m 0,Pt z 0].toArray,Sl (some ⟨eb,0,none⟩) (([(AH.mk a.name a.type_ 0)]:List AH)) 1] rfl) ?_
 refine Calls.mono (al.types_checker_in_2 h0 ea (ko0_2:=4) ib dcd dcd h2 h3 h4 h5 h6 (Ah (x:=au)) h7 h8 (Ae (x:=a) h9) ia h1) ?_
 rintro _ lx ⟨ic,ly,lz,l0,rfl,id,ie,ec,ed,ig,ih⟩
 obtain ⟨ii,ij,rfl⟩:=AG ec
 obtain ⟨ik,il,rfl⟩:=Own.len ed
 obtain rfl:=As ih
 refine ⟨_,rfl,?_⟩
 refine AA ?_
 exact ⟨_,ic,r,br.1,ii,ij,br.2.1,ik,il,br.2.2.why,br.2.2.at_,Pu,c,(T2 (Mo [1,3,4,23,24,25] ag) ah id),ec,ed,ie,ig⟩
 refine Sr ?_
 refine Vr (.bool (a.op==22)) ?_
 refine Va (.bool (a.op==22)) ?_
 refine AA ?_
 refine Cn c (fun im c=>?_) fun im c=>?_
 refine AZ ?_
 refine CJ FL (.q 0 (.q 1 (.q 2 (.q 3 (.q 4 (.q 5 (.q 6 (.one 7 .nil)))))))) [] [1,3,4] u (by kernel_rfl) fun ee ai=>?_
 have ef:=(Y3 a7 f e ai)
 refine Qx g rfl (v:=Pt l 0) (fun _ ⟨_,d⟩=>Run.load1 Jr rfl (Bk.cell (Bs ef d) rfl)) ?_
 refine Qx g rfl (v:=Pt m 5) (fun _ ⟨_,d⟩=>Run.fieldAddr Bq rfl) ?_
 have b7:=(Bs ar ai)
 refine Qx g rfl (v:=Sl ap a.args aq) (fun _ ⟨_,d⟩=>Run.load1 EB rfl (Bk.cell (Bs b7 d) rfl)) ?_
 obtain ⟨q,io,c⟩:=bnd_sm c
 have eg:=(K4 AJ a6 h f e ai)
 obtain ⟨eh,ei,l1,ip,iq,ir,it,iu,b8⟩:=BL (κ:=AJ) eg io
 replace b8:A8 u ee eh (ei+(0:Int).toNat*7) ip:=b8
 obtain ⟨l2,rfl,ej⟩:=Am iu
 obtain ⟨b9,ca,rfl⟩:=AG ej
 refine Qx g rfl (v:=.pointer (some ⟨eh,ei+(0:Int).toNat*7,none⟩)) (fun _ ⟨_,d⟩=>Run.indexAddr DT iq rfl ir it) ?_
 refine Qx g rfl (v:=.agg [I q.op,Sb q.name,Sb q.tail,I q.type_,Cx q.num,Sl b9 q.args ca,I q.at_].toArray) (fun _ ⟨_,d⟩=>Run.loadN BF rfl rfl (A8.part0 (Es b8 d) [I q.op,Sb q.name,Sb q.tail,I q.type_,Cx q.num,Sl b9 q.args ca,I q.at_] rfl)) ?_
 refine Qx g rfl (v:=Pt m 3) (fun _ ⟨_,d⟩=>Run.fieldAddr KY rfl) ?_
 refine Qx g rfl (v:=I a.type_) (fun _ ⟨_,d⟩=>Run.load1 EA rfl (Bk.cell (Bs b7 d) rfl)) ?_
 refine BX rfl ?_
 have iv:=(Y4 be h f e ai)
 have iw:=(K4 AL a2 h f e ai)
 have ix:=(Os (Os (Os (Os a3 h) f) e) ai)
 have ek:=(Ms (Ms (Ms (Ms bf h) f) e) ai)
 have iy:=(Y4 bg h f e ai)
 obtain ⟨iz,i0,c⟩:=bnd_sm c
 refine BR rfl (.none rfl) rfl rfl (LQ [Pt l 0,.agg [I q.op,Sb q.name,Sb q.tail,I q.type_,Cx q.num,Sl b9 q.args ca,I q.at_].toArray,I a.type_] rfl) ?_
 refine Calls.mono (al.types_checker_want u ee (ko0_2:=4) i0 dcd dcd iv iw ix ek iy (Ah (x:=au)) (Ae (x:=q) ej)) ?_
 rintro _ l3 ⟨i1,l4,l5,l6,rfl,a0,i2,el,em,i3,i4⟩
 obtain ⟨l7,l8,rfl⟩:=AG el
 obtain ⟨l9,ma,rfl⟩:=Own.len em
 obtain rfl:=As i4
 refine ⟨_,rfl,⟨_,(Mo [1,3,4] a0)⟩,?_⟩
 refine Dy ?_
 refine AO ?_
 have en:=(Bs ef a0)
 refine Vx (v:=Pt l 0) (Run.load1 Jr rfl (Bk.cell en rfl)) ?_
 refine Vx (v:=.func (.func 86) #[] [Pt y 0,Pt m 0,Pt z 0].toArray) (Hm (vs:=[Pt y 0,Pt m 0,Pt z 0]) rfl) ?_
 refine Vx (v:=Pt m 1) (Run.fieldAddr EN rfl) ?_
 have cb:=(Bs b7 a0)
 refine Vx (v:=Sb a.name) (Run.load1 CS rfl (Bk.cell cb rfl)) ?_
 refine Vx (v:=Pt m 3) (Run.fieldAddr KY rfl) ?_
 refine Vx (v:=I a.type_) (Run.load1 EA rfl (Bk.cell cb rfl)) ?_
 refine Vx (v:=.agg [Sb a.name,I a.type_,I 0].toArray) (Bp LC P4 rfl (.cons rfl rfl rfl (.cons rfl rfl rfl .nil))) ?_
 refine Ef (DC (cs:=[Sb a.name,I a.type_,I 0]) i1 25 [[Sb a.name,I a.type_,I 0]] D3 LC rfl rfl (.cons rfl rfl rfl .nil) rfl fun i5 eo ep i6 aj=>?_)
 have i7:Own AY 87 i5 eo 25 (.slice (some ⟨ep,0,none⟩) 1 1) ([(AH.mk a.name a.type_ 0)]:List AH):=Own.lit (css:=[[Sb a.name,I a.type_,I 0]]) i6 rfl rfl rfl (AW (KD (x:=(AH.mk a.name a.type_ 0))) BE) (A2 rfl ED) rfl
 obtain ⟨i8,ak,i9⟩:=Own.freeze (S:=[25]) i7 dcd dcd
 have ja:=(Y2 i2 aj ak)
 have jb:=(K2 AL el aj ak)
 have jc:=(Os (Os em aj) ak)
 have jd:=(Ms (Ms (Ms ek a0) aj) ak)
 have je:=(Y2 i3 aj ak)
 have jf:=(Y2 en aj ak)
 have jg:=(Y2 cb aj ak)
 have jh:=(K3 AJ eg a0 aj ak)
 have ji:=(Y4 a8 ai a0 aj ak)
 obtain ⟨bt,jj,c⟩:=bnd_sm c
 refine CI (.none rfl) rfl rfl (Vt [Pt l 0,.func (.func 86) #[] [Pt y 0,Pt m 0,Pt z 0].toArray,Sl (some ⟨ep,0,none⟩) (([(AH.mk a.name a.type_ 0)]:List AH)) 1] rfl) ?_
 refine Calls.mono (al.types_checker_in_3 i8 eo (ko0_2:=4) jj dcd dcd ja jb jc jd je (Ah (x:=iz.2.2)) jf jg (Ae (x:=a) jh) ji i9) ?_
 rintro _ mb ⟨jk,mc,md,me,rfl,jl,jm,eq,er,jn,jo⟩
 obtain ⟨jp,jq,rfl⟩:=AG eq
 obtain ⟨jr,js,rfl⟩:=Own.len er
 obtain rfl:=As jo
 refine ⟨_,rfl,?_⟩
 refine AA ?_
 exact ⟨_,jk,r,bt.1,jp,jq,bt.2.1,jr,js,bt.2.2.why,bt.2.2.at_,Pu,c,(T4 (Mo [1,3,4,23,24,25] ai) a0 aj ak jl),eq,er,jm,jn⟩
 refine AO ?_
 have jt:=(Y2 a7 f e)
 refine Vx (v:=Pt l 0) (Run.load1 Jr rfl (Bk.cell jt rfl)) ?_
 refine Vx (v:=.agg [I a.op,Sb a.name,Sb a.tail,I a.type_,Cx a.num,Sl ap a.args aq,I a.at_].toArray) (Run.loadN BF rfl rfl (Bk.part ar 0 [I a.op,Sb a.name,Sb a.tail,I a.type_,Cx a.num,Sl ap a.args aq,I a.at_] rfl)) ?_
 have ju:=(Y3 be h f e)
 have jv:=(K3 AL a2 h f e)
 have jw:=(Os (Os (Os a3 h) f) e)
 have jx:=(Ms (Ms (Ms bf h) f) e)
 have jy:=(Y3 bg h f e)
 have jz:=(K3 AJ a6 h f e)
 obtain ⟨bc,j0,c⟩:=bnd_sm c
 refine CI (.none rfl) rfl rfl (AAm [Pt l 0,.agg [I a.op,Sb a.name,Sb a.tail,I a.type_,Cx a.num,Sl ap a.args aq,I a.at_].toArray] rfl) ?_
 refine Calls.mono (al.types_checker_own u cu (ko0_2:=4) j0 dcd dcd ju jv jw jx jy (Ah (x:=au)) (Ae (x:=a) jz)) ?_
 rintro _ mf ⟨j1,mg,mh,mi,rfl,j2,j3,es,et,j4,j5⟩
 obtain ⟨j6,j7,rfl⟩:=AG es
 obtain ⟨j8,j9,rfl⟩:=Own.len et
 obtain rfl:=As j5
 refine ⟨_,rfl,?_⟩
 refine Va (I bc.1) ?_
 refine AA ?_
 exact ⟨_,j1,bc.1,bc.2.1,j6,j7,bc.2.2.1,j8,j9,bc.2.2.2.why,bc.2.2.2.at_,Pu,c,(Mo [1,3,4,23,24,25] j2),es,et,j3,j4⟩
 rintro _ a9 ⟨cv,an,bh,av,bi,bj,aw,bk,bl,ba,bb,rfl,c,bm,eu,ew,ex,ey⟩
 rw [CM] at c
 refine Sr ?_
 refine Vx (v:=I bh) (Run.move rfl) ?_
 have ka:=(Bs a8 bm)
 refine Vx (v:=I r) (Run.load1 EA rfl (Bk.cell ka rfl)) ?_
 refine Vr (.bool (bh != r)) ?_
 refine AA ?_
 refine Cn c (fun kb c=>?_) fun kb c=>?_
 refine CJ FL (.q 0 (.q 1 (.q 2 (.q 3 (.q 4 (.q 5 (.one 6 .nil))))))) [] [3] an (by kernel_rfl) fun kc a1=>?_
 have kd:=(Y4 a7 f e bm a1)
 refine Qx g rfl (v:=Pt l 0) (fun _ ⟨_,d⟩=>Run.load1 Jr rfl (Bk.cell (Bs kd d) rfl)) ?_
 refine Qx g rfl (v:=Pt l 0) (fun _ ⟨_,d⟩=>Run.nilCheck rfl) ?_
 refine Qx g rfl (v:=Pt l 3) (fun _ ⟨_,d⟩=>Run.fieldAddr XB rfl) ?_
 have ez:=(Bs ex a1)
 refine Qx g rfl (v:=.func (.func 52) #[] [Pt ao 0].toArray) (fun _ ⟨_,d⟩=>Run.load1 ZX rfl (Bk.cell (Bs ez d) rfl)) ?_
 refine Qx g rfl (v:=Pt m 6) (fun _ ⟨_,d⟩=>Run.fieldAddr Li rfl) ?_
 have ke:=(Y3 ct e bm a1)
 refine Qx g rfl (v:=I a.at_) (fun _ ⟨_,d⟩=>Run.load1 B5 rfl (Bk.cell (Bs ke d) rfl)) ?_
 refine BX rfl ?_
 have kf:=(Bs ey a1)
 obtain ⟨cc,kg,c⟩:=bnd_sm c
 refine BR rfl (.none rfl) rfl rfl (AAq (vs:=[I a.at_]) (caps:=[Pt ao 0]) rfl rfl) ?_
 refine Calls.mono (QD an kc kg dcd dcd kf (Ah (x:=(AD.mk ba bb)))) ?_
 rintro _ mj ⟨kh,mk,rfl,bn,ki,kj⟩
 obtain rfl:=As kj
 refine ⟨_,rfl,⟨_,(Mo [3] bn)⟩,?_⟩
 refine Dy ?_
 obtain rfl:=AP c
 refine L3 (B:=B) cr (L2 rfl ?_)
 have kk:=(Bs ez bn)
 have kl:=(K2 AL eu a1 bn)
 have km:=(Os (Os ew a1) bn)
 exact ⟨kh,Sl bi av bj,Sl bk aw bl,[I cc.why,I cc.at_],rfl,Ho (Tn (T4 (Mo [1,3,4,23,24,25] h) f e bm a1) bn) cf,kk,kl,km,ki,(Ah (x:=cc))⟩
 refine WC.skip ?_
 obtain rfl:=AP c
 refine L3 (B:=B) cr (L2 rfl ?_)
 exact ⟨an,Sl bi av bj,Sl bk aw bl,[I ba,I bb],rfl,Ho (T3 (Mo [1,3,4,23,24,25] h) f e bm) cf,ex,eu,ew,ey,(Ah (x:=(AD.mk ba bb)))⟩
theorem NO(e:AF)(g:Nat)(o:AF.Good e):types_checker_want.Spec (Fy e g):=by
 intro f h ai a aj ak al am ko0_2 an c ao ap d aq ar au av aw ax p hnd hnz l q r s m u w
 refine Calls.mono (NN e g o (recol (see [a,c,d,ko0_2]) f) h (Az lbr f) (A6 l [a,c,d,ko0_2] (BD hnd hnz (i:=0) rfl)) (By AL q [a,c,d,ko0_2]) (Ji r [a,c,d,ko0_2] (BD hnd hnz (i:=3) rfl)) (Ge s [a,c,d,ko0_2] (BD hnd hnz (i:=1) rfl)) (A6 m [a,c,d,ko0_2] (BD hnd hnz (i:=2) rfl)) (Au Ag u [a,c,d,ko0_2]) (Au AJ w [a,c,d,ko0_2]) p) ?_
 rintro ay az ⟨y,z,aa,ab,ac,n,ad,ae,af,ag,ah⟩
 exact ⟨glue [a,c,d,ko0_2] h f y,z,aa,ab,ac,Ad n (DS rfl rfl),CK l ad dcd,DV AL ae,Jt (j:=3) af rfl rfl n,CK m ag dcd,BB Ag ah⟩
theorem Nw(w:AF)(au:Nat)(bd:AF.Good w)(d:Col)(e:World)(be:∀b,d b<10){y:Nat}{am:(List AK)}{av:Value}{an:(List AH)}{aw:Value}{ae:Nat}{z:Ak}{aa:Nat}{af:AD}{ax:List Value}{h:Int}{f:(List AE)}{ay:Value}{ab:(List AK)×(List AH)×AD}(bf:Bk d e 1 y [.map (some ae),av,aw,.func (.func 52) #[] [Pt aa 0].toArray] 134)(az:Slc AL d.F e av am)(a0:Own AY 87 d e 4 aw an)(bg:Mp d e 2 ae z)(bh:Bk d e 3 aa ax 63)(bi:Ag.rep d.F e ax af)(ao:Slc AJ d.F e ay f)(c:Iw w au am an z af h f=some ab):
  Calls Tryz.prog 82 #[Pt y 0,I h,ay] e fun bj ac=>∃(ad:Col) (a1:Value) (a2:Value) (a3:List Value),bj=.returned (.tuple #[])∧AQ [1,3,4] d e ad ac∧Bk ad ac 1 y [.map (some ae),a1,a2,.func (.func 52) #[] [Pt aa 0].toArray] 134∧Slc AL ad.F ac a1 ab.1∧Own AY 87 ad ac 4 a2 ab.2.1∧Bk ad ac 3 aa a3 63∧Ag.rep ad.F ac a3 ab.2.2:=by
 rw [Iw] at c
 obtain ⟨bk,bl,rfl⟩:=AG az
 obtain ⟨bm,bn,rfl⟩:=Own.len a0
 obtain rfl:=As bi
 obtain ⟨bo,bp,rfl⟩:=AG ao
 refine A0 Tryz.func82 rfl Tryz.ntmps82 rfl fun B bq ct=>Sr<|Vm ?_
 obtain ⟨cu,cv,br⟩:=AG ao
 refine Vx (v:=I (f.length:Int)) (Run.lenSlc DT br)<|Vm<|AA<|Aj<|Bt (fun l bt m=>∃(a4:Env) (g:Col) (x93:Int) (n:(List AK)) (ag:Option Addr) (ah:Nat) (o:(List AH)) (ai:Option Addr) (aj:Nat) (p:Int) (q:Int),bt=a4.puts [(0,.pointer (some ⟨y,0,none⟩)),(1,.int .i64 h),(8,.slice bo f.length bp),(9,.int .i64 (f.length:Int)),(10,.int .i64 x93)]∧Dh w z h f l x93 n o p q=some ab∧AQ [1,3,4,20] d e g m∧Slc AL g.F m (Sl ag n ah) n∧Own AY 87 g m 4 (Sl ai o aj) o∧Bk g m 1 y [.map (some ae),Sl ag n ah,Sl ai o aj,.func (.func 52) #[] [Pt aa 0].toArray] 134∧Bk g m 3 aa [I p,I q] 63) au ?_ ?_
 exact ⟨_,d,0,am,bk,bl,an,bm,bn,af.why,af.at_,Pu,c,(AQ.refl [1,3,4,20] _ _),az,a0,bf,bh⟩
 rintro l _ m ⟨a4,g,x93,n,ag,ah,o,ai,aj,p,q,rfl,c,ak,a5,a6,a7,a8⟩
 rcases l with _|l
 exact BC c
 refine have c:EQ w z h f (Dh w z h f l) x93 n o p q=some ab:=c; ?_
 obtain ⟨cw,a9⟩:∃s,s=Dh w z h f l:=⟨_,rfl⟩
 rw [←a9,EQ] at c
 refine Sr<|Vr (.bool (decide (x93< (f.length:Int))))<|AA<|AZ<|Cn c (fun bu c=>?_) fun bu c=>?_
 refine WC.skip<|AZ<|Aj<|Sr<|Bi c fun a bv c=>have bw:=Ss AJ ao ak; ?_
 obtain ⟨bx,bz,cx,b0,b1,b2,b3,b4,ap⟩:=BL (κ:=AJ) bw bv
 replace ap:A8 g m bx (bz+x93.toNat*7) b0:=ap
 obtain ⟨cy,rfl,ba⟩:=Am b4
 obtain ⟨aq,ar,rfl⟩:=AG ba
 refine Vx (Run.indexAddr DT b1 rfl b2 b3)<|Vx (Run.loadN BF rfl rfl (A8.part0 ap [I a.op,Sb a.name,Sb a.tail,I a.type_,Cx a.num,Sl aq a.args ar,I a.at_] rfl))<|Ef (Aa g 20 DN rfl fun b5 cz c0 b6 r=>?_)
 refine have b7:=Ss AJ ba r;Eu (St Dj b6 rfl rfl rfl rfl fun b8 b9 u=>?_)
 refine AA<|AO<|Vm<|Vx (Run.loadN BF rfl rfl (Bk.part b9 0 [I a.op,Sb a.name,Sb a.tail,I a.type_,Cx a.num,Sl aq a.args ar,I a.at_] rfl))<|Vm<|have ca:=Y2 a7 r u;have cb:=K2 AL a5 r u;have cc:=Os (Os a6 r) u;have cd:=Ms (Ms (Ms bg ak) r) u;have cf:=Y2 a8 r u;have cg:=Ss AJ b7 u;Bi c fun al ch c=>Ca (LQ [Pt y 0,.agg [I a.op,Sb a.name,Sb a.tail,I a.type_,Cx a.num,Sl aq a.args ar,I a.at_].toArray,I h] rfl) (bd.types_checker_want b5 b8 (ko0_2:=4) ch dcd dcd ca cb cc cd cf (Ah (x:=(AD.mk p q))) (Ae (x:=a) cg)) ?_
 rintro _ c1 ⟨ci,c2,c3,c4,rfl,cj,ck,bb,bc,cl,cm⟩
 obtain ⟨cn,co,rfl⟩:=AG bb
 obtain ⟨cq,cr,rfl⟩:=Own.len bc
 obtain rfl:=As cm
 refine ⟨_,rfl,?_⟩
 refine AA<|AO<|Vr (I (Wr (x93+1)))<|Vm<|AA<|⟨l,Nat.lt_succ_self l,_,ci,(Wr (x93+1)),al.1,cn,co,al.2.1,cq,cr,al.2.2.why,al.2.2.at_,Pu,(a9▸c),(T3 (Mo [1,3,4,20] ak) r u cj),bb,bc,ck,cl⟩
 refine Bc ?_
 obtain rfl:=AP c
 refine L3 (B:=B) bq (L2 rfl ?_)
 exact ⟨g,Sl ag n ah,Sl ai o aj,[I p,I q],rfl,Ho (Mo [1,3,4,20] ak) be,a7,a5,a6,a8,(Ah (x:=(AD.mk p q)))⟩
theorem Nx(e:AF)(g:Nat)(o:AF.Good e):types_checker_all.Spec (Iw e g):=by
 intro f h ai a aj ak al am ko0_2 an c ao ap d aq ar au av aw ax p hnd hnz l q r s m u w
 refine Calls.mono (Nw e g o (recol (see [a,c,d,ko0_2]) f) h (Az lbr f) (A6 l [a,c,d,ko0_2] (BD hnd hnz (i:=0) rfl)) (By AL q [a,c,d,ko0_2]) (Ji r [a,c,d,ko0_2] (BD hnd hnz (i:=3) rfl)) (Ge s [a,c,d,ko0_2] (BD hnd hnz (i:=1) rfl)) (A6 m [a,c,d,ko0_2] (BD hnd hnz (i:=2) rfl)) (Au Ag u [a,c,d,ko0_2]) (By AJ w [a,c,d,ko0_2]) p) ?_
 rintro ay az ⟨y,z,aa,ab,ac,n,ad,ae,af,ag,ah⟩
 exact ⟨glue [a,c,d,ko0_2] h f y,z,aa,ab,ac,Ad n (DS rfl rfl),CK l ad dcd,DV AL ae,Jt (j:=3) af rfl rfl n,CK m ag dcd,BB Ag ah⟩
theorem OP(ak:AF)(bc:Nat)(bd:AF.Good ak)(a:Col)(c:World)(be:∀b,a b<10){p:Nat}{ab:(List AK)}{al:Value}{g:(List AH)}{am:Value}{n:Nat}{an:Ak}{h:Nat}{ac:AD}{ao:List Value}{ad:Nat}{ae:Nat}{af:AE}{ap:List Value}{ag:Nat}{aq:Int}{q:(List AH)}{ar:Value}{r:(List AK)×(List AH)×AD}(ah:Bk a c 1 p [.map (some n),al,am,.func (.func 52) #[] [Pt h 0].toArray] 134)(au:Slc AL a.F c al ab)(ai:Own AY 87 a c 7 am g)(bf:Mp a c 2 n an)(bg:Bk a c 3 h ao 63)(bh:Ag.rep a.F c ao ac)(bi:Bk a c 4 ad [Pt p 0] 130)(bj:Bk a c 5 ae ap 56)(bk:AJ.rep a.F c ap af)(bl:Bk a c 6 ag [I aq] 34)(av:Slc AY a.F c ar q)(f:Gq ak bc ab g an ac af aq q=some r):
  Calls Tryz.prog 83 #[Pt p 0,.func (.func 84) #[] [Pt ad 0,Pt ae 0,Pt ag 0].toArray,ar] c fun bm l=>∃(m:Col) (aw:Value) (ax:Value) (ay:List Value),bm=.returned (.tuple #[])∧AQ [1,3,7] a c m l∧Bk m l 1 p [.map (some n),aw,ax,.func (.func 52) #[] [Pt h 0].toArray] 134∧Slc AL m.F l aw r.1∧Own AY 87 m l 7 ax r.2.1∧Bk m l 3 h ay 63∧Ag.rep m.F l ay r.2.2:=by
 rw [Gq] at f
 obtain ⟨bn,bo,rfl⟩:=AG au
 obtain ⟨ck,cl,rfl⟩:=Own.len ai
 obtain rfl:=As bh
 obtain ⟨cm,rfl,az⟩:=Am bk
 obtain ⟨cn,co,rfl⟩:=AG az
 obtain ⟨cq,cr,rfl⟩:=AG av
 refine A0 Tryz.func83 rfl Tryz.ntmps83 rfl fun B bp ct=>Sr<|Vm<|Vx (Run.nilCheck rfl)<|Vx (Run.fieldAddr FG rfl)<|Vx (Run.load1 Eo rfl (Bk.cell ah rfl)) ?_
 obtain ⟨cu,cv,bq⟩:=Own.len ai
 refine Vx (v:=I (g.length:Int)) (Run.lenSlc D3 bq)<|Va (I (g.length:Int))<|AA<|Sr<|Vm<|Vm<|Vx (Run.nilCheck rfl)<|Vx (Run.fieldAddr FG rfl)<|Vx (Run.load1 Eo rfl (Bk.cell ah rfl))<|Vm<|Bi f fun cw a0 f=>Ef (Bx (κ:=AY) rfl rfl ai dcd O8 (Hl av) (FW a0) (Fk a0) fun cx br cy aj d=>?_)
 obtain ⟨a1,a2,rfl⟩:=Own.len aj
 refine Vx (Run.nilCheck rfl)<|Vx (Run.fieldAddr FG rfl)<|have bt:=Bs ah d;Eu (Br (vs:=[Sl a1 ((g++q)) a2]) (cs':=[.map (some n),Sl bn ab bo,Sl a1 ((g++q)) a2,.func (.func 52) #[] [Pt h 0].toArray]) OC rfl rfl rfl rfl (AX (Own.one aj) CQ) bt dcd rfl rfl fun bu bv e=>?_)
 refine AA<|Sr<|Vm<|have bw:=Y2 bi d e;have bx:=K2 AL au d e;have bz:=Os aj e;have b0:=Ms (Ms bf d) e;have b1:=Y2 bg d e;have b2:=Y2 bj d e;have b3:=K2 AJ az d e;have b4:=Y2 bl d e;Bi f fun o b5 f=>Ca (AAs (vs:=[]) (caps:=[Pt ad 0,Pt ae 0,Pt ag 0]) rfl rfl) (bd.types_checker_want_1 br bu (ko1_2:=7) b5 dcd dcd bw bv bx bz b0 b1 (Ah (x:=ac)) b2 (Ae (x:=af) b3) b4) ?_
 rintro _ cz ⟨b6,c0,c1,c2,rfl,b7,a3,a4,a5,b8,b9⟩
 obtain ⟨a6,a7,rfl⟩:=AG a4
 obtain ⟨c3,c4,rfl⟩:=Own.len a5
 obtain rfl:=As b9
 refine ⟨_,rfl,?_⟩
 refine AA<|AO<|Vm<|Vm<|Vx (Run.nilCheck rfl)<|Vx (Run.fieldAddr FG rfl)<|Vx (Run.load1 Eo rfl (Bk.cell a3 rfl))<|Vm<|Bi f fun u a8 f=>?_
 obtain ⟨a9,ba,ca,cb,w⟩:=Own.sub a5 a8
 obtain ⟨c5,bb⟩:∃s,s=Value.slice (if ba=(0:Int).toNat then a9 else a9.map (·.add ((0:Int).toNat*AY.size))) ((g.length:Int).toNat - (0:Int).toNat) (ba - (0:Int).toNat):=⟨_,rfl⟩
 rw [←bb] at w
 obtain ⟨cc,cd,cf,_⟩:=Kq a8
 obtain ⟨y,z,rfl⟩:=Own.len w
 refine Vx (v:=.slice y u.length z) (by rw [bb];exact Run.sliceSlc D3 ca rfl ⟨_,rfl⟩ cc cd cf cb)<|Vx (Run.nilCheck rfl)<|Vx (Run.fieldAddr FG rfl)<|Eu (Br (vs:=[Sl y u z]) (cs':=[.map (some n),Sl a6 o.1 a7,Sl y u z,.func (.func 52) #[] [Pt h 0].toArray]) OC rfl rfl rfl rfl (AX (Own.one w) CQ) a3 dcd rfl rfl fun c6 cg aa=>?_)
 refine AA ?_
 obtain rfl:=AP f
 refine L3 (B:=B) bp (L2 rfl ?_)
 refine have ch:=Ss AL a4 aa;have ci:=Os w aa;have cj:=Bs b8 aa;⟨b6,Sl a6 o.1 a7,Sl y u z,[I o.2.2.why,I o.2.2.at_],rfl,Ho (T3 (Mo [1,3,7] d) e b7 aa) be,cg,ch,ci,cj,(Ah (x:=o.2.2))⟩
theorem OQ(h:AF)(m:Nat)(r:AF.Good h):types_checker_in.Spec (Gq h m):=by
 intro l n ap a aq ar au av ko0_2 aw c ax ay d az a0 a1 e a2 f a3 a4 a5 g a6 a7 a8 a9 s hnd hnz o u w y p z aa ab ac ad ae
 refine Calls.mono (OP h m r (recol (see [a,c,d,e,f,g,ko0_2]) l) n (Az lbr l) (A6 o [a,c,d,e,f,g,ko0_2] (BD hnd hnz (i:=0) rfl)) (By AL u [a,c,d,e,f,g,ko0_2]) (Ji w [a,c,d,e,f,g,ko0_2] (BD hnd hnz (i:=6) rfl)) (Ge y [a,c,d,e,f,g,ko0_2] (BD hnd hnz (i:=1) rfl)) (A6 p [a,c,d,e,f,g,ko0_2] (BD hnd hnz (i:=2) rfl)) (Au Ag z [a,c,d,e,f,g,ko0_2]) (A6 aa [a,c,d,e,f,g,ko0_2] (BD hnd hnz (i:=3) rfl)) (A6 ab [a,c,d,e,f,g,ko0_2] (BD hnd hnz (i:=4) rfl)) (Au AJ ac [a,c,d,e,f,g,ko0_2]) (A6 ad [a,c,d,e,f,g,ko0_2] (BD hnd hnz (i:=5) rfl)) (By AY ae [a,c,d,e,f,g,ko0_2]) s) ?_
 rintro ba bb ⟨af,ag,ah,ai,aj,q,ak,al,am,an,ao⟩
 exact ⟨glue [a,c,d,e,f,g,ko0_2] n l af,ag,ah,ai,aj,Ad q (DS rfl rfl),CK o ak dcd,DV AL al,Jt (j:=6) am rfl rfl q,CK p an dcd,BB Ag ao⟩
theorem NP(ak:AF)(bc:Nat)(bd:AF.Good ak)(a:Col)(c:World)(be:∀b,a b<10){p:Nat}{ab:(List AK)}{al:Value}{g:(List AH)}{am:Value}{n:Nat}{an:Ak}{h:Nat}{ac:AD}{ao:List Value}{ad:Nat}{ae:Nat}{af:AE}{ap:List Value}{ag:Nat}{aq:Int}{q:(List AH)}{ar:Value}{r:(List AK)×(List AH)×AD}(ah:Bk a c 1 p [.map (some n),al,am,.func (.func 52) #[] [Pt h 0].toArray] 134)(au:Slc AL a.F c al ab)(ai:Own AY 87 a c 7 am g)(bf:Mp a c 2 n an)(bg:Bk a c 3 h ao 63)(bh:Ag.rep a.F c ao ac)(bi:Bk a c 4 ad [Pt p 0] 130)(bj:Bk a c 5 ae ap 56)(bk:AJ.rep a.F c ap af)(bl:Bk a c 6 ag [I aq] 34)(av:Slc AY a.F c ar q)(f:F0 ak bc ab g an ac af aq q=some r):
  Calls Tryz.prog 83 #[Pt p 0,.func (.func 85) #[] [Pt ad 0,Pt ae 0,Pt ag 0].toArray,ar] c fun bm l=>∃(m:Col) (aw:Value) (ax:Value) (ay:List Value),bm=.returned (.tuple #[])∧AQ [1,3,7] a c m l∧Bk m l 1 p [.map (some n),aw,ax,.func (.func 52) #[] [Pt h 0].toArray] 134∧Slc AL m.F l aw r.1∧Own AY 87 m l 7 ax r.2.1∧Bk m l 3 h ay 63∧Ag.rep m.F l ay r.2.2:=by
 rw [F0] at f
 obtain ⟨bn,bo,rfl⟩:=AG au
 obtain ⟨ck,cl,rfl⟩:=Own.len ai
 obtain rfl:=As bh
 obtain ⟨cm,rfl,az⟩:=Am bk
 obtain ⟨cn,co,rfl⟩:=AG az
 obtain ⟨cq,cr,rfl⟩:=AG av
 refine A0 Tryz.func83 rfl Tryz.ntmps83 rfl fun B bp ct=>Sr<|Vm<|Vx (Run.nilCheck rfl)<|Vx (Run.fieldAddr FG rfl)<|Vx (Run.load1 Eo rfl (Bk.cell ah rfl)) ?_
 obtain ⟨cu,cv,bq⟩:=Own.len ai
 refine Vx (v:=I (g.length:Int)) (Run.lenSlc D3 bq)<|Va (I (g.length:Int))<|AA<|Sr<|Vm<|Vm<|Vx (Run.nilCheck rfl)<|Vx (Run.fieldAddr FG rfl)<|Vx (Run.load1 Eo rfl (Bk.cell ah rfl))<|Vm<|Bi f fun cw a0 f=>Ef (Bx (κ:=AY) rfl rfl ai dcd O8 (Hl av) (FW a0) (Fk a0) fun cx br cy aj d=>?_)
 obtain ⟨a1,a2,rfl⟩:=Own.len aj
 refine Vx (Run.nilCheck rfl)<|Vx (Run.fieldAddr FG rfl)<|have bt:=Bs ah d;Eu (Br (vs:=[Sl a1 ((g++q)) a2]) (cs':=[.map (some n),Sl bn ab bo,Sl a1 ((g++q)) a2,.func (.func 52) #[] [Pt h 0].toArray]) OC rfl rfl rfl rfl (AX (Own.one aj) CQ) bt dcd rfl rfl fun bu bv e=>?_)
 refine AA<|Sr<|Vm<|have bw:=Y2 bi d e;have bx:=K2 AL au d e;have bz:=Os aj e;have b0:=Ms (Ms bf d) e;have b1:=Y2 bg d e;have b2:=Y2 bj d e;have b3:=K2 AJ az d e;have b4:=Y2 bl d e;Bi f fun o b5 f=>Ca (AAt (vs:=[]) (caps:=[Pt ad 0,Pt ae 0,Pt ag 0]) rfl rfl) (bd.types_checker_want_2 br bu (ko1_2:=7) b5 dcd dcd bw bv bx bz b0 b1 (Ah (x:=ac)) b2 (Ae (x:=af) b3) b4) ?_
 rintro _ cz ⟨b6,c0,c1,c2,rfl,b7,a3,a4,a5,b8,b9⟩
 obtain ⟨a6,a7,rfl⟩:=AG a4
 obtain ⟨c3,c4,rfl⟩:=Own.len a5
 obtain rfl:=As b9
 refine ⟨_,rfl,?_⟩
 refine AA<|AO<|Vm<|Vm<|Vx (Run.nilCheck rfl)<|Vx (Run.fieldAddr FG rfl)<|Vx (Run.load1 Eo rfl (Bk.cell a3 rfl))<|Vm<|Bi f fun u a8 f=>?_
 obtain ⟨a9,ba,ca,cb,w⟩:=Own.sub a5 a8
 obtain ⟨c5,bb⟩:∃s,s=Value.slice (if ba=(0:Int).toNat then a9 else a9.map (·.add ((0:Int).toNat*AY.size))) ((g.length:Int).toNat - (0:Int).toNat) (ba - (0:Int).toNat):=⟨_,rfl⟩
 rw [←bb] at w
 obtain ⟨cc,cd,cf,_⟩:=Kq a8
 obtain ⟨y,z,rfl⟩:=Own.len w
 refine Vx (v:=.slice y u.length z) (by rw [bb];exact Run.sliceSlc D3 ca rfl ⟨_,rfl⟩ cc cd cf cb)<|Vx (Run.nilCheck rfl)<|Vx (Run.fieldAddr FG rfl)<|Eu (Br (vs:=[Sl y u z]) (cs':=[.map (some n),Sl a6 o.1 a7,Sl y u z,.func (.func 52) #[] [Pt h 0].toArray]) OC rfl rfl rfl rfl (AX (Own.one w) CQ) a3 dcd rfl rfl fun c6 cg aa=>?_)
 refine AA ?_
 obtain rfl:=AP f
 refine L3 (B:=B) bp (L2 rfl ?_)
 refine have ch:=Ss AL a4 aa;have ci:=Os w aa;have cj:=Bs b8 aa;⟨b6,Sl a6 o.1 a7,Sl y u z,[I o.2.2.why,I o.2.2.at_],rfl,Ho (T3 (Mo [1,3,7] d) e b7 aa) be,cg,ch,ci,cj,(Ah (x:=o.2.2))⟩
theorem NQ(h:AF)(m:Nat)(r:AF.Good h):types_checker_in_2.Spec (F0 h m):=by
 intro l n ap a aq ar au av ko0_2 aw c ax ay d az a0 a1 e a2 f a3 a4 a5 g a6 a7 a8 a9 s hnd hnz o u w y p z aa ab ac ad ae
 refine Calls.mono (NP h m r (recol (see [a,c,d,e,f,g,ko0_2]) l) n (Az lbr l) (A6 o [a,c,d,e,f,g,ko0_2] (BD hnd hnz (i:=0) rfl)) (By AL u [a,c,d,e,f,g,ko0_2]) (Ji w [a,c,d,e,f,g,ko0_2] (BD hnd hnz (i:=6) rfl)) (Ge y [a,c,d,e,f,g,ko0_2] (BD hnd hnz (i:=1) rfl)) (A6 p [a,c,d,e,f,g,ko0_2] (BD hnd hnz (i:=2) rfl)) (Au Ag z [a,c,d,e,f,g,ko0_2]) (A6 aa [a,c,d,e,f,g,ko0_2] (BD hnd hnz (i:=3) rfl)) (A6 ab [a,c,d,e,f,g,ko0_2] (BD hnd hnz (i:=4) rfl)) (Au AJ ac [a,c,d,e,f,g,ko0_2]) (A6 ad [a,c,d,e,f,g,ko0_2] (BD hnd hnz (i:=5) rfl)) (By AY ae [a,c,d,e,f,g,ko0_2]) s) ?_
 rintro ba bb ⟨af,ag,ah,ai,aj,q,ak,al,am,an,ao⟩
 exact ⟨glue [a,c,d,e,f,g,ko0_2] n l af,ag,ah,ai,aj,Ad q (DS rfl rfl),CK o ak dcd,DV AL al,Jt (j:=6) am rfl rfl q,CK p an dcd,BB Ag ao⟩
theorem NR(ak:AF)(bc:Nat)(bd:AF.Good ak)(a:Col)(c:World)(be:∀b,a b<10){p:Nat}{ab:(List AK)}{al:Value}{g:(List AH)}{am:Value}{n:Nat}{an:Ak}{h:Nat}{ac:AD}{ao:List Value}{ad:Nat}{ae:Nat}{af:AE}{ap:List Value}{ag:Nat}{aq:Int}{q:(List AH)}{ar:Value}{r:(List AK)×(List AH)×AD}(ah:Bk a c 1 p [.map (some n),al,am,.func (.func 52) #[] [Pt h 0].toArray] 134)(au:Slc AL a.F c al ab)(ai:Own AY 87 a c 7 am g)(bf:Mp a c 2 n an)(bg:Bk a c 3 h ao 63)(bh:Ag.rep a.F c ao ac)(bi:Bk a c 4 ad [Pt p 0] 130)(bj:Bk a c 5 ae ap 56)(bk:AJ.rep a.F c ap af)(bl:Bk a c 6 ag [I aq] 34)(av:Slc AY a.F c ar q)(f:F1 ak bc ab g an ac af aq q=some r):
  Calls Tryz.prog 83 #[Pt p 0,.func (.func 86) #[] [Pt ad 0,Pt ae 0,Pt ag 0].toArray,ar] c fun bm l=>∃(m:Col) (aw:Value) (ax:Value) (ay:List Value),bm=.returned (.tuple #[])∧AQ [1,3,7] a c m l∧Bk m l 1 p [.map (some n),aw,ax,.func (.func 52) #[] [Pt h 0].toArray] 134∧Slc AL m.F l aw r.1∧Own AY 87 m l 7 ax r.2.1∧Bk m l 3 h ay 63∧Ag.rep m.F l ay r.2.2:=by
 rw [F1] at f
 obtain ⟨bn,bo,rfl⟩:=AG au
 obtain ⟨ck,cl,rfl⟩:=Own.len ai
 obtain rfl:=As bh
 obtain ⟨cm,rfl,az⟩:=Am bk
 obtain ⟨cn,co,rfl⟩:=AG az
 obtain ⟨cq,cr,rfl⟩:=AG av
 refine A0 Tryz.func83 rfl Tryz.ntmps83 rfl fun B bp ct=>Sr<|Vm<|Vx (Run.nilCheck rfl)<|Vx (Run.fieldAddr FG rfl)<|Vx (Run.load1 Eo rfl (Bk.cell ah rfl)) ?_
 obtain ⟨cu,cv,bq⟩:=Own.len ai
 refine Vx (v:=I (g.length:Int)) (Run.lenSlc D3 bq)<|Va (I (g.length:Int))<|AA<|Sr<|Vm<|Vm<|Vx (Run.nilCheck rfl)<|Vx (Run.fieldAddr FG rfl)<|Vx (Run.load1 Eo rfl (Bk.cell ah rfl))<|Vm<|Bi f fun cw a0 f=>Ef (Bx (κ:=AY) rfl rfl ai dcd O8 (Hl av) (FW a0) (Fk a0) fun cx br cy aj d=>?_)
 obtain ⟨a1,a2,rfl⟩:=Own.len aj
 refine Vx (Run.nilCheck rfl)<|Vx (Run.fieldAddr FG rfl)<|have bt:=Bs ah d;Eu (Br (vs:=[Sl a1 ((g++q)) a2]) (cs':=[.map (some n),Sl bn ab bo,Sl a1 ((g++q)) a2,.func (.func 52) #[] [Pt h 0].toArray]) OC rfl rfl rfl rfl (AX (Own.one aj) CQ) bt dcd rfl rfl fun bu bv e=>?_)
 refine AA<|Sr<|Vm<|have bw:=Y2 bi d e;have bx:=K2 AL au d e;have bz:=Os aj e;have b0:=Ms (Ms bf d) e;have b1:=Y2 bg d e;have b2:=Y2 bj d e;have b3:=K2 AJ az d e;have b4:=Y2 bl d e;Bi f fun o b5 f=>Ca (AAu (vs:=[]) (caps:=[Pt ad 0,Pt ae 0,Pt ag 0]) rfl rfl) (bd.types_checker_want_3 br bu (ko1_2:=7) b5 dcd dcd bw bv bx bz b0 b1 (Ah (x:=ac)) b2 (Ae (x:=af) b3) b4) ?_
 rintro _ cz ⟨b6,c0,c1,c2,rfl,b7,a3,a4,a5,b8,b9⟩
 obtain ⟨a6,a7,rfl⟩:=AG a4
 obtain ⟨c3,c4,rfl⟩:=Own.len a5
 obtain rfl:=As b9
 refine ⟨_,rfl,?_⟩
 refine AA<|AO<|Vm<|Vm<|Vx (Run.nilCheck rfl)<|Vx (Run.fieldAddr FG rfl)<|Vx (Run.load1 Eo rfl (Bk.cell a3 rfl))<|Vm<|Bi f fun u a8 f=>?_
 obtain ⟨a9,ba,ca,cb,w⟩:=Own.sub a5 a8
 obtain ⟨c5,bb⟩:∃s,s=Value.slice (if ba=(0:Int).toNat then a9 else a9.map (·.add ((0:Int).toNat*AY.size))) ((g.length:Int).toNat - (0:Int).toNat) (ba - (0:Int).toNat):=⟨_,rfl⟩
 rw [←bb] at w
 obtain ⟨cc,cd,cf,_⟩:=Kq a8
 obtain ⟨y,z,rfl⟩:=Own.len w
 refine Vx (v:=.slice y u.length z) (by rw [bb];exact Run.sliceSlc D3 ca rfl ⟨_,rfl⟩ cc cd cf cb)<|Vx (Run.nilCheck rfl)<|Vx (Run.fieldAddr FG rfl)<|Eu (Br (vs:=[Sl y u z]) (cs':=[.map (some n),Sl a6 o.1 a7,Sl y u z,.func (.func 52) #[] [Pt h 0].toArray]) OC rfl rfl rfl rfl (AX (Own.one w) CQ) a3 dcd rfl rfl fun c6 cg aa=>?_)
 refine AA ?_
 obtain rfl:=AP f
 refine L3 (B:=B) bp (L2 rfl ?_)
 refine have ch:=Ss AL a4 aa;have ci:=Os w aa;have cj:=Bs b8 aa;⟨b6,Sl a6 o.1 a7,Sl y u z,[I o.2.2.why,I o.2.2.at_],rfl,Ho (T3 (Mo [1,3,7] d) e b7 aa) be,cg,ch,ci,cj,(Ah (x:=o.2.2))⟩
theorem NS(h:AF)(m:Nat)(r:AF.Good h):types_checker_in_3.Spec (F1 h m):=by
 intro l n ap a aq ar au av ko0_2 aw c ax ay d az a0 a1 e a2 f a3 a4 a5 g a6 a7 a8 a9 s hnd hnz o u w y p z aa ab ac ad ae
 refine Calls.mono (NR h m r (recol (see [a,c,d,e,f,g,ko0_2]) l) n (Az lbr l) (A6 o [a,c,d,e,f,g,ko0_2] (BD hnd hnz (i:=0) rfl)) (By AL u [a,c,d,e,f,g,ko0_2]) (Ji w [a,c,d,e,f,g,ko0_2] (BD hnd hnz (i:=6) rfl)) (Ge y [a,c,d,e,f,g,ko0_2] (BD hnd hnz (i:=1) rfl)) (A6 p [a,c,d,e,f,g,ko0_2] (BD hnd hnz (i:=2) rfl)) (Au Ag z [a,c,d,e,f,g,ko0_2]) (A6 aa [a,c,d,e,f,g,ko0_2] (BD hnd hnz (i:=3) rfl)) (A6 ab [a,c,d,e,f,g,ko0_2] (BD hnd hnz (i:=4) rfl)) (Au AJ ac [a,c,d,e,f,g,ko0_2]) (A6 ad [a,c,d,e,f,g,ko0_2] (BD hnd hnz (i:=5) rfl)) (By AY ae [a,c,d,e,f,g,ko0_2]) s) ?_
 rintro ba bb ⟨af,ag,ah,ai,aj,q,ak,al,am,an,ao⟩
 exact ⟨glue [a,c,d,e,f,g,ko0_2] n l af,ag,ah,ai,aj,Ad q (DS rfl rfl),CK o ak dcd,DV AL al,Jt (j:=6) am rfl rfl q,CK p an dcd,BB Ag ao⟩
theorem Ny(a9:AF)(ba:Nat)(au:AF.Good a9)(y:Col)(ad:World)(z:∀b,y b<10){q:Nat}{n:(List AK)}{bt:Value}{g:(List AH)}{bu:Value}{bb:Nat}{bc:Ak}{a3:Nat}{f:AD}{bv:List Value}{e:AE}{bw:List Value}{ae:Int×(List AK)×(List AH)×AD}(ai:Bk y ad 1 q [.map (some bb),bt,bu,.func (.func 52) #[] [Pt a3 0].toArray] 134)(aa:Slc AL y.F ad bt n)(af:Own AY 87 y ad 4 bu g)(a4:Mp y ad 2 bb bc)(ag:Bk y ad 3 a3 bv 63)(c0:Ag.rep y.F ad bv f)(c1:AJ.rep y.F ad bw e)(a:GT a9 ba n g bc f e=some ae):
  Calls Tryz.prog 87 #[Pt q 0,.agg bw.toArray] ad fun c2 ap=>∃(aq:Col) (bx:Value) (bz:Value) (b0:List Value),c2=.returned (I ae.1)∧AQ [1,3,4] y ad aq ap∧Bk aq ap 1 q [.map (some bb),bx,bz,.func (.func 52) #[] [Pt a3 0].toArray] 134∧Slc AL aq.F ap bx ae.2.1∧Own AY 87 aq ap 4 bz ae.2.2.1∧Bk aq ap 3 a3 b0 63∧Ag.rep aq.F ap b0 ae.2.2.2:=by
 rw [GT] at a
 obtain ⟨av,aw,rfl⟩:=AG aa
 obtain ⟨ax,ay,rfl⟩:=Own.len af
 obtain rfl:=As c0
 obtain ⟨g0,rfl,az⟩:=Am c1
 obtain ⟨a5,a6,rfl⟩:=AG az
 refine A0 Tryz.func87 rfl Tryz.ntmps87 rfl fun B ab r=>Sr<|Ef (Bf y 20 rfl rfl fun bd c3 b1 an d=>?_)
 refine Va (I 0)<|AA<|AZ<|Sr<|Vx (Run.fieldAddr0 DR rfl)<|Vx (Run.load1 HS rfl (Bk.cell an rfl))<|AA<|Aj<|Ao (fun a0 aj=>∃(ak:Env) (o:Col) (be:Bool),a0=ak.puts [(0,.pointer (some ⟨q,0,none⟩)),(3,.pointer (some ⟨b1,0,none⟩)),(7,.int .i64 e.op),(8,.bool be)]∧Ej a9 ba n g bc f e be=some ae∧AQ [] bd c3 o aj) ?_ ?_
 refine Sr<|Vr (.bool (e.op==2))<|Va (.bool (e.op==2))<|AA<|Cn a (fun c4 a=>?_) fun c4 a=>?_
 refine WC.skip<|⟨_,bd,(e.op==2),Pu,a,(AQ.refl [] _ _)⟩
 refine AO<|Vr (.bool (e.op==3))<|Va (.bool (e.op==3))<|AA<|⟨_,bd,(e.op==3),Pu,a,(AQ.refl [] _ _)⟩
 rintro _ aj ⟨ak,o,be,rfl,a,c⟩
 rw [Ej] at a
 refine Cn a (fun c5 a=>?_) fun c5 a=>?_
 refine Sr<|Va (I 2)<|AA<|AT ?_
 obtain rfl:=AP a
 refine Ax (B:=B) ab (BG rfl (.tmp rfl) ?_)
 refine have c6:=Y2 ai d c;have c7:=K2 AL aa d c;have c8:=Os (Os af d) c;have c9:=Y2 ag d c;⟨o,Sl av n aw,Sl ax g ay,[I f.why,I f.at_],rfl,Ho (Tn (Mo [] d) c) z,c6,c7,c8,c9,(Ah (x:=f))⟩
 refine Sr<|Vr (.bool (e.op==4))<|Va (.bool (e.op==4))<|AA<|Cn a (fun da a=>?_) fun da a=>?_
 refine Sr<|Va (I 3)<|AA<|AT ?_
 obtain rfl:=AP a
 refine Ax (B:=B) ab (BG rfl (.tmp rfl) ?_)
 refine have db:=Y2 ai d c;have dc:=K2 AL aa d c;have de:=Os (Os af d) c;have df:=Y2 ag d c;⟨o,Sl av n aw,Sl ax g ay,[I f.why,I f.at_],rfl,Ho (Tn (Mo [] d) c) z,db,dc,de,df,(Ah (x:=f))⟩
 refine Sr<|Vr (.bool (e.op==5))<|Va (.bool (e.op==5))<|AA<|Cn a (fun dg a=>?_) fun dg a=>?_
 refine Sr<|Vx (Run.fieldAddr KY rfl)<|have dh:=Bs an c;Vx (Run.load1 EA rfl (Bk.cell dh rfl))<|Va (I e.type_)<|AA<|AT ?_
 obtain rfl:=AP a
 refine Ax (B:=B) ab (BG rfl (.tmp rfl) ?_)
 refine have di:=Y2 ai d c;have dj:=K2 AL aa d c;have dk:=Os (Os af d) c;have dl:=Y2 ag d c;⟨o,Sl av n aw,Sl ax g ay,[I f.why,I f.at_],rfl,Ho (Tn (Mo [] d) c) z,di,dj,dk,dl,(Ah (x:=f))⟩
 refine Sr<|Vr (.bool (e.op==6))<|Va (.bool (e.op==6))<|AA<|Cn a (fun dm a=>?_) fun dm a=>?_
 refine AZ<|Sr<|Vm<|Vx (Run.nilCheck rfl)<|Vx (Run.fieldAddr FG rfl)<|have bf:=Y2 ai d c;Vx (Run.load1 Eo rfl (Bk.cell bf rfl))<|have bg:=Os (Os af d) c; ?_
 obtain ⟨g1,g2,dn⟩:=Own.len bg
 refine Vx (v:=I (g.length:Int)) (Run.lenSlc D3 dn)<|Vr (I (Wr ((g.length:Int) - 1)))<|Va (I (Wr ((g.length:Int) - 1)))<|AA<|Aj<|Bt (fun al a0 b2=>∃(ak:Env) (am:Col) (u:Int),a0=ak.puts [(0,.pointer (some ⟨q,0,none⟩)),(3,.pointer (some ⟨b1,0,none⟩)),(5,.int .i64 u)]∧Ei n g f e al u=some ae∧AQ [] o aj am b2) ba ?_ ?_
 exact ⟨_,o,(Wr ((g.length:Int) - 1)),Pu,a,(AQ.refl [] _ _)⟩
 rintro al _ b2 ⟨ak,am,u,rfl,a,p⟩
 rcases al with _|al
 exact BC a
 refine have a:Gh n g f e (Ei n g f e al) u=some ae:=a; ?_
 obtain ⟨g3,b3⟩:∃s,s=Ei n g f e al:=⟨_,rfl⟩
 rw [←b3,Gh] at a
 refine AZ<|Sr<|Vm<|Vr (.bool (decide (u≥0)))<|AA<|Cn a (fun dp a=>?_) fun dp a=>?_
 refine WC.skip<|AZ<|Aj<|AZ<|CJ FL (.q 0 (.q 1 (.q 2 (.q 3 (.q 4 (.q 5 (.q 6 (.q 7 (.q 8 (.q 9 (.q 10 .nil))))))))))) [] [] am (by kernel_rfl) fun b4 ao=>Qx r rfl (v:=Pt q 0) (fun _ ⟨_,m⟩=>Run.move rfl)<|Qx r rfl (fun _ ⟨_,m⟩=>Run.nilCheck rfl)<|Qx r rfl (fun _ ⟨_,m⟩=>Run.fieldAddr FG rfl)<|have bh:=Y2 bf p ao;Qx r rfl (fun _ ⟨_,m⟩=>Run.load1 Eo rfl (Bk.cell (Bs bh m) rfl))<|Qx r rfl (v:=I u) (fun _ ⟨_,m⟩=>Run.move rfl)<|Bi a fun dq dr a=>have bi:=Os (Os bg p) ao; ?_
 obtain ⟨ds,g4,dt,du,dv,dw,dx,bj⟩:=Vc (κ:=AY) bi dr
 replace bj:O5 4 am b4 ds (0+u.toNat*3) dt:=bj
 obtain rfl:=Fg dx
 refine Qx r rfl (fun _ ⟨_,m⟩=>Run.indexAddr D3 du rfl dv dw)<|Qx r rfl (fun _ ⟨_,m⟩=>Run.fieldAddr0 Lj rfl)<|Qx r rfl (fun _ ⟨_,m⟩=>Run.load1 CS rfl (O5.cell0 (O5.step bj m dcd) rfl))<|Qx r rfl (fun _ ⟨_,m⟩=>Run.fieldAddr EN rfl)<|have dy:=Y3 an c p ao;Qx r rfl (fun _ ⟨_,m⟩=>Run.load1 CS rfl (Bk.cell (Bs dy m) rfl))<|Qx r rfl (v:=.bool (dq.name==e.name)) (fun _ ⟨_,m⟩=>Run.strEq rfl rfl)<|Dy<|Cn a (fun dz a=>?_) fun dz a=>?_
 refine Sr<|Vm<|Vx (Run.nilCheck rfl)<|Vx (Run.fieldAddr FG rfl)<|Vx (Run.load1 Eo rfl (Bk.cell bh rfl))<|Vm<|Bi a fun d0 d1 a=>?_
 obtain ⟨d2,g5,d3,d4,d5,d6,d7,bk⟩:=Vc (κ:=AY) bi d1
 replace bk:O5 4 am b4 d2 (0+u.toNat*3) d3:=bk
 obtain rfl:=Fg d7
 refine Vx (Run.indexAddr D3 d4 rfl d5 d6)<|Vx (Run.fieldAddr M5 rfl)<|Vx (Run.load1 EA rfl (O5.cell (j:=1) bk rfl))<|Va (I d0.type_)<|AA<|AT ?_
 obtain rfl:=AP a
 refine Ax (B:=B) ab (BG rfl (.tmp rfl) ?_)
 refine have d8:=K4 AL aa d c p ao;have d9:=Y4 ag d c p ao;⟨am,Sl av n aw,Sl ax g ay,[I f.why,I f.at_],rfl,Ho (T3 (Mo [] d) c p ao) z,bh,d8,bi,d9,(Ah (x:=f))⟩
 refine WC.skip<|AO<|Vm<|Vr (I (Wr (u - 1)))<|Va (I (Wr (u - 1)))<|AA<|⟨al,Nat.lt_succ_self al,_,am,(Wr (u - 1)),Pu,(b3▸a),(Tn (Mo [] p) ao)⟩
 refine Bc<|Sr<|Va (I 0)<|AA<|AT ?_
 obtain rfl:=AP a
 refine Ax (B:=B) ab (BG rfl (.tmp rfl) ?_)
 refine have ea:=Bs bf p;have eb:=K3 AL aa d c p;have ec:=Os bg p;have ed:=Y3 ag d c p;⟨am,Sl av n aw,Sl ax g ay,[I f.why,I f.at_],rfl,Ho (T2 (Mo [] d) c p) z,ea,eb,ec,ed,(Ah (x:=f))⟩
 refine Sr<|Vr (.bool (e.op==7))<|Va (.bool (e.op==7))<|AA<|Cn a (fun ee a=>?_) fun ee a=>?_
 refine Sr<|Vm<|have ef:=Bs an c;Vx (Run.loadN BF rfl rfl (Bk.part ef 0 [I e.op,Sb e.name,Sb e.tail,I e.type_,Cx e.num,Sl a5 e.args a6,I e.at_] rfl))<|have eg:=Y2 ai d c;have eh:=K2 AL aa d c;have ei:=Os (Os af d) c;have ej:=Ms (Ms a4 d) c;have ek:=Y2 ag d c;have el:=K2 AJ az d c;Bi a fun ar em a=>Ca (Y6 [Pt q 0,.agg [I e.op,Sb e.name,Sb e.tail,I e.type_,Cx e.num,Sl a5 e.args a6,I e.at_].toArray] rfl) (au.types_checker_call o aj (ko0_2:=4) em dcd dcd eg eh ei ej ek (Ah (x:=f)) (Ae (x:=e) el)) ?_
 rintro _ g6 ⟨en,g7,g8,g9,rfl,eo,ep,b5,b6,eq,er⟩
 obtain ⟨es,et,rfl⟩:=AG b5
 obtain ⟨eu,ew,rfl⟩:=Own.len b6
 obtain rfl:=As er
 refine ⟨_,rfl,?_⟩
 refine Va (I ar.1)<|AA<|AT ?_
 obtain rfl:=AP a
 refine Ax (B:=B) ab (BG rfl (.tmp rfl) ?_)
 exact ⟨en,Sl es ar.2.1 et,Sl eu ar.2.2.1 ew,[I ar.2.2.2.why,I ar.2.2.2.at_],rfl,Ho (T2 (Mo [1,3,4] d) c eo) z,ep,b5,b6,eq,(Ah (x:=ar.2.2.2))⟩
 refine Sr<|Vr (.bool (e.op==14))<|Va (.bool (e.op==14))<|AA<|Cn a (fun ex a=>?_) fun ex a=>?_
 refine Sr<|Vm<|Vx (Run.fieldAddr Bq rfl)<|have ey:=Bs an c;Vx (Run.load1 EB rfl (Bk.cell ey rfl))<|have ez:=Y2 ai d c;have e0:=K2 AL aa d c;have e1:=Os (Os af d) c;have e2:=Ms (Ms a4 d) c;have e3:=Y2 ag d c;have e4:=K2 AJ az d c;Bi a fun a1 e5 a=>Ca (Vs [Pt q 0,I 2,Sl a5 e.args a6] rfl) (au.types_checker_all o aj (ko0_2:=4) e5 dcd dcd ez e0 e1 e2 e3 (Ah (x:=f)) e4) ?_
 rintro _ ha ⟨e6,hb,hc,hd,rfl,e7,e8,b7,b8,e9,fa⟩
 obtain ⟨fb,fc,rfl⟩:=AG b7
 obtain ⟨fd,fe,rfl⟩:=Own.len b8
 obtain rfl:=As fa
 refine ⟨_,rfl,?_⟩
 refine AA<|Sr<|Va (I 2)<|AA<|AT ?_
 obtain rfl:=AP a
 refine Ax (B:=B) ab (BG rfl (.tmp rfl) ?_)
 exact ⟨e6,Sl fb a1.1 fc,Sl fd a1.2.1 fe,[I a1.2.2.why,I a1.2.2.at_],rfl,Ho (T2 (Mo [1,3,4] d) c e7) z,e8,b7,b8,e9,(Ah (x:=a1.2.2))⟩
 refine Sr<|Vr (.bool (e.op==18))<|Va (.bool (e.op==18))<|AA<|Cn a (fun ff a=>?_) fun ff a=>?_
 refine Sr<|Vm<|Vx (Run.fieldAddr Bq rfl)<|have b9:=Bs an c;Vx (Run.load1 EB rfl (Bk.cell b9 rfl))<|Bi a fun h fg a=>have ca:=K2 AJ az d c; ?_
 obtain ⟨fh,fi,he,fj,fk,fl,fm,fn,bl⟩:=BL (κ:=AJ) ca fg
 replace bl:A8 o aj fh (fi+(0:Int).toNat*7) fj:=bl
 obtain ⟨hf,rfl,cb⟩:=Am fn
 obtain ⟨cc,cd,rfl⟩:=AG cb
 refine Vx (Run.indexAddr DT fk rfl fl fm)<|Vx (Run.loadN BF rfl rfl (A8.part0 bl [I h.op,Sb h.name,Sb h.tail,I h.type_,Cx h.num,Sl cc h.args cd,I h.at_] rfl))<|have fo:=Y2 ai d c;have fp:=K2 AL aa d c;have fq:=Os (Os af d) c;have cf:=Ms (Ms a4 d) c;have fr:=Y2 ag d c;Bi a fun fs ft a=>Ca (LQ [Pt q 0,.agg [I h.op,Sb h.name,Sb h.tail,I h.type_,Cx h.num,Sl cc h.args cd,I h.at_].toArray,I 1] rfl) (au.types_checker_want o aj (ko0_2:=4) ft dcd dcd fo fp fq cf fr (Ah (x:=f)) (Ae (x:=h) cb)) ?_
 rintro _ cg ⟨ch,hg,hh,hi,rfl,a7,fu,ci,cj,fv,fw⟩
 obtain ⟨hj,hk,rfl⟩:=AG ci
 obtain ⟨hl,hm,rfl⟩:=Own.len cj
 obtain rfl:=As fw
 refine ⟨_,rfl,?_⟩
 refine AA<|Sr<|Vm<|Vx (Run.fieldAddr Bq rfl)<|have fx:=Bs b9 a7;Vx (Run.load1 EB rfl (Bk.cell fx rfl))<|Bi a fun l fy a=>have fz:=Ss AJ ca a7; ?_
 obtain ⟨f0,f1,hn,f2,f3,f4,f5,f6,bm⟩:=BL (κ:=AJ) fz fy
 replace bm:A8 ch cg f0 (f1+(1:Int).toNat*7) f2:=bm
 obtain ⟨ho,rfl,ck⟩:=Am f6
 obtain ⟨cl,cm,rfl⟩:=AG ck
 refine Vx (Run.indexAddr DT f3 rfl f4 f5)<|Vx (Run.loadN BF rfl rfl (A8.part0 bm [I l.op,Sb l.name,Sb l.tail,I l.type_,Cx l.num,Sl cl l.args cm,I l.at_] rfl))<|have f7:=Ms cf a7;Bi a fun a2 f8 a=>Ca (LQ [Pt q 0,.agg [I l.op,Sb l.name,Sb l.tail,I l.type_,Cx l.num,Sl cl l.args cm,I l.at_].toArray,I 3] rfl) (au.types_checker_want ch cg (ko0_2:=4) f8 dcd dcd fu ci cj f7 fv (Ah (x:=fs.2.2)) (Ae (x:=l) ck)) ?_
 rintro _ hp ⟨f9,hq,hr,hs,rfl,ga,gb,cn,co,gc,gd⟩
 obtain ⟨ge,gf,rfl⟩:=AG cn
 obtain ⟨gg,gh,rfl⟩:=Own.len co
 obtain rfl:=As gd
 refine ⟨_,rfl,?_⟩
 refine AA<|Sr<|Va (I 3)<|AA<|AT ?_
 obtain rfl:=AP a
 refine Ax (B:=B) ab (BG rfl (.tmp rfl) ?_)
 exact ⟨f9,Sl ge a2.1 gf,Sl gg a2.2.1 gh,[I a2.2.2.why,I a2.2.2.at_],rfl,Ho (T3 (Mo [1,3,4] d) c a7 ga) z,gb,cn,co,gc,(Ah (x:=a2.2.2))⟩
 refine WC.skip<|Sr<|Vm<|Vx (Run.fieldAddr Bq rfl)<|have cq:=Bs an c;Vx (Run.load1 EB rfl (Bk.cell cq rfl))<|have gi:=Y2 ai d c;have gj:=K2 AL aa d c;have gk:=Os (Os af d) c;have gl:=Ms (Ms a4 d) c;have gm:=Y2 ag d c;have gn:=K2 AJ az d c;Bi a fun w go a=>Ca (Vs [Pt q 0,I 1,Sl a5 e.args a6] rfl) (au.types_checker_all o aj (ko0_2:=4) go dcd dcd gi gj gk gl gm (Ah (x:=f)) gn) ?_
 rintro _ gp ⟨bn,ht,hu,hw,rfl,bo,cr,bp,bq,ct,gq⟩
 obtain ⟨cu,cv,rfl⟩:=AG bp
 obtain ⟨cw,cx,rfl⟩:=Own.len bq
 obtain rfl:=As gq
 refine ⟨_,rfl,?_⟩
 refine AA<|AZ<|Ao (fun a0 cy=>∃(ak:Env) (a8:Col) (br:Bool),a0=ak.puts [(84,.bool br)]∧HL w br=some ae∧AQ [] bn gp a8 cy) ?_ ?_
 refine AO<|Vx (Run.fieldAddr0 DR rfl)<|have cz:=Bs cq bo;Vx (Run.load1 HS rfl (Bk.cell cz rfl))<|Vr (.bool (e.op==12))<|Vm<|Bo a (fun ah a=>?_) fun ah a=>?_
 refine Pg ah<|Pg ah<|Pg ah<|Vp ah<|AA<|⟨_,bn,true,Pu,a,(AQ.refl [] _ _)⟩
 refine Gx ah (Run.fieldAddr0 DR rfl)<|Gx ah (Run.load1 HS rfl (Bk.cell cz rfl))<|Gr ah (.bool (e.op==13))<|Vp ah<|AA<|⟨_,bn,(e.op==13),Pu,a,(AQ.refl [] _ _)⟩
 rintro _ cy ⟨ak,a8,br,rfl,a,ac⟩
 rw [HL] at a
 refine Cn a (fun gr a=>?_) fun gr a=>?_
 refine Sr<|Va (I 2)<|AA<|AT ?_
 obtain rfl:=AP a
 refine Ax (B:=B) ab (BG rfl (.tmp rfl) ?_)
 refine have gs:=Bs cr ac;have gt:=Ss AL bp ac;have gu:=Os bq ac;have gv:=Bs ct ac;⟨a8,Sl cu w.1 cv,Sl cw w.2.1 cx,[I w.2.2.why,I w.2.2.at_],rfl,Ho (T3 (Mo [1,3,4] d) c bo ac) z,gs,gt,gu,gv,(Ah (x:=w.2.2))⟩
 refine WC.skip<|Sr<|Va (I 1)<|AA<|AT ?_
 obtain rfl:=AP a
 refine Ax (B:=B) ab (BG rfl (.tmp rfl) ?_)
 refine have gw:=Bs cr ac;have gx:=Ss AL bp ac;have gy:=Os bq ac;have gz:=Bs ct ac;⟨a8,Sl cu w.1 cv,Sl cw w.2.1 cx,[I w.2.2.why,I w.2.2.at_],rfl,Ho (T3 (Mo [1,3,4] d) c bo ac) z,gw,gx,gy,gz,(Ah (x:=w.2.2))⟩
theorem Nz(e:AF)(g:Nat)(o:AF.Good e):types_checker_own.Spec (GT e g):=by
 intro f h ai a aj ak al am ko0_2 an c ao ap d aq ar au av aw p hnd hnz l q r s m u w
 refine Calls.mono (Ny e g o (recol (see [a,c,d,ko0_2]) f) h (Az lbr f) (A6 l [a,c,d,ko0_2] (BD hnd hnz (i:=0) rfl)) (By AL q [a,c,d,ko0_2]) (Ji r [a,c,d,ko0_2] (BD hnd hnz (i:=3) rfl)) (Ge s [a,c,d,ko0_2] (BD hnd hnz (i:=1) rfl)) (A6 m [a,c,d,ko0_2] (BD hnd hnz (i:=2) rfl)) (Au Ag u [a,c,d,ko0_2]) (Au AJ w [a,c,d,ko0_2]) p) ?_
 rintro ax ay ⟨y,z,aa,ab,ac,n,ad,ae,af,ag,ah⟩
 exact ⟨glue [a,c,d,ko0_2] h f y,z,aa,ab,ac,Ad n (DS rfl rfl),CK l ad dcd,DV AL ae,Jt (j:=3) af rfl rfl n,CK m ag dcd,BB Ag ah⟩
theorem Mk(y:AF)(az:Nat)(a0:AF.Good y)(a:Col)(d:World)(a1:∀b,a b<10){z:Nat}{o:Nat}{aa:(List AK)}{ab:Value}{ac:(List AH)}{ad:Value}{r:Nat}{ae:Ak}{p:Nat}{s:AD}{af:List Value}{ag:Nat}{ah:AE}{ai:List Value}{aj:Nat}{u:Int}{q:(List AK)×(List AH)×AD}(a2:Bk a d 1 z [Pt o 0] 130)(a3:Bk a d 2 o [.map (some r),ab,ad,.func (.func 52) #[] [Pt p 0].toArray] 134)(ak:Slc AL a.F d ab aa)(al:Own AY 87 a d 7 ad ac)(a4:Mp a d 3 r ae)(a5:Bk a d 4 p af 63)(a6:Ag.rep a.F d af s)(a7:Bk a d 5 ag ai 56)(a8:AJ.rep a.F d ai ah)(a9:Bk a d 6 aj [I u] 34)(g:FA y az aa ac ae s ah u=some q):
  Calls Tryz.prog 84 #[Pt z 0,Pt ag 0,Pt aj 0] d fun ba h=>∃(l:Col) (am:Value) (an:Value) (ao:List Value),ba=.returned (.tuple #[])∧AQ [2,4,7] a d l h∧Bk l h 2 o [.map (some r),am,an,.func (.func 52) #[] [Pt p 0].toArray] 134∧Slc AL l.F h am q.1∧Own AY 87 l h 7 an q.2.1∧Bk l h 4 p ao 63∧Ag.rep l.F h ao q.2.2:=by
 rw [FA] at g
 obtain ⟨b4,b5,rfl⟩:=AG ak
 obtain ⟨b6,b7,rfl⟩:=Own.len al
 obtain rfl:=As a6
 obtain ⟨b8,rfl,ap⟩:=Am a8
 obtain ⟨b9,ca,rfl⟩:=AG ap
 refine A0 Tryz.func84 rfl Tryz.ntmps84 rfl fun B bb m=>CJ FL (.q 0 (.q 1 (.q 2 (.q 3 (.q 4 (.q 5 (.one 6 .nil))))))) [] [2,4,7] a (by kernel_rfl) fun aq e=>have bc:=Bs a2 e;Qx m rfl (fun _ ⟨_,f⟩=>Run.load1 Jr rfl (Bk.cell (Bs bc f) rfl))<|Qx m rfl (fun _ ⟨_,f⟩=>Run.fieldAddr Bq rfl)<|have bd:=Bs a7 e;Qx m rfl (fun _ ⟨_,f⟩=>Run.load1 EB rfl (Bk.cell (Bs bd f) rfl))<|Bi g fun c be g=>have bf:=Ss AJ ap e; ?_
 obtain ⟨bg,bh,cb,bi,bj,bk,bl,bm,w⟩:=BL (κ:=AJ) bf be
 replace w:A8 a aq bg (bh+(2:Int).toNat*7) bi:=w
 obtain ⟨cc,rfl,ar⟩:=Am bm
 obtain ⟨au,av,rfl⟩:=AG ar
 refine Qx m rfl (fun _ ⟨_,f⟩=>Run.indexAddr DT bj rfl bk bl)<|Qx m rfl (fun _ ⟨_,f⟩=>Run.loadN BF rfl rfl (A8.part0 (Es w f) [I c.op,Sb c.name,Sb c.tail,I c.type_,Cx c.num,Sl au c.args av,I c.at_] rfl))<|have bn:=Bs a9 e;Qx m rfl (fun _ ⟨_,f⟩=>Run.load1 EA rfl (Bk.cell (Bs bn f) rfl))<|BX rfl<|have bo:=Bs a3 e;have bp:=Ss AL ak e;have bq:=Os al e;have br:=Ms a4 e;have bt:=Bs a5 e;Bi g fun n bu g=>BR rfl (.none rfl) rfl rfl (LQ [Pt o 0,.agg [I c.op,Sb c.name,Sb c.tail,I c.type_,Cx c.num,Sl au c.args av,I c.at_].toArray,I u] rfl)<|Calls.mono (a0.types_checker_want a aq (ko0_2:=7) bu dcd dcd bo bp bq br bt (Ah (x:=s)) (Ae (x:=c) ar)) ?_
 rintro _ cd ⟨bv,cf,cg,ch,rfl,aw,bw,ax,ay,bx,bz⟩
 obtain ⟨b0,b1,rfl⟩:=AG ax
 obtain ⟨b2,b3,rfl⟩:=Own.len ay
 obtain rfl:=As bz
 refine ⟨_,rfl,⟨_,(Mo [2,4,7] aw)⟩,?_⟩
 refine Dy ?_
 obtain rfl:=AP g
 refine L3 (B:=B) bb (L2 rfl ?_)
 exact ⟨bv,Sl b0 n.1 b1,Sl b2 n.2.1 b3,[I n.2.2.why,I n.2.2.at_],rfl,Ho (Tn (Mo [2,4,7] e) aw) a1,bw,ax,ay,bx,(Ah (x:=n.2.2))⟩
theorem Ml(h:AF)(m:Nat)(r:AF.Good h):types_checker_want_1.Spec (FA h m):=by
 intro l n ao a ap c aq ar au av ko1_2 aw d ax ay e az a0 a1 f a2 a3 a4 g a5 a6 s hnd hnz u o w y z p aa ab ac ad
 refine Calls.mono (Mk h m r (recol (see [a,c,d,e,f,g,ko1_2]) l) n (Az lbr l) (A6 u [a,c,d,e,f,g,ko1_2] (BD hnd hnz (i:=0) rfl)) (A6 o [a,c,d,e,f,g,ko1_2] (BD hnd hnz (i:=1) rfl)) (By AL w [a,c,d,e,f,g,ko1_2]) (Ji y [a,c,d,e,f,g,ko1_2] (BD hnd hnz (i:=6) rfl)) (Ge z [a,c,d,e,f,g,ko1_2] (BD hnd hnz (i:=2) rfl)) (A6 p [a,c,d,e,f,g,ko1_2] (BD hnd hnz (i:=3) rfl)) (Au Ag aa [a,c,d,e,f,g,ko1_2]) (A6 ab [a,c,d,e,f,g,ko1_2] (BD hnd hnz (i:=4) rfl)) (Au AJ ac [a,c,d,e,f,g,ko1_2]) (A6 ad [a,c,d,e,f,g,ko1_2] (BD hnd hnz (i:=5) rfl)) s) ?_
 rintro a7 a8 ⟨ae,af,ag,ah,ai,q,aj,ak,al,am,an⟩
 exact ⟨glue [a,c,d,e,f,g,ko1_2] n l ae,af,ag,ah,ai,Ad q (DS rfl rfl),CK o aj dcd,DV AL ak,Jt (j:=6) al rfl rfl q,CK p am dcd,BB Ag an⟩
theorem Mm(af:AF)(bf:Nat)(ag:AF.Good af)(c:Col)(g:World)(bg:∀b,c b<10){ah:Nat}{q:Nat}{ai:(List AK)}{aj:Value}{ak:(List AH)}{al:Value}{w:Nat}{am:Ak}{s:Nat}{y:AD}{an:List Value}{ao:Nat}{z:AE}{ap:List Value}{aq:Nat}{aa:Int}{u:(List AK)×(List AH)×AD}(bh:Bk c g 1 ah [Pt q 0] 130)(bi:Bk c g 2 q [.map (some w),aj,al,.func (.func 52) #[] [Pt s 0].toArray] 134)(ar:Slc AL c.F g aj ai)(au:Own AY 87 c g 7 al ak)(bj:Mp c g 3 w am)(bk:Bk c g 4 s an 63)(bl:Ag.rep c.F g an y)(bm:Bk c g 5 ao ap 56)(bn:AJ.rep c.F g ap z)(bo:Bk c g 6 aq [I aa] 34)(h:FB af bf ai ak am y z aa=some u):
  Calls Tryz.prog 85 #[Pt ah 0,Pt ao 0,Pt aq 0] g fun bp o=>∃(p:Col) (av:Value) (aw:Value) (ax:List Value),bp=.returned (.tuple #[])∧AQ [2,4,7] c g p o∧Bk p o 2 q [.map (some w),av,aw,.func (.func 52) #[] [Pt s 0].toArray] 134∧Slc AL p.F o av u.1∧Own AY 87 p o 7 aw u.2.1∧Bk p o 4 s ax 63∧Ag.rep p.F o ax u.2.2:=by
 rw [FB] at h
 obtain ⟨c3,c4,rfl⟩:=AG ar
 obtain ⟨c5,c6,rfl⟩:=Own.len au
 obtain rfl:=As bl
 obtain ⟨c7,rfl,ay⟩:=Am bn
 obtain ⟨c8,c9,rfl⟩:=AG ay
 refine A0 Tryz.func85 rfl Tryz.ntmps85 rfl fun B bq f=>AZ<|CJ FL (.q 0 (.q 1 (.q 2 (.q 3 (.q 4 (.q 5 (.q 6 (.one 7 .nil)))))))) [] [2,4,7] c (by kernel_rfl) fun az l=>have a0:=Bs bh l;Qx f rfl (fun _ ⟨_,a⟩=>Run.load1 Jr rfl (Bk.cell (Bs a0 a) rfl))<|Qx f rfl (fun _ ⟨_,a⟩=>Run.fieldAddr Bq rfl)<|have ab:=Bs bm l;Qx f rfl (fun _ ⟨_,a⟩=>Run.load1 EB rfl (Bk.cell (Bs ab a) rfl))<|Bi h fun d br h=>have a1:=Ss AJ ay l; ?_
 obtain ⟨bt,bu,da,bv,bw,bx,bz,b0,ac⟩:=BL (κ:=AJ) a1 br
 replace ac:A8 c az bt (bu+(0:Int).toNat*7) bv:=ac
 obtain ⟨db,rfl,a2⟩:=Am b0
 obtain ⟨a3,a4,rfl⟩:=AG a2
 refine Qx f rfl (fun _ ⟨_,a⟩=>Run.indexAddr DT bw rfl bx bz)<|Qx f rfl (fun _ ⟨_,a⟩=>Run.loadN BF rfl rfl (A8.part0 (Es ac a) [I d.op,Sb d.name,Sb d.tail,I d.type_,Cx d.num,Sl a3 d.args a4,I d.at_] rfl))<|Qx f rfl (fun _ ⟨_,a⟩=>Run.fieldAddr KY rfl)<|Qx f rfl (fun _ ⟨_,a⟩=>Run.load1 EA rfl (Bk.cell (Bs ab a) rfl))<|BX rfl<|have b1:=Bs bi l;have b2:=Ss AL ar l;have b3:=Os au l;have a5:=Ms bj l;have b4:=Bs bk l;Bi h fun b5 b6 h=>BR rfl (.none rfl) rfl rfl (LQ [Pt q 0,.agg [I d.op,Sb d.name,Sb d.tail,I d.type_,Cx d.num,Sl a3 d.args a4,I d.at_].toArray,I z.type_] rfl)<|Calls.mono (ag.types_checker_want c az (ko0_2:=7) b6 dcd dcd b1 b2 b3 a5 b4 (Ah (x:=y)) (Ae (x:=d) a2)) ?_
 rintro _ dc ⟨ad,de,df,dg,rfl,n,b7,a6,a7,b8,b9⟩
 obtain ⟨dh,di,rfl⟩:=AG a6
 obtain ⟨dj,dk,rfl⟩:=Own.len a7
 obtain rfl:=As b9
 refine ⟨_,rfl,⟨_,(Mo [2,4,7] n)⟩,?_⟩
 refine Dy<|CJ FL (.q 0 (.q 1 (.q 2 (.q 3 (.q 4 (.q 5 (.one 6 .nil))))))) [] [2,4,7] ad (by kernel_rfl) fun a8 m=>have ca:=Y2 a0 n m;Qx f rfl (fun _ ⟨_,a⟩=>Run.load1 Jr rfl (Bk.cell (Bs ca a) rfl))<|Qx f rfl (fun _ ⟨_,a⟩=>Run.fieldAddr Bq rfl)<|have cb:=Y2 ab n m;Qx f rfl (fun _ ⟨_,a⟩=>Run.load1 EB rfl (Bk.cell (Bs cb a) rfl))<|Bi h fun e cc h=>have cd:=K2 AJ a1 n m; ?_
 obtain ⟨cf,cg,dl,ch,ci,cj,ck,cl,ae⟩:=BL (κ:=AJ) cd cc
 replace ae:A8 ad a8 cf (cg+(1:Int).toNat*7) ch:=ae
 obtain ⟨dm,rfl,a9⟩:=Am cl
 obtain ⟨ba,bb,rfl⟩:=AG a9
 refine Qx f rfl (fun _ ⟨_,a⟩=>Run.indexAddr DT ci rfl cj ck)<|Qx f rfl (fun _ ⟨_,a⟩=>Run.loadN BF rfl rfl (A8.part0 (Es ae a) [I e.op,Sb e.name,Sb e.tail,I e.type_,Cx e.num,Sl ba e.args bb,I e.at_] rfl))<|have cm:=Y3 bo l n m;Qx f rfl (fun _ ⟨_,a⟩=>Run.load1 EA rfl (Bk.cell (Bs cm a) rfl))<|BX rfl<|have cn:=Bs b7 m;have co:=Ss AL a6 m;have cq:=Os a7 m;have cr:=Ms (Ms a5 n) m;have ct:=Bs b8 m;Bi h fun r cu h=>BR rfl (.none rfl) rfl rfl (LQ [Pt q 0,.agg [I e.op,Sb e.name,Sb e.tail,I e.type_,Cx e.num,Sl ba e.args bb,I e.at_].toArray,I aa] rfl)<|Calls.mono (ag.types_checker_want ad a8 (ko0_2:=7) cu dcd dcd cn co cq cr ct (Ah (x:=b5.2.2)) (Ae (x:=e) a9)) ?_
 rintro _ dn ⟨cv,dp,dq,dr,rfl,bc,cw,bd,be,cx,cy⟩
 obtain ⟨cz,c0,rfl⟩:=AG bd
 obtain ⟨c1,c2,rfl⟩:=Own.len be
 obtain rfl:=As cy
 refine ⟨_,rfl,⟨_,(Mo [2,4,7] bc)⟩,?_⟩
 refine Dy ?_
 obtain rfl:=AP h
 refine L3 (B:=B) bq (L2 rfl ?_)
 exact ⟨cv,Sl cz r.1 c0,Sl c1 r.2.1 c2,[I r.2.2.why,I r.2.2.at_],rfl,Ho (T3 (Mo [2,4,7] l) n m bc) bg,cw,bd,be,cx,(Ah (x:=r.2.2))⟩
theorem Mn(h:AF)(m:Nat)(r:AF.Good h):types_checker_want_2.Spec (FB h m):=by
 intro l n ao a ap c aq ar au av ko1_2 aw d ax ay e az a0 a1 f a2 a3 a4 g a5 a6 s hnd hnz u o w y z p aa ab ac ad
 refine Calls.mono (Mm h m r (recol (see [a,c,d,e,f,g,ko1_2]) l) n (Az lbr l) (A6 u [a,c,d,e,f,g,ko1_2] (BD hnd hnz (i:=0) rfl)) (A6 o [a,c,d,e,f,g,ko1_2] (BD hnd hnz (i:=1) rfl)) (By AL w [a,c,d,e,f,g,ko1_2]) (Ji y [a,c,d,e,f,g,ko1_2] (BD hnd hnz (i:=6) rfl)) (Ge z [a,c,d,e,f,g,ko1_2] (BD hnd hnz (i:=2) rfl)) (A6 p [a,c,d,e,f,g,ko1_2] (BD hnd hnz (i:=3) rfl)) (Au Ag aa [a,c,d,e,f,g,ko1_2]) (A6 ab [a,c,d,e,f,g,ko1_2] (BD hnd hnz (i:=4) rfl)) (Au AJ ac [a,c,d,e,f,g,ko1_2]) (A6 ad [a,c,d,e,f,g,ko1_2] (BD hnd hnz (i:=5) rfl)) s) ?_
 rintro a7 a8 ⟨ae,af,ag,ah,ai,q,aj,ak,al,am,an⟩
 exact ⟨glue [a,c,d,e,f,g,ko1_2] n l ae,af,ag,ah,ai,Ad q (DS rfl rfl),CK o aj dcd,DV AL ak,Jt (j:=6) al rfl rfl q,CK p am dcd,BB Ag an⟩
theorem Mq(y:AF)(az:Nat)(a0:AF.Good y)(a:Col)(d:World)(a1:∀b,a b<10){z:Nat}{o:Nat}{aa:(List AK)}{ab:Value}{ac:(List AH)}{ad:Value}{r:Nat}{ae:Ak}{p:Nat}{s:AD}{af:List Value}{ag:Nat}{ah:AE}{ai:List Value}{aj:Nat}{u:Int}{q:(List AK)×(List AH)×AD}(a2:Bk a d 1 z [Pt o 0] 130)(a3:Bk a d 2 o [.map (some r),ab,ad,.func (.func 52) #[] [Pt p 0].toArray] 134)(ak:Slc AL a.F d ab aa)(al:Own AY 87 a d 7 ad ac)(a4:Mp a d 3 r ae)(a5:Bk a d 4 p af 63)(a6:Ag.rep a.F d af s)(a7:Bk a d 5 ag ai 56)(a8:AJ.rep a.F d ai ah)(a9:Bk a d 6 aj [I u] 34)(g:FC y az aa ac ae s ah u=some q):
  Calls Tryz.prog 86 #[Pt z 0,Pt ag 0,Pt aj 0] d fun ba h=>∃(l:Col) (am:Value) (an:Value) (ao:List Value),ba=.returned (.tuple #[])∧AQ [2,4,7] a d l h∧Bk l h 2 o [.map (some r),am,an,.func (.func 52) #[] [Pt p 0].toArray] 134∧Slc AL l.F h am q.1∧Own AY 87 l h 7 an q.2.1∧Bk l h 4 p ao 63∧Ag.rep l.F h ao q.2.2:=by
 rw [FC] at g
 obtain ⟨b4,b5,rfl⟩:=AG ak
 obtain ⟨b6,b7,rfl⟩:=Own.len al
 obtain rfl:=As a6
 obtain ⟨b8,rfl,ap⟩:=Am a8
 obtain ⟨b9,ca,rfl⟩:=AG ap
 refine A0 Tryz.func86 rfl Tryz.ntmps86 rfl fun B bb m=>CJ FL (.q 0 (.q 1 (.q 2 (.q 3 (.q 4 (.q 5 (.one 6 .nil))))))) [] [2,4,7] a (by kernel_rfl) fun aq e=>have bc:=Bs a2 e;Qx m rfl (fun _ ⟨_,f⟩=>Run.load1 Jr rfl (Bk.cell (Bs bc f) rfl))<|Qx m rfl (fun _ ⟨_,f⟩=>Run.fieldAddr Bq rfl)<|have bd:=Bs a7 e;Qx m rfl (fun _ ⟨_,f⟩=>Run.load1 EB rfl (Bk.cell (Bs bd f) rfl))<|Bi g fun c be g=>have bf:=Ss AJ ap e; ?_
 obtain ⟨bg,bh,cb,bi,bj,bk,bl,bm,w⟩:=BL (κ:=AJ) bf be
 replace w:A8 a aq bg (bh+(1:Int).toNat*7) bi:=w
 obtain ⟨cc,rfl,ar⟩:=Am bm
 obtain ⟨au,av,rfl⟩:=AG ar
 refine Qx m rfl (fun _ ⟨_,f⟩=>Run.indexAddr DT bj rfl bk bl)<|Qx m rfl (fun _ ⟨_,f⟩=>Run.loadN BF rfl rfl (A8.part0 (Es w f) [I c.op,Sb c.name,Sb c.tail,I c.type_,Cx c.num,Sl au c.args av,I c.at_] rfl))<|have bn:=Bs a9 e;Qx m rfl (fun _ ⟨_,f⟩=>Run.load1 EA rfl (Bk.cell (Bs bn f) rfl))<|BX rfl<|have bo:=Bs a3 e;have bp:=Ss AL ak e;have bq:=Os al e;have br:=Ms a4 e;have bt:=Bs a5 e;Bi g fun n bu g=>BR rfl (.none rfl) rfl rfl (LQ [Pt o 0,.agg [I c.op,Sb c.name,Sb c.tail,I c.type_,Cx c.num,Sl au c.args av,I c.at_].toArray,I u] rfl)<|Calls.mono (a0.types_checker_want a aq (ko0_2:=7) bu dcd dcd bo bp bq br bt (Ah (x:=s)) (Ae (x:=c) ar)) ?_
 rintro _ cd ⟨bv,cf,cg,ch,rfl,aw,bw,ax,ay,bx,bz⟩
 obtain ⟨b0,b1,rfl⟩:=AG ax
 obtain ⟨b2,b3,rfl⟩:=Own.len ay
 obtain rfl:=As bz
 refine ⟨_,rfl,⟨_,(Mo [2,4,7] aw)⟩,?_⟩
 refine Dy ?_
 obtain rfl:=AP g
 refine L3 (B:=B) bb (L2 rfl ?_)
 exact ⟨bv,Sl b0 n.1 b1,Sl b2 n.2.1 b3,[I n.2.2.why,I n.2.2.at_],rfl,Ho (Tn (Mo [2,4,7] e) aw) a1,bw,ax,ay,bx,(Ah (x:=n.2.2))⟩
theorem Mr(h:AF)(m:Nat)(r:AF.Good h):types_checker_want_3.Spec (FC h m):=by
 intro l n ao a ap c aq ar au av ko1_2 aw d ax ay e az a0 a1 f a2 a3 a4 g a5 a6 s hnd hnz u o w y z p aa ab ac ad
 refine Calls.mono (Mq h m r (recol (see [a,c,d,e,f,g,ko1_2]) l) n (Az lbr l) (A6 u [a,c,d,e,f,g,ko1_2] (BD hnd hnz (i:=0) rfl)) (A6 o [a,c,d,e,f,g,ko1_2] (BD hnd hnz (i:=1) rfl)) (By AL w [a,c,d,e,f,g,ko1_2]) (Ji y [a,c,d,e,f,g,ko1_2] (BD hnd hnz (i:=6) rfl)) (Ge z [a,c,d,e,f,g,ko1_2] (BD hnd hnz (i:=2) rfl)) (A6 p [a,c,d,e,f,g,ko1_2] (BD hnd hnz (i:=3) rfl)) (Au Ag aa [a,c,d,e,f,g,ko1_2]) (A6 ab [a,c,d,e,f,g,ko1_2] (BD hnd hnz (i:=4) rfl)) (Au AJ ac [a,c,d,e,f,g,ko1_2]) (A6 ad [a,c,d,e,f,g,ko1_2] (BD hnd hnz (i:=5) rfl)) s) ?_
 rintro a7 a8 ⟨ae,af,ag,ah,ai,q,aj,ak,al,am,an⟩
 exact ⟨glue [a,c,d,e,f,g,ko1_2] n l ae,af,ag,ah,ai,Ad q (DS rfl rfl),CK o aj dcd,DV AL ak,Jt (j:=6) al rfl rfl q,CK p am dcd,BB Ag an⟩
theorem NT(ag:AF)(a8:Nat)(cl:AF.Good ag)(r:Col)(w:World)(bt:∀b,r b<10){p:Nat}{al:(List AK)}{bu:Value}{av:(List AH)}{bv:Value}{ay:Nat}{g:Ak}{am:Nat}{z:AD}{bw:List Value}{f:AE}{bx:List Value}{aa:Int×(List AK)×(List AH)×AD}(cm:Bk r w 1 p [.map (some ay),bu,bv,.func (.func 52) #[] [Pt am 0].toArray] 134)(az:Slc AL r.F w bu al)(a9:Own AY 87 r w 4 bv av)(cn:Mp r w 2 ay g)(bz:Bk r w 3 am bw 63)(co:Ag.rep r.F w bw z)(cq:AJ.rep r.F w bx f)(d:F2 ag a8 al av g z f=some aa):
  Calls Tryz.prog 112 #[Pt p 0,.agg bx.toArray] w fun cr an=>∃(ao:Col) (b0:Value) (b1:Value) (b2:List Value),cr=.returned (I aa.1)∧AQ [1,3,4] r w ao an∧Bk ao an 1 p [.map (some ay),b0,b1,.func (.func 52) #[] [Pt am 0].toArray] 134∧Slc AL ao.F an b0 aa.2.1∧Own AY 87 ao an 4 b1 aa.2.2.1∧Bk ao an 3 am b2 63∧Ag.rep ao.F an b2 aa.2.2.2:=by
 rw [F2] at d
 obtain ⟨ba,bb,rfl⟩:=AG az
 obtain ⟨b3,b4,rfl⟩:=Own.len a9
 obtain rfl:=As co
 obtain ⟨fa,rfl,bc⟩:=Am cq
 obtain ⟨ct,cu,rfl⟩:=AG bc
 refine A0 Tryz.func112 rfl Tryz.ntmps112 rfl fun B b5 a=>Sr<|Ef (Bf r 20 rfl rfl fun ap fb bd cv n=>?_)
 refine Va (I 0)<|AA<|AZ<|CJ FL (.q 0 (.q 1 (.q 2 (.q 3 (.q 4 (.q 5 (.q 6 (.q 7 .nil)))))))) [] [] ap (by kernel_rfl) fun cw m=>Qx a rfl (v:=Pt p 0) (fun _ ⟨_,c⟩=>Run.move rfl)<|Qx a rfl (fun _ ⟨_,c⟩=>Run.nilCheck rfl)<|Qx a rfl (fun _ ⟨_,c⟩=>Run.fieldAddr0 Te rfl)<|have a0:=Y2 cm n m;Qx a rfl (fun _ ⟨_,c⟩=>Run.load1 OD rfl (Bk.cell (Bs a0 c) rfl))<|Qx a rfl (fun _ ⟨_,c⟩=>Run.fieldAddr EN rfl)<|have be:=Bs cv m;Qx a rfl (fun _ ⟨_,c⟩=>Run.load1 CS rfl (Bk.cell (Bs be c) rfl))<|have b6:=Ms (Ms cn n) m;Qx a rfl (v:=I (CR g f.name)) (fun _ ⟨_,c⟩=>JN KM rfl rfl (Ms b6 c))<|Qx a rfl (v:=I (CR g f.name)) (fun _ ⟨_,c⟩=>Run.assign rfl)<|Dy<|AZ<|Ao (fun bf a1=>∃(aw:Env) (aq:Col) (bg:Bool),bf=aw.puts [(0,.pointer (some ⟨p,0,none⟩)),(3,.pointer (some ⟨bd,0,none⟩)),(5,.int .i64 (CR g f.name)),(32,.bool bg)]∧FV ag a8 al av g z f bg=some aa∧AQ [] ap cw aq a1) ?_ ?_
 refine CJ FL (.q 0 (.q 1 (.q 2 (.q 3 (.q 4 (.q 5 (.q 6 (.q 7 (.q 8 (.q 9 (.q 10 (.q 11 (.q 12 (.q 13 (.q 14 (.q 15 (.q 16 (.q 17 .nil)))))))))))))))))) [] [] ap (by kernel_rfl) fun cx ar=>Qx a rfl (v:=I (CR g f.name)) (fun _ ⟨_,c⟩=>Run.move rfl)<|Qx a rfl (v:=.bool ((CR g f.name)==0)) (fun _ ⟨_,c⟩=>rfl)<|Qx a rfl (v:=.bool ((CR g f.name)==0)) (fun _ ⟨_,c⟩=>Run.move rfl)<|Bo d (fun e d=>?_) fun e d=>?_
 refine Qp a rfl e<|Qp a rfl e<|Qp a rfl e<|Qp a rfl e<|Qp a rfl e<|Qp a rfl e<|Qp a rfl e<|Qp a rfl e<|Qp a rfl e<|Qp a rfl e<|Qp a rfl e<|Qp a rfl e<|Qp a rfl e<|Qp a rfl e<|Qx a rfl (v:=.bool true) (fun _ ⟨_,c⟩=>(Pk e))<|Dy<|⟨_,ap,true,Pu,d,(Mo [] ar)⟩
 refine A4 (fun _ _ _ _ h=>a _ _ _ _ h) rfl rfl (.guard (t:=false) (b:=false) rfl rfl rfl rfl (Cb e)) rfl rfl (v:=Pt p 0) (fun _ ⟨_,c⟩=>Run.move rfl)<|A4 (fun _ _ _ _ h=>a _ _ _ _ h) rfl rfl (.guard (t:=false) (b:=false) rfl rfl rfl rfl (Cb e)) rfl rfl (v:=Pt p 0) (fun _ ⟨_,c⟩=>Run.nilCheck rfl)<|A4 (fun _ _ _ _ h=>a _ _ _ _ h) rfl rfl (.guard (t:=false) (b:=false) rfl rfl rfl rfl (Cb e)) rfl rfl (v:=Pt p 1) (fun _ ⟨_,c⟩=>Run.fieldAddr P0 rfl)<|have cy:=Bs a0 ar;A4 (fun _ _ _ _ h=>a _ _ _ _ h) rfl rfl (.guard (t:=false) (b:=false) rfl rfl rfl rfl (Cb e)) rfl rfl (v:=Sl ba al bb) (fun _ ⟨_,c⟩=>Run.load1 GQ rfl (Bk.cell (Bs cy c) rfl))<|A4 (fun _ _ _ _ h=>a _ _ _ _ h) rfl rfl (.guard (t:=false) (b:=false) rfl rfl rfl rfl (Cb e)) rfl rfl (v:=I (CR g f.name)) (fun _ ⟨_,c⟩=>Run.move rfl)<|A4 (fun _ _ _ _ h=>a _ _ _ _ h) rfl rfl (.guard (t:=false) (b:=false) rfl rfl rfl rfl (Cb e)) rfl rfl (v:=I (Wr ((CR g f.name) - 1))) (fun _ ⟨_,c⟩=>rfl)<|Bi d fun ax cz d=>have c0:=K3 AL az n m ar; ?_
 obtain ⟨bh,bi,fc,c1,c2,c3,c4,c5,bj⟩:=BL (κ:=AL) c0 cz
 replace bj:A8 ap cx bh (bi+((Wr ((CR g f.name) - 1))).toNat*11) c1:=bj
 obtain ⟨fd,fe,rfl,b7,c6⟩:=Cw c5
 obtain ⟨c7,c8,rfl⟩:=AG b7
 obtain ⟨ff,fg,rfl⟩:=AG c6
 refine A4 (fun _ _ _ _ h=>a _ _ _ _ h) rfl rfl (.guard (t:=false) (b:=false) rfl rfl rfl rfl (Cb e)) rfl rfl (v:=.pointer (some ⟨bh,bi+((Wr ((CR g f.name) - 1))).toNat*11,none⟩)) (fun _ ⟨_,c⟩=>Run.indexAddr Fp c2 rfl c3 c4)<|A4 (fun _ _ _ _ h=>a _ _ _ _ h) rfl rfl (.guard (t:=false) (b:=false) rfl rfl rfl rfl (Cb e)) rfl rfl (v:=.pointer (some ⟨bh,bi+((Wr ((CR g f.name) - 1))).toNat*11+1,none⟩)) (fun _ ⟨_,c⟩=>Run.fieldAddr EX rfl)<|A4 (fun _ _ _ _ h=>a _ _ _ _ h) rfl rfl (.guard (t:=false) (b:=false) rfl rfl rfl rfl (Cb e)) rfl rfl (v:=Sl c7 ax.params c8) (fun _ ⟨_,c⟩=>Run.load1 Eo rfl (A8.cell (k:=1) (Es bj c) rfl)) ?_
 obtain ⟨fh,fi,c9⟩:=AG b7
 refine A4 (fun _ _ _ _ h=>a _ _ _ _ h) rfl rfl (.guard (t:=false) (b:=false) rfl rfl rfl rfl (Cb e)) rfl rfl (v:=I (ax.params.length:Int)) (fun _ ⟨_,c⟩=>Run.lenSlc D3 c9)<|A4 (fun _ _ _ _ h=>a _ _ _ _ h) rfl rfl (.guard (t:=false) (b:=false) rfl rfl rfl rfl (Cb e)) rfl rfl (v:=Pt bd 5) (fun _ ⟨_,c⟩=>Run.fieldAddr Bq rfl)<|have da:=Bs be ar;A4 (fun _ _ _ _ h=>a _ _ _ _ h) rfl rfl (.guard (t:=false) (b:=false) rfl rfl rfl rfl (Cb e)) rfl rfl (v:=Sl ct f.args cu) (fun _ ⟨_,c⟩=>Run.load1 EB rfl (Bk.cell (Bs da c) rfl))<|have db:=K3 AJ bc n m ar; ?_
 obtain ⟨fj,fk,dc⟩:=AG db
 refine A4 (fun _ _ _ _ h=>a _ _ _ _ h) rfl rfl (.guard (t:=false) (b:=false) rfl rfl rfl rfl (Cb e)) rfl rfl (v:=I (f.args.length:Int)) (fun _ ⟨_,c⟩=>Run.lenSlc DT dc)<|A4 (fun _ _ _ _ h=>a _ _ _ _ h) rfl rfl (.guard (t:=false) (b:=false) rfl rfl rfl rfl (Cb e)) rfl rfl (v:=.bool ((ax.params.length:Int) != (f.args.length:Int))) (fun _ ⟨_,c⟩=>rfl)<|Qx a rfl (v:=.bool ((ax.params.length:Int) != (f.args.length:Int))) (fun _ ⟨_,c⟩=>(Pk e))<|Dy<|⟨_,ap,((ax.params.length:Int) != (f.args.length:Int)),Pu,d,(Mo [] ar)⟩
 rintro _ a1 ⟨aw,aq,bg,rfl,d,o⟩
 rw [FV] at d
 refine Cn d (fun de d=>?_) fun de d=>?_
 refine Sr<|Va (I 0)<|AA<|AT ?_
 obtain rfl:=AP d
 refine Ax (B:=B) b5 (BG rfl (.tmp rfl) ?_)
 refine have df:=Bs a0 o;have dg:=K3 AL az n m o;have dh:=Os (Os (Os a9 n) m) o;have di:=Y3 bz n m o;⟨aq,Sl ba al bb,Sl b3 av b4,[I z.why,I z.at_],rfl,Ho (T2 (Mo [] n) m o) bt,df,dg,dh,di,(Ah (x:=z))⟩
 refine WC.skip<|AZ<|Sr<|Vm<|Vx (Run.nilCheck rfl)<|Vx (Run.fieldAddr P0 rfl)<|have b8:=Bs a0 o;Vx (Run.load1 GQ rfl (Bk.cell b8 rfl))<|Vm<|Vr (I (Wr ((CR g f.name) - 1)))<|Bi d fun ab dj d=>have b9:=K3 AL az n m o; ?_
 obtain ⟨dk,o80,fl,dl,dm,dn,dp,dq,bk⟩:=BL (κ:=AL) b9 dj
 replace bk:A8 aq a1 dk (o80+((Wr ((CR g f.name) - 1))).toNat*11) dl:=bk
 obtain ⟨fm,fn,rfl,bl,dr⟩:=Cw dq
 obtain ⟨ds,dt,rfl⟩:=AG bl
 obtain ⟨fo,fp,rfl⟩:=AG dr
 refine Vx (Run.indexAddr Fp dm rfl dn dp)<|Vx (Run.fieldAddr EX rfl)<|Vx (Run.load1 Eo rfl (A8.cell (k:=1) bk rfl)) ?_
 obtain ⟨fq,fr,du⟩:=AG bl
 refine Vx (v:=I (ab.params.length:Int)) (Run.lenSlc D3 du)<|Vm<|AA<|Aj<|Bt (fun ac bf ad=>∃(aw:Env) (u:Col) (q:Int) (ah:(List AK)) (a2:Option Addr) (a3:Nat) (ai:(List AH)) (a4:Option Addr) (a5:Nat) (aj:Int) (ak:Int),bf=aw.puts [(0,.pointer (some ⟨p,0,none⟩)),(3,.pointer (some ⟨bd,0,none⟩)),(5,.int .i64 (CR g f.name)),(41,.slice ds ab.params.length dt),(42,.int .i64 (ab.params.length:Int)),(43,.int .i64 q)]∧Dp ag g f ab ac q ah ai aj ak=some aa∧AQ [1,3,4,21] aq a1 u ad∧Slc AL u.F ad (Sl a2 ah a3) ah∧Own AY 87 u ad 4 (Sl a4 ai a5) ai∧Bk u ad 1 p [.map (some ay),Sl a2 ah a3,Sl a4 ai a5,.func (.func 52) #[] [Pt am 0].toArray] 134∧Bk u ad 3 am [I aj,I ak] 63) a8 ?_ ?_
 refine have dv:=Os (Os (Os a9 n) m) o;have dw:=Y3 bz n m o;⟨_,aq,0,al,ba,bb,av,b3,b4,z.why,z.at_,Pu,d,(AQ.refl [1,3,4,21] _ _),b9,dv,b8,dw⟩
 rintro ac _ ad ⟨aw,u,q,ah,a2,a3,ai,a4,a5,aj,ak,rfl,d,au,bm,ca,bn,cb⟩
 rcases ac with _|ac
 exact BC d
 refine have d:D7 ag g f ab (Dp ag g f ab ac) q ah ai aj ak=some aa:=d; ?_
 obtain ⟨fs,cc⟩:∃s,s=Dp ag g f ab ac:=⟨_,rfl⟩
 rw [←cc,D7] at d
 refine Sr<|Vr (.bool (decide (q< (ab.params.length:Int))))<|AA<|AZ<|Cn d (fun dx d=>?_) fun dx d=>?_
 refine WC.skip<|AZ<|Aj<|Sr<|Vm<|Bi d fun a6 dy d=>have dz:=Ss AY bl au; ?_
 obtain ⟨d0,d1,ft,d2,d3,d4,d5,d6,bo⟩:=BL (κ:=AY) dz dy
 replace bo:A8 u ad d0 (d1+q.toNat*3) d2:=bo
 obtain rfl:=Fg d6
 refine Vx (Run.indexAddr D3 d3 rfl d4 d5)<|Vx (Run.loadN Vi rfl rfl (A8.part0 bo [Sb a6.name,I a6.type_,I a6.at_] rfl))<|Ef (Aa u 21 LC rfl fun bp fu fv d7 ae=>?_)
 refine Va (I q)<|Eu (St Vy d7 rfl rfl rfl rfl fun fw d8 af=>?_)
 refine AA<|CJ FL (.q 0 (.q 1 (.q 2 (.q 3 (.q 4 (.q 5 (.q 6 (.q 7 (.one 8 .nil))))))))) [] [1,3,4] bp (by kernel_rfl) fun cd y=>Qx a rfl (v:=Pt p 0) (fun _ ⟨_,c⟩=>Run.move rfl)<|Qx a rfl (fun _ ⟨_,c⟩=>Run.fieldAddr Bq rfl)<|have d9:=Bs (Y4 be o au ae af) y;Qx a rfl (fun _ ⟨_,c⟩=>Run.load1 EB rfl (Bk.cell (Bs d9 c) rfl))<|Qx a rfl (v:=I q) (fun _ ⟨_,c⟩=>Run.move rfl)<|Bi d fun l ea d=>have eb:=K3 AJ (K4 AJ bc n m o au) ae af y; ?_
 obtain ⟨ec,ed,fx,ee,ef,eg,eh,ei,bq⟩:=BL (κ:=AJ) eb ea
 replace bq:A8 bp cd ec (ed+q.toNat*7) ee:=bq
 obtain ⟨fy,rfl,cf⟩:=Am ei
 obtain ⟨cg,ch,rfl⟩:=AG cf
 refine Qx a rfl (fun _ ⟨_,c⟩=>Run.indexAddr DT ef rfl eg eh)<|Qx a rfl (fun _ ⟨_,c⟩=>Run.loadN BF rfl rfl (A8.part0 (Es bq c) [I l.op,Sb l.name,Sb l.tail,I l.type_,Cx l.num,Sl cg l.args ch,I l.at_] rfl))<|Qx a rfl (fun _ ⟨_,c⟩=>Run.fieldAddr M5 rfl)<|have ej:=Bs d8 y;Qx a rfl (fun _ ⟨_,c⟩=>Run.load1 EA rfl (Bk.cell (Bs ej c) rfl))<|BX rfl<|have ek:=Y3 bn ae af y;have el:=K3 AL bm ae af y;have em:=Os (Os (Os ca ae) af) y;have en:=Ms (Ms (Ms (Ms (Ms b6 o) au) ae) af) y;have eo:=Y3 cb ae af y;Bi d fun a7 ep d=>BR rfl (.none rfl) rfl rfl (LQ [Pt p 0,.agg [I l.op,Sb l.name,Sb l.tail,I l.type_,Cx l.num,Sl cg l.args ch,I l.at_].toArray,I a6.type_] rfl)<|Calls.mono (cl.types_checker_want bp cd (ko0_2:=4) ep dcd dcd ek el em en eo (Ah (x:=(AD.mk aj ak))) (Ae (x:=l) cf)) ?_
 rintro _ fz ⟨eq,f0,f1,f2,rfl,ci,er,cj,ck,es,et⟩
 obtain ⟨eu,ew,rfl⟩:=AG cj
 obtain ⟨ex,ey,rfl⟩:=Own.len ck
 obtain rfl:=As et
 refine ⟨_,rfl,⟨_,(Mo [1,3,4] ci)⟩,?_⟩
 refine Dy<|AO<|Vr (I (Wr (q+1)))<|Vm<|AA<|⟨ac,Nat.lt_succ_self ac,_,eq,(Wr (q+1)),a7.1,eu,ew,a7.2.1,ex,ey,a7.2.2.why,a7.2.2.at_,Pu,(cc▸d),(T4 (Mo [1,3,4,21] au) ae af y ci),cj,ck,er,es⟩
 refine Bc<|Sr<|Vm<|Vx (Run.nilCheck rfl)<|Vx (Run.fieldAddr P0 rfl)<|Vx (Run.load1 GQ rfl (Bk.cell bn rfl))<|Vm<|Vr (I (Wr ((CR g f.name) - 1)))<|Bi d fun ez e0 d=>?_
 obtain ⟨e1,e2,f3,e3,e4,e5,e6,e7,br⟩:=BL (κ:=AL) bm e0
 replace br:A8 u ad e1 (e2+((Wr ((CR g f.name) - 1))).toNat*11) e3:=br
 obtain ⟨f4,f5,rfl,e8,e9⟩:=Cw e7
 obtain ⟨f6,f7,rfl⟩:=AG e8
 obtain ⟨f8,f9,rfl⟩:=AG e9
 refine Vx (Run.indexAddr Fp e4 rfl e5 e6)<|Vx (Run.fieldAddr M4 rfl)<|Vx (Run.load1 EA rfl (A8.cell (k:=2) br rfl))<|Va (I ez.type_)<|AA<|AT ?_
 obtain rfl:=AP d
 refine Ax (B:=B) b5 (BG rfl (.tmp rfl) ?_)
 exact ⟨u,Sl a2 ah a3,Sl a4 ai a5,[I aj,I ak],rfl,Ho (T3 (Mo [1,3,4,21] n) m o au) bt,bn,bm,ca,cb,(Ah (x:=(AD.mk aj ak)))⟩
theorem NU(e:AF)(g:Nat)(o:AF.Good e):types_checker_call.Spec (F2 e g):=by
 intro f h ai a aj ak al am ko0_2 an c ao ap d aq ar au av aw p hnd hnz l q r s m u w
 refine Calls.mono (NT e g o (recol (see [a,c,d,ko0_2]) f) h (Az lbr f) (A6 l [a,c,d,ko0_2] (BD hnd hnz (i:=0) rfl)) (By AL q [a,c,d,ko0_2]) (Ji r [a,c,d,ko0_2] (BD hnd hnz (i:=3) rfl)) (Ge s [a,c,d,ko0_2] (BD hnd hnz (i:=1) rfl)) (A6 m [a,c,d,ko0_2] (BD hnd hnz (i:=2) rfl)) (Au Ag u [a,c,d,ko0_2]) (Au AJ w [a,c,d,ko0_2]) p) ?_
 rintro ax ay ⟨y,z,aa,ab,ac,n,ad,ae,af,ag,ah⟩
 exact ⟨glue [a,c,d,ko0_2] h f y,z,aa,ab,ac,Ad n (DS rfl rfl),CK l ad dcd,DV AL ae,Jt (j:=3) af rfl rfl n,CK m ag dcd,BB Ag ah⟩
theorem AF.good:∀d,AF.Good (AF.at d)
 |0=>⟨by intro a c;intros;(try intro _);intros;exact BC (by assumption),by intro a c;intros;(try intro _);intros;exact BC (by assumption),by intro a c;intros;(try intro _);intros;exact BC (by assumption),by intro a c;intros;(try intro _);intros;exact BC (by assumption),by intro a c;intros;(try intro _);intros;exact BC (by assumption),by intro a c;intros;(try intro _);intros;exact BC (by assumption),by intro a c;intros;(try intro _);intros;exact BC (by assumption),by intro a c;intros;(try intro _);intros;exact BC (by assumption),by intro a c;intros;(try intro _);intros;exact BC (by assumption),by intro a c;intros;(try intro _);intros;exact BC (by assumption)⟩
 |n+1=>⟨NO _ n (AF.good n),Nx _ n (AF.good n),OQ _ n (AF.good n),NQ _ n (AF.good n),NS _ n (AF.good n),Nz _ n (AF.good n),Ml _ n (AF.good n),Mn _ n (AF.good n),Mr _ n (AF.good n),NU _ n (AF.good n)⟩
theorem N0(a:Nat):types_checker_want.Spec (types_checker_want a):=(AF.good a).types_checker_want
def GX.At(c:Col)(a:World)(f:AM→Option AD):Prop:=
 ∀{d:AM} {e:List Value} {g:AD},f d=some g→BN.rep c.F a e d→
  Calls Tryz.prog 29 #[.agg e.toArray] a fun n h=>∃(l:Col) (m:List Value),n=.returned (.agg m.toArray)∧AQ [] c a l h∧Ag.rep l.F h m g
def GX.Spec(f:AM→Option AD):Prop:=
 ∀(a:Col) (c:World),GX.At a c f
theorem Qy(l:Nat)(au:Col)(bv:World)(a1:∀b,au b<10):GX.At au bv (GX l):=by
 intro e dw a2 c bw
 rw [GX] at c
 obtain ⟨dx,rfl,a3⟩:=BK bw
 obtain ⟨n,o,rfl⟩:=AG a3
 refine A0 Tryz.func29 rfl Tryz.ntmps29 rfl fun B a4 dy=>?_
 refine Sr ?_
 refine Ef (Bf au 20 rfl rfl fun bx dz bz b0 av=>?_)
 refine Ef (Aa bx 21 Ep rfl fun b1 b2 b3 a5 an=>?_)
 refine AA ?_
 refine Sr ?_
 have a6:=(Bs b0 an)
 refine Vx (v:=.agg [Sl n e.funcs o].toArray) (Run.loadN Gw rfl rfl (Bk.part a6 0 [Sl n e.funcs o] rfl)) ?_
 have a7:=(K2 AL a3 av an)
 obtain ⟨d,b4,c⟩:=bnd_sm c
 refine CI (.none rfl) rfl rfl (AAZ [.agg [Sl n e.funcs o].toArray] rfl) ?_
 refine Calls.mono (R9 l b1 b2 b4 (BS (x:=e) a7)) ?_
 rintro _ d0 ⟨b5,d1,rfl,ae,b6⟩
 obtain rfl:=As b6
 refine ⟨_,rfl,?_⟩
 refine Ef (Aa b5 22 Ep rfl fun a8 d2 p b7 af=>?_)
 refine Eu (St (vs:=[I d.why,I d.at_]) (cs':=[I d.why,I d.at_]) Gb b7 rfl rfl rfl rfl fun b8 ao ag=>?_)
 refine AA ?_
 refine AZ ?_
 refine Sr ?_
 refine Vx (v:=Pt p 0) (Run.fieldAddr0 MA rfl) ?_
 refine Vx (v:=I d.why) (Run.load1 Md rfl (Bk.cell ao rfl)) ?_
 refine Vr (.bool (d.why != 0)) ?_
 refine AA ?_
 refine Cn c (fun b9 c=>?_) fun b9 c=>?_
 refine Sr ?_
 refine Vx (v:=.agg [I d.why,I d.at_].toArray) (Run.loadN J7 rfl rfl (Bk.part ao 0 [I d.why,I d.at_] rfl)) ?_
 have ca:=(Y3 a5 ae af ag)
 refine Eu (St (vs:=[I d.why,I d.at_]) (cs':=[I d.why,I d.at_]) Gb ca rfl rfl rfl rfl fun d3 cb cc=>?_)
 refine AA ?_
 refine AT ?_
 obtain rfl:=AP c
 refine Ax (B:=B) a4 (BG rfl (.agg J7 rfl rfl (Bk.part cb 0 [I d.why,I d.at_] rfl)) ?_)
 exact ⟨a8,[I d.why,I d.at_],rfl,Ho (Tn (T4 (Mo [21,22] av) an ae af ag) cc) a1,(Ah (x:=d))⟩
 refine WC.skip ?_
 refine Sr ?_
 have a9:=(Y3 a6 ae af ag)
 refine Vx (v:=.agg [Sl n e.funcs o].toArray) (Run.loadN Gw rfl rfl (Bk.part a9 0 [Sl n e.funcs o] rfl)) ?_
 refine Vx (v:=.func (.func 52) #[] [Pt p 0].toArray) (Hm (vs:=[Pt p 0]) rfl) ?_
 have ba:=(K3 AL a7 ae af ag)
 obtain ⟨ah,cd,c⟩:=bnd_sm c
 refine CI (.none rfl) rfl rfl (AAa [.agg [Sl n e.funcs o].toArray,.func (.func 52) #[] [Pt p 0].toArray] rfl) ?_
 refine Calls.mono (TB l a8 b8 (kn1:=23) (kn2:=24) (ko1_2:=25) cd dcd dcd (BS (x:=e) ba) ao (Ah (x:=d))) ?_
 rintro _ cf ⟨bb,q,bc,d4,d5,rfl,aj,d6,cg,bd,be,ch⟩
 obtain ⟨ci,cj,rfl⟩:=AG bd
 obtain ⟨ck,cl,rfl⟩:=Own.len be
 refine ⟨_,rfl,?_⟩
 refine Va (Pt q 0) ?_
 refine AA ?_
 refine AZ ?_
 refine Sr ?_
 refine Vx (v:=Pt bz 0) (Run.fieldAddr0 D5 rfl) ?_
 have cm:=(Bs a9 aj)
 refine Vx (v:=Sl n e.funcs o) (Run.load1 GQ rfl (Bk.cell cm rfl)) ?_
 have bf:=(Ss AL ba aj)
 obtain ⟨d7,d8,cn⟩:=AG bf
 refine Vx (v:=I (e.funcs.length:Int)) (Run.lenSlc Fp cn) ?_
 refine Vx (v:=I 0) (Run.move rfl) ?_
 refine AA ?_
 refine Aj ?_
 refine Bt (fun r co u=>∃(bg:Env) (m:Col) (h:Int) (f:Int) (g:Int) (w:(List AK)) (ap:Option Addr) (aq:Nat) (ai:(List AH)) (aw:Option Addr) (ax:Nat),co=bg.puts [(2,.pointer (some ⟨b3,0,none⟩)),(3,.pointer (some ⟨p,0,none⟩)),(4,.pointer (some ⟨q,0,none⟩)),(17,.slice n e.funcs.length o),(18,.int .i64 (e.funcs.length:Int)),(19,.int .i64 h)]∧HM l e ah r h f g w ai=some a2∧AQ [22,23,25,26] bb cf m u∧Slc AL m.F u (Sl ap w aq) w∧Own AY 87 m u 25 (Sl aw ai ax) ai∧Bk m u 22 p [I f,I g] 63∧Bk m u 23 q [.map (some bc),Sl ap w aq,Sl aw ai ax,.func (.func 52) #[] [Pt p 0].toArray] 134) l ?_ ?_
 have cq:=(Bs ao aj)
 exact ⟨_,bb,0,d.why,d.at_,ah.2.1,ci,cj,ah.2.2.1,ck,cl,Pu,c,(AQ.refl [22,23,25,26] _ _),bd,be,cq,cg⟩
 rintro r _ u ⟨bg,m,h,f,g,w,ap,aq,ai,aw,ax,rfl,c,ak,cr,d9,bh,ct⟩
 rcases r with _|r
 exact BC c
 have c:Hb l e ah (HM l e ah r) h f g w ai=some a2:=c
 obtain ⟨ea,bi⟩:∃s,s=HM l e ah r:=⟨_,rfl⟩
 rw [←bi,Hb] at c
 refine Sr ?_
 refine Vr (.bool (decide (h< (e.funcs.length:Int)))) ?_
 refine AA ?_
 refine AZ ?_
 refine Cn c (fun cu c=>?_) fun cu c=>?_
 refine WC.skip ?_
 refine AZ ?_
 refine Aj ?_
 refine Sr ?_
 obtain ⟨a,cv,c⟩:=bnd_sm c
 have cw:=(Ss AL bf ak)
 obtain ⟨bj,bk,eb,cx,cy,cz,c0,c1,ay⟩:=BL (κ:=AL) cw cv
 replace ay:A8 m u bj (bk+h.toNat*11) cx:=ay
 obtain ⟨ec,ed,rfl,bl,bm⟩:=Cw c1
 obtain ⟨al,am,rfl⟩:=AG bl
 obtain ⟨y,z,rfl⟩:=AG bm
 refine Vx (v:=.pointer (some ⟨bj,bk+h.toNat*11,none⟩)) (Run.indexAddr Fp cy rfl cz c0) ?_
 refine Vx (v:=.agg [Sb a.name,Sl al a.params am,I a.type_,I a.body.op,Sb a.body.name,Sb a.body.tail,I a.body.type_,Cx a.body.num,Sl y a.body.args z,I a.body.at_,I a.at_].toArray) (Run.loadN K9 rfl rfl (A8.part0 ay [Sb a.name,Sl al a.params am,I a.type_,I a.body.op,Sb a.body.name,Sb a.body.tail,I a.body.type_,Cx a.body.num,Sl y a.body.args z,I a.body.at_,I a.at_] rfl)) ?_
 refine Ef (Aa m 26 J8 rfl fun c2 ee az c3 aa=>?_)
 have c4:=(Ss AY bl aa)
 have c5:=(Ss AJ bm aa)
 refine Eu (St (vs:=[Sb a.name,Sl al a.params am,I a.type_,I a.body.op,Sb a.body.name,Sb a.body.tail,I a.body.type_,Cx a.body.num,Sl y a.body.args z,I a.body.at_,I a.at_]) (cs':=[Sb a.name,Sl al a.params am,I a.type_,I a.body.op,Sb a.body.name,Sb a.body.tail,I a.body.type_,Cx a.body.num,Sl y a.body.args z,I a.body.at_,I a.at_]) Kj c3 rfl rfl rfl rfl fun c6 bn ab=>?_)
 refine AA ?_
 refine Sr ?_
 refine Vx (v:=Pt q 0) (Run.move rfl) ?_
 refine Vx (v:=Pt az 1) (Run.fieldAddr EX rfl) ?_
 refine Vx (v:=Sl al a.params am) (Run.load1 Eo rfl (Bk.cell bn rfl)) ?_
 have c7:=(Ss AY c4 ab)
 obtain ⟨ef,bo,c⟩:=bnd_sm c
 refine Ef (Bx (κ:=AY) rfl rfl (Own.nil:Own AY 87 c2 c6 25 _ _) dcd O8 (Hl c7) (FW bo) (Fk bo) fun eg c8 eh a0 ac=>?_)
 obtain ⟨bp,bq,rfl⟩:=Own.len a0
 refine Vx (v:=Pt q 0) (Run.nilCheck rfl) ?_
 refine Vx (v:=Pt q 2) (Run.fieldAddr FG rfl) ?_
 have c9:=(Y3 ct aa ab ac)
 refine Eu (Br (vs:=[Sl bp ((([]:List AH)++a.params)) bq]) (cs':=[.map (some bc),Sl ap w aq,Sl bp ((([]:List AH)++a.params)) bq,.func (.func 52) #[] [Pt p 0].toArray]) OC rfl rfl rfl rfl (AX (Own.one a0) CQ) c9 dcd rfl rfl fun da db ad=>?_)
 refine AA ?_
 refine AO ?_
 refine Vx (v:=Pt q 0) (Run.move rfl) ?_
 refine Vx (v:=Pt az 3) (Run.fieldAddr L9 rfl) ?_
 have br:=(Y2 bn ac ad)
 refine Vx (v:=.agg [I a.body.op,Sb a.body.name,Sb a.body.tail,I a.body.type_,Cx a.body.num,Sl y a.body.args z,I a.body.at_].toArray) (Run.loadN BF rfl rfl (Bk.part br 3 [I a.body.op,Sb a.body.name,Sb a.body.tail,I a.body.type_,Cx a.body.num,Sl y a.body.args z,I a.body.at_] rfl)) ?_
 refine Vx (v:=Pt az 2) (Run.fieldAddr M4 rfl) ?_
 refine Vx (v:=I a.type_) (Run.load1 EA rfl (Bk.cell br rfl)) ?_
 have dc:=(K4 AL cr aa ab ac ad)
 have de:=(Os a0 ad)
 have df:=(Ms (Ms (Ms (Ms (Ms ch ak) aa) ab) ac) ad)
 have dg:=(Y4 bh aa ab ac ad)
 have dh:=(K3 AJ c5 ab ac ad)
 obtain ⟨ar,di,c⟩:=bnd_sm c
 refine CI (.none rfl) rfl rfl (LQ [Pt q 0,.agg [I a.body.op,Sb a.body.name,Sb a.body.tail,I a.body.type_,Cx a.body.num,Sl y a.body.args z,I a.body.at_].toArray,I a.type_] rfl) ?_
 refine Calls.mono (N0 l c8 da (ko0_2:=25) di dcd dcd db dc de df dg (Ah (x:=(AD.mk f g))) (Ae (x:=(AE.mk a.body.op a.body.name a.body.tail a.body.type_ a.body.num a.body.args a.body.at_)) dh)) ?_
 rintro _ ei ⟨dj,ej,ek,el,rfl,dk,dl,bt,bu,dm,dn⟩
 obtain ⟨dp,dq,rfl⟩:=AG bt
 obtain ⟨dr,ds,rfl⟩:=Own.len bu
 obtain rfl:=As dn
 refine ⟨_,rfl,?_⟩
 refine AA ?_
 refine AO ?_
 refine Vr (I (Wr (h+1))) ?_
 refine Vx (v:=I (Wr (h+1))) (Run.move rfl) ?_
 refine AA ?_
 exact ⟨r,Nat.lt_succ_self r,_,dj,(Wr (h+1)),ar.2.2.why,ar.2.2.at_,ar.1,dp,dq,ar.2.1,dr,ds,Pu,(bi▸c),(Tn (T4 (Mo [22,23,25,26] ak) aa ab ac ad) dk),bt,bu,dm,dl⟩
 refine Bc ?_
 refine Sr ?_
 refine Vx (v:=.agg [I f,I g].toArray) (Run.loadN J7 rfl rfl (Bk.part bh 0 [I f,I g] rfl)) ?_
 have dt:=(Bs (Y4 a5 ae af ag aj) ak)
 refine Eu (St (vs:=[I f,I g]) (cs':=[I f,I g]) Gb dt rfl rfl rfl rfl fun em du dv=>?_)
 refine AA ?_
 refine AT ?_
 obtain rfl:=AP c
 refine Ax (B:=B) a4 (BG rfl (.agg J7 rfl rfl (Bk.part du 0 [I f,I g] rfl)) ?_)
 exact ⟨m,[I f,I g],rfl,Ho (T3 (T4 (Mo [21,22,23,24,25,26] av) an ae af ag) aj ak dv) a1,(Ah (x:=(AD.mk f g)))⟩
theorem SB(c:Nat):GX.Spec (GX c):=by
 intro a d o p q e f
 refine Calls.mono (Qy c (recol (see []) a) d (Az lbr a) e (Au BN f [])) ?_
 rintro r s ⟨g,h,l,m,n⟩
 exact ⟨glue [] d a g,h,l,Ad m Ay,BB Ag n⟩
def IB.At(e:Col)(a:World)(f:Nat→Option Nat):Prop:=
 ∀{c:Nat} {d:Nat},f c=some d→
  Calls Tryz.prog 113 #[Fl c] a fun g h=>∃(l:Col),g=.returned (Fl d)∧AQ [] e a l h
def IB.Spec(f:Nat→Option Nat):Prop:=
 ∀(a:Col) (c:World),IB.At a c f
theorem SC(c:Col)(e:World)(f:∀b,c b<10):IB.At c e IB:=by
 intro g n a
 rw [IB] at a
 refine A0 Tryz.func113 rfl Tryz.ntmps113 rfl fun B l o=>Sr<|Va (Fl (0:Nat))<|AA<|AZ<|WC.cond (t:=true) rfl (fun h=>?_) (fun h=>by cases h)
 refine Sr<|Vm<|Bi a fun d m a=>Vx (v:=Fl d) (Za (vs:=[Fl g]) rfl (Vb m))<|Va (Fl d)<|AA<|AT ?_
 obtain rfl:=AP a
 refine Ax (B:=B) l (BG rfl (.tmp rfl) ?_)
 exact ⟨c,rfl,Ho (AQ.refl [] _ _) f⟩
theorem TC:IB.Spec IB:=by
 intro a c h l d
 refine Calls.mono (SC (recol (see []) a) c (Az lbr a) d) ?_
 rintro m n ⟨e,f,g⟩
 exact ⟨glue [] c a e,f,Ad g Ay⟩
def Hq.At(e:Col)(a:World)(f:Nat→Option Bool):Prop:=
 ∀{c:Nat} {d:Bool},f c=some d→
  Calls Tryz.prog 114 #[Fl c] a fun g h=>∃(l:Col),g=.returned (.bool d)∧AQ [] e a l h
def Hq.Spec(f:Nat→Option Bool):Prop:=
 ∀(a:Col) (c:World),Hq.At a c f
theorem QE(c:Col)(e:World)(f:∀b,c b<10):Hq.At c e Hq:=by
 intro a h d
 rw [Hq] at d
 refine A0 Tryz.func114 rfl Tryz.ntmps114 rfl fun B g l=>Sr<|Va (.bool false)<|AA<|Sr<|Vm<|Vx (v:=.int .u64 ((a:Nat):Int)) (OF (vs:=[Fl a]) rfl rfl)<|Vr (I (Wr ((a:Nat):Int)))<|Vr (.bool (decide ((Wr ((a:Nat):Int))<0)))<|Va (.bool (decide ((Wr ((a:Nat):Int))<0)))<|AA<|AT ?_
 obtain rfl:=AP d
 refine Ax (B:=B) g (BG rfl (.tmp rfl) ?_)
 exact ⟨c,rfl,Ho (AQ.refl [] _ _) f⟩
theorem Qz:Hq.Spec Hq:=by
 intro a c h l d
 refine Calls.mono (QE (recol (see []) a) c (Az lbr a) d) ?_
 rintro m n ⟨e,f,g⟩
 exact ⟨glue [] c a e,f,Ad g Ay⟩
def GY.At(e:Col)(a:World)(f:Nat→Option Bool):Prop:=
 ∀{c:Nat} {d:Bool},f c=some d→
  Calls Tryz.prog 88 #[Fl c] a fun g h=>∃(l:Col),g=.returned (.bool d)∧AQ [] e a l h
def GY.Spec(f:Nat→Option Bool):Prop:=
 ∀(a:Col) (c:World),GY.At a c f
theorem Q0(g:Col)(l:World)(u:∀b,g b<10):GY.At g l GY:=by
 intro h w a
 rw [GY] at a
 refine A0 Tryz.func88 rfl Tryz.ntmps88 rfl fun B y ah=>Sr<|Va (.bool false)<|AA<|Ao (fun z r=>∃(s:Env) (m:Col) (n:Bool),z=s.puts [(2,.bool n)]∧HN n=some w∧AQ [] g l m r) ?_ ?_
 refine AO<|Vm<|Vr (.bool (fge h (13938640846711685120:Nat)))<|Vm<|Bo a (fun f a=>?_) fun f a=>?_
 refine Gm f<|Gr f (.bool (fle h (4715268809856909312:Nat)))<|Vp f<|Vm<|Bo a (fun d a=>?_) fun d a=>?_
 refine Gm d<|Gm d<|Bi a fun aa ab a=>CI (.guard (t:=true) (b:=true) rfl rfl rfl rfl (Cb d)) rfl rfl (Y7 [Fl h] rfl)<|Calls.mono (TC g l ab) ?_
 rintro _ ac ⟨o,rfl,p⟩
 refine ⟨_,rfl,?_⟩
 refine Gr d (.bool (feq h aa))<|Vp d<|Vm<|Bo a (fun c a=>?_) fun c a=>?_
 refine Gm c<|Gr c (.bool (fne h (0:Nat)))<|Gm c<|Bo a (fun e a=>?_) fun e a=>?_
 refine Pg e<|Pg e<|Pg e<|Gp c e<|Vp c<|Va (.bool true)<|AA<|⟨_,o,true,Pu,a,(Mo [] p)⟩
 refine Gm e<|Bi a fun q ad a=>CI (.guard (t:=false) (b:=false) rfl rfl rfl rfl (Cb e)) rfl rfl (Y8 [Fl h] rfl)<|Calls.mono (Qz o ac ad) ?_
 rintro _ ai ⟨ae,rfl,af⟩
 refine ⟨_,rfl,?_⟩
 refine Gr e (.bool (!q))<|Gp c e<|Vp c<|Va (.bool (!q))<|AA<|⟨_,ae,(!q),Pu,a,(Tn (Mo [] p) af)⟩
 refine Pg c<|Pg c<|Pg c<|Po<|Po<|Po<|Pg c<|Vp c<|Va (.bool false)<|AA<|⟨_,o,false,Pu,a,(Mo [] p)⟩
 refine Pg d<|Pg d<|Pg d<|Pg d<|Vp d<|Vm<|Pg rfl<|Pg rfl<|Pg rfl<|Po<|Po<|Po<|Pg rfl<|Vr (.bool false)<|Va (.bool false)<|AA<|⟨_,g,false,Pu,a,(AQ.refl [] _ _)⟩
 refine Pg f<|Pg f<|Vp f<|Vm<|Pg rfl<|Pg rfl<|Pg rfl<|Pg rfl<|Vr (.bool false)<|Vm<|Pg rfl<|Pg rfl<|Pg rfl<|Po<|Po<|Po<|Pg rfl<|Vr (.bool false)<|Va (.bool false)<|AA<|⟨_,g,false,Pu,a,(AQ.refl [] _ _)⟩
 rintro _ r ⟨s,m,n,rfl,a,ag⟩
 rw [HN] at a
 refine AT ?_
 obtain rfl:=AP a
 refine Ax (B:=B) y (BG rfl (.tmp rfl) ?_)
 exact ⟨m,rfl,Ho (Mo [] ag) u⟩
theorem OR:GY.Spec GY:=by
 intro a c h l d
 refine Calls.mono (Q0 (recol (see []) a) c (Az lbr a) d) ?_
 rintro m n ⟨e,f,g⟩
 exact ⟨glue [] c a e,f,Ad g Ay⟩
def Bv.At(e:Col)(a:World)(f:(Nat×Nat)→Option Bool):Prop:=
 ∀{c:(Nat×Nat)} {d:Bool},f c=some d→
  Calls Tryz.prog 54 #[Cx c] a fun g h=>∃(l:Col),g=.returned (.bool d)∧AQ [] e a l h
def Bv.Spec(f:(Nat×Nat)→Option Bool):Prop:=
 ∀(a:Col) (c:World),Bv.At a c f
theorem Q1(d:Col)(f:World)(q:∀b,d b<10):Bv.At d f Bv:=by
 intro e r a
 rw [Bv] at a
 refine A0 Tryz.func54 rfl Tryz.ntmps54 rfl fun B s ad=>Sr<|Va (.bool false)<|AA<|Ao (fun u l=>∃(m:Env) (g:Col) (h:Bool),u=m.puts [(2,.bool h)]∧Jx h=some r∧AQ [] d f g l) ?_ ?_
 refine AO<|Vm<|Vx (v:=Fl e.1) (Run.real rfl)<|Bi a fun ae w a=>Ca (Xi [Fl e.1] rfl) (OR d f w) ?_
 rintro _ y ⟨n,rfl,o⟩
 refine ⟨_,rfl,?_⟩
 refine Vm<|Bo a (fun c a=>?_) fun c a=>?_
 refine Gm c<|Gx c (v:=Fl e.2) (Run.imag rfl)<|Bi a fun p z a=>CI (.guard (t:=true) (b:=true) rfl rfl rfl rfl (Cb c)) rfl rfl (Xi [Fl e.2] rfl)<|Calls.mono (OR n y z) ?_
 rintro _ af ⟨aa,rfl,ab⟩
 refine ⟨_,rfl,?_⟩
 refine Vp c<|Va (.bool p)<|AA<|⟨_,aa,p,Pu,a,(Tn (Mo [] o) ab)⟩
 refine Pg c<|Pg c<|Pg c<|Vp c<|Va (.bool false)<|AA<|⟨_,n,false,Pu,a,(Mo [] o)⟩
 rintro _ l ⟨m,g,h,rfl,a,ac⟩
 rw [Jx] at a
 refine AT ?_
 obtain rfl:=AP a
 refine Ax (B:=B) s (BG rfl (.tmp rfl) ?_)
 exact ⟨g,rfl,Ho (Mo [] ac) q⟩
theorem Ct:Bv.Spec Bv:=by
 intro a c h l d
 refine Calls.mono (Q1 (recol (see []) a) c (Az lbr a) d) ?_
 rintro m n ⟨e,f,g⟩
 exact ⟨glue [] c a e,f,Ad g Ay⟩
def DB.At(c:Col)(a:World)(f:AI→Option Int):Prop:=
 ∀{d:AI} {e:List Value} {g:Int},f d=some g→A1.rep c.F a e d→
  Calls Tryz.prog 30 #[.agg e.toArray] a fun h l=>∃(m:Col),h=.returned (I g)∧AQ [] c a m l
def DB.Spec(f:AI→Option Int):Prop:=
 ∀(a:Col) (c:World),DB.At a c f
theorem Q2(am:Nat)(an:Col)(bd:World)(az:∀b,an b<10):DB.At an bd (DB am):=by
 intro c b9 y a be
 rw [DB] at a
 obtain ⟨ca,rfl,af⟩:=CU be
 obtain ⟨a0,a1,rfl⟩:=AG af
 refine A0 Tryz.func30 rfl Tryz.ntmps30 rfl fun B a2 cb=>Sr<|Ef (Bf an 20 rfl rfl fun w z bf o aa=>?_)
 refine Va (I 0)<|AA<|Sr<|Va (.bool true)<|AA<|Ao (fun q a3=>∃(d:Env) (ag:Col) (ah:Bool),q=d.puts [(3,.bool ah)]∧EH ah=some y∧AQ [] w z ag a3) ?_ ?_
 refine Sr<|Vx (Run.fieldAddr0 JH rfl)<|Vx (Run.load1 EA rfl (Bk.cell o rfl))<|AA<|Aj<|Sr<|Vr (.bool (c.type_==1))<|Va (.bool (c.type_==1))<|AA<|Cn a (fun bg a=>?_) fun bg a=>?_
 refine AO<|Vx (Run.fieldAddr Jf rfl)<|Vx (Run.load1 Jo rfl (Bk.cell o rfl))<|Bi a fun cc bh a=>Ca (KL [Cx c.num] rfl) (Ct w z bh) ?_
 rintro _ cd ⟨ao,rfl,ab⟩
 refine ⟨_,rfl,?_⟩
 refine Vm<|Bo a (fun h a=>?_) fun h a=>?_
 refine Gx h (Run.fieldAddr M2 rfl)<|have a4:=Bs o ab;Gx h (Run.load1 Rr rfl (Bk.cell a4 rfl))<|Gr h (.bool (!c.bool))<|Vp h<|Vm<|Bo a (fun e a=>?_) fun e a=>?_
 refine Gx e (Run.fieldAddr IM rfl)<|Gx e (Run.load1 LT rfl (Bk.cell a4 rfl))<|have bi:=K2 Kd.cpx af aa ab; ?_
 obtain ⟨cf,cg,bj⟩:=AG bi
 refine Gx e (v:=I (c.list.length:Int)) (Run.lenSlc LB bj)<|Gr e (.bool ((c.list.length:Int)==0))<|Vp e<|Va (.bool ((c.list.length:Int)==0))<|AA<|⟨_,ao,((c.list.length:Int)==0),Pu,a,(Mo [] ab)⟩
 refine Pg e<|Pg e<|Pg e<|Pg e<|Vp e<|Va (.bool false)<|AA<|⟨_,ao,false,Pu,a,(Mo [] ab)⟩
 refine Pg h<|Pg h<|Pg h<|Vp h<|Vm<|Pg rfl<|Pg rfl<|Pg rfl<|Pg rfl<|Vr (.bool false)<|Va (.bool false)<|AA<|⟨_,ao,false,Pu,a,(Mo [] ab)⟩
 refine Sr<|Vr (.bool (c.type_==2))<|Va (.bool (c.type_==2))<|AA<|Cn a (fun bk a=>?_) fun bk a=>?_
 refine AO<|Vx (Run.fieldAddr Jf rfl)<|Vx (Run.load1 Jo rfl (Bk.cell o rfl))<|Bi a fun ch bl a=>Ca (KL [Cx c.num] rfl) (Ct w z bl) ?_
 rintro _ ci ⟨ap,rfl,ac⟩
 refine ⟨_,rfl,?_⟩
 refine Vm<|Bo a (fun l a=>?_) fun l a=>?_
 refine Gx l (Run.fieldAddr Jf rfl)<|have a5:=Bs o ac;Gx l (Run.load1 Jo rfl (Bk.cell a5 rfl))<|Gx l (v:=.bool (ceq c.num ((0,0):Nat×Nat))) (Run.ceq rfl rfl)<|Vp l<|Vm<|Bo a (fun f a=>?_) fun f a=>?_
 refine Gx f (Run.fieldAddr IM rfl)<|Gx f (Run.load1 LT rfl (Bk.cell a5 rfl))<|have bm:=K2 Kd.cpx af aa ac; ?_
 obtain ⟨cj,ck,bn⟩:=AG bm
 refine Gx f (v:=I (c.list.length:Int)) (Run.lenSlc LB bn)<|Gr f (.bool ((c.list.length:Int)==0))<|Vp f<|Va (.bool ((c.list.length:Int)==0))<|AA<|⟨_,ap,((c.list.length:Int)==0),Pu,a,(Mo [] ac)⟩
 refine Pg f<|Pg f<|Pg f<|Pg f<|Vp f<|Va (.bool false)<|AA<|⟨_,ap,false,Pu,a,(Mo [] ac)⟩
 refine Pg l<|Pg l<|Pg l<|Vp l<|Vm<|Pg rfl<|Pg rfl<|Pg rfl<|Pg rfl<|Vr (.bool false)<|Va (.bool false)<|AA<|⟨_,ap,false,Pu,a,(Mo [] ac)⟩
 refine Sr<|Vr (.bool (c.type_==3))<|Va (.bool (c.type_==3))<|AA<|Cn a (fun bo a=>?_) fun bo a=>?_
 refine Ao (fun q aq=>∃(d:Env) (ai:Col) (aj:Bool),q=d.puts [(1,.pointer (some ⟨bf,0,none⟩)),(3,.bool aj)]∧I7 am c aj=some y∧AQ [] w z ai aq) ?_ ?_
 refine AO<|Vx (Run.fieldAddr Jf rfl)<|Vx (Run.load1 Jo rfl (Bk.cell o rfl))<|Bi a fun cl bp a=>Ca (KL [Cx c.num] rfl) (Ct w z bp) ?_
 rintro _ cm ⟨ar,rfl,ak⟩
 refine ⟨_,rfl,?_⟩
 refine Vm<|Bo a (fun m a=>?_) fun m a=>?_
 refine Gx m (Run.fieldAddr Jf rfl)<|have a6:=Bs o ak;Gx m (Run.load1 Jo rfl (Bk.cell a6 rfl))<|Gx m (v:=.bool (ceq c.num ((0,0):Nat×Nat))) (Run.ceq rfl rfl)<|Vp m<|Vm<|Bo a (fun n a=>?_) fun n a=>?_
 refine Gx n (Run.fieldAddr M2 rfl)<|Gx n (Run.load1 Rr rfl (Bk.cell a6 rfl))<|Gr n (.bool (!c.bool))<|Vp n<|Va (.bool (!c.bool))<|AA<|⟨_,ar,(!c.bool),Pu,a,(Mo [] ak)⟩
 refine Pg n<|Pg n<|Pg n<|Vp n<|Va (.bool false)<|AA<|⟨_,ar,false,Pu,a,(Mo [] ak)⟩
 refine Pg m<|Pg m<|Pg m<|Vp m<|Vm<|Pg rfl<|Pg rfl<|Pg rfl<|Vr (.bool false)<|Va (.bool false)<|AA<|⟨_,ar,false,Pu,a,(Mo [] ak)⟩
 rintro _ aq ⟨d,ai,aj,rfl,a,au⟩
 rw [I7] at a
 refine Sr<|Vx (Run.fieldAddr IM rfl)<|have bq:=Bs o au;Vx (Run.load1 LT rfl (Bk.cell bq rfl))<|have a7:=K2 Kd.cpx af aa au; ?_
 obtain ⟨cn,co,br⟩:=AG a7
 refine Vx (v:=I (c.list.length:Int)) (Run.lenSlc LB br)<|Vm<|AA<|Aj<|Bt (fun p q ad=>∃(d:Env) (r:Col) (ae:Bool) (g:Int),q=d.puts [(3,.bool ae),(56,.slice a0 c.list.length a1),(57,.int .i64 (c.list.length:Int)),(58,.int .i64 g)]∧IC c p ae g=some y∧AQ [] ai aq r ad) am ?_ ?_
 exact ⟨_,ai,aj,0,Pu,a,(AQ.refl [] _ _)⟩
 rintro p _ ad ⟨d,r,ae,g,rfl,a,av⟩
 rcases p with _|p
 exact BC a
 refine have a:JY c (IC c p) ae g=some y:=a; ?_
 obtain ⟨bt,a8⟩:∃s,s=IC c p:=⟨_,rfl⟩
 rw [←a8,JY] at a
 refine Sr<|Vr (.bool (decide (g< (c.list.length:Int))))<|AA<|AZ<|Cn a (fun bu a=>?_) fun bu a=>?_
 refine WC.skip<|Ao (fun q a9=>∃(d:Env) (aw:Col) (al:Bool),q=d.puts [(3,.bool al),(56,.slice a0 c.list.length a1),(57,.int .i64 (c.list.length:Int)),(58,.int .i64 g)]∧Jy g bt al=some y∧AQ [] r ad aw a9) ?_ ?_
 refine Aj<|Sr<|Bi a fun ax bv a=>have bw:=Ss Kd.cpx a7 av; ?_
 obtain ⟨bx,bz,cq,ba,b0,b1,b2,b3,ay⟩:=BL (κ:=Kd.cpx) bw bv
 replace ay:A8 r ad bx (bz+g.toNat*1) ba:=ay
 obtain rfl:=(show ba=[Cx ax] from b3)
 refine Vx (Run.indexAddr LB b0 rfl b1 b2)<|Vx (Run.load1 Jo rfl (A8.cell0 ay rfl))<|Va (Cx ax)<|AA<|AO<|Vm<|Vm<|Bo a (fun u a=>?_) fun u a=>?_
 refine Gm u<|Bi a fun bb b4 a=>CI (.guard (t:=true) (b:=true) rfl rfl rfl rfl (Cb u)) rfl rfl (KL [Cx ax] rfl)<|Calls.mono (Ct r ad b4) ?_
 rintro _ cr ⟨b5,rfl,b6⟩
 refine ⟨_,rfl,?_⟩
 refine Vp u<|Va (.bool bb)<|AA<|⟨_,b5,bb,Pu,a,(Mo [] b6)⟩
 refine Pg u<|Pg u<|Vp u<|Va (.bool false)<|AA<|⟨_,r,false,Pu,a,(AQ.refl [] _ _)⟩
 rintro _ a9 ⟨d,aw,al,rfl,a,b7⟩
 rw [Jy] at a
 refine AO<|Vr (I (Wr (g+1)))<|Vm<|AA<|⟨p,Nat.lt_succ_self p,_,aw,al,(Wr (g+1)),Pu,(a8▸a),(Tn (Mo [] av) b7)⟩
 refine Bc<|⟨_,r,ae,Pu,a,(Tn (Mo [] au) av)⟩
 refine AO<|Va (.bool false)<|AA<|⟨_,w,false,Pu,a,(AQ.refl [] _ _)⟩
 rintro _ a3 ⟨d,ag,ah,rfl,a,bc⟩
 rw [EH] at a
 refine AZ<|Sr<|Vm<|Vr (.bool (!ah))<|AA<|Cn a (fun b8 a=>?_) fun b8 a=>?_
 refine Sr<|Va (I 3)<|AA<|AT ?_
 obtain rfl:=AP a
 refine Ax (B:=B) a2 (BG rfl (.tmp rfl) ?_)
 exact ⟨ag,rfl,Ho (Tn (Mo [] aa) bc) az⟩
 refine WC.skip<|Sr<|Va (I 0)<|AA<|AT ?_
 obtain rfl:=AP a
 refine Ax (B:=B) a2 (BG rfl (.tmp rfl) ?_)
 exact ⟨ag,rfl,Ho (Tn (Mo [] aa) bc) az⟩
theorem OS(c:Nat):DB.Spec (DB c):=by
 intro a d m n o e f
 refine Calls.mono (Q2 c (recol (see []) a) d (Az lbr a) e (Au A1 f [])) ?_
 rintro p q ⟨g,h,l⟩
 exact ⟨glue [] d a g,h,Ad l Ay⟩
def H2.At(c:Col)(a:World)(f:Aq→Option Th):Prop:=
 ∀{d:Aq} {e:List Value} {g:Th},f d=some g→Gi.rep c.F a e d→
  Calls Tryz.prog 55 #[.agg e.toArray] a fun n h=>∃(l:Col) (m:Value),n=.returned m∧AQ [] c a l h∧MTh 89 90 l.F h m g
def H2.Spec(f:Aq→Option Th):Prop:=
 ∀(a:Col) (c:World),H2.At a c f
theorem TD(e:Col)(h:World)(l:∀b,e b<10):H2.At e h H2:=by
 intro a ae af f m
 rw [H2] at f
 obtain ⟨ag,n,o,rfl,g,p,q⟩:=DM m
 obtain ⟨r,s,rfl⟩:=AG g
 refine A0 Tryz.func55 rfl Tryz.ntmps55 rfl fun B u ah=>Sr<|Ef (Bf e 20 rfl rfl fun ai aj c w d=>?_)
 refine Va .nilFunc<|AA<|Sr<|Vx (v:=.func (.func 89) #[] [Pt c 0].toArray) (Hm (vs:=[Pt c 0]) rfl)<|Va (.func (.func 89) #[] [Pt c 0].toArray)<|AA<|AT<|have y:=Ss Kd.cpx g d;have z:=Mt p d;have aa:=Mt q d; ?_
 obtain ⟨ab,ac,ad⟩:=MTh.layDone (L:=90) (cp:=[I a.plain.type_,Cx a.plain.num,.bool a.plain.bool,Sl r a.plain.list s]) (hv:=n) (tv:=o) w dcd (BP (x:=(AI.mk a.plain.type_ a.plain.num a.plain.bool a.plain.list)) y) z aa
 obtain rfl:=AP f
 refine Ax (B:=B) u (BG rfl (.tmp rfl) ?_)
 exact ⟨ab,.func (.func 89) #[] [Pt c 0].toArray,rfl,Ho (Tn (Mo [20] d) ac) l,ad⟩
theorem LD:H2.Spec H2:=by
 intro a c n o p d e
 refine Calls.mono (TD (recol (see []) a) c (Az lbr a) d (Au Gi e [])) ?_
 rintro q r ⟨f,g,h,l,m⟩
 exact ⟨glue [] c a f,g,h,Ad l Ay,MTh.glue m⟩
def ID.At(c:Col)(a:World)(f:AI→Option Th):Prop:=
 ∀{d:AI} {e:List Value} {g:Th},f d=some g→A1.rep c.F a e d→
  Calls Tryz.prog 31 #[.agg e.toArray] a fun n h=>∃(l:Col) (m:Value),n=.returned m∧AQ [] c a l h∧MTh 89 90 l.F h m g
def ID.Spec(f:AI→Option Th):Prop:=
 ∀(a:Col) (c:World),ID.At a c f
theorem SD(ab:Nat)(p:Col)(av:World)(ac:∀b,p b<10):ID.At p av (ID ab):=by
 intro c bu ad a aw
 rw [ID] at a
 obtain ⟨bv,rfl,q⟩:=CU aw
 obtain ⟨r,u,rfl⟩:=AG q
 refine A0 Tryz.func31 rfl Tryz.ntmps31 rfl fun B ae bw=>Sr<|Ef (Bf p 20 rfl rfl fun af ag ax w n=>?_)
 refine Va .nilFunc<|AA<|AZ<|Sr<|Vx (Run.fieldAddr0 JH rfl)<|Vx (Run.load1 EA rfl (Bk.cell w rfl))<|Vr (.bool (c.type_ != 3))<|AA<|Cn a (fun ay a=>?_) fun ay a=>?_
 refine Sr<|Vx (Run.loadN D9 rfl rfl (Bk.part w 0 [I c.type_,Cx c.num,.bool c.bool,Sl r c.list u] rfl))<|Vx (v:=.agg [I c.type_,Cx c.num,.bool c.bool,Sl r c.list u,.nilFunc,.nilFunc].toArray) (Bp J9 Mg rfl (.cons rfl rfl rfl .nil))<|have az:=Ss Kd.cpx q n;Bi a fun bx a0 a=>Ca (Rj [.agg [I c.type_,Cx c.num,.bool c.bool,Sl r c.list u,.nilFunc,.nilFunc].toArray] rfl) (LD af ag a0 (Cd (x:=(Aq.mk c Th.nil Th.nil)) az MTh.nil MTh.nil)) ?_
 rintro _ bz ⟨a1,ah,rfl,a2,a3⟩
 refine ⟨_,rfl,?_⟩
 refine Va ah<|AA<|AT ?_
 obtain rfl:=AP a
 refine Ax (B:=B) ae (BG rfl (.tmp rfl) ?_)
 exact ⟨a1,ah,rfl,Ho (Tn (Mo [] n) a2) ac,a3⟩
 refine WC.skip<|Sr<|Vx (v:=.agg [I 3,Cx (((0,0):Nat×Nat)),.bool false,.slice none 0 0].toArray) (Bp FI JI rfl (.cons rfl rfl rfl .nil))<|Vx (v:=.agg [I 3,Cx (((0,0):Nat×Nat)),.bool false,.slice none 0 0,.nilFunc,.nilFunc].toArray) (Bp J9 Mg rfl (.cons rfl rfl rfl .nil))<|Bi a fun a4 a5 a=>Ca (Rj [.agg [I 3,Cx (((0,0):Nat×Nat)),.bool false,.slice none 0 0,.nilFunc,.nilFunc].toArray] rfl) (LD af ag a5 (Cd (x:=(Aq.mk (AI.mk 3 ((0,0):Nat×Nat) false []) Th.nil Th.nil)) CT MTh.nil MTh.nil)) ?_
 rintro _ a6 ⟨ai,aj,rfl,y,a7⟩
 refine ⟨_,rfl,?_⟩
 refine Va aj<|AA<|AZ<|Sr<|Vx (Run.fieldAddr IM rfl)<|have ak:=Bs w y;Vx (Run.load1 LT rfl (Bk.cell ak rfl))<|have al:=K2 Kd.cpx q n y; ?_
 obtain ⟨b0,b1,a8⟩:=AG al
 refine Vx (v:=I (c.list.length:Int)) (Run.lenSlc LB a8)<|Vr (I (Wr ((c.list.length:Int) - 1)))<|Va (I (Wr ((c.list.length:Int) - 1)))<|AA<|Aj<|Bt (fun e a9 h=>∃(am:Env) (g:Col) (l:Th) (f:Value) (d:Int),a9=am.puts [(1,.pointer (some ⟨ax,0,none⟩)),(3,f),(4,.int .i64 d)]∧Il c e l d=some ad∧AQ [] ai a6 g h∧MTh 89 90 g.F h f l) ab ?_ ?_
 exact ⟨_,ai,a4,aj,(Wr ((c.list.length:Int) - 1)),Pu,a,(AQ.refl [] _ _),a7⟩
 rintro e _ h ⟨am,g,l,f,d,rfl,a,o,z⟩
 rcases e with _|e
 exact BC a
 refine have a:Jz c (Il c e) l d=some ad:=a; ?_
 obtain ⟨b2,an⟩:∃s,s=Il c e:=⟨_,rfl⟩
 rw [←an,Jz] at a
 refine AZ<|Sr<|Vm<|Vr (.bool (decide (d≥0)))<|AA<|Cn a (fun ba a=>?_) fun ba a=>?_
 refine WC.skip<|AZ<|Aj<|AO<|Vx (Run.fieldAddr IM rfl)<|have bb:=Bs ak o;Vx (Run.load1 LT rfl (Bk.cell bb rfl))<|Vm<|Bi a fun m bc a=>have bd:=Ss Kd.cpx al o; ?_
 obtain ⟨be,o130,b3,ao,bf,bg,bh,bi,aa⟩:=BL (κ:=Kd.cpx) bd bc
 replace aa:A8 g h be (o130+d.toNat*1) ao:=aa
 obtain rfl:=(show ao=[Cx m] from bi)
 refine Vx (Run.indexAddr LB bf rfl bg bh)<|Vx (Run.load1 Jo rfl (A8.cell0 aa rfl))<|Vx (v:=.agg [I 1,Cx m,.bool false,.slice none 0 0].toArray) (Bp FI JI rfl (.cons rfl rfl rfl (.cons rfl rfl rfl .nil)))<|Vx (v:=.agg [I 1,Cx m,.bool false,.slice none 0 0,.nilFunc,.nilFunc].toArray) (Bp J9 Mg rfl (.cons rfl rfl rfl .nil))<|Bi a fun bj bk a=>Ca (Rj [.agg [I 1,Cx m,.bool false,.slice none 0 0,.nilFunc,.nilFunc].toArray] rfl) (LD g h bk (Cd (x:=(Aq.mk (AI.mk 1 m false []) Th.nil Th.nil)) CT MTh.nil MTh.nil)) ?_
 rintro _ bl ⟨bm,ap,rfl,aq,ar⟩
 refine ⟨_,rfl,?_⟩
 refine Vm<|Vx (v:=.agg [I 0,Cx (((0,0):Nat×Nat)),.bool false,.slice none 0 0,ap,f].toArray) (Bp J9 Mg rfl (.cons rfl (IT (MTh.one ar)) rfl (.cons rfl (IT (MTh.one z)) rfl .nil)))<|have bn:=Mt z aq;Bi a fun bo bp a=>Ca (Rj [.agg [I 0,Cx (((0,0):Nat×Nat)),.bool false,.slice none 0 0,ap,f].toArray] rfl) (LD bm bl bp (Cd (x:=(Aq.mk (AI.mk 0 ((0,0):Nat×Nat) false []) bj l)) CT ar bn)) ?_
 rintro _ b4 ⟨bq,au,rfl,br,bt⟩
 refine ⟨_,rfl,?_⟩
 refine Va au<|AA<|AO<|Vm<|Vr (I (Wr (d - 1)))<|Va (I (Wr (d - 1)))<|AA<|⟨e,Nat.lt_succ_self e,_,bq,bo,au,(Wr (d - 1)),Pu,(an▸a),(T2 (Mo [] o) aq br),bt⟩
 refine Bc<|Sr<|Vm<|Va f<|AA<|AT ?_
 obtain rfl:=AP a
 refine Ax (B:=B) ae (BG rfl (.tmp rfl) ?_)
 exact ⟨g,f,rfl,Ho (T2 (Mo [] n) y o) ac,z⟩
theorem TE(c:Nat):ID.Spec (ID c):=by
 intro a d o p q e f
 refine Calls.mono (SD c (recol (see []) a) d (Az lbr a) e (Au A1 f [])) ?_
 rintro r s ⟨g,h,l,m,n⟩
 exact ⟨glue [] d a g,h,l,Ad m Ay,MTh.glue n⟩
def DU.At(c:Col)(a:World)(f:Nm→Bts→Option Th):Prop:=
 ∀{d:Nm} {v0:Value} {e:Bts} {g:Th},f d e=some g→F7 89 90 c.F a v0 d→
  Calls Tryz.prog 56 #[v0,Sb e] a fun n h=>∃(l:Col) (m:Value),n=.returned m∧AQ [] c a l h∧MTh 89 90 l.F h m g
def DU.Spec(f:Nm→Bts→Option Th):Prop:=
 ∀(a:Col) (c:World),DU.At a c f
theorem Oo(r:Nat)(g:Col)(u:World)(ab:∀b,g b<10):DU.At g u (DU r):=by
 intro ac v0 d w a ad
 rw [DU] at a
 refine A0 Tryz.func56 rfl Tryz.ntmps56 rfl fun B ae am=>Sr<|Va .nilFunc<|AA<|AZ<|Aj<|Bt (fun c af h=>∃(y:Env) (e:Col) (l:Nm) (m:Value),af=y.puts [(0,m),(1,.string (bs d))]∧D8 d c l=some w∧AQ [] g u e h∧F7 89 90 e.F h m l) r ?_ ?_
 exact ⟨_,g,ac,v0,Pu,a,(AQ.refl [] _ _),ad⟩
 rintro c _ h ⟨y,e,l,m,rfl,a,z,ag⟩
 rcases c with _|c
 exact BC a
 refine have a:KK d (D8 d c) l=some w:=a; ?_
 obtain ⟨an,aa⟩:∃s,s=D8 d c:=⟨_,rfl⟩
 rw [←aa,KK] at a
 refine AZ<|Sr<|Vm<|Bi a fun n ah a=>?_
 obtain ⟨ai,o,p,q,f,aj,ak⟩:=F7.el ag ah
 replace f:A8 e h ai 0 [Sb n.1,o,p]:=f
 refine Vx (Run.nilCheck q)<|Vx (Run.fieldAddr0 X1 rfl)<|Vx (Run.load1 CS rfl (A8.cell0 f rfl))<|Vm<|Vx (v:=.bool (!(n.1==d))) (Run.strNe rfl rfl)<|AA<|Cn a (fun al a=>?_) fun al a=>?_
 refine WC.skip<|Aj<|AO<|Vm<|Vx (Run.nilCheck q)<|Vx (Run.fieldAddr X2 rfl)<|Vx (Run.load1 X7 rfl (A8.cell (k:=2) f rfl))<|Va p<|AA<|⟨c,Nat.lt_succ_self c,_,e,n.2.2,p,Pu,(aa▸a),(Mo [] z),ak⟩
 refine Bc<|Sr<|Vm<|Vx (Run.nilCheck q)<|Vx (Run.fieldAddr U4 rfl)<|Vx (Run.load1 OE rfl (A8.cell (k:=1) f rfl))<|Va o<|AA<|AT ?_
 obtain rfl:=AP a
 refine Ax (B:=B) ae (BG rfl (.tmp rfl) ?_)
 exact ⟨e,o,rfl,Ho (Mo [] z) ab,aj⟩
theorem PB(c:Nat):DU.Spec (DU c):=by
 intro a d o v0 p q e f
 refine Calls.mono (Oo c (recol (see []) a) d (Az lbr a) e (F7.recol f [])) ?_
 rintro r s ⟨g,h,l,m,n⟩
 exact ⟨glue [] d a g,h,l,Ad m Ay,MTh.glue n⟩
def Ie.At(c:Col)(a:World)(f:Aq→Option Aq):Prop:=
 ∀{d:Aq} {e:Nat} {g:List Value} {v0:Value} {h:Aq},f d=some h→A8 c a e 0 g→Gi.rep c.F a g d→v0.oneCell'=true→
  Calls Tryz.prog 89 #[v0,Pt e 0] a fun o l=>∃(m:Col) (n:List Value),o=.returned (.agg n.toArray)∧AQ [] c a m l∧Gi.rep m.F l n h
def Ie.Spec(f:Aq→Option Aq):Prop:=
 ∀(a:Col) (c:World),Ie.At a c f
theorem Q3(l:Col)(r:World)(s:∀b,l b<10):Ie.At l r Ie:=by
 intro a ag ah v0 ai m u w _p0
 rw [Ie] at m
 obtain ⟨aj,c,d,rfl,n,o,p⟩:=DM w
 obtain ⟨e,f,rfl⟩:=AG n
 refine A0 Tryz.func89 rfl Tryz.ntmps89 rfl fun B y ak=>Sr<|Ef (Aa l 20 J9 rfl fun z al am aa g=>?_)
 refine AA<|Sr<|have ab:=Es u g;Vx (Run.loadN JG rfl rfl (A8.part0 ab [I a.plain.type_,Cx a.plain.num,.bool a.plain.bool,Sl e a.plain.list f,c,d] rfl))<|have q:=Ss Kd.cpx n g;Eu (Br (vs:=[I a.plain.type_,Cx a.plain.num,.bool a.plain.bool,Sl e a.plain.list f,c,d]) (cs':=[I a.plain.type_,Cx a.plain.num,.bool a.plain.bool,Sl e a.plain.list f,c,d]) It rfl rfl rfl rfl (AX rfl (AX rfl (AX rfl (AX (FQ q) (AX (MTh.one o) (AX (MTh.one p) CQ)))))) aa dcd rfl rfl fun an ac h=>?_)
 refine AA<|AT ?_
 obtain rfl:=AP m
 refine Ax (B:=B) y (BG rfl (.agg JG rfl rfl (Bk.part ac 0 [I a.plain.type_,Cx a.plain.num,.bool a.plain.bool,Sl e a.plain.list f,c,d] rfl)) ?_)
 refine have ad:=Ss Kd.cpx q h;have ae:=Mt (Mt o g) h;have af:=Mt (Mt p g) h;⟨z,[I a.plain.type_,Cx a.plain.num,.bool a.plain.bool,Sl e a.plain.list f,c,d],rfl,Ho (Tn (Mo [20] g) h) s,(Cd (x:=a) ad ae af)⟩
theorem SE:Ie.Spec Ie:=by
 intro a c p q r v0 s d e f g
 refine Calls.mono (Q3 (recol (see []) a) c (Az lbr a) d (O6 e []) (Au Gi f []) g) ?_
 rintro u w ⟨h,l,m,n,o⟩
 exact ⟨glue [] c a h,l,m,Ad n Ay,BB Gi o⟩
def Im.Spec(f:AE→Option AE):Prop:=
 ∀(g:Col) (d:World) {h:AE} {l:List Value} {kn0:Nat} {kn1:Nat} {e:Value} {m:AE},f h=some m→[kn0,kn1].Nodup→0∉[kn0,kn1]→AJ.rep g.F d l h→e.oneCell'=true→
  Calls Tryz.prog 57 #[.agg l.toArray,e] d fun q a=>∃(c:Col) (n:Nat) (o:Nat) (p:List Value),q=.returned (.func (.func 90) #[] [Pt n 0,Pt o 0].toArray)∧AQ [kn0,kn1] g d c a∧Bk c a kn0 n p 56∧AJ.rep c.F a p m∧Bk c a kn1 o [e] 85
theorem SF(c:Col)(h:World)(y:∀b,c b<10){a:AE}{n:List Value}{l:Value}{o:AE}(z:AJ.rep c.F h n a)(aa:l.oneCell'=true)(p:Im a=some o):
  Calls Tryz.prog 57 #[.agg n.toArray,l] h fun ab d=>∃(e:Col) (q:Nat) (r:Nat) (s:List Value),ab=.returned (.func (.func 90) #[] [Pt q 0,Pt r 0].toArray)∧AQ [1,2] c h e d∧Bk e d 1 q s 56∧AJ.rep e.F d s o∧Bk e d 2 r [l] 85:=by
 rw [Im] at p
 obtain ⟨al,rfl,u⟩:=Am z
 obtain ⟨ac,ad,rfl⟩:=AG u
 refine A0 Tryz.func57 rfl Tryz.ntmps57 rfl fun B ae am=>Sr<|Ef (Bf c 1 rfl rfl fun af an f ag w=>?_)
 refine Ef (Bf af 2 rfl (IT aa) fun ah ao g ai m=>?_)
 refine Va .nilFunc<|AA<|Sr<|Vx (v:=.func (.func 90) #[] [Pt f 0,Pt g 0].toArray) (Hm (vs:=[Pt f 0,Pt g 0]) rfl)<|Va (.func (.func 90) #[] [Pt f 0,Pt g 0].toArray)<|AA<|AT ?_
 obtain rfl:=AP p
 refine Ax (B:=B) ae (BG rfl (.tmp rfl) ?_)
 refine have aj:=Bs ag m;have ak:=K2 AJ u w m;⟨ah,f,g,[I a.op,Sb a.name,Sb a.tail,I a.type_,Cx a.num,Sl ac a.args ad,I a.at_],rfl,Ho (Tn (Mo [] w) m) y,aj,(Ae (x:=a) ak),ai⟩
theorem La:Im.Spec Im:=by
 intro a d s u kn0 kn1 w y e hnd hnz f g
 refine Calls.mono (SF (recol (see [kn0,kn1]) a) d (Az lbr a) (Au AJ f [kn0,kn1]) g e) ?_
 rintro z aa ⟨h,l,m,n,o,c,p,q,r⟩
 exact ⟨glue [kn0,kn1] d a h,l,m,n,o,Ad c (DS rfl rfl),T0 (j:=0) p rfl rfl c,BB AJ q,T0 (j:=1) r rfl rfl c⟩
def Hc.At(e:Col)(c:World)(f:Int→Option (Int×Int)):Prop:=
 ∀{d:Int} {a:Int×Int},f d=some a→
  Calls Tryz.prog 115 #[I d] c fun g h=>∃(l:Col),g=.returned (.tuple #[I a.1,I a.2])∧AQ [] e c l h
def Hc.Spec(f:Int→Option (Int×Int)):Prop:=
 ∀(a:Col) (c:World),Hc.At a c f
theorem SG(g:Col)(u:World)(l:∀b,g b<10):Hc.At g u Hc:=by
 intro c w a
 rw [Hc] at a
 refine A0 Tryz.func115 rfl Tryz.ntmps115 rfl fun B m ad=>Sr<|Va (I 0)<|Va (I 0)<|AA<|AZ<|Aj<|Ao (fun p q=>∃(h:Env) (d:Col) (r:Bool),p=h.puts [(0,.int .i64 c),(4,.bool r)]∧LX c r=some w∧AQ [] g u d q) ?_ ?_
 refine AO<|Vm<|Vr (.bool (decide (c≥8)))<|Vm<|Bo a (fun e a=>?_) fun e a=>?_
 refine Gm e<|Gr e (.bool (decide (c≤13)))<|Vp e<|Va (.bool (decide (c≤13)))<|AA<|⟨_,g,(decide (c≤13)),Pu,a,(AQ.refl [] _ _)⟩
 refine Pg e<|Pg e<|Vp e<|Va (.bool false)<|AA<|⟨_,g,false,Pu,a,(AQ.refl [] _ _)⟩
 rintro _ q ⟨h,d,r,rfl,a,n⟩
 rw [LX] at a
 refine Cn a (fun aa a=>?_) fun aa a=>?_
 refine Sr<|Va (I 2)<|Va (I 1)<|AA<|AT ?_
 obtain rfl:=AP a
 refine Ax (B:=B) m (EC rfl (.tmp rfl) (.tmp rfl) ?_)
 exact ⟨d,rfl,Ho (Mo [] n) l⟩
 refine Sr<|Vm<|Vr (.bool (c==14))<|Va (.bool (c==14))<|AA<|Cn a (fun ab a=>?_) fun ab a=>?_
 refine Sr<|Va (I 1)<|Va (I 2)<|AA<|AT ?_
 obtain rfl:=AP a
 refine Ax (B:=B) m (EC rfl (.tmp rfl) (.tmp rfl) ?_)
 exact ⟨d,rfl,Ho (Mo [] n) l⟩
 refine Ao (fun p y=>∃(h:Env) (o:Col) (s:Bool),p=h.puts [(14,.bool s)]∧LW s=some w∧AQ [] d q o y) ?_ ?_
 refine AO<|Vm<|Vr (.bool (decide (c≥15)))<|Vm<|Bo a (fun f a=>?_) fun f a=>?_
 refine Gm f<|Gr f (.bool (decide (c≤17)))<|Vp f<|Va (.bool (decide (c≤17)))<|AA<|⟨_,d,(decide (c≤17)),Pu,a,(AQ.refl [] _ _)⟩
 refine Pg f<|Pg f<|Vp f<|Va (.bool false)<|AA<|⟨_,d,false,Pu,a,(AQ.refl [] _ _)⟩
 rintro _ y ⟨h,o,s,rfl,a,z⟩
 rw [LW] at a
 refine Cn a (fun ac a=>?_) fun ac a=>?_
 refine Sr<|Va (I 1)<|Va (I 1)<|AA<|AT ?_
 obtain rfl:=AP a
 refine Ax (B:=B) m (EC rfl (.tmp rfl) (.tmp rfl) ?_)
 exact ⟨o,rfl,Ho (Tn (Mo [] n) z) l⟩
 refine WC.skip<|Sr<|Va (I 0)<|Va (I 0)<|AA<|AT ?_
 obtain rfl:=AP a
 refine Ax (B:=B) m (EC rfl (.tmp rfl) (.tmp rfl) ?_)
 exact ⟨o,rfl,Ho (Tn (Mo [] n) z) l⟩
theorem TF:Hc.Spec Hc:=by
 intro a c h l d
 refine Calls.mono (SG (recol (see []) a) c (Az lbr a) d) ?_
 rintro m n ⟨e,f,g⟩
 exact ⟨glue [] c a e,f,Ad g Ay⟩
def Dq.At(m:Col)(c:World)(f:(Nat×Nat)→Int→Option (AI×Int)):Prop:=
 ∀{d:(Nat×Nat)} {e:Int} {a:AI×Int},f d e=some a→
  Calls Tryz.prog 116 #[Cx d,I e] c fun n g=>∃(h:Col) (l:List Value),n=.returned (.tuple #[.agg l.toArray,I a.2])∧AQ [] m c h g∧A1.rep h.F g l a.1
def Dq.Spec(f:(Nat×Nat)→Int→Option (AI×Int)):Prop:=
 ∀(a:Col) (c:World),Dq.At a c f
theorem Q4(d:Col)(n:World)(e:∀b,d b<10):Dq.At d n Dq:=by
 intro c f u a
 rw [Dq] at a
 refine A0 Tryz.func116 rfl Tryz.ntmps116 rfl fun B g w=>Sr<|Ef (Aa d 20 FI rfl fun h y z l m=>?_)
 refine Va (I 0)<|AA<|AZ<|Sr<|Vm<|Vr (.bool (f != 0))<|AA<|Cn a (fun o a=>?_) fun o a=>?_
 refine Sr<|Vx (v:=.agg [I 0,Cx (((0,0):Nat×Nat)),.bool false,.slice none 0 0].toArray) (Bp FI JI rfl .nil)<|Vm<|Eu (St F6 l rfl rfl rfl rfl fun aa p q=>?_)
 refine Va (I f)<|AA<|AT ?_
 obtain rfl:=AP a
 refine Ax (B:=B) g (EC rfl (.agg D9 rfl rfl (Bk.part p 0 [I 0,Cx (((0,0):Nat×Nat)),.bool false,.slice none 0 0] rfl)) (.tmp rfl) ?_)
 exact ⟨h,[I 0,Cx (((0,0):Nat×Nat)),.bool false,.slice none 0 0],rfl,Ho (Tn (Mo [20] m) q) e,(BP (x:=(AI.mk 0 ((0,0):Nat×Nat) false [])) CT)⟩
 refine WC.skip<|Sr<|Vm<|Vx (v:=.agg [I 1,Cx c,.bool false,.slice none 0 0].toArray) (Bp FI JI rfl (.cons rfl rfl rfl (.cons rfl rfl rfl .nil)))<|Eu (St F6 l rfl rfl rfl rfl fun ab r s=>?_)
 refine Va (I 0)<|AA<|AT ?_
 obtain rfl:=AP a
 refine Ax (B:=B) g (EC rfl (.agg D9 rfl rfl (Bk.part r 0 [I 1,Cx c,.bool false,.slice none 0 0] rfl)) (.tmp rfl) ?_)
 exact ⟨h,[I 1,Cx c,.bool false,.slice none 0 0],rfl,Ho (Tn (Mo [20] m) s) e,(BP (x:=(AI.mk 1 c false [])) CT)⟩
theorem IN:Dq.Spec Dq:=by
 intro a c m n o d
 refine Calls.mono (Q4 (recol (see []) a) c (Az lbr a) d) ?_
 rintro p q ⟨e,f,g,h,l⟩
 exact ⟨glue [] c a e,f,g,Ad h Ay,BB A1 l⟩
def Ek.At(e:Col)(c:World)(f:(Nat×Nat)→Option ((Nat×Nat)×Int)):Prop:=
 ∀{d:(Nat×Nat)} {a:(Nat×Nat)×Int},f d=some a→
  Calls Tryz.prog 137 #[Cx d] c fun g h=>∃(l:Col),g=.returned (.tuple #[Cx a.1,I a.2])∧AQ [] e c l h
def Ek.Spec(f:(Nat×Nat)→Option ((Nat×Nat)×Int)):Prop:=
 ∀(a:Col) (c:World),Ek.At a c f
theorem Q5(e:Col)(f:World)(g:∀b,e b<10):Ek.At e f Ek:=by
 intro h u a
 rw [Ek] at a
 refine A0 Tryz.func137 rfl Tryz.ntmps137 rfl fun B l w=>Sr<|Va (Cx (((0,0):Nat×Nat)))<|Va (I 0)<|AA<|Sr<|Vm<|Vx (v:=Fl h.1) (Run.real rfl)<|Bi a fun c o a=>Vx (v:=Fl c) (Run.fadd rfl rfl o)<|Vm<|Vx (v:=Fl h.2) (Run.imag rfl)<|Bi a fun d p a=>Vx (v:=Fl d) (Run.fadd rfl rfl p)<|Vx (v:=Cx ((c,d))) (Run.complex rfl rfl)<|Va (Cx ((c,d)))<|AA<|AZ<|Sr<|Vm<|Bi a fun q r a=>Ca (KL [Cx ((c,d))] rfl) (Ct e f r) ?_
 rintro _ y ⟨m,rfl,n⟩
 refine ⟨_,rfl,?_⟩
 refine Vr (.bool (!q))<|AA<|Cn a (fun s a=>?_) fun s a=>?_
 refine Sr<|Va (Cx (((0,0):Nat×Nat)))<|Va (I 50)<|AA<|AT ?_
 obtain rfl:=AP a
 refine Ax (B:=B) l (EC rfl (.tmp rfl) (.tmp rfl) ?_)
 exact ⟨m,rfl,Ho (Mo [] n) g⟩
 refine WC.skip<|Sr<|Vm<|Va (Cx ((c,d)))<|Va (I 0)<|AA<|AT ?_
 obtain rfl:=AP a
 refine Ax (B:=B) l (EC rfl (.tmp rfl) (.tmp rfl) ?_)
 exact ⟨m,rfl,Ho (Mo [] n) g⟩
theorem KA:Ek.Spec Ek:=by
 intro a c h l d
 refine Calls.mono (Q5 (recol (see []) a) c (Az lbr a) d) ?_
 rintro m n ⟨e,f,g⟩
 exact ⟨glue [] c a e,f,Ad g Ay⟩
def Hd.At(e:Col)(c:World)(f:(Nat×Nat)→Option ((Nat×Nat)×Int)):Prop:=
 ∀{d:(Nat×Nat)} {a:(Nat×Nat)×Int},f d=some a→
  Calls Tryz.prog 117 #[Cx d] c fun g h=>∃(l:Col),g=.returned (.tuple #[Cx a.1,I a.2])∧AQ [] e c l h
def Hd.Spec(f:(Nat×Nat)→Option ((Nat×Nat)×Int)):Prop:=
 ∀(a:Col) (c:World),Hd.At a c f
theorem SH(e:Col)(f:World)(g:∀b,e b<10):Hd.At e f Hd:=by
 intro c w a
 rw [Hd] at a
 refine A0 Tryz.func117 rfl Tryz.ntmps117 rfl fun B h y=>Sr<|Va (Cx (((0,0):Nat×Nat)))<|Va (I 0)<|AA<|AZ<|Sr<|Vm<|Bi a fun n o a=>Ca (KL [Cx c] rfl) (Ct e f o) ?_
 rintro _ p ⟨l,rfl,m⟩
 refine ⟨_,rfl,?_⟩
 refine Vr (.bool (!n))<|AA<|Cn a (fun q a=>?_) fun q a=>?_
 refine Sr<|Va (Cx (((0,0):Nat×Nat)))<|Va (I 3)<|AA<|AT ?_
 obtain rfl:=AP a
 refine Ax (B:=B) h (EC rfl (.tmp rfl) (.tmp rfl) ?_)
 exact ⟨l,rfl,Ho (Mo [] m) g⟩
 refine WC.skip<|Sr<|Vm<|Vx (v:=Fl c.1) (Run.real rfl)<|Vm<|Vx (v:=Fl c.2) (Run.imag rfl)<|Vr (Fl (Op.negFloat .f64 c.2))<|Vx (v:=Cx ((c.1,(Op.negFloat .f64 c.2)))) (Run.complex rfl rfl)<|Bi a fun d r a=>Ca (PR [Cx ((c.1,(Op.negFloat .f64 c.2)))] rfl) (KA l p r) ?_
 rintro _ z ⟨s,rfl,u⟩
 refine ⟨_,rfl,?_⟩
 refine Vr (Cx d.1)<|Vr (I d.2)<|Va (Cx d.1)<|Va (I d.2)<|AA<|AT ?_
 obtain rfl:=AP a
 refine Ax (B:=B) h (EC rfl (.tmp rfl) (.tmp rfl) ?_)
 exact ⟨s,rfl,Ho (Tn (Mo [] m) u) g⟩
theorem TG:Hd.Spec Hd:=by
 intro a c h l d
 refine Calls.mono (SH (recol (see []) a) c (Az lbr a) d) ?_
 rintro m n ⟨e,f,g⟩
 exact ⟨glue [] c a e,f,Ad g Ay⟩
def I8.At(g:Col)(c:World)(f:(Nat×Nat)→(Nat×Nat)→Option ((Nat×Nat)×Int)):Prop:=
 ∀{d:(Nat×Nat)} {e:(Nat×Nat)} {a:(Nat×Nat)×Int},f d e=some a→
  Calls Tryz.prog 138 #[Cx d,Cx e] c fun h l=>∃(m:Col),h=.returned (.tuple #[Cx a.1,I a.2])∧AQ [] g c m l
def I8.Spec(f:(Nat×Nat)→(Nat×Nat)→Option ((Nat×Nat)×Int)):Prop:=
 ∀(a:Col) (c:World),I8.At a c f
theorem TH(d:Col)(l:World)(o:∀b,d b<10):I8.At d l I8:=by
 intro e f z a
 rw [I8] at a
 refine A0 Tryz.func138 rfl Tryz.ntmps138 rfl fun B p am=>Sr<|Va (Cx (((0,0):Nat×Nat)))<|Va (I 0)<|AA<|AZ<|Ao (fun aa m=>∃(q:Env) (g:Col) (n:Bool),aa=q.puts [(0,.complex .f64 e.1 e.2),(1,.complex .f64 f.1 f.2),(13,.bool n)]∧Kt e f n=some z∧AQ [] d l g m) ?_ ?_
 refine AO<|Vm<|Bi a fun ab ac a=>Ca (KL [Cx e] rfl) (Ct d l ac) ?_
 rintro _ ad ⟨r,rfl,s⟩
 refine ⟨_,rfl,?_⟩
 refine Vr (.bool (!ab))<|Vm<|Bo a (fun c a=>?_) fun c a=>?_
 refine Pg c<|Pg c<|Pg c<|Vp c<|AA<|⟨_,r,true,Pu,a,(Mo [] s)⟩
 refine Gm c<|Bi a fun u ae a=>CI (.guard (t:=false) (b:=false) rfl rfl rfl rfl (Cb c)) rfl rfl (KL [Cx f] rfl)<|Calls.mono (Ct r ad ae) ?_
 rintro _ an ⟨af,rfl,ag⟩
 refine ⟨_,rfl,?_⟩
 refine Gr c (.bool (!u))<|Vp c<|AA<|⟨_,af,(!u),Pu,a,(Tn (Mo [] s) ag)⟩
 rintro _ m ⟨q,g,n,rfl,a,w⟩
 rw [Kt] at a
 refine Cn a (fun ah a=>?_) fun ah a=>?_
 refine Sr<|Va (Cx (((0,0):Nat×Nat)))<|Va (I 3)<|AA<|AT ?_
 obtain rfl:=AP a
 refine Ax (B:=B) p (EC rfl (.tmp rfl) (.tmp rfl) ?_)
 exact ⟨g,rfl,Ho (Mo [] w) o⟩
 refine WC.skip<|Sr<|Vm<|Vm<|Bi a fun y ai a=>Vx (v:=Cx y) (Run.cadd rfl rfl ai)<|Bi a fun h aj a=>Ca (PR [Cx y] rfl) (KA g m aj) ?_
 rintro _ ao ⟨ak,rfl,al⟩
 refine ⟨_,rfl,?_⟩
 refine Vr (Cx h.1)<|Vr (I h.2)<|Va (Cx h.1)<|Va (I h.2)<|AA<|AT ?_
 obtain rfl:=AP a
 refine Ax (B:=B) p (EC rfl (.tmp rfl) (.tmp rfl) ?_)
 exact ⟨ak,rfl,Ho (Tn (Mo [] w) al) o⟩
theorem UO:I8.Spec I8:=by
 intro a c h l m d
 refine Calls.mono (TH (recol (see []) a) c (Az lbr a) d) ?_
 rintro n o ⟨e,f,g⟩
 exact ⟨glue [] c a e,f,Ad g Ay⟩
def I9.At(g:Col)(c:World)(f:(Nat×Nat)→(Nat×Nat)→Option ((Nat×Nat)×Int)):Prop:=
 ∀{d:(Nat×Nat)} {e:(Nat×Nat)} {a:(Nat×Nat)×Int},f d e=some a→
  Calls Tryz.prog 139 #[Cx d,Cx e] c fun h l=>∃(m:Col),h=.returned (.tuple #[Cx a.1,I a.2])∧AQ [] g c m l
def I9.Spec(f:(Nat×Nat)→(Nat×Nat)→Option ((Nat×Nat)×Int)):Prop:=
 ∀(a:Col) (c:World),I9.At a c f
theorem TI(d:Col)(l:World)(o:∀b,d b<10):I9.At d l I9:=by
 intro e f z a
 rw [I9] at a
 refine A0 Tryz.func139 rfl Tryz.ntmps139 rfl fun B p am=>Sr<|Va (Cx (((0,0):Nat×Nat)))<|Va (I 0)<|AA<|AZ<|Ao (fun aa m=>∃(q:Env) (g:Col) (n:Bool),aa=q.puts [(0,.complex .f64 e.1 e.2),(1,.complex .f64 f.1 f.2),(13,.bool n)]∧Ku e f n=some z∧AQ [] d l g m) ?_ ?_
 refine AO<|Vm<|Bi a fun ab ac a=>Ca (KL [Cx e] rfl) (Ct d l ac) ?_
 rintro _ ad ⟨r,rfl,s⟩
 refine ⟨_,rfl,?_⟩
 refine Vr (.bool (!ab))<|Vm<|Bo a (fun c a=>?_) fun c a=>?_
 refine Pg c<|Pg c<|Pg c<|Vp c<|AA<|⟨_,r,true,Pu,a,(Mo [] s)⟩
 refine Gm c<|Bi a fun u ae a=>CI (.guard (t:=false) (b:=false) rfl rfl rfl rfl (Cb c)) rfl rfl (KL [Cx f] rfl)<|Calls.mono (Ct r ad ae) ?_
 rintro _ an ⟨af,rfl,ag⟩
 refine ⟨_,rfl,?_⟩
 refine Gr c (.bool (!u))<|Vp c<|AA<|⟨_,af,(!u),Pu,a,(Tn (Mo [] s) ag)⟩
 rintro _ m ⟨q,g,n,rfl,a,w⟩
 rw [Ku] at a
 refine Cn a (fun ah a=>?_) fun ah a=>?_
 refine Sr<|Va (Cx (((0,0):Nat×Nat)))<|Va (I 3)<|AA<|AT ?_
 obtain rfl:=AP a
 refine Ax (B:=B) p (EC rfl (.tmp rfl) (.tmp rfl) ?_)
 exact ⟨g,rfl,Ho (Mo [] w) o⟩
 refine WC.skip<|Sr<|Vm<|Vm<|Bi a fun y ai a=>Vx (v:=Cx y) (Run.csub rfl rfl ai)<|Bi a fun h aj a=>Ca (PR [Cx y] rfl) (KA g m aj) ?_
 rintro _ ao ⟨ak,rfl,al⟩
 refine ⟨_,rfl,?_⟩
 refine Vr (Cx h.1)<|Vr (I h.2)<|Va (Cx h.1)<|Va (I h.2)<|AA<|AT ?_
 obtain rfl:=AP a
 refine Ax (B:=B) p (EC rfl (.tmp rfl) (.tmp rfl) ?_)
 exact ⟨ak,rfl,Ho (Tn (Mo [] w) al) o⟩
theorem UP:I9.Spec I9:=by
 intro a c h l m d
 refine Calls.mono (TI (recol (see []) a) c (Az lbr a) d) ?_
 rintro n o ⟨e,f,g⟩
 exact ⟨glue [] c a e,f,Ad g Ay⟩
def JA.At(g:Col)(c:World)(f:(Nat×Nat)→(Nat×Nat)→Option ((Nat×Nat)×Int)):Prop:=
 ∀{d:(Nat×Nat)} {e:(Nat×Nat)} {a:(Nat×Nat)×Int},f d e=some a→
  Calls Tryz.prog 140 #[Cx d,Cx e] c fun h l=>∃(m:Col),h=.returned (.tuple #[Cx a.1,I a.2])∧AQ [] g c m l
def JA.Spec(f:(Nat×Nat)→(Nat×Nat)→Option ((Nat×Nat)×Int)):Prop:=
 ∀(a:Col) (c:World),JA.At a c f
theorem TJ(d:Col)(l:World)(o:∀b,d b<10):JA.At d l JA:=by
 intro e f z a
 rw [JA] at a
 refine A0 Tryz.func140 rfl Tryz.ntmps140 rfl fun B p am=>Sr<|Va (Cx (((0,0):Nat×Nat)))<|Va (I 0)<|AA<|AZ<|Ao (fun aa m=>∃(q:Env) (g:Col) (n:Bool),aa=q.puts [(0,.complex .f64 e.1 e.2),(1,.complex .f64 f.1 f.2),(13,.bool n)]∧Kv e f n=some z∧AQ [] d l g m) ?_ ?_
 refine AO<|Vm<|Bi a fun ab ac a=>Ca (KL [Cx e] rfl) (Ct d l ac) ?_
 rintro _ ad ⟨r,rfl,s⟩
 refine ⟨_,rfl,?_⟩
 refine Vr (.bool (!ab))<|Vm<|Bo a (fun c a=>?_) fun c a=>?_
 refine Pg c<|Pg c<|Pg c<|Vp c<|AA<|⟨_,r,true,Pu,a,(Mo [] s)⟩
 refine Gm c<|Bi a fun u ae a=>CI (.guard (t:=false) (b:=false) rfl rfl rfl rfl (Cb c)) rfl rfl (KL [Cx f] rfl)<|Calls.mono (Ct r ad ae) ?_
 rintro _ an ⟨af,rfl,ag⟩
 refine ⟨_,rfl,?_⟩
 refine Gr c (.bool (!u))<|Vp c<|AA<|⟨_,af,(!u),Pu,a,(Tn (Mo [] s) ag)⟩
 rintro _ m ⟨q,g,n,rfl,a,w⟩
 rw [Kv] at a
 refine Cn a (fun ah a=>?_) fun ah a=>?_
 refine Sr<|Va (Cx (((0,0):Nat×Nat)))<|Va (I 3)<|AA<|AT ?_
 obtain rfl:=AP a
 refine Ax (B:=B) p (EC rfl (.tmp rfl) (.tmp rfl) ?_)
 exact ⟨g,rfl,Ho (Mo [] w) o⟩
 refine WC.skip<|Sr<|Vm<|Vm<|Bi a fun y ai a=>Vx (v:=Cx y) (Run.cmul rfl rfl ai)<|Bi a fun h aj a=>Ca (PR [Cx y] rfl) (KA g m aj) ?_
 rintro _ ao ⟨ak,rfl,al⟩
 refine ⟨_,rfl,?_⟩
 refine Vr (Cx h.1)<|Vr (I h.2)<|Va (Cx h.1)<|Va (I h.2)<|AA<|AT ?_
 obtain rfl:=AP a
 refine Ax (B:=B) p (EC rfl (.tmp rfl) (.tmp rfl) ?_)
 exact ⟨ak,rfl,Ho (Tn (Mo [] w) al) o⟩
theorem UQ:JA.Spec JA:=by
 intro a c h l m d
 refine Calls.mono (TJ (recol (see []) a) c (Az lbr a) d) ?_
 rintro n o ⟨e,f,g⟩
 exact ⟨glue [] c a e,f,Ad g Ay⟩
def Hj.At(e:Col)(a:World)(f:Nat→Option Nat):Prop:=
 ∀{c:Nat} {d:Nat},f c=some d→
  Calls Tryz.prog 145 #[Fl c] a fun g h=>∃(l:Col),g=.returned (Fl d)∧AQ [] e a l h
def Hj.Spec(f:Nat→Option Nat):Prop:=
 ∀(a:Col) (c:World),Hj.At a c f
theorem UR(c:Col)(e:World)(f:∀b,c b<10):Hj.At c e Hj:=by
 intro a h d
 rw [Hj] at d
 refine A0 Tryz.func145 rfl Tryz.ntmps145 rfl fun B g l=>Sr<|Va (Fl (0:Nat))<|AA<|Sr<|Vm<|Vx (v:=.int .u64 ((a:Nat):Int)) (OF (vs:=[Fl a]) rfl rfl)<|Vr (.int .u64 (Ce .u64 ((a:Nat):Int) 9223372036854775808))<|Vx (v:=Fl (((Ce .u64 ((a:Nat):Int) 9223372036854775808)).toNat)) (P6 (vs:=[.int .u64 (Ce .u64 ((a:Nat):Int) 9223372036854775808)]) rfl rfl)<|Va (Fl (((Ce .u64 ((a:Nat):Int) 9223372036854775808)).toNat))<|AA<|AT ?_
 obtain rfl:=AP d
 refine Ax (B:=B) g (BG rfl (.tmp rfl) ?_)
 exact ⟨c,rfl,Ho (AQ.refl [] _ _) f⟩
theorem OT:Hj.Spec Hj:=by
 intro a c h l d
 refine Calls.mono (UR (recol (see []) a) c (Az lbr a) d) ?_
 rintro m n ⟨e,f,g⟩
 exact ⟨glue [] c a e,f,Ad g Ay⟩
def Gs.At(g:Col)(a:World)(f:Nat→Int→Option Bool):Prop:=
 ∀{c:Nat} {d:Int} {e:Bool},f c d=some e→
  Calls Tryz.prog 152 #[Fl c,I d] a fun h l=>∃(m:Col),h=.returned (.bool e)∧AQ [] g a m l
def Gs.Spec(f:Nat→Int→Option Bool):Prop:=
 ∀(a:Col) (c:World),Gs.At a c f
theorem SI(c:Col)(f:World)(o:∀b,c b<10):Gs.At c f Gs:=by
 intro d h p a
 rw [Gs] at a
 refine A0 Tryz.func152 rfl Tryz.ntmps152 rfl fun B q ab=>Sr<|Va (.bool false)<|AA<|Ao (fun r l=>∃(m:Env) (g:Col) (e:Nat),r=m.puts [(0,.float .f64 e)]∧Jk e=some p∧AQ [] c f g l) ?_ ?_
 refine Sr<|Vm<|Vr (.bool (h==0))<|AA<|Cn a (fun s a=>?_) fun s a=>?_
 refine AO<|Vm<|Bi a fun n u a=>Ca (T9 [Fl d] rfl) (OT c f u) ?_
 rintro _ ac ⟨w,rfl,y⟩
 refine ⟨_,rfl,?_⟩
 refine Va (Fl n)<|AA<|⟨_,w,n,Pu,a,(Mo [] y)⟩
 refine Sr<|Vm<|Vr (.bool (decide (h<0)))<|AA<|Cn a (fun z a=>?_) fun z a=>?_
 refine AO<|Vm<|Vr (Fl (Op.negFloat .f64 d))<|Va (Fl (Op.negFloat .f64 d))<|AA<|⟨_,c,(Op.negFloat .f64 d),Pu,a,(AQ.refl [] _ _)⟩
 refine WC.skip<|⟨_,c,d,Pu,a,(AQ.refl [] _ _)⟩
 rintro _ l ⟨m,g,e,rfl,a,aa⟩
 rw [Jk] at a
 refine Sr<|Vm<|Vr (.bool (fgt e (9218868437227405311:Nat)))<|Va (.bool (fgt e (9218868437227405311:Nat)))<|AA<|AT ?_
 obtain rfl:=AP a
 refine Ax (B:=B) q (BG rfl (.tmp rfl) ?_)
 exact ⟨g,rfl,Ho (Mo [] aa) o⟩
theorem Mu:Gs.Spec Gs:=by
 intro a c h l m d
 refine Calls.mono (SI (recol (see []) a) c (Az lbr a) d) ?_
 rintro n o ⟨e,f,g⟩
 exact ⟨glue [] c a e,f,Ad g Ay⟩
def GJ.At(e:Col)(a:World)(f:Nat→Option Bool):Prop:=
 ∀{c:Nat} {d:Bool},f c=some d→
  Calls Tryz.prog 153 #[Fl c] a fun g h=>∃(l:Col),g=.returned (.bool d)∧AQ [] e a l h
def GJ.Spec(f:Nat→Option Bool):Prop:=
 ∀(a:Col) (c:World),GJ.At a c f
theorem SJ(c:Col)(e:World)(f:∀b,c b<10):GJ.At c e GJ:=by
 intro a h d
 rw [GJ] at d
 refine A0 Tryz.func153 rfl Tryz.ntmps153 rfl fun B g l=>Sr<|Va (.bool false)<|AA<|Sr<|Vm<|Vm<|Vr (.bool (fne a a))<|Va (.bool (fne a a))<|AA<|AT ?_
 obtain rfl:=AP d
 refine Ax (B:=B) g (BG rfl (.tmp rfl) ?_)
 exact ⟨c,rfl,Ho (AQ.refl [] _ _) f⟩
theorem Lb:GJ.Spec GJ:=by
 intro a c h l d
 refine Calls.mono (SJ (recol (see []) a) c (Az lbr a) d) ?_
 rintro m n ⟨e,f,g⟩
 exact ⟨glue [] c a e,f,Ad g Ay⟩
def Kw.At(d:Col)(a:World)(f:Option Nat):Prop:=
 ∀{c:Nat},f=some c→
  Calls Tryz.prog 154 #[] a fun e g=>∃(h:Col),e=.returned (Fl c)∧AQ [] d a h g
def Kw.Spec(f:Option Nat):Prop:=
 ∀(a:Col) (c:World),Kw.At a c f
theorem US(a:Col)(d:World)(e:∀b,a b<10):Kw.At a d Kw:=by
 intro g c
 rw [Kw] at c
 refine A0 Tryz.func154 rfl Tryz.ntmps154 rfl fun B f h=>Sr<|Va (Fl (0:Nat))<|AA<|Sr<|Vx (v:=Fl ((9221120237041090561:Int).toNat)) (P6 (vs:=[.int .u64 9221120237041090561]) rfl rfl)<|Va (Fl ((9221120237041090561:Int).toNat))<|AA<|AT ?_
 obtain rfl:=AP c
 refine Ax (B:=B) f (BG rfl (.tmp rfl) ?_)
 exact ⟨a,rfl,Ho (AQ.refl [] _ _) e⟩
theorem U8:Kw.Spec Kw:=by
 intro a c h d
 refine Calls.mono (US (recol (see []) a) c (Az lbr a) d) ?_
 rintro l m ⟨e,f,g⟩
 exact ⟨glue [] c a e,f,Ad g Ay⟩
def EI.At(e:Col)(c:World)(f:Nat→Option (Nat×Int)):Prop:=
 ∀{d:Nat} {a:Nat×Int},f d=some a→
  Calls Tryz.prog 164 #[Fl d] c fun g h=>∃(l:Col),g=.returned (.tuple #[Fl a.1,I a.2])∧AQ [] e c l h
def EI.Spec(f:Nat→Option (Nat×Int)):Prop:=
 ∀(a:Col) (c:World),EI.At a c f
theorem PC(c:Col)(d:World)(e:∀b,c b<10):EI.At c d EI:=by
 intro f r a
 rw [EI] at a
 refine A0 Tryz.func164 rfl Tryz.ntmps164 rfl fun B g s=>Sr<|Va (Fl (0:Nat))<|Va (I 0)<|AA<|AZ<|Sr<|Vm<|Bi a fun n o a=>Ca (T9 [Fl f] rfl) (OT c d o) ?_
 rintro _ u ⟨h,rfl,l⟩
 refine ⟨_,rfl,?_⟩
 refine Vr (.bool (flt_ n (4503599627370496:Nat)))<|AA<|Cn a (fun p a=>?_) fun p a=>?_
 refine Sr<|Vm<|Bi a fun m q a=>Vx (v:=Fl m) (Run.fmul rfl rfl q)<|Va (Fl m)<|Va (I (-52:Int))<|AA<|AT ?_
 obtain rfl:=AP a
 refine Ax (B:=B) g (EC rfl (.tmp rfl) (.tmp rfl) ?_)
 exact ⟨h,rfl,Ho (Mo [] l) e⟩
 refine WC.skip<|Sr<|Vm<|Va (Fl f)<|Va (I 0)<|AA<|AT ?_
 obtain rfl:=AP a
 refine Ax (B:=B) g (EC rfl (.tmp rfl) (.tmp rfl) ?_)
 exact ⟨h,rfl,Ho (Mo [] l) e⟩
theorem MZ:EI.Spec EI:=by
 intro a c h l d
 refine Calls.mono (PC (recol (see []) a) c (Az lbr a) d) ?_
 rintro m n ⟨e,f,g⟩
 exact ⟨glue [] c a e,f,Ad g Ay⟩
def In.At(e:Col)(c:World)(f:Nat→Option (Nat×Int)):Prop:=
 ∀{d:Nat} {a:Nat×Int},f d=some a→
  Calls Tryz.prog 159 #[Fl d] c fun g h=>∃(l:Col),g=.returned (.tuple #[Fl a.1,I a.2])∧AQ [] e c l h
def In.Spec(f:Nat→Option (Nat×Int)):Prop:=
 ∀(a:Col) (c:World),In.At a c f
theorem SK(f:Col)(h:World)(l:∀b,f b<10):In.At f h In:=by
 intro d w a
 rw [In] at a
 refine A0 Tryz.func159 rfl Tryz.ntmps159 rfl fun B m ak=>Sr<|Va (Fl (0:Nat))<|Va (I 0)<|AA<|AZ<|Aj<|Sr<|Vm<|Vr (.bool (feq d (0:Nat)))<|Va (.bool (feq d (0:Nat)))<|AA<|Cn a (fun y a=>?_) fun y a=>?_
 refine Sr<|Vm<|Va (Fl d)<|Va (I 0)<|AA<|AT ?_
 obtain rfl:=AP a
 refine Ax (B:=B) m (EC rfl (.tmp rfl) (.tmp rfl) ?_)
 exact ⟨f,rfl,Ho (AQ.refl [] _ _) l⟩
 refine Ao (fun z n=>∃(p:Env) (g:Col) (o:Bool),z=p.puts [(0,.float .f64 d),(9,.bool o)]∧KN d o=some w∧AQ [] f h g n) ?_ ?_
 refine AO<|Vm<|Bi a fun al aa a=>Ca (UA [Fl d,I 0] rfl) (Mu f h aa) ?_
 rintro _ ab ⟨q,rfl,r⟩
 refine ⟨_,rfl,?_⟩
 refine Vm<|Bo a (fun e a=>?_) fun e a=>?_
 refine Pg e<|Pg e<|Vp e<|Va (.bool true)<|AA<|⟨_,q,true,Pu,a,(Mo [] r)⟩
 refine Gm e<|Bi a fun s ac a=>CI (.guard (t:=false) (b:=false) rfl rfl rfl rfl (Cb e)) rfl rfl (RL [Fl d] rfl)<|Calls.mono (Lb q ab ac) ?_
 rintro _ am ⟨ad,rfl,ae⟩
 refine ⟨_,rfl,?_⟩
 refine Vp e<|Va (.bool s)<|AA<|⟨_,ad,s,Pu,a,(Tn (Mo [] r) ae)⟩
 rintro _ n ⟨p,g,o,rfl,a,u⟩
 rw [KN] at a
 refine Cn a (fun af a=>?_) fun af a=>?_
 refine Sr<|Vm<|Va (Fl d)<|Va (I 0)<|AA<|AT ?_
 obtain rfl:=AP a
 refine Ax (B:=B) m (EC rfl (.tmp rfl) (.tmp rfl) ?_)
 exact ⟨g,rfl,Ho (Mo [] u) l⟩
 refine WC.skip<|Sr<|Vm<|Bi a fun c ag a=>Ca (WU [Fl d] rfl) (MZ g n ag) ?_
 rintro _ an ⟨ah,rfl,ai⟩
 refine ⟨_,rfl,?_⟩
 refine Vm<|Vr (Fl c.1)<|Vr (I c.2)<|Va (Fl c.1)<|Va (I c.2)<|AA<|Sr<|Vm<|Vx (v:=.int .u64 ((c.1:Nat):Int)) (OF (vs:=[Fl c.1]) rfl rfl)<|Va (.int .u64 ((c.1:Nat):Int))<|AA<|Sr<|Vm<|Vm<|Bi a fun ao aj a=>Vx (v:=.int .u64 (shr .u64 ((c.1:Nat):Int) 52)) (Run.shr rfl rfl (Ty aj))<|Vr (.int .u64 (EZ .u64 (shr .u64 ((c.1:Nat):Int) 52) 2047))<|Vr (I (Wr (EZ .u64 (shr .u64 ((c.1:Nat):Int) 52) 2047)))<|Vr (I (Wr ((Wr (EZ .u64 (shr .u64 ((c.1:Nat):Int) 52) 2047)) - 1023)))<|Vr (I (Wr ((Wr ((Wr (EZ .u64 (shr .u64 ((c.1:Nat):Int) 52) 2047)) - 1023))+1)))<|Vr (I (Wr (c.2+(Wr ((Wr ((Wr (EZ .u64 (shr .u64 ((c.1:Nat):Int) 52) 2047)) - 1023))+1)))))<|Va (I (Wr (c.2+(Wr ((Wr ((Wr (EZ .u64 (shr .u64 ((c.1:Nat):Int) 52) 2047)) - 1023))+1)))))<|AA<|Sr<|Vm<|Vr (.int .u64 (Ce .u64 ((c.1:Nat):Int) 9218868437227405312))<|Va (.int .u64 (Ce .u64 ((c.1:Nat):Int) 9218868437227405312))<|AA<|Sr<|Vm<|Vr (.int .u64 (LG .u64 (Ce .u64 ((c.1:Nat):Int) 9218868437227405312) 4602678819172646912))<|Va (.int .u64 (LG .u64 (Ce .u64 ((c.1:Nat):Int) 9218868437227405312) 4602678819172646912))<|AA<|Sr<|Vm<|Vx (v:=Fl (((LG .u64 (Ce .u64 ((c.1:Nat):Int) 9218868437227405312) 4602678819172646912)).toNat)) (P6 (vs:=[.int .u64 (LG .u64 (Ce .u64 ((c.1:Nat):Int) 9218868437227405312) 4602678819172646912)]) rfl rfl)<|Va (Fl (((LG .u64 (Ce .u64 ((c.1:Nat):Int) 9218868437227405312) 4602678819172646912)).toNat))<|AA<|AT ?_
 obtain rfl:=AP a
 refine Ax (B:=B) m (EC rfl (.tmp rfl) (.tmp rfl) ?_)
 exact ⟨ah,rfl,Ho (Tn (Mo [] u) ai) l⟩
theorem TK:In.Spec In:=by
 intro a c h l d
 refine Calls.mono (SK (recol (see []) a) c (Az lbr a) d) ?_
 rintro m n ⟨e,f,g⟩
 exact ⟨glue [] c a e,f,Ad g Ay⟩
def He.At(e:Col)(c:World)(f:Nat→Option (Nat×Int)):Prop:=
 ∀{d:Nat} {a:Nat×Int},f d=some a→
  Calls Tryz.prog 155 #[Fl d] c fun g h=>∃(l:Col),g=.returned (.tuple #[Fl a.1,I a.2])∧AQ [] e c l h
def He.Spec(f:Nat→Option (Nat×Int)):Prop:=
 ∀(a:Col) (c:World),He.At a c f
theorem SL(d:Col)(e:World)(f:∀b,d b<10):He.At d e He:=by
 intro g p a
 rw [He] at a
 refine A0 Tryz.func155 rfl Tryz.ntmps155 rfl fun B l q=>Sr<|Va (Fl (0:Nat))<|Va (I 0)<|AA<|AZ<|WC.cond (t:=false) rfl (fun h=>by cases h) (fun h=>?_)
 refine WC.skip<|Sr<|Vm<|Bi a fun c m a=>Ca (ZQ [Fl g] rfl) (TK d e m) ?_
 rintro _ r ⟨n,rfl,o⟩
 refine ⟨_,rfl,?_⟩
 refine Vr (Fl c.1)<|Vr (I c.2)<|Va (Fl c.1)<|Va (I c.2)<|AA<|AT ?_
 obtain rfl:=AP a
 refine Ax (B:=B) l (EC rfl (.tmp rfl) (.tmp rfl) ?_)
 exact ⟨n,rfl,Ho (Mo [] o) f⟩
theorem O2:He.Spec He:=by
 intro a c h l d
 refine Calls.mono (SL (recol (see []) a) c (Az lbr a) d) ?_
 rintro m n ⟨e,f,g⟩
 exact ⟨glue [] c a e,f,Ad g Ay⟩
def G4.At(g:Col)(a:World)(f:Nat→Nat→Option Nat):Prop:=
 ∀{c:Nat} {d:Nat} {e:Nat},f c d=some e→
  Calls Tryz.prog 146 #[Fl c,Fl d] a fun h l=>∃(m:Col),h=.returned (Fl e)∧AQ [] g a m l
def G4.Spec(f:Nat→Nat→Option Nat):Prop:=
 ∀(a:Col) (c:World),G4.At a c f
theorem Pa(d:Col)(f:World)(g:∀b,d b<10):G4.At d f G4:=by
 intro a c l e
 rw [G4] at e
 refine A0 Tryz.func146 rfl Tryz.ntmps146 rfl fun B h m=>Sr<|Va (Fl (0:Nat))<|AA<|Sr<|Vm<|Vx (v:=.int .u64 ((a:Nat):Int)) (OF (vs:=[Fl a]) rfl rfl)<|Vr (.int .u64 (Ce .u64 ((a:Nat):Int) 9223372036854775808))<|Vm<|Vx (v:=.int .u64 ((c:Nat):Int)) (OF (vs:=[Fl c]) rfl rfl)<|Vr (.int .u64 (EZ .u64 ((c:Nat):Int) 9223372036854775808))<|Vr (.int .u64 (LG .u64 (Ce .u64 ((a:Nat):Int) 9223372036854775808) (EZ .u64 ((c:Nat):Int) 9223372036854775808)))<|Vx (v:=Fl (((LG .u64 (Ce .u64 ((a:Nat):Int) 9223372036854775808) (EZ .u64 ((c:Nat):Int) 9223372036854775808))).toNat)) (P6 (vs:=[.int .u64 (LG .u64 (Ce .u64 ((a:Nat):Int) 9223372036854775808) (EZ .u64 ((c:Nat):Int) 9223372036854775808))]) rfl rfl)<|Va (Fl (((LG .u64 (Ce .u64 ((a:Nat):Int) 9223372036854775808) (EZ .u64 ((c:Nat):Int) 9223372036854775808))).toNat))<|AA<|AT ?_
 obtain rfl:=AP e
 refine Ax (B:=B) h (BG rfl (.tmp rfl) ?_)
 exact ⟨d,rfl,Ho (AQ.refl [] _ _) g⟩
theorem QF:G4.Spec G4:=by
 intro a c h l m d
 refine Calls.mono (Pa (recol (see []) a) c (Az lbr a) d) ?_
 rintro n o ⟨e,f,g⟩
 exact ⟨glue [] c a e,f,Ad g Ay⟩
def KO.At(e:Col)(a:World)(f:Int→Option Nat):Prop:=
 ∀{c:Int} {d:Nat},f c=some d→
  Calls Tryz.prog 165 #[I c] a fun g h=>∃(l:Col),g=.returned (Fl d)∧AQ [] e a l h
def KO.Spec(f:Int→Option Nat):Prop:=
 ∀(a:Col) (c:World),KO.At a c f
theorem UT(d:Col)(f:World)(l:∀b,d b<10):KO.At d f KO:=by
 intro m n a
 rw [KO] at a
 refine A0 Tryz.func165 rfl Tryz.ntmps165 rfl fun B o s=>Sr<|Va (Fl (0:Nat))<|AA<|Sr<|Va (.int .u64 0)<|AA<|Ao (fun p g=>∃(h:Env) (e:Col) (c:Int),p=h.puts [(3,.int .u64 c)]∧MR c=some n∧AQ [] d f e g) ?_ ?_
 refine Sr<|Vm<|Vr (.bool (decide (m≥0)))<|AA<|Cn a (fun q a=>?_) fun q a=>?_
 refine AO<|Va (.int .u64 9218868437227405312)<|AA<|⟨_,d,9218868437227405312,Pu,a,(AQ.refl [] _ _)⟩
 refine AO<|Va (.int .u64 18442240474082181120)<|AA<|⟨_,d,18442240474082181120,Pu,a,(AQ.refl [] _ _)⟩
 rintro _ g ⟨h,e,c,rfl,a,r⟩
 rw [MR] at a
 refine Sr<|Vm<|Vx (v:=Fl (c.toNat)) (P6 (vs:=[.int .u64 c]) rfl rfl)<|Va (Fl (c.toNat))<|AA<|AT ?_
 obtain rfl:=AP a
 refine Ax (B:=B) o (BG rfl (.tmp rfl) ?_)
 exact ⟨e,rfl,Ho (Mo [] r) l⟩
theorem QZ:KO.Spec KO:=by
 intro a c h l d
 refine Calls.mono (UT (recol (see []) a) c (Az lbr a) d) ?_
 rintro m n ⟨e,f,g⟩
 exact ⟨glue [] c a e,f,Ad g Ay⟩
def Io.At(g:Col)(a:World)(f:Nat→Int→Option Nat):Prop:=
 ∀{c:Nat} {d:Int} {e:Nat},f c d=some e→
  Calls Tryz.prog 161 #[Fl c,I d] a fun h l=>∃(m:Col),h=.returned (Fl e)∧AQ [] g a m l
def Io.Spec(f:Nat→Int→Option Nat):Prop:=
 ∀(a:Col) (c:World),Io.At a c f
theorem SM(n:Col)(u:World)(h:∀b,n b<10):Io.At n u Io:=by
 intro f d ac a
 rw [Io] at a
 refine A0 Tryz.func161 rfl Tryz.ntmps161 rfl fun B l bc=>Sr<|Va (Fl (0:Nat))<|AA<|AZ<|Aj<|Sr<|Vm<|Vr (.bool (feq f (0:Nat)))<|Va (.bool (feq f (0:Nat)))<|AA<|Cn a (fun ai a=>?_) fun ai a=>?_
 refine Sr<|Vm<|Va (Fl f)<|AA<|AT ?_
 obtain rfl:=AP a
 refine Ax (B:=B) l (BG rfl (.tmp rfl) ?_)
 exact ⟨n,rfl,Ho (AQ.refl [] _ _) h⟩
 refine Ao (fun w y=>∃(o:Env) (q:Col) (z:Bool),w=o.puts [(0,.float .f64 f),(1,.int .i64 d),(12,.bool z)]∧KQ f d z=some ac∧AQ [] n u q y) ?_ ?_
 refine AO<|Vm<|Bi a fun bd aj a=>Ca (UA [Fl f,I 0] rfl) (Mu n u aj) ?_
 rintro _ ak ⟨ad,rfl,ae⟩
 refine ⟨_,rfl,?_⟩
 refine Vm<|Bo a (fun g a=>?_) fun g a=>?_
 refine Pg g<|Pg g<|Vp g<|Va (.bool true)<|AA<|⟨_,ad,true,Pu,a,(Mo [] ae)⟩
 refine Gm g<|Bi a fun af al a=>CI (.guard (t:=false) (b:=false) rfl rfl rfl rfl (Cb g)) rfl rfl (RL [Fl f] rfl)<|Calls.mono (Lb ad ak al) ?_
 rintro _ be ⟨am,rfl,an⟩
 refine ⟨_,rfl,?_⟩
 refine Vp g<|Va (.bool af)<|AA<|⟨_,am,af,Pu,a,(Tn (Mo [] ae) an)⟩
 rintro _ y ⟨o,q,z,rfl,a,p⟩
 rw [KQ] at a
 refine Cn a (fun ao a=>?_) fun ao a=>?_
 refine Sr<|Vm<|Va (Fl f)<|AA<|AT ?_
 obtain rfl:=AP a
 refine Ax (B:=B) l (BG rfl (.tmp rfl) ?_)
 exact ⟨q,rfl,Ho (Mo [] p) h⟩
 refine WC.skip<|Sr<|Vm<|Bi a fun c ap a=>Ca (WU [Fl f] rfl) (MZ q y ap) ?_
 rintro _ r ⟨m,rfl,s⟩
 refine ⟨_,rfl,?_⟩
 refine Vm<|Vr (Fl c.1)<|Vr (I c.2)<|Va (Fl c.1)<|Va (I c.2)<|AA<|Sr<|Vm<|Vm<|Vr (I (Wr (d+c.2)))<|Va (I (Wr (d+c.2)))<|AA<|Sr<|Vm<|Vx (v:=.int .u64 ((c.1:Nat):Int)) (OF (vs:=[Fl c.1]) rfl rfl)<|Va (.int .u64 ((c.1:Nat):Int))<|AA<|Sr<|Vm<|Vm<|Bi a fun bf aq a=>Vx (v:=.int .u64 (shr .u64 ((c.1:Nat):Int) 52)) (Run.shr rfl rfl (Ty aq))<|Vr (I (Wr (shr .u64 ((c.1:Nat):Int) 52)))<|Vr (I (EZ .i64 (Wr (shr .u64 ((c.1:Nat):Int) 52)) 2047))<|Vr (I (Wr ((EZ .i64 (Wr (shr .u64 ((c.1:Nat):Int) 52)) 2047) - 1023)))<|Vr (I (Wr ((Wr (d+c.2))+(Wr ((EZ .i64 (Wr (shr .u64 ((c.1:Nat):Int) 52)) 2047) - 1023)))))<|Va (I (Wr ((Wr (d+c.2))+(Wr ((EZ .i64 (Wr (shr .u64 ((c.1:Nat):Int) 52)) 2047) - 1023)))))<|AA<|AZ<|Sr<|Vm<|Vr (.bool (decide ((Wr ((Wr (d+c.2))+(Wr ((EZ .i64 (Wr (shr .u64 ((c.1:Nat):Int) 52)) 2047) - 1023))))< (-1075:Int))))<|AA<|Cn a (fun ar a=>?_) fun ar a=>?_
 refine Sr<|Vm<|Bi a fun au av a=>Ca (ZM [Fl (0:Nat),Fl c.1] rfl) (QF m r av) ?_
 rintro _ bg ⟨aw,rfl,ax⟩
 refine ⟨_,rfl,?_⟩
 refine Va (Fl au)<|AA<|AT ?_
 obtain rfl:=AP a
 refine Ax (B:=B) l (BG rfl (.tmp rfl) ?_)
 exact ⟨aw,rfl,Ho (T2 (Mo [] p) s ax) h⟩
 refine WC.skip<|AZ<|Sr<|Vm<|Vr (.bool (decide ((Wr ((Wr (d+c.2))+(Wr ((EZ .i64 (Wr (shr .u64 ((c.1:Nat):Int) 52)) 2047) - 1023))))>1023)))<|AA<|Cn a (fun ay a=>?_) fun ay a=>?_
 refine AZ<|Sr<|Vm<|Vr (.bool (flt_ c.1 (0:Nat)))<|AA<|Cn a (fun az a=>?_) fun az a=>?_
 refine Sr<|Bi a fun a0 a1 a=>Ca (WV [I (-1:Int)] rfl) (QZ m r a1) ?_
 rintro _ bh ⟨a2,rfl,a3⟩
 refine ⟨_,rfl,?_⟩
 refine Va (Fl a0)<|AA<|AT ?_
 obtain rfl:=AP a
 refine Ax (B:=B) l (BG rfl (.tmp rfl) ?_)
 exact ⟨a2,rfl,Ho (T2 (Mo [] p) s a3) h⟩
 refine WC.skip<|Sr<|Bi a fun a4 a5 a=>Ca (WV [I 1] rfl) (QZ m r a5) ?_
 rintro _ bi ⟨a6,rfl,a7⟩
 refine ⟨_,rfl,?_⟩
 refine Va (Fl a4)<|AA<|AT ?_
 obtain rfl:=AP a
 refine Ax (B:=B) l (BG rfl (.tmp rfl) ?_)
 exact ⟨a6,rfl,Ho (T2 (Mo [] p) s a7) h⟩
 refine WC.skip<|Sr<|Va (Fl (4607182418800017408:Nat))<|AA<|Ao (fun w ag=>∃(o:Env) (aa:Col) (e:Int) (ab:Nat),w=o.puts [(1,.int .i64 e),(6,.int .u64 ((c.1:Nat):Int)),(7,.float .f64 ab)]∧KP c e ab=some ac∧AQ [] m r aa ag) ?_ ?_
 refine Sr<|Vm<|Vr (.bool (decide ((Wr ((Wr (d+c.2))+(Wr ((EZ .i64 (Wr (shr .u64 ((c.1:Nat):Int) 52)) 2047) - 1023))))< (-1022:Int))))<|AA<|Cn a (fun a8 a=>?_) fun a8 a=>?_
 refine Sr<|Vm<|Vr (I (Wr ((Wr ((Wr (d+c.2))+(Wr ((EZ .i64 (Wr (shr .u64 ((c.1:Nat):Int) 52)) 2047) - 1023))))+53)))<|Va (I (Wr ((Wr ((Wr (d+c.2))+(Wr ((EZ .i64 (Wr (shr .u64 ((c.1:Nat):Int) 52)) 2047) - 1023))))+53)))<|AA<|AO<|Va (Fl (4368491638549381120:Nat))<|AA<|⟨_,m,(Wr ((Wr ((Wr (d+c.2))+(Wr ((EZ .i64 (Wr (shr .u64 ((c.1:Nat):Int) 52)) 2047) - 1023))))+53)),(4368491638549381120:Nat),Pu,a,(AQ.refl [] _ _)⟩
 refine WC.skip<|⟨_,m,(Wr ((Wr (d+c.2))+(Wr ((EZ .i64 (Wr (shr .u64 ((c.1:Nat):Int) 52)) 2047) - 1023)))),(4607182418800017408:Nat),Pu,a,(AQ.refl [] _ _)⟩
 rintro _ ag ⟨o,aa,e,ab,rfl,a,a9⟩
 rw [KP] at a
 refine Sr<|Vm<|Vr (.int .u64 (Ce .u64 ((c.1:Nat):Int) 9218868437227405312))<|Va (.int .u64 (Ce .u64 ((c.1:Nat):Int) 9218868437227405312))<|AA<|Sr<|Vm<|Vm<|Vr (I (Wr (e+1023)))<|Vr (.int .u64 (IntKind.u64.wrap (Wr (e+1023))))<|Bi a fun bj ba a=>Vx (v:=.int .u64 (shl .u64 (IntKind.u64.wrap (Wr (e+1023))) 52)) (Run.shl rfl rfl (Ty ba))<|Vr (.int .u64 (LG .u64 (Ce .u64 ((c.1:Nat):Int) 9218868437227405312) (shl .u64 (IntKind.u64.wrap (Wr (e+1023))) 52)))<|Va (.int .u64 (LG .u64 (Ce .u64 ((c.1:Nat):Int) 9218868437227405312) (shl .u64 (IntKind.u64.wrap (Wr (e+1023))) 52)))<|AA<|Sr<|Vm<|Vm<|Vx (v:=Fl (((LG .u64 (Ce .u64 ((c.1:Nat):Int) 9218868437227405312) (shl .u64 (IntKind.u64.wrap (Wr (e+1023))) 52))).toNat)) (P6 (vs:=[.int .u64 (LG .u64 (Ce .u64 ((c.1:Nat):Int) 9218868437227405312) (shl .u64 (IntKind.u64.wrap (Wr (e+1023))) 52))]) rfl rfl)<|Bi a fun ah bb a=>Vx (v:=Fl ah) (Run.fmul rfl rfl bb)<|Va (Fl ah)<|AA<|AT ?_
 obtain rfl:=AP a
 refine Ax (B:=B) l (BG rfl (.tmp rfl) ?_)
 exact ⟨aa,rfl,Ho (T2 (Mo [] p) s a9) h⟩
theorem TL:Io.Spec Io:=by
 intro a c h l m d
 refine Calls.mono (SM (recol (see []) a) c (Az lbr a) d) ?_
 rintro n o ⟨e,f,g⟩
 exact ⟨glue [] c a e,f,Ad g Ay⟩
def IE.At(g:Col)(a:World)(f:Nat→Int→Option Nat):Prop:=
 ∀{c:Nat} {d:Int} {e:Nat},f c d=some e→
  Calls Tryz.prog 156 #[Fl c,I d] a fun h l=>∃(m:Col),h=.returned (Fl e)∧AQ [] g a m l
def IE.Spec(f:Nat→Int→Option Nat):Prop:=
 ∀(a:Col) (c:World),IE.At a c f
theorem SN(c:Col)(d:World)(e:∀b,c b<10):IE.At c d IE:=by
 intro f g q a
 rw [IE] at a
 refine A0 Tryz.func156 rfl Tryz.ntmps156 rfl fun B l r=>Sr<|Va (Fl (0:Nat))<|AA<|AZ<|WC.cond (t:=false) rfl (fun h=>by cases h) (fun h=>?_)
 refine WC.skip<|Sr<|Vm<|Vm<|Bi a fun m n a=>Ca (ZR [Fl f,I g] rfl) (TL c d n) ?_
 rintro _ s ⟨o,rfl,p⟩
 refine ⟨_,rfl,?_⟩
 refine Va (Fl m)<|AA<|AT ?_
 obtain rfl:=AP a
 refine Ax (B:=B) l (BG rfl (.tmp rfl) ?_)
 exact ⟨o,rfl,Ho (Mo [] p) e⟩
theorem TM:IE.Spec IE:=by
 intro a c h l m d
 refine Calls.mono (SN (recol (see []) a) c (Az lbr a) d) ?_
 rintro n o ⟨e,f,g⟩
 exact ⟨glue [] c a e,f,Ad g Ay⟩
def KR.At(g:Col)(a:World)(f:Nat→Nat→Option Nat):Prop:=
 ∀{c:Nat} {d:Nat} {e:Nat},f c d=some e→
  Calls Tryz.prog 150 #[Fl c,Fl d] a fun h l=>∃(m:Col),h=.returned (Fl e)∧AQ [] g a m l
def KR.Spec(f:Nat→Nat→Option Nat):Prop:=
 ∀(a:Col) (c:World),KR.At a c f
theorem UU(z:Nat)(u:Col)(ag:World)(aq:∀b,u b<10):KR.At u ag (KR z):=by
 intro c w q a
 rw [KR] at a
 refine A0 Tryz.func150 rfl Tryz.ntmps150 rfl fun B ar b2=>Sr<|Va (Fl (0:Nat))<|AA<|AZ<|Ao (fun h aa=>∃(e:Env) (ab:Col) (ah:Bool),h=e.puts [(0,.float .f64 c),(1,.float .f64 w),(23,.bool ah)]∧J1 z c w ah=some q∧AQ [] u ag ab aa) ?_ ?_
 refine AO<|Vm<|Vr (.bool (feq w (0:Nat)))<|Vm<|Bo a (fun n a=>?_) fun n a=>?_
 refine Pg n<|Pg n<|Vp n<|Vm<|Pg rfl<|Pg rfl<|Vr (.bool true)<|Vm<|Pg rfl<|Pg rfl<|Vr (.bool true)<|AA<|⟨_,u,true,Pu,a,(AQ.refl [] _ _)⟩
 refine Gm n<|Bi a fun b3 a1 a=>CI (.guard (t:=false) (b:=false) rfl rfl rfl rfl (Cb n)) rfl rfl (UA [Fl c,I 0] rfl)<|Calls.mono (Mu u ag a1) ?_
 rintro _ a2 ⟨au,rfl,ai⟩
 refine ⟨_,rfl,?_⟩
 refine Vp n<|Vm<|Bo a (fun o a=>?_) fun o a=>?_
 refine Pg o<|Pg o<|Vp o<|Vm<|Pg rfl<|Pg rfl<|Vr (.bool true)<|AA<|⟨_,au,true,Pu,a,(Mo [] ai)⟩
 refine Gm o<|Bi a fun b4 a3 a=>CI (.guard (t:=false) (b:=false) rfl rfl rfl rfl (Cb o)) rfl rfl (RL [Fl c] rfl)<|Calls.mono (Lb au a2 a3) ?_
 rintro _ a4 ⟨av,rfl,aw⟩
 refine ⟨_,rfl,?_⟩
 refine Vp o<|Vm<|Bo a (fun p a=>?_) fun p a=>?_
 refine Pg p<|Pg p<|Vp p<|AA<|⟨_,av,true,Pu,a,(Tn (Mo [] ai) aw)⟩
 refine Gm p<|Bi a fun a5 a6 a=>CI (.guard (t:=false) (b:=false) rfl rfl rfl rfl (Cb p)) rfl rfl (RL [Fl w] rfl)<|Calls.mono (Lb av a4 a6) ?_
 rintro _ b5 ⟨a7,rfl,a8⟩
 refine ⟨_,rfl,?_⟩
 refine Vp p<|AA<|⟨_,a7,a5,Pu,a,(T2 (Mo [] ai) aw a8)⟩
 rintro _ aa ⟨e,ab,ah,rfl,a,ax⟩
 rw [J1] at a
 refine Cn a (fun a9 a=>?_) fun a9 a=>?_
 refine Sr<|Bi a fun ba bb a=>Ca (ZO [] rfl) (U8 ab aa bb) ?_
 rintro _ b6 ⟨bc,rfl,bd⟩
 refine ⟨_,rfl,?_⟩
 refine Va (Fl ba)<|AA<|AT ?_
 obtain rfl:=AP a
 refine Ax (B:=B) ar (BG rfl (.tmp rfl) ?_)
 exact ⟨bc,rfl,Ho (Tn (Mo [] ax) bd) aq⟩
 refine WC.skip<|Sr<|Vm<|Bi a fun f be a=>Ca (T9 [Fl w] rfl) (OT ab aa be) ?_
 rintro _ bf ⟨bg,rfl,bh⟩
 refine ⟨_,rfl,?_⟩
 refine Va (Fl f)<|AA<|Sr<|Vm<|Bi a fun d bi a=>Ca (WR [Fl f] rfl) (O2 bg bf bi) ?_
 rintro _ bj ⟨aj,rfl,bk⟩
 refine ⟨_,rfl,?_⟩
 refine Vm<|Vr (Fl d.1)<|Vr (I d.2)<|Va (Fl d.1)<|Va (I d.2)<|AA<|Sr<|Vm<|Va (Fl c)<|AA<|Ao (fun h ak=>∃(e:Env) (ac:Col) (ad:Nat),h=e.puts [(0,.float .f64 c),(1,.float .f64 f),(5,.float .f64 d.1),(6,.int .i64 d.2),(7,.float .f64 ad)]∧Km z c f d ad=some q∧AQ [] aj bj ac ak) ?_ ?_
 refine Sr<|Vm<|Vr (.bool (flt_ c (0:Nat)))<|AA<|Cn a (fun bl a=>?_) fun bl a=>?_
 refine AO<|Vm<|Vr (Fl (Op.negFloat .f64 c))<|Va (Fl (Op.negFloat .f64 c))<|AA<|⟨_,aj,(Op.negFloat .f64 c),Pu,a,(AQ.refl [] _ _)⟩
 refine WC.skip<|⟨_,aj,c,Pu,a,(AQ.refl [] _ _)⟩
 rintro _ ak ⟨e,ac,ad,rfl,a,bm⟩
 rw [Km] at a
 refine AZ<|Aj<|Bt (fun m h ae=>∃(e:Env) (r:Col) (g:Nat),h=e.puts [(0,.float .f64 c),(1,.float .f64 f),(5,.float .f64 d.1),(6,.int .i64 d.2),(7,.float .f64 g)]∧JM c f d m g=some q∧AQ [] ac ak r ae) z ?_ ?_
 exact ⟨_,ac,ad,Pu,a,(AQ.refl [] _ _)⟩
 rintro m _ ae ⟨e,r,g,rfl,a,ay⟩
 rcases m with _|m
 exact BC a
 refine have a:Kx c f d (JM c f d m) g=some q:=a; ?_
 obtain ⟨bn,az⟩:∃s,s=JM c f d m:=⟨_,rfl⟩
 rw [←az,Kx] at a
 refine AZ<|Sr<|Vm<|Vm<|Vr (.bool (fge g f))<|AA<|Cn a (fun bo a=>?_) fun bo a=>?_
 refine WC.skip<|Aj<|Sr<|Vm<|Bi a fun l bp a=>Ca (WR [Fl g] rfl) (O2 r ae bp) ?_
 rintro _ bq ⟨al,rfl,br⟩
 refine ⟨_,rfl,?_⟩
 refine Vm<|Vr (Fl l.1)<|Vr (I l.2)<|Va (Fl l.1)<|Va (I l.2)<|AA<|Ao (fun h am=>∃(e:Env) (an:Col) (y:Int),h=e.puts [(0,.float .f64 c),(1,.float .f64 f),(5,.float .f64 d.1),(6,.int .i64 d.2),(7,.float .f64 g),(9,.int .i64 y)]∧J0 f d g bn y=some q∧AQ [] al bq an am) ?_ ?_
 refine Sr<|Vm<|Vm<|Vr (.bool (flt_ l.1 d.1))<|AA<|Cn a (fun bt a=>?_) fun bt a=>?_
 refine AO<|Vm<|Vr (I (Wr (l.2 - 1)))<|Va (I (Wr (l.2 - 1)))<|AA<|⟨_,al,(Wr (l.2 - 1)),Pu,a,(AQ.refl [] _ _)⟩
 refine WC.skip<|⟨_,al,l.2,Pu,a,(AQ.refl [] _ _)⟩
 rintro _ am ⟨e,an,y,rfl,a,bu⟩
 rw [J0] at a
 refine AO<|Vm<|Vm<|Vm<|Vm<|Vr (I (Wr (y - d.2)))<|Bi a fun b7 bv a=>Ca (ZP [Fl f,I (Wr (y - d.2))] rfl) (TM an am bv) ?_
 rintro _ b8 ⟨bw,rfl,bx⟩
 refine ⟨_,rfl,?_⟩
 refine Bi a fun ao bz a=>Vx (v:=Fl ao) (Run.fsub rfl rfl bz)<|Va (Fl ao)<|AA<|⟨m,Nat.lt_succ_self m,_,bw,ao,Pu,(az▸a),(T3 (Mo [] ay) br bu bx)⟩
 refine Bc<|Ao (fun h a0=>∃(e:Env) (ap:Col) (af:Nat),h=e.puts [(7,.float .f64 af)]∧MS af=some q∧AQ [] r ae ap a0) ?_ ?_
 refine Sr<|Vm<|Vr (.bool (flt_ c (0:Nat)))<|AA<|Cn a (fun b0 a=>?_) fun b0 a=>?_
 refine AO<|Vm<|Vr (Fl (Op.negFloat .f64 g))<|Va (Fl (Op.negFloat .f64 g))<|AA<|⟨_,r,(Op.negFloat .f64 g),Pu,a,(AQ.refl [] _ _)⟩
 refine WC.skip<|⟨_,r,g,Pu,a,(AQ.refl [] _ _)⟩
 rintro _ a0 ⟨e,ap,af,rfl,a,b1⟩
 rw [MS] at a
 refine Sr<|Vm<|Va (Fl af)<|AA<|AT ?_
 obtain rfl:=AP a
 refine Ax (B:=B) ar (BG rfl (.tmp rfl) ?_)
 exact ⟨ap,rfl,Ho (Tn (T4 (Mo [] ax) bh bk bm ay) b1) aq⟩
theorem U9(c:Nat):KR.Spec (KR c):=by
 intro a d l m n e
 refine Calls.mono (UU c (recol (see []) a) d (Az lbr a) e) ?_
 rintro o p ⟨f,g,h⟩
 exact ⟨glue [] d a f,g,Ad h Ay⟩
def JZ.At(g:Col)(a:World)(f:Nat→Nat→Option Nat):Prop:=
 ∀{c:Nat} {d:Nat} {e:Nat},f c d=some e→
  Calls Tryz.prog 147 #[Fl c,Fl d] a fun h l=>∃(m:Col),h=.returned (Fl e)∧AQ [] g a m l
def JZ.Spec(f:Nat→Nat→Option Nat):Prop:=
 ∀(a:Col) (c:World),JZ.At a c f
theorem UV(d:Nat)(c:Col)(e:World)(f:∀b,c b<10):JZ.At c e (JZ d):=by
 intro g l r a
 rw [JZ] at a
 refine A0 Tryz.func147 rfl Tryz.ntmps147 rfl fun B m s=>Sr<|Va (Fl (0:Nat))<|AA<|AZ<|WC.cond (t:=false) rfl (fun h=>by cases h) (fun h=>?_)
 refine WC.skip<|Sr<|Vm<|Vm<|Bi a fun n o a=>Ca (ZN [Fl g,Fl l] rfl) (U9 d c e o) ?_
 rintro _ u ⟨p,rfl,q⟩
 refine ⟨_,rfl,?_⟩
 refine Va (Fl n)<|AA<|AT ?_
 obtain rfl:=AP a
 refine Ax (B:=B) m (BG rfl (.tmp rfl) ?_)
 exact ⟨p,rfl,Ho (Mo [] q) f⟩
theorem Qa(c:Nat):JZ.Spec (JZ c):=by
 intro a d l m n e
 refine Calls.mono (UV c (recol (see []) a) d (Az lbr a) e) ?_
 rintro o p ⟨f,g,h⟩
 exact ⟨glue [] d a f,g,Ad h Ay⟩
def JB.At(g:Col)(c:World)(f:(Nat×Nat)→(Nat×Nat)→Option ((Nat×Nat)×Int)):Prop:=
 ∀{d:(Nat×Nat)} {e:(Nat×Nat)} {a:(Nat×Nat)×Int},f d e=some a→
  Calls Tryz.prog 141 #[Cx d,Cx e] c fun h l=>∃(m:Col),h=.returned (.tuple #[Cx a.1,I a.2])∧AQ [] g c m l
def JB.Spec(f:(Nat×Nat)→(Nat×Nat)→Option ((Nat×Nat)×Int)):Prop:=
 ∀(a:Col) (c:World),JB.At a c f
theorem TN(m:Nat)(n:Col)(y:World)(o:∀b,n b<10):JB.At n y (JB m):=by
 intro p c ag a
 rw [JB] at a
 refine A0 Tryz.func141 rfl Tryz.ntmps141 rfl fun B q bb=>Sr<|Va (Cx (((0,0):Nat×Nat)))<|Va (I 0)<|AA<|AZ<|Aj<|Ao (fun z r=>∃(l:Env) (h:Col) (aa:Bool),z=l.puts [(0,.complex .f64 p.1 p.2),(1,.complex .f64 c.1 c.2),(9,.bool aa)]∧Kz m p c aa=some ag∧AQ [] n y h r) ?_ ?_
 refine AO<|Vm<|Bi a fun an ao a=>Ca (KL [Cx p] rfl) (Ct n y ao) ?_
 rintro _ ap ⟨ah,rfl,ai⟩
 refine ⟨_,rfl,?_⟩
 refine Vr (.bool (!an))<|Vm<|Bo a (fun f a=>?_) fun f a=>?_
 refine Pg f<|Pg f<|Pg f<|Vp f<|Va (.bool true)<|AA<|⟨_,ah,true,Pu,a,(Mo [] ai)⟩
 refine Gm f<|Bi a fun ab aq a=>CI (.guard (t:=false) (b:=false) rfl rfl rfl rfl (Cb f)) rfl rfl (KL [Cx c] rfl)<|Calls.mono (Ct ah ap aq) ?_
 rintro _ bc ⟨ar,rfl,au⟩
 refine ⟨_,rfl,?_⟩
 refine Gr f (.bool (!ab))<|Vp f<|Va (.bool (!ab))<|AA<|⟨_,ar,(!ab),Pu,a,(Tn (Mo [] ai) au)⟩
 rintro _ r ⟨l,h,aa,rfl,a,s⟩
 rw [Kz] at a
 refine Cn a (fun av a=>?_) fun av a=>?_
 refine Sr<|Va (Cx (((0,0):Nat×Nat)))<|Va (I 3)<|AA<|AT ?_
 obtain rfl:=AP a
 refine Ax (B:=B) q (EC rfl (.tmp rfl) (.tmp rfl) ?_)
 exact ⟨h,rfl,Ho (Mo [] s) o⟩
 refine Sr<|Vm<|Vx (v:=.bool (ceq c ((0,0):Nat×Nat))) (Run.ceq rfl rfl)<|Va (.bool (ceq c ((0,0):Nat×Nat)))<|AA<|Cn a (fun aw a=>?_) fun aw a=>?_
 refine Sr<|Va (Cx (((0,0):Nat×Nat)))<|Va (I 51)<|AA<|AT ?_
 obtain rfl:=AP a
 refine Ax (B:=B) q (EC rfl (.tmp rfl) (.tmp rfl) ?_)
 exact ⟨h,rfl,Ho (Mo [] s) o⟩
 refine WC.skip<|Sr<|Vm<|Vx (v:=Fl c.1) (Run.real rfl)<|Vm<|Vx (v:=Fl c.2) (Run.imag rfl)<|Vr (Fl (Op.negFloat .f64 c.2))<|Vx (v:=Cx ((c.1,(Op.negFloat .f64 c.2)))) (Run.complex rfl rfl)<|Va (Cx ((c.1,(Op.negFloat .f64 c.2))))<|AA<|Sr<|Vm<|Vm<|Bi a fun e ax a=>Vx (v:=Cx e) (Run.cmul rfl rfl ax)<|Vm<|Vm<|Bi a fun g ay a=>Vx (v:=Cx g) (Run.cmul rfl rfl ay)<|Vx (v:=Fl g.1) (Run.real rfl)<|Va (Cx e)<|Va (Fl g.1)<|AA<|AZ<|Ao (fun z ac=>∃(l:Env) (u:Col) (ad:Bool),z=l.puts [(7,.complex .f64 e.1 e.2),(8,.float .f64 g.1),(45,.bool ad)]∧Ky e g ad=some ag∧AQ [] h r u ac) ?_ ?_
 refine AO<|Vm<|Vx (v:=Fl e.1) (Run.real rfl)<|Vm<|Bi a fun az a0 a=>Ca (WN [Fl e.1,Fl g.1] rfl) (Qa m h r a0) ?_
 rintro _ a1 ⟨aj,rfl,ak⟩
 refine ⟨_,rfl,?_⟩
 refine Vr (.bool (fne az (0:Nat)))<|Vm<|Bo a (fun d a=>?_) fun d a=>?_
 refine Pg d<|Pg d<|Pg d<|Pg d<|Pg d<|Vp d<|AA<|⟨_,aj,true,Pu,a,(Mo [] ak)⟩
 refine Gm d<|Gx d (v:=Fl e.2) (Run.imag rfl)<|Gm d<|Bi a fun al a2 a=>CI (.guard (t:=false) (b:=false) rfl rfl rfl rfl (Cb d)) rfl rfl (WN [Fl e.2,Fl g.1] rfl)<|Calls.mono (Qa m aj a1 a2) ?_
 rintro _ bd ⟨a3,rfl,a4⟩
 refine ⟨_,rfl,?_⟩
 refine Gr d (.bool (fne al (0:Nat)))<|Vp d<|AA<|⟨_,a3,(fne al (0:Nat)),Pu,a,(Tn (Mo [] ak) a4)⟩
 rintro _ ac ⟨l,u,ad,rfl,a,am⟩
 rw [Ky] at a
 refine Cn a (fun a5 a=>?_) fun a5 a=>?_
 refine Sr<|Va (Cx (((0,0):Nat×Nat)))<|Va (I 51)<|AA<|AT ?_
 obtain rfl:=AP a
 refine Ax (B:=B) q (EC rfl (.tmp rfl) (.tmp rfl) ?_)
 exact ⟨u,rfl,Ho (Tn (Mo [] s) am) o⟩
 refine WC.skip<|Sr<|Vm<|Vx (v:=Fl e.1) (Run.real rfl)<|Vm<|Bi a fun ae a6 a=>Vx (v:=Fl ae) (Run.fdiv rfl rfl a6)<|Vm<|Vx (v:=Fl e.2) (Run.imag rfl)<|Vm<|Bi a fun af a7 a=>Vx (v:=Fl af) (Run.fdiv rfl rfl a7)<|Vx (v:=Cx ((ae,af))) (Run.complex rfl rfl)<|Bi a fun w a8 a=>Ca (PR [Cx ((ae,af))] rfl) (KA u ac a8) ?_
 rintro _ be ⟨a9,rfl,ba⟩
 refine ⟨_,rfl,?_⟩
 refine Vr (Cx w.1)<|Vr (I w.2)<|Va (Cx w.1)<|Va (I w.2)<|AA<|AT ?_
 obtain rfl:=AP a
 refine Ax (B:=B) q (EC rfl (.tmp rfl) (.tmp rfl) ?_)
 exact ⟨a9,rfl,Ho (T2 (Mo [] s) am ba) o⟩
theorem UW(c:Nat):JB.Spec (JB c):=by
 intro a d l m n e
 refine Calls.mono (TN c (recol (see []) a) d (Az lbr a) e) ?_
 rintro o p ⟨f,g,h⟩
 exact ⟨glue [] d a f,g,Ad h Ay⟩
def IF.At(g:Col)(c:World)(f:(Nat×Nat)→(Nat×Nat)→Option (Bool×Int)):Prop:=
 ∀{d:(Nat×Nat)} {e:(Nat×Nat)} {a:Bool×Int},f d e=some a→
  Calls Tryz.prog 142 #[Cx d,Cx e] c fun h l=>∃(m:Col),h=.returned (.tuple #[.bool a.1,I a.2])∧AQ [] g c m l
def IF.Spec(f:(Nat×Nat)→(Nat×Nat)→Option (Bool×Int)):Prop:=
 ∀(a:Col) (c:World),IF.At a c f
theorem SO(g:Col)(h:World)(l:∀b,g b<10):IF.At g h IF:=by
 intro c d w a
 rw [IF] at a
 refine A0 Tryz.func142 rfl Tryz.ntmps142 rfl fun B m ah=>Sr<|Va (.bool false)<|Va (I 0)<|AA<|AZ<|Ao (fun y p=>∃(q:Env) (f:Col) (n:Bool),y=q.puts [(0,.complex .f64 c.1 c.2),(1,.complex .f64 d.1 d.2),(13,.bool n)]∧KS c d n=some w∧AQ [] g h f p) ?_ ?_
 refine AO<|Vm<|Bi a fun z aa a=>Ca (KL [Cx c] rfl) (Ct g h aa) ?_
 rintro _ ab ⟨r,rfl,s⟩
 refine ⟨_,rfl,?_⟩
 refine Vr (.bool (!z))<|Vm<|Bo a (fun e a=>?_) fun e a=>?_
 refine Pg e<|Pg e<|Pg e<|Vp e<|AA<|⟨_,r,true,Pu,a,(Mo [] s)⟩
 refine Gm e<|Bi a fun u ac a=>CI (.guard (t:=false) (b:=false) rfl rfl rfl rfl (Cb e)) rfl rfl (KL [Cx d] rfl)<|Calls.mono (Ct r ab ac) ?_
 rintro _ ai ⟨ad,rfl,ae⟩
 refine ⟨_,rfl,?_⟩
 refine Gr e (.bool (!u))<|Vp e<|AA<|⟨_,ad,(!u),Pu,a,(Tn (Mo [] s) ae)⟩
 rintro _ p ⟨q,f,n,rfl,a,o⟩
 rw [KS] at a
 refine Cn a (fun af a=>?_) fun af a=>?_
 refine Sr<|Va (.bool false)<|Va (I 3)<|AA<|AT ?_
 obtain rfl:=AP a
 refine Ax (B:=B) m (EC rfl (.tmp rfl) (.tmp rfl) ?_)
 exact ⟨f,rfl,Ho (Mo [] o) l⟩
 refine WC.skip<|AZ<|Sr<|Vm<|Vx (v:=Fl c.1) (Run.real rfl)<|Vm<|Vx (v:=Fl d.1) (Run.real rfl)<|Vr (.bool (fne c.1 d.1))<|AA<|Cn a (fun ag a=>?_) fun ag a=>?_
 refine Sr<|Vm<|Vx (v:=Fl c.1) (Run.real rfl)<|Vm<|Vx (v:=Fl d.1) (Run.real rfl)<|Vr (.bool (flt_ c.1 d.1))<|Va (.bool (flt_ c.1 d.1))<|Va (I 0)<|AA<|AT ?_
 obtain rfl:=AP a
 refine Ax (B:=B) m (EC rfl (.tmp rfl) (.tmp rfl) ?_)
 exact ⟨f,rfl,Ho (Mo [] o) l⟩
 refine WC.skip<|Sr<|Vm<|Vx (v:=Fl c.2) (Run.imag rfl)<|Vm<|Vx (v:=Fl d.2) (Run.imag rfl)<|Vr (.bool (flt_ c.2 d.2))<|Va (.bool (flt_ c.2 d.2))<|Va (I 0)<|AA<|AT ?_
 obtain rfl:=AP a
 refine Ax (B:=B) m (EC rfl (.tmp rfl) (.tmp rfl) ?_)
 exact ⟨f,rfl,Ho (Mo [] o) l⟩
theorem TO:IF.Spec IF:=by
 intro a c h l m d
 refine Calls.mono (SO (recol (see []) a) c (Az lbr a) d) ?_
 rintro n o ⟨e,f,g⟩
 exact ⟨glue [] c a e,f,Ad g Ay⟩
def Ja.At(n:Col)(c:World)(f:Int→(Nat×Nat)→(Nat×Nat)→Option (AI×Int)):Prop:=
 ∀{d:Int} {e:(Nat×Nat)} {g:(Nat×Nat)} {a:AI×Int},f d e g=some a→
  Calls Tryz.prog 118 #[I d,Cx e,Cx g] c fun o h=>∃(l:Col) (m:List Value),o=.returned (.tuple #[.agg m.toArray,I a.2])∧AQ [] n c l h∧A1.rep l.F h m a.1
def Ja.Spec(f:Int→(Nat×Nat)→(Nat×Nat)→Option (AI×Int)):Prop:=
 ∀(a:Col) (c:World),Ja.At a c f
theorem UX(ai:Nat)(z:Col)(a2:World)(m:∀b,z b<10):Ja.At z a2 (Ja ai):=by
 intro f g h ci a
 rw [Ja] at a
 refine A0 Tryz.func118 rfl Tryz.ntmps118 rfl fun B n cj=>Sr<|Ef (Aa z 20 FI rfl fun o r ck p q=>?_)
 refine Va (I 0)<|AA<|AZ<|Sr<|Vm<|AA<|Aj<|Sr<|Vr (.bool (f==8))<|Va (.bool (f==8))<|AA<|Cn a (fun a3 a=>?_) fun a3 a=>?_
 refine Sr<|Vm<|Vm<|Bi a fun s a4 a=>Ca (ZG [Cx g,Cx h] rfl) (UO o r a4) ?_
 rintro _ a5 ⟨a6,rfl,aj⟩
 refine ⟨_,rfl,?_⟩
 refine Vr (Cx s.1)<|Vr (I s.2)<|Bi a fun c a7 a=>Ca (NF [Cx s.1,I s.2] rfl) (IN a6 a5 a7) ?_
 rintro _ cl ⟨a8,cm,rfl,ak,a9⟩
 obtain ⟨cn,rfl,al⟩:=CU a9
 obtain ⟨aa,ab,rfl⟩:=AG al
 refine ⟨_,rfl,?_⟩
 refine Vr (.agg [I c.1.type_,Cx c.1.num,.bool c.1.bool,Sl aa c.1.list ab].toArray)<|Vr (I c.2)<|have ba:=Y2 p aj ak;Eu (St F6 ba rfl rfl rfl rfl fun co bb am=>?_)
 refine Va (I c.2)<|AA<|AT ?_
 obtain rfl:=AP a
 refine Ax (B:=B) n (EC rfl (.agg D9 rfl rfl (Bk.part bb 0 [I c.1.type_,Cx c.1.num,.bool c.1.bool,Sl aa c.1.list ab] rfl)) (.tmp rfl) ?_)
 refine have bc:=Ss Kd.cpx al am;⟨a8,[I c.1.type_,Cx c.1.num,.bool c.1.bool,Sl aa c.1.list ab],rfl,Ho (T3 (Mo [20] q) aj ak am) m,(BP (x:=c.1) bc)⟩
 refine Sr<|Vr (.bool (f==9))<|Va (.bool (f==9))<|AA<|Cn a (fun bd a=>?_) fun bd a=>?_
 refine Sr<|Vm<|Vm<|Bi a fun u be a=>Ca (ZH [Cx g,Cx h] rfl) (UP o r be) ?_
 rintro _ bf ⟨bg,rfl,an⟩
 refine ⟨_,rfl,?_⟩
 refine Vr (Cx u.1)<|Vr (I u.2)<|Bi a fun d bh a=>Ca (NF [Cx u.1,I u.2] rfl) (IN bg bf bh) ?_
 rintro _ cq ⟨bi,cr,rfl,ao,bj⟩
 obtain ⟨ct,rfl,ap⟩:=CU bj
 obtain ⟨ac,ad,rfl⟩:=AG ap
 refine ⟨_,rfl,?_⟩
 refine Vr (.agg [I d.1.type_,Cx d.1.num,.bool d.1.bool,Sl ac d.1.list ad].toArray)<|Vr (I d.2)<|have bk:=Y2 p an ao;Eu (St F6 bk rfl rfl rfl rfl fun cu bl aq=>?_)
 refine Va (I d.2)<|AA<|AT ?_
 obtain rfl:=AP a
 refine Ax (B:=B) n (EC rfl (.agg D9 rfl rfl (Bk.part bl 0 [I d.1.type_,Cx d.1.num,.bool d.1.bool,Sl ac d.1.list ad] rfl)) (.tmp rfl) ?_)
 refine have bm:=Ss Kd.cpx ap aq;⟨bi,[I d.1.type_,Cx d.1.num,.bool d.1.bool,Sl ac d.1.list ad],rfl,Ho (T3 (Mo [20] q) an ao aq) m,(BP (x:=d.1) bm)⟩
 refine Sr<|Vr (.bool (f==10))<|Va (.bool (f==10))<|AA<|Cn a (fun bn a=>?_) fun bn a=>?_
 refine Sr<|Vm<|Vm<|Bi a fun w bo a=>Ca (ZI [Cx g,Cx h] rfl) (UQ o r bo) ?_
 rintro _ bp ⟨bq,rfl,ar⟩
 refine ⟨_,rfl,?_⟩
 refine Vr (Cx w.1)<|Vr (I w.2)<|Bi a fun x63 br a=>Ca (NF [Cx w.1,I w.2] rfl) (IN bq bp br) ?_
 rintro _ cv ⟨bt,cw,rfl,au,bu⟩
 obtain ⟨cx,rfl,av⟩:=CU bu
 obtain ⟨ae,af,rfl⟩:=AG av
 refine ⟨_,rfl,?_⟩
 refine Vr (.agg [I x63.1.type_,Cx x63.1.num,.bool x63.1.bool,Sl ae x63.1.list af].toArray)<|Vr (I x63.2)<|have bv:=Y2 p ar au;Eu (St F6 bv rfl rfl rfl rfl fun cy bw aw=>?_)
 refine Va (I x63.2)<|AA<|AT ?_
 obtain rfl:=AP a
 refine Ax (B:=B) n (EC rfl (.agg D9 rfl rfl (Bk.part bw 0 [I x63.1.type_,Cx x63.1.num,.bool x63.1.bool,Sl ae x63.1.list af] rfl)) (.tmp rfl) ?_)
 refine have bx:=Ss Kd.cpx av aw;⟨bt,[I x63.1.type_,Cx x63.1.num,.bool x63.1.bool,Sl ae x63.1.list af],rfl,Ho (T3 (Mo [20] q) ar au aw) m,(BP (x:=x63.1) bx)⟩
 refine Sr<|Vr (.bool (f==11))<|Va (.bool (f==11))<|AA<|Cn a (fun bz a=>?_) fun bz a=>?_
 refine Sr<|Vm<|Vm<|Bi a fun y b0 a=>Ca (ZJ [Cx g,Cx h] rfl) (UW ai o r b0) ?_
 rintro _ b1 ⟨b2,rfl,ax⟩
 refine ⟨_,rfl,?_⟩
 refine Vr (Cx y.1)<|Vr (I y.2)<|Bi a fun e b3 a=>Ca (NF [Cx y.1,I y.2] rfl) (IN b2 b1 b3) ?_
 rintro _ cz ⟨b4,c0,rfl,ay,b5⟩
 obtain ⟨c1,rfl,az⟩:=CU b5
 obtain ⟨ag,ah,rfl⟩:=AG az
 refine ⟨_,rfl,?_⟩
 refine Vr (.agg [I e.1.type_,Cx e.1.num,.bool e.1.bool,Sl ag e.1.list ah].toArray)<|Vr (I e.2)<|have b6:=Y2 p ax ay;Eu (St F6 b6 rfl rfl rfl rfl fun c2 b7 a0=>?_)
 refine Va (I e.2)<|AA<|AT ?_
 obtain rfl:=AP a
 refine Ax (B:=B) n (EC rfl (.agg D9 rfl rfl (Bk.part b7 0 [I e.1.type_,Cx e.1.num,.bool e.1.bool,Sl ag e.1.list ah] rfl)) (.tmp rfl) ?_)
 refine have b8:=Ss Kd.cpx az a0;⟨b4,[I e.1.type_,Cx e.1.num,.bool e.1.bool,Sl ag e.1.list ah],rfl,Ho (T3 (Mo [20] q) ax ay a0) m,(BP (x:=e.1) b8)⟩
 refine Sr<|Vr (.bool (f==12))<|Va (.bool (f==12))<|AA<|Cn a (fun b9 a=>?_) fun b9 a=>?_
 refine Sr<|Vm<|Vm<|Vx (v:=.bool (ceq g h)) (Run.ceq rfl rfl)<|Vx (v:=.agg [I 2,Cx (((0,0):Nat×Nat)),.bool (ceq g h),.slice none 0 0].toArray) (Bp FI JI rfl (.cons rfl rfl rfl (.cons rfl rfl rfl .nil)))<|Eu (St F6 p rfl rfl rfl rfl fun c3 ca cb=>?_)
 refine Va (I 0)<|AA<|AT ?_
 obtain rfl:=AP a
 refine Ax (B:=B) n (EC rfl (.agg D9 rfl rfl (Bk.part ca 0 [I 2,Cx (((0,0):Nat×Nat)),.bool (ceq g h),.slice none 0 0] rfl)) (.tmp rfl) ?_)
 exact ⟨o,[I 2,Cx (((0,0):Nat×Nat)),.bool (ceq g h),.slice none 0 0],rfl,Ho (Tn (Mo [20] q) cb) m,(BP (x:=(AI.mk 2 ((0,0):Nat×Nat) (ceq g h) [])) CT)⟩
 refine WC.skip<|Sr<|Vm<|Vm<|Bi a fun l cc a=>Ca (ZK [Cx g,Cx h] rfl) (TO o r cc) ?_
 rintro _ c4 ⟨cd,rfl,a1⟩
 refine ⟨_,rfl,?_⟩
 refine Vm<|Vr (.bool l.1)<|Vr (I l.2)<|Va (.bool l.1)<|Va (I l.2)<|AA<|Sr<|Vm<|Vx (v:=.agg [I 2,Cx (((0,0):Nat×Nat)),.bool l.1,.slice none 0 0].toArray) (Bp FI JI rfl (.cons rfl rfl rfl (.cons rfl rfl rfl .nil)))<|Vm<|have cf:=Bs p a1;Eu (St F6 cf rfl rfl rfl rfl fun c5 cg ch=>?_)
 refine Va (I l.2)<|AA<|AT ?_
 obtain rfl:=AP a
 refine Ax (B:=B) n (EC rfl (.agg D9 rfl rfl (Bk.part cg 0 [I 2,Cx (((0,0):Nat×Nat)),.bool l.1,.slice none 0 0] rfl)) (.tmp rfl) ?_)
 exact ⟨cd,[I 2,Cx (((0,0):Nat×Nat)),.bool l.1,.slice none 0 0],rfl,Ho (T2 (Mo [20] q) a1 ch) m,(BP (x:=(AI.mk 2 ((0,0):Nat×Nat) l.1 [])) CT)⟩
theorem VA(c:Nat):Ja.Spec (Ja c):=by
 intro a d n o p q e
 refine Calls.mono (UX c (recol (see []) a) d (Az lbr a) e) ?_
 rintro r s ⟨f,g,h,l,m⟩
 exact ⟨glue [] d a f,g,h,Ad l Ay,BB A1 m⟩
def D0.At(d:Col)(a:World)(f:Int→(List AI)→Option (AI×Int)):Prop:=
 ∀{e:Int} {g:(List AI)} {h:Value} {c:AI×Int},f e g=some c→Slc A1 d.F a h g→
  Calls Tryz.prog 91 #[I e,h] a fun o l=>∃(m:Col) (n:List Value),o=.returned (.tuple #[.agg n.toArray,I c.2])∧AQ [] d a m l∧A1.rep m.F l n c.1
def D0.Spec(f:Int→(List AI)→Option (AI×Int)):Prop:=
 ∀(a:Col) (c:World),D0.At a c f
theorem SP(y:Nat)(ar:Col)(b4:World)(ae:∀b,ar b<10):D0.At ar b4 (D0 y):=by
 intro c d ek al a au
 rw [D0] at a
 obtain ⟨ah,ai,rfl⟩:=AG au
 refine A0 Tryz.func91 rfl Tryz.ntmps91 rfl fun B af el=>Sr<|Ef (Aa ar 20 FI rfl fun b5 b6 av ag z=>?_)
 refine Va (I 0)<|AA<|Sr<|Vm<|Bi a fun e b7 a=>Ca (Y9 [I c] rfl) (TF b5 b6 b7) ?_
 rintro _ b8 ⟨aw,rfl,f⟩
 refine ⟨_,rfl,?_⟩
 refine Vm<|Vr (I e.1)<|Vr (I e.2)<|Va (I e.1)<|Va (I e.2)<|AA<|AZ<|Ao (fun aj ax=>∃(ac:Env) (ak:Col) (ay:Bool),aj=ac.puts [(0,.int .i64 c),(1,.slice ah d.length ai),(4,.pointer (some ⟨av,0,none⟩)),(7,.int .i64 e.2),(23,.bool ay)]∧LY y c d e ay=some al∧AQ [] aw b8 ak ax) ?_ ?_
 refine AO<|Vm<|Vr (.bool (e.1==0))<|Vm<|Bo a (fun r a=>?_) fun r a=>?_
 refine Pg r<|Pg r<|Pg r<|Pg r<|Vp r<|AA<|⟨_,aw,true,Pu,a,(AQ.refl [] _ _)⟩
 refine Gm r<|have b9:=K2 A1 au z f; ?_
 obtain ⟨em,en,ca⟩:=AG b9
 refine Gx r (v:=I (d.length:Int)) (Run.lenSlc Kk ca)<|Gm r<|Gr r (.bool ((d.length:Int) != e.1))<|Vp r<|AA<|⟨_,aw,((d.length:Int) != e.1),Pu,a,(AQ.refl [] _ _)⟩
 rintro _ ax ⟨ac,ak,ay,rfl,a,g⟩
 rw [LY] at a
 refine Cn a (fun cb a=>?_) fun cb a=>?_
 refine Sr<|Vx (v:=.agg [I 0,Cx (((0,0):Nat×Nat)),.bool false,.slice none 0 0].toArray) (Bp FI JI rfl .nil)<|have cc:=Y2 ag f g;Eu (St F6 cc rfl rfl rfl rfl fun eo cd cf=>?_)
 refine Va (I 3)<|AA<|AT ?_
 obtain rfl:=AP a
 refine Ax (B:=B) af (EC rfl (.agg D9 rfl rfl (Bk.part cd 0 [I 0,Cx (((0,0):Nat×Nat)),.bool false,.slice none 0 0] rfl)) (.tmp rfl) ?_)
 exact ⟨ak,[I 0,Cx (((0,0):Nat×Nat)),.bool false,.slice none 0 0],rfl,Ho (T3 (Mo [20] z) f g cf) ae,(BP (x:=(AI.mk 0 ((0,0):Nat×Nat) false [])) CT)⟩
 refine WC.skip<|AZ<|Sr<|Vm<|have az:=K3 A1 au z f g; ?_
 obtain ⟨ep,eq,cg⟩:=AG az
 refine Vx (v:=I (d.length:Int)) (Run.lenSlc Kk cg)<|Vm<|AA<|Aj<|Bt (fun ad aj aa=>∃(ac:Env) (u:Col) (w:Int),aj=ac.puts [(0,.int .i64 c),(1,.slice ah d.length ai),(4,.pointer (some ⟨av,0,none⟩)),(7,.int .i64 e.2),(25,.slice ah d.length ai),(26,.int .i64 (d.length:Int)),(27,.int .i64 w)]∧DQ y c d e ad w=some al∧AQ [21] ak ax u aa) y ?_ ?_
 exact ⟨_,ak,0,Pu,a,(AQ.refl [21] _ _)⟩
 rintro ad _ aa ⟨ac,u,w,rfl,a,h⟩
 rcases ad with _|ad
 exact BC a
 refine have a:Cc y c d e (DQ y c d e ad) w=some al:=a; ?_
 obtain ⟨ch,bf⟩:∃s,s=DQ y c d e ad:=⟨_,rfl⟩
 rw [←bf,Cc] at a
 refine Sr<|Vr (.bool (decide (w< (d.length:Int))))<|AA<|AZ<|Cn a (fun ci a=>?_) fun ci a=>?_
 refine WC.skip<|AZ<|Aj<|Sr<|Bi a fun p cj a=>have ck:=Ss A1 az h; ?_
 obtain ⟨cl,cm,er,cn,co,cq,cr,ct,a0⟩:=BL (κ:=A1) ck cj
 replace a0:A8 u aa cl (cm+w.toNat*4) cn:=a0
 obtain ⟨es,rfl,bg⟩:=CU ct
 obtain ⟨a1,a2,rfl⟩:=AG bg
 refine Vx (Run.indexAddr Kk co rfl cq cr)<|Vx (Run.loadN D9 rfl rfl (A8.part0 a0 [I p.type_,Cx p.num,.bool p.bool,Sl a1 p.list a2] rfl))<|Ef (Aa u 21 FI rfl fun a3 et eu cu am=>?_)
 refine have cv:=Ss Kd.cpx bg am;Eu (St F6 cu rfl rfl rfl rfl fun bh bi an=>?_)
 refine AA<|Ao (fun aj bj=>∃(ac:Env) (ao:Col) (a4:Bool),aj=ac.puts [(0,.int .i64 c),(1,.slice ah d.length ai),(4,.pointer (some ⟨av,0,none⟩)),(7,.int .i64 e.2),(25,.slice ah d.length ai),(26,.int .i64 (d.length:Int)),(27,.int .i64 w),(39,.bool a4)]∧Hx w ch a4=some al∧AQ [] a3 bh ao bj) ?_ ?_
 refine AO<|Vx (Run.fieldAddr0 JH rfl)<|Vx (Run.load1 EA rfl (Bk.cell bi rfl))<|Vm<|Vr (.bool (p.type_ != e.2))<|Vm<|Bo a (fun ab a=>?_) fun ab a=>?_
 refine Pg ab<|Pg ab<|Pg ab<|Vp ab<|AA<|⟨_,a3,true,Pu,a,(AQ.refl [] _ _)⟩
 refine Gx ab (Run.loadN D9 rfl rfl (Bk.part bi 0 [I p.type_,Cx p.num,.bool p.bool,Sl a1 p.list a2] rfl))<|have cw:=Ss Kd.cpx cv an;Bi a fun bk cx a=>CI (.guard (t:=false) (b:=false) rfl rfl rfl rfl (Cb ab)) rfl rfl (Xe [.agg [I p.type_,Cx p.num,.bool p.bool,Sl a1 p.list a2].toArray] rfl)<|Calls.mono (OS y a3 bh cx (BP (x:=p) cw)) ?_
 rintro _ ew ⟨cy,rfl,cz⟩
 refine ⟨_,rfl,?_⟩
 refine Gr ab (.bool (bk != 0))<|Vp ab<|AA<|⟨_,cy,(bk != 0),Pu,a,(Mo [] cz)⟩
 rintro _ bj ⟨ac,ao,a4,rfl,a,a5⟩
 rw [Hx] at a
 refine Cn a (fun c0 a=>?_) fun c0 a=>?_
 refine Sr<|Vx (v:=.agg [I 0,Cx (((0,0):Nat×Nat)),.bool false,.slice none 0 0].toArray) (Bp FI JI rfl .nil)<|have c1:=Y2 (Y4 ag f g h am) an a5;Eu (St F6 c1 rfl rfl rfl rfl fun ex c2 c3=>?_)
 refine Va (I 3)<|AA<|AT ?_
 obtain rfl:=AP a
 refine Ax (B:=B) af (EC rfl (.agg D9 rfl rfl (Bk.part c2 0 [I 0,Cx (((0,0):Nat×Nat)),.bool false,.slice none 0 0] rfl)) (.tmp rfl) ?_)
 exact ⟨ao,[I 0,Cx (((0,0):Nat×Nat)),.bool false,.slice none 0 0],rfl,Ho (T3 (T4 (Mo [20,21] z) f g h am) an a5 c3) ae,(BP (x:=(AI.mk 0 ((0,0):Nat×Nat) false [])) CT)⟩
 refine WC.skip<|AO<|Vr (I (Wr (w+1)))<|Vm<|AA<|⟨ad,Nat.lt_succ_self ad,_,ao,(Wr (w+1)),Pu,(bf▸a),(T3 (Mo [21] h) am an a5)⟩
 refine Bc<|Sr<|Vm<|Bi a fun q c4 a=>have bl:=Ss A1 az h; ?_
 obtain ⟨c5,c6,ey,c7,bm,bn,bo,c8,ap⟩:=BL (κ:=A1) bl c4
 replace ap:A8 u aa c5 (c6+(0:Int).toNat*4) c7:=ap
 obtain ⟨ez,rfl,c9⟩:=CU c8
 obtain ⟨e0,e1,rfl⟩:=AG c9
 refine Vx (Run.indexAddr Kk bm rfl bn bo)<|Vx (Run.fieldAddr Jf rfl)<|Vx (Run.load1 Jo rfl (A8.cell (k:=1) ap rfl))<|Va (Cx q.num)<|AA<|AZ<|Sr<|Vm<|AA<|Aj<|Sr<|Vr (.bool (c==14))<|Va (.bool (c==14))<|AA<|Cn a (fun da a=>?_) fun da a=>?_
 refine Sr<|Vm<|Vx (Run.indexAddr Kk bm rfl bn bo)<|Vx (Run.fieldAddr M2 rfl)<|Vx (Run.load1 Rr rfl (A8.cell (k:=2) ap rfl))<|Vr (.bool (!q.bool))<|Vx (v:=.agg [I 2,Cx (((0,0):Nat×Nat)),.bool (!q.bool),.slice none 0 0].toArray) (Bp FI JI rfl (.cons rfl rfl rfl (.cons rfl rfl rfl .nil)))<|have db:=Y3 ag f g h;Eu (St F6 db rfl rfl rfl rfl fun e2 dc de=>?_)
 refine Va (I 0)<|AA<|AT ?_
 obtain rfl:=AP a
 refine Ax (B:=B) af (EC rfl (.agg D9 rfl rfl (Bk.part dc 0 [I 2,Cx (((0,0):Nat×Nat)),.bool (!q.bool),.slice none 0 0] rfl)) (.tmp rfl) ?_)
 exact ⟨u,[I 2,Cx (((0,0):Nat×Nat)),.bool (!q.bool),.slice none 0 0],rfl,Ho (T4 (Mo [20,21] z) f g h de) ae,(BP (x:=(AI.mk 2 ((0,0):Nat×Nat) (!q.bool) [])) CT)⟩
 refine Sr<|Vr (.bool (c==15))<|Va (.bool (c==15))<|AA<|Cn a (fun df a=>?_) fun df a=>?_
 refine Sr<|Vm<|Vx (v:=Fl q.num.1) (Run.real rfl)<|Vx (v:=Cx ((q.num.1,(0:Nat)))) (Run.complex rfl rfl)<|Bi a fun l dg a=>Ca (NF [Cx ((q.num.1,(0:Nat))),I 0] rfl) (IN u aa dg) ?_
 rintro _ e3 ⟨dh,e4,rfl,bp,di⟩
 obtain ⟨e5,rfl,bq⟩:=CU di
 obtain ⟨a6,a7,rfl⟩:=AG bq
 refine ⟨_,rfl,?_⟩
 refine Vr (.agg [I l.1.type_,Cx l.1.num,.bool l.1.bool,Sl a6 l.1.list a7].toArray)<|Vr (I l.2)<|have dj:=Y4 ag f g h bp;Eu (St F6 dj rfl rfl rfl rfl fun e6 dk br=>?_)
 refine Va (I l.2)<|AA<|AT ?_
 obtain rfl:=AP a
 refine Ax (B:=B) af (EC rfl (.agg D9 rfl rfl (Bk.part dk 0 [I l.1.type_,Cx l.1.num,.bool l.1.bool,Sl a6 l.1.list a7] rfl)) (.tmp rfl) ?_)
 refine have dl:=Ss Kd.cpx bq br;⟨dh,[I l.1.type_,Cx l.1.num,.bool l.1.bool,Sl a6 l.1.list a7],rfl,Ho (Tn (T4 (Mo [20,21] z) f g h bp) br) ae,(BP (x:=l.1) dl)⟩
 refine Sr<|Vr (.bool (c==16))<|Va (.bool (c==16))<|AA<|Cn a (fun dm a=>?_) fun dm a=>?_
 refine Sr<|Vm<|Vx (v:=Fl q.num.2) (Run.imag rfl)<|Vx (v:=Cx ((q.num.2,(0:Nat)))) (Run.complex rfl rfl)<|Bi a fun m dn a=>Ca (NF [Cx ((q.num.2,(0:Nat))),I 0] rfl) (IN u aa dn) ?_
 rintro _ e7 ⟨dp,e8,rfl,bt,dq⟩
 obtain ⟨e9,rfl,bu⟩:=CU dq
 obtain ⟨a8,a9,rfl⟩:=AG bu
 refine ⟨_,rfl,?_⟩
 refine Vr (.agg [I m.1.type_,Cx m.1.num,.bool m.1.bool,Sl a8 m.1.list a9].toArray)<|Vr (I m.2)<|have dr:=Y4 ag f g h bt;Eu (St F6 dr rfl rfl rfl rfl fun fa ds bv=>?_)
 refine Va (I m.2)<|AA<|AT ?_
 obtain rfl:=AP a
 refine Ax (B:=B) af (EC rfl (.agg D9 rfl rfl (Bk.part ds 0 [I m.1.type_,Cx m.1.num,.bool m.1.bool,Sl a8 m.1.list a9] rfl)) (.tmp rfl) ?_)
 refine have dt:=Ss Kd.cpx bu bv;⟨dp,[I m.1.type_,Cx m.1.num,.bool m.1.bool,Sl a8 m.1.list a9],rfl,Ho (Tn (T4 (Mo [20,21] z) f g h bt) bv) ae,(BP (x:=m.1) dt)⟩
 refine Sr<|Vr (.bool (c==17))<|Va (.bool (c==17))<|AA<|Cn a (fun du a=>?_) fun du a=>?_
 refine Sr<|Vm<|Bi a fun aq dv a=>Ca (ZA [Cx q.num] rfl) (TG u aa dv) ?_
 rintro _ dw ⟨dx,rfl,bw⟩
 refine ⟨_,rfl,?_⟩
 refine Vr (Cx aq.1)<|Vr (I aq.2)<|Bi a fun n dy a=>Ca (NF [Cx aq.1,I aq.2] rfl) (IN dx dw dy) ?_
 rintro _ fb ⟨dz,fc,rfl,bx,d0⟩
 obtain ⟨fd,rfl,bz⟩:=CU d0
 obtain ⟨ba,bb,rfl⟩:=AG bz
 refine ⟨_,rfl,?_⟩
 refine Vr (.agg [I n.1.type_,Cx n.1.num,.bool n.1.bool,Sl ba n.1.list bb].toArray)<|Vr (I n.2)<|have d1:=Bs (Y4 ag f g h bw) bx;Eu (St F6 d1 rfl rfl rfl rfl fun fe d2 b0=>?_)
 refine Va (I n.2)<|AA<|AT ?_
 obtain rfl:=AP a
 refine Ax (B:=B) af (EC rfl (.agg D9 rfl rfl (Bk.part d2 0 [I n.1.type_,Cx n.1.num,.bool n.1.bool,Sl ba n.1.list bb] rfl)) (.tmp rfl) ?_)
 refine have d3:=Ss Kd.cpx bz b0;⟨dz,[I n.1.type_,Cx n.1.num,.bool n.1.bool,Sl ba n.1.list bb],rfl,Ho (T2 (T4 (Mo [20,21] z) f g h bw) bx b0) ae,(BP (x:=n.1) d3)⟩
 refine WC.skip<|Sr<|Vm<|Vm<|Vm<|Bi a fun d4 d5 a=>?_
 obtain ⟨d6,d7,ff,d8,d9,ea,eb,ec,bc⟩:=BL (κ:=A1) bl d5
 replace bc:A8 u aa d6 (d7+(1:Int).toNat*4) d8:=bc
 obtain ⟨fg,rfl,ed⟩:=CU ec
 obtain ⟨fh,fi,rfl⟩:=AG ed
 refine Vx (Run.indexAddr Kk d9 rfl ea eb)<|Vx (Run.fieldAddr Jf rfl)<|Vx (Run.load1 Jo rfl (A8.cell (k:=1) bc rfl))<|Bi a fun o ee a=>Ca (ZB [I c,Cx q.num,Cx d4.num] rfl) (VA y u aa ee) ?_
 rintro _ fj ⟨ef,fk,rfl,b1,eg⟩
 obtain ⟨fl,rfl,b2⟩:=CU eg
 obtain ⟨bd,be,rfl⟩:=AG b2
 refine ⟨_,rfl,?_⟩
 refine Vr (.agg [I o.1.type_,Cx o.1.num,.bool o.1.bool,Sl bd o.1.list be].toArray)<|Vr (I o.2)<|have eh:=Y4 ag f g h b1;Eu (St F6 eh rfl rfl rfl rfl fun fm ei b3=>?_)
 refine Va (I o.2)<|AA<|AT ?_
 obtain rfl:=AP a
 refine Ax (B:=B) af (EC rfl (.agg D9 rfl rfl (Bk.part ei 0 [I o.1.type_,Cx o.1.num,.bool o.1.bool,Sl bd o.1.list be] rfl)) (.tmp rfl) ?_)
 refine have ej:=Ss Kd.cpx b2 b3;⟨ef,[I o.1.type_,Cx o.1.num,.bool o.1.bool,Sl bd o.1.list be],rfl,Ho (Tn (T4 (Mo [20,21] z) f g h b1) b3) ae,(BP (x:=o.1) ej)⟩
theorem TP(c:Nat):D0.Spec (D0 c):=by
 intro a d o p q r e f
 refine Calls.mono (SP c (recol (see []) a) d (Az lbr a) e (By A1 f [])) ?_
 rintro s u ⟨g,h,l,m,n⟩
 exact ⟨glue [] d a g,h,l,Ad m Ay,BB A1 n⟩
def mean_run_look.At(G1 G2:Prop)(c:Col)(a:World)(f:(List AK)→Int→Int→Ak→AE→Nm→Option ((Except Int Aq)×(List AK)×Int×Int))(h:Nat)(ac:Nat):Prop:=
 ∀{l:Nat} {n:(List AK)} {o:Value} {p:Int} {q:Int} {m:Nat} {s:Ak} {w:AE} {y:List Value} {z:Nm} {aa:Value} {d:(Except Int Aq)×(List AK)×Int×Int},f n p q s w z=some d→G1→G2→Bk c a h l [.map (some m),o,I p,I q] 83→Slc AL c.F a o n→Mp c a ac m s→AJ.rep c.F a y w→F7 89 90 c.F a aa z→
  Calls Tryz.prog 33 #[Pt l 0,.agg y.toArray,aa] a fun ad e=>∃(g:Col) (ab:Value),AQ [h] c a g e∧Bk g e h l [.map (some m),ab,I d.2.2.1,I d.2.2.2] 83∧Slc AL g.F e ab d.2.1∧ER 33 d.1 ad (fun r v=>∃u:List Value,v=.agg u.toArray∧Gi.rep g.F e u r)
def mean_run_look.Spec(f:(List AK)→Int→Int→Ak→AE→Nm→Option ((Except Int Aq)×(List AK)×Int×Int)):Prop:=
 ∀(d:Col) (e:World) {a:Nat} {c:Nat},mean_run_look.At ([a,c].Nodup) (0∉[a,c]) d e f a c
def mean_later_1.At(G1 G2:Prop)(c:Col)(a:World)(f:(List AK)→Int→Int→Ak→AE→Nm→Option ((Except Int Aq)×(List AK)×Int×Int))(h:Nat)(ae:Nat):Prop:=
 ∀{l:Nat} {n:(List AK)} {o:Value} {p:Int} {q:Int} {m:Nat} {s:Ak} {w:AE} {y:Nat} {z:List Value} {aa:Nm} {ab:Nat} {ac:Value} {d:(Except Int Aq)×(List AK)×Int×Int},f n p q s w aa=some d→G1→G2→Bk c a h l [.map (some m),o,I p,I q] 83→Slc AL c.F a o n→Mp c a ae m s→A8 c a y 0 z→AJ.rep c.F a z w→A8 c a ab 0 [ac]→F7 89 90 c.F a ac aa→
  Calls Tryz.prog 90 #[Pt l 0,Pt y 0,Pt ab 0] a fun af e=>∃(g:Col) (ad:Value),AQ [h] c a g e∧Bk g e h l [.map (some m),ad,I d.2.2.1,I d.2.2.2] 83∧Slc AL g.F e ad d.2.1∧ER 33 d.1 af (fun r v=>∃u:List Value,v=.agg u.toArray∧Gi.rep g.F e u r)
def mean_later_1.Spec(f:(List AK)→Int→Int→Ak→AE→Nm→Option ((Except Int Aq)×(List AK)×Int×Int)):Prop:=
 ∀(d:Col) (e:World) {a:Nat} {c:Nat},mean_later_1.At ([a,c].Nodup) (0∉[a,c]) d e f a c
def mean_callth.Spec(f:(List AK)→Int→Int→Ak→Th→Option ((Except Int Aq)×(List AK)×Int×Int)):Prop:=
 ∀(c:Col) (a:World) {m:Nat} {d:Nat} {p:(List AK)} {q:Value} {s:Int} {w:Int} {n:Nat} {o:Nat} {y:Ak} {z:Th} {aa:Value} {e:(Except Int Aq)×(List AK)×Int×Int},f p s w y z=some e→[d,o].Nodup→0∉[d,o]→Bk c a d m [.map (some n),q,I s,I w] 83→Slc AL c.F a q p→Mp c a o n y→MTh 89 90 c.F a aa z→
  ∃g caps,ABz Tryz.prog aa g caps∧Calls Tryz.prog g ([Pt m 0]++caps:List Value).toArray a fun ac h=>∃(l:Col) (ab:Value),AQ [d] c a l h∧Bk l h d m [.map (some n),ab,I e.2.2.1,I e.2.2.2] 83∧Slc AL l.F h ab e.2.1∧ER 33 e.1 ac (fun r v=>∃u:List Value,v=.agg u.toArray∧Gi.rep l.F h u r)
def mean_run_parts.At(G1 G2:Prop)(c:Col)(a:World)(f:(List AK)→Int→Int→Ak→AE→Nm→Option ((Except Int Aq)×(List AK)×Int×Int))(h:Nat)(ac:Nat):Prop:=
 ∀{l:Nat} {n:(List AK)} {o:Value} {p:Int} {q:Int} {m:Nat} {s:Ak} {w:AE} {y:List Value} {z:Nm} {aa:Value} {d:(Except Int Aq)×(List AK)×Int×Int},f n p q s w z=some d→G1→G2→Bk c a h l [.map (some m),o,I p,I q] 83→Slc AL c.F a o n→Mp c a ac m s→AJ.rep c.F a y w→F7 89 90 c.F a aa z→
  Calls Tryz.prog 58 #[Pt l 0,.agg y.toArray,aa] a fun ad e=>∃(g:Col) (ab:Value),AQ [h] c a g e∧Bk g e h l [.map (some m),ab,I d.2.2.1,I d.2.2.2] 83∧Slc AL g.F e ab d.2.1∧ER 33 d.1 ad (fun r v=>∃u:List Value,v=.agg u.toArray∧Gi.rep g.F e u r)
def mean_run_parts.Spec(f:(List AK)→Int→Int→Ak→AE→Nm→Option ((Except Int Aq)×(List AK)×Int×Int)):Prop:=
 ∀(d:Col) (e:World) {a:Nat} {c:Nat},mean_run_parts.At ([a,c].Nodup) (0∉[a,c]) d e f a c
structure AU.Good(a:AU):Prop where
 mean_run_look:mean_run_look.Spec a.mean_run_look
 mean_later_1:mean_later_1.Spec a.mean_later_1
 mean_callth:mean_callth.Spec a.mean_callth
 mean_run_parts:mean_run_parts.Spec a.mean_run_parts
theorem Pb(ar:AU)(bn:Nat)(ca:AU.Good ar)(cb:Col)(ez:World)(y:∀b,cb b<10):mean_run_look.At True True cb ez (BA ar bn) 1 2:=by
 intro ah z ke au a1 kf av d kg aj ad bo a _ _ da ae cc e0 a2
 rw [BA] at a
 obtain ⟨a3,a4,rfl⟩:=AG ae
 obtain ⟨kh,rfl,bp⟩:=Am e0
 obtain ⟨db,dc,rfl⟩:=AG bp
 refine A0 Tryz.func33 rfl Tryz.ntmps33 rfl fun B aa e=>Sr<|Ef (Bf cb 20 rfl rfl fun e1 ki cd de m=>?_)
 refine Ef (Aa e1 21 J9 rfl fun bq e2 cf aw l=>?_)
 refine AA<|Ao (fun bf df=>∃(ax:Env) (n:Col),bf=ax.puts [(0,.pointer (some ⟨ah,0,none⟩)),(2,ad),(4,.pointer (some ⟨cd,0,none⟩)),(6,.pointer (some ⟨cf,0,none⟩))]∧CO ar bn z au a1 av d aj=some bo∧AQ [] bq e2 n df) ?_ ?_
 refine AZ<|CJ FL (.q 0 (.q 1 (.q 2 (.q 3 (.q 4 (.q 5 (.q 6 (.q 7 (.q 8 .nil))))))))) [] [] bq (by kernel_rfl) fun kj br=>Qx e rfl (v:=Pt ah 0) (fun _ ⟨_,c⟩=>Run.move rfl)<|Qx e rfl (fun _ ⟨_,c⟩=>Run.nilCheck rfl)<|Qx e rfl (fun _ ⟨_,c⟩=>Run.fieldAddr OA rfl)<|have cg:=Y3 da m l br;Qx e rfl (fun _ ⟨_,c⟩=>Run.load1 B5 rfl (Bk.cell (Bs cg c) rfl))<|Qx e rfl (v:=Pt ah 0) (fun _ ⟨_,c⟩=>Run.move rfl)<|Qx e rfl (fun _ ⟨_,c⟩=>Run.nilCheck rfl)<|Qx e rfl (fun _ ⟨_,c⟩=>Run.fieldAddr X0 rfl)<|Qx e rfl (fun _ ⟨_,c⟩=>Run.load1 B5 rfl (Bk.cell (Bs cg c) rfl))<|Qx e rfl (v:=.bool (decide (au≥a1))) (fun _ ⟨_,c⟩=>rfl)<|Dy<|Cn a (fun e3 a=>?_) fun e3 a=>?_
 refine AO<|Vr (.iface 33 (I 60))<|Rg (.none rfl) (Py rfl)<|have e4:=K3 AL ae m l br; ?_
 obtain rfl:=AP a
 refine NC (B:=B) aa<|⟨bq,Sl a3 z a4,Ho (T2 (Mo [] m) l br) y,cg,e4,GB⟩
 refine WC.skip<|⟨_,bq,Pu,a,(Mo [] br)⟩
 rintro _ df ⟨ax,n,rfl,a,f⟩
 rw [CO] at a
 refine Sr<|Vm<|Vx (Run.nilCheck rfl)<|Vx (Run.fieldAddr OA rfl)<|have dg:=Y3 da m l f;Vx (Run.load1 B5 rfl (Bk.cell dg rfl))<|Vr (I (Wr (au+1)))<|Vx (Run.nilCheck rfl)<|Vx (Run.fieldAddr OA rfl)<|Eu (St MB dg rfl rfl rfl rfl fun dh ak g=>?_)
 refine AA<|Ao (fun bf ch=>∃(ax:Env) (ci:Col),bf=ax.puts [(0,.pointer (some ⟨ah,0,none⟩)),(2,ad),(4,.pointer (some ⟨cd,0,none⟩)),(6,.pointer (some ⟨cf,0,none⟩))]∧KF ar z au a1 av d aj=some bo∧AQ [] n dh ci ch) ?_ ?_
 refine Sr<|Vx (Run.fieldAddr0 DR rfl)<|have bg:=Y3 de l f g;Vx (Run.load1 HS rfl (Bk.cell bg rfl))<|AA<|Aj<|Sr<|Vr (.bool (d.op==1))<|Va (.bool (d.op==1))<|AA<|Cn a (fun e5 a=>?_) fun e5 a=>?_
 refine Sr<|Vx (Run.fieldAddr Xv rfl)<|Vx (Run.load1 Jo rfl (Bk.cell bg rfl))<|Vx (v:=.agg [I 1,Cx d.num,.bool false,.slice none 0 0].toArray) (Bp FI JI rfl (.cons rfl rfl rfl (.cons rfl rfl rfl .nil)))<|Vx (v:=.agg [I 1,Cx d.num,.bool false,.slice none 0 0,.nilFunc,.nilFunc].toArray) (Bp J9 Mg rfl (.cons rfl rfl rfl .nil))<|have e6:=Y2 aw f g;Eu (St It e6 rfl rfl rfl rfl fun kk e7 cj=>?_)
 refine AA<|AT ?_
 obtain rfl:=AP a
 refine Ax (B:=B) aa (BG rfl (.agg JG rfl rfl (Bk.part e7 0 [I 1,Cx d.num,.bool false,.slice none 0 0,.nilFunc,.nilFunc] rfl)) ?_)
 refine have e8:=Bs ak cj;have e9:=Ss AL (K4 AL ae m l f g) cj;⟨n,Sl a3 z a4,Ho (T4 (Mo [1,21] m) l f g cj) y,e8,e9,E9 ⟨[I 1,Cx d.num,.bool false,.slice none 0 0,.nilFunc,.nilFunc],rfl,(Cd (x:=(Aq.mk (AI.mk 1 d.num false []) Th.nil Th.nil)) CT MTh.nil MTh.nil)⟩⟩
 refine Sr<|Vr (.bool (d.op==2))<|Va (.bool (d.op==2))<|AA<|Cn a (fun fa a=>?_) fun fa a=>?_
 refine Sr<|Vx (v:=.agg [I 2,Cx (((0,0):Nat×Nat)),.bool true,.slice none 0 0].toArray) (Bp FI JI rfl (.cons rfl rfl rfl (.cons rfl rfl rfl .nil)))<|Vx (v:=.agg [I 2,Cx (((0,0):Nat×Nat)),.bool true,.slice none 0 0,.nilFunc,.nilFunc].toArray) (Bp J9 Mg rfl (.cons rfl rfl rfl .nil))<|have fb:=Y2 aw f g;Eu (St It fb rfl rfl rfl rfl fun kl fc ck=>?_)
 refine AA<|AT ?_
 obtain rfl:=AP a
 refine Ax (B:=B) aa (BG rfl (.agg JG rfl rfl (Bk.part fc 0 [I 2,Cx (((0,0):Nat×Nat)),.bool true,.slice none 0 0,.nilFunc,.nilFunc] rfl)) ?_)
 refine have fd:=Bs ak ck;have fe:=Ss AL (K4 AL ae m l f g) ck;⟨n,Sl a3 z a4,Ho (T4 (Mo [1,21] m) l f g ck) y,fd,fe,E9 ⟨[I 2,Cx (((0,0):Nat×Nat)),.bool true,.slice none 0 0,.nilFunc,.nilFunc],rfl,(Cd (x:=(Aq.mk (AI.mk 2 ((0,0):Nat×Nat) true []) Th.nil Th.nil)) CT MTh.nil MTh.nil)⟩⟩
 refine Sr<|Vr (.bool (d.op==3))<|Va (.bool (d.op==3))<|AA<|Cn a (fun ff a=>?_) fun ff a=>?_
 refine Sr<|Vx (v:=.agg [I 2,Cx (((0,0):Nat×Nat)),.bool false,.slice none 0 0].toArray) (Bp FI JI rfl (.cons rfl rfl rfl .nil))<|Vx (v:=.agg [I 2,Cx (((0,0):Nat×Nat)),.bool false,.slice none 0 0,.nilFunc,.nilFunc].toArray) (Bp J9 Mg rfl (.cons rfl rfl rfl .nil))<|have fg:=Y2 aw f g;Eu (St It fg rfl rfl rfl rfl fun km fh cl=>?_)
 refine AA<|AT ?_
 obtain rfl:=AP a
 refine Ax (B:=B) aa (BG rfl (.agg JG rfl rfl (Bk.part fh 0 [I 2,Cx (((0,0):Nat×Nat)),.bool false,.slice none 0 0,.nilFunc,.nilFunc] rfl)) ?_)
 refine have fi:=Bs ak cl;have fj:=Ss AL (K4 AL ae m l f g) cl;⟨n,Sl a3 z a4,Ho (T4 (Mo [1,21] m) l f g cl) y,fi,fj,E9 ⟨[I 2,Cx (((0,0):Nat×Nat)),.bool false,.slice none 0 0,.nilFunc,.nilFunc],rfl,(Cd (x:=(Aq.mk (AI.mk 2 ((0,0):Nat×Nat) false []) Th.nil Th.nil)) CT MTh.nil MTh.nil)⟩⟩
 refine Sr<|Vr (.bool (d.op==4))<|Va (.bool (d.op==4))<|AA<|Cn a (fun fk a=>?_) fun fk a=>?_
 refine Sr<|Vx (v:=.agg [I 3,Cx (((0,0):Nat×Nat)),.bool false,.slice none 0 0].toArray) (Bp FI JI rfl (.cons rfl rfl rfl .nil))<|Vx (v:=.agg [I 3,Cx (((0,0):Nat×Nat)),.bool false,.slice none 0 0,.nilFunc,.nilFunc].toArray) (Bp J9 Mg rfl (.cons rfl rfl rfl .nil))<|have fl:=Y2 aw f g;Eu (St It fl rfl rfl rfl rfl fun kn fm cm=>?_)
 refine AA<|AT ?_
 obtain rfl:=AP a
 refine Ax (B:=B) aa (BG rfl (.agg JG rfl rfl (Bk.part fm 0 [I 3,Cx (((0,0):Nat×Nat)),.bool false,.slice none 0 0,.nilFunc,.nilFunc] rfl)) ?_)
 refine have fn:=Bs ak cm;have fo:=Ss AL (K4 AL ae m l f g) cm;⟨n,Sl a3 z a4,Ho (T4 (Mo [1,21] m) l f g cm) y,fn,fo,E9 ⟨[I 3,Cx (((0,0):Nat×Nat)),.bool false,.slice none 0 0,.nilFunc,.nilFunc],rfl,(Cd (x:=(Aq.mk (AI.mk 3 ((0,0):Nat×Nat) false []) Th.nil Th.nil)) CT MTh.nil MTh.nil)⟩⟩
 refine Sr<|Vr (.bool (d.op==5))<|Va (.bool (d.op==5))<|AA<|Cn a (fun fp a=>?_) fun fp a=>?_
 refine AO<|Vr (.iface 33 (I 52))<|Rg (.none rfl) (Py rfl)<|have fq:=K4 AL ae m l f g; ?_
 obtain rfl:=AP a
 refine NC (B:=B) aa<|⟨n,Sl a3 z a4,Ho (T3 (Mo [1] m) l f g) y,ak,fq,GB⟩
 refine Sr<|Vr (.bool (d.op==6))<|Va (.bool (d.op==6))<|AA<|Cn a (fun fr a=>?_) fun fr a=>?_
 refine Sr<|Vm<|Vx (Run.fieldAddr EN rfl)<|Vx (Run.load1 CS rfl (Bk.cell bg rfl))<|have fs:=Me (Me (Me (Me a2 m) l) f) g;Bi a fun ko ft a=>Ca (AAb [ad,Sb d.name] rfl) (PB bn n dh ft fs) ?_
 rintro _ fu ⟨fv,kp,rfl,a8,fw⟩
 refine ⟨_,rfl,?_⟩
 refine Vm<|have fx:=Bs ak a8;have fy:=Ss AL (K4 AL ae m l f g) a8;have fz:=Ms (Ms (Ms (Ms (Ms cc m) l) f) g) a8;Bi a fun di f0 a=>?_
 obtain ⟨kq,kr,f1,f2⟩:=ca.mean_callth fv fu f0 dcd dcd fx fy fz fw
 refine H3 (.none rfl) rfl rfl (f1 (vs:=[Pt ah 0]) rfl rfl)<|Calls.mono f2 ?_
 rintro _ ks ⟨dj,kt,cn,dk,co,f3⟩
 obtain ⟨dl,dm,rfl⟩:=AG co
 obtain ⟨ku,f4,rfl⟩| ⟨o,f5,kv,rfl,kw,rfl,f6⟩:=ER.split f3
 refine have a:=Do a f4; .inl ⟨_,rfl,?_⟩
 obtain rfl:=AP a
 refine NC (B:=B) aa<|⟨dj,Sl dl di.2.1 dm,Ho (Tn (T4 (Mo [1] m) l f g a8) cn) y,dk,co,GB⟩
 refine have a:=Gg a f5; ?_
 obtain ⟨kx,bt,bu,rfl,cq,dn,dp⟩:=DM f6
 obtain ⟨bv,bw,rfl⟩:=AG cq
 refine .inr ⟨_,rfl,?_⟩
 refine have f7:=Y4 aw f g a8 cn;Eu (Br (vs:=[I o.plain.type_,Cx o.plain.num,.bool o.plain.bool,Sl bv o.plain.list bw,bt,bu]) (cs':=[I o.plain.type_,Cx o.plain.num,.bool o.plain.bool,Sl bv o.plain.list bw,bt,bu]) It rfl rfl rfl rfl (AX rfl (AX rfl (AX rfl (AX (FQ cq) (AX (MTh.one dn) (AX (MTh.one dp) CQ)))))) f7 dcd rfl rfl fun ky f8 a9=>?_)
 refine AA<|AT ?_
 obtain rfl:=AP a
 refine Ax (B:=B) aa (BG rfl (.agg JG rfl rfl (Bk.part f8 0 [I o.plain.type_,Cx o.plain.num,.bool o.plain.bool,Sl bv o.plain.list bw,bt,bu] rfl)) ?_)
 refine have f9:=Ss Kd.cpx cq a9;have ga:=Mt dn a9;have gb:=Mt dp a9;have gc:=Bs dk a9;have gd:=Ss AL co a9;⟨dj,Sl dl di.2.1 dm,Ho (T2 (T4 (Mo [1,21] m) l f g a8) cn a9) y,gc,gd,E9 ⟨[I o.plain.type_,Cx o.plain.num,.bool o.plain.bool,Sl bv o.plain.list bw,bt,bu],rfl,(Cd (x:=o) f9 ga gb)⟩⟩
 refine Sr<|Vr (.bool (d.op==7))<|Va (.bool (d.op==7))<|AA<|Cn a (fun ge a=>?_) fun ge a=>?_
 refine AZ<|CJ FL (.q 0 (.q 1 (.q 2 (.q 3 (.q 4 (.q 5 (.q 6 (.q 7 (.q 8 (.q 9 (.q 10 (.q 11 (.q 12 (.one 13 (.one 14 .nil))))))))))))))) [14] [] n (by kernel_rfl) fun gf al=>Qx e rfl (v:=Pt ah 0) (fun _ ⟨_,c⟩=>Run.move rfl)<|Qx e rfl (fun _ ⟨_,c⟩=>Run.nilCheck rfl)<|Qx e rfl (fun _ ⟨_,c⟩=>Run.fieldAddr Xz rfl)<|have cr:=Bs ak al;Qx e rfl (fun _ ⟨_,c⟩=>Run.load1 GQ rfl (Bk.cell (Bs cr c) rfl))<|Qx e rfl (v:=Pt ah 0) (fun _ ⟨_,c⟩=>Run.move rfl)<|Qx e rfl (fun _ ⟨_,c⟩=>Run.nilCheck rfl)<|Qx e rfl (fun _ ⟨_,c⟩=>Run.fieldAddr0 Ro rfl)<|Qx e rfl (fun _ ⟨_,c⟩=>Run.load1 OD rfl (Bk.cell (Bs cr c) rfl))<|Qx e rfl (fun _ ⟨_,c⟩=>Run.fieldAddr EN rfl)<|have dq:=Bs bg al;Qx e rfl (fun _ ⟨_,c⟩=>Run.load1 CS rfl (Bk.cell (Bs dq c) rfl))<|have dr:=Ms (Ms (Ms (Ms (Ms cc m) l) f) g) al;Qx e rfl (v:=I (CR av d.name)) (fun _ ⟨_,c⟩=>JN KM rfl rfl (Ms dr c))<|Bi a fun h gg a=>have ds:=Ss AL (K4 AL ae m l f g) al; ?_
 obtain ⟨gh,gi,kz,gj,gk,gl,gm,gn,ct⟩:=BL (κ:=AL) ds gg
 replace ct:A8 n gf gh (gi+((CR av d.name)).toNat*11) gj:=ct
 obtain ⟨k0,k1,rfl,dt,du⟩:=Cw gn
 obtain ⟨dv,dw,rfl⟩:=AG dt
 obtain ⟨cu,cv,rfl⟩:=AG du
 refine Qx e rfl (fun _ ⟨_,c⟩=>Run.indexAddr Fp gk rfl gl gm)<|Qx e rfl (fun _ ⟨_,c⟩=>Run.loadN K9 rfl rfl (A8.part0 (Es ct c) [Sb h.name,Sl dv h.params dw,I h.type_,I h.body.op,Sb h.body.name,Sb h.body.tail,I h.body.type_,Cx h.body.num,Sl cu h.body.args cv,I h.body.at_,I h.at_] rfl))<|BX rfl<|Cl rfl (.none rfl) rfl rfl (Aa n 22 J8 rfl fun dx k2 go gp ac=>?_)
 refine ⟨⟨_,(Mo [] ac)⟩,?_⟩
 refine FP dcd<|WY.one<|have gq:=Ss AY dt ac;have gr:=Ss AJ du ac;Be rfl (.none rfl) rfl (St Kj gp rfl rfl rfl rfl fun gs dy af=>?_)
 refine WY.nil<|Sr<|Va (.pointer none)<|AA<|AZ<|Sr<|Vx (Run.fieldAddr EX rfl)<|Vx (Run.load1 Eo rfl (Bk.cell dy rfl))<|have dz:=Ss AY gq af; ?_
 obtain ⟨k3,k4,gt⟩:=AG dz
 refine Vx (v:=I (h.params.length:Int)) (Run.lenSlc D3 gt)<|Vm<|AA<|Aj<|Bt (fun ay bf bh=>∃(ax:Env) (ba:Col) (bi:Nm) (a5:Value) (ag:Int),bf=ax.puts [(0,.pointer (some ⟨ah,0,none⟩)),(2,ad),(4,.pointer (some ⟨cd,0,none⟩)),(6,.pointer (some ⟨cf,0,none⟩)),(7,.pointer (some ⟨go,0,none⟩)),(8,a5),(75,.slice dv h.params.length dw),(76,.int .i64 (h.params.length:Int)),(77,.int .i64 ag)]∧F3 ar z au a1 av d aj h ay bi ag=some bo∧AQ [23,24,25,26] dx gs ba bh∧F7 89 90 ba.F bh a5 bi) bn ?_ ?_
 exact ⟨_,dx,Nm.nil,.pointer none,0,Pu,a,(AQ.refl [23,24,25,26] _ _),F7.nil⟩
 rintro ay _ bh ⟨ax,ba,bi,a5,ag,rfl,a,ab,cw⟩
 rcases ay with _|ay
 exact BC a
 refine have a:If ar z au a1 av d aj h (F3 ar z au a1 av d aj h ay) bi ag=some bo:=a; ?_
 obtain ⟨k5,d0⟩:∃s,s=F3 ar z au a1 av d aj h ay:=⟨_,rfl⟩
 rw [←d0,If] at a
 refine Sr<|Vr (.bool (decide (ag< (h.params.length:Int))))<|AA<|AZ<|Cn a (fun gu a=>?_) fun gu a=>?_
 refine WC.skip<|AZ<|Aj<|Sr<|Vm<|Bi a fun bb gv a=>have gw:=Ss AY dz ab; ?_
 obtain ⟨gx,gy,k6,gz,g0,g1,g2,g3,cx⟩:=BL (κ:=AY) gw gv
 replace cx:A8 ba bh gx (gy+ag.toNat*3) gz:=cx
 obtain rfl:=Fg g3
 refine Vx (Run.indexAddr D3 g0 rfl g1 g2)<|Vx (Run.loadN Vi rfl rfl (A8.part0 cx [Sb bb.name,I bb.type_,I bb.at_] rfl))<|Ef (Aa ba 23 LC rfl fun cy k7 k8 g4 bj=>?_)
 refine Va (I ag)<|Eu (St Vy g4 rfl rfl rfl rfl fun k9 g5 bk=>?_)
 refine AA<|CJ FL (.q 0 (.q 1 (.q 2 (.q 3 (.q 4 (.q 5 (.q 6 (.q 7 (.q 9 (.one 8 (.q 10 (.one 11 (.q 12 .nil))))))))))))) [] [24,25] cy (by kernel_rfl) fun d1 bc=>Qx e rfl (fun _ ⟨_,c⟩=>Run.fieldAddr0 Lj rfl)<|have g6:=Bs g5 bc;Qx e rfl (fun _ ⟨_,c⟩=>Run.load1 CS rfl (Bk.cell (Bs g6 c) rfl))<|Qx e rfl (fun _ ⟨_,c⟩=>Run.fieldAddr Bq rfl)<|have g7:=Y2 (Y4 dq ac af ab bj) bk bc;Qx e rfl (fun _ ⟨_,c⟩=>Run.load1 EB rfl (Bk.cell (Bs g7 c) rfl))<|Qx e rfl (v:=I ag) (fun _ ⟨_,c⟩=>Run.move rfl)<|Bi a fun r g8 a=>have g9:=K3 AJ (K4 AJ (K4 AJ bp m l f g) al ac af ab) bj bk bc; ?_
 obtain ⟨ha,hb,la,hc,hd,he,hf,hg,cz⟩:=BL (κ:=AJ) g9 g8
 replace cz:A8 cy d1 ha (hb+ag.toNat*7) hc:=cz
 obtain ⟨lb,rfl,d2⟩:=Am hg
 obtain ⟨d3,d4,rfl⟩:=AG d2
 refine Qx e rfl (fun _ ⟨_,c⟩=>Run.indexAddr DT hd rfl he hf)<|Qx e rfl (fun _ ⟨_,c⟩=>Run.loadN BF rfl rfl (A8.part0 (Es cz c) [I r.op,Sb r.name,Sb r.tail,I r.type_,Cx r.num,Sl d3 r.args d4,I r.at_] rfl))<|Qx e rfl (v:=ad) (fun _ ⟨_,c⟩=>Run.move rfl)<|Qx e rfl (v:=a5) (fun _ ⟨_,c⟩=>Run.move rfl)<|BX rfl<|Bi a fun am hh a=>BR rfl (.none rfl) rfl rfl (UC [.agg [I r.op,Sb r.name,Sb r.tail,I r.type_,Cx r.num,Sl d3 r.args d4,I r.at_].toArray,ad] rfl)<|Calls.mono (La cy d1 (kn0:=24) (kn1:=25) hh dcd dcd (Ae (x:=r) d2) (F7.one a2)) ?_
 rintro _ lc ⟨hi,d5,d6,ld,rfl,bl,hj,hk,hl⟩
 obtain ⟨le,rfl,d7⟩:=Am hk
 obtain ⟨hm,hn,rfl⟩:=AG d7
 refine ⟨_,rfl,⟨_,(Mo [24,25] bl)⟩,?_⟩
 refine Qx e rfl (v:=.agg [Sb bb.name,.func (.func 90) #[] [Pt d5 0,Pt d6 0].toArray,a5].toArray) (fun _ ⟨_,c⟩=>Fm (cs:=[Sb bb.name,.func (.func 90) #[] [Pt d5 0,Pt d6 0].toArray,a5]) [Sb ([]:List UInt8),.nilFunc,.pointer none] P7 P5 rfl (.cons rfl rfl rfl (.cons rfl rfl rfl (.cons rfl (IT (F7.one cw)) rfl .nil))) rfl rfl)<|BX rfl<|Cl rfl (.none rfl) rfl rfl (Bf hi 26 rfl rfl fun lf lg d8 ho a6=>?_)
 refine ⟨⟨_,(Tn (Mo [24,25] bl) a6)⟩,?_⟩
 refine Qx e rfl (v:=Pt d8 0) (fun _ ⟨_,c⟩=>Run.assign rfl)<|Dy<|AO<|Vr (I (Wr (ag+1)))<|Vm<|AA<|have hp:=Ss AJ d7 a6;have hq:=Bs hj a6;have hr:=Bs hl a6;have hs:=Me (Me (Me (Me (Me (Me (Me (Me (Me (Me (Me (Me (Me a2 m) l) f) g) al) ac) af) ab) bj) bk) bc) bl) a6; ?_
 obtain ⟨lh,c0,ht⟩:=MTh.layLater (D:=89) (ce:=[I am.op,Sb am.name,Sb am.tail,I am.type_,Cx am.num,Sl hm am.args hn,I am.at_]) hq hr dcd (Ae (x:=am) hp) hs
 refine have hu:=Bs ho c0;have hw:=Me (Me (Me (Me (Me (Me cw bj) bk) bc) bl) a6) c0; ?_
 obtain ⟨hx,hy,hz⟩:=F7.lay hu dcd ht hw
 exact ⟨ay,Nat.lt_succ_self ay,_,hx,(Nm.bind bb.name (Th.later am aj) bi),Pt d8 0,(Wr (ag+1)),Pu,(d0▸a),(T3 (T4 (Mo [23,24,25,26] ab) bj bk bc bl) a6 c0 hy),hz⟩
 refine Bc<|Sr<|Vm<|Vx (Run.fieldAddr L9 rfl)<|have h0:=Bs dy ab;Vx (Run.loadN BF rfl rfl (Bk.part h0 3 [I h.body.op,Sb h.body.name,Sb h.body.tail,I h.body.type_,Cx h.body.num,Sl cu h.body.args cv,I h.body.at_] rfl))<|Vm<|have h1:=Y3 cr ac af ab;have h2:=K3 AL ds ac af ab;have h3:=Ms (Ms (Ms dr ac) af) ab;have h4:=K2 AJ gr af ab;Bi a fun d9 h5 a=>H3 (.none rfl) rfl rfl (LP [Pt ah 0,.agg [I h.body.op,Sb h.body.name,Sb h.body.tail,I h.body.type_,Cx h.body.num,Sl cu h.body.args cv,I h.body.at_].toArray,a5] rfl)<|Calls.mono (ca.mean_run_look ba bh h5 dcd dcd h1 h2 h3 (Ae (x:=(AE.mk h.body.op h.body.name h.body.tail h.body.type_ h.body.num h.body.args h.body.at_)) h4) cw) ?_
 rintro _ li ⟨ea,lj,c1,eb,c2,h6⟩
 obtain ⟨ec,ed,rfl⟩:=AG c2
 obtain ⟨lk,h7,rfl⟩| ⟨p,h8,ll,rfl,lm,rfl,h9⟩:=ER.split h6
 refine have a:=Do a h7; .inl ⟨_,rfl,?_⟩
 obtain rfl:=AP a
 refine NC (B:=B) aa<|⟨ea,Sl ec d9.2.1 ed,Ho (T4 (T4 (Mo [1,22,23,24,25,26] m) l f g al) ac af ab c1) y,eb,c2,GB⟩
 refine have a:=Gg a h8; ?_
 obtain ⟨ln,bx,bz,rfl,c3,ee,ef⟩:=DM h9
 obtain ⟨b0,b1,rfl⟩:=AG c3
 refine .inr ⟨_,rfl,?_⟩
 refine have ia:=Y3 (Y4 aw f g al ac) af ab c1;Eu (Br (vs:=[I p.plain.type_,Cx p.plain.num,.bool p.plain.bool,Sl b0 p.plain.list b1,bx,bz]) (cs':=[I p.plain.type_,Cx p.plain.num,.bool p.plain.bool,Sl b0 p.plain.list b1,bx,bz]) It rfl rfl rfl rfl (AX rfl (AX rfl (AX rfl (AX (FQ c3) (AX (MTh.one ee) (AX (MTh.one ef) CQ)))))) ia dcd rfl rfl fun lo ib bd=>?_)
 refine AA<|AT ?_
 obtain rfl:=AP a
 refine Ax (B:=B) aa (BG rfl (.agg JG rfl rfl (Bk.part ib 0 [I p.plain.type_,Cx p.plain.num,.bool p.plain.bool,Sl b0 p.plain.list b1,bx,bz] rfl)) ?_)
 refine have ic:=Ss Kd.cpx c3 bd;have id:=Mt ee bd;have ie:=Mt ef bd;have ig:=Bs eb bd;have ih:=Ss AL c2 bd;⟨ea,Sl ec d9.2.1 ed,Ho (Tn (T4 (T4 (Mo [1,21,22,23,24,25,26] m) l f g al) ac af ab c1) bd) y,ig,ih,E9 ⟨[I p.plain.type_,Cx p.plain.num,.bool p.plain.bool,Sl b0 p.plain.list b1,bx,bz],rfl,(Cd (x:=p) ic id ie)⟩⟩
 refine Sr<|Vr (.bool (d.op==18))<|Va (.bool (d.op==18))<|AA<|Cn a (fun ii a=>?_) fun ii a=>?_
 refine AZ<|CJ FL (.q 0 (.q 1 (.q 2 (.q 3 (.q 4 (.q 6 (.q 7 (.q 8 (.q 9 (.q 10 (.one 5 (.one 11 (.q 12 (.one 13 .nil)))))))))))))) [13] [27,28,29,30] n (by kernel_rfl) fun c4 a7=>Qx e rfl (fun _ ⟨_,c⟩=>Run.fieldAddr Bq rfl)<|have eg:=Bs bg a7;Qx e rfl (fun _ ⟨_,c⟩=>Run.load1 EB rfl (Bk.cell (Bs eg c) rfl))<|Bi a fun u ij a=>have eh:=Ss AJ (K4 AJ bp m l f g) a7; ?_
 obtain ⟨ik,il,lp,im,io,ip,iq,ir,c5⟩:=BL (κ:=AJ) eh ij
 replace c5:A8 n c4 ik (il+(0:Int).toNat*7) im:=c5
 obtain ⟨lq,rfl,ei⟩:=Am ir
 obtain ⟨ej,ek,rfl⟩:=AG ei
 refine Qx e rfl (fun _ ⟨_,c⟩=>Run.indexAddr DT io rfl ip iq)<|Qx e rfl (fun _ ⟨_,c⟩=>Run.loadN BF rfl rfl (A8.part0 (Es c5 c) [I u.op,Sb u.name,Sb u.tail,I u.type_,Cx u.num,Sl ej u.args ek,I u.at_] rfl))<|Qx e rfl (v:=ad) (fun _ ⟨_,c⟩=>Run.move rfl)<|Qx e rfl (fun _ ⟨_,c⟩=>Run.fieldAddr Bq rfl)<|Qx e rfl (fun _ ⟨_,c⟩=>Run.load1 EB rfl (Bk.cell (Bs eg c) rfl))<|Bi a fun w it a=>?_
 obtain ⟨iu,iv,lr,iw,ix,iy,iz,i0,c6⟩:=BL (κ:=AJ) eh it
 replace c6:A8 n c4 iu (iv+(1:Int).toNat*7) iw:=c6
 obtain ⟨ls,rfl,el⟩:=Am i0
 obtain ⟨em,en,rfl⟩:=AG el
 refine Qx e rfl (fun _ ⟨_,c⟩=>Run.indexAddr DT ix rfl iy iz)<|Qx e rfl (fun _ ⟨_,c⟩=>Run.loadN BF rfl rfl (A8.part0 (Es c6 c) [I w.op,Sb w.name,Sb w.tail,I w.type_,Cx w.num,Sl em w.args en,I w.at_] rfl))<|Qx e rfl (v:=ad) (fun _ ⟨_,c⟩=>Run.move rfl)<|BX rfl<|Bi a fun an i1 a=>BR rfl (.none rfl) rfl rfl (UC [.agg [I u.op,Sb u.name,Sb u.tail,I u.type_,Cx u.num,Sl ej u.args ek,I u.at_].toArray,ad] rfl)<|Calls.mono (La n c4 (kn0:=27) (kn1:=28) i1 dcd dcd (Ae (x:=u) ei) (F7.one a2)) ?_
 rintro _ i2 ⟨i3,b2,b3,lt,rfl,az,i4,i5,i6⟩
 obtain ⟨lu,rfl,eo⟩:=Am i5
 obtain ⟨i7,i8,rfl⟩:=AG eo
 refine ⟨_,rfl,⟨_,(Mo [27,28,29,30] az)⟩,?_⟩
 refine BX rfl<|have i9:=Ss AJ el az;Bi a fun ao ja a=>BR rfl (.none rfl) rfl rfl (UC [.agg [I w.op,Sb w.name,Sb w.tail,I w.type_,Cx w.num,Sl em w.args en,I w.at_].toArray,ad] rfl)<|Calls.mono (La i3 i2 (kn0:=29) (kn1:=30) ja dcd dcd (Ae (x:=w) i9) (F7.one a2)) ?_
 rintro _ lv ⟨lw,b4,b5,lx,rfl,ap,jb,jc,jd⟩
 obtain ⟨ly,rfl,ep⟩:=Am jc
 obtain ⟨je,jf,rfl⟩:=AG ep
 refine ⟨_,rfl,⟨_,(Tn (Mo [27,28,29,30] az) ap)⟩,?_⟩
 refine Qx e rfl (v:=.agg [I 0,Cx (((0,0):Nat×Nat)),.bool false,.slice none 0 0,.func (.func 90) #[] [Pt b2 0,Pt b3 0].toArray,.func (.func 90) #[] [Pt b4 0,Pt b5 0].toArray].toArray) (fun _ ⟨_,c⟩=>Fm (cs:=[I 0,Cx (((0,0):Nat×Nat)),.bool false,.slice none 0 0,.func (.func 90) #[] [Pt b2 0,Pt b3 0].toArray,.func (.func 90) #[] [Pt b4 0,Pt b5 0].toArray]) [I 0,Cx (((0,0):Nat×Nat)),.bool false,.slice none 0 0,.nilFunc,.nilFunc] J9 Mg rfl (.cons rfl rfl rfl (.cons rfl rfl rfl .nil)) rfl rfl)<|FP dcd<|WY.one<|have jg:=Bs (Y4 aw f g a7 az) ap;Be rfl (.none rfl) rfl (St It jg rfl rfl rfl rfl fun lz jh ai=>?_)
 refine WY.nil<|AT<|have ji:=K2 AJ eo ap ai;have jj:=Y2 i4 ap ai;have jk:=Y2 i6 ap ai;have eq:=Me (Me (Me (Me (Me (Me (Me (Me a2 m) l) f) g) a7) az) ap) ai; ?_
 obtain ⟨l0,a0,jl⟩:=MTh.layLater (D:=89) (ce:=[I an.op,Sb an.name,Sb an.tail,I an.type_,Cx an.num,Sl i7 an.args i8,I an.at_]) jj jk dcd (Ae (x:=an) ji) eq
 refine have jm:=K2 AJ ep ai a0;have jn:=Y2 jb ai a0;have jo:=Y2 jd ai a0;have jp:=Me eq a0; ?_
 obtain ⟨jq,bm,jr⟩:=MTh.layLater (D:=89) (ce:=[I ao.op,Sb ao.name,Sb ao.tail,I ao.type_,Cx ao.num,Sl je ao.args jf,I ao.at_]) jn jo dcd (Ae (x:=ao) jm) jp
 obtain rfl:=AP a
 refine have js:=Y2 jh a0 bm;Ax (B:=B) aa (BG rfl (.agg JG rfl rfl (Bk.part js 0 [I 0,Cx (((0,0):Nat×Nat)),.bool false,.slice none 0 0,.func (.func 90) #[] [Pt b2 0,Pt b3 0].toArray,.func (.func 90) #[] [Pt b4 0,Pt b5 0].toArray] rfl)) ?_)
 refine have jt:=Mt jl bm;have ju:=Y2 (Y4 ak a7 az ap ai) a0 bm;have jv:=K2 AL (K4 AL (K4 AL ae m l f g) a7 az ap ai) a0 bm;⟨jq,Sl a3 z a4,Ho (Tn (T4 (T4 (Mo [1,21,27,28,29,30] m) l f g a7) az ap ai a0) bm) y,ju,jv,E9 ⟨[I 0,Cx (((0,0):Nat×Nat)),.bool false,.slice none 0 0,.func (.func 90) #[] [Pt b2 0,Pt b3 0].toArray,.func (.func 90) #[] [Pt b4 0,Pt b5 0].toArray],rfl,(Cd (x:=(Aq.mk (AI.mk 0 ((0,0):Nat×Nat) false []) (Th.later an aj) (Th.later ao aj))) CT jt jr)⟩⟩
 refine WC.skip<|⟨_,n,Pu,a,(AQ.refl [] _ _)⟩
 rintro _ ch ⟨ax,ci,rfl,a,aq⟩
 rw [KF] at a
 refine Sr<|Vm<|have jw:=Y4 de l f g aq;Vx (Run.loadN BF rfl rfl (Bk.part jw 0 [I d.op,Sb d.name,Sb d.tail,I d.type_,Cx d.num,Sl db d.args dc,I d.at_] rfl))<|Vm<|have jx:=Bs ak aq;have jy:=Ss AL (K4 AL ae m l f g) aq;have jz:=Ms (Ms (Ms (Ms (Ms cc m) l) f) g) aq;have j0:=Ss AJ (K4 AJ bp m l f g) aq;have j1:=Me (Me (Me (Me (Me a2 m) l) f) g) aq;Bi a fun er j2 a=>H3 (.none rfl) rfl rfl (AAc [Pt ah 0,.agg [I d.op,Sb d.name,Sb d.tail,I d.type_,Cx d.num,Sl db d.args dc,I d.at_].toArray,ad] rfl)<|Calls.mono (ca.mean_run_parts ci ch j2 dcd dcd jx jy jz (Ae (x:=d) j0) j1) ?_
 rintro _ l1 ⟨es,l2,c7,et,c8,j3⟩
 obtain ⟨eu,ew,rfl⟩:=AG c8
 obtain ⟨l3,j4,rfl⟩| ⟨q,j5,l4,rfl,l5,rfl,j6⟩:=ER.split j3
 refine have a:=Do a j4; .inl ⟨_,rfl,?_⟩
 obtain rfl:=AP a
 refine NC (B:=B) aa<|⟨es,Sl eu er.2.1 ew,Ho (Tn (T4 (Mo [1] m) l f g aq) c7) y,et,c8,GB⟩
 refine have a:=Gg a j5; ?_
 obtain ⟨l6,b6,b7,rfl,c9,ex,ey⟩:=DM j6
 obtain ⟨b8,b9,rfl⟩:=AG c9
 refine .inr ⟨_,rfl,?_⟩
 refine have j7:=Y4 aw f g aq c7;Eu (Br (vs:=[I q.plain.type_,Cx q.plain.num,.bool q.plain.bool,Sl b8 q.plain.list b9,b6,b7]) (cs':=[I q.plain.type_,Cx q.plain.num,.bool q.plain.bool,Sl b8 q.plain.list b9,b6,b7]) It rfl rfl rfl rfl (AX rfl (AX rfl (AX rfl (AX (FQ c9) (AX (MTh.one ex) (AX (MTh.one ey) CQ)))))) j7 dcd rfl rfl fun l7 j8 be=>?_)
 refine AA<|AT ?_
 obtain rfl:=AP a
 refine Ax (B:=B) aa (BG rfl (.agg JG rfl rfl (Bk.part j8 0 [I q.plain.type_,Cx q.plain.num,.bool q.plain.bool,Sl b8 q.plain.list b9,b6,b7] rfl)) ?_)
 refine have j9:=Ss Kd.cpx c9 be;have ka:=Mt ex be;have kb:=Mt ey be;have kc:=Bs et be;have kd:=Ss AL c8 be;⟨es,Sl eu er.2.1 ew,Ho (T2 (T4 (Mo [1,21] m) l f g aq) c7 be) y,kc,kd,E9 ⟨[I q.plain.type_,Cx q.plain.num,.bool q.plain.bool,Sl b8 q.plain.list b9,b6,b7],rfl,(Cd (x:=q) j9 ka kb)⟩⟩
theorem Pc(d:AU)(f:Nat)(m:AU.Good d):mean_run_look.Spec (BA d f):=by
 intro e g a c ac ad ae af ag ah ai aj ak al am an n hnd hnz l o p q s
 refine Calls.mono (Pb d f m (recol (see [a,c]) e) g (Az lbr e) n trivial trivial (A6 l [a,c] (BD hnd hnz (i:=0) rfl)) (By AL o [a,c]) (Ge p [a,c] (BD hnd hnz (i:=1) rfl)) (Au AJ q [a,c]) (F7.recol s [a,c])) ?_
 rintro ao ap ⟨w,y,z,aa,ab,en⟩
 exact ⟨glue [a,c] g e w,y,Ad z (DS rfl rfl),CK l aa dcd,DV AL ab,Od en fun r v ⟨u,hv,h⟩=>⟨u,hv,BB Gi h⟩⟩
theorem QG(p:AU)(ag:Nat)(ah:AU.Good p)(l:Col)(ai:World)(q:∀b,l b<10):mean_later_1.At True True l ai (K0 p ag) 1 2:=by
 intro aj bf bg bh bi bj bk c bl bm bn bo ak bp d _ _ al r am an ao ap aq
 rw [K0] at d
 obtain ⟨bq,br,rfl⟩:=AG r
 obtain ⟨bt,rfl,s⟩:=Am ao
 obtain ⟨u,w,rfl⟩:=AG s
 refine A0 Tryz.func90 rfl Tryz.ntmps90 rfl fun B y bu=>Sr<|Ef (Aa l 20 J9 rfl fun ar au bv av e=>?_)
 refine AA<|Sr<|Vm<|have aw:=Es an e;Vx (Run.loadN BF rfl rfl (A8.part0 aw [I c.op,Sb c.name,Sb c.tail,I c.type_,Cx c.num,Sl u c.args w,I c.at_] rfl))<|have ax:=Es ap e;Vx (Run.load1 X7 rfl (A8.cell0 ax rfl))<|have ay:=Bs al e;have az:=Ss AL r e;have a0:=Ms am e;have a1:=Ss AJ s e;have a2:=Me aq e;Bi d fun z a3 d=>H3 (.none rfl) rfl rfl (LP [Pt aj 0,.agg [I c.op,Sb c.name,Sb c.tail,I c.type_,Cx c.num,Sl u c.args w,I c.at_].toArray,ak] rfl)<|Calls.mono (ah.mean_run_look ar au a3 dcd dcd ay az a0 (Ae (x:=c) a1) a2) ?_
 rintro _ bw ⟨aa,bx,m,ab,n,a4⟩
 obtain ⟨ac,ad,rfl⟩:=AG n
 obtain ⟨bz,a5,rfl⟩| ⟨a,a6,b0,rfl,b1,rfl,a7⟩:=ER.split a4
 refine have d:=Do d a5; .inl ⟨_,rfl,?_⟩
 obtain rfl:=AP d
 refine NC (B:=B) y<|⟨aa,Sl ac z.2.1 ad,Ho (Tn (Mo [1] e) m) q,ab,n,GB⟩
 refine have d:=Gg d a6; ?_
 obtain ⟨b2,s52,s54,rfl,o,ae,af⟩:=DM a7
 obtain ⟨g,h,rfl⟩:=AG o
 refine .inr ⟨_,rfl,?_⟩
 refine have a8:=Bs av m;Eu (Br (vs:=[I a.plain.type_,Cx a.plain.num,.bool a.plain.bool,Sl g a.plain.list h,s52,s54]) (cs':=[I a.plain.type_,Cx a.plain.num,.bool a.plain.bool,Sl g a.plain.list h,s52,s54]) It rfl rfl rfl rfl (AX rfl (AX rfl (AX rfl (AX (FQ o) (AX (MTh.one ae) (AX (MTh.one af) CQ)))))) a8 dcd rfl rfl fun b3 a9 f=>?_)
 refine AA<|AT ?_
 obtain rfl:=AP d
 refine Ax (B:=B) y (BG rfl (.agg JG rfl rfl (Bk.part a9 0 [I a.plain.type_,Cx a.plain.num,.bool a.plain.bool,Sl g a.plain.list h,s52,s54] rfl)) ?_)
 refine have ba:=Ss Kd.cpx o f;have bb:=Mt ae f;have bc:=Mt af f;have bd:=Bs ab f;have be:=Ss AL n f;⟨aa,Sl ac z.2.1 ad,Ho (T2 (Mo [1,20] e) m f) q,bd,be,E9 ⟨[I a.plain.type_,Cx a.plain.num,.bool a.plain.bool,Sl g a.plain.list h,s52,s54],rfl,(Cd (x:=a) ba bb bc)⟩⟩
end Fth
