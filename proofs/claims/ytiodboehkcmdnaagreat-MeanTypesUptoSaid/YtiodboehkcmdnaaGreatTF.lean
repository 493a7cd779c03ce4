/- Part 6 of the proof: what it says holds of the given program; no condition. -/
import Derived.Test.YtiodboehkcmdnaaGreatProg
import Derived.KernelRfl
import Derived.Test.YtiodboehkcmdnaaGreatTE
set_option linter.all false
set_option exponentiation.threshold 3000
namespace Fth
open Go Go.Proofs Sh
set_option maxRecDepth 100000
set_option maxHeartbeats 8000000
theorem QH(d:AU)(f:Nat)(m:AU.Good d):mean_later_1.Spec (K0 d f):=by
 intro e g a c ae af ag ah ai aj ak al am an ao ap aq ar n hnd hnz l o p q s w y
 refine Calls.mono (QG d f m (recol (see [a,c]) e) g (Az lbr e) n trivial trivial (A6 l [a,c] (BD hnd hnz (i:=0) rfl)) (By AL o [a,c]) (Ge p [a,c] (BD hnd hnz (i:=1) rfl)) (O6 q [a,c]) (Au AJ s [a,c]) (O6 w [a,c]) (F7.recol y [a,c])) ?_
 rintro au av ⟨z,aa,ab,ac,ad,en⟩
 exact ⟨glue [a,c] g e z,aa,Ad ab (DS rfl rfl),CK l ac dcd,DV AL ad,Od en fun r v ⟨u,hv,h⟩=>⟨u,hv,BB Gi h⟩⟩
theorem Q6(f:AU)(l:Nat)(m:AU.Good f):mean_callth.Spec (KT f l):=by
 intro c d n af ag o ah ai aj ak al am an ao a hnd hnz g h p q
 cases q with
 |nil=>rw [KT] at a;exact BC a
 |done hF hlt hat hp hh ht=>
 rw [KT] at a
 refine Bi a fun r hr a=>?_
 obtain rfl:=AP a
 obtain ⟨ap,rfl,s⟩:=CU hp
 refine ⟨89,_,fun hx hv=>AAv (caps:=[Pt _ 0]) hx hv,?_⟩
 refine Calls.mono (SE c d hr ⟨hF,hlt,hat⟩ (show Gi.rep c.F d _ _ from ⟨_,_,_,rfl,s,hh,ht⟩) (v0:=Pt n 0) rfl) ?_
 rintro _ aq ⟨u,ar,rfl,e,hu⟩
 exact ⟨u,o,AQ.mono e (by simp),(Bk.step g e (by simp)),(Uo AL h e (by simp)),E9 ⟨_,rfl,hu⟩⟩
 |later w y z aa ab ac ad ae=>
 refine ⟨90,_,fun hx hv=>AAw (caps:=[Pt _ 0,Pt _ 0]) hx hv,?_⟩
 rw [KT] at a
 exact m.mean_later_1 c d a hnd hnz g h p ⟨w,y,ab⟩ ac ⟨z,aa,ad⟩ ae
theorem PD(bv:AU)(bm:Nat)(a3:AU.Good bv)(dv:Col)(ir:World)(p:∀b,dv b<10):mean_run_parts.At True True dv ir (A3 bv bm) 1 2:=by
 intro ao it sn iu iv iw cl h so cm ap dw a _ _ b7 bw b8 ix bx
 rw [A3] at a
 obtain ⟨iy,iz,rfl⟩:=AG bw
 obtain ⟨sp,rfl,bz⟩:=Am ix
 obtain ⟨i0,i1,rfl⟩:=AG bz
 refine A0 Tryz.func58 rfl Tryz.ntmps58 rfl fun B q m=>Sr<|Ef (Bf dv 20 rfl rfl fun i2 sq i3 i4 d=>?_)
 refine Ef (Aa i2 21 J9 rfl fun a6 bn fi bo c=>?_)
 refine AA<|AZ<|Sr<|Vx (Run.fieldAddr0 DR rfl)<|have aq:=Bs i4 c;Vx (Run.load1 HS rfl (Bk.cell aq rfl))<|AA<|Aj<|Sr<|Vr (.bool (h.op==19))<|Va (.bool (h.op==19))<|AA<|Cn a (fun i5 a=>?_) fun i5 a=>?_
 refine AZ<|Sr<|Vm<|Vx (Run.fieldAddr Bq rfl)<|Vx (Run.load1 EB rfl (Bk.cell aq rfl))<|Bi a fun ac i6 a=>have dx:=K2 AJ bz d c; ?_
 obtain ⟨i7,i8,sr,i9,ja,jb,jc,jd,dy⟩:=BL (κ:=AJ) dx i6
 replace dy:A8 a6 bn i7 (i8+(0:Int).toNat*7) i9:=dy
 obtain ⟨ss,rfl,fj⟩:=Am jd
 obtain ⟨fk,fl,rfl⟩:=AG fj
 refine Vx (Run.indexAddr DT ja rfl jb jc)<|Vx (Run.loadN BF rfl rfl (A8.part0 dy [I ac.op,Sb ac.name,Sb ac.tail,I ac.type_,Cx ac.num,Sl fk ac.args fl,I ac.at_] rfl))<|Vm<|have je:=Y2 b7 d c;have jf:=K2 AL bw d c;have dz:=Ms (Ms b8 d) c;have d0:=Me (Me bx d) c;Bi a fun jg jh a=>H3 (.none rfl) rfl rfl (LP [Pt ao 0,.agg [I ac.op,Sb ac.name,Sb ac.tail,I ac.type_,Cx ac.num,Sl fk ac.args fl,I ac.at_].toArray,ap] rfl)<|Calls.mono (a3.mean_run_look a6 bn jh dcd dcd je jf dz (Ae (x:=ac) fj) d0) ?_
 rintro _ cn ⟨b9,st,ad,d1,co,ji⟩
 obtain ⟨jj,jk,rfl⟩:=AG co
 obtain ⟨su,jl,rfl⟩| ⟨ar,jm,sv,rfl,sw,rfl,jn⟩:=ER.split ji
 refine have a:=Do a jl; .inl ⟨_,rfl,?_⟩
 obtain rfl:=AP a
 refine NC (B:=B) q<|⟨b9,Sl jj jg.2.1 jk,Ho (T2 (Mo [1] d) c ad) p,d1,co,GB⟩
 refine have a:=Gg a jm; ?_
 obtain ⟨sx,jo,jp,rfl,jq,sy,sz⟩:=DM jn
 obtain ⟨d2,d3,rfl⟩:=AG jq
 refine .inr ⟨_,rfl,?_⟩
 refine Vx (v:=.agg [I ar.plain.type_,Cx ar.plain.num,.bool ar.plain.bool,Sl d2 ar.plain.list d3].toArray) (O4 (cs:=[I ar.plain.type_,Cx ar.plain.num,.bool ar.plain.bool,Sl d2 ar.plain.list d3,jo,jp]) Rp rfl)<|Vx (v:=.bool ar.plain.bool) (Js (cs:=[I ar.plain.type_,Cx ar.plain.num,.bool ar.plain.bool,Sl d2 ar.plain.list d3]) X5 rfl rfl)<|AA<|Cn a (fun jr a=>?_) fun jr a=>?_
 refine Sr<|Vm<|Vx (Run.fieldAddr Bq rfl)<|have js:=Bs aq ad;Vx (Run.load1 EB rfl (Bk.cell js rfl))<|Bi a fun ae jt a=>have ju:=Ss AJ dx ad; ?_
 obtain ⟨jv,o90,s0,jw,jx,jy,jz,j0,d4⟩:=BL (κ:=AJ) ju jt
 replace d4:A8 b9 cn jv (o90+(1:Int).toNat*7) jw:=d4
 obtain ⟨s1,rfl,fm⟩:=Am j0
 obtain ⟨fn,fo,rfl⟩:=AG fm
 refine Vx (Run.indexAddr DT jx rfl jy jz)<|Vx (Run.loadN BF rfl rfl (A8.part0 d4 [I ae.op,Sb ae.name,Sb ae.tail,I ae.type_,Cx ae.num,Sl fn ae.args fo,I ae.at_] rfl))<|Vm<|have j1:=Ms dz ad;have j2:=Me d0 ad;Bi a fun fp j3 a=>H3 (.none rfl) rfl rfl (LP [Pt ao 0,.agg [I ae.op,Sb ae.name,Sb ae.tail,I ae.type_,Cx ae.num,Sl fn ae.args fo,I ae.at_].toArray,ap] rfl)<|Calls.mono (a3.mean_run_look b9 cn j3 dcd dcd d1 co j1 (Ae (x:=ae) fm) j2) ?_
 rintro _ s2 ⟨fq,s3,d5,fr,d6,j4⟩
 obtain ⟨fs,ft,rfl⟩:=AG d6
 obtain ⟨s4,j5,rfl⟩| ⟨r,j6,s5,rfl,s6,rfl,j7⟩:=ER.split j4
 refine have a:=Do a j5; .inl ⟨_,rfl,?_⟩
 obtain rfl:=AP a
 refine NC (B:=B) q<|⟨fq,Sl fs fp.2.1 ft,Ho (T3 (Mo [1] d) c ad d5) p,fr,d6,GB⟩
 refine have a:=Gg a j6; ?_
 obtain ⟨s7,cq,cr,rfl,d7,fu,fv⟩:=DM j7
 obtain ⟨ct,cu,rfl⟩:=AG d7
 refine .inr ⟨_,rfl,?_⟩
 refine have j8:=Y2 bo ad d5;Eu (Br (vs:=[I r.plain.type_,Cx r.plain.num,.bool r.plain.bool,Sl ct r.plain.list cu,cq,cr]) (cs':=[I r.plain.type_,Cx r.plain.num,.bool r.plain.bool,Sl ct r.plain.list cu,cq,cr]) It rfl rfl rfl rfl (AX rfl (AX rfl (AX rfl (AX (FQ d7) (AX (MTh.one fu) (AX (MTh.one fv) CQ)))))) j8 dcd rfl rfl fun s8 j9 b0=>?_)
 refine AA<|AT ?_
 obtain rfl:=AP a
 refine Ax (B:=B) q (BG rfl (.agg JG rfl rfl (Bk.part j9 0 [I r.plain.type_,Cx r.plain.num,.bool r.plain.bool,Sl ct r.plain.list cu,cq,cr] rfl)) ?_)
 refine have ka:=Ss Kd.cpx d7 b0;have kb:=Mt fu b0;have kc:=Mt fv b0;have kd:=Bs fr b0;have ke:=Ss AL d6 b0;⟨fq,Sl fs fp.2.1 ft,Ho (T4 (Mo [1,21] d) c ad d5 b0) p,kd,ke,E9 ⟨[I r.plain.type_,Cx r.plain.num,.bool r.plain.bool,Sl ct r.plain.list cu,cq,cr],rfl,(Cd (x:=r) ka kb kc)⟩⟩
 refine WC.skip<|Sr<|Vm<|Vx (Run.fieldAddr Bq rfl)<|have kf:=Bs aq ad;Vx (Run.load1 EB rfl (Bk.cell kf rfl))<|Bi a fun af kg a=>have kh:=Ss AJ dx ad; ?_
 obtain ⟨ki,kj,s9,kk,kl,km,kn,ko,d8⟩:=BL (κ:=AJ) kh kg
 replace d8:A8 b9 cn ki (kj+(2:Int).toNat*7) kk:=d8
 obtain ⟨ta,rfl,fw⟩:=Am ko
 obtain ⟨fx,fy,rfl⟩:=AG fw
 refine Vx (Run.indexAddr DT kl rfl km kn)<|Vx (Run.loadN BF rfl rfl (A8.part0 d8 [I af.op,Sb af.name,Sb af.tail,I af.type_,Cx af.num,Sl fx af.args fy,I af.at_] rfl))<|Vm<|have kp:=Ms dz ad;have kq:=Me d0 ad;Bi a fun fz kr a=>H3 (.none rfl) rfl rfl (LP [Pt ao 0,.agg [I af.op,Sb af.name,Sb af.tail,I af.type_,Cx af.num,Sl fx af.args fy,I af.at_].toArray,ap] rfl)<|Calls.mono (a3.mean_run_look b9 cn kr dcd dcd d1 co kp (Ae (x:=af) fw) kq) ?_
 rintro _ tb ⟨f0,tc,d9,f1,ea,ks⟩
 obtain ⟨f2,f3,rfl⟩:=AG ea
 obtain ⟨td,kt,rfl⟩| ⟨u,ku,te,rfl,tf,rfl,kv⟩:=ER.split ks
 refine have a:=Do a kt; .inl ⟨_,rfl,?_⟩
 obtain rfl:=AP a
 refine NC (B:=B) q<|⟨f0,Sl f2 fz.2.1 f3,Ho (T3 (Mo [1] d) c ad d9) p,f1,ea,GB⟩
 refine have a:=Gg a ku; ?_
 obtain ⟨tg,cv,cw,rfl,eb,f4,f5⟩:=DM kv
 obtain ⟨cx,cy,rfl⟩:=AG eb
 refine .inr ⟨_,rfl,?_⟩
 refine have kw:=Y2 bo ad d9;Eu (Br (vs:=[I u.plain.type_,Cx u.plain.num,.bool u.plain.bool,Sl cx u.plain.list cy,cv,cw]) (cs':=[I u.plain.type_,Cx u.plain.num,.bool u.plain.bool,Sl cx u.plain.list cy,cv,cw]) It rfl rfl rfl rfl (AX rfl (AX rfl (AX rfl (AX (FQ eb) (AX (MTh.one f4) (AX (MTh.one f5) CQ)))))) kw dcd rfl rfl fun th kx b1=>?_)
 refine AA<|AT ?_
 obtain rfl:=AP a
 refine Ax (B:=B) q (BG rfl (.agg JG rfl rfl (Bk.part kx 0 [I u.plain.type_,Cx u.plain.num,.bool u.plain.bool,Sl cx u.plain.list cy,cv,cw] rfl)) ?_)
 refine have ky:=Ss Kd.cpx eb b1;have kz:=Mt f4 b1;have k0:=Mt f5 b1;have k1:=Bs f1 b1;have k2:=Ss AL ea b1;⟨f0,Sl f2 fz.2.1 f3,Ho (T4 (Mo [1,21] d) c ad d9 b1) p,k1,k2,E9 ⟨[I u.plain.type_,Cx u.plain.num,.bool u.plain.bool,Sl cx u.plain.list cy,cv,cw],rfl,(Cd (x:=u) ky kz k0)⟩⟩
 refine Sr<|Vr (.bool (h.op==20))<|Va (.bool (h.op==20))<|AA<|Cn a (fun k3 a=>?_) fun k3 a=>?_
 refine Sr<|Vm<|Vx (Run.fieldAddr Bq rfl)<|Vx (Run.load1 EB rfl (Bk.cell aq rfl))<|Bi a fun ag k4 a=>have ec:=K2 AJ bz d c; ?_
 obtain ⟨k5,k6,ti,k7,k8,k9,la,lb,ed⟩:=BL (κ:=AJ) ec k4
 replace ed:A8 a6 bn k5 (k6+(0:Int).toNat*7) k7:=ed
 obtain ⟨tj,rfl,f6⟩:=Am lb
 obtain ⟨f7,f8,rfl⟩:=AG f6
 refine Vx (Run.indexAddr DT k8 rfl k9 la)<|Vx (Run.loadN BF rfl rfl (A8.part0 ed [I ag.op,Sb ag.name,Sb ag.tail,I ag.type_,Cx ag.num,Sl f7 ag.args f8,I ag.at_] rfl))<|Vm<|have lc:=Y2 b7 d c;have ld:=K2 AL bw d c;have ee:=Ms (Ms b8 d) c;have cz:=Me (Me bx d) c;Bi a fun le lf a=>H3 (.none rfl) rfl rfl (LP [Pt ao 0,.agg [I ag.op,Sb ag.name,Sb ag.tail,I ag.type_,Cx ag.num,Sl f7 ag.args f8,I ag.at_].toArray,ap] rfl)<|Calls.mono (a3.mean_run_look a6 bn lf dcd dcd lc ld ee (Ae (x:=ag) f6) cz) ?_
 rintro _ tk ⟨f9,tl,ah,ef,c0,lg⟩
 obtain ⟨lh,li,rfl⟩:=AG c0
 obtain ⟨tm,lj,rfl⟩| ⟨a7,lk,tn,rfl,to,rfl,ll⟩:=ER.split lg
 refine have a:=Do a lj; .inl ⟨_,rfl,?_⟩
 obtain rfl:=AP a
 refine NC (B:=B) q<|⟨f9,Sl lh le.2.1 li,Ho (T2 (Mo [1] d) c ah) p,ef,c0,GB⟩
 refine have a:=Gg a lk; ?_
 obtain ⟨tp,eg,c1,rfl,ga,gb,eh⟩:=DM ll
 obtain ⟨gc,gd,rfl⟩:=AG ga
 refine .inr ⟨_,rfl,?_⟩
 refine Ef (Aa f9 22 J9 rfl fun ei tq tr lm n=>?_)
 refine have ln:=Ss Kd.cpx ga n;Eu (Br (vs:=[I a7.plain.type_,Cx a7.plain.num,.bool a7.plain.bool,Sl gc a7.plain.list gd,eg,c1]) (cs':=[I a7.plain.type_,Cx a7.plain.num,.bool a7.plain.bool,Sl gc a7.plain.list gd,eg,c1]) It rfl rfl rfl rfl (AX rfl (AX rfl (AX rfl (AX (FQ ln) (AX (MTh.one gb) (AX (MTh.one eh) CQ)))))) lm dcd rfl rfl fun ge ej o=>?_)
 refine AA<|AZ<|Sr<|Vx (Run.fieldAddr OB rfl)<|Vx (Run.load1 OE rfl (Bk.cell ej rfl))<|have ek:=Mt (Mt gb n) o;Vx (v:=.bool (Th.isNil a7.head)) (QV UF rfl rfl ek)<|AA<|Cn a (fun lo a=>?_) fun lo a=>?_
 refine Sr<|Vm<|Vx (Run.fieldAddr Bq rfl)<|have lp:=Y3 aq ah n o;Vx (Run.load1 EB rfl (Bk.cell lp rfl))<|Bi a fun ai lq a=>have lr:=K3 AJ ec ah n o; ?_
 obtain ⟨ls,lt,ts,lu,lv,lw,lx,ly,el⟩:=BL (κ:=AJ) lr lq
 replace el:A8 ei ge ls (lt+(1:Int).toNat*7) lu:=el
 obtain ⟨tt,rfl,gf⟩:=Am ly
 obtain ⟨gg,gh,rfl⟩:=AG gf
 refine Vx (Run.indexAddr DT lv rfl lw lx)<|Vx (Run.loadN BF rfl rfl (A8.part0 el [I ai.op,Sb ai.name,Sb ai.tail,I ai.type_,Cx ai.num,Sl gg ai.args gh,I ai.at_] rfl))<|Vm<|have lz:=Y2 ef n o;have l0:=K2 AL c0 n o;have l1:=Ms (Ms (Ms ee ah) n) o;have l2:=Me (Me (Me cz ah) n) o;Bi a fun gi l3 a=>H3 (.none rfl) rfl rfl (LP [Pt ao 0,.agg [I ai.op,Sb ai.name,Sb ai.tail,I ai.type_,Cx ai.num,Sl gg ai.args gh,I ai.at_].toArray,ap] rfl)<|Calls.mono (a3.mean_run_look ei ge l3 dcd dcd lz l0 l1 (Ae (x:=ai) gf) l2) ?_
 rintro _ tu ⟨gj,tw,em,gk,en,l4⟩
 obtain ⟨gl,gm,rfl⟩:=AG en
 obtain ⟨tx,l5,rfl⟩| ⟨w,l6,ty,rfl,tz,rfl,l7⟩:=ER.split l4
 refine have a:=Do a l5; .inl ⟨_,rfl,?_⟩
 obtain rfl:=AP a
 refine NC (B:=B) q<|⟨gj,Sl gl gi.2.1 gm,Ho (Tn (T4 (Mo [1,22] d) c ah n o) em) p,gk,en,GB⟩
 refine have a:=Gg a l6; ?_
 obtain ⟨t0,c2,c3,rfl,eo,gn,go⟩:=DM l7
 obtain ⟨c4,c5,rfl⟩:=AG eo
 refine .inr ⟨_,rfl,?_⟩
 refine have l8:=Y4 bo ah n o em;Eu (Br (vs:=[I w.plain.type_,Cx w.plain.num,.bool w.plain.bool,Sl c4 w.plain.list c5,c2,c3]) (cs':=[I w.plain.type_,Cx w.plain.num,.bool w.plain.bool,Sl c4 w.plain.list c5,c2,c3]) It rfl rfl rfl rfl (AX rfl (AX rfl (AX rfl (AX (FQ eo) (AX (MTh.one gn) (AX (MTh.one go) CQ)))))) l8 dcd rfl rfl fun t1 l9 b2=>?_)
 refine AA<|AT ?_
 obtain rfl:=AP a
 refine Ax (B:=B) q (BG rfl (.agg JG rfl rfl (Bk.part l9 0 [I w.plain.type_,Cx w.plain.num,.bool w.plain.bool,Sl c4 w.plain.list c5,c2,c3] rfl)) ?_)
 refine have ma:=Ss Kd.cpx eo b2;have mb:=Mt gn b2;have mc:=Mt go b2;have md:=Bs gk b2;have me:=Ss AL en b2;⟨gj,Sl gl gi.2.1 gm,Ho (T2 (T4 (Mo [1,21,22] d) c ah n o) em b2) p,md,me,E9 ⟨[I w.plain.type_,Cx w.plain.num,.bool w.plain.bool,Sl c4 w.plain.list c5,c2,c3],rfl,(Cd (x:=w) ma mb mc)⟩⟩
 refine WC.skip<|Sr<|Vx (Run.fieldAddr EN rfl)<|have gp:=Y3 aq ah n o;Vx (Run.load1 CS rfl (Bk.cell gp rfl))<|Vx (Run.fieldAddr OB rfl)<|Vx (Run.load1 OE rfl (Bk.cell ej rfl))<|Vm<|Vx (v:=.agg [Sb h.name,eg,ap].toArray) (Bp P7 P5 rfl (.cons rfl rfl rfl (.cons rfl (IT (MTh.one ek)) rfl (.cons rfl (IT (F7.one cz)) rfl .nil))))<|Ef (Bf ei 23 rfl rfl fun ep t2 c6 mf ax=>?_)
 refine Va (Pt c6 0)<|AA<|AZ<|CJ FL (.q 0 (.q 1 (.q 2 (.q 3 (.q 4 (.q 5 (.q 6 (.q 7 (.q 8 (.q 9 (.q 10 (.one 11 (.one 12 (.one 13 .nil)))))))))))))) [13] [1,23,24] ep (by kernel_rfl) fun mg au=>Qx m rfl (v:=Pt ao 0) (fun _ ⟨_,f⟩=>Run.move rfl)<|Qx m rfl (fun _ ⟨_,f⟩=>Run.fieldAddr Bq rfl)<|have gq:=Y2 gp ax au;Qx m rfl (fun _ ⟨_,f⟩=>Run.load1 EB rfl (Bk.cell (Bs gq f) rfl))<|Bi a fun aj mh a=>have mi:=Ss AJ (K4 AJ ec ah n o ax) au; ?_
 obtain ⟨mj,mk,t3,ml,mm,mn,mo,mp,eq⟩:=BL (κ:=AJ) mi mh
 replace eq:A8 ep mg mj (mk+(2:Int).toNat*7) ml:=eq
 obtain ⟨t4,rfl,gr⟩:=Am mp
 obtain ⟨gs,gt,rfl⟩:=AG gr
 refine Qx m rfl (fun _ ⟨_,f⟩=>Run.indexAddr DT mm rfl mn mo)<|Qx m rfl (fun _ ⟨_,f⟩=>Run.loadN BF rfl rfl (A8.part0 (Es eq f) [I aj.op,Sb aj.name,Sb aj.tail,I aj.type_,Cx aj.num,Sl gs aj.args gt,I aj.at_] rfl))<|Qx m rfl (fun _ ⟨_,f⟩=>Run.fieldAddr M3 rfl)<|Qx m rfl (fun _ ⟨_,f⟩=>Run.load1 CS rfl (Bk.cell (Bs gq f) rfl))<|Qx m rfl (fun _ ⟨_,f⟩=>Run.fieldAddr U5 rfl)<|have mq:=Y2 ej ax au;Qx m rfl (fun _ ⟨_,f⟩=>Run.load1 OE rfl (Bk.cell (Bs mq f) rfl))<|Qx m rfl (v:=Pt c6 0) (fun _ ⟨_,f⟩=>Run.move rfl)<|Qx m rfl (v:=.agg [Sb h.tail,c1,Pt c6 0].toArray) (fun _ ⟨_,f⟩=>Fm (cs:=[Sb h.tail,c1,Pt c6 0]) [Sb ([]:List UInt8),.nilFunc,.pointer none] P7 P5 rfl (.cons rfl rfl rfl (.cons rfl (IT (MTh.one eh)) rfl (.cons rfl rfl rfl .nil))) rfl rfl)<|BX rfl<|Cl rfl (.none rfl) rfl rfl (Bf ep 24 rfl rfl fun t5 mr ms mt av=>?_)
 refine ⟨⟨_,(Mo [1,23,24] av)⟩,?_⟩
 refine T5 rfl<|have mu:=Y2 mf au av;have mv:=Mt (Mt (Mt ek ax) au) av;have mw:=Me (Me (Me (Me (Me (Me cz ah) n) o) ax) au) av; ?_
 obtain ⟨t6,a4,mx⟩:=F7.lay mu dcd mv mw
 refine have my:=Bs mt a4;have mz:=Mt (Mt (Mt (Mt (Mt (Mt eh n) o) ax) au) av) a4; ?_
 obtain ⟨m0,bc,m1⟩:=F7.lay my dcd mz mx
 refine have m2:=Y3 (Y4 ef n o ax au) av a4 bc;have m3:=K3 AL (K4 AL c0 n o ax au) av a4 bc;have m4:=Ms (Ms (Ms (Ms (Ms (Ms (Ms (Ms ee ah) n) o) ax) au) av) a4) bc;have m5:=K3 AJ gr av a4 bc;Bi a fun gu m6 a=>Tc.callp rfl (.none rfl) rfl rfl (LP [Pt ao 0,.agg [I aj.op,Sb aj.name,Sb aj.tail,I aj.type_,Cx aj.num,Sl gs aj.args gt,I aj.at_].toArray,Pt ms 0] rfl)<|Calls.mono (a3.mean_run_look m0 mr m6 dcd dcd m2 m3 m4 (Ae (x:=aj) m5) m1) ?_
 rintro _ t7 ⟨gv,t8,c7,gw,er,m7⟩
 obtain ⟨gx,gy,rfl⟩:=AG er
 obtain ⟨t9,m8,rfl⟩| ⟨y,m9,ua,rfl,ub,rfl,na⟩:=ER.split m7
 refine have a:=Do a m8; .inl ⟨_,rfl,?_⟩
 obtain rfl:=AP a
 refine NC (B:=B) q<|⟨gv,Sl gx gu.2.1 gy,Ho (T2 (T4 (T4 (Mo [1,22,23,24] d) c ah n o) ax au av a4) bc c7) p,gw,er,GB⟩
 refine have a:=Gg a m9; ?_
 obtain ⟨uc,c8,c9,rfl,es,gz,g0⟩:=DM na
 obtain ⟨da,db,rfl⟩:=AG es
 refine .inr ⟨_,rfl,⟨_,(T3 (Mo [1,23,24] av) a4 bc c7)⟩,?_⟩
 refine FP dcd<|WY.one<|have nb:=Bs (Y4 (Y4 bo ah n o ax) au av a4 bc) c7;Be rfl (.none rfl) rfl (Br (vs:=[I y.plain.type_,Cx y.plain.num,.bool y.plain.bool,Sl da y.plain.list db,c8,c9]) (cs':=[I y.plain.type_,Cx y.plain.num,.bool y.plain.bool,Sl da y.plain.list db,c8,c9]) It rfl rfl rfl rfl (AX rfl (AX rfl (AX rfl (AX (FQ es) (AX (MTh.one gz) (AX (MTh.one g0) CQ)))))) nb dcd rfl rfl fun ud nc b3=>?_)
 refine WY.nil<|AT ?_
 obtain rfl:=AP a
 refine Ax (B:=B) q (BG rfl (.agg JG rfl rfl (Bk.part nc 0 [I y.plain.type_,Cx y.plain.num,.bool y.plain.bool,Sl da y.plain.list db,c8,c9] rfl)) ?_)
 refine have nd:=Ss Kd.cpx es b3;have ne:=Mt gz b3;have nf:=Mt g0 b3;have ng:=Bs gw b3;have nh:=Ss AL er b3;⟨gv,Sl gx gu.2.1 gy,Ho (T3 (T4 (T4 (Mo [1,21,22,23,24] d) c ah n o) ax au av a4) bc c7 b3) p,ng,nh,E9 ⟨[I y.plain.type_,Cx y.plain.num,.bool y.plain.bool,Sl da y.plain.list db,c8,c9],rfl,(Cd (x:=y) nd ne nf)⟩⟩
 refine Sr<|Vr (.bool (h.op==21))<|Va (.bool (h.op==21))<|AA<|Cn a (fun ni a=>?_) fun ni a=>?_
 refine Sr<|Vx (Run.fieldAddr EN rfl)<|Vx (Run.load1 CS rfl (Bk.cell aq rfl))<|Vm<|Vx (v:=.agg [Sb h.name,.nilFunc,ap].toArray) (Bp P7 P5 rfl (.cons rfl rfl rfl (.cons rfl (IT (F7.one bx)) rfl .nil)))<|Ef (Bf a6 25 rfl rfl fun g1 g2 et nj a8=>?_)
 refine Va (Pt et 0)<|AA<|Sr<|Vm<|Vx (Run.fieldAddr Bq rfl)<|have g3:=Bs aq a8;Vx (Run.load1 EB rfl (Bk.cell g3 rfl))<|Bi a fun ak nk a=>have g4:=K3 AJ bz d c a8; ?_
 obtain ⟨nl,nm,ue,np,nq,nr,ns,nt,eu⟩:=BL (κ:=AJ) g4 nk
 replace eu:A8 g1 g2 nl (nm+(0:Int).toNat*7) np:=eu
 obtain ⟨uf,rfl,g5⟩:=Am nt
 obtain ⟨g6,g7,rfl⟩:=AG g5
 refine Vx (Run.indexAddr DT nq rfl nr ns)<|Vx (Run.loadN BF rfl rfl (A8.part0 eu [I ak.op,Sb ak.name,Sb ak.tail,I ak.type_,Cx ak.num,Sl g6 ak.args g7,I ak.at_] rfl))<|Vm<|Bi a fun bd nu a=>Ca (UC [.agg [I ak.op,Sb ak.name,Sb ak.tail,I ak.type_,Cx ak.num,Sl g6 ak.args g7,I ak.at_].toArray,Pt et 0] rfl) (La g1 g2 (kn0:=26) (kn1:=27) nu dcd dcd (Ae (x:=ak) g5) rfl) ?_
 rintro _ ug ⟨nv,uh,ui,uj,rfl,a5,nw,nx,ny⟩
 obtain ⟨uk,rfl,g8⟩:=Am nx
 obtain ⟨n0,n1,rfl⟩:=AG g8
 refine ⟨_,rfl,?_⟩
 refine Vx (Run.nilCheck rfl)<|Vx (Run.fieldAddr U4 rfl)<|have n2:=Bs nj a5;Eu (St AA3 n2 rfl rfl rfl rfl fun g9 n4 ay=>?_)
 refine AA<|Sr<|Vm<|Vx (Run.fieldAddr Bq rfl)<|have n5:=Y2 g3 a5 ay;Vx (Run.load1 EB rfl (Bk.cell n5 rfl))<|Bi a fun al n6 a=>have n7:=K2 AJ g4 a5 ay; ?_
 obtain ⟨n8,oa,ul,ob,oc,od,oe,og,ew⟩:=BL (κ:=AJ) n7 n6
 replace ew:A8 nv g9 n8 (oa+(1:Int).toNat*7) ob:=ew
 obtain ⟨um,rfl,ha⟩:=Am og
 obtain ⟨hb,hc,rfl⟩:=AG ha
 refine Vx (Run.indexAddr DT oc rfl od oe)<|Vx (Run.loadN BF rfl rfl (A8.part0 ew [I al.op,Sb al.name,Sb al.tail,I al.type_,Cx al.num,Sl hb al.args hc,I al.at_] rfl))<|Vm<|have oh:=Ss AJ g8 ay;have oi:=Bs nw ay;have oj:=Bs ny ay;have ok:=Me (Me (Me (Me (Me bx d) c) a8) a5) ay; ?_
 obtain ⟨ol,bp,om⟩:=F7.layRec (D:=89) (ce:=[I bd.op,Sb bd.name,Sb bd.tail,I bd.type_,Cx bd.num,Sl n0 bd.args n1,I bd.at_]) n4 oi oj dcd (Ae (x:=bd) oh) ok
 refine have oo:=Y2 (Y4 b7 d c a8 a5) ay bp;have op:=K2 AL (K4 AL bw d c a8 a5) ay bp;have oq:=Ms (Ms (Ms (Ms (Ms (Ms b8 d) c) a8) a5) ay) bp;have os:=Ss AJ ha bp;Bi a fun hd ot a=>H3 (.none rfl) rfl rfl (LP [Pt ao 0,.agg [I al.op,Sb al.name,Sb al.tail,I al.type_,Cx al.num,Sl hb al.args hc,I al.at_].toArray,Pt et 0] rfl)<|Calls.mono (a3.mean_run_look ol g9 ot dcd dcd oo op oq (Ae (x:=al) os) om) ?_
 rintro _ un ⟨he,uo,ex,hf,ey,ou⟩
 obtain ⟨hg,hh,rfl⟩:=AG ey
 obtain ⟨up,ov,rfl⟩| ⟨z,ow,uq,rfl,ur,rfl,ox⟩:=ER.split ou
 refine have a:=Do a ov; .inl ⟨_,rfl,?_⟩
 obtain rfl:=AP a
 refine NC (B:=B) q<|⟨he,Sl hg hd.2.1 hh,Ho (T2 (T4 (Mo [1,25,26,27] d) c a8 a5 ay) bp ex) p,hf,ey,GB⟩
 refine have a:=Gg a ow; ?_
 obtain ⟨us,dc,de,rfl,ez,hi,hj⟩:=DM ox
 obtain ⟨df,dg,rfl⟩:=AG ez
 refine .inr ⟨_,rfl,?_⟩
 refine have oy:=Bs (Y4 bo a8 a5 ay bp) ex;Eu (Br (vs:=[I z.plain.type_,Cx z.plain.num,.bool z.plain.bool,Sl df z.plain.list dg,dc,de]) (cs':=[I z.plain.type_,Cx z.plain.num,.bool z.plain.bool,Sl df z.plain.list dg,dc,de]) It rfl rfl rfl rfl (AX rfl (AX rfl (AX rfl (AX (FQ ez) (AX (MTh.one hi) (AX (MTh.one hj) CQ)))))) oy dcd rfl rfl fun ut oz b4=>?_)
 refine AA<|AT ?_
 obtain rfl:=AP a
 refine Ax (B:=B) q (BG rfl (.agg JG rfl rfl (Bk.part oz 0 [I z.plain.type_,Cx z.plain.num,.bool z.plain.bool,Sl df z.plain.list dg,dc,de] rfl)) ?_)
 refine have o0:=Ss Kd.cpx ez b4;have o1:=Mt hi b4;have o2:=Mt hj b4;have o6:=Bs hf b4;have o7:=Ss AL ey b4;⟨he,Sl hg hd.2.1 hh,Ho (T3 (T4 (Mo [1,21,25,26,27] d) c a8 a5 ay) bp ex b4) p,o6,o7,E9 ⟨[I z.plain.type_,Cx z.plain.num,.bool z.plain.bool,Sl df z.plain.list dg,dc,de],rfl,(Cd (x:=z) o0 o1 o2)⟩⟩
 refine Sr<|Vr (.bool (h.op==22))<|Va (.bool (h.op==22))<|AA<|Cn a (fun o8 a=>?_) fun o8 a=>?_
 refine Sr<|Vm<|Vx (Run.fieldAddr Bq rfl)<|Vx (Run.load1 EB rfl (Bk.cell aq rfl))<|Bi a fun am pa a=>have hk:=K2 AJ bz d c; ?_
 obtain ⟨pb,pc,uu,pd,pe,pf,pg,ph,e0⟩:=BL (κ:=AJ) hk pa
 replace e0:A8 a6 bn pb (pc+(0:Int).toNat*7) pd:=e0
 obtain ⟨uv,rfl,hl⟩:=Am ph
 obtain ⟨hm,hn,rfl⟩:=AG hl
 refine Vx (Run.indexAddr DT pe rfl pf pg)<|Vx (Run.loadN BF rfl rfl (A8.part0 e0 [I am.op,Sb am.name,Sb am.tail,I am.type_,Cx am.num,Sl hm am.args hn,I am.at_] rfl))<|Vm<|have pi:=Y2 b7 d c;have pj:=K2 AL bw d c;have ho:=Ms (Ms b8 d) c;have e1:=Me (Me bx d) c;Bi a fun pk pl a=>H3 (.none rfl) rfl rfl (LP [Pt ao 0,.agg [I am.op,Sb am.name,Sb am.tail,I am.type_,Cx am.num,Sl hm am.args hn,I am.at_].toArray,ap] rfl)<|Calls.mono (a3.mean_run_look a6 bn pl dcd dcd pi pj ho (Ae (x:=am) hl) e1) ?_
 rintro _ uw ⟨hp,ux,be,hq,e2,pm⟩
 obtain ⟨pn,po,rfl⟩:=AG e2
 obtain ⟨uy,pp,rfl⟩| ⟨aa,pq,uz,rfl,u0,rfl,pr⟩:=ER.split pm
 refine have a:=Do a pp; .inl ⟨_,rfl,?_⟩
 obtain rfl:=AP a
 refine NC (B:=B) q<|⟨hp,Sl pn pk.2.1 po,Ho (T2 (Mo [1] d) c be) p,hq,e2,GB⟩
 refine have a:=Gg a pq; ?_
 obtain ⟨u2,dh,di,rfl,hr,hs,ht⟩:=DM pr
 obtain ⟨dj,dk,rfl⟩:=AG hr
 refine .inr ⟨_,rfl,?_⟩
 refine Ef (Aa hp 28 J9 rfl fun e3 u3 u4 ps az=>?_)
 refine have hu:=Ss Kd.cpx hr az;Eu (Br (vs:=[I aa.plain.type_,Cx aa.plain.num,.bool aa.plain.bool,Sl dj aa.plain.list dk,dh,di]) (cs':=[I aa.plain.type_,Cx aa.plain.num,.bool aa.plain.bool,Sl dj aa.plain.list dk,dh,di]) It rfl rfl rfl rfl (AX rfl (AX rfl (AX rfl (AX (FQ hu) (AX (MTh.one hs) (AX (MTh.one ht) CQ)))))) ps dcd rfl rfl fun u5 pt a0=>?_)
 refine AA<|AZ<|CJ FL (.q 0 (.q 1 (.q 2 (.q 3 (.q 4 (.q 5 (.q 6 (.q 7 (.q 9 (.one 8 (.q 10 (.one 11 (.one 12 (.one 13 .nil)))))))))))))) [13] [1,29] e3 (by kernel_rfl) fun hw aw=>Qx m rfl (v:=Pt ao 0) (fun _ ⟨_,f⟩=>Run.move rfl)<|Qx m rfl (fun _ ⟨_,f⟩=>Run.fieldAddr Bq rfl)<|have hx:=Y4 aq be az a0 aw;Qx m rfl (fun _ ⟨_,f⟩=>Run.load1 EB rfl (Bk.cell (Bs hx f) rfl))<|Bi a fun an pu a=>have pv:=K4 AJ hk be az a0 aw; ?_
 obtain ⟨pw,px,u6,py,pz,p0,p1,p2,e4⟩:=BL (κ:=AJ) pv pu
 replace e4:A8 e3 hw pw (px+(1:Int).toNat*7) py:=e4
 obtain ⟨u7,rfl,hy⟩:=Am p2
 obtain ⟨hz,h0,rfl⟩:=AG hy
 refine Qx m rfl (fun _ ⟨_,f⟩=>Run.indexAddr DT pz rfl p0 p1)<|Qx m rfl (fun _ ⟨_,f⟩=>Run.loadN BF rfl rfl (A8.part0 (Es e4 f) [I an.op,Sb an.name,Sb an.tail,I an.type_,Cx an.num,Sl hz an.args h0,I an.at_] rfl))<|Qx m rfl (fun _ ⟨_,f⟩=>Run.fieldAddr EN rfl)<|Qx m rfl (fun _ ⟨_,f⟩=>Run.load1 CS rfl (Bk.cell (Bs hx f) rfl))<|have p3:=Bs pt aw;Qx m rfl (fun _ ⟨_,f⟩=>Run.loadN JG rfl rfl (Bk.part (Bs p3 f) 0 [I aa.plain.type_,Cx aa.plain.num,.bool aa.plain.bool,Sl dj aa.plain.list dk,dh,di] rfl))<|Qx m rfl (v:=ap) (fun _ ⟨_,f⟩=>Run.move rfl)<|BX rfl<|have p4:=K2 Kd.cpx hu a0 aw;have p5:=Mt (Mt (Mt hs az) a0) aw;have p6:=Mt (Mt (Mt ht az) a0) aw;Bi a fun u8 p7 a=>BR rfl (.none rfl) rfl rfl (Rj [.agg [I aa.plain.type_,Cx aa.plain.num,.bool aa.plain.bool,Sl dj aa.plain.list dk,dh,di].toArray] rfl)<|Calls.mono (LD e3 hw p7 (Cd (x:=aa) p4 p5 p6)) ?_
 rintro _ va ⟨p8,h1,rfl,a1,h2⟩
 refine ⟨_,rfl,⟨_,(Mo [1,29] a1)⟩,?_⟩
 refine Qx m rfl (v:=.agg [Sb h.name,h1,ap].toArray) (fun _ ⟨_,f⟩=>Fm (cs:=[Sb h.name,h1,ap]) [Sb ([]:List UInt8),.nilFunc,.pointer none] P7 P5 rfl (.cons rfl rfl rfl (.cons rfl (IT (MTh.one h2)) rfl (.cons rfl (IT (F7.one e1)) rfl .nil))) rfl rfl)<|BX rfl<|Cl rfl (.none rfl) rfl rfl (Bf p8 29 rfl rfl fun vb p9 qa qb a2=>?_)
 refine ⟨⟨_,(Tn (Mo [1,29] a1) a2)⟩,?_⟩
 refine T5 rfl<|have qc:=Mt h2 a2;have qd:=Me (Me (Me (Me (Me (Me e1 be) az) a0) aw) a1) a2; ?_
 obtain ⟨qe,bf,qf⟩:=F7.lay qb dcd qc qd
 refine have qg:=Y2 (Y4 hq az a0 aw a1) a2 bf;have qh:=K2 AL (K4 AL e2 az a0 aw a1) a2 bf;have qi:=Ms (Ms (Ms (Ms (Ms (Ms (Ms ho be) az) a0) aw) a1) a2) bf;have qj:=K3 AJ hy a1 a2 bf;Bi a fun h3 qk a=>Tc.callp rfl (.none rfl) rfl rfl (LP [Pt ao 0,.agg [I an.op,Sb an.name,Sb an.tail,I an.type_,Cx an.num,Sl hz an.args h0,I an.at_].toArray,Pt qa 0] rfl)<|Calls.mono (a3.mean_run_look qe p9 qk dcd dcd qg qh qi (Ae (x:=an) qj) qf) ?_
 rintro _ vc ⟨h4,vd,dl,h5,e5,ql⟩
 obtain ⟨h6,h7,rfl⟩:=AG e5
 obtain ⟨ve,qm,rfl⟩| ⟨ab,qn,vf,rfl,vg,rfl,qo⟩:=ER.split ql
 refine have a:=Do a qm; .inl ⟨_,rfl,?_⟩
 obtain rfl:=AP a
 refine NC (B:=B) q<|⟨h4,Sl h6 h3.2.1 h7,Ho (Tn (T4 (T4 (Mo [1,28,29] d) c be az a0) aw a1 a2 bf) dl) p,h5,e5,GB⟩
 refine have a:=Gg a qn; ?_
 obtain ⟨vh,dm,dn,rfl,e6,h8,h9⟩:=DM qo
 obtain ⟨dp,dq,rfl⟩:=AG e6
 refine .inr ⟨_,rfl,⟨_,(T3 (Mo [1,29] a1) a2 bf dl)⟩,?_⟩
 refine FP dcd<|WY.one<|have qp:=Y4 (Y4 bo be az a0 aw) a1 a2 bf dl;Be rfl (.none rfl) rfl (Br (vs:=[I ab.plain.type_,Cx ab.plain.num,.bool ab.plain.bool,Sl dp ab.plain.list dq,dm,dn]) (cs':=[I ab.plain.type_,Cx ab.plain.num,.bool ab.plain.bool,Sl dp ab.plain.list dq,dm,dn]) It rfl rfl rfl rfl (AX rfl (AX rfl (AX rfl (AX (FQ e6) (AX (MTh.one h8) (AX (MTh.one h9) CQ)))))) qp dcd rfl rfl fun vi qq b5=>?_)
 refine WY.nil<|AT ?_
 obtain rfl:=AP a
 refine Ax (B:=B) q (BG rfl (.agg JG rfl rfl (Bk.part qq 0 [I ab.plain.type_,Cx ab.plain.num,.bool ab.plain.bool,Sl dp ab.plain.list dq,dm,dn] rfl)) ?_)
 refine have qr:=Ss Kd.cpx e6 b5;have qs:=Mt h8 b5;have qt:=Mt h9 b5;have qu:=Bs h5 b5;have qv:=Ss AL e5 b5;⟨h4,Sl h6 h3.2.1 h7,Ho (T2 (T4 (T4 (Mo [1,21,28,29] d) c be az a0) aw a1 a2 bf) dl b5) p,qu,qv,E9 ⟨[I ab.plain.type_,Cx ab.plain.num,.bool ab.plain.bool,Sl dp ab.plain.list dq,dm,dn],rfl,(Cd (x:=ab) qr qs qt)⟩⟩
 refine WC.skip<|Sr<|Va (.slice none 0 0)<|AA<|AZ<|Sr<|Vx (Run.fieldAddr Bq rfl)<|Vx (Run.load1 EB rfl (Bk.cell aq rfl))<|have ia:=K2 AJ bz d c; ?_
 obtain ⟨vj,vk,qw⟩:=AG ia
 refine Vx (v:=I (h.args.length:Int)) (Run.lenSlc DT qw)<|Vm<|AA<|Aj<|Bt (fun bg e7 bq=>∃(ca:Env) (br:Col) (a9:(List AI)) (dr:Option Addr) (ds:Nat) (bh:Int) (ba:(List AK)) (cb:Option Addr) (cc:Nat) (cd:Int) (cf:Int),e7=ca.puts [(0,.pointer (some ⟨ao,0,none⟩)),(2,ap),(4,.pointer (some ⟨i3,0,none⟩)),(6,.pointer (some ⟨fi,0,none⟩)),(10,.slice dr a9.length ds),(127,.slice i0 h.args.length i1),(128,.int .i64 (h.args.length:Int)),(129,.int .i64 bh)]∧DD bv bm cl h cm bg a9 bh ba cd cf=some dw∧AQ [1,30,32] a6 bn br bq∧Own A1 38 br bq 32 (Sl dr a9 ds) a9∧Slc AL br.F bq (Sl cb ba cc) ba∧Bk br bq 1 ao [.map (some iw),Sl cb ba cc,I cd,I cf] 83) bm ?_ ?_
 refine have qx:=K2 AL bw d c;have qy:=Y2 b7 d c;⟨_,a6,([]:List AI),none,0,0,it,iy,iz,iu,iv,Pu,a,(AQ.refl [1,30,32] _ _),Own.nil,qx,qy⟩
 rintro bg _ bq ⟨ca,br,a9,dr,ds,bh,ba,cb,cc,cd,cf,rfl,a,bb,ib,e8,e9⟩
 rcases bg with _|bg
 exact BC a
 refine have a:BJ bv bm cl h cm (DD bv bm cl h cm bg) a9 bh ba cd cf=some dw:=a; ?_
 obtain ⟨vl,ic⟩:∃s,s=DD bv bm cl h cm bg:=⟨_,rfl⟩
 rw [←ic,BJ] at a
 refine Sr<|Vr (.bool (decide (bh< (h.args.length:Int))))<|AA<|AZ<|Cn a (fun qz a=>?_) fun qz a=>?_
 refine WC.skip<|AZ<|Aj<|Sr<|Bi a fun l q0 a=>have q1:=Ss AJ ia bb; ?_
 obtain ⟨q2,q3,vm,q4,q5,q6,q7,q8,fa⟩:=BL (κ:=AJ) q1 q0
 replace fa:A8 br bq q2 (q3+bh.toNat*7) q4:=fa
 obtain ⟨vn,rfl,id⟩:=Am q8
 obtain ⟨fb,fc,rfl⟩:=AG id
 refine Vx (Run.indexAddr DT q5 rfl q6 q7)<|Vx (Run.loadN BF rfl rfl (A8.part0 fa [I l.op,Sb l.name,Sb l.tail,I l.type_,Cx l.num,Sl fb l.args fc,I l.at_] rfl))<|Ef (Aa br 30 DN rfl fun q9 vo vp ra bi=>?_)
 refine have rb:=Ss AJ id bi;Eu (St Dj ra rfl rfl rfl rfl fun rc rd bj=>?_)
 refine AA<|AO<|Vm<|Vm<|Vx (Run.loadN BF rfl rfl (Bk.part rd 0 [I l.op,Sb l.name,Sb l.tail,I l.type_,Cx l.num,Sl fb l.args fc,I l.at_] rfl))<|Vm<|have re:=Y2 e9 bi bj;have rf:=K2 AL e8 bi bj;have rg:=Ms (Ms (Ms (Ms (Ms b8 d) c) bb) bi) bj;have rh:=Ss AJ rb bj;have ri:=Me (Me (Me (Me (Me bx d) c) bb) bi) bj;Bi a fun dt rj a=>H3 (.none rfl) rfl rfl (LP [Pt ao 0,.agg [I l.op,Sb l.name,Sb l.tail,I l.type_,Cx l.num,Sl fb l.args fc,I l.at_].toArray,ap] rfl)<|Calls.mono (a3.mean_run_look q9 rc rj dcd dcd re rf rg (Ae (x:=l) rh) ri) ?_
 rintro _ vq ⟨ie,vr,fd,ig,fe,rk⟩
 obtain ⟨ih,ii,rfl⟩:=AG fe
 obtain ⟨vt,rl,rfl⟩| ⟨e,rm,vu,rfl,vv,rfl,rn⟩:=ER.split rk
 refine have a:=Do a rl; .inl ⟨_,rfl,?_⟩
 obtain rfl:=AP a
 refine NC (B:=B) q<|⟨ie,Sl ih dt.2.1 ii,Ho (Tn (T4 (Mo [1,30,32] d) c bb bi bj) fd) p,ig,fe,GB⟩
 refine have a:=Gg a rm; ?_
 obtain ⟨vw,ro,rp,rfl,ij,vx,vy⟩:=DM rn
 obtain ⟨cg,ch,rfl⟩:=AG ij
 refine .inr ⟨_,rfl,?_⟩
 refine Vx (v:=.agg [I e.plain.type_,Cx e.plain.num,.bool e.plain.bool,Sl cg e.plain.list ch].toArray) (O4 (cs:=[I e.plain.type_,Cx e.plain.num,.bool e.plain.bool,Sl cg e.plain.list ch,ro,rp]) Rp rfl)<|Ef (DC (cs:=[I e.plain.type_,Cx e.plain.num,.bool e.plain.bool,Sl cg e.plain.list ch]) ie 31 [[I e.plain.type_,Cx e.plain.num,.bool e.plain.bool,Sl cg e.plain.list ch]] Kk FI rfl rfl (.cons rfl rfl rfl .nil) rfl fun rq rr rs rt ci=>?_)
 refine have ru:=Ss Kd.cpx ij ci;have rx:Own A1 38 rq rr 31 (.slice (some ⟨rs,0,none⟩) 1 1) ([(AI.mk e.plain.type_ e.plain.num e.plain.bool e.plain.list)]:List AI):=Own.lit (css:=[[I e.plain.type_,Cx e.plain.num,.bool e.plain.bool,Sl cg e.plain.list ch]]) rt rfl rfl rfl (AW (BP (x:=(AI.mk e.plain.type_ e.plain.num e.plain.bool e.plain.list)) ru) BE) (A2 rfl ED) rfl;have ry:=Os (Os (Os (Os ib bi) bj) fd) ci;Bi a fun vz ik a=>Ef (Bx (κ:=A1) rfl rfl ry dcd Xn (Cj rx) (FW ik) (Fk ik) fun v1 rz v2 il ff=>?_)
 obtain ⟨im,io,rfl⟩:=Own.len il
 refine Va (Sl im ((a9++([(AI.mk e.plain.type_ e.plain.num e.plain.bool e.plain.list)]:List AI))) io)<|AA<|AO<|Vr (I (Wr (bh+1)))<|Vm<|AA<|have r0:=K2 AL fe ci ff;have r1:=Y2 ig ci ff;⟨bg,Nat.lt_succ_self bg,_,rz,(a9++([(AI.mk e.plain.type_ e.plain.num e.plain.bool e.plain.list)]:List AI)),im,io,(Wr (bh+1)),dt.2.1,ih,ii,dt.2.2.1,dt.2.2.2,Pu,(ic▸a),(Tn (T4 (Mo [1,30,32] bb) bi bj fd ci) ff),il,r0,r1⟩
 refine Bc<|Sr<|Vx (Run.fieldAddr0 DR rfl)<|have r2:=Bs aq bb;Vx (Run.load1 HS rfl (Bk.cell r2 rfl))<|Vm ?_
 obtain ⟨r3,bt,r4⟩:=Own.freeze (S:=[32]) ib dcd dcd
 refine Bi a fun g r5 a=>Ca (AAn [I h.op,Sl dr a9 ds] rfl) (TP bm r3 bq r5 r4) ?_
 rintro _ v3 ⟨r6,v4,rfl,bu,r7⟩
 obtain ⟨v5,rfl,ip⟩:=CU r7
 obtain ⟨cj,ck,rfl⟩:=AG ip
 refine ⟨_,rfl,?_⟩
 refine Vm<|Vr (.agg [I g.1.type_,Cx g.1.num,.bool g.1.bool,Sl cj g.1.list ck].toArray)<|Vr (I g.2)<|Ef (Aa r6 33 FI rfl fun fg v6 r8 r9 bk=>?_)
 refine have sa:=Ss Kd.cpx ip bk;Eu (St F6 r9 rfl rfl rfl rfl fun sb sc bl=>?_)
 refine Va (I g.2)<|AA<|Ao (fun e7 iq=>∃(ca:Env) (fh:Col),e7=ca.puts [(6,.pointer (some ⟨fi,0,none⟩)),(13,.pointer (some ⟨r8,0,none⟩))]∧K1 ba cd cf g=some dw∧AQ [] fg sb fh iq) ?_ ?_
 refine Sr<|Vm<|Vr (.bool (g.2 != 0))<|AA<|Cn a (fun sd a=>?_) fun sd a=>?_
 refine AO<|Vm<|Vr (.iface 33 (I g.2))<|Rg (.none rfl) (Py rfl)<|have se:=Y4 e9 bt bu bk bl;have sf:=K4 AL e8 bt bu bk bl; ?_
 obtain rfl:=AP a
 refine NC (B:=B) q<|⟨fg,Sl cb ba cc,Ho (T2 (T4 (Mo [1,30,32,33] d) c bb bt bu) bk bl) p,se,sf,GB⟩
 refine WC.skip<|⟨_,fg,Pu,a,(AQ.refl [] _ _)⟩
 rintro _ iq ⟨ca,fh,rfl,a,b6⟩
 rw [K1] at a
 refine Sr<|have sg:=Bs sc b6;Vx (Run.loadN D9 rfl rfl (Bk.part sg 0 [I g.1.type_,Cx g.1.num,.bool g.1.bool,Sl cj g.1.list ck] rfl))<|Vx (v:=.agg [I g.1.type_,Cx g.1.num,.bool g.1.bool,Sl cj g.1.list ck,.nilFunc,.nilFunc].toArray) (Bp J9 Mg rfl (.cons rfl rfl rfl .nil))<|have sh:=Y2 (Y4 bo bb bt bu bk) bl b6;have si:=K2 Kd.cpx sa bl b6;Eu (St It sh rfl rfl rfl rfl fun v7 sj du=>?_)
 refine AA<|AT ?_
 obtain rfl:=AP a
 refine Ax (B:=B) q (BG rfl (.agg JG rfl rfl (Bk.part sj 0 [I g.1.type_,Cx g.1.num,.bool g.1.bool,Sl cj g.1.list ck,.nilFunc,.nilFunc] rfl)) ?_)
 refine have sk:=Ss Kd.cpx si du;have sl:=Y2 (Y4 e9 bt bu bk bl) b6 du;have sm:=K2 AL (K4 AL e8 bt bu bk bl) b6 du;⟨fh,Sl cb ba cc,Ho (T4 (T4 (Mo [1,21,30,32,33] d) c bb bt bu) bk bl b6 du) p,sl,sm,E9 ⟨[I g.1.type_,Cx g.1.num,.bool g.1.bool,Sl cj g.1.list ck,.nilFunc,.nilFunc],rfl,(Cd (x:=(Aq.mk g.1 Th.nil Th.nil)) sk MTh.nil MTh.nil)⟩⟩
theorem PE(d:AU)(f:Nat)(m:AU.Good d):mean_run_parts.Spec (A3 d f):=by
 intro e g a c ac ad ae af ag ah ai aj ak al am an n hnd hnz l o p q s
 refine Calls.mono (PD d f m (recol (see [a,c]) e) g (Az lbr e) n trivial trivial (A6 l [a,c] (BD hnd hnz (i:=0) rfl)) (By AL o [a,c]) (Ge p [a,c] (BD hnd hnz (i:=1) rfl)) (Au AJ q [a,c]) (F7.recol s [a,c])) ?_
 rintro ao ap ⟨w,y,z,aa,ab,en⟩
 exact ⟨glue [a,c] g e w,y,Ad z (DS rfl rfl),CK l aa dcd,DV AL ab,Od en fun r v ⟨u,hv,h⟩=>⟨u,hv,BB Gi h⟩⟩
theorem AU.good:∀d,AU.Good (AU.at d)
 |0=>⟨by intro a c;intros;(try intro _);intros;exact BC (by assumption),by intro a c;intros;(try intro _);intros;exact BC (by assumption),by intro a c;intros;(try intro _);intros;exact BC (by assumption),by intro a c;intros;(try intro _);intros;exact BC (by assumption)⟩
 |n+1=>⟨Pc _ n (AU.good n),QH _ n (AU.good n),Q6 _ n (AU.good n),PE _ n (AU.good n)⟩
theorem QI(a:Nat):mean_run_look.Spec (mean_run_look a):=(AU.good a).mean_run_look
theorem OU(a:Nat):mean_callth.Spec (mean_callth a):=(AU.good a).mean_callth
def D1.At(G1 G2:Prop)(c:Col)(a:World)(f:(List AK)→Int→Int→Ak→Aq→Option ((Except Int AI)×(List AK)×Int×Int))(h:Nat)(aa:Nat):Prop:=
 ∀{l:Nat} {n:(List AK)} {o:Value} {p:Int} {q:Int} {m:Nat} {s:Ak} {w:Aq} {y:List Value} {d:(Except Int AI)×(List AK)×Int×Int},f n p q s w=some d→G1→G2→Bk c a h l [.map (some m),o,I p,I q] 83→Slc AL c.F a o n→Mp c a aa m s→Gi.rep c.F a y w→
  Calls Tryz.prog 34 #[Pt l 0,.agg y.toArray] a fun ab e=>∃(g:Col) (z:Value),AQ [h] c a g e∧Bk g e h l [.map (some m),z,I d.2.2.1,I d.2.2.2] 83∧Slc AL g.F e z d.2.1∧ER 33 d.1 ab (fun r v=>∃u:List Value,v=.agg u.toArray∧A1.rep g.F e u r)
def D1.Spec(f:(List AK)→Int→Int→Ak→Aq→Option ((Except Int AI)×(List AK)×Int×Int)):Prop:=
 ∀(d:Col) (e:World) {a:Nat} {c:Nat},D1.At ([a,c].Nodup) (0∉[a,c]) d e f a c
theorem PF(y:Nat)(a4:Col)(cn:World)(al:∀b,a4 b<10):D1.At True True a4 cn (D1 y) 1 2:=by
 intro ai bp e6 co cq cr am c e7 bq a _ _ br a5 ct cu
 rw [D1] at a
 obtain ⟨bt,bu,rfl⟩:=AG a5
 obtain ⟨e8,cv,cw,rfl,a6,cx,cy⟩:=DM cu
 obtain ⟨an,ao,rfl⟩:=AG a6
 refine A0 Tryz.func34 rfl Tryz.ntmps34 rfl fun B ap z=>Sr<|Ef (Bf a4 20 rfl rfl fun cz e9 bv c0 h=>?_)
 refine Ef (Aa cz 21 FI rfl fun bw fa c1 bx f=>?_)
 refine AA<|AZ<|Sr<|Vx (Run.fieldAddr OB rfl)<|have a7:=Bs c0 f;Vx (Run.load1 OE rfl (Bk.cell a7 rfl))<|have bz:=Mt (Mt cx h) f;Vx (v:=.bool (Th.isNil c.head)) (QV UF rfl rfl bz)<|AA<|Cn a (fun c2 a=>?_) fun c2 a=>?_
 refine Sr<|Vx (Run.fieldAddr0 X3 rfl)<|Vx (Run.loadN D9 rfl rfl (Bk.part a7 0 [I c.plain.type_,Cx c.plain.num,.bool c.plain.bool,Sl an c.plain.list ao] rfl))<|have c3:=K2 Kd.cpx a6 h f;Eu (St F6 bx rfl rfl rfl rfl fun fb c4 aq=>?_)
 refine AA<|AT ?_
 obtain rfl:=AP a
 refine Ax (B:=B) ap (BG rfl (.agg D9 rfl rfl (Bk.part c4 0 [I c.plain.type_,Cx c.plain.num,.bool c.plain.bool,Sl an c.plain.list ao] rfl)) ?_)
 refine have c5:=Ss Kd.cpx c3 aq;have c6:=Y3 br h f aq;have c7:=K3 AL a5 h f aq;⟨bw,Sl bt bp bu,Ho (T2 (Mo [21] h) f aq) al,c6,c7,E9 ⟨[I c.plain.type_,Cx c.plain.num,.bool c.plain.bool,Sl an c.plain.list ao],rfl,(BP (x:=(AI.mk c.plain.type_ c.plain.num c.plain.bool c.plain.list)) c5)⟩⟩
 refine WC.skip<|Sr<|Vx (v:=.agg [I 3,Cx (((0,0):Nat×Nat)),.bool false,.slice none 0 0].toArray) (Bp FI JI rfl (.cons rfl rfl rfl .nil))<|Ef (Aa bw 22 FI rfl fun b0 fc b1 c8 m=>?_)
 refine Eu (St F6 c8 rfl rfl rfl rfl fun c9 da n=>?_)
 refine AA<|AZ<|Aj<|Bt (fun aa db r=>∃(b2:Env) (l:Col) (af:(List AK)) (ar:Option Addr) (au:Nat) (av:Int) (aw:Int) (ax:Int) (ay:(Nat×Nat)) (az:Bool) (ag:(List (Nat×Nat))) (a8:Option Addr) (a9:Nat) (aj:Th) (ba:Value) (a0:Th) (bb:Value) (e:(List (Nat×Nat))) (ab:Option Addr) (ac:Nat),db=b2.puts [(0,.pointer (some ⟨ai,0,none⟩)),(3,.pointer (some ⟨bv,0,none⟩)),(4,.pointer (some ⟨c1,0,none⟩)),(5,.pointer (some ⟨b1,0,none⟩))]∧Di y am aa af av aw ax ay az ag aj a0 e=some bq∧AQ [1,20,22,24] b0 c9 l r∧Slc AL l.F r (Sl ar af au) af∧Slc Kd.cpx l.F r (Sl a8 ag a9) ag∧Own Kd.cpx 35 l r 24 (Sl ab e ac) e∧MTh 89 90 l.F r ba aj∧MTh 89 90 l.F r bb a0∧Bk l r 1 ai [.map (some cr),Sl ar af au,I av,I aw] 83∧Bk l r 20 bv [I ax,Cx ay,.bool az,Sl a8 ag a9,ba,bb] 96∧Bk l r 22 b1 [I 3,Cx (((0,0):Nat×Nat)),.bool false,Sl ab e ac] 38) y ?_ ?_
 refine have dc:=K4 AL a5 h f m n;have de:=K4 Kd.cpx a6 h f m n;have df:=Mt (Mt bz m) n;have dg:=Mt (Mt (Mt (Mt cy h) f) m) n;have dh:=Y4 br h f m n;have di:=Y2 a7 m n;⟨_,b0,bp,bt,bu,co,cq,c.plain.type_,c.plain.num,c.plain.bool,c.plain.list,an,ao,c.head,cv,c.tail,cw,([]:List (Nat×Nat)),none,0,Pu,a,(AQ.refl [1,20,22,24] _ _),dc,de,Own.nil,df,dg,dh,di,da⟩
 rintro aa _ r ⟨b2,l,af,ar,au,av,aw,ax,ay,az,ag,a8,a9,aj,ba,a0,bb,e,ab,ac,rfl,a,ah,b3,fd,bc,b4,dj,b5,b6,b7⟩
 rcases aa with _|aa
 exact BC a
 refine have a:CP y am (Di y am aa) af av aw ax ay az ag aj a0 e=some bq:=a; ?_
 obtain ⟨fe,b8⟩:∃s,s=Di y am aa:=⟨_,rfl⟩
 rw [←b8,CP] at a
 refine AZ<|Sr<|Vx (Run.fieldAddr OB rfl)<|Vx (Run.load1 OE rfl (Bk.cell b6 rfl))<|Vx (v:=.bool (!(Th.isNil aj))) (Rh UF rfl rfl b4)<|AA<|Cn a (fun dk a=>?_) fun dk a=>?_
 refine WC.skip<|Aj<|AZ<|CJ FL (.q 0 (.q 1 (.q 2 (.q 3 (.q 4 (.one 5 (.q 6 (.q 7 (.one 8 (.one 9 (.q 10 (.one 11 .nil)))))))))))) [11] [1,24] l (by kernel_rfl) fun dl o=>Qx z rfl (fun _ ⟨_,u⟩=>Run.fieldAddr IM rfl)<|have b9:=Bs b7 o;Qx z rfl (fun _ ⟨_,u⟩=>Run.load1 LT rfl (Bk.cell (Bs b9 u) rfl))<|Qx z rfl (fun _ ⟨_,u⟩=>Run.fieldAddr OB rfl)<|have ca:=Bs b6 o;Qx z rfl (fun _ ⟨_,u⟩=>Run.load1 OE rfl (Bk.cell (Bs ca u) rfl))<|Qx z rfl (v:=Pt ai 0) (fun _ ⟨_,u⟩=>Run.move rfl)<|T5 rfl<|have dm:=Bs b5 o;have dn:=Ss AL b3 o;have cb:=Ms (Ms (Ms (Ms (Ms (Ms ct h) f) m) n) ah) o;have dp:=Mt b4 o;Bi a fun dq dr a=>?_
 obtain ⟨ff,fg,ds,dt⟩:=OU y l dl dr dcd dcd dm dn cb dp
 refine Tc.callp rfl (.none rfl) rfl rfl (ds (vs:=[Pt ai 0]) rfl rfl)<|Calls.mono dt ?_
 rintro _ fh ⟨cc,fi,p,cd,bd,du⟩
 obtain ⟨dv,dw,rfl⟩:=AG bd
 obtain ⟨fj,dx,rfl⟩| ⟨d,dy,fk,rfl,fl,rfl,dz⟩:=ER.split du
 refine have a:=Do a dx; .inl ⟨_,rfl,?_⟩
 obtain rfl:=AP a
 refine NC (B:=B) ap<|⟨cc,Sl dv dq.2.1 dw,Ho (T2 (T4 (Mo [1,20,22,24] h) f m n ah) o p) al,cd,bd,GB⟩
 refine have a:=Gg a dy; ?_
 obtain ⟨fm,d0,d1,rfl,d2,fn,fo⟩:=DM dz
 obtain ⟨be,bf,rfl⟩:=AG d2
 refine .inr ⟨_,rfl,⟨_,(Mo [1,24] p)⟩,?_⟩
 refine Qx z rfl (v:=.agg [I d.plain.type_,Cx d.plain.num,.bool d.plain.bool,Sl be d.plain.list bf].toArray) (fun _ ⟨_,u⟩=>O4 (cs:=[I d.plain.type_,Cx d.plain.num,.bool d.plain.bool,Sl be d.plain.list bf,d0,d1]) Rp rfl)<|Qx z rfl (v:=Cx d.plain.num) (fun _ ⟨_,u⟩=>Js (cs:=[I d.plain.type_,Cx d.plain.num,.bool d.plain.bool,Sl be d.plain.list bf]) X4 rfl rfl)<|BX rfl<|Cl rfl (.none rfl) rfl rfl (DC (cs:=[Cx d.plain.num]) cc 23 [[Cx d.plain.num]] LB YA rfl rfl (.cons rfl rfl rfl .nil) rfl fun d3 d4 d5 d6 q=>?_)
 refine have d7:Own Kd.cpx 35 d3 d4 23 (.slice (some ⟨d5,0,none⟩) 1 1) ([d.plain.num]:List (Nat×Nat)):=Own.lit (css:=[[Cx d.plain.num]]) d6 rfl rfl rfl (AW rfl BE) (A2 rfl ED) rfl;⟨⟨_,(Tn (Mo [1,24] p) q)⟩,?_⟩
 refine BX rfl<|have d8:=Os (Os (Os bc o) p) q;Bi a fun fp cf a=>Cl rfl (.none rfl) rfl rfl (Bx (κ:=Kd.cpx) rfl rfl d8 dcd Xo (Cj d7) (FW cf) (Fk cf) fun fq d9 fr bg w=>?_)
 obtain ⟨bh,bi,rfl⟩:=Own.len bg
 refine ⟨⟨_,(T2 (Mo [1,24] p) q w)⟩,?_⟩
 refine Qx z rfl (fun _ ⟨_,u⟩=>Run.fieldAddr IM rfl)<|FP dcd<|WY.one<|have ea:=Y3 b9 p q w;Be rfl (.none rfl) rfl (Br (vs:=[Sl bh ((e++([d.plain.num]:List (Nat×Nat)))) bi]) (cs':=[I 3,Cx (((0,0):Nat×Nat)),.bool false,Sl bh ((e++([d.plain.num]:List (Nat×Nat)))) bi]) X6 rfl rfl rfl rfl (AX (Own.one bg) CQ) ea dcd rfl rfl fun eb ec ad=>?_)
 refine WY.nil<|AO<|Vx (Run.fieldAddr U5 rfl)<|have cg:=Y4 ca p q w ad;Vx (Run.load1 OE rfl (Bk.cell cg rfl))<|Vm<|have ed:=Y3 cd q w ad;have ee:=K3 AL bd q w ad;have ef:=Ms (Ms (Ms (Ms cb p) q) w) ad;have eg:=Mt (Mt (Mt (Mt (Mt dj o) p) q) w) ad;Bi a fun a1 eh a=>?_
 obtain ⟨fs,ft,ei,ej⟩:=OU y d9 eb eh dcd dcd ed ee ef eg
 refine H3 (.none rfl) rfl rfl (ei (vs:=[Pt ai 0]) rfl rfl)<|Calls.mono ej ?_
 rintro _ fu ⟨ch,fv,ak,ci,bj,ek⟩
 obtain ⟨cj,ck,rfl⟩:=AG bj
 obtain ⟨fw,el,rfl⟩| ⟨g,em,fx,rfl,fy,rfl,en⟩:=ER.split ek
 refine have a:=Do a el; .inl ⟨_,rfl,?_⟩
 obtain rfl:=AP a
 refine NC (B:=B) ap<|⟨ch,Sl cj a1.2.1 ck,Ho (T2 (T4 (T4 (Mo [1,20,22,24] h) f m n ah) o p q w) ad ak) al,ci,bj,GB⟩
 refine have a:=Gg a em; ?_
 obtain ⟨fz,bk,bl,rfl,bm,cl,cm⟩:=DM en
 obtain ⟨bn,bo,rfl⟩:=AG bm
 refine .inr ⟨_,rfl,?_⟩
 refine have eo:=Bs cg ak;Eu (Br (vs:=[I g.plain.type_,Cx g.plain.num,.bool g.plain.bool,Sl bn g.plain.list bo,bk,bl]) (cs':=[I g.plain.type_,Cx g.plain.num,.bool g.plain.bool,Sl bn g.plain.list bo,bk,bl]) It rfl rfl rfl rfl (AX rfl (AX rfl (AX rfl (AX (FQ bm) (AX (MTh.one cl) (AX (MTh.one cm) CQ)))))) eo dcd rfl rfl fun f0 ep ae=>?_)
 refine AA<|have eq:=Ss AL bj ae;have er:=Ss Kd.cpx bm ae;have es:=Os (Os (Os bg ad) ak) ae;have et:=Mt cl ae;have eu:=Mt cm ae;have ew:=Bs ci ae;have ex:=Y2 ec ak ae;⟨aa,Nat.lt_succ_self aa,_,ch,a1.2.1,cj,ck,a1.2.2.1,a1.2.2.2,g.plain.type_,g.plain.num,g.plain.bool,g.plain.list,bn,bo,g.head,bk,g.tail,bl,(e++([d.plain.num]:List (Nat×Nat))),bh,bi,Pu,(b8▸a),(T3 (T4 (Mo [1,20,22,24] ah) o p q w) ad ak ae),eq,er,es,et,eu,ew,ep,ex⟩
 refine Bc<|Sr<|Vx (Run.loadN D9 rfl rfl (Bk.part b7 0 [I 3,Cx (((0,0):Nat×Nat)),.bool false,Sl ab e ac] rfl))<|have ey:=Y3 bx m n ah;Eu (Br (vs:=[I 3,Cx (((0,0):Nat×Nat)),.bool false,Sl ab e ac]) (cs':=[I 3,Cx (((0,0):Nat×Nat)),.bool false,Sl ab e ac]) F6 rfl rfl rfl rfl (AX rfl (AX rfl (AX rfl (AX (Own.one bc) CQ)))) ey dcd rfl rfl fun f1 ez a2=>?_)
 refine AA<|AT<|have e0:=Os bc a2; ?_
 obtain ⟨e1,a3,e2⟩:=Own.freeze (S:=[24]) e0 dcd dcd
 obtain rfl:=AP a
 refine have e3:=Bs ez a3;Ax (B:=B) ap (BG rfl (.agg D9 rfl rfl (Bk.part e3 0 [I 3,Cx (((0,0):Nat×Nat)),.bool false,Sl ab e ac] rfl)) ?_)
 refine have e4:=Y2 b5 a2 a3;have e5:=K2 AL b3 a2 a3;⟨e1,Sl ar af au,Ho (T2 (T4 (Mo [1,20,21,22,24] h) f m n ah) a2 a3) al,e4,e5,E9 ⟨[I 3,Cx (((0,0):Nat×Nat)),.bool false,Sl ab e ac],rfl,(BP (x:=(AI.mk 3 ((0,0):Nat×Nat) false e)) e2)⟩⟩
theorem Pd(e:Nat):D1.Spec (D1 e):=by
 intro d f a c z aa ab ac ad ae af ag ah ai l hnd hnz g m n o
 refine Calls.mono (PF e (recol (see [a,c]) d) f (Az lbr d) l trivial trivial (A6 g [a,c] (BD hnd hnz (i:=0) rfl)) (By AL m [a,c]) (Ge n [a,c] (BD hnd hnz (i:=1) rfl)) (Au Gi o [a,c])) ?_
 rintro aj ak ⟨p,q,s,w,y,en⟩
 exact ⟨glue [a,c] f d p,q,Ad s (DS rfl rfl),CK g w dcd,DV AL y,Od en fun r v ⟨u,hv,h⟩=>⟨u,hv,BB A1 h⟩⟩
def F4.At(c:Col)(a:World)(f:AM→Bts→(List AI)→Int→Option BM):Prop:=
 ∀{d:AM} {e:List Value} {g:Bts} {h:(List AI)} {l:Value} {m:Int} {n:BM},f d g h m=some n→BN.rep c.F a e d→Slc A1 c.F a l h→
  Calls Tryz.prog 13 #[.agg e.toArray,Sb g,l,I m] a fun r o=>∃(p:Col) (q:List Value),r=.returned (.agg q.toArray)∧AQ [] c a p o∧NA.rep p.F o q n
def F4.Spec(f:AM→Bts→(List AI)→Int→Option BM):Prop:=
 ∀(a:Col) (c:World),F4.At a c f
theorem TQ(o:Nat)(b4:Col)(d4:World)(a0:∀b,b4 b<10):F4.At b4 d4 (F4 o):=by
 intro z i0 ae p i1 l bd a d5 cu
 rw [F4] at a
 obtain ⟨i2,rfl,cv⟩:=BK d5
 obtain ⟨bn,bo,rfl⟩:=AG cv
 obtain ⟨b5,b6,rfl⟩:=AG cu
 refine Qf Tryz.func13 rfl Tryz.ntmps13 rfl fun W B hW ad=>WA'.seq ad<|AO<|Ef (Bf b4 20 rfl rfl fun d6 i3 d7 d8 ao=>?_)
 refine Ef (Aa d6 21 Mh rfl fun d9 ea ak a1 al=>?_)
 refine AA<|WA'.seq ad<|Sr<|have cw:=Bs d8 al;Vx (Run.loadN Gw rfl rfl (Bk.part cw 0 [Sl bn z.funcs bo] rfl))<|have cx:=K2 AL cv ao al;Bi a fun bp eb a=>Ca (AAR [.agg [Sl bn z.funcs bo].toArray] rfl) (SB o d9 ea eb (BS (x:=z) cx)) ?_
 rintro _ i4 ⟨cy,i5,rfl,q,ec⟩
 obtain rfl:=As ec
 refine ⟨_,rfl,?_⟩
 refine Vx (v:=I bp.why) (Js (cs:=[I bp.why,I bp.at_]) U6 rfl rfl)<|Vr (.bool (bp.why != 0))<|AA<|Cn a (fun ed a=>?_) fun ed a=>?_
 refine Sr<|Vx (v:=.agg [I 3,I 0,Cx (((0,0):Nat×Nat)),.bool false,.slice none 0 0,I 0,I 0,I 0,I 0].toArray) (Bp Mh P3 rfl (.cons rfl rfl rfl .nil))<|have ee:=Bs a1 q;Eu (St NH ee rfl rfl rfl rfl fun i6 ef eg=>?_)
 refine AA<|AT ?_
 obtain rfl:=AP a
 refine Yz hW (B:=B) ad (BG rfl (.agg O7 rfl rfl (Bk.part ef 0 [I 3,I 0,Cx (((0,0):Nat×Nat)),.bool false,.slice none 0 0,I 0,I 0,I 0,I 0] rfl)) ?_)
 exact ⟨cy,[I 3,I 0,Cx (((0,0):Nat×Nat)),.bool false,.slice none 0 0,I 0,I 0,I 0,I 0],rfl,Ho (T3 (Mo [21] ao) al q eg) a0,(Ik (x:=(BM.mk 3 (AI.mk 0 ((0,0):Nat×Nat) false []) 0 0 0 0)) CT)⟩
 refine WC.skip<|WA'.seq ad<|AO<|Ef (MP cy 22 fun eh i7 bq ei ac=>?_)
 refine Vx (Run.fieldAddr0 D5 rfl)<|have cz:=Y2 cw q ac;Vx (Run.load1 GQ rfl (Bk.cell cz rfl))<|Vm<|Vx (v:=I (if l<0 then 0 else l)) (Run.max rfl rfl)<|Vx (v:=I (if 16384< (if l<0 then 0 else l) then 16384 else (if l<0 then 0 else l))) (Run.min rfl rfl)<|Vx (v:=.agg [.map (some bq),Sl bn z.funcs bo,I 0,I (if 16384< (if l<0 then 0 else l) then 16384 else (if l<0 then 0 else l))].toArray) (Bp ABA AA6 rfl (.cons rfl rfl rfl (.cons rfl rfl rfl (.cons rfl rfl rfl .nil))))<|Ef (Bf eh 23 rfl rfl fun ej i8 br c0 aa=>?_)
 refine Ef (Aa ej 24 AA8 rfl fun c1 i9 am ek m=>?_)
 refine Eu (St AA1 ek rfl rfl rfl rfl fun el c2 n=>?_)
 refine AA<|WA'.seq ad<|Sr<|Vx (Run.fieldAddr0 D5 rfl)<|have c3:=Y3 cz aa m n;Vx (Run.load1 GQ rfl (Bk.cell c3 rfl))<|have b7:=Ss AL (K4 AL cx q ac aa m) n; ?_
 obtain ⟨ja,jb,em⟩:=AG b7
 refine Vx (v:=I (z.funcs.length:Int)) (Run.lenSlc Fp em)<|Vm<|AA<|Aj<|Bt (fun au be bf=>∃(av:Env) (aw:Col) (ag:Int) (r:Ak),be=av.puts [(1,.string (bs ae)),(2,.slice b5 p.length b6),(4,.pointer (some ⟨d7,0,none⟩)),(8,.pointer (some ⟨ak,0,none⟩)),(9,.pointer (some ⟨am,0,none⟩)),(34,.slice bn z.funcs.length bo),(35,.int .i64 (z.funcs.length:Int)),(36,.int .i64 ag)]∧Ig o z ae p l au ag r=some bd∧AQ [22,25] c1 el aw bf∧Mp aw bf 22 bq r) o ?_ ?_
 refine have en:=Ms (Ms (Ms ei aa) m) n;⟨_,c1,0,([]:Ak),Pu,a,(AQ.refl [22,25] _ _),en⟩
 rintro au _ bf ⟨av,aw,ag,r,rfl,a,f,b8⟩
 rcases au with _|au
 exact BC a
 refine have a:Ip o z ae p l (Ig o z ae p l au) ag r=some bd:=a; ?_
 obtain ⟨jc,c4⟩:∃s,s=Ig o z ae p l au:=⟨_,rfl⟩
 rw [←c4,Ip] at a
 refine Sr<|Vr (.bool (decide (ag< (z.funcs.length:Int))))<|AA<|AZ<|Cn a (fun eo a=>?_) fun eo a=>?_
 refine WC.skip<|AZ<|Aj<|Sr<|Vm<|Bi a fun af ep a=>have eq:=Ss AL b7 f; ?_
 obtain ⟨er,es,jd,et,eu,ew,ex,ey,b9⟩:=BL (κ:=AL) eq ep
 replace b9:A8 aw bf er (es+ag.toNat*11) et:=b9
 obtain ⟨je,jf,rfl,c5,c6⟩:=Cw ey
 obtain ⟨ez,e0,rfl⟩:=AG c5
 obtain ⟨e1,e2,rfl⟩:=AG c6
 refine Vx (Run.indexAddr Fp eu rfl ew ex)<|Vx (Run.loadN K9 rfl rfl (A8.part0 b9 [Sb af.name,Sl ez af.params e0,I af.type_,I af.body.op,Sb af.body.name,Sb af.body.tail,I af.body.type_,Cx af.body.num,Sl e1 af.body.args e2,I af.body.at_,I af.at_] rfl))<|Ef (Aa aw 25 J8 rfl fun c7 jg jh e3 a2=>?_)
 refine Va (I ag)<|have ji:=Ss AY c5 a2;have jj:=Ss AJ c6 a2;Eu (St Kj e3 rfl rfl rfl rfl fun jk e4 bt=>?_)
 refine AA<|RI<|CJ FL (.q 0 (.q 1 (.q 2 (.q 3 (.q 4 (.q 5 (.q 6 (.one 7 .nil)))))))) [7] [] c7 (by kernel_rfl) fun jl bg=>have e5:=Y4 c2 f a2 bt bg;Qx Cu rfl (fun _ ⟨_,c⟩=>Run.load1 P2 rfl (Bk.cell (Bs e5 c) rfl))<|Qx Cu rfl (fun _ ⟨_,c⟩=>Run.nilCheck rfl)<|Qx Cu rfl (fun _ ⟨_,c⟩=>Run.fieldAddr0 Ro rfl)<|have e6:=Y2 (Y4 c0 m n f a2) bt bg;Qx Cu rfl (fun _ ⟨_,c⟩=>Run.load1 OD rfl (Bk.cell (Bs e6 c) rfl))<|Qx Cu rfl (fun _ ⟨_,c⟩=>Run.fieldAddr0 L8 rfl)<|have e7:=Bs e4 bg;Qx Cu rfl (fun _ ⟨_,c⟩=>Run.load1 CS rfl (Bk.cell (Bs e7 c) rfl))<|Qx Cu rfl (v:=I ag) (fun _ ⟨_,c⟩=>Run.move rfl)<|FP dcd<|WY.one<|have e8:=Ms (Ms (Ms b8 a2) bt) bg;Be rfl (.none rfl) rfl (Jh KM rfl rfl rfl e8 fun jm e9 fa=>?_)
 refine WY.nil<|AO<|Vr (I (Wr (ag+1)))<|Vm<|AA<|⟨au,Nat.lt_succ_self au,_,c7,(Wr (ag+1)),(LF af.name ag r),Pu,(c4▸a),(T4 (Mo [22,25] f) a2 bt bg fa),e9⟩
 refine Bc<|WA'.seq ad<|AO<|have c8:=Bs c2 f;Vx (Run.load1 P2 rfl (Bk.cell c8 rfl))<|Vx (Run.nilCheck rfl)<|Vx (Run.fieldAddr0 Ro rfl)<|have c9:=Y3 c0 m n f;Vx (Run.load1 OD rfl (Bk.cell c9 rfl))<|Vm<|Vx (v:=.tuple #[I (CR r ae),.bool (Nf r ae)]) (Uw KM rfl rfl b8)<|Vm<|Vr (I (CR r ae))<|Vr (.bool (Nf r ae))<|Va (I (CR r ae))<|Va (.bool (Nf r ae))<|AA<|WA'.seq ad<|Sr<|Vm<|Vr (.bool (!(Nf r ae)))<|AA<|Cn a (fun fb a=>?_) fun fb a=>?_
 refine Sr<|Vx (v:=.agg [I 32,I 0,Cx (((0,0):Nat×Nat)),.bool false,.slice none 0 0,I 0,I 0,I 0,I 0].toArray) (Bp Mh P3 rfl (.cons rfl rfl rfl .nil))<|have fc:=Y2 (Y4 a1 q ac aa m) n f;Eu (St NH fc rfl rfl rfl rfl fun jn fd fe=>?_)
 refine AA<|AT ?_
 obtain rfl:=AP a
 refine Yz hW (B:=B) ad (BG rfl (.agg O7 rfl rfl (Bk.part fd 0 [I 32,I 0,Cx (((0,0):Nat×Nat)),.bool false,.slice none 0 0,I 0,I 0,I 0,I 0] rfl)) ?_)
 exact ⟨aw,[I 32,I 0,Cx (((0,0):Nat×Nat)),.bool false,.slice none 0 0,I 0,I 0,I 0,I 0],rfl,Ho (T4 (T4 (Mo [21,22,24,25] ao) al q ac aa) m n f fe) a0,(Ik (x:=(BM.mk 32 (AI.mk 0 ((0,0):Nat×Nat) false []) 0 0 0 0)) CT)⟩
 refine WC.skip<|WA'.seq ad<|AO<|Vx (Run.fieldAddr0 D5 rfl)<|have ff:=Bs c3 f;Vx (Run.load1 GQ rfl (Bk.cell ff rfl))<|Vm<|Bi a fun d fg a=>have da:=Ss AL b7 f; ?_
 obtain ⟨fh,fi,jo,fj,fk,fl,fm,fn,ca⟩:=BL (κ:=AL) da fg
 replace ca:A8 aw bf fh (fi+((CR r ae)).toNat*11) fj:=ca
 obtain ⟨jp,jq,rfl,db,dc⟩:=Cw fn
 obtain ⟨fo,fp,rfl⟩:=AG db
 obtain ⟨cb,cc,rfl⟩:=AG dc
 refine Vx (Run.indexAddr Fp fk rfl fl fm)<|Vx (Run.loadN K9 rfl rfl (A8.part0 ca [Sb d.name,Sl fo d.params fp,I d.type_,I d.body.op,Sb d.body.name,Sb d.body.tail,I d.body.type_,Cx d.body.num,Sl cb d.body.args cc,I d.body.at_,I d.at_] rfl))<|Ef (Aa aw 26 J8 rfl fun cd jr de fq u=>?_)
 refine have fr:=Ss AY db u;have fs:=Ss AJ dc u;Eu (St Kj fq rfl rfl rfl rfl fun ft bu w=>?_)
 refine AA<|WA'.seq ad<|Sr<|Vm<|have cf:=K2 A1 (K4 A1 (K4 A1 cu ao al q ac) aa m n f) u w; ?_
 obtain ⟨js,jt,fu⟩:=AG cf
 refine Vx (v:=I (p.length:Int)) (Run.lenSlc Kk fu)<|Vx (Run.fieldAddr EX rfl)<|Vx (Run.load1 Eo rfl (Bk.cell bu rfl))<|have cg:=Ss AY fr w; ?_
 obtain ⟨ju,jv,fv⟩:=AG cg
 refine Vx (v:=I (d.params.length:Int)) (Run.lenSlc D3 fv)<|Vr (.bool ((p.length:Int) != (d.params.length:Int)))<|AA<|Cn a (fun fw a=>?_) fun fw a=>?_
 refine Sr<|Vx (v:=.agg [I 40,I 0,Cx (((0,0):Nat×Nat)),.bool false,.slice none 0 0,I 0,I 0,I 0,I 0].toArray) (Bp Mh P3 rfl (.cons rfl rfl rfl .nil))<|have fx:=Y4 (Y4 a1 q ac aa m) n f u w;Eu (St NH fx rfl rfl rfl rfl fun jw fy fz=>?_)
 refine AA<|AT ?_
 obtain rfl:=AP a
 refine Yz hW (B:=B) ad (BG rfl (.agg O7 rfl rfl (Bk.part fy 0 [I 40,I 0,Cx (((0,0):Nat×Nat)),.bool false,.slice none 0 0,I 0,I 0,I 0,I 0] rfl)) ?_)
 exact ⟨cd,[I 40,I 0,Cx (((0,0):Nat×Nat)),.bool false,.slice none 0 0,I 0,I 0,I 0,I 0],rfl,Ho (T2 (T4 (T4 (Mo [21,22,24,25,26] ao) al q ac aa) m n f u) w fz) a0,(Ik (x:=(BM.mk 40 (AI.mk 0 ((0,0):Nat×Nat) false []) 0 0 0 0)) CT)⟩
 refine WC.skip<|WA'.seq ad<|AO<|Va (.pointer none)<|AA<|WA'.seq ad<|Sr<|Vm ?_
 obtain ⟨jx,jy,f0⟩:=AG cf
 refine Vx (v:=I (p.length:Int)) (Run.lenSlc Kk f0)<|Vm<|AA<|Aj<|Bt (fun ax be bh=>∃(av:Env) (a3:Col) (a4:Nm) (ay:Value) (ab:Int),be=av.puts [(8,.pointer (some ⟨ak,0,none⟩)),(9,.pointer (some ⟨am,0,none⟩)),(14,.pointer (some ⟨de,0,none⟩)),(15,ay),(73,.slice b5 p.length b6),(74,.int .i64 (p.length:Int)),(75,.int .i64 ab)]∧EV o z p l r d ax a4 ab=some bd∧AQ [27,28] cd ft a3 bh∧F7 89 90 a3.F bh ay a4) o ?_ ?_
 exact ⟨_,cd,Nm.nil,.pointer none,0,Pu,a,(AQ.refl [27,28] _ _),F7.nil⟩
 rintro ax _ bh ⟨av,a3,a4,ay,ab,rfl,a,h,ch⟩
 rcases ax with _|ax
 exact BC a
 refine have a:Fe o z p l r d (EV o z p l r d ax) a4 ab=some bd:=a; ?_
 obtain ⟨f1,df⟩:∃s,s=EV o z p l r d ax:=⟨_,rfl⟩
 rw [←df,Fe] at a
 refine Sr<|Vr (.bool (decide (ab< (p.length:Int))))<|AA<|AZ<|Cn a (fun f2 a=>?_) fun f2 a=>?_
 refine WC.skip<|AZ<|Aj<|Sr<|Vm<|Bi a fun e f3 a=>have f4:=Ss A1 cf h; ?_
 obtain ⟨f5,f6,jz,f7,f8,f9,ga,gb,ci⟩:=BL (κ:=A1) f4 f3
 replace ci:A8 a3 bh f5 (f6+ab.toNat*4) f7:=ci
 obtain ⟨j0,rfl,dg⟩:=CU gb
 obtain ⟨a5,a6,rfl⟩:=AG dg
 refine Vx (Run.indexAddr Kk f8 rfl f9 ga)<|Vx (Run.loadN D9 rfl rfl (A8.part0 ci [I e.type_,Cx e.num,.bool e.bool,Sl a5 e.list a6] rfl))<|Ef (Aa a3 27 FI rfl fun bi j1 gc gd ap=>?_)
 refine Va (I ab)<|have dh:=Ss Kd.cpx dg ap;Eu (St F6 gd rfl rfl rfl rfl fun ge di an=>?_)
 refine AA<|AZ<|Ao (fun be dj=>∃(av:Env) (a7:Col) (cj:Bool),be=av.puts [(8,.pointer (some ⟨ak,0,none⟩)),(9,.pointer (some ⟨am,0,none⟩)),(14,.pointer (some ⟨de,0,none⟩)),(15,ay),(16,.int .i64 ab),(17,.pointer (some ⟨gc,0,none⟩)),(73,.slice b5 p.length b6),(74,.int .i64 (p.length:Int)),(75,.int .i64 ab),(93,.bool cj)]∧K5 o d a4 ab f1 e cj=some bd∧AQ [] bi ge a7 dj) ?_ ?_
 refine RI<|CJ FL (.q 0 (.q 1 (.q 2 (.q 3 (.q 4 (.q 5 (.q 6 (.q 7 (.q 8 (.q 9 (.q 10 (.one 11 (.q 12 (.q 13 .nil)))))))))))))) [] [] bi (by kernel_rfl) fun dk a8=>Qx Cu rfl (fun _ ⟨_,c⟩=>Run.fieldAddr0 JH rfl)<|have dl:=Bs di a8;Qx Cu rfl (fun _ ⟨_,c⟩=>Run.load1 EA rfl (Bk.cell (Bs dl c) rfl))<|Qx Cu rfl (fun _ ⟨_,c⟩=>Run.fieldAddr EX rfl)<|have gf:=Y4 bu h ap an a8;Qx Cu rfl (fun _ ⟨_,c⟩=>Run.load1 Eo rfl (Bk.cell (Bs gf c) rfl))<|Qx Cu rfl (v:=I ab) (fun _ ⟨_,c⟩=>Run.move rfl)<|Bi a fun dm gg a=>have gh:=K4 AY cg h ap an a8; ?_
 obtain ⟨gi,gj,j2,gk,gl,gm,gn,go,ck⟩:=BL (κ:=AY) gh gg
 replace ck:A8 bi dk gi (gj+ab.toNat*3) gk:=ck
 obtain rfl:=Fg go
 refine Qx Cu rfl (fun _ ⟨_,c⟩=>Run.indexAddr D3 gl rfl gm gn)<|Qx Cu rfl (fun _ ⟨_,c⟩=>Run.fieldAddr M5 rfl)<|Qx Cu rfl (fun _ ⟨_,c⟩=>Run.load1 EA rfl (A8.cell (k:=1) (Es ck c) rfl))<|Qx Cu rfl (v:=.bool (e.type_ != dm.type_)) (fun _ ⟨_,c⟩=>rfl)<|Qx Cu rfl (v:=.bool (e.type_ != dm.type_)) (fun _ ⟨_,c⟩=>Run.move rfl)<|Bo a (fun aq a=>?_) fun aq a=>?_
 refine Qp Cu rfl aq<|BX rfl<|Ob rfl (.guard (t:=true) (b:=false) rfl rfl rfl rfl (Cb aq)) rfl rfl<|⟨⟨_,(AQ.refl [] _ _)⟩,?_⟩
 refine Qp Cu rfl aq<|Qx Cu rfl (v:=.bool true) (fun _ ⟨_,c⟩=>(Pk aq))<|Dy<|⟨_,bi,true,Pu,a,(Mo [] a8)⟩
 refine A4 Cu rfl rfl (.guard (t:=false) (b:=false) rfl rfl rfl rfl (Cb aq)) rfl rfl (v:=.agg [I e.type_,Cx e.num,.bool e.bool,Sl a5 e.list a6].toArray) (fun _ ⟨_,c⟩=>Run.loadN D9 rfl rfl (Bk.part (Bs dl c) 0 [I e.type_,Cx e.num,.bool e.bool,Sl a5 e.list a6] rfl))<|BX rfl<|have gp:=K2 Kd.cpx dh an a8;Bi a fun cl gq a=>BR rfl (.guard (t:=false) (b:=false) rfl rfl rfl rfl (Cb aq)) rfl rfl (Xe [.agg [I e.type_,Cx e.num,.bool e.bool,Sl a5 e.list a6].toArray] rfl)<|Calls.mono (OS o bi dk gq (BP (x:=e) gp)) ?_
 rintro _ j3 ⟨gr,rfl,dn⟩
 refine ⟨_,rfl,⟨_,(Mo [] dn)⟩,?_⟩
 refine A4 Cu rfl rfl (.guard (t:=false) (b:=false) rfl rfl rfl rfl (Cb aq)) rfl rfl (v:=.bool (cl != 0)) (fun _ ⟨_,c⟩=>rfl)<|Qx Cu rfl (v:=.bool (cl != 0)) (fun _ ⟨_,c⟩=>(Pk aq))<|Dy<|⟨_,gr,(cl != 0),Pu,a,(Tn (Mo [] a8) dn)⟩
 rintro _ dj ⟨av,a7,cj,rfl,a,az⟩
 rw [K5] at a
 refine Cn a (fun gs a=>?_) fun gs a=>?_
 refine Sr<|Vx (v:=.agg [I 40,I 0,Cx (((0,0):Nat×Nat)),.bool false,.slice none 0 0,I 0,I 0,I 0,I 0].toArray) (Bp Mh P3 rfl (.cons rfl rfl rfl .nil))<|have gt:=Y4 (Y4 (Y4 a1 q ac aa m) n f u w) h ap an az;Eu (St NH gt rfl rfl rfl rfl fun j4 gu gv=>?_)
 refine AA<|AT ?_
 obtain rfl:=AP a
 refine Yz hW (B:=B) ad (BG rfl (.agg O7 rfl rfl (Bk.part gu 0 [I 40,I 0,Cx (((0,0):Nat×Nat)),.bool false,.slice none 0 0,I 0,I 0,I 0,I 0] rfl)) ?_)
 exact ⟨a7,[I 40,I 0,Cx (((0,0):Nat×Nat)),.bool false,.slice none 0 0,I 0,I 0,I 0,I 0],rfl,Ho (T2 (T4 (T4 (T4 (Mo [21,22,24,25,26,27,28] ao) al q ac aa) m n f u) w h ap an) az gv) a0,(Ik (x:=(BM.mk 40 (AI.mk 0 ((0,0):Nat×Nat) false []) 0 0 0 0)) CT)⟩
 refine WC.skip<|RI<|CJ FL (.q 0 (.q 1 (.q 2 (.q 3 (.q 4 (.q 5 (.q 6 (.q 8 (.one 7 (.q 9 (.one 10 (.q 11 .nil)))))))))))) [] [] a7 (by kernel_rfl) fun dp a9=>Qx Cu rfl (fun _ ⟨_,c⟩=>Run.fieldAddr EX rfl)<|have gw:=Bs (Y4 bu h ap an az) a9;Qx Cu rfl (fun _ ⟨_,c⟩=>Run.load1 Eo rfl (Bk.cell (Bs gw c) rfl))<|Qx Cu rfl (v:=I ab) (fun _ ⟨_,c⟩=>Run.move rfl)<|Bi a fun cm gx a=>have gy:=Ss AY (K4 AY cg h ap an az) a9; ?_
 obtain ⟨gz,g0,j5,g1,g2,g3,g4,g5,cn⟩:=BL (κ:=AY) gy gx
 replace cn:A8 a7 dp gz (g0+ab.toNat*3) g1:=cn
 obtain rfl:=Fg g5
 refine Qx Cu rfl (fun _ ⟨_,c⟩=>Run.indexAddr D3 g2 rfl g3 g4)<|Qx Cu rfl (fun _ ⟨_,c⟩=>Run.fieldAddr0 Lj rfl)<|Qx Cu rfl (fun _ ⟨_,c⟩=>Run.load1 CS rfl (A8.cell0 (Es cn c) rfl))<|have g6:=Y2 di az a9;Qx Cu rfl (fun _ ⟨_,c⟩=>Run.loadN D9 rfl rfl (Bk.part (Bs g6 c) 0 [I e.type_,Cx e.num,.bool e.bool,Sl a5 e.list a6] rfl))<|Qx Cu rfl (v:=ay) (fun _ ⟨_,c⟩=>Run.move rfl)<|BX rfl<|have g7:=K3 Kd.cpx dh an az a9;Bi a fun g8 g9 a=>BR rfl (.none rfl) rfl rfl (AAS [.agg [I e.type_,Cx e.num,.bool e.bool,Sl a5 e.list a6].toArray] rfl)<|Calls.mono (TE o a7 dp g9 (BP (x:=e) g7)) ?_
 rintro _ j6 ⟨ha,dq,rfl,bv,dr⟩
 refine ⟨_,rfl,⟨_,(Mo [] bv)⟩,?_⟩
 refine Qx Cu rfl (v:=.agg [Sb cm.name,dq,ay].toArray) (fun _ ⟨_,c⟩=>Fm (cs:=[Sb cm.name,dq,ay]) [Sb ([]:List UInt8),.nilFunc,.pointer none] P7 P5 rfl (.cons rfl rfl rfl (.cons rfl (IT (MTh.one dr)) rfl (.cons rfl (IT (F7.one ch)) rfl .nil))) rfl rfl)<|BX rfl<|Cl rfl (.none rfl) rfl rfl (Bf ha 28 rfl rfl fun j7 j8 ds hb bw=>?_)
 refine ⟨⟨_,(Tn (Mo [] bv) bw)⟩,?_⟩
 refine Qx Cu rfl (v:=Pt ds 0) (fun _ ⟨_,c⟩=>Run.assign rfl)<|Dy<|AO<|Vr (I (Wr (ab+1)))<|Vm<|AA<|have hc:=Mt dr bw;have hd:=Me (Me (Me (Me (Me (Me ch ap) an) az) a9) bv) bw; ?_
 obtain ⟨he,hf,hg⟩:=F7.lay hb dcd hc hd
 exact ⟨ax,Nat.lt_succ_self ax,_,he,(Nm.bind cm.name g8 a4),Pt ds 0,(Wr (ab+1)),Pu,(df▸a),(T3 (T4 (Mo [27,28] h) ap an az a9) bv bw hf),hg⟩
 refine Bc<|WA'.region<|LA.val (.none rfl) rfl rfl (v:=.func (.func 32) #[] [Pt am 0,Pt ak 0].toArray) (Hm (vs:=[Pt am 0,Pt ak 0]) rfl)<|LA.defer (dd:={target:=.fn (.func 32) [Pt am 0,Pt ak 0].toArray,args:=#[]}) (.none rfl) rfl (Vh rfl)<|LA.nil (?_:WA' _ _ _ _ W _ _)
 obtain ⟨B2,hB2⟩:∃B2,B2=L4 [{target:=.fn (.func 32) [Pt am 0,Pt ak 0].toArray,args:=#[]}] 122 W:=⟨_,rfl⟩
 refine Xa hB2<|Sr<|have co:=Y3 c8 u w h;Vx (Run.load1 P2 rfl (Bk.cell co rfl))<|Vx (Run.fieldAddr L9 rfl)<|have hh:=Bs bu h;Vx (Run.loadN BF rfl rfl (Bk.part hh 3 [I d.body.op,Sb d.body.name,Sb d.body.tail,I d.body.type_,Cx d.body.num,Sl cb d.body.args cc,I d.body.at_] rfl))<|Vm<|have hi:=Y3 c9 u w h;have hj:=K3 AL da u w h;have dt:=Ms (Ms (Ms b8 u) w) h;have hk:=K2 AJ fs w h;Bi a fun ba hl a=>H3 (.none rfl) rfl rfl (LP [Pt br 0,.agg [I d.body.op,Sb d.body.name,Sb d.body.tail,I d.body.type_,Cx d.body.num,Sl cb d.body.args cc,I d.body.at_].toArray,ay] rfl)<|Calls.mono (QI o a3 bh hl dcd dcd hi hj dt (Ae (x:=(AE.mk d.body.op d.body.name d.body.tail d.body.type_ d.body.num d.body.args d.body.at_)) hk) ch) ?_
 rintro _ hm ⟨cq,j9,ar,du,dv,hn⟩
 obtain ⟨ho,hp,rfl⟩:=AG dv
 obtain ⟨bx,hq,rfl⟩| ⟨y,hr,ka,rfl,kb,rfl,hs⟩:=ER.split hn
 refine have a:=Do a hq; .inl ⟨_,rfl,?_⟩
 refine have ht:=Bs co ar;have hu:=Y2 (Y4 (Y4 a1 q ac aa m) n f u w) h ar;ABm hW (B:=B2) hB2 (N6 Tryz.func32 rfl dcd) (QY cq hm am ak 0 0 ((0,0):Nat×Nat) false (.slice none 0 0) 0 0 0 0 br (.map (some bq)) (Sl ho ba.2.1 hp) ba.2.2.1 ba.2.2.2 bx ht hu du) fun kc hw=>?_
 obtain ⟨hx,hy⟩:=hw
 obtain rfl:=AP a
 refine (BG rfl (.agg O7 rfl rfl (Bk.part hx 0 [I bx,I 0,Cx (((0,0):Nat×Nat)),.bool false,.slice none 0 0,I ba.2.2.1,I 0,I 0,I 0] rfl)) ?_)
 exact ⟨cq,[I bx,I 0,Cx (((0,0):Nat×Nat)),.bool false,.slice none 0 0,I ba.2.2.1,I 0,I 0,I 0],rfl,Ho (T4 (T4 (T4 (Mo [21,22,23,24,25,26,27,28] ao) al q ac aa) m n f u) w h ar hy) a0,(Ik (x:=(BM.mk bx (AI.mk 0 ((0,0):Nat×Nat) false []) ba.2.2.1 0 0 0)) CT)⟩
 refine have a:=Gg a hr; ?_
 obtain ⟨kd,bz,b0,rfl,dw,dx,dy⟩:=DM hs
 obtain ⟨b1,b2,rfl⟩:=AG dw
 refine .inr ⟨_,rfl,?_⟩
 refine Ef (Aa cq 29 J9 rfl fun hz ke kf h0 ah=>?_)
 refine have dz:=Ss Kd.cpx dw ah;Eu (Br (vs:=[I y.plain.type_,Cx y.plain.num,.bool y.plain.bool,Sl b1 y.plain.list b2,bz,b0]) (cs':=[I y.plain.type_,Cx y.plain.num,.bool y.plain.bool,Sl b1 y.plain.list b2,bz,b0]) It rfl rfl rfl rfl (AX rfl (AX rfl (AX rfl (AX (FQ dz) (AX (MTh.one dx) (AX (MTh.one dy) CQ)))))) h0 dcd rfl rfl fun h1 h2 ai=>?_)
 refine AA<|Sr<|have cr:=Y3 co ar ah ai;Vx (Run.load1 P2 rfl (Bk.cell cr rfl))<|Vx (Run.loadN JG rfl rfl (Bk.part h2 0 [I y.plain.type_,Cx y.plain.num,.bool y.plain.bool,Sl b1 y.plain.list b2,bz,b0] rfl))<|have h3:=Y2 du ah ai;have h4:=K2 AL dv ah ai;have h5:=Ms (Ms (Ms dt ar) ah) ai;have h6:=Ss Kd.cpx dz ai;have h7:=Mt (Mt dx ah) ai;have h8:=Mt (Mt dy ah) ai;Bi a fun aj h9 a=>H3 (.none rfl) rfl rfl (AAT [Pt br 0,.agg [I y.plain.type_,Cx y.plain.num,.bool y.plain.bool,Sl b1 y.plain.list b2,bz,b0].toArray] rfl)<|Calls.mono (Pd o hz h1 h9 dcd dcd h3 h4 h5 (Cd (x:=y) h6 h7 h8)) ?_
 rintro _ ia ⟨ct,kg,bb,d0,ib,ic⟩
 obtain ⟨id,ie,rfl⟩:=AG ib
 obtain ⟨b3,ig,rfl⟩| ⟨g,ih,kh,rfl,ki,rfl,ii⟩:=ER.split ic
 refine have a:=Do a ig; .inl ⟨_,rfl,?_⟩
 refine have ij:=Bs cr bb;have ik:=Bs (Y4 (Y4 (Y4 a1 q ac aa m) n f u w) h ar ah ai) bb;ABm hW (B:=B2) hB2 (N6 Tryz.func32 rfl dcd) (QY ct ia am ak 0 0 ((0,0):Nat×Nat) false (.slice none 0 0) 0 0 0 0 br (.map (some bq)) (Sl id aj.2.1 ie) aj.2.2.1 aj.2.2.2 b3 ij ik d0) fun kj il=>?_
 obtain ⟨im,io⟩:=il
 obtain rfl:=AP a
 refine (BG rfl (.agg O7 rfl rfl (Bk.part im 0 [I b3,I 0,Cx (((0,0):Nat×Nat)),.bool false,.slice none 0 0,I aj.2.2.1,I 0,I 0,I 0] rfl)) ?_)
 exact ⟨ct,[I b3,I 0,Cx (((0,0):Nat×Nat)),.bool false,.slice none 0 0,I aj.2.2.1,I 0,I 0,I 0],rfl,Ho (T3 (T4 (T4 (T4 (Mo [21,22,23,24,25,26,27,28,29] ao) al q ac aa) m n f u) w h ar ah) ai bb io) a0,(Ik (x:=(BM.mk b3 (AI.mk 0 ((0,0):Nat×Nat) false []) aj.2.2.1 0 0 0)) CT)⟩
 refine have a:=Gg a ih; ?_
 obtain ⟨kk,rfl,d1⟩:=CU ii
 obtain ⟨bj,bk,rfl⟩:=AG d1
 refine .inr ⟨_,rfl,?_⟩
 refine Ef (Aa ct 30 FI rfl fun d2 kl km ip bl=>?_)
 refine have iq:=Ss Kd.cpx d1 bl;Eu (St F6 ip rfl rfl rfl rfl fun kn ir bm=>?_)
 refine AA<|AZ<|RI<|CJ FL (.q 0 (.q 1 (.q 2 (.q 3 (.q 4 (.q 5 (.one 6 .nil))))))) [6] [] d2 (by kernel_rfl) fun ko bc=>have it:=Bs ir bc;Qx Cu rfl (fun _ ⟨_,c⟩=>Run.loadN D9 rfl rfl (Bk.part (Bs it c) 0 [I g.type_,Cx g.num,.bool g.bool,Sl bj g.list bk] rfl))<|have iu:=Y4 cr bb bl bm bc;Qx Cu rfl (fun _ ⟨_,c⟩=>Run.load1 P2 rfl (Bk.cell (Bs iu c) rfl))<|Qx Cu rfl (fun _ ⟨_,c⟩=>Run.nilCheck rfl)<|Qx Cu rfl (fun _ ⟨_,c⟩=>Run.fieldAddr OA rfl)<|have iv:=Y3 d0 bl bm bc;Qx Cu rfl (fun _ ⟨_,c⟩=>Run.load1 B5 rfl (Bk.cell (Bs iv c) rfl))<|Qx Cu rfl (v:=.agg [I 0,I g.type_,Cx g.num,.bool g.bool,Sl bj g.list bk,I aj.2.2.1,I 0,I 0,I 0].toArray) (fun _ ⟨_,c⟩=>Fm (cs:=[I 0,I g.type_,Cx g.num,.bool g.bool,Sl bj g.list bk,I aj.2.2.1,I 0,I 0,I 0]) [I 0,I 0,Cx (((0,0):Nat×Nat)),.bool false,.slice none 0 0,I 0,I 0,I 0,I 0] Mh P3 rfl (.cons rfl rfl rfl (.cons rfl rfl rfl .nil)) rfl rfl)<|FP dcd<|WY.one<|have iw:=Y4 (Y4 (Y4 (Y4 a1 q ac aa m) n f u w) h ar ah ai) bb bl bm bc;have ix:=K2 Kd.cpx iq bm bc;Be rfl (.none rfl) rfl (St NH iw rfl rfl rfl rfl fun kp iy d3=>?_)
 refine WY.nil<|AT ?_
 obtain rfl:=AP a
 refine AB0 hW (B:=B2) hB2 (N6 Tryz.func32 rfl dcd) (XF (Pt am 0) (Pt ak 0) _) (BG rfl (.agg O7 rfl rfl (Bk.part iy 0 [I 0,I g.type_,Cx g.num,.bool g.bool,Sl bj g.list bk,I aj.2.2.1,I 0,I 0,I 0] rfl)) ?_)
 refine have iz:=Ss Kd.cpx ix d3;⟨d2,[I 0,I g.type_,Cx g.num,.bool g.bool,Sl bj g.list bk,I aj.2.2.1,I 0,I 0,I 0],rfl,Ho (T2 (T4 (T4 (T4 (T4 (Mo [21,22,23,24,25,26,27,28,29,30] ao) al q ac aa) m n f u) w h ar ah) ai bb bl bm) bc d3) a0,(Ik (x:=(BM.mk 0 g aj.2.2.1 0 0 0)) iz)⟩
theorem NV(c:Nat):F4.Spec (F4 c):=by
 intro a d p q r s u w y e f g
 refine Calls.mono (TQ c (recol (see []) a) d (Az lbr a) e (Au BN f []) (By A1 g [])) ?_
 rintro z aa ⟨h,l,m,n,o⟩
 exact ⟨glue [] d a h,l,m,Ad n Ay,BB NA o⟩
def HO.At(d:Col)(a:World)(f:Option Bool):Prop:=
 ∀{c:Bool},f=some c→
  Calls Tryz.prog 10 #[] a fun e g=>∃(h:Col),e=.returned (.bool c)∧AQ [] d a h g
def HO.Spec(f:Option Bool):Prop:=
 ∀(a:Col) (c:World),HO.At a c f
theorem Q7(q:Nat)(ab:Col)(aw:World)(ax:∀b,ab b<10):HO.At ab aw (HO q):=by
 intro ay a
 rw [HO] at a
 refine A0 Tryz.func10 rfl Tryz.ntmps10 rfl fun B az b0=>Sr<|Va (.bool false)<|AA<|Sr<|Ef (DC (cs:=[.int .u8 ((102:UInt8).toNat:Int),.int .u8 ((40:UInt8).toNat:Int),.int .u8 ((120:UInt8).toNat:Int),.int .u8 ((32:UInt8).toNat:Int),.int .u8 ((78:UInt8).toNat:Int),.int .u8 ((41:UInt8).toNat:Int),.int .u8 ((58:UInt8).toNat:Int),.int .u8 ((78:UInt8).toNat:Int),.int .u8 ((61:UInt8).toNat:Int),.int .u8 ((120:UInt8).toNat:Int),.int .u8 ((43:UInt8).toNat:Int),.int .u8 ((120:UInt8).toNat:Int),.int .u8 ((59:UInt8).toNat:Int),.int .u8 ((103:UInt8).toNat:Int),.int .u8 ((40:UInt8).toNat:Int),.int .u8 ((41:UInt8).toNat:Int),.int .u8 ((58:UInt8).toNat:Int),.int .u8 ((78:UInt8).toNat:Int),.int .u8 ((61:UInt8).toNat:Int),.int .u8 ((102:UInt8).toNat:Int),.int .u8 ((40:UInt8).toNat:Int),.int .u8 ((49:UInt8).toNat:Int),.int .u8 ((43:UInt8).toNat:Int),.int .u8 ((50:UInt8).toNat:Int),.int .u8 ((41:UInt8).toNat:Int),.int .u8 ((59:UInt8).toNat:Int)]) ab 20 [[.int .u8 ((102:UInt8).toNat:Int)],[.int .u8 ((40:UInt8).toNat:Int)],[.int .u8 ((120:UInt8).toNat:Int)],[.int .u8 ((32:UInt8).toNat:Int)],[.int .u8 ((78:UInt8).toNat:Int)],[.int .u8 ((41:UInt8).toNat:Int)],[.int .u8 ((58:UInt8).toNat:Int)],[.int .u8 ((78:UInt8).toNat:Int)],[.int .u8 ((61:UInt8).toNat:Int)],[.int .u8 ((120:UInt8).toNat:Int)],[.int .u8 ((43:UInt8).toNat:Int)],[.int .u8 ((120:UInt8).toNat:Int)],[.int .u8 ((59:UInt8).toNat:Int)],[.int .u8 ((103:UInt8).toNat:Int)],[.int .u8 ((40:UInt8).toNat:Int)],[.int .u8 ((41:UInt8).toNat:Int)],[.int .u8 ((58:UInt8).toNat:Int)],[.int .u8 ((78:UInt8).toNat:Int)],[.int .u8 ((61:UInt8).toNat:Int)],[.int .u8 ((102:UInt8).toNat:Int)],[.int .u8 ((40:UInt8).toNat:Int)],[.int .u8 ((49:UInt8).toNat:Int)],[.int .u8 ((43:UInt8).toNat:Int)],[.int .u8 ((50:UInt8).toNat:Int)],[.int .u8 ((41:UInt8).toNat:Int)],[.int .u8 ((59:UInt8).toNat:Int)]] HT YB rfl rfl (.cons rfl rfl rfl (.cons rfl rfl rfl (.cons rfl rfl rfl (.cons rfl rfl rfl (.cons rfl rfl rfl (.cons rfl rfl rfl (.cons rfl rfl rfl (.cons rfl rfl rfl (.cons rfl rfl rfl (.cons rfl rfl rfl (.cons rfl rfl rfl (.cons rfl rfl rfl (.cons rfl rfl rfl (.cons rfl rfl rfl (.cons rfl rfl rfl (.cons rfl rfl rfl (.cons rfl rfl rfl (.cons rfl rfl rfl (.cons rfl rfl rfl (.cons rfl rfl rfl (.cons rfl rfl rfl (.cons rfl rfl rfl (.cons rfl rfl rfl (.cons rfl rfl rfl (.cons rfl rfl rfl (.cons rfl rfl rfl .nil)))))))))))))))))))))))))) rfl fun a0 a1 ac a2 a3=>?_)
 refine have a4:Own Kd.u8 5 a0 a1 20 (.slice (some ⟨ac,0,none⟩) 26 26) ([(102:UInt8),(40:UInt8),(120:UInt8),(32:UInt8),(78:UInt8),(41:UInt8),(58:UInt8),(78:UInt8),(61:UInt8),(120:UInt8),(43:UInt8),(120:UInt8),(59:UInt8),(103:UInt8),(40:UInt8),(41:UInt8),(58:UInt8),(78:UInt8),(61:UInt8),(102:UInt8),(40:UInt8),(49:UInt8),(43:UInt8),(50:UInt8),(41:UInt8),(59:UInt8)]:List UInt8):=Own.lit (css:=[[.int .u8 ((102:UInt8).toNat:Int)],[.int .u8 ((40:UInt8).toNat:Int)],[.int .u8 ((120:UInt8).toNat:Int)],[.int .u8 ((32:UInt8).toNat:Int)],[.int .u8 ((78:UInt8).toNat:Int)],[.int .u8 ((41:UInt8).toNat:Int)],[.int .u8 ((58:UInt8).toNat:Int)],[.int .u8 ((78:UInt8).toNat:Int)],[.int .u8 ((61:UInt8).toNat:Int)],[.int .u8 ((120:UInt8).toNat:Int)],[.int .u8 ((43:UInt8).toNat:Int)],[.int .u8 ((120:UInt8).toNat:Int)],[.int .u8 ((59:UInt8).toNat:Int)],[.int .u8 ((103:UInt8).toNat:Int)],[.int .u8 ((40:UInt8).toNat:Int)],[.int .u8 ((41:UInt8).toNat:Int)],[.int .u8 ((58:UInt8).toNat:Int)],[.int .u8 ((78:UInt8).toNat:Int)],[.int .u8 ((61:UInt8).toNat:Int)],[.int .u8 ((102:UInt8).toNat:Int)],[.int .u8 ((40:UInt8).toNat:Int)],[.int .u8 ((49:UInt8).toNat:Int)],[.int .u8 ((43:UInt8).toNat:Int)],[.int .u8 ((50:UInt8).toNat:Int)],[.int .u8 ((41:UInt8).toNat:Int)],[.int .u8 ((59:UInt8).toNat:Int)]]) a2 rfl rfl rfl (AW rfl (AW rfl (AW rfl (AW rfl (AW rfl (AW rfl (AW rfl (AW rfl (AW rfl (AW rfl (AW rfl (AW rfl (AW rfl (AW rfl (AW rfl (AW rfl (AW rfl (AW rfl (AW rfl (AW rfl (AW rfl (AW rfl (AW rfl (AW rfl (AW rfl (AW rfl BE)))))))))))))))))))))))))) (A2 rfl (A2 rfl (A2 rfl (A2 rfl (A2 rfl (A2 rfl (A2 rfl (A2 rfl (A2 rfl (A2 rfl (A2 rfl (A2 rfl (A2 rfl (A2 rfl (A2 rfl (A2 rfl (A2 rfl (A2 rfl (A2 rfl (A2 rfl (A2 rfl (A2 rfl (A2 rfl (A2 rfl (A2 rfl (A2 rfl ED)))))))))))))))))))))))))) rfl;Ef (XZ ZU rfl a4 (by simp) dcd fun a5 a6 a7 a8=>?_)
 refine Vx (v:=.agg [Sl (some ⟨ac,0,none⟩) (([(102:UInt8),(40:UInt8),(120:UInt8),(32:UInt8),(78:UInt8),(41:UInt8),(58:UInt8),(78:UInt8),(61:UInt8),(120:UInt8),(43:UInt8),(120:UInt8),(59:UInt8),(103:UInt8),(40:UInt8),(41:UInt8),(58:UInt8),(78:UInt8),(61:UInt8),(102:UInt8),(40:UInt8),(49:UInt8),(43:UInt8),(50:UInt8),(41:UInt8),(59:UInt8)]:List UInt8)) 26,Sb ([103]:List UInt8),Sb ([]:List UInt8)].toArray) (Bp AA7 Tb.p24 rfl (.cons rfl rfl rfl (.cons rfl rfl rfl (.cons rfl rfl rfl .nil))))<|Bi a fun c a9 a=>Ca (Xc [.agg [Sl (some ⟨ac,0,none⟩) (([(102:UInt8),(40:UInt8),(120:UInt8),(32:UInt8),(78:UInt8),(41:UInt8),(58:UInt8),(78:UInt8),(61:UInt8),(120:UInt8),(43:UInt8),(120:UInt8),(59:UInt8),(103:UInt8),(40:UInt8),(41:UInt8),(58:UInt8),(78:UInt8),(61:UInt8),(102:UInt8),(40:UInt8),(49:UInt8),(43:UInt8),(50:UInt8),(41:UInt8),(59:UInt8)]:List UInt8)) 26,Sb ([103]:List UInt8),Sb ([]:List UInt8)].toArray] rfl) (MY q a5 a6 a9 (PO (x:=(FK.mk ([(102:UInt8),(40:UInt8),(120:UInt8),(32:UInt8),(78:UInt8),(41:UInt8),(58:UInt8),(78:UInt8),(61:UInt8),(120:UInt8),(43:UInt8),(120:UInt8),(59:UInt8),(103:UInt8),(40:UInt8),(41:UInt8),(58:UInt8),(78:UInt8),(61:UInt8),(102:UInt8),(40:UInt8),(49:UInt8),(43:UInt8),(50:UInt8),(41:UInt8),(59:UInt8)]:List UInt8) ([103]:List UInt8) ([]:List UInt8))) a7)) ?_
 rintro _ b1 ⟨ba,b2,b3,rfl,bb,bc,ai⟩
 obtain ⟨b4,rfl,aj⟩:=BK bc
 obtain ⟨n,o,rfl⟩:=AG aj
 obtain ⟨r,s,rfl⟩:=AG ai
 refine ⟨_,rfl,?_⟩
 refine Vm<|Vr (.agg [Sl n c.1.funcs o].toArray)<|Vr (Sl r c.2.1 s)<|Vr (.bool c.2.2)<|Ef (Aa ba 21 JW rfl fun bd b5 b6 be ad=>?_)
 refine have bf:=Ss AL aj ad;Eu (St IS be rfl rfl rfl rfl fun bg ak ae=>?_)
 refine Va (Sl r c.2.1 s)<|Va (.bool c.2.2)<|AA<|Sr<|Vx (Run.loadN Gw rfl rfl (Bk.part ak 0 [Sl n c.1.funcs o] rfl))<|Vm<|have al:=Ss AL bf ae;have am:=K2 A1 ai ad ae;Bi a fun u bh a=>Ca (Vj [.agg [Sl n c.1.funcs o].toArray,Sb ([103]:List UInt8),Sl r c.2.1 s,I 99] rfl) (NV q bd bg bh (BS (x:=c.1) al) am) ?_
 rintro _ b7 ⟨bi,b8,rfl,w,bj⟩
 obtain ⟨b9,rfl,an⟩:=Mc bj
 obtain ⟨ca,cb,rfl⟩:=AG an
 refine ⟨_,rfl,?_⟩
 refine Ef (Aa bi 22 Mh rfl fun bk cc cd bl p=>?_)
 refine have cf:=Ss Kd.cpx an p;Eu (St NH bl rfl rfl rfl rfl fun bm bn y=>?_)
 refine AA<|Sr<|have bo:=Y3 ak w p y;Vx (Run.loadN Gw rfl rfl (Bk.part bo 0 [Sl n c.1.funcs o] rfl))<|Vm<|have bp:=K3 AL al w p y;have bq:=K3 A1 am w p y;Bi a fun z br a=>Ca (Vj [.agg [Sl n c.1.funcs o].toArray,Sb ([103]:List UInt8),Sl r c.2.1 s,I 9] rfl) (NV q bk bm br (BS (x:=c.1) bp) bq) ?_
 rintro _ cg ⟨bt,ch,rfl,ao,bu⟩
 obtain ⟨ci,rfl,ap⟩:=Mc bu
 obtain ⟨cj,ck,rfl⟩:=AG ap
 refine ⟨_,rfl,?_⟩
 refine Ef (Aa bt 23 Mh rfl fun m cl cm bv af=>?_)
 refine have cn:=Ss Kd.cpx ap af;Eu (St NH bv rfl rfl rfl rfl fun bw aq ar=>?_)
 refine AA<|Ao (fun bx au=>∃(av:Env) (ag:Col) (ah:Bool),bx=av.puts [(0,.bool ah)]∧GK ah=some ay∧AQ [] m bw ag au) ?_ ?_
 refine AO<|Vm<|Vm<|Bo a (fun f a=>?_) fun f a=>?_
 refine Gx f (Run.fieldAddr0 Rl rfl)<|have aa:=Y3 bn ao af ar;Gx f (Run.load1 Md rfl (Bk.cell aa rfl))<|Gr f (.bool (u.why==0))<|Vp f<|Vm<|Bo a (fun d a=>?_) fun d a=>?_
 refine Gx d (Run.fieldAddr Lh rfl)<|Gx d (Run.fieldAddr0 JH rfl)<|Gx d (Run.load1 EA rfl (Bk.cell aa rfl))<|Gr d (.bool (u.value.type_==1))<|Vp d<|Vm<|Bo a (fun e a=>?_) fun e a=>?_
 refine Gx e (Run.fieldAddr Lh rfl)<|Gx e (Run.fieldAddr Jf rfl)<|Gx e (Run.load1 Jo rfl (Bk.cell aa rfl))<|Gx e (v:=.bool (ceq u.value.num ((4618441417868443648,0):Nat×Nat))) (Run.ceq rfl rfl)<|Vp e<|Vm<|Bo a (fun g a=>?_) fun g a=>?_
 refine Gx g (Run.fieldAddr Rm rfl)<|Gx g (Run.load1 B5 rfl (Bk.cell aa rfl))<|Gr g (.bool (u.moves==10))<|Vp g<|Vm<|Bo a (fun h a=>?_) fun h a=>?_
 refine Gx h (Run.fieldAddr0 Rl rfl)<|Gx h (Run.load1 Md rfl (Bk.cell aq rfl))<|Gr h (.bool (z.why==60))<|Vp h<|Vm<|Bo a (fun l a=>?_) fun l a=>?_
 refine Gx l (Run.fieldAddr Rm rfl)<|Gx l (Run.load1 B5 rfl (Bk.cell aq rfl))<|Gr l (.bool (z.moves==9))<|Vp l<|Va (.bool (z.moves==9))<|AA<|⟨_,m,(z.moves==9),Pu,a,(AQ.refl [] _ _)⟩
 refine Pg l<|Pg l<|Pg l<|Vp l<|Va (.bool false)<|AA<|⟨_,m,false,Pu,a,(AQ.refl [] _ _)⟩
 refine Pg h<|Pg h<|Pg h<|Vp h<|Vm<|Pg rfl<|Pg rfl<|Pg rfl<|Vr (.bool false)<|Va (.bool false)<|AA<|⟨_,m,false,Pu,a,(AQ.refl [] _ _)⟩
 refine Pg g<|Pg g<|Pg g<|Vp g<|Vm<|Pg rfl<|Pg rfl<|Pg rfl<|Vr (.bool false)<|Vm<|Pg rfl<|Pg rfl<|Pg rfl<|Vr (.bool false)<|Va (.bool false)<|AA<|⟨_,m,false,Pu,a,(AQ.refl [] _ _)⟩
 refine Pg e<|Pg e<|Pg e<|Pg e<|Vp e<|Vm<|Pg rfl<|Pg rfl<|Pg rfl<|Vr (.bool false)<|Vm<|Pg rfl<|Pg rfl<|Pg rfl<|Vr (.bool false)<|Vm<|Pg rfl<|Pg rfl<|Pg rfl<|Vr (.bool false)<|Va (.bool false)<|AA<|⟨_,m,false,Pu,a,(AQ.refl [] _ _)⟩
 refine Pg d<|Pg d<|Pg d<|Pg d<|Vp d<|Vm<|Pg rfl<|Pg rfl<|Pg rfl<|Pg rfl<|Vr (.bool false)<|Vm<|Pg rfl<|Pg rfl<|Pg rfl<|Vr (.bool false)<|Vm<|Pg rfl<|Pg rfl<|Pg rfl<|Vr (.bool false)<|Vm<|Pg rfl<|Pg rfl<|Pg rfl<|Vr (.bool false)<|Va (.bool false)<|AA<|⟨_,m,false,Pu,a,(AQ.refl [] _ _)⟩
 refine Pg f<|Pg f<|Pg f<|Vp f<|Vm<|Pg rfl<|Pg rfl<|Pg rfl<|Pg rfl<|Vr (.bool false)<|Vm<|Pg rfl<|Pg rfl<|Pg rfl<|Pg rfl<|Vr (.bool false)<|Vm<|Pg rfl<|Pg rfl<|Pg rfl<|Vr (.bool false)<|Vm<|Pg rfl<|Pg rfl<|Pg rfl<|Vr (.bool false)<|Vm<|Pg rfl<|Pg rfl<|Pg rfl<|Vr (.bool false)<|Va (.bool false)<|AA<|⟨_,m,false,Pu,a,(AQ.refl [] _ _)⟩
 rintro _ au ⟨av,ag,ah,rfl,a,bz⟩
 rw [GK] at a
 refine AT ?_
 obtain rfl:=AP a
 refine Ax (B:=B) az (BG rfl (.tmp rfl) ?_)
 exact ⟨ag,rfl,Ho (T3 (T4 (T4 (Mo [20,21,22,23] a3) a8 bb ad ae) w p y ao) af ar bz) ax⟩
theorem SQ(c:Nat):HO.Spec (HO c):=by
 intro a d l e
 refine Calls.mono (Q7 c (recol (see []) a) d (Az lbr a) e) ?_
 rintro m n ⟨f,g,h⟩
 exact ⟨glue [] d a f,g,Ad h Ay⟩
def GZ.At(c:Col)(a:World)(f:AM→Bts→Option Int):Prop:=
 ∀{d:AM} {e:List Value} {g:Bts} {h:Int},f d g=some h→BN.rep c.F a e d→
  Calls Tryz.prog 94 #[.agg e.toArray,Sb g] a fun l m=>∃(n:Col),l=.returned (I h)∧AQ [] c a n m
def GZ.Spec(f:AM→Bts→Option Int):Prop:=
 ∀(a:Col) (c:World),GZ.At a c f
theorem Q8(p:Nat)(l:Col)(ad:World)(q:∀b,l b<10):GZ.At l ad (GZ p):=by
 intro e az f r a ae
 rw [GZ] at a
 obtain ⟨a0,rfl,u⟩:=BK ae
 obtain ⟨a1,a2,rfl⟩:=AG u
 refine A0 Tryz.func94 rfl Tryz.ntmps94 rfl fun B w a3=>Sr<|Ef (Bf l 20 rfl rfl fun y af ag ah m=>?_)
 refine Va (I 0)<|AA<|AZ<|Sr<|Va (I 0)<|AA<|Aj<|Bt (fun d ai n=>∃(z:Env) (g:Col) (c:Int),ai=z.puts [(1,.string (bs f)),(2,.pointer (some ⟨ag,0,none⟩)),(5,.int .i64 c)]∧IG e f d c=some r∧AQ [] y af g n) p ?_ ?_
 exact ⟨_,y,0,Pu,a,(AQ.refl [] _ _)⟩
 rintro d _ n ⟨z,g,c,rfl,a,h⟩
 rcases d with _|d
 exact BC a
 refine have a:Jb e f (IG e f d) c=some r:=a; ?_
 obtain ⟨a4,aa⟩:∃s,s=IG e f d:=⟨_,rfl⟩
 rw [←aa,Jb] at a
 refine AZ<|Sr<|Vm<|Vx (Run.fieldAddr0 D5 rfl)<|have ab:=Bs ah h;Vx (Run.load1 GQ rfl (Bk.cell ab rfl))<|have ac:=K2 AL u m h; ?_
 obtain ⟨a5,a6,aj⟩:=AG ac
 refine Vx (v:=I (e.funcs.length:Int)) (Run.lenSlc Fp aj)<|Vr (.bool (decide (c< (e.funcs.length:Int))))<|AA<|Cn a (fun ak a=>?_) fun ak a=>?_
 refine WC.skip<|AZ<|Aj<|Sr<|Vx (Run.fieldAddr0 D5 rfl)<|Vx (Run.load1 GQ rfl (Bk.cell ab rfl))<|Vm<|Bi a fun al am a=>?_
 obtain ⟨an,ao,a7,ap,aq,ar,au,av,o⟩:=BL (κ:=AL) ac am
 replace o:A8 g n an (ao+c.toNat*11) ap:=o
 obtain ⟨a8,a9,rfl,aw,ax⟩:=Cw av
 obtain ⟨ba,bb,rfl⟩:=AG aw
 obtain ⟨bc,bd,rfl⟩:=AG ax
 refine Vx (Run.indexAddr Fp aq rfl ar au)<|Vx (Run.fieldAddr0 L8 rfl)<|Vx (Run.load1 CS rfl (A8.cell0 o rfl))<|Vm<|Vx (v:=.bool (al.name==f)) (Run.strEq rfl rfl)<|AA<|Cn a (fun ay a=>?_) fun ay a=>?_
 refine Sr<|Vm<|Va (I c)<|AA<|AT ?_
 obtain rfl:=AP a
 refine Ax (B:=B) w (BG rfl (.tmp rfl) ?_)
 exact ⟨g,rfl,Ho (Tn (Mo [] m) h) q⟩
 refine WC.skip<|AO<|Vm<|Vr (I (Wr (c+1)))<|Va (I (Wr (c+1)))<|AA<|⟨d,Nat.lt_succ_self d,_,g,(Wr (c+1)),Pu,(aa▸a),(Mo [] h)⟩
 refine Bc<|Sr<|Va (I (-1:Int))<|AA<|AT ?_
 obtain rfl:=AP a
 refine Ax (B:=B) w (BG rfl (.tmp rfl) ?_)
 exact ⟨g,rfl,Ho (Tn (Mo [] m) h) q⟩
theorem OV(c:Nat):GZ.Spec (GZ c):=by
 intro a d m n o p e f
 refine Calls.mono (Q8 c (recol (see []) a) d (Az lbr a) e (Au BN f [])) ?_
 rintro q r ⟨g,h,l⟩
 exact ⟨glue [] d a g,h,Ad l Ay⟩
def IV.At(c:Col)(a:World)(f:(List Bts)→Bts→Option Bool):Prop:=
 ∀{d:(List Bts)} {v0:Value} {e:Bts} {g:Bool},f d e=some g→Slc CH c.F a v0 d→
  Calls Tryz.prog 20 #[v0,Sb e] a fun h l=>∃(m:Col),h=.returned (.bool g)∧AQ [] c a m l
def IV.Spec(f:(List Bts)→Bts→Option Bool):Prop:=
 ∀(a:Col) (c:World),IV.At a c f
theorem TR(o:Nat)(h:Col)(p:World)(q:∀b,h b<10):IV.At h p (IV o):=by
 intro e v0 f r a u
 rw [IV] at a
 obtain ⟨ad,ae,rfl⟩:=AG u
 refine A0 Tryz.func20 rfl Tryz.ntmps20 rfl fun B w aq=>Sr<|Va (.bool false)<|AA<|AZ<|Sr<|Va (I 0)<|AA<|Aj<|Bt (fun d af m=>∃(y:Env) (g:Col) (c:Int),af=y.puts [(0,.slice ad e.length ae),(1,.string (bs f)),(5,.int .i64 c)]∧JP e f d c=some r∧AQ [] h p g m) o ?_ ?_
 exact ⟨_,h,0,Pu,a,(AQ.refl [] _ _)⟩
 rintro d _ m ⟨y,g,c,rfl,a,l⟩
 rcases d with _|d
 exact BC a
 refine have a:KU e f (JP e f d) c=some r:=a; ?_
 obtain ⟨ar,z⟩:∃s,s=JP e f d:=⟨_,rfl⟩
 rw [←z,KU] at a
 refine AZ<|Sr<|Vm<|Vm<|have aa:=Ss CH u l; ?_
 obtain ⟨au,av,ag⟩:=AG aa
 refine Vx (v:=I (e.length:Int)) (Run.lenSlc Hi ag)<|Vr (.bool (decide (c< (e.length:Int))))<|AA<|Cn a (fun ah a=>?_) fun ah a=>?_
 refine WC.skip<|AZ<|Aj<|Sr<|Vm<|Vm<|Bi a fun ab ai a=>?_
 obtain ⟨aj,ak,aw,ac,al,am,an,ao,n⟩:=BL (κ:=CH) aa ai
 replace n:A8 g m aj (ak+c.toNat*1) ac:=n
 obtain rfl:=(show ac=[Sb ab] from ao)
 refine Vx (Run.indexAddr Hi al rfl am an)<|Vx (Run.load1 CS rfl (A8.cell0 n rfl))<|Vm<|Vx (v:=.bool (ab==f)) (Run.strEq rfl rfl)<|AA<|Cn a (fun ap a=>?_) fun ap a=>?_
 refine Sr<|Va (.bool true)<|AA<|AT ?_
 obtain rfl:=AP a
 refine Ax (B:=B) w (BG rfl (.tmp rfl) ?_)
 exact ⟨g,rfl,Ho (Mo [] l) q⟩
 refine WC.skip<|AO<|Vm<|Vr (I (Wr (c+1)))<|Va (I (Wr (c+1)))<|AA<|⟨d,Nat.lt_succ_self d,_,g,(Wr (c+1)),Pu,(z▸a),(Mo [] l)⟩
 refine Bc<|Sr<|Va (.bool false)<|AA<|AT ?_
 obtain rfl:=AP a
 refine Ax (B:=B) w (BG rfl (.tmp rfl) ?_)
 exact ⟨g,rfl,Ho (Mo [] l) q⟩
theorem Pe(c:Nat):IV.Spec (IV c):=by
 intro a d m v0 n o e f
 refine Calls.mono (TR c (recol (see []) a) d (Az lbr a) e (By CH f [])) ?_
 rintro p q ⟨g,h,l⟩
 exact ⟨glue [] d a g,h,Ad l Ay⟩
def Hy.At(c:Col)(a:World)(f:AE→Int→Option (List Bts)):Prop:=
 ∀{d:AE} {e:List Value} {g:Int} {h:(List Bts)},f d g=some h→AJ.rep c.F a e d→
  Calls Tryz.prog 127 #[.agg e.toArray,I g] a fun o l=>∃(m:Col) (n:Value),o=.returned n∧AQ [] c a m l∧Slc CH m.F l n h
def Hy.Spec(f:AE→Int→Option (List Bts)):Prop:=
 ∀(a:Col) (c:World),Hy.At a c f
theorem Q9(p:Col)(ah:World)(q:∀b,p b<10):Hy.At p ah Hy:=by
 intro c a8 d ad a ai
 rw [Hy] at a
 obtain ⟨a9,rfl,aj⟩:=Am ai
 obtain ⟨ba,bb,rfl⟩:=AG aj
 refine A0 Tryz.func127 rfl Tryz.ntmps127 rfl fun B r bc=>Sr<|Ef (Bf p 20 rfl rfl fun n ak ae l s=>?_)
 refine Va (.slice none 0 0)<|AA<|AZ<|Aj<|Ao (fun u w=>∃(m:Env) (g:Col) (y:Bool),u=m.puts [(1,.int .i64 d),(2,.pointer (some ⟨ae,0,none⟩)),(5,.bool y)]∧J2 c d y=some ad∧AQ [] n ak g w) ?_ ?_
 refine Sr<|Vx (Run.fieldAddr0 DR rfl)<|Vx (Run.load1 HS rfl (Bk.cell l rfl))<|Vr (.bool (c.op==21))<|Va (.bool (c.op==21))<|AA<|Cn a (fun al a=>?_) fun al a=>?_
 refine WC.skip<|⟨_,n,(c.op==21),Pu,a,(AQ.refl [] _ _)⟩
 refine AO<|Vx (Run.fieldAddr0 DR rfl)<|Vx (Run.load1 HS rfl (Bk.cell l rfl))<|Vr (.bool (c.op==22))<|Vm<|Bo a (fun e a=>?_) fun e a=>?_
 refine Gm e<|Gr e (.bool (d==1))<|Vp e<|Va (.bool (d==1))<|AA<|⟨_,n,(d==1),Pu,a,(AQ.refl [] _ _)⟩
 refine Pg e<|Pg e<|Vp e<|Va (.bool false)<|AA<|⟨_,n,false,Pu,a,(AQ.refl [] _ _)⟩
 rintro _ w ⟨m,g,y,rfl,a,h⟩
 rw [J2] at a
 refine Cn a (fun am a=>?_) fun am a=>?_
 refine Sr<|Vx (Run.fieldAddr EN rfl)<|have an:=Bs l h;Vx (Run.load1 CS rfl (Bk.cell an rfl))<|Ef (DC (cs:=[Sb c.name]) g 21 [[Sb c.name]] Hi Oz rfl rfl (.cons rfl rfl rfl .nil) rfl fun ao ap z aq ar=>?_)
 refine have au:Own CH 9 ao ap 21 (.slice (some ⟨z,0,none⟩) 1 1) ([c.name]:List Bts):=Own.lit (css:=[[Sb c.name]]) aq rfl rfl rfl (AW rfl BE) (A2 rfl ED) rfl;Va (Sl (some ⟨z,0,none⟩) (([c.name]:List Bts)) 1)<|AA<|AT ?_
 obtain ⟨av,aw,ax⟩:=Own.freeze (S:=[21]) au dcd dcd
 obtain rfl:=AP a
 refine Ax (B:=B) r (BG rfl (.tmp rfl) ?_)
 exact ⟨av,Sl (some ⟨z,0,none⟩) (([c.name]:List Bts)) 1,rfl,Ho (T3 (Mo [21] s) h ar aw) q,ax⟩
 refine Ao (fun u af=>∃(m:Env) (o:Col) (aa:Bool),u=m.puts [(2,.pointer (some ⟨ae,0,none⟩)),(19,.bool aa)]∧K6 c aa=some ad∧AQ [] g w o af) ?_ ?_
 refine AO<|Vx (Run.fieldAddr0 DR rfl)<|have ay:=Bs l h;Vx (Run.load1 HS rfl (Bk.cell ay rfl))<|Vr (.bool (c.op==20))<|Vm<|Bo a (fun f a=>?_) fun f a=>?_
 refine Gm f<|Gr f (.bool (d==2))<|Vp f<|Va (.bool (d==2))<|AA<|⟨_,g,(d==2),Pu,a,(AQ.refl [] _ _)⟩
 refine Pg f<|Pg f<|Vp f<|Va (.bool false)<|AA<|⟨_,g,false,Pu,a,(AQ.refl [] _ _)⟩
 rintro _ af ⟨m,o,aa,rfl,a,ab⟩
 rw [K6] at a
 refine Cn a (fun az a=>?_) fun az a=>?_
 refine Sr<|Vx (Run.fieldAddr EN rfl)<|have ag:=Y2 l h ab;Vx (Run.load1 CS rfl (Bk.cell ag rfl))<|Vx (Run.fieldAddr M3 rfl)<|Vx (Run.load1 CS rfl (Bk.cell ag rfl))<|Ef (DC (cs:=[Sb c.name,Sb c.tail]) o 22 [[Sb c.name],[Sb c.tail]] Hi Oz rfl rfl (.cons rfl rfl rfl (.cons rfl rfl rfl .nil)) rfl fun a0 a1 ac a2 a3=>?_)
 refine have a4:Own CH 9 a0 a1 22 (.slice (some ⟨ac,0,none⟩) 2 2) ([c.name,c.tail]:List Bts):=Own.lit (css:=[[Sb c.name],[Sb c.tail]]) a2 rfl rfl rfl (AW rfl (AW rfl BE)) (A2 rfl (A2 rfl ED)) rfl;Va (Sl (some ⟨ac,0,none⟩) (([c.name,c.tail]:List Bts)) 2)<|AA<|AT ?_
 obtain ⟨a5,a6,a7⟩:=Own.freeze (S:=[22]) a4 dcd dcd
 obtain rfl:=AP a
 refine Ax (B:=B) r (BG rfl (.tmp rfl) ?_)
 exact ⟨a5,Sl (some ⟨ac,0,none⟩) (([c.name,c.tail]:List Bts)) 2,rfl,Ho (T4 (Mo [22] s) h ab a3 a6) q,a7⟩
 refine WC.skip<|Sr<|Va (.slice none 0 0)<|AA<|AT ?_
 obtain rfl:=AP a
 refine Ax (B:=B) r (BG rfl (.tmp rfl) ?_)
 exact ⟨o,.slice none 0 0,rfl,Ho (T2 (Mo [] s) h ab) q,CT⟩
theorem SR:Hy.Spec Hy:=by
 intro a c n o p q d e
 refine Calls.mono (Q9 (recol (see []) a) c (Az lbr a) d (Au AJ e [])) ?_
 rintro r s ⟨f,g,h,l,m⟩
 exact ⟨glue [] c a f,g,h,Ad l Ay,DV CH m⟩
def IH.At(c:Col)(a:World)(f:(List Bts)→(List Bts)→Option (List Bts)):Prop:=
 ∀{d:(List Bts)} {v0:Value} {e:(List Bts)} {g:Value} {h:(List Bts)},f d e=some h→Slc CH c.F a v0 d→Slc CH c.F a g e→
  Calls Tryz.prog 44 #[v0,g] a fun o l=>∃(m:Col) (n:Value),o=.returned n∧AQ [] c a m l∧Slc CH m.F l n h
def IH.Spec(f:(List Bts)→(List Bts)→Option (List Bts)):Prop:=
 ∀(a:Col) (c:World),IH.At a c f
theorem SS(c:Col)(e:World)(s:∀b,c b<10):IH.At c e IH:=by
 intro d v0 f ae af a g h
 rw [IH] at a
 obtain ⟨ag,ah,rfl⟩:=AG g
 obtain ⟨ai,aj,rfl⟩:=AG h
 refine A0 Tryz.func44 rfl Tryz.ntmps44 rfl fun B u ak=>Sr<|Va (.slice none 0 0)<|AA<|Sr<|Va (.slice none 0 0)<|AA<|Sr<|Vm<|Vm<|Bi a fun al l a=>Ef (Bx (κ:=CH) rfl rfl (Own.nil:Own CH 9 c e 20 _ _) dcd UE (Hl g) (FW l) (Fk l) fun am an ao m n=>?_)
 obtain ⟨w,y,rfl⟩:=Own.len m
 refine Va (Sl w ((([]:List Bts)++d)) y)<|AA<|Sr<|Vm<|Vm<|have z:=Ss CH h n;Bi a fun ap o a=>Ef (Bx (κ:=CH) rfl rfl m dcd UE (Hl z) (FW o) (Fk o) fun aq ar au p aa=>?_)
 obtain ⟨q,r,rfl⟩:=Own.len p
 refine Va (Sl q (((([]:List Bts)++d)++f)) r)<|AA<|AT ?_
 obtain ⟨ab,ac,ad⟩:=Own.freeze (S:=[20]) p dcd dcd
 obtain rfl:=AP a
 refine Ax (B:=B) u (BG rfl (.tmp rfl) ?_)
 exact ⟨ab,Sl q (((([]:List Bts)++d)++f)) r,rfl,Ho (T2 (Mo [20] n) aa ac) s,ad⟩
theorem TS:IH.Spec IH:=by
 intro a c o v0 p q r d e f
 refine Calls.mono (SS (recol (see []) a) c (Az lbr a) d (By CH e []) (By CH f [])) ?_
 rintro s u ⟨g,h,l,m,n⟩
 exact ⟨glue [] c a g,h,l,Ad m Ay,DV CH n⟩
def ref06_seen.At(c:Col)(a:World)(f:AE→(List Bts)→Option (List A5)):Prop:=
 ∀{d:AE} {e:List Value} {g:(List Bts)} {h:Value} {l:(List A5)},f d g=some l→AJ.rep c.F a e d→Slc CH c.F a h g→
  Calls Tryz.prog 95 #[.agg e.toArray,h] a fun p m=>∃(n:Col) (o:Value),p=.returned o∧AQ [] c a n m∧Slc FM n.F m o l
def ref06_seen.Spec(f:AE→(List Bts)→Option (List A5)):Prop:=
 ∀(a:Col) (c:World),ref06_seen.At a c f
structure BU.Good(a:BU):Prop where
 ref06_seen:ref06_seen.Spec a.ref06_seen
theorem ST(u:BU)(ag:Nat)(cc:BU.Good u)(a4:Col)(cd:World)(cf:∀b,a4 b<10):ref06_seen.At a4 cd (KG u ag):=by
 intro a dv n dw ao c cg a5
 rw [KG] at c
 obtain ⟨dx,rfl,ap⟩:=Am cg
 obtain ⟨g,l,rfl⟩:=AG ap
 obtain ⟨aa,ab,rfl⟩:=AG a5
 refine A0 Tryz.func95 rfl Tryz.ntmps95 rfl fun B ch d=>Sr<|Ef (Bf a4 20 rfl rfl fun aq bc ar au ac=>?_)
 refine Va (.slice none 0 0)<|AA<|Sr<|Va (.slice none 0 0)<|AA<|Ao (fun ah av=>∃(w:Env) (ai:Col) (ad:(List A5)) (aw:Option Addr) (ax:Nat),ah=w.puts [(1,.slice aa n.length ab),(2,.pointer (some ⟨ar,0,none⟩)),(5,.slice aw ad.length ax)]∧Iq u ag a n ad=some ao∧AQ [22] aq bc ai av∧Own FM 184 ai av 22 (Sl aw ad ax) ad) ?_ ?_
 refine Ao (fun ah bd=>∃(w:Env) (ae:Col) (a6:Bool),ah=w.puts [(1,.slice aa n.length ab),(2,.pointer (some ⟨ar,0,none⟩)),(5,.slice none 0 0),(16,.bool a6)]∧KV u ag a n a6=some ao∧AQ [] aq bc ae bd) ?_ ?_
 refine AO<|Vx (Run.fieldAddr0 DR rfl)<|Vx (Run.load1 HS rfl (Bk.cell au rfl))<|Vr (.bool (a.op==6))<|Vm<|Bo c (fun r c=>?_) fun r c=>?_
 refine Pg r<|Pg r<|Pg r<|Vp r<|AA<|⟨_,aq,true,Pu,c,(AQ.refl [] _ _)⟩
 refine Gx r (Run.fieldAddr0 DR rfl)<|Gx r (Run.load1 HS rfl (Bk.cell au rfl))<|Gr r (.bool (a.op==7))<|Vp r<|AA<|⟨_,aq,(a.op==7),Pu,c,(AQ.refl [] _ _)⟩
 rintro _ bd ⟨w,ae,a6,rfl,c,z⟩
 rw [KV] at c
 refine Cn c (fun ci c=>?_) fun ci c=>?_
 refine CJ FL (.q 0 (.q 1 (.q 2 (.q 3 (.q 4 (.q 5 (.q 6 (.q 7 (.q 8 (.one 9 (.q 10 (.q 11 (.q 12 (.one 13 (.one 14 (.q 15 .nil)))))))))))))))) [] [22] ae (by kernel_rfl) fun cj af=>Qx d rfl (v:=.slice none 0 0) (fun _ ⟨_,e⟩=>Run.move rfl)<|have a7:=Y2 au z af;Qx d rfl (fun _ ⟨_,e⟩=>Run.loadN BF rfl rfl (Bk.part (Bs a7 e) 0 [I a.op,Sb a.name,Sb a.tail,I a.type_,Cx a.num,Sl g a.args l,I a.at_] rfl))<|Qx d rfl (fun _ ⟨_,e⟩=>Run.fieldAddr0 DR rfl)<|Qx d rfl (fun _ ⟨_,e⟩=>Run.load1 HS rfl (Bk.cell (Bs a7 e) rfl))<|Qx d rfl (v:=.bool (a.op==6)) (fun _ ⟨_,e⟩=>rfl)<|Qx d rfl (v:=.bool (a.op==6)) (fun _ ⟨_,e⟩=>Run.move rfl)<|Bo c (fun m c=>?_) fun m c=>?_
 refine A4 (fun _ _ _ _ h=>d _ _ _ _ h) rfl rfl (.guard (t:=true) (b:=true) rfl rfl rfl rfl (Cb m)) rfl rfl (v:=Sl aa n ab) (fun _ ⟨_,e⟩=>Run.move rfl)<|A4 (fun _ _ _ _ h=>d _ _ _ _ h) rfl rfl (.guard (t:=true) (b:=true) rfl rfl rfl rfl (Cb m)) rfl rfl (v:=Pt ar 1) (fun _ ⟨_,e⟩=>Run.fieldAddr EN rfl)<|A4 (fun _ _ _ _ h=>d _ _ _ _ h) rfl rfl (.guard (t:=true) (b:=true) rfl rfl rfl rfl (Cb m)) rfl rfl (v:=Sb a.name) (fun _ ⟨_,e⟩=>Run.load1 CS rfl (Bk.cell (Bs a7 e) rfl))<|BX rfl<|have ck:=K3 CH a5 ac z af;Bi c fun o cl c=>BR rfl (.guard (t:=true) (b:=true) rfl rfl rfl rfl (Cb m)) rfl rfl (Xd [Sl aa n ab,Sb a.name] rfl)<|Calls.mono (Pe ag ae cj cl ck) ?_
 rintro _ dy ⟨cm,rfl,aj⟩
 refine ⟨_,rfl,⟨_,(Mo [22] aj)⟩,?_⟩
 refine A4 (fun _ _ _ _ h=>d _ _ _ _ h) rfl rfl (.guard (t:=true) (b:=true) rfl rfl rfl rfl (Cb m)) rfl rfl (v:=.bool (!o)) (fun _ ⟨_,e⟩=>rfl)<|Qx d rfl (v:=.bool (!o)) (fun _ ⟨_,e⟩=>(Pk m))<|Qx d rfl (v:=.agg [I a.op,Sb a.name,Sb a.tail,I a.type_,Cx a.num,Sl g a.args l,I a.at_,.bool (!o)].toArray) (fun _ ⟨_,e⟩=>Fm (cs:=[I a.op,Sb a.name,Sb a.tail,I a.type_,Cx a.num,Sl g a.args l,I a.at_,.bool (!o)]) [I 0,Sb ([]:List UInt8),Sb ([]:List UInt8),I 0,Cx (((0,0):Nat×Nat)),.slice none 0 0,I 0,.bool false] RN Wb rfl (.cons rfl rfl rfl (.cons rfl rfl rfl .nil)) rfl rfl)<|BX rfl<|Cl rfl (.none rfl) rfl rfl (DC (cs:=[I a.op,Sb a.name,Sb a.tail,I a.type_,Cx a.num,Sl g a.args l,I a.at_,.bool (!o)]) cm 21 [[I a.op,Sb a.name,Sb a.tail,I a.type_,Cx a.num,Sl g a.args l,I a.at_,.bool (!o)]] PV RN rfl rfl (.cons rfl rfl rfl .nil) rfl fun be bf cn co ay=>?_)
 refine have cq:=Ss AJ (K4 AJ ap ac z af aj) ay;have cr:Own FM 184 be bf 21 (.slice (some ⟨cn,0,none⟩) 1 1) ([(A5.mk a (!o))]:List A5):=Own.lit (css:=[[I a.op,Sb a.name,Sb a.tail,I a.type_,Cx a.num,Sl g a.args l,I a.at_,.bool (!o)]]) co rfl rfl rfl (AW (Oy (x:=(A5.mk a (!o))) cq) BE) (A2 rfl ED) rfl;⟨⟨_,(Tn (Mo [22] aj) ay)⟩,?_⟩
 refine BX rfl<|Bi c fun dz bg c=>Cl rfl (.none rfl) rfl rfl (Bx (κ:=FM) rfl rfl (Own.nil:Own FM 184 be bf 22 _ _) dcd UD (Cj cr) (FW bg) (Fk bg) fun d0 ct d1 bh bi=>?_)
 obtain ⟨bj,bk,rfl⟩:=Own.len bh
 refine ⟨⟨_,(T2 (Mo [22] aj) ay bi)⟩,?_⟩
 refine Qx d rfl (v:=Sl bj ((([]:List A5)++([(A5.mk a (!o))]:List A5))) bk) (fun _ ⟨_,e⟩=>Run.assign rfl)<|Dy<|⟨_,ct,(([]:List A5)++([(A5.mk a (!o))]:List A5)),bj,bk,Pu,c,(T4 (Mo [22] z) af aj ay bi),bh⟩
 refine Qp d rfl m<|Qp d rfl m<|Qp d rfl m<|BX rfl<|Ob rfl (.guard (t:=false) (b:=true) rfl rfl rfl rfl (Cb m)) rfl rfl<|⟨⟨_,(AQ.refl [22] _ _)⟩,?_⟩
 refine Qp d rfl m<|Qx d rfl (v:=.bool false) (fun _ ⟨_,e⟩=>(Pk m))<|Qx d rfl (v:=.agg [I a.op,Sb a.name,Sb a.tail,I a.type_,Cx a.num,Sl g a.args l,I a.at_,.bool false].toArray) (fun _ ⟨_,e⟩=>Fm (cs:=[I a.op,Sb a.name,Sb a.tail,I a.type_,Cx a.num,Sl g a.args l,I a.at_,.bool false]) [I 0,Sb ([]:List UInt8),Sb ([]:List UInt8),I 0,Cx (((0,0):Nat×Nat)),.slice none 0 0,I 0,.bool false] RN Wb rfl (.cons rfl rfl rfl (.cons rfl rfl rfl .nil)) rfl rfl)<|BX rfl<|Cl rfl (.none rfl) rfl rfl (DC (cs:=[I a.op,Sb a.name,Sb a.tail,I a.type_,Cx a.num,Sl g a.args l,I a.at_,.bool false]) ae 21 [[I a.op,Sb a.name,Sb a.tail,I a.type_,Cx a.num,Sl g a.args l,I a.at_,.bool false]] PV RN rfl rfl (.cons rfl rfl rfl .nil) rfl fun bl bm cu cv az=>?_)
 refine have cw:=K4 AJ ap ac z af az;have cx:Own FM 184 bl bm 21 (.slice (some ⟨cu,0,none⟩) 1 1) ([(A5.mk a false)]:List A5):=Own.lit (css:=[[I a.op,Sb a.name,Sb a.tail,I a.type_,Cx a.num,Sl g a.args l,I a.at_,.bool false]]) cv rfl rfl rfl (AW (Oy (x:=(A5.mk a false)) cw) BE) (A2 rfl ED) rfl;⟨⟨_,(Mo [22] az)⟩,?_⟩
 refine BX rfl<|Bi c fun d2 bn c=>Cl rfl (.none rfl) rfl rfl (Bx (κ:=FM) rfl rfl (Own.nil:Own FM 184 bl bm 22 _ _) dcd UD (Cj cx) (FW bn) (Fk bn) fun d3 cy d4 bo bp=>?_)
 obtain ⟨bq,br,rfl⟩:=Own.len bo
 refine ⟨⟨_,(Tn (Mo [22] az) bp)⟩,?_⟩
 refine Qx d rfl (v:=Sl bq ((([]:List A5)++([(A5.mk a false)]:List A5))) br) (fun _ ⟨_,e⟩=>Run.assign rfl)<|Dy<|⟨_,cy,(([]:List A5)++([(A5.mk a false)]:List A5)),bq,br,Pu,c,(T3 (Mo [22] z) af az bp),bo⟩
 refine WC.skip<|⟨_,ae,([]:List A5),none,0,Pu,c,(Mo [22] z),Own.nil⟩
 rintro _ av ⟨w,ai,ad,aw,ax,rfl,c,a0,cz⟩
 rw [Iq] at c
 refine AZ<|Sr<|Va (I 0)<|AA<|Aj<|Bt (fun y ah a1=>∃(w:Env) (a2:Col) (p:(List A5)) (ak:Option Addr) (al:Nat) (q:Int),ah=w.puts [(1,.slice aa n.length ab),(2,.pointer (some ⟨ar,0,none⟩)),(5,.slice ak p.length al),(6,.int .i64 q)]∧Hz u a n y p q=some ao∧AQ [22] ai av a2 a1∧Own FM 184 a2 a1 22 (Sl ak p al) p) ag ?_ ?_
 exact ⟨_,ai,ad,aw,ax,0,Pu,c,(AQ.refl [22] _ _),cz⟩
 rintro y _ a1 ⟨w,a2,p,ak,al,q,rfl,c,am,bt⟩
 rcases y with _|y
 exact BC c
 refine have c:II u a n (Hz u a n y) p q=some ao:=c; ?_
 obtain ⟨d5,bu⟩:∃s,s=Hz u a n y:=⟨_,rfl⟩
 rw [←bu,II] at c
 refine AZ<|Sr<|Vm<|Vx (Run.fieldAddr Bq rfl)<|have a8:=Y2 au a0 am;Vx (Run.load1 EB rfl (Bk.cell a8 rfl))<|have a9:=K3 AJ ap ac a0 am; ?_
 obtain ⟨d6,d7,c0⟩:=AG a9
 refine Vx (v:=I (a.args.length:Int)) (Run.lenSlc DT c0)<|Vr (.bool (decide (q< (a.args.length:Int))))<|AA<|Cn c (fun c1 c=>?_) fun c1 c=>?_
 refine WC.skip<|AZ<|Aj<|Sr<|Vm<|Vx (Run.loadN BF rfl rfl (Bk.part a8 0 [I a.op,Sb a.name,Sb a.tail,I a.type_,Cx a.num,Sl g a.args l,I a.at_] rfl))<|Vm<|Bi c fun c2 c3 c=>Ca (ZC [.agg [I a.op,Sb a.name,Sb a.tail,I a.type_,Cx a.num,Sl g a.args l,I a.at_].toArray,I q] rfl) (SR a2 a1 c3 (Ae (x:=a) a9)) ?_
 rintro _ c4 ⟨c5,d8,rfl,an,bv⟩
 obtain ⟨c6,c7,rfl⟩:=AG bv
 refine ⟨_,rfl,?_⟩
 refine have c8:=K4 CH a5 ac a0 am an;Bi c fun bw c9 c=>Ca (AAV [Sl aa n ab,Sl c6 c2 c7] rfl) (TS c5 c4 c9 c8 bv) ?_
 rintro _ bx ⟨bz,d9,rfl,a3,b0⟩
 obtain ⟨b1,b2,rfl⟩:=AG b0
 refine ⟨_,rfl,?_⟩
 refine Va (Sl b1 bw b2)<|AA<|Sr<|Vx (Run.fieldAddr Bq rfl)<|have da:=Y2 a8 an a3;Vx (Run.load1 EB rfl (Bk.cell da rfl))<|Vm<|Bi c fun f db c=>have dc:=K2 AJ a9 an a3; ?_
 obtain ⟨de,df,ea,dg,dh,di,dj,dk,ba⟩:=BL (κ:=AJ) dc db
 replace ba:A8 bz bx de (df+q.toNat*7) dg:=ba
 obtain ⟨eb,rfl,b3⟩:=Am dk
 obtain ⟨b4,b5,rfl⟩:=AG b3
 refine Vx (Run.indexAddr DT dh rfl di dj)<|Vx (Run.loadN BF rfl rfl (A8.part0 ba [I f.op,Sb f.name,Sb f.tail,I f.type_,Cx f.num,Sl b4 f.args b5,I f.at_] rfl))<|Vm<|Bi c fun bb dl c=>Ca (Xk [.agg [I f.op,Sb f.name,Sb f.tail,I f.type_,Cx f.num,Sl b4 f.args b5,I f.at_].toArray,Sl b1 bw b2] rfl) (cc.ref06_seen bz bx dl (Ae (x:=f) b3) b0) ?_
 rintro _ ec ⟨ed,ee,rfl,b6,b7⟩
 obtain ⟨dm,dn,rfl⟩:=AG b7
 refine ⟨_,rfl,?_⟩
 refine Va (Sl dm bb dn)<|AA<|AO<|Vm<|Vm<|have dp:=Os (Os (Os bt an) a3) b6;Bi c fun ef b8 c=>Ef (Bx (κ:=FM) rfl rfl dp dcd UD (Hl b7) (FW b8) (Fk b8) fun eg dq eh b9 dr=>?_)
 obtain ⟨ca,cb,rfl⟩:=Own.len b9
 refine Va (Sl ca ((p++bb)) cb)<|AA<|AO<|Vm<|Vr (I (Wr (q+1)))<|Va (I (Wr (q+1)))<|AA<|⟨y,Nat.lt_succ_self y,_,dq,(p++bb),ca,cb,(Wr (q+1)),Pu,(bu▸c),(T4 (Mo [22] am) an a3 b6 dr),b9⟩
 refine Bc<|Sr<|Vm<|Va (Sl ak p al)<|AA<|AT ?_
 obtain ⟨ds,dt,du⟩:=Own.freeze (S:=[22]) bt dcd dcd
 obtain rfl:=AP c
 refine Ax (B:=B) ch (BG rfl (.tmp rfl) ?_)
 exact ⟨ds,Sl ak p al,rfl,Ho (T3 (Mo [22] ac) a0 am dt) cf,du⟩
theorem SU(a:BU)(d:Nat)(f:BU.Good a):ref06_seen.Spec (KG a d):=by
 intro c e r s u w y g h l
 refine Calls.mono (ST a d f (recol (see []) c) e (Az lbr c) g (Au AJ h []) (By CH l [])) ?_
 rintro z aa ⟨m,n,o,p,q⟩
 exact ⟨glue [] e c m,n,o,Ad p Ay,DV FM q⟩
theorem BU.good:∀a,BU.Good (BU.at a)
 |0=>⟨by intro c d;intros;(try intro _);intros;exact BC (by assumption)⟩
 |n+1=>⟨SU _ n (BU.good n)⟩
theorem TT(a:Nat):ref06_seen.Spec (ref06_seen a):=(BU.good a).ref06_seen
def G5.At(c:Col)(a:World)(f:AM→Option (List AD)):Prop:=
 ∀{d:AM} {e:List Value} {g:(List AD)},f d=some g→BN.rep c.F a e d→
  Calls Tryz.prog 65 #[.agg e.toArray] a fun n h=>∃(l:Col) (m:Value),n=.returned m∧AQ [] c a l h∧Slc Ag l.F h m g
def G5.Spec(f:AM→Option (List AD)):Prop:=
 ∀(a:Col) (c:World),G5.At a c f
theorem QJ(f:Nat)(cb:Col)(ej:World)(ek:∀b,cb b<10):G5.At cb ej (G5 f):=by
 intro g ix y a el
 rw [G5] at a
 obtain ⟨iy,rfl,cu⟩:=BK el
 obtain ⟨bk,bl,rfl⟩:=AG cu
 refine A0 Tryz.func65 rfl Tryz.ntmps65 rfl fun B em q=>Sr<|Ef (Bf cb 20 rfl rfl fun cv en ao eo cw=>?_)
 refine Va (.slice none 0 0)<|AA<|Sr<|Va (.slice none 0 0)<|AA<|AZ<|Sr<|Va (I 0)<|AA<|Aj<|Bt (fun ai l bm=>∃(h:Env) (a4:Col) (r:(List AD)) (ar:Option Addr) (au:Nat) (e:Int),l=h.puts [(1,.pointer (some ⟨ao,0,none⟩)),(3,.slice ar r.length au),(4,.int .i64 e)]∧EK f g ai r e=some y∧AQ [21,23,26,27] cv en a4 bm∧Own Ag 63 a4 bm 23 (Sl ar r au) r) f ?_ ?_
 exact ⟨_,cv,([]:List AD),none,0,0,Pu,a,(AQ.refl [21,23,26,27] _ _),Own.nil⟩
 rintro ai _ bm ⟨h,a4,r,ar,au,e,rfl,a,bn,cc⟩
 rcases ai with _|ai
 exact BC a
 refine have a:Gt f g (EK f g ai) r e=some y:=a; ?_
 obtain ⟨ae,cx⟩:∃s,s=EK f g ai:=⟨_,rfl⟩
 rw [←cx,Gt] at a
 refine AZ<|Sr<|Vm<|Vx (Run.fieldAddr0 D5 rfl)<|have bo:=Bs eo bn;Vx (Run.load1 GQ rfl (Bk.cell bo rfl))<|have bp:=K2 AL cu cw bn; ?_
 obtain ⟨iz,i0,ep⟩:=AG bp
 refine Vx (v:=I (g.funcs.length:Int)) (Run.lenSlc Fp ep)<|Vr (.bool (decide (e< (g.funcs.length:Int))))<|AA<|Cn a (fun eq a=>?_) fun eq a=>?_
 refine WC.skip<|AZ<|Aj<|Sr<|Vx (Run.fieldAddr0 D5 rfl)<|Vx (Run.load1 GQ rfl (Bk.cell bo rfl))<|Vm<|Bi a fun c er a=>?_
 obtain ⟨es,et,i1,eu,ew,ex,ey,ez,cd⟩:=BL (κ:=AL) bp er
 replace cd:A8 a4 bm es (et+e.toNat*11) eu:=cd
 obtain ⟨i2,i3,rfl,cy,cz⟩:=Cw ez
 obtain ⟨e0,e1,rfl⟩:=AG cy
 obtain ⟨cf,cg,rfl⟩:=AG cz
 refine Vx (Run.indexAddr Fp ew rfl ex ey)<|Vx (Run.loadN K9 rfl rfl (A8.part0 cd [Sb c.name,Sl e0 c.params e1,I c.type_,I c.body.op,Sb c.body.name,Sb c.body.tail,I c.body.type_,Cx c.body.num,Sl cf c.body.args cg,I c.body.at_,I c.at_] rfl))<|Ef (Aa a4 21 J8 rfl fun c0 i4 ch e2 af=>?_)
 refine have e3:=Ss AY cy af;have e4:=Ss AJ cz af;Eu (St Kj e2 rfl rfl rfl rfl fun c1 ci ag=>?_)
 refine AA<|Ao (fun l bq=>∃(h:Env) (a5:Col) (av:(List AD)) (br:Option Addr) (bt:Nat),l=h.puts [(1,.pointer (some ⟨ao,0,none⟩)),(3,.slice br av.length bt),(4,.int .i64 e),(5,.pointer (some ⟨ch,0,none⟩))]∧IX f g e ae c av=some y∧AQ [23] c0 c1 a5 bq∧Own Ag 63 a5 bq 23 (Sl br av bt) av) ?_ ?_
 refine Sr<|have e5:=Y2 bo af ag;Vx (Run.loadN Gw rfl rfl (Bk.part e5 0 [Sl bk g.funcs bl] rfl))<|Vx (Run.fieldAddr0 L8 rfl)<|Vx (Run.load1 CS rfl (Bk.cell ci rfl))<|have e6:=K2 AL bp af ag;Bi a fun e7 e8 a=>Ca (Xj [.agg [Sl bk g.funcs bl].toArray,Sb c.name] rfl) (OV f c0 c1 e8 (BS (x:=g) e6)) ?_
 rintro _ i5 ⟨c2,rfl,a6⟩
 refine ⟨_,rfl,?_⟩
 refine Vm<|Vr (.bool (decide (e7<e)))<|AA<|Cn a (fun e9 a=>?_) fun e9 a=>?_
 refine AO<|Vm<|Vx (Run.fieldAddr U2 rfl)<|have fa:=Bs ci a6;Vx (Run.load1 B5 rfl (Bk.cell fa rfl))<|Vx (v:=.agg [I 30,I c.at_].toArray) (Bp Ep Lq rfl (.cons rfl rfl rfl (.cons rfl rfl rfl .nil)))<|Ef (DC (cs:=[I 30,I c.at_]) c2 22 [[I 30,I c.at_]] MX Ep rfl rfl (.cons rfl rfl rfl .nil) rfl fun fb fc fd fe c3=>?_)
 refine have ff:Own Ag 63 fb fc 22 (.slice (some ⟨fd,0,none⟩) 1 1) ([(AD.mk 30 c.at_)]:List AD):=Own.lit (css:=[[I 30,I c.at_]]) fe rfl rfl rfl (AW (Ah (x:=(AD.mk 30 c.at_))) BE) (A2 rfl ED) rfl;have fg:=Os (Os (Os (Os cc af) ag) a6) c3;Bi a fun i6 c4 a=>Ef (Bx (κ:=Ag) rfl rfl fg dcd PS (Cj ff) (FW c4) (Fk c4) fun i7 fh i8 c5 fi=>?_)
 obtain ⟨c6,c7,rfl⟩:=Own.len c5
 refine Va (Sl c6 ((r++([(AD.mk 30 c.at_)]:List AD))) c7)<|AA<|⟨_,fh,(r++([(AD.mk 30 c.at_)]:List AD)),c6,c7,Pu,a,(T2 (Mo [23] a6) c3 fi),c5⟩
 refine WC.skip<|have fj:=Os (Os (Os cc af) ag) a6;⟨_,c2,r,ar,au,Pu,a,(Mo [23] a6),fj⟩
 rintro _ bq ⟨h,a5,av,br,bt,rfl,a,aw,fk⟩
 rw [IX] at a
 refine Sr<|Va (.slice none 0 0)<|AA<|AZ<|Sr<|Va (I 0)<|AA<|Aj<|Bt (fun aj l ak=>∃(h:Env) (ax:Col) (z:(List AD)) (a7:Option Addr) (a8:Nat) (o:(List Bts)) (ay:Option Addr) (az:Nat) (p:Int),l=h.puts [(1,.pointer (some ⟨ao,0,none⟩)),(3,.slice a7 z.length a8),(4,.int .i64 e),(5,.pointer (some ⟨ch,0,none⟩)),(6,.slice ay o.length az),(7,.int .i64 p)]∧EJ f g e ae c aj z o p=some y∧AQ [23,26] a5 bq ax ak∧Own Ag 63 ax ak 23 (Sl a7 z a8) z∧Own CH 9 ax ak 26 (Sl ay o az) o) f ?_ ?_
 exact ⟨_,a5,av,br,bt,([]:List Bts),none,0,0,Pu,a,(AQ.refl [23,26] _ _),fk,Own.nil⟩
 rintro aj _ ak ⟨h,ax,z,a7,a8,o,ay,az,p,rfl,a,ap,cj,ck⟩
 rcases aj with _|aj
 exact BC a
 refine have a:FE f g e ae c (EJ f g e ae c aj) z o p=some y:=a; ?_
 obtain ⟨fl,c8⟩:∃s,s=EJ f g e ae c aj:=⟨_,rfl⟩
 rw [←c8,FE] at a
 refine AZ<|Sr<|Vm<|Vx (Run.fieldAddr EX rfl)<|have a9:=Y2 ci aw ap;Vx (Run.load1 Eo rfl (Bk.cell a9 rfl))<|have cl:=K3 AY e3 ag aw ap; ?_
 obtain ⟨i9,ja,fm⟩:=AG cl
 refine Vx (v:=I (c.params.length:Int)) (Run.lenSlc D3 fm)<|Vr (.bool (decide (p< (c.params.length:Int))))<|AA<|Cn a (fun fn a=>?_) fun fn a=>?_
 refine WC.skip<|AZ<|Aj<|Ao (fun l bu=>∃(h:Env) (ba:Col) (a0:(List AD)) (bv:Option Addr) (bw:Nat),l=h.puts [(1,.pointer (some ⟨ao,0,none⟩)),(3,.slice bv a0.length bw),(4,.int .i64 e),(5,.pointer (some ⟨ch,0,none⟩)),(6,.slice ay o.length az),(7,.int .i64 p)]∧IW c o p fl a0=some y∧AQ [23] ax ak ba bu∧Own Ag 63 ba bu 23 (Sl bv a0 bw) a0) ?_ ?_
 refine Sr<|Vm<|Vx (Run.fieldAddr EX rfl)<|Vx (Run.load1 Eo rfl (Bk.cell a9 rfl))<|Vm<|Bi a fun ah fo a=>?_
 obtain ⟨fp,fq,jb,fr,c9,da,db,fs,bx⟩:=BL (κ:=AY) cl fo
 replace bx:A8 ax ak fp (fq+p.toNat*3) fr:=bx
 obtain rfl:=Fg fs
 refine Vx (Run.indexAddr D3 c9 rfl da db)<|Vx (Run.fieldAddr0 Lj rfl)<|Vx (Run.load1 CS rfl (A8.cell0 bx rfl)) ?_
 obtain ⟨ft,jc,fu,fv⟩:=Own.lend ck dcd
 refine Bi a fun jd fw a=>Ca (Xd [Sl ay o az,Sb ah.name] rfl) (Pe f ft ak fw fu) ?_
 rintro _ je ⟨jf,rfl,fx⟩
 obtain ⟨dc,a1⟩:=fv [] _ _ fx dcd
 refine ⟨_,rfl,?_⟩
 refine AA<|Cn a (fun fy a=>?_) fun fy a=>?_
 refine AO<|Vm<|Vx (Run.fieldAddr EX rfl)<|have fz:=Bs a9 a1;Vx (Run.load1 Eo rfl (Bk.cell fz rfl))<|Vm<|Vx (Run.indexAddr D3 c9 rfl da db)<|Vx (Run.fieldAddr U3 rfl)<|have f0:=Es bx a1;Vx (Run.load1 B5 rfl (A8.cell (k:=2) f0 rfl))<|Vx (v:=.agg [I 30,I ah.at_].toArray) (Bp Ep Lq rfl (.cons rfl rfl rfl (.cons rfl rfl rfl .nil)))<|Ef (DC (cs:=[I 30,I ah.at_]) dc 24 [[I 30,I ah.at_]] MX Ep rfl rfl (.cons rfl rfl rfl .nil) rfl fun f1 f2 f3 f4 de=>?_)
 refine have f5:Own Ag 63 f1 f2 24 (.slice (some ⟨f3,0,none⟩) 1 1) ([(AD.mk 30 ah.at_)]:List AD):=Own.lit (css:=[[I 30,I ah.at_]]) f4 rfl rfl rfl (AW (Ah (x:=(AD.mk 30 ah.at_))) BE) (A2 rfl ED) rfl;have f6:=Os (Os cj a1) de;Bi a fun jg df a=>Ef (Bx (κ:=Ag) rfl rfl f6 dcd PS (Cj f5) (FW df) (Fk df) fun jh f7 ji dg f8=>?_)
 obtain ⟨dh,di,rfl⟩:=Own.len dg
 refine Va (Sl dh ((z++([(AD.mk 30 ah.at_)]:List AD))) di)<|AA<|⟨_,f7,(z++([(AD.mk 30 ah.at_)]:List AD)),dh,di,Pu,a,(T2 (Mo [23] a1) de f8),dg⟩
 refine WC.skip<|have f9:=Os cj a1;⟨_,dc,z,a7,a8,Pu,a,(Mo [23] a1),f9⟩
 rintro _ bu ⟨h,ba,a0,bv,bw,rfl,a,bz,ga⟩
 rw [IW] at a
 refine AO<|Vm<|Vx (Run.fieldAddr EX rfl)<|have gb:=Bs a9 bz;Vx (Run.load1 Eo rfl (Bk.cell gb rfl))<|Vm<|Bi a fun a2 gc a=>have gd:=Ss AY cl bz; ?_
 obtain ⟨ge,gf,jj,gg,gh,gi,gj,gk,cm⟩:=BL (κ:=AY) gd gc
 replace cm:A8 ba bu ge (gf+p.toNat*3) gg:=cm
 obtain rfl:=Fg gk
 refine Vx (Run.indexAddr D3 gh rfl gi gj)<|Vx (Run.fieldAddr0 Lj rfl)<|Vx (Run.load1 CS rfl (A8.cell0 cm rfl))<|Ef (DC (cs:=[Sb a2.name]) ba 25 [[Sb a2.name]] Hi Oz rfl rfl (.cons rfl rfl rfl .nil) rfl fun gl gm gn go cn=>?_)
 refine have gp:Own CH 9 gl gm 25 (.slice (some ⟨gn,0,none⟩) 1 1) ([a2.name]:List Bts):=Own.lit (css:=[[Sb a2.name]]) go rfl rfl rfl (AW rfl BE) (A2 rfl ED) rfl;have gq:=Os (Os ck bz) cn;Bi a fun jk dj a=>Ef (Bx (κ:=CH) rfl rfl gq dcd UE (Cj gp) (FW dj) (Fk dj) fun jl gr jm dk dl=>?_)
 obtain ⟨dm,dn,rfl⟩:=Own.len dk
 refine Va (Sl dm ((o++([a2.name]:List Bts))) dn)<|AA<|AO<|Vm<|Vr (I (Wr (p+1)))<|Va (I (Wr (p+1)))<|AA<|have gs:=Os (Os ga cn) dl;⟨aj,Nat.lt_succ_self aj,_,gr,a0,bv,bw,(o++([a2.name]:List Bts)),dm,dn,(Wr (p+1)),Pu,(c8▸a),(T3 (Mo [23,26] ap) bz cn dl),gs,dk⟩
 refine Bc<|Sr<|Vx (Run.fieldAddr L9 rfl)<|Vx (Run.loadN BF rfl rfl (Bk.part a9 3 [I c.body.op,Sb c.body.name,Sb c.body.tail,I c.body.type_,Cx c.body.num,Sl cf c.body.args cg,I c.body.at_] rfl))<|Vm ?_
 obtain ⟨gt,bb,gu⟩:=Own.freeze (S:=[26]) ck dcd dcd
 refine have gv:=K4 AJ e4 ag aw ap bb;Bi a fun aa gw a=>Ca (Xk [.agg [I c.body.op,Sb c.body.name,Sb c.body.tail,I c.body.type_,Cx c.body.num,Sl cf c.body.args cg,I c.body.at_].toArray,Sl ay o az] rfl) (TT f gt ak gw (Ae (x:=(AE.mk c.body.op c.body.name c.body.tail c.body.type_ c.body.num c.body.args c.body.at_)) gv) gu) ?_
 rintro _ gx ⟨dp,jn,rfl,b0,dq⟩
 obtain ⟨b1,b2,rfl⟩:=AG dq
 refine ⟨_,rfl,?_⟩
 refine Va (Sl b1 aa b2)<|AA<|Sr<|Va (I 0)<|AA<|Aj<|Bt (fun al l bc=>∃(h:Env) (aq:Col) (ab:(List AD)) (bd:Option Addr) (be:Nat) (m:Int),l=h.puts [(1,.pointer (some ⟨ao,0,none⟩)),(3,.slice bd ab.length be),(4,.int .i64 e),(8,.slice b1 aa.length b2),(9,.int .i64 m)]∧Dx f g e ae aa al ab m=some y∧AQ [23,27] dp gx aq bc∧Own Ag 63 aq bc 23 (Sl bd ab be) ab) f ?_ ?_
 refine have gy:=Os (Os cj bb) b0;⟨_,dp,z,a7,a8,0,Pu,a,(AQ.refl [23,27] _ _),gy⟩
 rintro al _ bc ⟨h,aq,ab,bd,be,m,rfl,a,bf,co⟩
 rcases al with _|al
 exact BC a
 refine have a:FD f g e ae aa (Dx f g e ae aa al) ab m=some y:=a; ?_
 obtain ⟨dr,ds⟩:∃s,s=Dx f g e ae aa al:=⟨_,rfl⟩
 rw [←ds,FD] at a
 refine AZ<|Sr<|Vm<|Vm<|have dt:=Ss FM dq bf; ?_
 obtain ⟨jo,jp,gz⟩:=AG dt
 refine Vx (v:=I (aa.length:Int)) (Run.lenSlc PV gz)<|Vr (.bool (decide (m< (aa.length:Int))))<|AA<|Cn a (fun g0 a=>?_) fun g0 a=>?_
 refine WC.skip<|Ao (fun l cq=>∃(h:Env) (b3:Col) (a3:(List AD)) (b4:Option Addr) (b5:Nat),l=h.puts [(1,.pointer (some ⟨ao,0,none⟩)),(3,.slice b4 a3.length b5),(4,.int .i64 e),(8,.slice b1 aa.length b2),(9,.int .i64 m)]∧Fi m dr a3=some y∧AQ [23,27] aq bc b3 cq∧Own Ag 63 b3 cq 23 (Sl b4 a3 b5) a3) ?_ ?_
 refine Aj<|Sr<|Vm<|Vm<|Bi a fun d g1 a=>?_
 obtain ⟨g2,g3,jq,g4,du,dv,dw,g5,b6⟩:=BL (κ:=FM) dt g1
 replace b6:A8 aq bc g2 (g3+m.toNat*8) g4:=b6
 obtain ⟨jr,rfl,dx⟩:=Sx g5
 obtain ⟨g6,g7,rfl⟩:=AG dx
 refine Vx (Run.indexAddr PV du rfl dv dw)<|Vx (Run.fieldAddr0 XC rfl)<|Vx (Run.loadN BF rfl rfl (A8.part0 b6 [I d.e.op,Sb d.e.name,Sb d.e.tail,I d.e.type_,Cx d.e.num,Sl g6 d.e.args g7,I d.e.at_] rfl))<|Ef (Aa aq 27 DN rfl fun cr js g8 g9 ac=>?_)
 refine have ha:=Ss AJ dx ac;Eu (St Dj g9 rfl rfl rfl rfl fun hb dy ad=>?_)
 refine AA<|Ao (fun l b7=>∃(h:Env) (bg:Col) (u:(List AD)) (bh:Option Addr) (bi:Nat),l=h.puts [(1,.pointer (some ⟨ao,0,none⟩)),(3,.slice bh u.length bi),(4,.int .i64 e),(8,.slice b1 aa.length b2),(9,.int .i64 m),(10,.pointer (some ⟨g8,0,none⟩))]∧Fj f g m dr d u=some y∧AQ [23] cr hb bg b7∧Own Ag 63 bg b7 23 (Sl bh u bi) u) ?_ ?_
 refine Sr<|Vm<|Vm<|Vx (Run.indexAddr PV du rfl dv dw)<|Vx (Run.fieldAddr XD rfl)<|have hc:=Es (Es b6 ac) ad;Vx (Run.load1 Rr rfl (A8.cell (k:=7) hc rfl))<|AA<|Cn a (fun hd a=>?_) fun hd a=>?_
 refine AO<|Vm<|Vx (Run.fieldAddr Li rfl)<|Vx (Run.load1 B5 rfl (Bk.cell dy rfl))<|Vx (v:=.agg [I 31,I d.e.at_].toArray) (Bp Ep Lq rfl (.cons rfl rfl rfl (.cons rfl rfl rfl .nil)))<|Ef (DC (cs:=[I 31,I d.e.at_]) cr 28 [[I 31,I d.e.at_]] MX Ep rfl rfl (.cons rfl rfl rfl .nil) rfl fun he hf hg hh dz=>?_)
 refine have hi:Own Ag 63 he hf 28 (.slice (some ⟨hg,0,none⟩) 1 1) ([(AD.mk 31 d.e.at_)]:List AD):=Own.lit (css:=[[I 31,I d.e.at_]]) hh rfl rfl rfl (AW (Ah (x:=(AD.mk 31 d.e.at_))) BE) (A2 rfl ED) rfl;have hj:=Os (Os (Os co ac) ad) dz;Bi a fun jt d0 a=>Ef (Bx (κ:=Ag) rfl rfl hj dcd PS (Cj hi) (FW d0) (Fk d0) fun ju hk jv d1 hl=>?_)
 obtain ⟨d2,d3,rfl⟩:=Own.len d1
 refine Va (Sl d2 ((ab++([(AD.mk 31 d.e.at_)]:List AD))) d3)<|AA<|⟨_,hk,(ab++([(AD.mk 31 d.e.at_)]:List AD)),d2,d3,Pu,a,(Tn (Mo [23] dz) hl),d1⟩
 refine WC.skip<|have hm:=Os (Os co ac) ad;⟨_,cr,ab,bd,be,Pu,a,(AQ.refl [23] _ _),hm⟩
 rintro _ b7 ⟨h,bg,u,bh,bi,rfl,a,am,b8⟩
 rw [Fj] at a
 refine AZ<|Sr<|Vx (Run.fieldAddr0 DR rfl)<|have b9:=Bs dy am;Vx (Run.load1 HS rfl (Bk.cell b9 rfl))<|Vr (.bool (d.e.op != 7))<|AA<|Cn a (fun hn a=>?_) fun hn a=>?_
 refine Bc<|⟨_,bg,u,bh,bi,Pu,a,(T2 (Mo [23,27] ac) ad am),b8⟩
 refine WC.skip<|Sr<|have d4:=Y2 (Y4 (Y4 bo af ag aw ap) bb b0 bf ac) ad am;Vx (Run.loadN Gw rfl rfl (Bk.part d4 0 [Sl bk g.funcs bl] rfl))<|Vx (Run.fieldAddr EN rfl)<|Vx (Run.load1 CS rfl (Bk.cell b9 rfl))<|have d5:=K2 AL (K4 AL (K4 AL bp af ag aw ap) bb b0 bf ac) ad am;Bi a fun ca ho a=>Ca (Xj [.agg [Sl bk g.funcs bl].toArray,Sb d.e.name] rfl) (OV f bg b7 ho (BS (x:=g) d5)) ?_
 rintro _ jw ⟨bj,rfl,w⟩
 refine ⟨_,rfl,?_⟩
 refine Va (I ca)<|AA<|Sr<|Vm<|Vr (.bool (decide (ca<0)))<|AA<|Cn a (fun hp a=>?_) fun hp a=>?_
 refine AO<|Vm<|Vx (Run.fieldAddr Li rfl)<|have hq:=Bs b9 w;Vx (Run.load1 B5 rfl (Bk.cell hq rfl))<|Vx (v:=.agg [I 32,I d.e.at_].toArray) (Bp Ep Lq rfl (.cons rfl rfl rfl (.cons rfl rfl rfl .nil)))<|Ef (DC (cs:=[I 32,I d.e.at_]) bj 29 [[I 32,I d.e.at_]] MX Ep rfl rfl (.cons rfl rfl rfl .nil) rfl fun hr hs ht hu d6=>?_)
 refine have hw:Own Ag 63 hr hs 29 (.slice (some ⟨ht,0,none⟩) 1 1) ([(AD.mk 32 d.e.at_)]:List AD):=Own.lit (css:=[[I 32,I d.e.at_]]) hu rfl rfl rfl (AW (Ah (x:=(AD.mk 32 d.e.at_))) BE) (A2 rfl ED) rfl;have hx:=Os (Os b8 w) d6;Bi a fun jx d7 a=>Ef (Bx (κ:=Ag) rfl rfl hx dcd PS (Cj hw) (FW d7) (Fk d7) fun jy hy jz d8 hz=>?_)
 obtain ⟨d9,ea,rfl⟩:=Own.len d8
 refine Va (Sl d9 ((u++([(AD.mk 32 d.e.at_)]:List AD))) ea)<|AA<|⟨_,hy,(u++([(AD.mk 32 d.e.at_)]:List AD)),d9,ea,Pu,a,(Tn (T4 (Mo [23,27] ac) ad am w d6) hz),d8⟩
 refine AZ<|CJ FL (.q 0 (.q 1 (.q 2 (.q 3 (.q 4 (.q 5 (.q 6 (.q 7 (.q 8 (.q 9 (.q 10 .nil))))))))))) [] [] bj (by kernel_rfl) fun h0 an=>Qx q rfl (fun _ ⟨_,n⟩=>Run.fieldAddr0 D5 rfl)<|have h1:=Y2 d4 w an;Qx q rfl (fun _ ⟨_,n⟩=>Run.load1 GQ rfl (Bk.cell (Bs h1 n) rfl))<|Qx q rfl (v:=I ca) (fun _ ⟨_,n⟩=>Run.move rfl)<|Bi a fun eb h2 a=>have h3:=K2 AL d5 w an; ?_
 obtain ⟨h4,h5,j0,h6,h7,h8,h9,ia,ct⟩:=BL (κ:=AL) h3 h2
 replace ct:A8 bj h0 h4 (h5+ca.toNat*11) h6:=ct
 obtain ⟨j1,j2,rfl,ec,ib⟩:=Cw ia
 obtain ⟨j3,j4,rfl⟩:=AG ec
 obtain ⟨j5,j6,rfl⟩:=AG ib
 refine Qx q rfl (fun _ ⟨_,n⟩=>Run.indexAddr Fp h7 rfl h8 h9)<|Qx q rfl (fun _ ⟨_,n⟩=>Run.fieldAddr EX rfl)<|Qx q rfl (fun _ ⟨_,n⟩=>Run.load1 Eo rfl (A8.cell (k:=1) (Es ct n) rfl)) ?_
 obtain ⟨j7,j8,ic⟩:=AG ec
 refine Qx q rfl (v:=I (eb.params.length:Int)) (fun _ ⟨_,n⟩=>Run.lenSlc D3 ic)<|Qx q rfl (fun _ ⟨_,n⟩=>Run.fieldAddr Bq rfl)<|have ed:=Y2 b9 w an;Qx q rfl (fun _ ⟨_,n⟩=>Run.load1 EB rfl (Bk.cell (Bs ed n) rfl))<|have id:=K4 AJ ha ad am w an; ?_
 obtain ⟨j9,ka,ie⟩:=AG id
 refine Qx q rfl (v:=I (d.e.args.length:Int)) (fun _ ⟨_,n⟩=>Run.lenSlc DT ie)<|Qx q rfl (v:=.bool ((eb.params.length:Int) != (d.e.args.length:Int))) (fun _ ⟨_,n⟩=>rfl)<|Dy<|Cn a (fun ig a=>?_) fun ig a=>?_
 refine AO<|Vm<|Vx (Run.fieldAddr Li rfl)<|Vx (Run.load1 B5 rfl (Bk.cell ed rfl))<|Vx (v:=.agg [I 33,I d.e.at_].toArray) (Bp Ep Lq rfl (.cons rfl rfl rfl (.cons rfl rfl rfl .nil)))<|Ef (DC (cs:=[I 33,I d.e.at_]) bj 30 [[I 33,I d.e.at_]] MX Ep rfl rfl (.cons rfl rfl rfl .nil) rfl fun ih ii ij ik ee=>?_)
 refine have il:Own Ag 63 ih ii 30 (.slice (some ⟨ij,0,none⟩) 1 1) ([(AD.mk 33 d.e.at_)]:List AD):=Own.lit (css:=[[I 33,I d.e.at_]]) ik rfl rfl rfl (AW (Ah (x:=(AD.mk 33 d.e.at_))) BE) (A2 rfl ED) rfl;have im:=Os (Os (Os b8 w) an) ee;Bi a fun kb ef a=>Ef (Bx (κ:=Ag) rfl rfl im dcd PS (Cj il) (FW ef) (Fk ef) fun kc io kd eg ip=>?_)
 obtain ⟨eh,ei,rfl⟩:=Own.len eg
 refine Va (Sl eh ((u++([(AD.mk 33 d.e.at_)]:List AD))) ei)<|AA<|⟨_,io,(u++([(AD.mk 33 d.e.at_)]:List AD)),eh,ei,Pu,a,(T2 (T4 (Mo [23,27] ac) ad am w an) ee ip),eg⟩
 refine WC.skip<|have iq:=Os (Os b8 w) an;⟨_,bj,u,bh,bi,Pu,a,(T4 (Mo [23,27] ac) ad am w an),iq⟩
 rintro _ cq ⟨h,b3,a3,b4,b5,rfl,a,ir,it⟩
 rw [Fi] at a
 refine AO<|Vm<|Vr (I (Wr (m+1)))<|Va (I (Wr (m+1)))<|AA<|⟨al,Nat.lt_succ_self al,_,b3,a3,b4,b5,(Wr (m+1)),Pu,(ds▸a),(Tn (Mo [23,27] bf) ir),it⟩
 refine Bc<|AO<|Vm<|Vr (I (Wr (e+1)))<|Va (I (Wr (e+1)))<|AA<|⟨ai,Nat.lt_succ_self ai,_,aq,ab,bd,be,(Wr (e+1)),Pu,(cx▸a),(T3 (T4 (Mo [21,23,26,27] bn) af ag aw ap) bb b0 bf),co⟩
 refine Bc<|Sr<|Vm<|Va (Sl ar r au)<|AA<|AT ?_
 obtain ⟨iu,iv,iw⟩:=Own.freeze (S:=[23]) cc dcd dcd
 obtain rfl:=AP a
 refine Ax (B:=B) em (BG rfl (.tmp rfl) ?_)
 exact ⟨iu,Sl ar r au,rfl,Ho (T2 (Mo [21,23,26,27] cw) bn iv) ek,iw⟩
theorem RA(c:Nat):G5.Spec (G5 c):=by
 intro a d o p q e f
 refine Calls.mono (QJ c (recol (see []) a) d (Az lbr a) e (Au BN f [])) ?_
 rintro r s ⟨g,h,l,m,n⟩
 exact ⟨glue [] d a g,h,l,Ad m Ay,DV Ag n⟩
def HQ.At(c:Col)(a:World)(f:AM→Option AD):Prop:=
 ∀{d:AM} {e:List Value} {g:AD},f d=some g→BN.rep c.F a e d→
  Calls Tryz.prog 40 #[.agg e.toArray] a fun n h=>∃(l:Col) (m:List Value),n=.returned (.agg m.toArray)∧AQ [] c a l h∧Ag.rep l.F h m g
def HQ.Spec(f:AM→Option AD):Prop:=
 ∀(a:Col) (c:World),HQ.At a c f
theorem RB(ak:Nat)(al:Col)(ba:World)(bb:∀b,al b<10):HQ.At al ba (HQ ak):=by
 intro am cl ab a bc
 rw [HQ] at a
 obtain ⟨cm,rfl,a0⟩:=BK bc
 obtain ⟨a1,a2,rfl⟩:=AG a0
 refine A0 Tryz.func40 rfl Tryz.ntmps40 rfl fun B bd c=>Sr<|Ef (Bf al 20 rfl rfl fun be cn co bf a3=>?_)
 refine Ef (Aa be 21 Ep rfl fun bg bh an bi ao=>?_)
 refine AA<|Sr<|have bj:=Bs bf ao;Vx (Run.loadN Gw rfl rfl (Bk.part bj 0 [Sl a1 am.funcs a2] rfl))<|have bk:=K2 AL a0 a3 ao;Bi a fun l bl a=>Ca (AAd [.agg [Sl a1 am.funcs a2].toArray] rfl) (RA ak bg bh bl (BS (x:=am) bk)) ?_
 rintro _ cq ⟨bm,s26,rfl,a4,a5⟩
 obtain ⟨r,u,rfl⟩:=AG a5
 refine ⟨_,rfl,?_⟩
 refine Va (Sl r l u)<|AA<|Sr<|Ef (Aa bm 22 Ep rfl fun a6 bn q bo ap=>?_)
 refine AA<|AZ<|Sr<|Va (I 0)<|AA<|Aj<|Bt (fun o w y=>∃(p:Env) (n:Col) (e:Int) (m:Int) (g:Int),w=p.puts [(2,.pointer (some ⟨an,0,none⟩)),(3,.slice r l.length u),(4,.pointer (some ⟨q,0,none⟩)),(5,.int .i64 e)]∧HP l o e m g=some ab∧AQ [22] a6 bn n y∧Bk n y 22 q [I m,I g] 63) ak ?_ ?_
 exact ⟨_,a6,0,0,0,Pu,a,(AQ.refl [22] _ _),bo⟩
 rintro o _ y ⟨p,n,e,m,g,rfl,a,ac,ad⟩
 rcases o with _|o
 exact BC a
 refine have a:Hf l (HP l o) e m g=some ab:=a; ?_
 obtain ⟨a7,a8⟩:∃s,s=HP l o:=⟨_,rfl⟩
 rw [←a8,Hf] at a
 refine AZ<|Sr<|Vm<|Vm<|have aq:=K2 Ag a5 ap ac; ?_
 obtain ⟨cr,ct,bp⟩:=AG aq
 refine Vx (v:=I (l.length:Int)) (Run.lenSlc MX bp)<|Vr (.bool (decide (e< (l.length:Int))))<|AA<|Cn a (fun bq a=>?_) fun bq a=>?_
 refine WC.skip<|Ao (fun w ar=>∃(p:Env) (ae:Col) (af:Int) (ag:Int),w=p.puts [(2,.pointer (some ⟨an,0,none⟩)),(3,.slice r l.length u),(4,.pointer (some ⟨q,0,none⟩)),(5,.int .i64 e)]∧J3 e a7 af ag=some ab∧AQ [22] n y ae ar∧Bk ae ar 22 q [I af,I ag] 63) ?_ ?_
 refine Aj<|Ao (fun w au=>∃(p:Env) (z:Col) (av:Bool),w=p.puts [(2,.pointer (some ⟨an,0,none⟩)),(3,.slice r l.length u),(4,.pointer (some ⟨q,0,none⟩)),(5,.int .i64 e),(26,.bool av)]∧J4 l e m g a7 av=some ab∧AQ [] n y z au) ?_ ?_
 refine CJ FL (.q 0 (.q 1 (.q 2 (.q 3 (.q 4 (.q 5 (.q 6 (.q 7 (.q 8 (.q 9 (.q 10 (.q 11 (.q 12 .nil))))))))))))) [] [] n (by kernel_rfl) fun br ah=>Qx c rfl (fun _ ⟨_,f⟩=>Run.fieldAddr0 MA rfl)<|have a9:=Bs ad ah;Qx c rfl (fun _ ⟨_,f⟩=>Run.load1 Md rfl (Bk.cell (Bs a9 f) rfl))<|Qx c rfl (v:=.bool (m==0)) (fun _ ⟨_,f⟩=>rfl)<|Qx c rfl (v:=.bool (m==0)) (fun _ ⟨_,f⟩=>Run.move rfl)<|Bo a (fun d a=>?_) fun d a=>?_
 refine Qp c rfl d<|Qp c rfl d<|Qp c rfl d<|Qp c rfl d<|Qp c rfl d<|Qp c rfl d<|Qp c rfl d<|Qp c rfl d<|Qx c rfl (v:=.bool true) (fun _ ⟨_,f⟩=>(Pk d))<|Dy<|⟨_,n,true,Pu,a,(Mo [] ah)⟩
 refine A4 (fun _ _ _ _ h=>c _ _ _ _ h) rfl rfl (.guard (t:=false) (b:=false) rfl rfl rfl rfl (Cb d)) rfl rfl (v:=Sl r l u) (fun _ ⟨_,f⟩=>Run.move rfl)<|A4 (fun _ _ _ _ h=>c _ _ _ _ h) rfl rfl (.guard (t:=false) (b:=false) rfl rfl rfl rfl (Cb d)) rfl rfl (v:=I e) (fun _ ⟨_,f⟩=>Run.move rfl)<|Bi a fun ai bt a=>have bu:=Ss Ag aq ah; ?_
 obtain ⟨aw,ax,cu,bv,bw,bx,bz,b0,ay⟩:=BL (κ:=Ag) bu bt
 replace ay:A8 n br aw (ax+e.toNat*2) bv:=ay
 obtain rfl:=As b0
 refine A4 (fun _ _ _ _ h=>c _ _ _ _ h) rfl rfl (.guard (t:=false) (b:=false) rfl rfl rfl rfl (Cb d)) rfl rfl (v:=.pointer (some ⟨aw,ax+e.toNat*2,none⟩)) (fun _ ⟨_,f⟩=>Run.indexAddr MX bw rfl bx bz)<|A4 (fun _ _ _ _ h=>c _ _ _ _ h) rfl rfl (.guard (t:=false) (b:=false) rfl rfl rfl rfl (Cb d)) rfl rfl (v:=.pointer (some ⟨aw,ax+e.toNat*2+1,none⟩)) (fun _ ⟨_,f⟩=>Run.fieldAddr N9 rfl)<|A4 (fun _ _ _ _ h=>c _ _ _ _ h) rfl rfl (.guard (t:=false) (b:=false) rfl rfl rfl rfl (Cb d)) rfl rfl (v:=I ai.at_) (fun _ ⟨_,f⟩=>Run.load1 B5 rfl (A8.cell (k:=1) (Es ay f) rfl))<|A4 (fun _ _ _ _ h=>c _ _ _ _ h) rfl rfl (.guard (t:=false) (b:=false) rfl rfl rfl rfl (Cb d)) rfl rfl (v:=Pt q 1) (fun _ ⟨_,f⟩=>Run.fieldAddr N9 rfl)<|A4 (fun _ _ _ _ h=>c _ _ _ _ h) rfl rfl (.guard (t:=false) (b:=false) rfl rfl rfl rfl (Cb d)) rfl rfl (v:=I g) (fun _ ⟨_,f⟩=>Run.load1 B5 rfl (Bk.cell (Bs a9 f) rfl))<|A4 (fun _ _ _ _ h=>c _ _ _ _ h) rfl rfl (.guard (t:=false) (b:=false) rfl rfl rfl rfl (Cb d)) rfl rfl (v:=.bool (decide (ai.at_<g))) (fun _ ⟨_,f⟩=>rfl)<|Qx c rfl (v:=.bool (decide (ai.at_<g))) (fun _ ⟨_,f⟩=>(Pk d))<|Dy<|⟨_,n,(decide (ai.at_<g)),Pu,a,(Mo [] ah)⟩
 rintro _ au ⟨p,z,av,rfl,a,aa⟩
 rw [J4] at a
 refine Cn a (fun b1 a=>?_) fun b1 a=>?_
 refine AO<|Vm<|Vm<|Bi a fun aj b2 a=>have b3:=Ss Ag aq aa; ?_
 obtain ⟨b4,b5,cv,b6,b7,b8,b9,ca,az⟩:=BL (κ:=Ag) b3 b2
 replace az:A8 z au b4 (b5+e.toNat*2) b6:=az
 obtain rfl:=As ca
 refine Vx (Run.indexAddr MX b7 rfl b8 b9)<|Vx (Run.loadN J7 rfl rfl (A8.part0 az [I aj.why,I aj.at_] rfl))<|have cb:=Bs ad aa;Eu (St Gb cb rfl rfl rfl rfl fun cw cc cd=>?_)
 refine AA<|⟨_,z,aj.why,aj.at_,Pu,a,(Tn (Mo [22] aa) cd),cc⟩
 refine WC.skip<|have cf:=Bs ad aa;⟨_,z,m,g,Pu,a,(Mo [22] aa),cf⟩
 rintro _ ar ⟨p,ae,af,ag,rfl,a,cg,ch⟩
 rw [J3] at a
 refine AO<|Vm<|Vr (I (Wr (e+1)))<|Va (I (Wr (e+1)))<|AA<|⟨o,Nat.lt_succ_self o,_,ae,(Wr (e+1)),af,ag,Pu,(a8▸a),(Tn (Mo [22] ac) cg),ch⟩
 refine Bc<|Sr<|Vx (Run.loadN J7 rfl rfl (Bk.part ad 0 [I m,I g] rfl))<|have ci:=Y3 bi a4 ap ac;Eu (St Gb ci rfl rfl rfl rfl fun cx cj ck=>?_)
 refine AA<|AT ?_
 obtain rfl:=AP a
 refine Ax (B:=B) bd (BG rfl (.agg J7 rfl rfl (Bk.part cj 0 [I m,I g] rfl)) ?_)
 exact ⟨n,[I m,I g],rfl,Ho (Tn (T4 (Mo [21,22] a3) ao a4 ap ac) ck) bb,(Ah (x:=(AD.mk m g)))⟩
theorem SV(c:Nat):HQ.Spec (HQ c):=by
 intro a d o p q e f
 refine Calls.mono (RB c (recol (see []) a) d (Az lbr a) e (Au BN f [])) ?_
 rintro r s ⟨g,h,l,m,n⟩
 exact ⟨glue [] d a g,h,l,Ad m Ay,BB Ag n⟩
def FO.At(d:Col)(a:World)(f:AM→Bts→Option (AK×Bool)):Prop:=
 ∀{e:AM} {g:List Value} {h:Bts} {c:AK×Bool},f e h=some c→BN.rep d.F a g e→
  Calls Tryz.prog 16 #[.agg g.toArray,Sb h] a fun o l=>∃(m:Col) (n:List Value),o=.returned (.tuple #[.agg n.toArray,.bool c.2])∧AQ [] d a m l∧AL.rep m.F l n c.1
def FO.Spec(f:AM→Bts→Option (AK×Bool)):Prop:=
 ∀(a:Col) (c:World),FO.At a c f
theorem SW(ab:Nat)(o:Col)(aq:World)(ac:∀b,o b<10):FO.At o aq (FO ab):=by
 intro g bf h ad c ar
 rw [FO] at c
 obtain ⟨bg,rfl,ae⟩:=BK ar
 obtain ⟨bh,bi,rfl⟩:=AG ae
 refine A0 Tryz.func16 rfl Tryz.ntmps16 rfl fun B af bj=>Sr<|Ef (Bf o 20 rfl rfl fun au bk av aw p=>?_)
 refine Ef (Aa au 21 J8 rfl fun ag ax ay ah m=>?_)
 refine Va (.bool false)<|AA<|AZ<|Sr<|Va (I 0)<|AA<|Aj<|Bt (fun e az q=>∃(ai:Env) (l:Col) (d:Int),az=ai.puts [(1,.string (bs h)),(2,.pointer (some ⟨av,0,none⟩)),(4,.pointer (some ⟨ay,0,none⟩)),(6,.int .i64 d)]∧Ir g h e d=some ad∧AQ [] ag ax l q) ab ?_ ?_
 exact ⟨_,ag,0,Pu,c,(AQ.refl [] _ _)⟩
 rintro e _ q ⟨ai,l,d,rfl,c,f⟩
 rcases e with _|e
 exact BC c
 refine have c:J5 g h (Ir g h e) d=some ad:=c; ?_
 obtain ⟨bl,aj⟩:∃s,s=Ir g h e:=⟨_,rfl⟩
 rw [←aj,J5] at c
 refine AZ<|Sr<|Vm<|Vx (Run.fieldAddr0 D5 rfl)<|have r:=Y2 aw m f;Vx (Run.load1 GQ rfl (Bk.cell r rfl))<|have ak:=K3 AL ae p m f; ?_
 obtain ⟨bm,bn,a0⟩:=AG ak
 refine Vx (v:=I (g.funcs.length:Int)) (Run.lenSlc Fp a0)<|Vr (.bool (decide (d< (g.funcs.length:Int))))<|AA<|Cn c (fun a1 c=>?_) fun a1 c=>?_
 refine WC.skip<|AZ<|Aj<|Sr<|Vx (Run.fieldAddr0 D5 rfl)<|Vx (Run.load1 GQ rfl (Bk.cell r rfl))<|Vm<|Bi c fun a a2 c=>?_
 obtain ⟨a3,a4,bo,a5,al,am,an,a6,n⟩:=BL (κ:=AL) ak a2
 replace n:A8 l q a3 (a4+d.toNat*11) a5:=n
 obtain ⟨s121,bp,rfl,ao,ap⟩:=Cw a6
 obtain ⟨u,w,rfl⟩:=AG ao
 obtain ⟨y,z,rfl⟩:=AG ap
 refine Vx (Run.indexAddr Fp al rfl am an)<|Vx (Run.fieldAddr0 L8 rfl)<|Vx (Run.load1 CS rfl (A8.cell0 n rfl))<|Vm<|Vx (v:=.bool (a.name==h)) (Run.strEq rfl rfl)<|AA<|Cn c (fun a7 c=>?_) fun a7 c=>?_
 refine Sr<|Vx (Run.fieldAddr0 D5 rfl)<|Vx (Run.load1 GQ rfl (Bk.cell r rfl))<|Vm<|Vx (Run.indexAddr Fp al rfl am an)<|Vx (Run.loadN K9 rfl rfl (A8.part0 n [Sb a.name,Sl u a.params w,I a.type_,I a.body.op,Sb a.body.name,Sb a.body.tail,I a.body.type_,Cx a.body.num,Sl y a.body.args z,I a.body.at_,I a.at_] rfl))<|have a8:=Bs ah f;Eu (St Kj a8 rfl rfl rfl rfl fun bq a9 aa=>?_)
 refine Va (.bool true)<|AA<|AT ?_
 obtain rfl:=AP c
 refine Ax (B:=B) af (EC rfl (.agg K9 rfl rfl (Bk.part a9 0 [Sb a.name,Sl u a.params w,I a.type_,I a.body.op,Sb a.body.name,Sb a.body.tail,I a.body.type_,Cx a.body.num,Sl y a.body.args z,I a.body.at_,I a.at_] rfl)) (.tmp rfl) ?_)
 refine have ba:=Ss AY ao aa;have bb:=Ss AJ ap aa;⟨l,[Sb a.name,Sl u a.params w,I a.type_,I a.body.op,Sb a.body.name,Sb a.body.tail,I a.body.type_,Cx a.body.num,Sl y a.body.args z,I a.body.at_,I a.at_],rfl,Ho (T3 (Mo [21] p) m f aa) ac,(Lf (x:=a) ba bb)⟩
 refine WC.skip<|AO<|Vm<|Vr (I (Wr (d+1)))<|Va (I (Wr (d+1)))<|AA<|⟨e,Nat.lt_succ_self e,_,l,(Wr (d+1)),Pu,(aj▸c),(Mo [] f)⟩
 refine Bc<|Sr<|Vx (v:=.agg [Sb ([]:List UInt8),.slice none 0 0,I 0,I 0,Sb ([]:List UInt8),Sb ([]:List UInt8),I 0,Cx (((0,0):Nat×Nat)),.slice none 0 0,I 0,I 0].toArray) (Bp J8 X8 rfl .nil)<|have bc:=Bs ah f;Eu (St Kj bc rfl rfl rfl rfl fun br bd be=>?_)
 refine Va (.bool false)<|AA<|AT ?_
 obtain rfl:=AP c
 refine Ax (B:=B) af (EC rfl (.agg K9 rfl rfl (Bk.part bd 0 [Sb ([]:List UInt8),.slice none 0 0,I 0,I 0,Sb ([]:List UInt8),Sb ([]:List UInt8),I 0,Cx (((0,0):Nat×Nat)),.slice none 0 0,I 0,I 0] rfl)) (.tmp rfl) ?_)
 exact ⟨l,[Sb ([]:List UInt8),.slice none 0 0,I 0,I 0,Sb ([]:List UInt8),Sb ([]:List UInt8),I 0,Cx (((0,0):Nat×Nat)),.slice none 0 0,I 0,I 0],rfl,Ho (T3 (Mo [21] p) m f be) ac,(Lf (x:=(AK.mk ([]:List UInt8) [] 0 (AE.mk 0 ([]:List UInt8) ([]:List UInt8) 0 ((0,0):Nat×Nat) [] 0) 0)) CT CT)⟩
theorem Mv(c:Nat):FO.Spec (FO c):=by
 intro a d o p q r e f
 refine Calls.mono (SW c (recol (see []) a) d (Az lbr a) e (Au BN f [])) ?_
 rintro s u ⟨g,h,l,m,n⟩
 exact ⟨glue [] d a g,h,l,Ad m Ay,BB AL n⟩
def JC.At(c:Col)(a:World)(f:AM→(List AH)→AE→Option Int):Prop:=
 ∀{d:AM} {e:List Value} {g:(List AH)} {h:Value} {l:AE} {m:List Value} {n:Int},f d g l=some n→BN.rep c.F a e d→Slc AY c.F a h g→AJ.rep c.F a m l→
  Calls Tryz.prog 66 #[.agg e.toArray,h,.agg m.toArray] a fun o p=>∃(q:Col),o=.returned (I n)∧AQ [] c a q p
def JC.Spec(f:AM→(List AH)→AE→Option Int):Prop:=
 ∀(a:Col) (c:World),JC.At a c f
theorem TU(ae:Nat)(aw:Col)(bn:World)(q:∀b,aw b<10):JC.At aw bn (JC ae):=by
 intro af dc f de c df ag a bo a6 bp
 rw [JC] at a
 obtain ⟨dg,rfl,a7⟩:=BK bo
 obtain ⟨a8,a9,rfl⟩:=AG a7
 obtain ⟨aj,ak,rfl⟩:=AG a6
 obtain ⟨dh,rfl,ba⟩:=Am bp
 obtain ⟨di,dj,rfl⟩:=AG ba
 refine A0 Tryz.func66 rfl Tryz.ntmps66 rfl fun B r aa=>Sr<|Ef (Bf aw 20 rfl rfl fun bq dk ax br o=>?_)
 refine Ef (Bf bq 21 rfl rfl fun u bt an ao n=>?_)
 refine Va (I 0)<|AA<|AZ<|Sr<|Vx (Run.fieldAddr0 DR rfl)<|Vx (Run.load1 HS rfl (Bk.cell ao rfl))<|AA<|Aj<|Ao (fun w ay=>∃(l:Env) (y:Col) (az:Bool),w=l.puts [(1,.slice aj f.length ak),(3,.pointer (some ⟨ax,0,none⟩)),(5,.pointer (some ⟨an,0,none⟩)),(11,.int .i64 c.op),(12,.bool az)]∧FF ae af f c az=some ag∧AQ [] u bt y ay) ?_ ?_
 refine Sr<|Vr (.bool (c.op==1))<|Va (.bool (c.op==1))<|AA<|Cn a (fun bu a=>?_) fun bu a=>?_
 refine WC.skip<|⟨_,u,(c.op==1),Pu,a,(AQ.refl [] _ _)⟩
 refine Sr<|Vr (.bool (c.op==8))<|Va (.bool (c.op==8))<|AA<|Cn a (fun bv a=>?_) fun bv a=>?_
 refine WC.skip<|⟨_,u,(c.op==8),Pu,a,(AQ.refl [] _ _)⟩
 refine Sr<|Vr (.bool (c.op==9))<|Va (.bool (c.op==9))<|AA<|Cn a (fun bw a=>?_) fun bw a=>?_
 refine WC.skip<|⟨_,u,(c.op==9),Pu,a,(AQ.refl [] _ _)⟩
 refine Sr<|Vr (.bool (c.op==10))<|Va (.bool (c.op==10))<|AA<|Cn a (fun bx a=>?_) fun bx a=>?_
 refine WC.skip<|⟨_,u,(c.op==10),Pu,a,(AQ.refl [] _ _)⟩
 refine Sr<|Vr (.bool (c.op==11))<|Va (.bool (c.op==11))<|AA<|Cn a (fun bz a=>?_) fun bz a=>?_
 refine WC.skip<|⟨_,u,(c.op==11),Pu,a,(AQ.refl [] _ _)⟩
 refine Sr<|Vr (.bool (c.op==15))<|Va (.bool (c.op==15))<|AA<|Cn a (fun b0 a=>?_) fun b0 a=>?_
 refine WC.skip<|⟨_,u,(c.op==15),Pu,a,(AQ.refl [] _ _)⟩
 refine Sr<|Vr (.bool (c.op==16))<|Va (.bool (c.op==16))<|AA<|Cn a (fun b1 a=>?_) fun b1 a=>?_
 refine WC.skip<|⟨_,u,(c.op==16),Pu,a,(AQ.refl [] _ _)⟩
 refine AO<|Vr (.bool (c.op==17))<|Va (.bool (c.op==17))<|AA<|⟨_,u,(c.op==17),Pu,a,(AQ.refl [] _ _)⟩
 rintro _ ay ⟨l,y,az,rfl,a,g⟩
 rw [FF] at a
 refine Cn a (fun b2 a=>?_) fun b2 a=>?_
 refine Sr<|Va (I 1)<|AA<|AT ?_
 obtain rfl:=AP a
 refine Ax (B:=B) r (BG rfl (.tmp rfl) ?_)
 exact ⟨y,rfl,Ho (T2 (Mo [] o) n g) q⟩
 refine Ao (fun w a0=>∃(l:Env) (ah:Col) (a1:Bool),w=l.puts [(1,.slice aj f.length ak),(3,.pointer (some ⟨ax,0,none⟩)),(5,.pointer (some ⟨an,0,none⟩)),(11,.int .i64 c.op),(21,.bool a1)]∧Hr ae af f c a1=some ag∧AQ [] y ay ah a0) ?_ ?_
 refine Sr<|Vr (.bool (c.op==2))<|Va (.bool (c.op==2))<|AA<|Cn a (fun b3 a=>?_) fun b3 a=>?_
 refine WC.skip<|⟨_,y,(c.op==2),Pu,a,(AQ.refl [] _ _)⟩
 refine Sr<|Vr (.bool (c.op==3))<|Va (.bool (c.op==3))<|AA<|Cn a (fun b4 a=>?_) fun b4 a=>?_
 refine WC.skip<|⟨_,y,(c.op==3),Pu,a,(AQ.refl [] _ _)⟩
 refine Sr<|Vr (.bool (c.op==12))<|Va (.bool (c.op==12))<|AA<|Cn a (fun b5 a=>?_) fun b5 a=>?_
 refine WC.skip<|⟨_,y,(c.op==12),Pu,a,(AQ.refl [] _ _)⟩
 refine Sr<|Vr (.bool (c.op==13))<|Va (.bool (c.op==13))<|AA<|Cn a (fun b6 a=>?_) fun b6 a=>?_
 refine WC.skip<|⟨_,y,(c.op==13),Pu,a,(AQ.refl [] _ _)⟩
 refine AO<|Vr (.bool (c.op==14))<|Va (.bool (c.op==14))<|AA<|⟨_,y,(c.op==14),Pu,a,(AQ.refl [] _ _)⟩
 rintro _ a0 ⟨l,ah,a1,rfl,a,h⟩
 rw [Hr] at a
 refine Cn a (fun b7 a=>?_) fun b7 a=>?_
 refine Sr<|Va (I 2)<|AA<|AT ?_
 obtain rfl:=AP a
 refine Ax (B:=B) r (BG rfl (.tmp rfl) ?_)
 exact ⟨ah,rfl,Ho (T3 (Mo [] o) n g h) q⟩
 refine Ao (fun w ap=>∃(l:Env) (ab:Col) (a2:Bool),w=l.puts [(1,.slice aj f.length ak),(3,.pointer (some ⟨ax,0,none⟩)),(5,.pointer (some ⟨an,0,none⟩)),(11,.int .i64 c.op),(27,.bool a2)]∧KH ae af f c a2=some ag∧AQ [] ah a0 ab ap) ?_ ?_
 refine Sr<|Vr (.bool (c.op==4))<|Va (.bool (c.op==4))<|AA<|Cn a (fun b8 a=>?_) fun b8 a=>?_
 refine WC.skip<|⟨_,ah,(c.op==4),Pu,a,(AQ.refl [] _ _)⟩
 refine AO<|Vr (.bool (c.op==18))<|Va (.bool (c.op==18))<|AA<|⟨_,ah,(c.op==18),Pu,a,(AQ.refl [] _ _)⟩
 rintro _ ap ⟨l,ab,a2,rfl,a,m⟩
 rw [KH] at a
 refine Cn a (fun b9 a=>?_) fun b9 a=>?_
 refine Sr<|Va (I 3)<|AA<|AT ?_
 obtain rfl:=AP a
 refine Ax (B:=B) r (BG rfl (.tmp rfl) ?_)
 exact ⟨ab,rfl,Ho (T4 (Mo [] o) n g h m) q⟩
 refine Sr<|Vr (.bool (c.op==5))<|Va (.bool (c.op==5))<|AA<|Cn a (fun ca a=>?_) fun ca a=>?_
 refine Sr<|Vx (Run.fieldAddr KY rfl)<|have cb:=Y3 ao g h m;Vx (Run.load1 EA rfl (Bk.cell cb rfl))<|Va (I c.type_)<|AA<|AT ?_
 obtain rfl:=AP a
 refine Ax (B:=B) r (BG rfl (.tmp rfl) ?_)
 exact ⟨ab,rfl,Ho (T4 (Mo [] o) n g h m) q⟩
 refine Sr<|Vr (.bool (c.op==6))<|Va (.bool (c.op==6))<|AA<|Cn a (fun cc a=>?_) fun cc a=>?_
 refine AZ<|Sr<|Vm<|have bb:=Ss AY (K4 AY a6 o n g h) m; ?_
 obtain ⟨dl,dm,cd⟩:=AG bb
 refine Vx (v:=I (f.length:Int)) (Run.lenSlc D3 cd)<|Vr (I (Wr ((f.length:Int) - 1)))<|Va (I (Wr ((f.length:Int) - 1)))<|AA<|Aj<|Bt (fun ac w bc=>∃(l:Env) (ad:Col) (p:Int),w=l.puts [(1,.slice aj f.length ak),(5,.pointer (some ⟨an,0,none⟩)),(7,.int .i64 p)]∧JQ f c ac p=some ag∧AQ [] ab ap ad bc) ae ?_ ?_
 exact ⟨_,ab,(Wr ((f.length:Int) - 1)),Pu,a,(AQ.refl [] _ _)⟩
 rintro ac _ bc ⟨l,ad,p,rfl,a,al⟩
 rcases ac with _|ac
 exact BC a
 refine have a:KW f c (JQ f c ac) p=some ag:=a; ?_
 obtain ⟨dn,bd⟩:∃s,s=JQ f c ac:=⟨_,rfl⟩
 rw [←bd,KW] at a
 refine AZ<|Sr<|Vm<|Vr (.bool (decide (p≥0)))<|AA<|Cn a (fun cf a=>?_) fun cf a=>?_
 refine WC.skip<|AZ<|Aj<|AZ<|CJ FL (.q 0 (.q 1 (.q 2 (.q 3 (.q 4 (.q 5 (.q 6 (.q 7 .nil)))))))) [] [] ad (by kernel_rfl) fun cg aq=>Qx aa rfl (v:=Sl aj f ak) (fun _ ⟨_,z⟩=>Run.move rfl)<|Qx aa rfl (v:=I p) (fun _ ⟨_,z⟩=>Run.move rfl)<|Bi a fun be ch a=>have ci:=K2 AY bb al aq; ?_
 obtain ⟨cj,ck,dp,cl,bf,bg,bh,cm,ar⟩:=BL (κ:=AY) ci ch
 replace ar:A8 ad cg cj (ck+p.toNat*3) cl:=ar
 obtain rfl:=Fg cm
 refine Qx aa rfl (fun _ ⟨_,z⟩=>Run.indexAddr D3 bf rfl bg bh)<|Qx aa rfl (fun _ ⟨_,z⟩=>Run.fieldAddr0 Lj rfl)<|Qx aa rfl (fun _ ⟨_,z⟩=>Run.load1 CS rfl (A8.cell0 (Es ar z) rfl))<|Qx aa rfl (fun _ ⟨_,z⟩=>Run.fieldAddr EN rfl)<|have cn:=Bs (Y4 ao g h m al) aq;Qx aa rfl (fun _ ⟨_,z⟩=>Run.load1 CS rfl (Bk.cell (Bs cn z) rfl))<|Qx aa rfl (v:=.bool (be.name==c.name)) (fun _ ⟨_,z⟩=>Run.strEq rfl rfl)<|Dy<|Cn a (fun co a=>?_) fun co a=>?_
 refine Sr<|Vm<|Vm<|Vx (Run.indexAddr D3 bf rfl bg bh)<|Vx (Run.fieldAddr M5 rfl)<|Vx (Run.load1 EA rfl (A8.cell (k:=1) ar rfl))<|Va (I be.type_)<|AA<|AT ?_
 obtain rfl:=AP a
 refine Ax (B:=B) r (BG rfl (.tmp rfl) ?_)
 exact ⟨ad,rfl,Ho (T2 (T4 (Mo [] o) n g h m) al aq) q⟩
 refine WC.skip<|AO<|Vm<|Vr (I (Wr (p - 1)))<|Va (I (Wr (p - 1)))<|AA<|⟨ac,Nat.lt_succ_self ac,_,ad,(Wr (p - 1)),Pu,(bd▸a),(Tn (Mo [] al) aq)⟩
 refine Bc<|Sr<|Va (I (-1:Int))<|AA<|AT ?_
 obtain rfl:=AP a
 refine Ax (B:=B) r (BG rfl (.tmp rfl) ?_)
 exact ⟨ad,rfl,Ho (Tn (T4 (Mo [] o) n g h m) al) q⟩
 refine Sr<|Vr (.bool (c.op==7))<|Va (.bool (c.op==7))<|AA<|Cn a (fun cq a=>?_) fun cq a=>?_
 refine Sr<|have cr:=Y4 br n g h m;Vx (Run.loadN Gw rfl rfl (Bk.part cr 0 [Sl a8 af.funcs a9] rfl))<|Vx (Run.fieldAddr EN rfl)<|have bi:=Y3 ao g h m;Vx (Run.load1 CS rfl (Bk.cell bi rfl))<|have ct:=Ss AL (K4 AL a7 o n g h) m;Bi a fun d cu a=>Ca (Vk [.agg [Sl a8 af.funcs a9].toArray,Sb c.name] rfl) (Mv ae ab ap cu (BS (x:=af) ct)) ?_
 rintro _ dq ⟨cv,dr,rfl,au,cw⟩
 obtain ⟨ds,dt,rfl,bj,bk⟩:=Cw cw
 obtain ⟨cx,cy,rfl⟩:=AG bj
 obtain ⟨cz,c0,rfl⟩:=AG bk
 refine ⟨_,rfl,?_⟩
 refine Vm<|Vr (.agg [Sb d.1.name,Sl cx d.1.params cy,I d.1.type_,I d.1.body.op,Sb d.1.body.name,Sb d.1.body.tail,I d.1.body.type_,Cx d.1.body.num,Sl cz d.1.body.args c0,I d.1.body.at_,I d.1.at_].toArray)<|Vr (.bool d.2)<|Ef (Aa cv 22 J8 rfl fun a3 du c1 c2 ai=>?_)
 refine have c3:=Ss AY bj ai;have dv:=Ss AJ bk ai;Eu (St Kj c2 rfl rfl rfl rfl fun c4 bl am=>?_)
 refine Va (.bool d.2)<|AA<|AZ<|Ao (fun w bm=>∃(l:Env) (av:Col) (a4:Bool),w=l.puts [(8,.pointer (some ⟨c1,0,none⟩)),(75,.bool a4)]∧K7 d a4=some ag∧AQ [] a3 c4 av bm) ?_ ?_
 refine AO<|Vm<|Vr (.bool (!d.2))<|Vm<|Bo a (fun e a=>?_) fun e a=>?_
 refine Pg e<|Pg e<|Pg e<|Pg e<|Pg e<|Pg e<|Pg e<|Vp e<|AA<|⟨_,a3,true,Pu,a,(AQ.refl [] _ _)⟩
 refine Gx e (Run.fieldAddr EX rfl)<|Gx e (Run.load1 Eo rfl (Bk.cell bl rfl))<|have c5:=Ss AY c3 am; ?_
 obtain ⟨dw,dx,c6⟩:=AG c5
 refine Gx e (v:=I (d.1.params.length:Int)) (Run.lenSlc D3 c6)<|Gx e (Run.fieldAddr Bq rfl)<|have c7:=Y3 bi au ai am;Gx e (Run.load1 EB rfl (Bk.cell c7 rfl))<|have c8:=K4 AJ (K4 AJ ba o n g h) m au ai am; ?_
 obtain ⟨dy,dz,c9⟩:=AG c8
 refine Gx e (v:=I (c.args.length:Int)) (Run.lenSlc DT c9)<|Gr e (.bool ((d.1.params.length:Int) != (c.args.length:Int)))<|Vp e<|AA<|⟨_,a3,((d.1.params.length:Int) != (c.args.length:Int)),Pu,a,(AQ.refl [] _ _)⟩
 rintro _ bm ⟨l,av,a4,rfl,a,a5⟩
 rw [K7] at a
 refine Cn a (fun da a=>?_) fun da a=>?_
 refine Sr<|Va (I (-1:Int))<|AA<|AT ?_
 obtain rfl:=AP a
 refine Ax (B:=B) r (BG rfl (.tmp rfl) ?_)
 exact ⟨av,rfl,Ho (T4 (T4 (Mo [22] o) n g h m) au ai am a5) q⟩
 refine WC.skip<|Sr<|Vx (Run.fieldAddr M4 rfl)<|have db:=Bs bl a5;Vx (Run.load1 EA rfl (Bk.cell db rfl))<|Va (I d.1.type_)<|AA<|AT ?_
 obtain rfl:=AP a
 refine Ax (B:=B) r (BG rfl (.tmp rfl) ?_)
 exact ⟨av,rfl,Ho (T4 (T4 (Mo [22] o) n g h m) au ai am a5) q⟩
 refine WC.skip<|Sr<|Va (I 0)<|AA<|AT ?_
 obtain rfl:=AP a
 refine Ax (B:=B) r (BG rfl (.tmp rfl) ?_)
 exact ⟨ab,rfl,Ho (T4 (Mo [] o) n g h m) q⟩
theorem UY(c:Nat):JC.Spec (JC c):=by
 intro a d o p q r s u w e f g h
 refine Calls.mono (TU c (recol (see []) a) d (Az lbr a) e (Au BN f []) (By AY g []) (Au AJ h [])) ?_
 rintro y z ⟨l,m,n⟩
 exact ⟨glue [] d a l,m,Ad n Ay⟩
def Gu.At(c:Col)(a:World)(f:(List AH)→Bts→Int→Option (List AH)):Prop:=
 ∀{d:(List AH)} {v0:Value} {e:Bts} {g:Int} {h:(List AH)},f d e g=some h→Slc AY c.F a v0 d→
  Calls Tryz.prog 96 #[v0,Sb e,I g] a fun o l=>∃(m:Col) (n:Value),o=.returned n∧AQ [] c a m l∧Slc AY m.F l n h
def Gu.Spec(f:(List AH)→Bts→Int→Option (List AH)):Prop:=
 ∀(a:Col) (c:World),Gu.At a c f
theorem SX(e:Col)(g:World)(s:∀b,e b<10):Gu.At e g Gu:=by
 intro f v0 a c al d h
 rw [Gu] at d
 obtain ⟨am,an,rfl⟩:=AG h
 refine A0 Tryz.func96 rfl Tryz.ntmps96 rfl fun B u ao=>Sr<|Va (.slice none 0 0)<|AA<|Sr<|Va (.slice none 0 0)<|AA<|Sr<|Vm<|Vm<|Bi d fun ap l d=>Ef (Bx (κ:=AY) rfl rfl (Own.nil:Own AY 87 e g 20 _ _) dcd O8 (Hl h) (FW l) (Fk l) fun aq w ar m y=>?_)
 obtain ⟨z,aa,rfl⟩:=Own.len m
 refine Va (Sl z ((([]:List AH)++f)) aa)<|AA<|Sr<|Vm<|Vm<|Vm<|Vx (v:=.agg [Sb a,I c,I 0].toArray) (Bp LC P4 rfl (.cons rfl rfl rfl (.cons rfl rfl rfl .nil)))<|Ef (DC (cs:=[Sb a,I c,I 0]) w 21 [[Sb a,I c,I 0]] D3 LC rfl rfl (.cons rfl rfl rfl .nil) rfl fun ab ac ad ae n=>?_)
 refine have af:Own AY 87 ab ac 21 (.slice (some ⟨ad,0,none⟩) 1 1) ([(AH.mk a c 0)]:List AH):=Own.lit (css:=[[Sb a,I c,I 0]]) ae rfl rfl rfl (AW (KD (x:=(AH.mk a c 0))) BE) (A2 rfl ED) rfl;have ag:=Os m n;Bi d fun au o d=>Ef (Bx (κ:=AY) rfl rfl ag dcd O8 (Cj af) (FW o) (Fk o) fun av aw ax p ah=>?_)
 obtain ⟨q,r,rfl⟩:=Own.len p
 refine Va (Sl q (((([]:List AH)++f)++([(AH.mk a c 0)]:List AH))) r)<|AA<|AT ?_
 obtain ⟨ai,aj,ak⟩:=Own.freeze (S:=[20]) p dcd dcd
 obtain rfl:=AP d
 refine Ax (B:=B) u (BG rfl (.tmp rfl) ?_)
 exact ⟨ai,Sl q (((([]:List AH)++f)++([(AH.mk a c 0)]:List AH))) r,rfl,Ho (T3 (Mo [20] y) n ah aj) s,ak⟩
theorem Mw:Gu.Spec Gu:=by
 intro a c n v0 o p q d e
 refine Calls.mono (SX (recol (see []) a) c (Az lbr a) d (By AY e [])) ?_
 rintro r s ⟨f,g,h,l,m⟩
 exact ⟨glue [] c a f,g,h,Ad l Ay,DV AY m⟩
def GL.At(c:Col)(a:World)(f:(List AH)→AE→Int→Option (List AH)):Prop:=
 ∀{d:(List AH)} {v0:Value} {e:AE} {g:List Value} {h:Int} {l:(List AH)},f d e h=some l→Slc AY c.F a v0 d→AJ.rep c.F a g e→
  Calls Tryz.prog 67 #[v0,.agg g.toArray,I h] a fun p m=>∃(n:Col) (o:Value),p=.returned o∧AQ [] c a n m∧Slc AY n.F m o l
def GL.Spec(f:(List AH)→AE→Int→Option (List AH)):Prop:=
 ∀(a:Col) (c:World),GL.At a c f
theorem QK(z:Col)(az:World)(aa:∀b,z b<10):GL.At z az GL:=by
 intro e v0 c bk f ag a s a0
 rw [GL] at a
 obtain ⟨l,m,rfl⟩:=AG s
 obtain ⟨bl,rfl,a1⟩:=Am a0
 obtain ⟨bm,bn,rfl⟩:=AG a1
 refine A0 Tryz.func67 rfl Tryz.ntmps67 rfl fun B ab bo=>Sr<|Ef (Bf z 20 rfl rfl fun u a2 ah p n=>?_)
 refine Va (.slice none 0 0)<|AA<|AZ<|Aj<|Ao (fun ac w=>∃(q:Env) (o:Col) (ad:Bool),ac=q.puts [(0,.slice l e.length m),(2,.int .i64 f),(4,.pointer (some ⟨ah,0,none⟩)),(8,.bool ad)]∧IY e c f ad=some ag∧AQ [] u a2 o w) ?_ ?_
 refine Sr<|Vx (Run.fieldAddr0 DR rfl)<|Vx (Run.load1 HS rfl (Bk.cell p rfl))<|Vr (.bool (c.op==21))<|Va (.bool (c.op==21))<|AA<|Cn a (fun a3 a=>?_) fun a3 a=>?_
 refine WC.skip<|⟨_,u,(c.op==21),Pu,a,(AQ.refl [] _ _)⟩
 refine AO<|Vx (Run.fieldAddr0 DR rfl)<|Vx (Run.load1 HS rfl (Bk.cell p rfl))<|Vr (.bool (c.op==22))<|Vm<|Bo a (fun g a=>?_) fun g a=>?_
 refine Gm g<|Gr g (.bool (f==1))<|Vp g<|Va (.bool (f==1))<|AA<|⟨_,u,(f==1),Pu,a,(AQ.refl [] _ _)⟩
 refine Pg g<|Pg g<|Vp g<|Va (.bool false)<|AA<|⟨_,u,false,Pu,a,(AQ.refl [] _ _)⟩
 rintro _ w ⟨q,o,ad,rfl,a,d⟩
 rw [IY] at a
 refine Cn a (fun a4 a=>?_) fun a4 a=>?_
 refine Sr<|Vm<|Vx (Run.fieldAddr EN rfl)<|have ai:=Bs p d;Vx (Run.load1 CS rfl (Bk.cell ai rfl))<|Vx (Run.fieldAddr KY rfl)<|Vx (Run.load1 EA rfl (Bk.cell ai rfl))<|have a5:=K2 AY s n d;Bi a fun aj a6 a=>Ca (Vu [Sl l e m,Sb c.name,I c.type_] rfl) (Mw o w a6 a5) ?_
 rintro _ bp ⟨a7,bq,rfl,a8,ak⟩
 obtain ⟨al,am,rfl⟩:=AG ak
 refine ⟨_,rfl,?_⟩
 refine Va (Sl al aj am)<|AA<|AT ?_
 obtain rfl:=AP a
 refine Ax (B:=B) ab (BG rfl (.tmp rfl) ?_)
 exact ⟨a7,Sl al aj am,rfl,Ho (T2 (Mo [] n) d a8) aa,ak⟩
 refine Ao (fun ac ae=>∃(q:Env) (y:Col) (af:Bool),ac=q.puts [(0,.slice l e.length m),(4,.pointer (some ⟨ah,0,none⟩)),(25,.bool af)]∧Jc e c af=some ag∧AQ [] o w y ae) ?_ ?_
 refine AO<|Vx (Run.fieldAddr0 DR rfl)<|have a9:=Bs p d;Vx (Run.load1 HS rfl (Bk.cell a9 rfl))<|Vr (.bool (c.op==20))<|Vm<|Bo a (fun h a=>?_) fun h a=>?_
 refine Gm h<|Gr h (.bool (f==2))<|Vp h<|Va (.bool (f==2))<|AA<|⟨_,o,(f==2),Pu,a,(AQ.refl [] _ _)⟩
 refine Pg h<|Pg h<|Vp h<|Va (.bool false)<|AA<|⟨_,o,false,Pu,a,(AQ.refl [] _ _)⟩
 rintro _ ae ⟨q,y,af,rfl,a,r⟩
 rw [Jc] at a
 refine Cn a (fun ba a=>?_) fun ba a=>?_
 refine Sr<|Vm<|Vx (Run.fieldAddr EN rfl)<|have an:=Y2 p d r;Vx (Run.load1 CS rfl (Bk.cell an rfl))<|have bb:=K3 AY s n d r;Bi a fun ao bc a=>Ca (Vu [Sl l e m,Sb c.name,I 1] rfl) (Mw y ae bc bb) ?_
 rintro _ bd ⟨be,br,rfl,ap,aq⟩
 obtain ⟨ar,au,rfl⟩:=AG aq
 refine ⟨_,rfl,?_⟩
 refine Va (Sl ar ao au)<|AA<|Sr<|Vm<|Vx (Run.fieldAddr M3 rfl)<|have bf:=Bs an ap;Vx (Run.load1 CS rfl (Bk.cell bf rfl))<|Bi a fun av bg a=>Ca (Vu [Sl ar ao au,Sb c.tail,I 3] rfl) (Mw be bd bg aq) ?_
 rintro _ bt ⟨bh,bu,rfl,bi,aw⟩
 obtain ⟨ax,ay,rfl⟩:=AG aw
 refine ⟨_,rfl,?_⟩
 refine Va (Sl ax av ay)<|AA<|AT ?_
 obtain rfl:=AP a
 refine Ax (B:=B) ab (BG rfl (.tmp rfl) ?_)
 exact ⟨bh,Sl ax av ay,rfl,Ho (T4 (Mo [] n) d r ap bi) aa,aw⟩
 refine WC.skip<|Sr<|Vm<|Va (Sl l e m)<|AA<|AT ?_
 obtain rfl:=AP a
 refine Ax (B:=B) ab (BG rfl (.tmp rfl) ?_)
 refine have bj:=K3 AY s n d r;⟨y,Sl l e m,rfl,Ho (T2 (Mo [] n) d r) aa,bj⟩
theorem RC:GL.Spec GL:=by
 intro a c o v0 p q r s d e f
 refine Calls.mono (QK (recol (see []) a) c (Az lbr a) d (By AY e []) (Au AJ f [])) ?_
 rintro u w ⟨g,h,l,m,n⟩
 exact ⟨glue [] c a g,h,l,Ad m Ay,DV AY n⟩
def GN.At(c:Col)(a:World)(f:AM→AE→Int→Int→Option Int):Prop:=
 ∀{d:AM} {e:List Value} {g:AE} {h:List Value} {l:Int} {m:Int} {n:Int},f d g l m=some n→BN.rep c.F a e d→AJ.rep c.F a h g→
  Calls Tryz.prog 68 #[.agg e.toArray,.agg h.toArray,I l,I m] a fun o p=>∃(q:Col),o=.returned (I n)∧AQ [] c a q p
def GN.Spec(f:AM→AE→Int→Int→Option Int):Prop:=
 ∀(a:Col) (c:World),GN.At a c f
theorem QL(al:Nat)(aa:Col)(ay:World)(m:∀b,aa b<10):GN.At aa ay (GN al):=by
 intro ab ca c cb h p ac a az a0
 rw [GN] at a
 obtain ⟨cc,rfl,am⟩:=BK az
 obtain ⟨an,ao,rfl⟩:=AG am
 obtain ⟨cd,rfl,a1⟩:=Am a0
 obtain ⟨cf,cg,rfl⟩:=AG a1
 refine A0 Tryz.func68 rfl Tryz.ntmps68 rfl fun B n ch=>Sr<|Ef (Bf aa 20 rfl rfl fun a2 ci cj a3 l=>?_)
 refine Ef (Bf a2 21 rfl rfl fun f ad a4 ae g=>?_)
 refine Va (I 0)<|AA<|Ao (fun q ap=>∃(o:Env) (af:Col),q=o.puts []∧IZ=some ac∧AQ [22] f ad af ap) ?_ ?_
 refine Sr<|Vx (Run.fieldAddr0 DR rfl)<|Vx (Run.load1 HS rfl (Bk.cell ae rfl))<|AA<|Aj<|Sr<|Vr (.bool (c.op==14))<|Va (.bool (c.op==14))<|AA<|Cn a (fun a5 a=>?_) fun a5 a=>?_
 refine Sr<|Va (I 2)<|AA<|AT ?_
 obtain rfl:=AP a
 refine Ax (B:=B) n (BG rfl (.tmp rfl) ?_)
 exact ⟨f,rfl,Ho (Tn (Mo [] l) g) m⟩
 refine Sr<|Vr (.bool (c.op==18))<|Va (.bool (c.op==18))<|AA<|Cn a (fun a6 a=>?_) fun a6 a=>?_
 refine Sr<|Vm<|Vr (.bool (h==1))<|AA<|Cn a (fun a7 a=>?_) fun a7 a=>?_
 refine Sr<|Va (I 3)<|AA<|AT ?_
 obtain rfl:=AP a
 refine Ax (B:=B) n (BG rfl (.tmp rfl) ?_)
 exact ⟨f,rfl,Ho (Tn (Mo [] l) g) m⟩
 refine WC.skip<|⟨_,f,Pu,a,(AQ.refl [22] _ _)⟩
 refine Sr<|Vr (.bool (c.op==7))<|Va (.bool (c.op==7))<|AA<|Cn a (fun a8 a=>?_) fun a8 a=>?_
 refine Sr<|have a9:=Bs a3 g;Vx (Run.loadN Gw rfl rfl (Bk.part a9 0 [Sl an ab.funcs ao] rfl))<|Vx (Run.fieldAddr EN rfl)<|Vx (Run.load1 CS rfl (Bk.cell ae rfl))<|have ba:=K2 AL am l g;Bi a fun d bb a=>Ca (Vk [.agg [Sl an ab.funcs ao].toArray,Sb c.name] rfl) (Mv al f ad bb (BS (x:=ab) ba)) ?_
 rintro _ ck ⟨bc,cl,rfl,aq,bd⟩
 obtain ⟨cm,cn,rfl,ar,au⟩:=Cw bd
 obtain ⟨be,bf,rfl⟩:=AG ar
 obtain ⟨bg,bh,rfl⟩:=AG au
 refine ⟨_,rfl,?_⟩
 refine Vm<|Vr (.agg [Sb d.1.name,Sl be d.1.params bf,I d.1.type_,I d.1.body.op,Sb d.1.body.name,Sb d.1.body.tail,I d.1.body.type_,Cx d.1.body.num,Sl bg d.1.body.args bh,I d.1.body.at_,I d.1.at_].toArray)<|Vr (.bool d.2)<|Ef (Aa bc 22 J8 rfl fun ag co bi bj u=>?_)
 refine have av:=Ss AY ar u;have cq:=Ss AJ au u;Eu (St Kj bj rfl rfl rfl rfl fun bk aw w=>?_)
 refine Va (.bool d.2)<|AA<|Ao (fun q ah=>∃(o:Env) (r:Col) (ai:Bool),q=o.puts [(2,.int .i64 h),(9,.pointer (some ⟨bi,0,none⟩)),(35,.bool ai)]∧Jd h d ai=some ac∧AQ [] ag bk r ah) ?_ ?_
 refine AO<|Vm<|Vm<|Bo a (fun e a=>?_) fun e a=>?_
 refine Gm e<|Gx e (Run.fieldAddr EX rfl)<|Gx e (Run.load1 Eo rfl (Bk.cell aw rfl))<|have bl:=Ss AY av w; ?_
 obtain ⟨cr,ct,bm⟩:=AG bl
 refine Gx e (v:=I (d.1.params.length:Int)) (Run.lenSlc D3 bm)<|Gr e (.bool (decide (h< (d.1.params.length:Int))))<|Vp e<|AA<|⟨_,ag,(decide (h< (d.1.params.length:Int))),Pu,a,(AQ.refl [] _ _)⟩
 refine Pg e<|Pg e<|Pg e<|Pg e<|Pg e<|Vp e<|AA<|⟨_,ag,false,Pu,a,(AQ.refl [] _ _)⟩
 rintro _ ah ⟨o,r,ai,rfl,a,y⟩
 rw [Jd] at a
 refine Cn a (fun bn a=>?_) fun bn a=>?_
 refine Sr<|Vx (Run.fieldAddr EX rfl)<|have bo:=Bs aw y;Vx (Run.load1 Eo rfl (Bk.cell bo rfl))<|Vm<|Bi a fun bp bq a=>have br:=K2 AY av w y; ?_
 obtain ⟨bt,bu,cu,bv,bw,bx,bz,b0,aj⟩:=BL (κ:=AY) br bq
 replace aj:A8 r ah bt (bu+h.toNat*3) bv:=aj
 obtain rfl:=Fg b0
 refine Vx (Run.indexAddr D3 bw rfl bx bz)<|Vx (Run.fieldAddr M5 rfl)<|Vx (Run.load1 EA rfl (A8.cell (k:=1) aj rfl))<|Va (I bp.type_)<|AA<|AT ?_
 obtain rfl:=AP a
 refine Ax (B:=B) n (BG rfl (.tmp rfl) ?_)
 exact ⟨r,rfl,Ho (Tn (T4 (Mo [22] l) g aq u w) y) m⟩
 refine WC.skip<|⟨_,r,Pu,a,(T3 (Mo [22] aq) u w y)⟩
 refine Sr<|Vr (.bool (c.op==19))<|Va (.bool (c.op==19))<|AA<|Cn a (fun b1 a=>?_) fun b1 a=>?_
 refine AZ<|Sr<|Vm<|Vr (.bool (h==0))<|AA<|Cn a (fun b2 a=>?_) fun b2 a=>?_
 refine Sr<|Va (I 2)<|AA<|AT ?_
 obtain rfl:=AP a
 refine Ax (B:=B) n (BG rfl (.tmp rfl) ?_)
 exact ⟨f,rfl,Ho (Tn (Mo [] l) g) m⟩
 refine WC.skip<|Sr<|Vm<|Va (I p)<|AA<|AT ?_
 obtain rfl:=AP a
 refine Ax (B:=B) n (BG rfl (.tmp rfl) ?_)
 exact ⟨f,rfl,Ho (Tn (Mo [] l) g) m⟩
 refine Sr<|Vr (.bool (c.op==20))<|Va (.bool (c.op==20))<|AA<|Cn a (fun b3 a=>?_) fun b3 a=>?_
 refine AZ<|Sr<|Vm<|Vr (.bool (h==0))<|AA<|Cn a (fun b4 a=>?_) fun b4 a=>?_
 refine Sr<|Va (I 3)<|AA<|AT ?_
 obtain rfl:=AP a
 refine Ax (B:=B) n (BG rfl (.tmp rfl) ?_)
 exact ⟨f,rfl,Ho (Tn (Mo [] l) g) m⟩
 refine WC.skip<|Sr<|Vm<|Va (I p)<|AA<|AT ?_
 obtain rfl:=AP a
 refine Ax (B:=B) n (BG rfl (.tmp rfl) ?_)
 exact ⟨f,rfl,Ho (Tn (Mo [] l) g) m⟩
 refine Ao (fun q ax=>∃(o:Env) (s:Col) (ak:Bool),q=o.puts [(2,.int .i64 h),(3,.int .i64 p),(5,.pointer (some ⟨a4,0,none⟩)),(52,.bool ak)]∧Je c h p ak=some ac∧AQ [] f ad s ax) ?_ ?_
 refine Sr<|Vr (.bool (c.op==21))<|Va (.bool (c.op==21))<|AA<|Cn a (fun b5 a=>?_) fun b5 a=>?_
 refine WC.skip<|⟨_,f,(c.op==21),Pu,a,(AQ.refl [] _ _)⟩
 refine AO<|Vr (.bool (c.op==22))<|Va (.bool (c.op==22))<|AA<|⟨_,f,(c.op==22),Pu,a,(AQ.refl [] _ _)⟩
 rintro _ ax ⟨o,s,ak,rfl,a,z⟩
 rw [Je] at a
 refine Cn a (fun b6 a=>?_) fun b6 a=>?_
 refine AZ<|Sr<|Vm<|Vr (.bool (h==0))<|AA<|Cn a (fun b7 a=>?_) fun b7 a=>?_
 refine Sr<|Vx (Run.fieldAddr KY rfl)<|have b8:=Bs ae z;Vx (Run.load1 EA rfl (Bk.cell b8 rfl))<|Va (I c.type_)<|AA<|AT ?_
 obtain rfl:=AP a
 refine Ax (B:=B) n (BG rfl (.tmp rfl) ?_)
 exact ⟨s,rfl,Ho (T2 (Mo [] l) g z) m⟩
 refine WC.skip<|Sr<|Vm<|Va (I p)<|AA<|AT ?_
 obtain rfl:=AP a
 refine Ax (B:=B) n (BG rfl (.tmp rfl) ?_)
 exact ⟨s,rfl,Ho (T2 (Mo [] l) g z) m⟩
 refine WC.skip<|⟨_,s,Pu,a,(Mo [22] z)⟩
 rintro _ ap ⟨o,af,rfl,a,b9⟩
 rw [IZ] at a
 refine Sr<|Va (I 1)<|AA<|AT ?_
 obtain rfl:=AP a
 refine Ax (B:=B) n (BG rfl (.tmp rfl) ?_)
 exact ⟨af,rfl,Ho (T2 (Mo [22] l) g b9) m⟩
theorem RD(c:Nat):GN.Spec (GN c):=by
 intro a d n o p q r s u e f g
 refine Calls.mono (QL c (recol (see []) a) d (Az lbr a) e (Au BN f []) (Au AJ g [])) ?_
 rintro w y ⟨h,l,m⟩
 exact ⟨glue [] d a h,l,Ad m Ay⟩
def ref07_wrong.At(c:Col)(a:World)(f:AM→(List AH)→AE→Int→Option (List Int)):Prop:=
 ∀{d:AM} {e:List Value} {g:(List AH)} {h:Value} {l:AE} {m:List Value} {n:Int} {o:(List Int)},f d g l n=some o→BN.rep c.F a e d→Slc AY c.F a h g→AJ.rep c.F a m l→
  Calls Tryz.prog 41 #[.agg e.toArray,h,.agg m.toArray,I n] a fun s p=>∃(q:Col) (r:Value),s=.returned r∧AQ [] c a q p∧Slc (Kd.int .i64) q.F p r o
def ref07_wrong.Spec(f:AM→(List AH)→AE→Int→Option (List Int)):Prop:=
 ∀(a:Col) (c:World),ref07_wrong.At a c f
structure BH.Good(a:BH):Prop where
 ref07_wrong:ref07_wrong.Spec a.ref07_wrong
theorem RE(q:BH)(n:Nat)(b9:BH.Good q)(a0:Col)(ca:World)(cb:∀b,a0 b<10):ref07_wrong.At a0 ca (Jl q n):=by
 intro e dw m dx a dy l aq c cc bc cd
 rw [Jl] at c
 obtain ⟨dz,rfl,bd⟩:=BK cc
 obtain ⟨ac,ad,rfl⟩:=AG bd
 obtain ⟨ae,af,rfl⟩:=AG bc
 obtain ⟨d0,rfl,be⟩:=Am cd
 obtain ⟨ag,ah,rfl⟩:=AG be
 refine A0 Tryz.func41 rfl Tryz.ntmps41 rfl fun B cf g=>Sr<|Ef (Bf a0 20 rfl rfl fun cg d1 a1 ch ar=>?_)
 refine Ef (Bf cg 21 rfl rfl fun ci cj a2 a3 al=>?_)
 refine Va (.slice none 0 0)<|AA<|Sr<|Va (.slice none 0 0)<|AA<|Sr<|have bf:=Bs ch al;Vx (Run.loadN Gw rfl rfl (Bk.part bf 0 [Sl ac e.funcs ad] rfl))<|Vm<|Vx (Run.loadN BF rfl rfl (Bk.part a3 0 [I a.op,Sb a.name,Sb a.tail,I a.type_,Cx a.num,Sl ag a.args ah,I a.at_] rfl))<|have bg:=K2 AL bd ar al;have bh:=K2 AY bc ar al;have bi:=K2 AJ be ar al;Bi c fun au ck c=>Ca (AAe [.agg [Sl ac e.funcs ad].toArray,Sl ae m af,.agg [I a.op,Sb a.name,Sb a.tail,I a.type_,Cx a.num,Sl ag a.args ah,I a.at_].toArray] rfl) (UY n ci cj ck (BS (x:=e) bg) bh (Ae (x:=a) bi)) ?_
 rintro _ bj ⟨av,rfl,y⟩
 refine ⟨_,rfl,?_⟩
 refine Va (I au)<|AA<|Ao (fun am aw=>∃(r:Env) (an:Col) (ai:(List Int)) (ax:Option Addr) (ay:Nat),am=r.puts [(1,.slice ae m.length af),(3,.int .i64 l),(4,.pointer (some ⟨a1,0,none⟩)),(6,.pointer (some ⟨a2,0,none⟩)),(9,.slice ax ai.length ay)]∧JD q n e m a l ai=some aq∧AQ [23] av bj an aw∧Own (Kd.int .i64) 3 an aw 23 (Sl ax ai ay) ai) ?_ ?_
 refine Ao (fun am bk=>∃(r:Env) (az:Col) (a4:Bool),am=r.puts [(1,.slice ae m.length af),(3,.int .i64 l),(4,.pointer (some ⟨a1,0,none⟩)),(6,.pointer (some ⟨a2,0,none⟩)),(9,.slice none 0 0),(23,.bool a4)]∧J6 q n e m a l a4=some aq∧AQ [] av bj az bk) ?_ ?_
 refine AO<|Vm<|Vr (.bool (au != 0))<|Vm<|Bo c (fun p c=>?_) fun p c=>?_
 refine Gm p<|Gm p<|Gr p (.bool (au != l))<|Vp p<|AA<|⟨_,av,(au != l),Pu,c,(AQ.refl [] _ _)⟩
 refine Pg p<|Pg p<|Pg p<|Vp p<|AA<|⟨_,av,false,Pu,c,(AQ.refl [] _ _)⟩
 rintro _ bk ⟨r,az,a4,rfl,c,a5⟩
 rw [J6] at c
 refine Cn c (fun cl c=>?_) fun cl c=>?_
 refine AO<|Vm<|Vx (Run.fieldAddr Li rfl)<|have cm:=Y2 a3 y a5;Vx (Run.load1 B5 rfl (Bk.cell cm rfl))<|Ef (DC (cs:=[I a.at_]) az 22 [[I a.at_]] RM ABn rfl rfl (.cons rfl rfl rfl .nil) rfl fun bl bm cn co cq=>?_)
 refine have cr:Own (Kd.int .i64) 3 bl bm 22 (.slice (some ⟨cn,0,none⟩) 1 1) ([a.at_]:List Int):=Own.lit (css:=[[I a.at_]]) co rfl rfl rfl (AW rfl BE) (A2 rfl ED) rfl;Bi c fun d2 bn c=>Ef (Bx (κ:=(Kd.int .i64)) rfl rfl (Own.nil:Own (Kd.int .i64) 3 bl bm 23 _ _) dcd WW (Cj cr) (FW bn) (Fk bn) fun d3 ct d4 bo cu=>?_)
 obtain ⟨bp,bq,rfl⟩:=Own.len bo
 refine Va (Sl bp ((([]:List Int)++([a.at_]:List Int))) bq)<|AA<|⟨_,ct,(([]:List Int)++([a.at_]:List Int)),bp,bq,Pu,c,(T2 (Mo [23] a5) cq cu),bo⟩
 refine WC.skip<|⟨_,az,([]:List Int),none,0,Pu,c,(Mo [23] a5),Own.nil⟩
 rintro _ aw ⟨r,an,ai,ax,ay,rfl,c,aj,cv⟩
 rw [JD] at c
 refine AZ<|Sr<|Va (I 0)<|AA<|Aj<|Bt (fun u am a6=>∃(r:Env) (ak:Col) (o:(List Int)) (ao:Option Addr) (ap:Nat) (h:Int),am=r.puts [(1,.slice ae m.length af),(3,.int .i64 l),(4,.pointer (some ⟨a1,0,none⟩)),(6,.pointer (some ⟨a2,0,none⟩)),(9,.slice ao o.length ap),(11,.int .i64 h)]∧HR q n e m a l u o h=some aq∧AQ [23] an aw ak a6∧Own (Kd.int .i64) 3 ak a6 23 (Sl ao o ap) o) n ?_ ?_
 exact ⟨_,an,ai,ax,ay,0,Pu,c,(AQ.refl [23] _ _),cv⟩
 rintro u _ a6 ⟨r,ak,o,ao,ap,h,rfl,c,z,br⟩
 rcases u with _|u
 exact BC c
 refine have c:Hg q n e m a l (HR q n e m a l u) o h=some aq:=c; ?_
 obtain ⟨d5,bt⟩:∃s,s=HR q n e m a l u:=⟨_,rfl⟩
 rw [←bt,Hg] at c
 refine AZ<|Sr<|Vm<|Vx (Run.fieldAddr Bq rfl)<|have bu:=Y3 a3 y aj z;Vx (Run.load1 EB rfl (Bk.cell bu rfl))<|have bv:=K3 AJ bi y aj z; ?_
 obtain ⟨d6,d7,cw⟩:=AG bv
 refine Vx (v:=I (a.args.length:Int)) (Run.lenSlc DT cw)<|Vr (.bool (decide (h< (a.args.length:Int))))<|AA<|Cn c (fun cx c=>?_) fun cx c=>?_
 refine WC.skip<|AZ<|Aj<|AZ<|CJ FL (.q 0 (.q 1 (.q 2 (.q 3 (.q 5 (.q 6 (.q 7 (.q 8 (.q 9 (.q 10 (.q 11 (.q 12 (.q 13 (.one 4 (.one 14 (.one 15 (.q 16 .nil))))))))))))))))) [] [] ak (by kernel_rfl) fun bw aa=>have bx:=Y4 bf y aj z aa;Qx g rfl (fun _ ⟨_,d⟩=>Run.loadN Gw rfl rfl (Bk.part (Bs bx d) 0 [Sl ac e.funcs ad] rfl))<|Qx g rfl (v:=Sl ae m af) (fun _ ⟨_,d⟩=>Run.move rfl)<|have a7:=Bs bu aa;Qx g rfl (fun _ ⟨_,d⟩=>Run.loadN BF rfl rfl (Bk.part (Bs a7 d) 0 [I a.op,Sb a.name,Sb a.tail,I a.type_,Cx a.num,Sl ag a.args ah,I a.at_] rfl))<|Qx g rfl (v:=I h) (fun _ ⟨_,d⟩=>Run.move rfl)<|Qx g rfl (fun _ ⟨_,d⟩=>Run.fieldAddr Bq rfl)<|Qx g rfl (fun _ ⟨_,d⟩=>Run.load1 EB rfl (Bk.cell (Bs a7 d) rfl))<|Qx g rfl (v:=I h) (fun _ ⟨_,d⟩=>Run.move rfl)<|Bi c fun f cy c=>have a8:=Ss AJ bv aa; ?_
 obtain ⟨cz,c0,d8,c1,c2,c3,c4,c5,a9⟩:=BL (κ:=AJ) a8 cy
 replace a9:A8 ak bw cz (c0+h.toNat*7) c1:=a9
 obtain ⟨d9,rfl,bz⟩:=Am c5
 obtain ⟨b0,b1,rfl⟩:=AG bz
 refine Qx g rfl (fun _ ⟨_,d⟩=>Run.indexAddr DT c2 rfl c3 c4)<|Qx g rfl (fun _ ⟨_,d⟩=>Run.loadN BF rfl rfl (A8.part0 (Es a9 d) [I f.op,Sb f.name,Sb f.tail,I f.type_,Cx f.num,Sl b0 f.args b1,I f.at_] rfl))<|Qx g rfl (fun _ ⟨_,d⟩=>Run.loadN Gw rfl rfl (Bk.part (Bs bx d) 0 [Sl ac e.funcs ad] rfl))<|Qx g rfl (fun _ ⟨_,d⟩=>Run.loadN BF rfl rfl (Bk.part (Bs a7 d) 0 [I a.op,Sb a.name,Sb a.tail,I a.type_,Cx a.num,Sl ag a.args ah,I a.at_] rfl))<|Qx g rfl (v:=I h) (fun _ ⟨_,d⟩=>Run.move rfl)<|Qx g rfl (v:=I l) (fun _ ⟨_,d⟩=>Run.move rfl)<|BX rfl<|have c6:=K4 AY bh y aj z aa;Bi c fun c7 c8 c=>BR rfl (.none rfl) rfl rfl (AAf [Sl ae m af,.agg [I a.op,Sb a.name,Sb a.tail,I a.type_,Cx a.num,Sl ag a.args ah,I a.at_].toArray,I h] rfl)<|Calls.mono (RC ak bw c8 c6 (Ae (x:=a) a8)) ?_
 rintro _ c9 ⟨da,ea,rfl,w,b2⟩
 obtain ⟨db,dc,rfl⟩:=AG b2
 refine ⟨_,rfl,⟨_,(Mo [] w)⟩,?_⟩
 refine BX rfl<|have b3:=Ss AL (K4 AL bg y aj z aa) w;have de:=Ss AJ a8 w;Bi c fun df dg c=>BR rfl (.none rfl) rfl rfl (AAg [.agg [Sl ac e.funcs ad].toArray,.agg [I a.op,Sb a.name,Sb a.tail,I a.type_,Cx a.num,Sl ag a.args ah,I a.at_].toArray,I h,I l] rfl)<|Calls.mono (RD n da c9 dg (BS (x:=e) b3) (Ae (x:=a) de)) ?_
 rintro _ dh ⟨di,rfl,ab⟩
 refine ⟨_,rfl,⟨_,(Tn (Mo [] w) ab)⟩,?_⟩
 refine BX rfl<|have dj:=Ss AL b3 ab;have dk:=Ss AY b2 ab;have dl:=K2 AJ bz w ab;Bi c fun ba dm c=>BR rfl (.none rfl) rfl rfl (Xf [.agg [Sl ac e.funcs ad].toArray,Sl db c7 dc,.agg [I f.op,Sb f.name,Sb f.tail,I f.type_,Cx f.num,Sl b0 f.args b1,I f.at_].toArray,I df] rfl)<|Calls.mono (b9.ref07_wrong di dh dm (BS (x:=e) dj) dk (Ae (x:=f) dl)) ?_
 rintro _ eb ⟨ec,ed,rfl,bb,b4⟩
 obtain ⟨dn,dp,rfl⟩:=AG b4
 refine ⟨_,rfl,⟨_,(T2 (Mo [] w) ab bb)⟩,?_⟩
 refine Qx g rfl (v:=Sl dn ba dp) (fun _ ⟨_,d⟩=>Run.assign rfl)<|Dy<|AO<|Vm<|Vm<|have dq:=Os (Os (Os (Os br aa) w) ab) bb;Bi c fun ee b5 c=>Ef (Bx (κ:=(Kd.int .i64)) rfl rfl dq dcd WW (Hl b4) (FW b5) (Fk b5) fun ef dr eg b6 ds=>?_)
 obtain ⟨b7,b8,rfl⟩:=Own.len b6
 refine Va (Sl b7 ((o++ba)) b8)<|AA<|AO<|Vm<|Vr (I (Wr (h+1)))<|Va (I (Wr (h+1)))<|AA<|⟨u,Nat.lt_succ_self u,_,dr,(o++ba),b7,b8,(Wr (h+1)),Pu,(bt▸c),(Tn (T4 (Mo [23] z) aa w ab bb) ds),b6⟩
 refine Bc<|Sr<|Vm<|Va (Sl ao o ap)<|AA<|AT ?_
 obtain ⟨dt,du,dv⟩:=Own.freeze (S:=[23]) br dcd dcd
 obtain rfl:=AP c
 refine Ax (B:=B) cf (BG rfl (.tmp rfl) ?_)
 exact ⟨dt,Sl ao o ap,rfl,Ho (Tn (T4 (Mo [23] ar) al y aj z) du) cb,dv⟩
theorem RF(a:BH)(d:Nat)(f:BH.Good a):ref07_wrong.Spec (Jl a d):=by
 intro c e s u w y z aa ab ac g h l m
 refine Calls.mono (RE a d f (recol (see []) c) e (Az lbr c) g (Au BN h []) (By AY l []) (Au AJ m [])) ?_
 rintro ad ae ⟨n,o,p,q,r⟩
 exact ⟨glue [] e c n,o,p,Ad q Ay,DV (Kd.int .i64) r⟩
theorem BH.good:∀a,BH.Good (BH.at a)
 |0=>⟨by intro c d;intros;(try intro _);intros;exact BC (by assumption)⟩
 |n+1=>⟨RF _ n (BH.good n)⟩
theorem SY(a:Nat):ref07_wrong.Spec (ref07_wrong a):=(BH.good a).ref07_wrong
def Em.At(c:Col)(a:World)(f:AM→Option AD):Prop:=
 ∀{d:AM} {e:List Value} {g:AD},f d=some g→BN.rep c.F a e d→
  Calls Tryz.prog 18 #[.agg e.toArray] a fun n h=>∃(l:Col) (m:List Value),n=.returned (.agg m.toArray)∧AQ [] c a l h∧Ag.rep l.F h m g
def Em.Spec(f:AM→Option AD):Prop:=
 ∀(a:Col) (c:World),Em.At a c f
theorem RG(u:Nat)(a6:Col)(cf:World)(bn:∀b,a6 b<10):Em.At a6 cf (Em u):=by
 intro m d1 af a cg
 rw [Em] at a
 obtain ⟨d2,rfl,bo⟩:=BK cg
 obtain ⟨ar,au,rfl⟩:=AG bo
 refine A0 Tryz.func18 rfl Tryz.ntmps18 rfl fun B bp d=>Sr<|Ef (Bf a6 20 rfl rfl fun ch d3 av ci a7=>?_)
 refine Ef (Aa ch 21 Ep rfl fun cj ck aw bq ax=>?_)
 refine AA<|Sr<|have br:=Bs ci ax;Vx (Run.loadN Gw rfl rfl (Bk.part br 0 [Sl ar m.funcs au] rfl))<|have bt:=K2 AL bo a7 ax;Bi a fun q cl a=>Ca (AAU [.agg [Sl ar m.funcs au].toArray] rfl) (SV u cj ck cl (BS (x:=m) bt)) ?_
 rintro _ d4 ⟨cm,d5,rfl,ag,cn⟩
 obtain rfl:=As cn
 refine ⟨_,rfl,?_⟩
 refine Ef (Aa cm 22 Ep rfl fun a8 d6 aa co ah=>?_)
 refine Eu (St Gb co rfl rfl rfl rfl fun cq a9 ai=>?_)
 refine AA<|AZ<|Sr<|Vx (Run.fieldAddr0 MA rfl)<|Vx (Run.load1 Md rfl (Bk.cell a9 rfl))<|Vr (.bool (q.why != 0))<|AA<|Cn a (fun cr a=>?_) fun cr a=>?_
 refine Sr<|Vx (Run.loadN J7 rfl rfl (Bk.part a9 0 [I q.why,I q.at_] rfl))<|have ct:=Y3 bq ag ah ai;Eu (St Gb ct rfl rfl rfl rfl fun d7 cu cv=>?_)
 refine AA<|AT ?_
 obtain rfl:=AP a
 refine Ax (B:=B) bp (BG rfl (.agg J7 rfl rfl (Bk.part cu 0 [I q.why,I q.at_] rfl)) ?_)
 exact ⟨a8,[I q.why,I q.at_],rfl,Ho (Tn (T4 (Mo [21,22] a7) ax ag ah ai) cv) bn,(Ah (x:=q))⟩
 refine WC.skip<|AZ<|Sr<|Va (I 0)<|AA<|Aj<|Bt (fun ab ad ba=>∃(o:Env) (ae:Col) (f:Int) (w:Int) (y:Int),ad=o.puts [(1,.pointer (some ⟨av,0,none⟩)),(2,.pointer (some ⟨aw,0,none⟩)),(3,.pointer (some ⟨aa,0,none⟩)),(4,.int .i64 f)]∧B4 u m ab f w y=some af∧AQ [22] a8 cq ae ba∧Bk ae ba 22 aa [I w,I y] 63) u ?_ ?_
 exact ⟨_,a8,0,q.why,q.at_,Pu,a,(AQ.refl [22] _ _),a9⟩
 rintro ab _ ba ⟨o,ae,f,w,y,rfl,a,aj,bu⟩
 rcases ab with _|ab
 exact BC a
 refine have a:Hh u m (B4 u m ab) f w y=some af:=a; ?_
 obtain ⟨ay,bv⟩:∃s,s=B4 u m ab:=⟨_,rfl⟩
 rw [←bv,Hh] at a
 refine AZ<|Sr<|Vm<|Vx (Run.fieldAddr0 D5 rfl)<|have bw:=Y4 br ag ah ai aj;Vx (Run.load1 GQ rfl (Bk.cell bw rfl))<|have bx:=K4 AL bt ag ah ai aj; ?_
 obtain ⟨d8,d9,cw⟩:=AG bx
 refine Vx (v:=I (m.funcs.length:Int)) (Run.lenSlc Fp cw)<|Vr (.bool (decide (f< (m.funcs.length:Int))))<|AA<|Cn a (fun cx a=>?_) fun cx a=>?_
 refine WC.skip<|AZ<|Aj<|AZ<|CJ FL (.q 0 (.q 1 (.q 2 (.q 3 (.q 4 (.q 5 (.q 6 (.q 7 (.q 8 (.q 9 (.q 10 (.q 11 (.q 12 (.q 13 (.q 14 (.q 15 (.q 16 (.q 17 (.q 18 (.one 19 (.q 20 .nil))))))))))))))))))))) [] [] ae (by kernel_rfl) fun bz az=>have a0:=Bs bw az;Qx d rfl (fun _ ⟨_,c⟩=>Run.loadN Gw rfl rfl (Bk.part (Bs a0 c) 0 [Sl ar m.funcs au] rfl))<|Qx d rfl (fun _ ⟨_,c⟩=>Run.fieldAddr0 D5 rfl)<|Qx d rfl (fun _ ⟨_,c⟩=>Run.load1 GQ rfl (Bk.cell (Bs a0 c) rfl))<|Qx d rfl (v:=I f) (fun _ ⟨_,c⟩=>Run.move rfl)<|Bi a fun e cy a=>have b0:=Ss AL bx az; ?_
 obtain ⟨cz,c0,ea,c1,bb,bc,bd,c2,ak⟩:=BL (κ:=AL) b0 cy
 replace ak:A8 ae bz cz (c0+f.toNat*11) c1:=ak
 obtain ⟨eb,ec,rfl,b1,b2⟩:=Cw c2
 obtain ⟨c3,c4,rfl⟩:=AG b1
 obtain ⟨b3,b4,rfl⟩:=AG b2
 refine Qx d rfl (fun _ ⟨_,c⟩=>Run.indexAddr Fp bb rfl bc bd)<|Qx d rfl (fun _ ⟨_,c⟩=>Run.fieldAddr EX rfl)<|Qx d rfl (fun _ ⟨_,c⟩=>Run.load1 Eo rfl (A8.cell (k:=1) (Es ak c) rfl))<|Qx d rfl (fun _ ⟨_,c⟩=>Run.fieldAddr0 D5 rfl)<|Qx d rfl (fun _ ⟨_,c⟩=>Run.load1 GQ rfl (Bk.cell (Bs a0 c) rfl))<|Qx d rfl (v:=I f) (fun _ ⟨_,c⟩=>Run.move rfl)<|Qx d rfl (fun _ ⟨_,c⟩=>Run.indexAddr Fp bb rfl bc bd)<|Qx d rfl (fun _ ⟨_,c⟩=>Run.fieldAddr L9 rfl)<|Qx d rfl (fun _ ⟨_,c⟩=>Run.loadN BF rfl rfl (Kd.At.part (A8.at_ (Es ak c)) 3 [I e.body.op,Sb e.body.name,Sb e.body.tail,I e.body.type_,Cx e.body.num,Sl b3 e.body.args b4,I e.body.at_] rfl))<|Qx d rfl (fun _ ⟨_,c⟩=>Run.fieldAddr0 D5 rfl)<|Qx d rfl (fun _ ⟨_,c⟩=>Run.load1 GQ rfl (Bk.cell (Bs a0 c) rfl))<|Qx d rfl (v:=I f) (fun _ ⟨_,c⟩=>Run.move rfl)<|Qx d rfl (fun _ ⟨_,c⟩=>Run.indexAddr Fp bb rfl bc bd)<|Qx d rfl (fun _ ⟨_,c⟩=>Run.fieldAddr M4 rfl)<|Qx d rfl (fun _ ⟨_,c⟩=>Run.load1 EA rfl (A8.cell (k:=2) (Es ak c) rfl))<|BX rfl<|Bi a fun n c5 a=>BR rfl (.none rfl) rfl rfl (Xf [.agg [Sl ar m.funcs au].toArray,Sl c3 e.params c4,.agg [I e.body.op,Sb e.body.name,Sb e.body.tail,I e.body.type_,Cx e.body.num,Sl b3 e.body.args b4,I e.body.at_].toArray,I e.type_] rfl)<|Calls.mono (SY u ae bz c5 (BS (x:=m) b0) b1 (Ae (x:=(AE.mk e.body.op e.body.name e.body.tail e.body.type_ e.body.num e.body.args e.body.at_)) b2)) ?_
 rintro _ c6 ⟨b5,ed,rfl,be,b6⟩
 obtain ⟨al,am,rfl⟩:=AG b6
 refine ⟨_,rfl,⟨_,(Mo [] be)⟩,?_⟩
 refine Qx d rfl (v:=Sl al n am) (fun _ ⟨_,c⟩=>Run.assign rfl)<|Dy<|Sr<|Va (I 0)<|AA<|Aj<|Bt (fun ac ad an=>∃(o:Env) (r:Col) (l:Int) (z:Int) (p:Int),ad=o.puts [(1,.pointer (some ⟨av,0,none⟩)),(2,.pointer (some ⟨aw,0,none⟩)),(3,.pointer (some ⟨aa,0,none⟩)),(4,.int .i64 f),(5,.slice al n.length am),(6,.int .i64 l)]∧El f ay n ac l z p=some af∧AQ [22] b5 c6 r an∧Bk r an 22 aa [I z,I p] 63) u ?_ ?_
 refine have c7:=Y2 bu az be;⟨_,b5,0,w,y,Pu,a,(AQ.refl [22] _ _),c7⟩
 rintro ac _ an ⟨o,r,l,z,p,rfl,a,bf,a1⟩
 rcases ac with _|ac
 exact BC a
 refine have a:EM f ay n (El f ay n ac) l z p=some af:=a; ?_
 obtain ⟨b7,b8⟩:∃s,s=El f ay n ac:=⟨_,rfl⟩
 rw [←b8,EM] at a
 refine AZ<|Sr<|Vm<|Vm<|have bg:=Ss (Kd.int .i64) b6 bf; ?_
 obtain ⟨ee,ef,c8⟩:=AG bg
 refine Vx (v:=I (n.length:Int)) (Run.lenSlc RM c8)<|Vr (.bool (decide (l< (n.length:Int))))<|AA<|Cn a (fun c9 a=>?_) fun c9 a=>?_
 refine WC.skip<|Ao (fun ad bh=>∃(o:Env) (a2:Col) (a3:Int) (a4:Int),ad=o.puts [(1,.pointer (some ⟨av,0,none⟩)),(2,.pointer (some ⟨aw,0,none⟩)),(3,.pointer (some ⟨aa,0,none⟩)),(4,.int .i64 f),(5,.slice al n.length am),(6,.int .i64 l)]∧IJ l b7 a3 a4=some af∧AQ [22] r an a2 bh∧Bk a2 bh 22 aa [I a3,I a4] 63) ?_ ?_
 refine Aj<|Ao (fun ad bi=>∃(o:Env) (ao:Col) (bj:Bool),ad=o.puts [(1,.pointer (some ⟨av,0,none⟩)),(2,.pointer (some ⟨aw,0,none⟩)),(3,.pointer (some ⟨aa,0,none⟩)),(4,.int .i64 f),(5,.slice al n.length am),(6,.int .i64 l),(57,.bool bj)]∧IK n l z p b7 bj=some af∧AQ [] r an ao bi) ?_ ?_
 refine CJ FL (.q 0 (.q 1 (.q 2 (.q 3 (.q 4 (.q 5 (.q 6 (.q 7 (.q 8 (.q 9 (.q 10 (.q 11 .nil)))))))))))) [] [] r (by kernel_rfl) fun da a5=>Qx d rfl (fun _ ⟨_,c⟩=>Run.fieldAddr0 MA rfl)<|have b9:=Bs a1 a5;Qx d rfl (fun _ ⟨_,c⟩=>Run.load1 Md rfl (Bk.cell (Bs b9 c) rfl))<|Qx d rfl (v:=.bool (z==0)) (fun _ ⟨_,c⟩=>rfl)<|Qx d rfl (v:=.bool (z==0)) (fun _ ⟨_,c⟩=>Run.move rfl)<|Bo a (fun g a=>?_) fun g a=>?_
 refine Qp d rfl g<|Qp d rfl g<|Qp d rfl g<|Qp d rfl g<|Qp d rfl g<|Qp d rfl g<|Qp d rfl g<|Qx d rfl (v:=.bool true) (fun _ ⟨_,c⟩=>(Pk g))<|Dy<|⟨_,r,true,Pu,a,(Mo [] a5)⟩
 refine A4 (fun _ _ _ _ h=>d _ _ _ _ h) rfl rfl (.guard (t:=false) (b:=false) rfl rfl rfl rfl (Cb g)) rfl rfl (v:=Sl al n am) (fun _ ⟨_,c⟩=>Run.move rfl)<|A4 (fun _ _ _ _ h=>d _ _ _ _ h) rfl rfl (.guard (t:=false) (b:=false) rfl rfl rfl rfl (Cb g)) rfl rfl (v:=I l) (fun _ ⟨_,c⟩=>Run.move rfl)<|Bi a fun ap db a=>have dc:=Ss (Kd.int .i64) bg a5; ?_
 obtain ⟨ca,cb,eg,cc,de,df,dg,dh,bk⟩:=BL (κ:=(Kd.int .i64)) dc db
 replace bk:A8 r da ca (cb+l.toNat*1) cc:=bk
 obtain rfl:=(show cc=[I ap] from dh)
 refine A4 (fun _ _ _ _ h=>d _ _ _ _ h) rfl rfl (.guard (t:=false) (b:=false) rfl rfl rfl rfl (Cb g)) rfl rfl (v:=.pointer (some ⟨ca,cb+l.toNat*1,none⟩)) (fun _ ⟨_,c⟩=>Run.indexAddr RM de rfl df dg)<|A4 (fun _ _ _ _ h=>d _ _ _ _ h) rfl rfl (.guard (t:=false) (b:=false) rfl rfl rfl rfl (Cb g)) rfl rfl (v:=I ap) (fun _ ⟨_,c⟩=>Run.load1 B5 rfl (A8.cell0 (Es bk c) rfl))<|A4 (fun _ _ _ _ h=>d _ _ _ _ h) rfl rfl (.guard (t:=false) (b:=false) rfl rfl rfl rfl (Cb g)) rfl rfl (v:=Pt aa 1) (fun _ ⟨_,c⟩=>Run.fieldAddr N9 rfl)<|A4 (fun _ _ _ _ h=>d _ _ _ _ h) rfl rfl (.guard (t:=false) (b:=false) rfl rfl rfl rfl (Cb g)) rfl rfl (v:=I p) (fun _ ⟨_,c⟩=>Run.load1 B5 rfl (Bk.cell (Bs b9 c) rfl))<|A4 (fun _ _ _ _ h=>d _ _ _ _ h) rfl rfl (.guard (t:=false) (b:=false) rfl rfl rfl rfl (Cb g)) rfl rfl (v:=.bool (decide (ap<p))) (fun _ ⟨_,c⟩=>rfl)<|Qx d rfl (v:=.bool (decide (ap<p))) (fun _ ⟨_,c⟩=>(Pk g))<|Dy<|⟨_,r,(decide (ap<p)),Pu,a,(Mo [] a5)⟩
 rintro _ bi ⟨o,ao,bj,rfl,a,aq⟩
 rw [IK] at a
 refine Cn a (fun di a=>?_) fun di a=>?_
 refine AO<|Vm<|Vm<|Bi a fun bl dj a=>have dk:=Ss (Kd.int .i64) bg aq; ?_
 obtain ⟨dl,dm,eh,cd,dn,dp,dq,dr,bm⟩:=BL (κ:=(Kd.int .i64)) dk dj
 replace bm:A8 ao bi dl (dm+l.toNat*1) cd:=bm
 obtain rfl:=(show cd=[I bl] from dr)
 refine Vx (Run.indexAddr RM dn rfl dp dq)<|Vx (Run.load1 B5 rfl (A8.cell0 bm rfl))<|Vx (v:=.agg [I 34,I bl].toArray) (Bp Ep Lq rfl (.cons rfl rfl rfl (.cons rfl rfl rfl .nil)))<|have ds:=Bs a1 aq;Eu (St Gb ds rfl rfl rfl rfl fun ei dt du=>?_)
 refine AA<|⟨_,ao,34,bl,Pu,a,(Tn (Mo [22] aq) du),dt⟩
 refine WC.skip<|have dv:=Bs a1 aq;⟨_,ao,z,p,Pu,a,(Mo [22] aq),dv⟩
 rintro _ bh ⟨o,a2,a3,a4,rfl,a,dw,dx⟩
 rw [IJ] at a
 refine AO<|Vm<|Vr (I (Wr (l+1)))<|Va (I (Wr (l+1)))<|AA<|⟨ac,Nat.lt_succ_self ac,_,a2,(Wr (l+1)),a3,a4,Pu,(b8▸a),(Tn (Mo [22] bf) dw),dx⟩
 refine Bc<|AO<|Vm<|Vr (I (Wr (f+1)))<|Va (I (Wr (f+1)))<|AA<|⟨ab,Nat.lt_succ_self ab,_,r,(Wr (f+1)),z,p,Pu,(bv▸a),(T3 (Mo [22] aj) az be bf),a1⟩
 refine Bc<|Sr<|Vx (Run.loadN J7 rfl rfl (Bk.part bu 0 [I w,I y] rfl))<|have dy:=Y4 bq ag ah ai aj;Eu (St Gb dy rfl rfl rfl rfl fun ej dz d0=>?_)
 refine AA<|AT ?_
 obtain rfl:=AP a
 refine Ax (B:=B) bp (BG rfl (.agg J7 rfl rfl (Bk.part dz 0 [I w,I y] rfl)) ?_)
 exact ⟨ae,[I w,I y],rfl,Ho (T2 (T4 (Mo [21,22] a7) ax ag ah ai) aj d0) bn,(Ah (x:=(AD.mk w y)))⟩
theorem SZ(c:Nat):Em.Spec (Em c):=by
 intro a d o p q e f
 refine Calls.mono (RG c (recol (see []) a) d (Az lbr a) e (Au BN f [])) ?_
 rintro r s ⟨g,h,l,m,n⟩
 exact ⟨glue [] d a g,h,l,Ad m Ay,BB Ag n⟩
def En.At(c:Col)(a:World)(f:AK→(List AI)→Option Bool):Prop:=
 ∀{d:AK} {e:List Value} {g:(List AI)} {h:Value} {l:Bool},f d g=some l→AL.rep c.F a e d→Slc A1 c.F a h g→
  Calls Tryz.prog 19 #[.agg e.toArray,h] a fun m n=>∃(o:Col),m=.returned (.bool l)∧AQ [] c a o n
def En.Spec(f:AK→(List AI)→Option Bool):Prop:=
 ∀(a:Col) (c:World),En.At a c f
theorem Sa(o:Nat)(ac:Col)(a9:World)(ad:∀b,ac b<10):En.At ac a9 (En o):=by
 intro p b2 l b3 ae a ba ap
 rw [En] at a
 obtain ⟨b4,b5,rfl,aq,bb⟩:=Cw ba
 obtain ⟨b6,b7,rfl⟩:=AG aq
 obtain ⟨b8,b9,rfl⟩:=AG bb
 obtain ⟨y,z,rfl⟩:=AG ap
 refine A0 Tryz.func19 rfl Tryz.ntmps19 rfl fun B af c=>Sr<|Ef (Bf ac 20 rfl rfl fun ag bc ar au r=>?_)
 refine Va (.bool false)<|AA<|AZ<|Sr<|Vm<|have av:=Ss A1 ap r; ?_
 obtain ⟨ca,cb,bd⟩:=AG av
 refine Vx (v:=I (l.length:Int)) (Run.lenSlc Kk bd)<|Vx (Run.fieldAddr EX rfl)<|Vx (Run.load1 Eo rfl (Bk.cell au rfl))<|have aw:=Ss AY aq r; ?_
 obtain ⟨cc,cd,be⟩:=AG aw
 refine Vx (v:=I (p.params.length:Int)) (Run.lenSlc D3 be)<|Vr (.bool ((l.length:Int) != (p.params.length:Int)))<|AA<|Cn a (fun bf a=>?_) fun bf a=>?_
 refine Sr<|Va (.bool false)<|AA<|AT ?_
 obtain rfl:=AP a
 refine Ax (B:=B) af (BG rfl (.tmp rfl) ?_)
 exact ⟨ag,rfl,Ho (Mo [] r) ad⟩
 refine WC.skip<|AZ<|Sr<|Va (I 0)<|AA<|Aj<|Bt (fun n ah ai=>∃(u:Env) (m:Col) (e:Int),ah=u.puts [(1,.slice y l.length z),(2,.pointer (some ⟨ar,0,none⟩)),(5,.int .i64 e)]∧H0 o p l n e=some ae∧AQ [] ag bc m ai) o ?_ ?_
 exact ⟨_,ag,0,Pu,a,(AQ.refl [] _ _)⟩
 rintro n _ ai ⟨u,m,e,rfl,a,q⟩
 rcases n with _|n
 exact BC a
 refine have a:IL o p l (H0 o p l n) e=some ae:=a; ?_
 obtain ⟨bg,ax⟩:∃s,s=H0 o p l n:=⟨_,rfl⟩
 rw [←ax,IL] at a
 refine AZ<|Sr<|Vm<|Vm<|have ay:=Ss A1 av q; ?_
 obtain ⟨cf,cg,bh⟩:=AG ay
 refine Vx (v:=I (l.length:Int)) (Run.lenSlc Kk bh)<|Vr (.bool (decide (e< (l.length:Int))))<|AA<|Cn a (fun bi a=>?_) fun bi a=>?_
 refine WC.skip<|AZ<|Aj<|Ao (fun ah az=>∃(u:Env) (aa:Col) (aj:Bool),ah=u.puts [(1,.slice y l.length z),(2,.pointer (some ⟨ar,0,none⟩)),(5,.int .i64 e),(37,.bool aj)]∧KX e bg aj=some ae∧AQ [] m ai aa az) ?_ ?_
 refine CJ FL (.q 0 (.q 1 (.q 2 (.q 3 (.q 4 (.q 5 (.q 6 (.q 7 (.q 8 (.q 9 (.q 10 (.q 11 (.q 12 (.q 13 (.q 14 (.q 15 (.q 16 (.one 17 (.q 18 (.q 19 .nil)))))))))))))))))))) [] [] m (by kernel_rfl) fun ak w=>Qx c rfl (v:=Sl y l z) (fun _ ⟨_,d⟩=>Run.move rfl)<|Qx c rfl (v:=I e) (fun _ ⟨_,d⟩=>Run.move rfl)<|Bi a fun f bj a=>have bk:=Ss A1 ay w; ?_
 obtain ⟨a0,a1,ch,bl,a2,a3,a4,bm,ab⟩:=BL (κ:=A1) bk bj
 replace ab:A8 m ak a0 (a1+e.toNat*4) bl:=ab
 obtain ⟨ci,rfl,a5⟩:=CU bm
 obtain ⟨al,am,rfl⟩:=AG a5
 refine Qx c rfl (fun _ ⟨_,d⟩=>Run.indexAddr Kk a2 rfl a3 a4)<|Qx c rfl (fun _ ⟨_,d⟩=>Run.fieldAddr0 JH rfl)<|Qx c rfl (fun _ ⟨_,d⟩=>Run.load1 EA rfl (A8.cell0 (Es ab d) rfl))<|Qx c rfl (fun _ ⟨_,d⟩=>Run.fieldAddr EX rfl)<|have bn:=Y2 au q w;Qx c rfl (fun _ ⟨_,d⟩=>Run.load1 Eo rfl (Bk.cell (Bs bn d) rfl))<|Qx c rfl (v:=I e) (fun _ ⟨_,d⟩=>Run.move rfl)<|Bi a fun a6 bo a=>have bp:=K2 AY aw q w; ?_
 obtain ⟨bq,br,cj,bt,bu,bv,bw,bx,an⟩:=BL (κ:=AY) bp bo
 replace an:A8 m ak bq (br+e.toNat*3) bt:=an
 obtain rfl:=Fg bx
 refine Qx c rfl (fun _ ⟨_,d⟩=>Run.indexAddr D3 bu rfl bv bw)<|Qx c rfl (fun _ ⟨_,d⟩=>Run.fieldAddr M5 rfl)<|Qx c rfl (fun _ ⟨_,d⟩=>Run.load1 EA rfl (A8.cell (k:=1) (Es an d) rfl))<|Qx c rfl (v:=.bool (f.type_ != a6.type_)) (fun _ ⟨_,d⟩=>rfl)<|Qx c rfl (v:=.bool (f.type_ != a6.type_)) (fun _ ⟨_,d⟩=>Run.move rfl)<|Bo a (fun g a=>?_) fun g a=>?_
 refine Qp c rfl g<|Qp c rfl g<|Qp c rfl g<|Qp c rfl g<|BX rfl<|Ob rfl (.guard (t:=true) (b:=false) rfl rfl rfl rfl (Cb g)) rfl rfl<|⟨⟨_,(AQ.refl [] _ _)⟩,?_⟩
 refine Qp c rfl g<|Qx c rfl (v:=.bool true) (fun _ ⟨_,d⟩=>(Pk g))<|Dy<|⟨_,m,true,Pu,a,(Mo [] w)⟩
 refine A4 (fun _ _ _ _ h=>c _ _ _ _ h) rfl rfl (.guard (t:=false) (b:=false) rfl rfl rfl rfl (Cb g)) rfl rfl (v:=Sl y l z) (fun _ ⟨_,d⟩=>Run.move rfl)<|A4 (fun _ _ _ _ h=>c _ _ _ _ h) rfl rfl (.guard (t:=false) (b:=false) rfl rfl rfl rfl (Cb g)) rfl rfl (v:=I e) (fun _ ⟨_,d⟩=>Run.move rfl)<|A4 (fun _ _ _ _ h=>c _ _ _ _ h) rfl rfl (.guard (t:=false) (b:=false) rfl rfl rfl rfl (Cb g)) rfl rfl (v:=.pointer (some ⟨a0,a1+e.toNat*4,none⟩)) (fun _ ⟨_,d⟩=>Run.indexAddr Kk a2 rfl a3 a4)<|A4 (fun _ _ _ _ h=>c _ _ _ _ h) rfl rfl (.guard (t:=false) (b:=false) rfl rfl rfl rfl (Cb g)) rfl rfl (v:=.agg [I f.type_,Cx f.num,.bool f.bool,Sl al f.list am].toArray) (fun _ ⟨_,d⟩=>Run.loadN D9 rfl rfl (A8.part0 (Es ab d) [I f.type_,Cx f.num,.bool f.bool,Sl al f.list am] rfl))<|BX rfl<|Bi a fun ao bz a=>BR rfl (.guard (t:=false) (b:=false) rfl rfl rfl rfl (Cb g)) rfl rfl (Vl [.agg [I f.type_,Cx f.num,.bool f.bool,Sl al f.list am].toArray] rfl)<|Calls.mono (MF o m ak bz (BP (x:=f) a5)) ?_
 rintro _ ck ⟨b0,rfl,a7⟩
 refine ⟨_,rfl,⟨_,(Mo [] a7)⟩,?_⟩
 refine A4 (fun _ _ _ _ h=>c _ _ _ _ h) rfl rfl (.guard (t:=false) (b:=false) rfl rfl rfl rfl (Cb g)) rfl rfl (v:=.bool (!ao)) (fun _ ⟨_,d⟩=>rfl)<|Qx c rfl (v:=.bool (!ao)) (fun _ ⟨_,d⟩=>(Pk g))<|Dy<|⟨_,b0,(!ao),Pu,a,(Tn (Mo [] w) a7)⟩
 rintro _ az ⟨u,aa,aj,rfl,a,a8⟩
 rw [KX] at a
 refine Cn a (fun b1 a=>?_) fun b1 a=>?_
 refine Sr<|Va (.bool false)<|AA<|AT ?_
 obtain rfl:=AP a
 refine Ax (B:=B) af (BG rfl (.tmp rfl) ?_)
 exact ⟨aa,rfl,Ho (T2 (Mo [] r) q a8) ad⟩
 refine WC.skip<|AO<|Vm<|Vr (I (Wr (e+1)))<|Va (I (Wr (e+1)))<|AA<|⟨n,Nat.lt_succ_self n,_,aa,(Wr (e+1)),Pu,(ax▸a),(Tn (Mo [] q) a8)⟩
 refine Bc<|Sr<|Va (.bool true)<|AA<|AT ?_
 obtain rfl:=AP a
 refine Ax (B:=B) af (BG rfl (.tmp rfl) ?_)
 exact ⟨m,rfl,Ho (Tn (Mo [] r) q) ad⟩
theorem TV(c:Nat):En.Spec (En c):=by
 intro a d n o p q r e f g
 refine Calls.mono (Sa c (recol (see []) a) d (Az lbr a) e (Au AL f []) (By A1 g [])) ?_
 rintro s u ⟨h,l,m⟩
 exact ⟨glue [] d a h,l,Ad m Ay⟩
end Fth
namespace Fth
open Go Go.Proofs Sh
set_option maxRecDepth 100000
set_option maxHeartbeats 8000000
def DE.At(c:Col)(a:World)(f:FK→Option Bool):Prop:=
 ∀{d:FK} {e:List Value} {g:Bool},f d=some g→LM.rep c.F a e d→
  Calls Tryz.prog 6 #[.agg e.toArray] a fun h l=>∃(m:Col),h=.returned (.bool g)∧AQ [] c a m l
def DE.Spec(f:FK→Option Bool):Prop:=
 ∀(a:Col) (c:World),DE.At a c f
theorem Oq(ae:Nat)(a0:Col)(cg:World)(af:∀b,a0 b<10):DE.At a0 cg (DE ae):=by
 intro ac d8 aq a ch
 rw [DE] at a
 obtain ⟨d9,rfl,bk⟩:=PP ch
 obtain ⟨bl,bm,rfl⟩:=AG bk
 refine A0 Tryz.func6 rfl Tryz.ntmps6 rfl fun B ag ea=>Sr<|Ef (Bf a0 20 rfl rfl fun ci cj ck cl ad=>?_)
 refine Va (.bool false)<|AA<|AZ<|Sr<|Bi a fun cm cn a=>Ca (AAN [] rfl) (SQ ae ci cj cn) ?_
 rintro _ co ⟨bn,rfl,q⟩
 refine ⟨_,rfl,?_⟩
 refine Vr (.bool (!cm))<|AA<|Cn a (fun cq a=>?_) fun cq a=>?_
 refine Sr<|Va (.bool false)<|AA<|AT ?_
 obtain rfl:=AP a
 refine Ax (B:=B) ag (BG rfl (.tmp rfl) ?_)
 exact ⟨bn,rfl,Ho (Tn (Mo [] ad) q) af⟩
 refine WC.skip<|Sr<|have bo:=Bs cl q;Vx (Run.loadN AAM rfl rfl (Bk.part bo 0 [Sl bl ac.text bm,Sb ac.name,Sb ac.args] rfl))<|have cr:=K2 Kd.u8 bk ad q;Bi a fun e ct a=>Ca (Xc [.agg [Sl bl ac.text bm,Sb ac.name,Sb ac.args].toArray] rfl) (MY ae bn co ct (PO (x:=ac) cr)) ?_
 rintro _ eb ⟨cu,ec,ed,rfl,ah,cv,bp⟩
 obtain ⟨ee,rfl,bq⟩:=BK cv
 obtain ⟨ao,ap,rfl⟩:=AG bq
 obtain ⟨ar,au,rfl⟩:=AG bp
 refine ⟨_,rfl,?_⟩
 refine Vm<|Vr (.agg [Sl ao e.1.funcs ap].toArray)<|Vr (Sl ar e.2.1 au)<|Vr (.bool e.2.2)<|Ef (Aa cu 21 JW rfl fun br ef cw cx r=>?_)
 refine have cy:=Ss AL bq r;Eu (St IS cx rfl rfl rfl rfl fun cz bt s=>?_)
 refine Va (Sl ar e.2.1 au)<|Va (.bool e.2.2)<|AA<|AZ<|Sr<|Vm<|Vr (.bool (!e.2.2))<|AA<|Cn a (fun c0 a=>?_) fun c0 a=>?_
 refine Sr<|Va (.bool true)<|AA<|AT ?_
 obtain rfl:=AP a
 refine Ax (B:=B) ag (BG rfl (.tmp rfl) ?_)
 exact ⟨br,rfl,Ho (T4 (Mo [21] ad) q ah r s) af⟩
 refine WC.skip<|Sr<|Vx (Run.loadN Gw rfl rfl (Bk.part bt 0 [Sl ao e.1.funcs ap] rfl))<|Vx (Run.fieldAddr U1 rfl)<|have bu:=Y3 bo ah r s;Vx (Run.load1 CS rfl (Bk.cell bu rfl))<|Vm<|have bv:=Ss AL cy s;have bw:=K2 A1 bp r s;Bi a fun c c1 a=>Ca (Vj [.agg [Sl ao e.1.funcs ap].toArray,Sb ac.name,Sl ar e.2.1 au,I 16384] rfl) (NV ae br cz c1 (BS (x:=e.1) bv) bw) ?_
 rintro _ eg ⟨c2,eh,rfl,u,c3⟩
 obtain ⟨ei,rfl,bx⟩:=Mc c3
 obtain ⟨bz,b0,rfl⟩:=AG bx
 refine ⟨_,rfl,?_⟩
 refine Ef (Aa c2 22 Mh rfl fun av ej b1 c4 o=>?_)
 refine have c5:=Ss Kd.cpx bx o;Eu (St NH c4 rfl rfl rfl rfl fun c6 aw p=>?_)
 refine AA<|AZ<|Ao (fun w a1=>∃(f:Env) (ax:Col) (a2:Bool),w=f.puts [(1,.pointer (some ⟨ck,0,none⟩)),(3,.pointer (some ⟨cw,0,none⟩)),(4,.slice ar e.2.1.length au),(6,.pointer (some ⟨b1,0,none⟩)),(36,.bool a2)]∧DH ae ac e c a2=some aq∧AQ [] av c6 ax a1) ?_ ?_
 refine AO<|Vx (Run.fieldAddr Xs rfl)<|Vx (Run.load1 B5 rfl (Bk.cell aw rfl))<|Vr (.bool (c.thunks != 0))<|Vm<|Bo a (fun ai a=>?_) fun ai a=>?_
 refine Pg ai<|Pg ai<|Pg ai<|Vp ai<|Vm<|Pg rfl<|Pg rfl<|Pg rfl<|Vr (.bool true)<|AA<|⟨_,av,true,Pu,a,(AQ.refl [] _ _)⟩
 refine Gx ai (Run.fieldAddr Xt rfl)<|Gx ai (Run.load1 B5 rfl (Bk.cell aw rfl))<|Gr ai (.bool (c.updates != 0))<|Vp ai<|Vm<|Bo a (fun aj a=>?_) fun aj a=>?_
 refine Pg aj<|Pg aj<|Pg aj<|Vp aj<|AA<|⟨_,av,true,Pu,a,(AQ.refl [] _ _)⟩
 refine Gx aj (Run.fieldAddr Xu rfl)<|Gx aj (Run.load1 B5 rfl (Bk.cell aw rfl))<|Gr aj (.bool (c.calls != 0))<|Vp aj<|AA<|⟨_,av,(c.calls != 0),Pu,a,(AQ.refl [] _ _)⟩
 rintro _ a1 ⟨f,ax,a2,rfl,a,l⟩
 rw [DH] at a
 refine Cn a (fun c7 a=>?_) fun c7 a=>?_
 refine Sr<|Va (.bool false)<|AA<|AT ?_
 obtain rfl:=AP a
 refine Ax (B:=B) ag (BG rfl (.tmp rfl) ?_)
 exact ⟨ax,rfl,Ho (T4 (T4 (Mo [21,22] ad) q ah r s) u o p l) af⟩
 refine WC.skip<|Sr<|have b2:=Y4 bt u o p l;Vx (Run.loadN Gw rfl rfl (Bk.part b2 0 [Sl ao e.1.funcs ap] rfl))<|Vx (Run.fieldAddr U1 rfl)<|have c8:=Y4 bu u o p l;Vx (Run.load1 CS rfl (Bk.cell c8 rfl))<|have b3:=K4 AL bv u o p l;Bi a fun d c9 a=>Ca (Vk [.agg [Sl ao e.1.funcs ap].toArray,Sb ac.name] rfl) (Mv ae ax a1 c9 (BS (x:=e.1) b3)) ?_
 rintro _ ek ⟨da,el,rfl,y,db⟩
 obtain ⟨em,en,rfl,b4,b5⟩:=Cw db
 obtain ⟨a3,a4,rfl⟩:=AG b4
 obtain ⟨a5,a6,rfl⟩:=AG b5
 refine ⟨_,rfl,?_⟩
 refine Vm<|Vr (.agg [Sb d.1.name,Sl a3 d.1.params a4,I d.1.type_,I d.1.body.op,Sb d.1.body.name,Sb d.1.body.tail,I d.1.body.type_,Cx d.1.body.num,Sl a5 d.1.body.args a6,I d.1.body.at_,I d.1.at_].toArray)<|Vr (.bool d.2)<|Ef (Aa da 23 J8 rfl fun g eo ep dc m=>?_)
 refine have de:=Ss AY b4 m;have df:=Ss AJ b5 m;Eu (St Kj dc rfl rfl rfl rfl fun am b6 n=>?_)
 refine Va (.bool d.2)<|AA<|AZ<|Sr<|Vx (Run.fieldAddr0 Rl rfl)<|have an:=Y4 aw l y m n;Vx (Run.load1 Md rfl (Bk.cell an rfl))<|AA<|Aj<|Sr<|Vr (.bool (c.why==0))<|Va (.bool (c.why==0))<|AA<|Cn a (fun dg a=>?_) fun dg a=>?_
 refine Ao (fun w b7=>∃(f:Env) (a7:Col) (a8:Bool),w=f.puts [(2,.bool a8)]∧Fo a8=some aq∧AQ [] g am a7 b7) ?_ ?_
 refine AO<|Vm<|Vm<|Bo a (fun h a=>?_) fun h a=>?_
 refine Gx h (Run.fieldAddr Lh rfl)<|Gx h (Run.fieldAddr0 JH rfl)<|Gx h (Run.load1 EA rfl (Bk.cell an rfl))<|Gx h (Run.fieldAddr M4 rfl)<|Gx h (Run.load1 EA rfl (Bk.cell b6 rfl))<|Gr h (.bool (c.value.type_==d.1.type_))<|Vp h<|Vm<|Bo a (fun ak a=>?_) fun ak a=>?_
 refine Gx ak (Run.fieldAddr Lh rfl)<|Gx ak (Run.loadN D9 rfl rfl (Bk.part an 1 [I c.value.type_,Cx c.value.num,.bool c.value.bool,Sl bz c.value.list b0] rfl))<|have dh:=Ss Kd.cpx (K4 Kd.cpx c5 p l y m) n;Bi a fun eq di a=>CI (.guard (t:=true) (b:=true) rfl rfl rfl rfl (Cb ak)) rfl rfl (Vl [.agg [I c.value.type_,Cx c.value.num,.bool c.value.bool,Sl bz c.value.list b0].toArray] rfl)<|Calls.mono (MF ae g am di (BP (x:=(AI.mk c.value.type_ c.value.num c.value.bool c.value.list)) dh)) ?_
 rintro _ er ⟨b8,rfl,a9⟩
 refine ⟨_,rfl,?_⟩
 refine Vp ak<|Vm<|Bo a (fun al a=>?_) fun al a=>?_
 refine Gx al (Run.fieldAddr Rm rfl)<|have dj:=Bs an a9;Gx al (Run.load1 B5 rfl (Bk.cell dj rfl))<|Gr al (.bool (decide (c.moves>0)))<|Vp al<|Va (.bool (decide (c.moves>0)))<|AA<|⟨_,b8,(decide (c.moves>0)),Pu,a,(Mo [] a9)⟩
 refine Pg al<|Pg al<|Pg al<|Vp al<|Va (.bool false)<|AA<|⟨_,b8,false,Pu,a,(Mo [] a9)⟩
 refine Pg ak<|Pg ak<|Pg ak<|Vp ak<|Vm<|Pg rfl<|Pg rfl<|Pg rfl<|Vr (.bool false)<|Va (.bool false)<|AA<|⟨_,g,false,Pu,a,(AQ.refl [] _ _)⟩
 refine Pg h<|Pg h<|Pg h<|Pg h<|Pg h<|Pg h<|Vp h<|Vm<|Pg rfl<|Pg rfl<|Pg rfl<|Vr (.bool false)<|Vm<|Pg rfl<|Pg rfl<|Pg rfl<|Vr (.bool false)<|Va (.bool false)<|AA<|⟨_,g,false,Pu,a,(AQ.refl [] _ _)⟩
 rintro _ b7 ⟨f,a7,a8,rfl,a,dk⟩
 rw [Fo] at a
 refine AT ?_
 obtain rfl:=AP a
 refine Ax (B:=B) ag (BG rfl (.tmp rfl) ?_)
 exact ⟨a7,rfl,Ho (T4 (T4 (T4 (Mo [21,22,23] ad) q ah r s) u o p l) y m n dk) af⟩
 refine Sr<|Vr (.bool (c.why==3))<|Va (.bool (c.why==3))<|AA<|Cn a (fun dl a=>?_) fun dl a=>?_
 refine Ao (fun w b9=>∃(f:Env) (ba:Col) (bb:Bool),w=f.puts [(2,.bool bb)]∧JS bb=some aq∧AQ [] g am ba b9) ?_ ?_
 refine AO<|have dm:=Y3 b2 y m n;Vx (Run.loadN Gw rfl rfl (Bk.part dm 0 [Sl ao e.1.funcs ap] rfl))<|have dn:=K3 AL b3 y m n;Bi a fun ay dp a=>Ca (AAO [.agg [Sl ao e.1.funcs ap].toArray] rfl) (SZ ae g am dp (BS (x:=e.1) dn)) ?_
 rintro _ es ⟨ca,et,rfl,bc,dq⟩
 obtain rfl:=As dq
 refine ⟨_,rfl,?_⟩
 refine Vx (v:=I ay.why) (Js (cs:=[I ay.why,I ay.at_]) U6 rfl rfl)<|Vr (.bool (ay.why != 0))<|Vm<|Bo a (fun z a=>?_) fun z a=>?_
 refine Gx z (Run.fieldAddr Lh rfl)<|Gx z (Run.fieldAddr0 JH rfl)<|have dr:=Bs an bc;Gx z (Run.load1 EA rfl (Bk.cell dr rfl))<|Gr z (.bool (c.value.type_==0))<|Vp z<|Va (.bool (c.value.type_==0))<|AA<|⟨_,ca,(c.value.type_==0),Pu,a,(Mo [] bc)⟩
 refine Pg z<|Pg z<|Pg z<|Pg z<|Vp z<|Va (.bool false)<|AA<|⟨_,ca,false,Pu,a,(Mo [] bc)⟩
 rintro _ b9 ⟨f,ba,bb,rfl,a,ds⟩
 rw [JS] at a
 refine AT ?_
 obtain rfl:=AP a
 refine Ax (B:=B) ag (BG rfl (.tmp rfl) ?_)
 exact ⟨ba,rfl,Ho (T4 (T4 (T4 (Mo [21,22,23] ad) q ah r s) u o p l) y m n ds) af⟩
 refine Sr<|Vr (.bool (c.why==32))<|Va (.bool (c.why==32))<|AA<|Cn a (fun dt a=>?_) fun dt a=>?_
 refine Ao (fun w cb=>∃(f:Env) (bd:Col) (be:Bool),w=f.puts [(2,.bool be)]∧JT be=some aq∧AQ [] g am bd cb) ?_ ?_
 refine AO<|Vm<|Vr (.bool (!d.2))<|Vm<|Bo a (fun aa a=>?_) fun aa a=>?_
 refine Gx aa (Run.fieldAddr Lh rfl)<|Gx aa (Run.fieldAddr0 JH rfl)<|Gx aa (Run.load1 EA rfl (Bk.cell an rfl))<|Gr aa (.bool (c.value.type_==0))<|Vp aa<|Va (.bool (c.value.type_==0))<|AA<|⟨_,g,(c.value.type_==0),Pu,a,(AQ.refl [] _ _)⟩
 refine Pg aa<|Pg aa<|Pg aa<|Pg aa<|Vp aa<|Va (.bool false)<|AA<|⟨_,g,false,Pu,a,(AQ.refl [] _ _)⟩
 rintro _ cb ⟨f,bd,be,rfl,a,du⟩
 rw [JT] at a
 refine AT ?_
 obtain rfl:=AP a
 refine Ax (B:=B) ag (BG rfl (.tmp rfl) ?_)
 exact ⟨bd,rfl,Ho (T4 (T4 (T4 (Mo [21,22,23] ad) q ah r s) u o p l) y m n du) af⟩
 refine Sr<|Vr (.bool (c.why==40))<|Va (.bool (c.why==40))<|AA<|Cn a (fun dv a=>?_) fun dv a=>?_
 refine Ao (fun w cc=>∃(f:Env) (bf:Col) (bg:Bool),w=f.puts [(2,.bool bg)]∧JU bg=some aq∧AQ [] g am bf cc) ?_ ?_
 refine AO<|Vx (Run.loadN K9 rfl rfl (Bk.part b6 0 [Sb d.1.name,Sl a3 d.1.params a4,I d.1.type_,I d.1.body.op,Sb d.1.body.name,Sb d.1.body.tail,I d.1.body.type_,Cx d.1.body.num,Sl a5 d.1.body.args a6,I d.1.body.at_,I d.1.at_] rfl))<|Vm<|have dw:=Ss AY de n;have dx:=Ss AJ df n;have dy:=K3 A1 (K4 A1 bw u o p l) y m n;Bi a fun dz d0 a=>Ca (AAP [.agg [Sb d.1.name,Sl a3 d.1.params a4,I d.1.type_,I d.1.body.op,Sb d.1.body.name,Sb d.1.body.tail,I d.1.body.type_,Cx d.1.body.num,Sl a5 d.1.body.args a6,I d.1.body.at_,I d.1.at_].toArray,Sl ar e.2.1 au] rfl) (TV ae g am d0 (Lf (x:=d.1) dw dx) dy) ?_
 rintro _ eu ⟨cd,rfl,bh⟩
 refine ⟨_,rfl,?_⟩
 refine Vr (.bool (!dz))<|Vm<|Bo a (fun ab a=>?_) fun ab a=>?_
 refine Gx ab (Run.fieldAddr Lh rfl)<|Gx ab (Run.fieldAddr0 JH rfl)<|have d1:=Bs an bh;Gx ab (Run.load1 EA rfl (Bk.cell d1 rfl))<|Gr ab (.bool (c.value.type_==0))<|Vp ab<|Va (.bool (c.value.type_==0))<|AA<|⟨_,cd,(c.value.type_==0),Pu,a,(Mo [] bh)⟩
 refine Pg ab<|Pg ab<|Pg ab<|Pg ab<|Vp ab<|Va (.bool false)<|AA<|⟨_,cd,false,Pu,a,(Mo [] bh)⟩
 rintro _ cc ⟨f,bf,bg,rfl,a,d2⟩
 rw [JU] at a
 refine AT ?_
 obtain rfl:=AP a
 refine Ax (B:=B) ag (BG rfl (.tmp rfl) ?_)
 exact ⟨bf,rfl,Ho (T4 (T4 (T4 (Mo [21,22,23] ad) q ah r s) u o p l) y m n d2) af⟩
 refine Ao (fun w cf=>∃(f:Env) (az:Col) (bi:Bool),w=f.puts [(6,.pointer (some ⟨b1,0,none⟩)),(101,.bool bi)]∧Gv c bi=some aq∧AQ [] g am az cf) ?_ ?_
 refine Sr<|Vr (.bool (c.why==50))<|Va (.bool (c.why==50))<|AA<|Cn a (fun d3 a=>?_) fun d3 a=>?_
 refine WC.skip<|⟨_,g,(c.why==50),Pu,a,(AQ.refl [] _ _)⟩
 refine Sr<|Vr (.bool (c.why==51))<|Va (.bool (c.why==51))<|AA<|Cn a (fun d4 a=>?_) fun d4 a=>?_
 refine WC.skip<|⟨_,g,(c.why==51),Pu,a,(AQ.refl [] _ _)⟩
 refine Sr<|Vr (.bool (c.why==52))<|Va (.bool (c.why==52))<|AA<|Cn a (fun d5 a=>?_) fun d5 a=>?_
 refine WC.skip<|⟨_,g,(c.why==52),Pu,a,(AQ.refl [] _ _)⟩
 refine AO<|Vr (.bool (c.why==60))<|Va (.bool (c.why==60))<|AA<|⟨_,g,(c.why==60),Pu,a,(AQ.refl [] _ _)⟩
 rintro _ cf ⟨f,az,bi,rfl,a,bj⟩
 rw [Gv] at a
 refine Cn a (fun d6 a=>?_) fun d6 a=>?_
 refine Sr<|Vx (Run.fieldAddr Lh rfl)<|Vx (Run.fieldAddr0 JH rfl)<|have d7:=Bs an bj;Vx (Run.load1 EA rfl (Bk.cell d7 rfl))<|Vr (.bool (c.value.type_==0))<|Va (.bool (c.value.type_==0))<|AA<|AT ?_
 obtain rfl:=AP a
 refine Ax (B:=B) ag (BG rfl (.tmp rfl) ?_)
 exact ⟨az,rfl,Ho (T4 (T4 (T4 (Mo [21,22,23] ad) q ah r s) u o p l) y m n bj) af⟩
 refine WC.skip<|Sr<|Va (.bool false)<|AA<|AT ?_
 obtain rfl:=AP a
 refine Ax (B:=B) ag (BG rfl (.tmp rfl) ?_)
 exact ⟨az,rfl,Ho (T4 (T4 (T4 (Mo [21,22,23] ad) q ah r s) u o p l) y m n bj) af⟩
theorem PG(c:Nat):DE.Spec (DE c):=by
 intro a d m n o e f
 refine Calls.mono (Oq c (recol (see []) a) d (Az lbr a) e (Au LM f [])) ?_
 rintro p q ⟨g,h,l⟩
 exact ⟨glue [] d a g,h,Ad l Ay⟩
end Fth
namespace Fth
open Go
def T{α:Type}(x:Option α)(Q:α→Prop):Prop:=∃a,x=some a∧Q a
section
variable{α β:Type}{x:Option α}{f:α→Option β}{P:α→Prop}{Q:β→Prop}
theorem T.some{a:α}(h:P a):T (.some a) P:=⟨a,rfl,h⟩
theorem T.bind(h:T x P)(k: ∀a,P a→T (f a) Q):T (x.bind f) Q:=by
 obtain ⟨a,rfl,ha⟩:=h
 exact k a ha
theorem T.eq{a:α}(h:x= .some a)(k:T (f a) Q):T (x.bind f) Q:=by subst h;exact k
theorem T.mono{P':α→Prop}(h:T x P)(k: ∀a,P a→P' a):T x P':=by obtain ⟨a,e,ha⟩:=h;exact ⟨a,e,k a ha⟩
theorem T.cond{c:Bool}{x y:Option α}(h1:c=true→T x P)(h2:c=false→T y P):T (bif c then x else y) P:=by
 cases c
 ·exact h2 rfl
 ·exact h1 rfl
end
def Ev(p:Nat→Prop):Prop:=∃n,∀N,n≤N→p N
theorem Ev.and{p q:Nat→Prop}(hp:Ev p)(hq:Ev q):Ev fun N=>p N∧q N:=by
 obtain ⟨n,hn⟩:=hp;obtain ⟨m,hm⟩:=hq
 exact ⟨n+m,fun N h=>⟨hn N (by omega),hm N (by omega)⟩⟩
theorem Ev.mono{p q:Nat→Prop}(hp:Ev p)(h: ∀N,p N→q N):Ev q:=let ⟨n,hn⟩:=hp;⟨n,fun N hN=>h N (hn N hN)⟩
theorem Ev.all{p:Nat→Prop}(h: ∀N,p N):Ev p:=⟨0,fun N _=>h N⟩
theorem Ev.get{p:Nat→Prop}(hp:Ev p): ∃N,p N:=let ⟨n,hn⟩:=hp;⟨n,hn n (Nat.le_refl n)⟩
theorem Ls(n:Nat):Ev fun N=>n≤N:=⟨n,fun _ h=>h⟩
theorem wr{x:Int}(h1: -9223372036854775808≤x)(h2:x≤9223372036854775807):IntKind.i64.wrap x=x:=by
 simp only [IntKind.wrap,IntKind.signed,IntKind.bits]
 simp
 omega
theorem FJ{α:Type}{xs:List α}{i:Int}(h0:0≤i)(h1:i<xs.length):T (idx xs i) fun x=>xs[i.toNat]?= .some x:=by
 refine ⟨xs[i.toNat]'(by omega),?_,?_⟩
 ·rw [idx,if_pos h0];exact List.getElem?_eq_getElem _
 ·exact List.getElem?_eq_getElem _
theorem CD{α:Type}{xs:List α}{i:Nat}{x:α}(h:xs[i]?= .some x):idx xs (i:Int)= .some x:=by
 rw [idx,if_pos (by omega)];exact h
theorem Mx{α:Type}{xs:List α}{lo hi:Int}(h0:0≤lo)(h1:lo≤hi)(h2:hi≤xs.length):T (sub xs lo hi) fun ys=>ys=(xs.drop lo.toNat).take (hi.toNat - lo.toNat):=by
 rw [sub,if_pos ⟨h0,h1,h2⟩];exact .some rfl
theorem GS{α:Type}{b:Nat}{xs ys:List α}(hb:b≤4096)(h:xs.length+ys.length≤34359738368):T (Gd b xs ys) fun _=>True:=by
 rw [Gd,if_pos]
 ·exact .some trivial
 ·refine ⟨?_,by omega⟩
  calc (xs.length+ys.length)*b≤34359738368*4096:=Nat.mul_le_mul h hb
   _≤140737488355328:=by decide
theorem Lc{xs ys:List UInt8}(h:xs.length+ys.length≤34359738368):T (O3 xs ys) fun zs=>zs=xs++ys:=by
 rw [O3,if_pos (by omega)];exact .some rfl
theorem YD{n:Int}(h:n≠0):T (nz n) fun _=>True:=by rw [nz,if_neg h];exact .some trivial
theorem CN{p:Prop}[Decidable p](h:decide p=true):p:=of_decide_eq_true h
theorem Dn{p:Prop}[Decidable p](h:decide p=false): ¬p:=of_decide_eq_false h
theorem B7{x y:Int}(h:(x==y)=true):x=y:=by simpa using h
theorem Bh{x y:Int}(h:(x==y)=false):x≠y:=by simpa using h
theorem Ko{x y:Int}(h:(x != y)=true):x≠y:=by simpa using h
theorem JK{x y:Int}(h:(x != y)=false):x=y:=by simpa using h
end Fth
namespace Fth
open Go
def Gf(x:Nat)(n:Int):Prop:=x=FloatKind.f64.nearest n∧ -16777216≤n∧n≤16777216
def Gn(z:Nat×Nat):Prop:=∃a b,Gf z.1 a∧Gf z.2 b
theorem YE(c:UInt8):T (G9 c) fun _=>True:=by
 unfold G9 H4
 repeat (first|exact T.some trivial|refine T.cond (fun _=>?_) (fun _=>?_))
theorem XG(c:UInt8):T (GC c) fun _=>True:=by
 unfold GC GU
 repeat (first|exact T.some trivial|refine T.cond (fun _=>?_) (fun _=>?_))
theorem VB(c:UInt8):T (GW c) fun _=>True:=by
 unfold GW Ju
 repeat (first|exact T.some trivial|refine T.cond (fun _=>?_) (fun _=>?_))
theorem ABC{N:Nat}{t:List UInt8}{at_:Int}(h0:0≤at_)(h1:at_≤t.length)(hl:t.length≤34359738368)(hN:t.length+2≤N):
  T (H1 N t at_) fun n=>0≤n∧at_+n≤t.length:=by
 have key: ∀(k:Nat) (n:Int),0≤n→at_+n≤t.length→(t.length:Int) - (at_+n)<k→T (ES t at_ k n) fun n=>0≤n∧at_+n≤t.length:=by
  intro k
  induction k with
  |zero=>intro n h2 h3 h4;omega
  |succ k ih=>
   intro n h2 h3 h4
   show T (F8 t at_ (ES t at_ k) n) _
   unfold F8
   have fin:T (GD n (ES t at_ k) false) fun n=>0≤n∧at_+n≤t.length:= .some ⟨h2,h3⟩
   rw [wr (x:=at_+n) (by omega) (by omega)]
   refine T.cond (fun h=>?_) (fun _=>fin)
   have h:=CN h
   have go: ∀b,T (GD n (ES t at_ k) b) fun n=>0≤n∧at_+n≤t.length:=by
    intro b
    cases b
    ·exact fin
    ·show T (ES t at_ k (IntKind.i64.wrap (n+1))) _
     rw [wr (by omega) (by omega)]
     exact ih _ (by omega) (by omega) (by omega)
   refine T.bind (FJ (by omega) h) fun c _=>T.bind (XG c) fun b _=>?_
   refine T.cond (fun _=>go _) fun _=>T.bind (VB c) fun b _=>T.cond (fun _=>go _) fun _=>go _
 exact key N 0 (by omega) (by omega) (by omega)
theorem ABD(e:Int):((u8c e).toNat:Int)≤255:=by have:=(u8c e).toNat_lt;omega
theorem VC{N:Nat}{t:List UInt8}(hl:t.length≤34359738368)(hN:t.length+2≤N):
  T (Eb N t) fun x=> -16777217≤x.1∧x.1≤16777217∧0≤x.2∧x.2≤t.length:=by
 have key: ∀(i:Int),0≤i→∀(k:Nat) (n p:Int),0≤n→n≤16777217→0≤p→p≤t.length→(t.length:Int) - p<k→T (EE t i k n p) fun x=> -16777217≤x.1∧x.1≤16777217∧0≤x.2∧x.2≤t.length:=by
  intro i hi k
  induction k with
  |zero=>intro n p _ _ _ _ _;omega
  |succ k ih=>
   intro n p h1 h2 h3 h4 h5
   show T (Ey t i (EE t i k) n p) _
   unfold Ey
   have fin:T (Ea t i n p (EE t i k) false) fun x=> -16777217≤x.1∧x.1≤16777217∧0≤x.2∧x.2≤t.length:=by
    unfold Ea
    refine T.cond (fun h=>by cases h) fun _=>T.cond (fun _=> .some ⟨by omega,by omega,by omega,by omega⟩) fun _=>T.cond (fun _=>?_) fun _=>?_
    ·refine .some ⟨?_,?_,h3,h4⟩<;>simp only<;>rw [wr (by omega) (by omega)]<;>omega
    ·exact .some ⟨by simp only;omega,by simp only;omega,h3,h4⟩
   refine T.cond (fun h=>?_) fun _=>fin
   have h:=CN h
   refine T.bind (FJ h3 h) fun c _=>T.cond (fun _=>?_) fun _=>fin
   refine T.bind (FJ h3 h) fun c' _=>?_
   generalize decide (((c').toNat:Int)≤(((57:UInt8)).toNat:Int))=b
   cases b
   ·exact fin
   ·unfold Ea
    refine T.cond (fun _=>?_) fun h=>by cases h
    refine T.bind (FJ h3 h) fun c'' _=>?_
    generalize hc:(((c'').toNat:Int) - (((48:UInt8)).toNat:Int))=e
    have:=ABD e
    have hu:(0:Int)≤((u8c e).toNat:Int):=by omega
    rw [wr (x:=p+1) (by omega) (by omega),wr (x:=10*n) (by omega) (by omega),wr (x:=((u8c e).toNat:Int)) (by omega) (by omega),wr (x:=10*n+((u8c e).toNat:Int)) (by omega) (by omega)]
    split
    ·exact ih _ _ (by omega) (by omega) (by omega) (by omega) (by omega)
    ·exact ih _ _ (by omega) (by omega) (by omega) (by omega) (by omega)
 unfold Eb
 have j5: ∀b,(b=true→1≤t.length)→T (HA N t b) fun x=> -16777217≤x.1∧x.1≤16777217∧0≤x.2∧x.2≤t.length:=by
  intro b hb
  refine T.cond (fun h=>?_) fun _=>?_
  ·have:=hb h
   exact key 1 (by omega) N 0 1 (by omega) (by omega) (by omega) (by omega) (by omega)
  ·exact key 0 (by omega) N 0 0 (by omega) (by omega) (by omega) (by omega) (by omega)
 refine T.cond (fun h=>?_) fun _=>j5 _ fun h=>by cases h
 have h:=CN h
 exact T.bind (FJ (by omega) (by omega)) fun c _=>j5 _ fun _=>by omega
theorem ABo(n:Ai):T (HB n) fun x=>x.2=0→ -16777216≤n.re∧n.re≤16777216∧ -16777216≤n.im∧n.im≤16777216:=by
 unfold HB
 have bad:T (JL n true) fun x=>x.2=0→ -16777216≤n.re∧n.re≤16777216∧ -16777216≤n.im∧n.im≤16777216:= .some fun h=>by cases h
 refine T.cond (fun _=>bad) fun h1=>T.cond (fun _=>bad) fun h2=>T.cond (fun _=>bad) fun h3=>?_
 have h1:=Dn h1;have h2:=Dn h2;have h3:=Dn h3
 cases h4:decide (n.im>16777216)
 ·have h4:=Dn h4
  exact .some fun _=>⟨by omega,by omega,by omega,by omega⟩
 ·exact bad
theorem Se: ∀(n N:Nat) (a:Int),n<N→0≤a→a<10^n*10→n≤40→a≤1000000000000→T (ref01_digits N a) fun s=>s.length≤n+1:=by
 intro n
 induction n with
 |zero=>
  intro N a hN h0 h1 _ _
  obtain ⟨N,rfl⟩: ∃m,N=m+1:=⟨N - 1,by omega⟩
  show T (DF _ N a) _
  unfold DF
  refine T.cond (fun h=>?_) fun _=>?_
  ·have:=CN h;omega
  refine T.bind (YD (by omega)) fun _ _=>T.cond (fun h=>?_) fun _=> .some (by simp)
  have:=CN h;omega
 |succ n ih=>
  intro N a hN h0 h1 h2 h3
  obtain ⟨N,rfl⟩: ∃m,N=m+1:=⟨N - 1,by omega⟩
  show T (DF _ N a) _
  unfold DF
  refine T.cond (fun h=>?_) fun _=>?_
  ·have:=CN h;omega
  refine T.bind (YD (by omega)) fun _ _=>T.cond (fun h=>?_) fun _=> .some (by simp)
  have h:=CN h
  have hd:a.tdiv 10=a / 10:=Int.tdiv_eq_ediv_of_nonneg h0
  refine T.bind (YD (by omega)) fun _ _=>?_
  rw [hd,wr (x:=a / 10) (by omega) (by omega)]
  have hlt:a / 10<10^n*10:=by
   rw [Int.pow_succ] at h1
   omega
  refine T.bind (ih N (a / 10) (by omega) (by omega) hlt (by omega) (by omega)) fun s hs=>T.bind (Lc (by simp;omega)) fun z hz=> .some ?_
  subst hz;simp;omega
theorem Ti{N:Nat}{a:Int}(hN:40≤N)(h0: -1000000000000≤a)(h1:a≤1000000000000):T (ref01_digits N a) fun s=>s.length≤40:=by
 rcases Int.lt_or_le a 0 with h|h
 ·obtain ⟨N,rfl⟩: ∃m,N=m+1:=⟨N - 1,by omega⟩
  show T (DF _ N a) _
  unfold DF
  refine T.cond (fun _=>?_) fun h'=>?_
  ·rw [wr (x:=0 - a) (by omega) (by omega)]
   refine T.bind (Se 13 N (0 - a) (by omega) (by omega) (by omega) (by omega) (by omega)) fun s hs=>T.bind (Lc (by simp;omega)) fun z hz=> .some ?_
   subst hz;simp;omega
  ·have:=Dn h';omega
 ·exact (Se 13 N a (by omega) h (by omega) (by omega) (by omega)).mono fun s hs=>by omega
theorem Wc{N:Nat}{n:Ai}(hN:40≤N)(h1: -16777216≤n.re)(h2:n.re≤16777216)(h3: -16777216≤n.im)(h4:n.im≤16777216):T (Fn N n) fun s=>s.length≤100:=by
 have hr:=Ti (N:=N) (a:=n.re) hN (by omega) (by omega)
 have hi:=Ti (N:=N) (a:=n.im) hN (by omega) (by omega)
 unfold Fn
 refine T.cond (fun _=>T.bind hr fun s hs=> .some (by omega)) fun _=>T.cond (fun _=>T.bind hi fun s hs=>T.bind (Lc (by simp;omega)) fun z hz=> .some (by subst hz;simp;omega)) fun _=>T.cond (fun _=>?_) fun _=>?_
 ·refine T.bind hr fun s hs=>T.bind (Lc (by simp;omega)) fun z hz=>T.bind hi fun s' hs'=>?_
  subst hz
  refine T.bind (Lc (by simp;omega)) fun z hz=>T.bind (Lc (by subst hz;simp;omega)) fun z' hz'=> .some ?_
  subst hz;subst hz';simp;omega
 ·refine T.bind hr fun s hs=>T.bind hi fun s' hs'=>T.bind (Lc (by omega)) fun z hz=>T.bind (Lc (by subst hz;simp;omega)) fun z' hz'=> .some ?_
  subst hz;subst hz';simp;omega
theorem QM{N:Nat}{t:List UInt8}(hl:t.length≤34359738368)(hN:t.length+40≤N):
  T (EO N t) fun x=>x.2=0→ -16777216≤x.1.re∧x.1.re≤16777216∧ -16777216≤x.1.im∧x.1.im≤16777216:=by
 have j1: ∀(a b:Int),T (FX N t a b) fun x=>x.2=0→ -16777216≤x.1.re∧x.1.re≤16777216∧ -16777216≤x.1.im∧x.1.im≤16777216:=by
  intro a b
  unfold FX
  refine T.bind (ABo _) fun x hx=>T.cond (fun _=> .some fun h=>by cases h) fun h=>?_
  have h:=hx (JK h)
  refine T.bind (Wc (by omega) h.1 h.2.1 h.2.2.1 h.2.2.2) fun s _=>T.cond (fun _=> .some fun h=>by cases h) fun _=> .some fun _=>h
 unfold EO
 refine T.bind (VC hl (by omega)) fun x hx=>T.cond (fun _=> .some fun h=>by cases h) fun _=>?_
 refine T.bind (Mx hx.2.2.1 hx.2.2.2 (by omega)) fun s hs=>T.cond (fun _=>j1 _ _) fun _=>T.cond (fun h=>?_) fun _=>j1 _ _
 have hsl:s.length≤t.length:=by subst hs;simp
 have hs0:s≠[]:=by intro e;subst e;simp at h
 have hpos:0<s.length:=List.length_pos_iff.2 hs0
 have j3: ∀(u:List UInt8),u.length≤s.length→T (HC N t x u) fun x=>x.2=0→ -16777216≤x.1.re∧x.1.re≤16777216∧ -16777216≤x.1.im∧x.1.im≤16777216:=
  fun u hu=>T.bind (VC (by omega) (by omega)) fun y _=>j1 _ _
 refine T.bind (FJ (by omega) (by omega)) fun c _=>T.cond (fun _=>?_) fun _=>j3 _ (by omega)
 refine T.bind (Mx (by omega) (by omega) (by omega)) fun u hu=>j3 _ ?_
 subst hu;simp
theorem VD{N:Nat}{s:List UInt8}(hN:20≤N):T (DX N s) fun _=>True:=by
 obtain ⟨N,rfl⟩: ∃m,N=m+20:=⟨N - 20,by omega⟩
 unfold DX
 refine T.bind (P:=fun l=>l.length=19) (.some rfl) fun l hl=>?_
 have key: ∀(k:Nat) (i:Int),0≤i→(19:Int) - i<k→i≤19→T (DW s l k i) fun _=>True:=by
  intro k
  induction k with
  |zero=>intro i _ _ _;omega
  |succ k ih=>
   intro i h1 h2 h3
   show T (Dk s l (DW s l k) i) _
   unfold Dk
   refine T.cond (fun h=>?_) fun _=> .some trivial
   have h:=CN h
   refine T.bind (FJ h1 h) fun c _=>T.cond (fun _=> .some trivial) fun _=>?_
   rw [wr (by omega) (by omega)]
   exact ih _ (by omega) (by omega) (by omega)
 exact key _ 0 (by omega) (by omega) (by omega)
theorem Ze{t:List UInt8}{p:Int}(hl:t.length≤34359738368)(h0:0≤p)(h1:p<t.length):T (H6 t p) fun n=>0≤n∧p+n≤t.length:=by
 have one: ∀b,T (Dl b) fun n=>0≤n∧p+n≤t.length:=fun b=>T.cond (fun _=> .some ⟨by omega,by omega⟩) fun _=> .some ⟨by omega,by omega⟩
 have j1f:T (FY t p false) fun n=>0≤n∧p+n≤t.length:=by
  unfold FY
  refine T.cond (fun h=>by cases h) fun _=>T.bind (FJ h0 h1) fun c _=>?_
  repeat (first|exact one _|refine T.cond (fun _=>?_) (fun _=>?_))
 have j1: ∀b,(b=true→p+1<t.length)→T (FY t p b) fun n=>0≤n∧p+n≤t.length:=by
  intro b hb
  cases b
  ·exact j1f
  ·have:=hb rfl
   exact .some ⟨by omega,by omega⟩
 unfold H6
 rw [wr (by omega) (by omega)]
 refine T.cond (fun h=>?_) fun _=>j1f
 have h:=CN h
 refine T.bind (FJ h0 h1) fun c _=>T.cond (fun _=>?_) fun _=>?_
 ·refine T.bind (FJ (by omega) h) fun d _=>T.cond (fun _=>j1 _ fun _=>h) fun _=>T.cond (fun _=>j1 _ fun _=>h) fun _=>j1f
 ·exact T.cond (fun _=>T.bind (FJ (by omega) h) fun d _=>j1 _ fun _=>h) fun _=>j1f
def Gm(m:Ac):Prop:=m.kind≠4∧(m.kind=2→Gn m.num)
theorem AB1{n:Ai}(h: -16777216≤n.re∧n.re≤16777216∧ -16777216≤n.im∧n.im≤16777216):T (Fq n) Gn:= .some ⟨n.re,n.im,⟨rfl,h.1,h.2.1⟩,⟨rfl,h.2.2.1,h.2.2.2⟩⟩
theorem ABE{N:Nat}{t:List UInt8}{p:Int}(hl:t.length≤34359738368)(hN:t.length+40≤N)(h0:0≤p)(h1:p<t.length):
  T (HW N t p) fun x=>x.2=true→Gm x.1∧0<x.1.text.length∧p+x.1.text.length≤t.length:=by
 unfold HW
 refine T.bind (ABC h0 (by omega) hl (by omega)) fun n hn=>?_
 rw [wr (x:=p+n) (by omega) (by omega)]
 refine T.bind (Mx h0 (by omega) (by omega)) fun s hs=>?_
 have hsl:(s.length:Int)=n:=by subst hs;simp;omega
 have j2: ∀b,T (Hn N t p n s b) fun x=>x.2=true→Gm x.1∧0<x.1.text.length∧p+x.1.text.length≤t.length:=by
  intro b
  unfold Hn
  refine T.cond (fun _=> .some fun h=>by cases h) fun _=>T.cond (fun h=>?_) fun _=>?_
  ·have h:=CN h
   refine T.bind (VD (by omega)) fun b _=>T.cond (fun _=> .some fun _=>⟨⟨by simp,by simp⟩,by simp only;omega,by simp only;omega⟩) fun _=> .some fun _=>⟨⟨by simp,by simp⟩,by simp only;omega,by simp only;omega⟩
  ·refine T.bind (Ze hl h0 h1) fun k hk=>?_
   rw [wr (x:=p+k) (by omega) (by omega)]
   refine T.bind (Mx h0 (by omega) (by omega)) fun u hu=> .some fun h=>?_
   have h:=CN h
   have hul:(u.length:Int)=k:=by subst hu;simp;omega
   exact ⟨⟨by simp,by simp⟩,by simp only;omega,by simp only;omega⟩
 have j1: ∀b,(b=true→0<n)→T (Hp N t p n s b) fun x=>x.2=true→Gm x.1∧0<x.1.text.length∧p+x.1.text.length≤t.length:=by
  intro b hb
  unfold Hp
  refine T.cond (fun h=>?_) fun _=>T.cond (fun _=>T.bind (FJ h0 h1) fun c _=>j2 _) fun _=>j2 _
  have hp:=hb h
  refine T.bind (QM (by omega) (by omega)) fun x hx=>?_
  refine .some (a:=_) fun h=>?_
  have hz:=hx (B7 h)
  exact ⟨⟨by simp,fun _=>⟨x.1.re,x.1.im,⟨rfl,hz.1,hz.2.1⟩,⟨rfl,hz.2.2.1,hz.2.2.2⟩⟩⟩,by simp only;omega,by simp only;omega⟩
 refine T.cond (fun h=>?_) fun _=>j1 _ fun h=>by cases h
 have h:=CN h
 exact T.bind (FJ h0 h1) fun c _=>T.bind (VB c) fun b _=>j1 _ fun _=>h
def GM(ms:List Ac):Prop:=∃l e,ms=l++[e]∧e.kind=4∧∀m∈l,Gm m
theorem YF{N:Nat}{t:List UInt8}(hl:t.length≤1000000000)(hN:t.length+50≤N):
  T (Fr N t) fun x=>x.2<0→GM x.1∧x.1.length≤t.length+1:=by
 have key: ∀(k:Nat) (ms:List Ac) (p:Int),0≤p→p≤t.length→(t.length:Int) - p<k→(∀m∈ms,Gm m)→ms.length≤p→T (DY N t k ms p) fun x=>x.2<0→GM x.1∧x.1.length≤t.length+1:=by
  intro k
  induction k with
  |zero=>intro ms p _ _ _ _ _;omega
  |succ k ih=>
   intro ms p h0 h1 h2 hm hml
   show T (E0 N t (DY N t k) ms p) _
   unfold E0
   refine T.cond (fun h=>?_) fun _=>?_
   ·have h:=CN h
    refine T.bind (FJ h0 h) fun c hc=>T.bind (YE c) fun b _=>T.cond (fun _=>?_) fun _=>T.cond (fun hsharp=>?_) fun _=>?_
    ·rw [wr (by omega) (by omega)]
     exact ih _ _ (by omega) (by omega) (by omega) hm (by omega)
    ·
     have inner: ∀(j:Nat) (q:Int),p≤q→q≤t.length→(t.length:Int) - q<j→(q=p∨p<q)→T (Ec t ms (DY N t k) j q) fun x=>x.2<0→GM x.1∧x.1.length≤t.length+1:=by
      intro j
      induction j with
      |zero=>intro q _ _ _ _;omega
      |succ j ihj=>
       intro q hq1 hq2 hq3 hq4
       show T (Ez t ms (DY N t k) (Ec t ms (DY N t k) j) q) _
       unfold Ez
       refine T.cond (fun hq=>?_) fun hq=>?_
       ·have hq:=CN hq
        refine T.bind (FJ (by omega) hq) fun d hd=>?_
        unfold HD
        refine T.cond (fun _=>?_) fun hnl=>?_
        ·rw [wr (by omega) (by omega)]
         exact ihj _ (by omega) (by omega) (by omega) (by omega)
        ·have hnl:=JK hnl
         have hsharp:=B7 hsharp
         rcases hq4 with rfl|hq4
         ·rw [hd] at hc;cases hc
          rw [hsharp] at hnl
          exact absurd hnl (by decide)
         ·exact ih _ _ (by omega) (by omega) (by omega) hm (by omega)
       ·have hq:=Dn hq
        have hpq:p<q:=by omega
        exact ih _ _ (by omega) (by omega) (by omega) hm (by omega)
     exact inner N p (by omega) (by omega) (by omega) (.inl rfl)
    ·refine T.bind (ABE (by omega) (by omega) h0 h) fun x hx=>T.cond (fun _=> .some fun h=>by simp only at h;omega) fun hb=>?_
     have hx:=hx (by simpa using hb)
     refine T.bind (GS (by omega) (by simp;omega)) fun _ _=>?_
     rw [wr (by omega) (by omega)]
     refine ih _ _ (by omega) (by omega) (by omega) (fun m hm'=>?_) (by simp;omega)
     rcases List.mem_append.1 hm' with h'|h'
     ·exact hm m h'
     ·simp at h';subst h';exact hx.1
   ·refine T.bind (GS (by omega) (by simp;omega)) fun _ _=> .some fun _=>⟨⟨ms,_,rfl,rfl,hm⟩,by simp;omega⟩
 exact key N [] 0 (by omega) (by omega) (by omega) (fun m h=>by cases h) (by simp)
end Fth
namespace Fth
open Go
theorem PH(e:AE):AE.mk e.op e.name e.tail e.type_ e.num e.args e.at_=e:=by cases e;rfl
mutual
def EY:AE→Nat
 | ⟨_,_,_,_,_,l,_⟩=>1+Cv l
def Cv:List AE→Nat
 | []=>0
 |e::l=>EY e+Cv l
end
theorem OW(e:AE):EY e=1+Cv e.args:=by cases e;simp [EY]
theorem Jm(l m:List AE):Cv (l++m)=Cv l+Cv m:=by
 induction l with
 |nil=>simp [Cv]
 |cons e l ih=>simp [Cv,ih];omega
theorem PI(e:AE):Cv [e]=EY e:=by simp [Cv]
theorem Lz(e:AE):1≤EY e:=by rw [OW];omega
theorem NW{l:List AE}{e:AE}(h:e∈l):EY e≤Cv l:=by
 induction l with
 |nil=>cases h
 |cons x l ih=>
  rcases List.mem_cons.1 h with rfl|h
  ·simp [Cv]
  ·have:=ih h;simp only [Cv];omega
theorem MG(l:List AE):l.length≤Cv l:=by
 induction l with
 |nil=>simp
 |cons x l ih=>have:=Lz x;simp only [Cv,List.length_cons];omega
def Ar(op:Int)(n:Nat):Prop:=
 (1≤op∧op≤6∧n=0)∨op=7∨(8≤op∧op≤13∧n=2)∨(14≤op∧op≤17∧n=1)∨(op=18∧n=2)∨(19≤op∧op≤20∧n=3)∨(21≤op∧op≤22∧n=2)
inductive WE:AE→Prop
 |mk (e:AE) (ha:Ar e.op e.args.length) (hn:e.op=1→Gn e.num) (ht:e.op=5∨e.op=21∨e.op=22→1≤e.type_∧e.type_≤3) (hs: ∀a∈e.args,WE a):WE e
theorem WE.ar{e:AE}(h:WE e):Ar e.op e.args.length:=by cases h;assumption
theorem WE.num{e:AE}(h:WE e):e.op=1→Gn e.num:=by cases h;assumption
theorem WE.typ{e:AE}(h:WE e):e.op=5∨e.op=21∨e.op=22→1≤e.type_∧e.type_≤3:=by cases h;assumption
theorem WE.sub{e:AE}(h:WE e): ∀a∈e.args,WE a:=by cases h;assumption
section
variable{ms:List Ac}
def Rd(ms:List Ac)(r:AB):Prop:=r.marks=ms∧0≤r.at_∧r.at_<ms.length
theorem UZ(hM:GM ms){i:Nat}{m:Ac}(h:ms[i]?=some m):(m.kind≠4→i+1<ms.length)∧(m.kind=2→Gn m.num):=by
 obtain ⟨l,e,rfl,he,hl⟩:=hM
 rcases Nat.lt_or_ge i l.length with hi|hi
 ·rw [List.getElem?_append_left hi] at h
  have:=hl m (List.mem_of_getElem? h)
  exact ⟨fun _=>by simp;omega,this.2⟩
 ·rw [List.getElem?_append_right hi] at h
  have h0:i - l.length=0:=by
   rcases Nat.eq_zero_or_pos (i - l.length) with h'|h'
   ·exact h'
   ·rw [List.getElem?_eq_none (by simp;omega)] at h;cases h
  rw [h0] at h
  simp at h
  subst h
  exact ⟨fun h=>absurd he h,fun h=>by rw [he] at h;exact absurd h (by decide)⟩
theorem Kc{r:AB}(hr:Rd ms r):T (BW r) fun m=>ms[r.at_.toNat]?=some m:=by
 obtain ⟨rfl,h0,h1⟩:=hr
 exact T.bind (FJ h0 h1) fun m hm=> .some hm
theorem NX{r:AB}{y:Int}(hr:Rd ms r)(hy:y≠0):T (Bl r y) fun r'=>Rd ms r'∧r'.at_=r.at_∧r'.why≠0:=by
 unfold Bl
 refine T.cond (fun _=>T.bind (Kc (ms:=ms) (r:=AB.mk _ _ _ _ _ _) hr) fun m _=> .some ⟨hr,rfl,hy⟩) fun h=> .some ⟨hr,rfl,Bh h⟩
def Jp(r:AB):AB:=⟨r.marks,r.at_+1,r.why,r.where_,r.l,r.nest⟩
theorem Nd(hM:GM ms){r:AB}{s:List UInt8}(hr:Rd ms r):T (Ba r s) fun b=>b=true→r.why=0∧r.at_+1<ms.length:=by
 unfold Ba
 refine T.bind (Kc hr) fun m hm=>T.cond (fun hw=>?_) fun _=> .some fun h=>by cases h
 have hw:=B7 hw
 have h2:=(UZ hM hm).1
 have:=hr.2.1
 refine T.cond (fun hk=> .some fun _=>⟨hw,?_⟩) fun _=>T.cond (fun hk=> .some fun _=>⟨hw,?_⟩) fun _=> .some fun h=>by cases h
 ·have:=h2 (by rw [B7 hk];decide);omega
 ·have:=h2 (by rw [B7 hk];decide);omega
variable(hlen:ms.length≤1000000000)
include hlen
theorem Ma{r:AB}(hr:Rd ms r):(AB.mk r.marks (IntKind.i64.wrap (r.at_+1)) r.why r.where_ (Af.mk r.l.text r.l.funcs r.l.arity r.l.nest) r.nest)=Jp r:=by
 rw [wr (by have:=hr.2.1;omega) (by have:=hr.2.2;omega)];rfl
theorem NY(hM:GM ms){r:AB}{s:List UInt8}(hr:Rd ms r):T (Bm r s) fun x=>(x.1=true→r.why=0∧x.2=Jp r∧Rd ms (Jp r))∧(x.1=false→x.2=r):=by
 unfold Bm
 refine T.bind (Nd hM hr) fun b hb=>T.cond (fun h=> .some ⟨fun h=>(by cases h),fun _=>rfl⟩) fun h=>?_
 rw [Ma hlen hr]
 have:=hb (by simpa using h)
 exact .some ⟨fun _=>⟨this.1,rfl,hr.1,by show 0≤r.at_+1;have:=hr.2.1;omega,this.2⟩,fun h=>by cases h⟩
theorem IR(hM:GM ms){r:AB}{s:List UInt8}(hr:Rd ms r):T (A7 r s) fun r'=>Rd ms r'∧r.at_≤r'.at_∧(r'.why=0→r.why=0∧r'.at_=r.at_+1):=by
 unfold A7
 refine T.bind (NY hlen hM hr) fun x hx=>T.cond (fun h=>?_) fun h=>?_
 ·have e:=hx.2 (by simpa using h)
  rw [e]
  refine T.bind (NX hr (by decide)) fun r' hr'=> .some ⟨hr'.1,by rw [hr'.2.1];omega,fun h=>absurd h hr'.2.2⟩
 ·obtain ⟨h0,e,h1⟩:=hx.1 (by simpa using h)
  rw [e]
  exact .some ⟨h1,by show r.at_≤r.at_+1;omega,fun _=>⟨h0,rfl⟩⟩
theorem Pf(hM:GM ms){r:AB}(hr:Rd ms r):T (B9 r) fun x=>Rd ms x.2∧r.at_≤x.2.at_∧(x.2.why=0→r.why=0∧x.2.at_=r.at_+1):=by
 unfold B9
 refine T.bind (Kc hr) fun m hm=>?_
 have bad:T (Fs r m true) fun x=>Rd ms x.2∧r.at_≤x.2.at_∧(x.2.why=0→r.why=0∧x.2.at_=r.at_+1):=
  T.bind (NX hr (by decide)) fun r' hr'=> .some ⟨hr'.1,by simp only;rw [hr'.2.1];omega,fun h=>absurd h hr'.2.2⟩
 refine T.cond (fun _=>bad) fun hw=>?_
 cases hk:(m.kind != 0)
 ·unfold Fs
  rw [Ma hlen hr]
  have h2:=(UZ hM hm).1 (by rw [JK hk];decide)
  have:=hr.2.1
  exact .some ⟨⟨hr.1,by show 0≤r.at_+1;omega,by show r.at_+1<_;omega⟩,by show r.at_≤r.at_+1;omega,fun _=>⟨JK hw,rfl⟩⟩
 ·exact bad
theorem Ua(hM:GM ms){r:AB}{N:Nat}(hN:5≤N)(hr:Rd ms r):T (CC N r) fun x=>Rd ms x.2∧r.at_≤x.2.at_∧(x.2.why=0→r.why=0∧x.2.at_=r.at_+1∧1≤x.1∧x.1≤3):=by
 have key: ∀(k:Nat) (i:Int),0≤i→i≤3→3 - i<k→T (CB k i r.marks r.at_ r.why r.where_ r.l.text r.l.funcs r.l.arity r.l.nest r.nest) fun x=>Rd ms x.2∧r.at_≤x.2.at_∧(x.2.why=0→r.why=0∧x.2.at_=r.at_+1∧1≤x.1∧x.1≤3):=by
  intro k
  induction k with
  |zero=>intro i _ _ _;omega
  |succ k ih=>
   intro i h0 h1 h2
   show T (Cz (CB k) i r.marks r.at_ r.why r.where_ r.l.text r.l.funcs r.l.arity r.l.nest r.nest) _
   unfold Cz
   refine T.cond (fun h=>?_) fun h=>?_
   ·have h:=CN h
    have h:i<3:=h
    refine T.bind (FJ h0 (by simpa using h)) fun s _=>T.bind (NY hlen hM (r:=r) hr) fun x hx=>T.cond (fun hb=>?_) fun hb=>?_
    ·obtain ⟨h3,e,h4⟩:=hx.1 hb
     rw [e,wr (by omega) (by omega)]
     exact .some ⟨h4,by show r.at_≤r.at_+1;omega,fun _=>⟨h3,rfl,by simp only;omega,by simp only;omega⟩⟩
    ·rw [hx.2 hb,wr (by omega) (by omega)]
     exact ih _ (by omega) (by omega) (by omega)
   ·exact T.bind (NX (r:=r) hr (by decide)) fun r' hr'=> .some ⟨hr'.1,by simp only;rw [hr'.2.1];omega,fun h=>absurd h hr'.2.2⟩
 exact key N 0 (by omega) (by omega) (by omega)
omit hlen
def EP(ms:List Ac)(r:AB)(x:AE×AB):Prop:=Rd ms x.2∧r.at_≤x.2.at_∧(x.2.why=0→r.why=0∧WE x.1∧(EY x.1:Int)≤x.2.at_ - r.at_)
def Fu(ms:List Ac)(n:Nat)(r:AB)(lvl:Int):Prop:=lvl≤n∧(r.why=0→20*((ms.length:Int) - r.at_)+lvl≤n)
structure PSp(ms:List Ac)(n:Nat)(φ:AC):Prop where
 expr: ∀r,Rd ms r→Fu ms n r 18→T (φ.ref04_reader_expr r) (EP ms r)
 cons: ∀r,Rd ms r→Fu ms n r 17→T (φ.ref04_reader_cons r) (EP ms r)
 comp: ∀r,Rd ms r→Fu ms n r 16→T (φ.ref04_reader_comp r) (EP ms r)
 sum: ∀r,Rd ms r→Fu ms n r 15→T (φ.ref04_reader_sum r) (EP ms r)
 term: ∀r,Rd ms r→Fu ms n r 14→T (φ.ref04_reader_term r) (EP ms r)
 unit: ∀r,Rd ms r→Fu ms n r 13→T (φ.ref04_reader_unit r) (EP ms r)
 named: ∀r m,Rd ms r→r.why=0→Fu ms n r 12→T (φ.ref04_reader_named r m) fun x=>Rd ms x.2∧r.at_≤x.2.at_∧(x.2.why=0→WE x.1∧(EY x.1:Int)≤x.2.at_ - r.at_+1)
 parts: ∀r l,Rd ms r→l.length≤3→Fu ms n r 19→T (φ.ref04_reader_parts r l) fun x=>Rd ms x.2∧r.at_≤x.2.at_∧(x.2.why=0→(l≠[]→r.why=0)∧x.1.length=l.length∧(∀a∈x.1,WE a)∧(Cv x.1:Int)≤x.2.at_ - r.at_)
 branches: ∀r e,Rd ms r→Fu ms n r 19→T (φ.ref04_reader_branches r e) fun x=>Rd ms x.1∧r.at_≤x.1.at_∧(x.1.why=0→r.why=0∧WE x.2∧(EY x.2:Int)≤x.1.at_ - r.at_+1)
theorem Fu.le{n m:Nat}{r r':AB}{l l':Int}(h:Fu ms n r l)(ha:r.at_≤r'.at_)(hw:r'.why=0→r.why=0)(hl:l'+n≤l+m):Fu ms m r' l':=by
 obtain ⟨h1,h2⟩:=h
 exact ⟨by omega,fun h=>by have:=h2 (hw h);omega⟩
theorem Fu.lt{n m:Nat}{r r':AB}{l l':Int}(h:Fu ms n r l)(ha:r.at_<r'.at_)(hw:r.why=0)(h1:r.at_<ms.length)(hl:l'+n≤l+20+m):Fu ms m r' l':=by
 obtain ⟨h1,h2⟩:=h
 have:=h2 hw
 exact ⟨by omega,fun _=>by omega⟩
theorem WE.two{op:Int}{a b:AE}{nm tl:List UInt8}{ty:Int}{z:Nat×Nat}{p:Int}(ho:(8≤op∧op≤13)∨op=18)(ha:WE a)(hb:WE b):WE ⟨op,nm,tl,ty,z,[a,b],p⟩:=by
 refine .mk _ ?_ (fun h=>?_) (fun h=>?_) fun x hx=>?_
 ·rcases ho with ho|ho
  ·exact .inr (.inr (.inl ⟨ho.1,ho.2,rfl⟩))
  ·exact .inr (.inr (.inr (.inr (.inl ⟨ho,rfl⟩))))
 ·simp only at h;omega
 ·simp only at h;omega
 ·simp at hx;rcases hx with rfl|rfl<;>assumption
section
variable(hlen:ms.length≤1000000000)(hM:GM ms){n:Nat}{φ:AC}(hφ:PSp ms n φ)
include hlen hM hφ
theorem ABF{r:AB}(hr:Rd ms r)(hf:Fu ms (n+1) r 17):T (Co φ n r) (EP ms r):=by
 unfold Co
 refine T.bind (hφ.comp r hr (hf.le (by omega) id (by omega))) fun x hx=>T.bind (Kc hx.1) fun m _=>T.bind (NY hlen hM hx.1) fun y hy=>T.cond (fun hb=>?_) fun hb=>?_
 ·rw [hy.2 (by simpa using hb)]
  exact .some hx
 ·obtain ⟨h0,e,h1⟩:=hy.1 (by simpa using hb)
  rw [e]
  have h2:=hx.2.2 h0
  have h3:=hx.2.1
  refine T.bind (hφ.cons _ h1 (hf.lt (by show r.at_<x.2.at_+1;omega) h2.1 hr.2.2 (by omega))) fun z hz=>?_
  refine .some (a:=_) ⟨hz.1,by have:=hz.2.1;simp only [Jp] at this;simp only;omega,fun hw=>?_⟩
  have hz':=hz.2.2 hw
  refine ⟨h2.1,.two (.inr rfl) h2.2.1 hz'.2.1,?_⟩
  have hz1:=hz'.2.2
  simp only [Jp] at hz1
  simp only [EY,Cv]
  omega
theorem ABG{r:AB}(hr:Rd ms r)(hf:Fu ms (n+1) r 16):T (Cp φ n r) (EP ms r):=by
 unfold Cp
 refine T.bind (hφ.sum r hr (hf.le (by omega) id (by omega))) fun x hx=>T.bind (Kc hx.1) fun m _=>T.bind (Nd hM hx.1) fun b _=>?_
 have go: ∀op:Int,8≤op∧op≤13→T (De φ x m op) (EP ms r):=by
  intro op hop
  have yes: ∀y:AB,x.2.why=0→y=Jp x.2→Rd ms y→T (D4 φ x m op false y.marks y.at_ y.why y.where_ y.l.text y.l.funcs y.l.arity y.l.nest y.nest) (EP ms r):=by
   rintro y h0 rfl h1
   have h2:=hx.2.2 h0
   have h3:=hx.2.1
   refine T.cond (fun h=>by cases h) fun _=>T.bind (hφ.sum (Jp x.2) h1 (hf.lt (by show r.at_<x.2.at_+1;omega) h2.1 hr.2.2 (by omega))) fun z hz=>?_
   refine .some (a:=_) ⟨hz.1,by have:=hz.2.1;simp only [Jp] at this;simp only;omega,fun hw=>?_⟩
   have hz':=hz.2.2 hw
   refine ⟨h2.1,.two (.inl hop) h2.2.1 hz'.2.1,?_⟩
   have hz1:=hz'.2.2
   simp only [Jp] at hz1
   simp only [EY,Cv]
   omega
  unfold De
  refine T.bind (NY hlen hM hx.1) fun y hy=>T.cond (fun hb=>?_) fun hb=>?_
  ·rw [hy.2 (by simpa using hb)]
   refine T.bind (NY hlen hM hx.1) fun y hy=>?_
   cases hb:y.1
   ·rw [hy.2 hb]
    exact .some hx
   ·obtain ⟨h0,e,h1⟩:=hy.1 hb
    exact yes _ h0 e (e▸h1)
  ·obtain ⟨h0,e,h1⟩:=hy.1 (by simpa using hb)
   exact yes _ h0 e (e▸h1)
 exact T.cond (fun _=>go 13 ⟨by omega,by omega⟩) fun _=>go 12 ⟨by omega,by omega⟩
theorem ABp{r:AB}(hr:Rd ms r)(hf:Fu ms (n+1) r 15):T (DG φ n r) (EP ms r):=by
 unfold DG
 refine T.bind (hφ.term r hr (hf.le (by omega) id (by omega))) fun x hx=>?_
 have key: ∀(k:Nat) (x:AE×AB),EP ms r x→1≤k→(x.2.why=0→(ms.length:Int) - x.2.at_<k)→T (Bj φ k x.2.marks x.2.at_ x.2.why x.2.where_ x.2.l.text x.2.l.funcs x.2.l.arity x.2.l.nest x.2.nest x.1.op x.1.name x.1.tail x.1.type_ x.1.num x.1.args x.1.at_) (EP ms r):=by
  intro k
  induction k with
  |zero=>intro x _ _ _;omega
  |succ k ih=>
   intro x hx _ hk
   have go: ∀b,(b=true→x.2.why=0∧x.2.at_+1<ms.length)→T (Ds φ x.2.marks x.2.at_ x.2.why x.2.where_ x.2.l.text x.2.l.funcs x.2.l.arity x.2.l.nest x.2.nest x.1.op x.1.name x.1.tail x.1.type_ x.1.num x.1.args x.1.at_ (Bj φ k) b) (EP ms r):=by
    intro b hb
    unfold Ds
    refine T.cond (fun h=>?_) fun _=> .some (by rw [PH];exact hx)
    obtain ⟨h0,h1⟩:=hb h
    have h2:=hx.2.2 h0
    have h3:=hx.2.1
    have hk:=hk h0
    have hbr:Rd ms (Jp x.2):=⟨hx.1.1,by show 0≤x.2.at_+1;have:=hx.1.2.1;omega,h1⟩
    refine T.bind (Kc (r:=x.2) hx.1) fun m _=>?_
    rw [Ma hlen hx.1]
    refine T.bind (hφ.term (Jp x.2) hbr (hf.lt (by show r.at_<x.2.at_+1;omega) h2.1 hr.2.2 (by omega))) fun z hz=>?_
    have hz1:=hz.2.1
    simp only [Jp] at hz1
    have fin: ∀op:Int,8≤op∧op≤13→T (Dr x.1.op x.1.name x.1.tail x.1.type_ x.1.num x.1.args x.1.at_ (Bj φ k) m z op) (EP ms r):=by
     intro op hop
     unfold Dr
     rw [PH]
     refine ih (⟨op,[],[],0,(0,0),[x.1,z.1],m.at_⟩,z.2) ⟨hz.1,by simp only;omega,fun hw=>?_⟩ ?_ fun hw=>?_
     ·have hz':=hz.2.2 hw
      have hz2:=hz'.2.2
      simp only [Jp] at hz2
      exact ⟨h2.1,.two (.inl hop) h2.2.1 hz'.2.1,by simp only [EY,Cv];omega⟩
     ·have:=hx.1.2.2;omega
     ·simp only;omega
    exact T.cond (fun _=>fin 9 ⟨by omega,by omega⟩) fun _=>fin 8 ⟨by omega,by omega⟩
   show T (C8 φ (Bj φ k) x.2.marks x.2.at_ x.2.why x.2.where_ x.2.l.text x.2.l.funcs x.2.l.arity x.2.l.nest x.2.nest x.1.op x.1.name x.1.tail x.1.type_ x.1.num x.1.args x.1.at_) _
   unfold C8
   exact T.bind (Nd hM (r:=x.2) hx.1) fun b hb=>T.cond (fun h=>go true fun _=>hb h) fun _=>T.bind (Nd hM (r:=x.2) hx.1) fun b hb=>go b hb
 refine key n x hx (by have:=hf.1;omega) fun hw=>?_
 have h2:=hx.2.2 hw
 have h3:=hf.2 h2.1
 have:=hx.2.1
 have:=hr.2.2
 omega
theorem ABH{r:AB}(hr:Rd ms r)(hf:Fu ms (n+1) r 14):T (Cq φ n r) (EP ms r):=by
 unfold Cq
 refine T.bind (hφ.unit r hr (hf.le (by omega) id (by omega))) fun x hx=>?_
 have key: ∀(k:Nat) (x:AE×AB),EP ms r x→1≤k→(x.2.why=0→(ms.length:Int) - x.2.at_<k)→T (Bd φ k x.2.marks x.2.at_ x.2.why x.2.where_ x.2.l.text x.2.l.funcs x.2.l.arity x.2.l.nest x.2.nest x.1.op x.1.name x.1.tail x.1.type_ x.1.num x.1.args x.1.at_) (EP ms r):=by
  intro k
  induction k with
  |zero=>intro x _ _ _;omega
  |succ k ih=>
   intro x hx _ hk
   have go: ∀b,(b=true→x.2.why=0∧x.2.at_+1<ms.length)→T (Dg φ x.2.marks x.2.at_ x.2.why x.2.where_ x.2.l.text x.2.l.funcs x.2.l.arity x.2.l.nest x.2.nest x.1.op x.1.name x.1.tail x.1.type_ x.1.num x.1.args x.1.at_ (Bd φ k) b) (EP ms r):=by
    intro b hb
    unfold Dg
    refine T.cond (fun h=>?_) fun _=> .some (by rw [PH];exact hx)
    obtain ⟨h0,h1⟩:=hb h
    have h2:=hx.2.2 h0
    have h3:=hx.2.1
    have hk:=hk h0
    have hbr:Rd ms (Jp x.2):=⟨hx.1.1,by show 0≤x.2.at_+1;have:=hx.1.2.1;omega,h1⟩
    refine T.bind (Kc (r:=x.2) hx.1) fun m _=>?_
    rw [Ma hlen hx.1]
    refine T.bind (hφ.unit (Jp x.2) hbr (hf.lt (by show r.at_<x.2.at_+1;omega) h2.1 hr.2.2 (by omega))) fun z hz=>?_
    have hz1:=hz.2.1
    simp only [Jp] at hz1
    have fin: ∀op:Int,8≤op∧op≤13→T (Df x.1.op x.1.name x.1.tail x.1.type_ x.1.num x.1.args x.1.at_ (Bd φ k) m z op) (EP ms r):=by
     intro op hop
     unfold Df
     rw [PH]
     refine ih (⟨op,[],[],0,(0,0),[x.1,z.1],m.at_⟩,z.2) ⟨hz.1,by simp only;omega,fun hw=>?_⟩ ?_ fun hw=>?_
     ·have hz':=hz.2.2 hw
      have hz2:=hz'.2.2
      simp only [Jp] at hz2
      exact ⟨h2.1,.two (.inl hop) h2.2.1 hz'.2.1,by simp only [EY,Cv];omega⟩
     ·have:=hx.1.2.2;omega
     ·simp only;omega
    exact T.cond (fun _=>fin 11 ⟨by omega,by omega⟩) fun _=>fin 10 ⟨by omega,by omega⟩
   show T (Cg φ (Bd φ k) x.2.marks x.2.at_ x.2.why x.2.where_ x.2.l.text x.2.l.funcs x.2.l.arity x.2.l.nest x.2.nest x.1.op x.1.name x.1.tail x.1.type_ x.1.num x.1.args x.1.at_) _
   unfold Cg
   exact T.bind (Nd hM (r:=x.2) hx.1) fun b hb=>T.cond (fun h=>go true fun _=>hb h) fun _=>T.bind (Nd hM (r:=x.2) hx.1) fun b hb=>go b hb
 refine key n x hx (by have:=hf.1;omega) fun hw=>?_
 have h2:=hx.2.2 hw
 have h3:=hf.2 h2.1
 have:=hx.2.1
 have:=hr.2.2
 omega
omit hφ hM hlen in
theorem Zf(s:List UInt8):T (HX s) fun o=>o=0∨(2≤o∧o≤5)∨(14≤o∧o≤17):=by
 unfold HX
 repeat (first|exact T.some (by omega)|refine T.cond (fun _=>?_) (fun _=>?_))
theorem ABI{r:AB}(hr:Rd ms r)(hf:Fu ms (n+1) r 13):T (Cr φ n r) (EP ms r):=by
 unfold Cr
 have h1:=hr.2.1
 have h2:=hr.2.2
 refine T.bind (Kc hr) fun m hm=>T.cond (fun h=> .some ⟨hr,by simp only;omega,fun h'=>absurd h' (Ko h)⟩) fun hw=>?_
 have hw:=JK hw
 have hm':=UZ hM hm
 refine T.cond (fun hk=>?_) fun hk2=>T.cond (fun hk=>?_) fun hk0=>?_
 ·rw [Ma hlen hr]
  have hk:=B7 hk
  have h3:=hm'.1 (by rw [hk];decide)
  refine .some (a:=_) ⟨⟨hr.1,by show 0≤r.at_+1;omega,by show r.at_+1<_;omega⟩,by show r.at_≤r.at_+1;omega,fun _=>⟨hw,.mk _ (.inl ⟨by simp,by simp,rfl⟩) (fun _=>hm'.2 hk) (fun h=>by simp at h) (fun a h=>by simp at h),?_⟩⟩
  simp only [EY,Cv,Jp];omega
 ·rw [Ma hlen hr]
  have hk:=B7 hk
  have h3:=hm'.1 (by rw [hk];decide)
  have hbr:Rd ms (Jp r):=⟨hr.1,by show 0≤r.at_+1;omega,by show r.at_+1<_;omega⟩
  refine T.bind (hφ.named (Jp r) m hbr hw (hf.lt (by show r.at_<r.at_+1;omega) hw h2 (by omega))) fun x hx=>?_
  have hx1:=hx.2.1
  simp only [Jp] at hx1
  refine .some (a:=_) ⟨hx.1,by simp only;omega,fun h=>⟨hw,(hx.2.2 h).1,?_⟩⟩
  have:=(hx.2.2 h).2
  simp only [Jp] at this
  simp only;omega
 ·have hk2:=Bh hk2
  have hk0:=Bh hk0
  refine T.bind (NY hlen hM hr) fun x hx=>T.cond (fun hb=>?_) fun hb=>?_
  ·obtain ⟨_,e,hbr⟩:=hx.1 hb
   rw [e]
   refine T.bind (hφ.expr (Jp r) hbr (hf.lt (by show r.at_<r.at_+1;omega) hw h2 (by omega))) fun y hy=>T.bind (IR hlen hM hy.1) fun r' hr'=>?_
   have hy1:=hy.2.1
   simp only [Jp] at hy1
   refine .some (a:=_) ⟨hr'.1,by have:=hr'.2.1;simp only;omega,fun h=>?_⟩
   have h3:=hr'.2.2 h
   have h4:=hy.2.2 h3.1
   have h5:=h4.2.2
   simp only [Jp] at h5
   exact ⟨hw,h4.2.1,by simp only;omega⟩
  ·have bad:T (C9 φ n m x true) (EP ms r):=by
    unfold C9
    refine T.cond (fun _=>?_) fun h=>by cases h
    rw [hx.2 hb]
    exact T.bind (NX hr (by decide)) fun r' hr'=> .some ⟨hr'.1,by simp only;rw [hr'.2.1];omega,fun h=>absurd h hr'.2.2⟩
   refine T.cond (fun _=>bad) fun hk1=>?_
   have hk1:=JK hk1
   have h3:=hm'.1 (by rw [hk1];decide)
   have hbr:Rd ms (Jp r):=⟨hr.1,by show 0≤r.at_+1;omega,by show r.at_+1<_;omega⟩
   obtain ⟨o,ho,ho'⟩:=Zf m.text
   refine T.eq ho ?_
   cases hz:(o==0)
   ·have hz:=Bh hz
    unfold C9
    refine T.cond (fun h=>by cases h) fun _=>T.eq ho ?_
    unfold Ee
    rw [hx.2 hb,Ma hlen hr]
    have fin: ∀(r':AB) (ty:Int) (l:List AE),Rd ms r'→r.at_≤r'.at_→(r'.why=0→Ar o l.length∧(o=5→1≤ty∧ty≤3)∧(∀a∈l,WE a)∧(1+Cv l:Int)≤r'.at_ - r.at_)→
      T (Ft o [] [] (0,0) m.at_ r'.marks r'.at_ r'.why r'.where_ r'.l.text r'.l.funcs r'.l.arity r'.l.nest r'.nest ty l) (EP ms r):=by
     intro r' ty l h1 h2 h3
     refine .some (a:=_) ⟨h1,h2,fun h=>⟨hw,?_,?_⟩⟩
     ·obtain ⟨ha,ht,hl,_⟩:=h3 h
      exact .mk _ ha (fun h=>by simp only at h;omega) (fun h=>ht (by simp only at h;omega)) hl
     ·have:=(h3 h).2.2.2
      simp only [EY];omega
    have j4:14≤o∧o≤17→T (CF φ (x.1,r) o [] [] 0 (0,0) m.at_ true) (EP ms r):=by
     intro ho2
     unfold CF
     refine T.cond (fun _=>?_) fun h=>by cases h
     rw [Ma hlen hr]
     refine T.bind (IR hlen hM hbr) fun r1 hr1=>?_
     have e1:=hr1.2.1
     simp only [Jp] at e1
     refine T.bind (hφ.expr r1 hr1.1 (hf.lt (by omega) hw h2 (by omega))) fun y hy=>T.bind (IR hlen hM hy.1) fun r2 hr2=>fin r2 0 [y.1] hr2.1 (by have:=hr2.2.1;have:=hy.2.1;omega) fun h=>?_
     have h5:=hr2.2.2 h
     have h6:=hy.2.2 h5.1
     refine ⟨.inr (.inr (.inr (.inl ⟨ho2.1,ho2.2,rfl⟩))),fun h=>by omega,fun a ha=>by simp at ha;subst ha;exact h6.2.1,?_⟩
     have:=h6.2.2
     rw [PI];omega
    have ex:x=(x.1,r):=by rw [←hx.2 hb]
    rw [ex]
    refine T.cond (fun h5=>?_) fun h5=>?_
    ·have h5:=B7 h5
     have:=hf.1
     refine T.bind (Ua hlen hM (by omega) hbr) fun y hy=>fin y.2 y.1 [] hy.1 (by have:=hy.2.1;simp only [Jp] at this;omega) fun h=>?_
     have h6:=hy.2.2 h
     refine ⟨.inl ⟨by omega,by omega,rfl⟩,fun _=>⟨h6.2.2.1,h6.2.2.2⟩,fun a h=>by simp at h,?_⟩
     have:=h6.2.1
     simp only [Jp] at this
     simp only [Cv];omega
    ·have h5:=Bh h5
     refine T.cond (fun h=>by rw [h];exact j4 (by have:=B7 h;omega)) fun hn1=>T.cond (fun h=>by rw [h];exact j4 (by have:=B7 h;omega)) fun hn2=>T.cond (fun h=>by rw [h];exact j4 (by have:=B7 h;omega)) fun hn3=>?_
     cases h17:(o==17)
     ·have:=Bh hn1;have:=Bh hn2;have:=Bh hn3;have:=Bh h17
      unfold CF
      refine T.cond (fun h=>by cases h) fun _=>?_
      dsimp only
      rw [wr (x:=r.at_+1) (by omega) (by omega)]
      refine fin (Jp r) 0 [] hbr (by show r.at_≤r.at_+1;omega) fun _=>⟨.inl ⟨by omega,by omega,rfl⟩,fun h=>by omega,fun a h=>by simp at h,by simp only [Cv,Jp];omega⟩
     ·exact j4 (by have:=B7 h17;omega)
   ·exact bad
theorem Zg{r:AB}{m:Ac}(hr:Rd ms r)(hw:r.why=0)(hf:Fu ms (n+1) r 12):T (CZ φ n r m) fun x=>Rd ms x.2∧r.at_≤x.2.at_∧(x.2.why=0→WE x.1∧(EY x.1:Int)≤x.2.at_ - r.at_+1):=by
 unfold CZ
 have h2:=hr.2.2
 have h1:=hr.2.1
 refine T.bind (NY hlen hM hr) fun x hx=>T.cond (fun hb=>?_) fun hb=>?_
 ·rw [hx.2 (by simpa using hb)]
  exact .some ⟨hr,by simp only;omega,fun _=>⟨.mk _ (.inl ⟨by simp,by simp,rfl⟩) (fun h=>by simp at h) (fun h=>by simp at h) (fun a h=>by simp at h),by simp only [EY,Cv];omega⟩⟩
 ·obtain ⟨_,e,hbr⟩:=hx.1 (by simpa using hb)
  have key: ∀(k:Nat) (s:AB) (l:List AE),Rd ms s→r.at_+1≤s.at_→1≤k→(s.why=0→(ms.length:Int) - s.at_<k)→(s.why=0→(∀a∈l,WE a)∧(Cv l:Int)≤s.at_ - r.at_)→
    T (BZ φ m k s.marks s.at_ s.why s.where_ s.l.text s.l.funcs s.l.arity s.l.nest s.nest l) fun x=>Rd ms x.2∧r.at_≤x.2.at_∧(x.2.why=0→WE x.1∧(EY x.1:Int)≤x.2.at_ - r.at_+1):=by
   intro k
   induction k with
   |zero=>intro s l _ _ _ _;omega
   |succ k ih=>
    intro s l hs hat _ hk hl
    show T (CW φ m (BZ φ m k) s.marks s.at_ s.why s.where_ s.l.text s.l.funcs s.l.arity s.l.nest s.nest l) _
    unfold CW
    have fin:T (DK φ m s.marks s.at_ s.why s.where_ s.l.text s.l.funcs s.l.arity s.l.nest s.nest l (BZ φ m k) false) fun x=>Rd ms x.2∧r.at_≤x.2.at_∧(x.2.why=0→WE x.1∧(EY x.1:Int)≤x.2.at_ - r.at_+1):=by
     unfold DK
     refine T.cond (fun h=>by cases h) fun _=>T.bind (IR hlen hM (r:=s) hs) fun r' hr'=> .some ⟨hr'.1,by have:=hr'.2.1;simp only;omega,fun h=>?_⟩
     have h3:=hr'.2.2 h
     have h4:=hl h3.1
     exact ⟨.mk _ (.inr (.inl rfl)) (fun h=>by simp at h) (fun h=>by simp at h) h4.1,by simp only [EY];omega⟩
    refine T.cond (fun hsw=>?_) fun _=>fin
    have hsw:=B7 hsw
    refine T.bind (Nd hM (r:=s) hs) fun b _=>?_
    cases b
    ·have go: ∀s':AB,Rd ms s'→s.at_≤s'.at_→T (DJ φ l (BZ φ m k) s'.marks s'.at_ s'.why s'.where_ s'.l.text s'.l.funcs s'.l.arity s'.l.nest s'.nest) fun x=>Rd ms x.2∧r.at_≤x.2.at_∧(x.2.why=0→WE x.1∧(EY x.1:Int)≤x.2.at_ - r.at_+1):=by
      intro s' hs' hle
      unfold DJ
      have h5:=hs.2.2
      refine T.bind (hφ.expr s' hs' (hf.lt (by omega) hw h2 (by omega))) fun y hy=>?_
      have hy1:=hy.2.1
      have hll':=hl hsw
      have hlen':=MG l
      refine T.bind (GS (by omega) (by simp;omega)) fun _ _=>ih y.2 (l++[y.1]) hy.1 (by omega) ?_ (fun h=>?_) fun h=>?_
      ·have:=hk hsw;omega
      ·have:=hy.2.2 h;have:=Lz y.1;have:=hk hsw;omega
      ·have h6:=hy.2.2 h
       refine ⟨fun a ha=>?_,?_⟩
       ·rcases List.mem_append.1 ha with ha|ha
        ·exact hll'.1 a ha
        ·simp at ha;subst ha;exact h6.2.1
       ·rw [Jm,PI];omega
     refine T.cond (fun _=>T.cond (fun _=>T.bind (IR hlen hM (r:=s) hs) fun s' hs'=>go s' hs'.1 hs'.2.1) fun _=>go s hs (by omega)) fun h=>by cases h
    ·exact fin
  rw [e]
  refine key n (Jp r) [] hbr (by show r.at_+1≤r.at_+1;omega) (by have:=hf.1;omega) (fun _=>?_) fun _=>⟨fun a h=>by simp at h,by simp only [Cv,Jp];omega⟩
  have:=hf.2 hw
  simp only [Jp];omega
theorem Zh{r:AB}{ws:List (List UInt8)}(hr:Rd ms r)(hl3:ws.length≤3)(hf:Fu ms (n+1) r 19):T (CY φ n r ws) fun x=>Rd ms x.2∧r.at_≤x.2.at_∧(x.2.why=0→(ws≠[]→r.why=0)∧x.1.length=ws.length∧(∀a∈x.1,WE a)∧(Cv x.1:Int)≤x.2.at_ - r.at_):=by
 unfold CY
 have key: ∀(k:Nat) (i:Nat) (l:List AE) (s:AB),i≤ws.length→ws.length<i+k→l.length=i→Rd ms s→r.at_≤s.at_→(s.why=0→r.why=0∧(∀a∈l,WE a)∧(Cv l:Int)≤s.at_ - r.at_)→
   T (Bg φ ws k l (i:Int) s.marks s.at_ s.why s.where_ s.l.text s.l.funcs s.l.arity s.l.nest s.nest) fun x=>Rd ms x.2∧r.at_≤x.2.at_∧(x.2.why=0→(ws≠[]→r.why=0)∧x.1.length=ws.length∧(∀a∈x.1,WE a)∧(Cv x.1:Int)≤x.2.at_ - r.at_):=by
  intro k
  induction k with
  |zero=>intro i l s _ _;omega
  |succ k ih=>
   intro i l s hi hk hli hs hat hw
   show T (CV φ ws (Bg φ ws k) l i s.marks s.at_ s.why s.where_ s.l.text s.l.funcs s.l.arity s.l.nest s.nest) _
   unfold CV
   refine T.cond (fun h=>?_) fun h=>?_
   ·have h:=CN h
    have go: ∀s':AB,Rd ms s'→s.at_≤s'.at_→(s'.why=0→s.why=0)→T (DI φ l i (Bg φ ws k) s'.marks s'.at_ s'.why s'.where_ s'.l.text s'.l.funcs s'.l.arity s'.l.nest s'.nest) fun x=>Rd ms x.2∧r.at_≤x.2.at_∧(x.2.why=0→(ws≠[]→r.why=0)∧x.1.length=ws.length∧(∀a∈x.1,WE a)∧(Cv x.1:Int)≤x.2.at_ - r.at_):=by
     intro s' hs' hle hw'
     unfold DI
     refine T.bind (hφ.expr s' hs' (hf.le (by omega) (fun h=>(hw (hw' h)).1) (by omega))) fun y hy=>T.bind (GS (by omega) (by simp;omega)) fun _ _=>?_
     rw [wr (by omega) (by omega),show (i:Int)+1=((i+1:Nat):Int) by omega]
     refine ih (i+1) (l++[y.1]) y.2 (by omega) (by omega) (by simp;omega) hy.1 (by have:=hy.2.1;omega) fun h=>?_
     have h1:=hy.2.2 h
     have h2:=hw (hw' h1.1)
     refine ⟨h2.1,fun a ha=>?_,?_⟩
     ·rcases List.mem_append.1 ha with ha|ha
      ·exact h2.2.1 a ha
      ·simp at ha;subst ha;exact h1.2.1
     ·rw [Jm,PI];have:=h1.2.2;have:=h2.2.2;omega
    refine T.bind (FJ (by omega) h) fun w _=>T.cond (fun _=>T.bind (IR hlen hM (r:=s) hs) fun s' hs'=>go s' hs'.1 hs'.2.1 fun h=>(hs'.2.2 h).1) fun _=>go s hs (by omega) id
   ·have h:=Dn h
    exact .some ⟨hs,hat,fun h'=>⟨fun _=>(hw h').1,by simp only;omega,(hw h').2.1,(hw h').2.2⟩⟩
 cases ws with
 |nil=>
  obtain ⟨n,rfl⟩: ∃m,n=m+1:=⟨n - 1,by have:=hf.1;omega⟩
  exact .some ⟨hr,by simp only;omega,fun _=>⟨fun h=>absurd rfl h,rfl,fun a h=>(by cases h),by simp [Cv]⟩⟩
 |cons w ws=>
  rcases Decidable.em (r.why=0) with h|h
  ·exact key n 0 [] r (by omega) (by have:=hf.1;omega) rfl hr (by omega) fun _=>⟨h,fun a h=>(by cases h),by simp [Cv]⟩
  ·exact key n 0 [] r (by omega) (by have:=hf.1;omega) rfl hr (by omega) fun h'=>absurd h' h
theorem V0{r:AB}{e:AE}(hr:Rd ms r)(hf:Fu ms (n+1) r 19):T (Bz φ n r e) fun x=>Rd ms x.1∧r.at_≤x.1.at_∧(x.1.why=0→r.why=0∧WE x.2∧(EY x.2:Int)≤x.1.at_ - r.at_+1):=by
 unfold Bz
 refine T.bind (hφ.expr r hr (hf.le (by omega) id (by omega))) fun a ha=>T.bind (IR hlen hM ha.1) fun r1 h1=>T.bind (IR hlen hM h1.1) fun r2 h2=>T.bind (IR hlen hM h2.1) fun r3 h3=>?_
 have a1:=ha.2.1;have b1:=h1.2.1;have b2:=h2.2.1;have b3:=h3.2.1
 refine T.bind (hφ.expr r3 h3.1 (hf.le (by omega) (fun h=>(ha.2.2 (h1.2.2 (h2.2.2 (h3.2.2 h).1).1).1).1) (by omega))) fun b hb=>T.bind (IR hlen hM hb.1) fun r4 h4=>T.bind (Pf hlen hM h4.1) fun x5 h5=>T.bind (IR hlen hM h5.1) fun r6 h6=>T.bind (Pf hlen hM h6.1) fun x7 h7=>T.bind (IR hlen hM h7.1) fun r8 h8=>?_
 have a2:=hb.2.1;have b4:=h4.2.1;have b5:=h5.2.1;have b6:=h6.2.1;have b7:=h7.2.1;have b8:=h8.2.1
 have back:r8.why=0→b.2.why=0:=fun h=>(h4.2.2 (h5.2.2 (h6.2.2 (h7.2.2 (h8.2.2 h).1).1).1).1).1
 have back2:r3.why=0→a.2.why=0:=fun h=>(h1.2.2 (h2.2.2 (h3.2.2 h).1).1).1
 refine T.bind (hφ.expr r8 h8.1 (hf.le (by omega) (fun h=>(ha.2.2 (back2 (hb.2.2 (back h)).1)).1) (by omega))) fun c hc=>?_
 have a3:=hc.2.1
 refine .some (a:=_) ⟨hc.1,by simp only;omega,fun h=>?_⟩
 have p3:=hc.2.2 h
 have p2:=hb.2.2 (back p3.1)
 have p1:=ha.2.2 (back2 p2.1)
 have e1:=p1.2.2;have e2:=p2.2.2;have e3:=p3.2.2
 refine ⟨p1.1,.mk _ (.inr (.inr (.inr (.inr (.inr (.inl ⟨by simp,by simp,rfl⟩)))))) (fun h=>by simp at h) (fun h=>by simp at h) fun x hx=>?_,?_⟩
 ·simp at hx
  rcases hx with rfl|rfl|rfl
  ·exact p1.2.1
  ·exact p2.2.1
  ·exact p3.2.1
 ·simp only [EY,Cv];omega
theorem ABJ{r:AB}(hr:Rd ms r)(hf:Fu ms (n+1) r 18):T (Cm φ n r) (EP ms r):=by
 unfold Cm
 have hr1:=hr.2.1
 have hr2:=hr.2.2
 refine T.bind (Kc hr) fun m hm=>?_
 have out: ∀(bd:Bool) (y:AB) (e:AE),Rd ms y→r.at_≤y.at_→(y.why=0→r.why=0∧WE e∧(EY e:Int)≤y.at_ - r.at_)→
   T (Ed bd y.marks y.at_ y.why y.where_ y.l.text y.l.funcs y.l.arity y.l.nest y.nest e.op e.name e.tail e.type_ e.num e.args e.at_) (EP ms r):=by
  intro bd y e hy hat hw
  unfold Ed HE
  rw [PH]
  exact T.cond (fun _=> .some ⟨hy,hat,hw⟩) fun _=> .some ⟨hy,hat,hw⟩
 have j7: ∀(bd:Bool) (y:AB) (op:Int),21≤op∧op≤22→Rd ms y→y.at_=r.at_→y.why=0→r.why=0→Rd ms (Jp y)→∀nn:Int,T (DZ φ n m bd y.marks y.at_ y.why y.where_ y.l.text y.l.funcs y.l.arity y.l.nest nn op) (EP ms r):=by
  intro bd y op hop hy hat hw hrw hby nn
  unfold DZ
  rw [wr (x:=y.at_+1) (by have:=hy.2.1;omega) (by have:=hy.2.2;omega)]
  have hby':Rd ms (AB.mk y.marks (y.at_+1) y.why y.where_ (Af.mk y.l.text y.l.funcs y.l.arity y.l.nest) nn):=hby
  refine T.bind (Pf hlen hM hby') fun x hx=>?_
  have h1:=hf.1
  refine T.bind (Ua hlen hM (by omega) hx.1) fun t ht=>?_
  have x1:=hx.2.1;have t1:=ht.2.1
  simp only at x1
  refine T.bind (hφ.parts t.2 _ ht.1 (by simp) (hf.lt (by omega) hrw hr2 (by omega))) fun l hl=>?_
  have l1:=hl.2.1
  refine out bd l.2 ⟨op,x.1.text,[],t.1,(0,0),l.1,m.at_⟩ hl.1 (by omega) fun h=>?_
  have p:=hl.2.2 h
  have q:=ht.2.2 (p.1 (by simp))
  refine ⟨hrw,.mk _ (.inr (.inr (.inr (.inr (.inr (.inr ⟨hop.1,hop.2,p.2.1⟩)))))) (fun h=>by simp only at h;omega) (fun _=>⟨q.2.2.1,q.2.2.2⟩) p.2.2.1,?_⟩
  have:=p.2.2.2
  simp only [EY];omega
 have j4: ∀(bd:Bool) (y:AB),Rd ms y→y.at_=r.at_→y.why=0→r.why=0→Rd ms (Jp y)→∀nn:Int,T (Da φ n m bd y.marks y.at_ y.why y.where_ y.l.text y.l.funcs y.l.arity y.l.nest nn) (EP ms r):=by
  intro bd y hy hat hw hrw hby nn
  unfold Da
  have hby':Rd ms (AB.mk y.marks (y.at_+1) y.why y.where_ (Af.mk y.l.text y.l.funcs y.l.arity y.l.nest) nn):=hby
  refine T.cond (fun _=>?_) fun _=>T.cond (fun _=>?_) fun _=>T.cond (fun _=>j7 bd y 22 ⟨by omega,by omega⟩ hy hat hw hrw hby nn) fun _=>j7 bd y 21 ⟨by omega,by omega⟩ hy hat hw hrw hby nn
  ·rw [wr (x:=y.at_+1) (by have:=hy.2.1;omega) (by have:=hy.2.2;omega)]
   refine T.bind (hφ.parts _ _ hby' (by simp) (hf.lt (by show r.at_<y.at_+1;omega) hrw hr2 (by omega))) fun l hl=>?_
   have l1:=hl.2.1
   simp only at l1
   refine out bd l.2 ⟨19,[],[],0,(0,0),l.1,m.at_⟩ hl.1 (by omega) fun h=>?_
   have p:=hl.2.2 h
   refine ⟨hrw,.mk _ (.inr (.inr (.inr (.inr (.inr (.inl ⟨by simp,by simp,p.2.1⟩)))))) (fun h=>by simp at h) (fun h=>by simp at h) p.2.2.1,?_⟩
   have:=p.2.2.2
   simp only at this
   simp only [EY];omega
  ·rw [wr (x:=y.at_+1) (by have:=hy.2.1;omega) (by have:=hy.2.2;omega)]
   refine T.bind (hφ.branches _ _ hby' (hf.lt (by show r.at_<y.at_+1;omega) hrw hr2 (by omega))) fun l hl=>?_
   have l1:=hl.2.1
   simp only at l1
   refine out bd l.1 l.2 hl.1 (by omega) fun h=>?_
   have p:=hl.2.2 h
   have:=p.2.2
   simp only at this
   exact ⟨hrw,p.2.1,by omega⟩
 have j2: ∀(bd:Bool) (y:AB),Rd ms y→y.at_=r.at_→(y.why=0→r.why=0)→(bd=true→y.why=0→Rd ms (Jp y))→T (Dc φ n m bd y.marks y.at_ y.why y.where_ y.l.text y.l.funcs y.l.arity y.l.nest y.nest) (EP ms r):=by
  intro bd y hy hat hw hb
  unfold Dc
  refine T.cond (fun h=> .some ⟨hy,by simp only;omega,fun h'=>absurd h' (Ko h)⟩) fun h=>?_
  have h:=JK h
  have hrw:=hw h
  refine T.cond (fun hbd=>?_) fun hbd=>?_
  ·refine T.bind (Nd hM (r:=y) hy) fun c hc=>?_
   unfold Db
   refine T.cond (fun _=>?_) fun hc'=>T.cond (fun h'=>by rw [h'] at hbd;cases hbd) fun _=>?_
   ·refine T.bind (hφ.cons y hy (hf.le (by omega) (fun _=>hrw) (by omega))) fun z hz=> .some ⟨hz.1,by have:=hz.2.1;simp only;omega,fun h=>?_⟩
    have:=hz.2.2 h
    exact ⟨hrw,this.2.1,by have:=this.2.2;simp only;omega⟩
   ·have hc1:=hc (by simpa using hc')
    exact j4 bd y hy hat h hrw ⟨hy.1,by show 0≤y.at_+1;omega,hc1.2⟩ y.nest
  ·have hbd:bd=true:=by simpa using hbd
   unfold Db
   refine T.cond (fun h=>by cases h) fun _=>T.cond (fun _=>j4 bd y hy hat h hrw (hb hbd h) _) fun h'=>by rw [h'] at hbd;cases hbd
 have j8: ∀(bd c:Bool),(bd=true→r.why=0∧r.at_+1<ms.length)→T (Dd φ n r m bd c) (EP ms r):=by
  intro bd c hb
  unfold Dd
  refine T.cond (fun _=>T.bind (NX hr (by decide)) fun y hy=>j2 bd y hy.1 hy.2.1 (fun h=>absurd h hy.2.2) fun _ h=>absurd h hy.2.2) fun _=>j2 bd r hr rfl id fun h _=>⟨hr.1,by show 0≤r.at_+1;omega,(hb h).2⟩
 have j1: ∀(bd:Bool),(bd=true→r.why=0∧r.at_+1<ms.length)→T (C7 φ n r m bd) (EP ms r):=by
  intro bd hb
  unfold C7
  exact T.cond (fun _=>j8 bd _ hb) fun _=>j8 bd _ hb
 refine T.bind (Nd hM hr) fun b hb=>T.cond (fun h=>j1 true fun _=>hb h) fun _=>T.bind (Nd hM hr) fun b hb=>T.cond (fun h=>j1 true fun _=>hb h) fun _=>T.bind (Nd hM hr) fun b hb=>j1 b hb
omit hφ in
theorem psp: ∀n,PSp ms n (AC.at n)
 |0=>⟨fun r _ h=>absurd h.1 (by decide),fun r _ h=>absurd h.1 (by decide),fun r _ h=>absurd h.1 (by decide),fun r _ h=>absurd h.1 (by decide),fun r _ h=>absurd h.1 (by decide),fun r _ h=>absurd h.1 (by decide),fun r _ _ _ h=>absurd h.1 (by decide),fun r _ _ _ h=>absurd h.1 (by decide),fun r _ _ h=>absurd h.1 (by decide)⟩
 |n+1=>
  have hp:=psp n
  ⟨fun _ hr hf=>ABJ hlen hM hp hr hf,fun _ hr hf=>ABF hlen hM hp hr hf,fun _ hr hf=>ABG hlen hM hp hr hf,fun _ hr hf=>ABp hlen hM hp hr hf,fun _ hr hf=>ABH hlen hM hp hr hf,fun _ hr hf=>ABI hlen hM hp hr hf,
   fun _ _ hr hw hf=>Zg hlen hM hp hr hw hf,fun _ _ hr hl hf=>Zh hlen hM hp hr hl hf,fun _ _ hr hf=>V0 hlen hM hp hr hf⟩
end
end
end Fth
namespace Fth
open Go
structure WFn(f:AK):Prop where
 body:WE f.body
 size:EY f.body≤1000000
 pars:f.params.length≤1000000
 typ:1≤f.type_∧f.type_≤3
 ptyp: ∀x∈f.params,1≤x.type_∧x.type_≤3
structure WP(p:AM):Prop where
 fns: ∀f∈p.funcs,WFn f
 len:p.funcs.length≤50000
section
variable{ms:List Ac}(hlen:ms.length≤40000)(hM:GM ms){N:Nat}(hN:1000000≤N)
include hlen hM hN
theorem ABK{r:AB}{k:Int}(hr:Rd ms r):T (Cf N r k) fun x=>Rd ms x.2∧r.at_≤x.2.at_∧(x.2.why=0→r.why=0∧r.at_<x.2.at_∧WFn x.1):=by
 have hlen':ms.length≤1000000000:=by omega
 have hps:=psp hlen' hM N
 have fu: ∀r,Rd ms r→Fu ms N r 18:=fun r hr=>⟨by omega,fun _=>by have:=hr.2.1;omega⟩
 have j1: ∀s:AB,Rd ms s→r.at_≤s.at_→(s.why=0→r.why=0)→T (Dv N s.marks s.at_ s.why s.where_ s.l.text s.l.funcs s.l.arity s.l.nest s.nest) fun x=>Rd ms x.2∧r.at_≤x.2.at_∧(x.2.why=0→r.why=0∧r.at_<x.2.at_∧WFn x.1):=by
  intro s hs hat hw
  unfold Dv
  refine T.bind (Pf hlen' hM (r:=s) hs) fun x hx=>T.bind (IR hlen' hM hx.1) fun s1 h1=>?_
  have x1:=hx.2.1;have a1:=h1.2.1
  have hw1:s1.why=0→r.why=0∧r.at_<s1.at_:=fun h=>by
   have p:=h1.2.2 h
   have q:=hx.2.2 p.1
   exact ⟨hw q.1,by have:=q.2;omega⟩
  have key: ∀(k:Nat) (s:AB) (l:List AH),Rd ms s→s1.at_≤s.at_→(s.why=0→s1.why=0)→1≤k→(s.why=0→(ms.length:Int) - s.at_<k)→(s.why=0→l.length≤s.at_)→(s.why=0→∀x∈l,1≤x.type_∧x.type_≤3)→
    T (BY N x k s.marks s.at_ s.why s.where_ s.l.text s.l.funcs s.l.arity s.l.nest s.nest l) fun x=>Rd ms x.2∧r.at_≤x.2.at_∧(x.2.why=0→r.why=0∧r.at_<x.2.at_∧WFn x.1):=by
   intro k
   induction k with
   |zero=>intro s l _ _ _ _ _;omega
   |succ k ih=>
    intro s l hs hat hw _ hk hl ht
    show T (DA N x (BY N x k) s.marks s.at_ s.why s.where_ s.l.text s.l.funcs s.l.arity s.l.nest s.nest l) _
    unfold DA
    have fin:T (DP N x s.marks s.at_ s.why s.where_ s.l.text s.l.funcs s.l.arity s.l.nest s.nest l (BY N x k) false) fun x=>Rd ms x.2∧r.at_≤x.2.at_∧(x.2.why=0→r.why=0∧r.at_<x.2.at_∧WFn x.1):=by
     unfold DP
     refine T.cond (fun h=>by cases h) fun _=>T.bind (IR hlen' hM (r:=s) hs) fun s2 h2=>T.bind (IR hlen' hM h2.1) fun s3 h3=>T.bind (Ua hlen' hM (by omega) h3.1) fun t ht4=>T.bind (IR hlen' hM ht4.1) fun s5 h5=>T.bind (hps.expr s5 h5.1 (fu _ h5.1)) fun b hb=>T.bind (IR hlen' hM hb.1) fun s6 h6=>?_
     have b2:=h2.2.1;have b3:=h3.2.1;have b4:=ht4.2.1;have b5:=h5.2.1;have b6:=hb.2.1;have b7:=h6.2.1
     refine .some (a:=_) ⟨h6.1,by simp only;omega,fun h=>?_⟩
     have p1:=h6.2.2 h
     have p2:=hb.2.2 p1.1
     have p3:=h5.2.2 p2.1
     have p4:=ht4.2.2 p3.1
     have p5:=h3.2.2 p4.1
     have p6:=h2.2.2 p5.1
     have p7:=hw1 (hw p6.1)
     have sz:=p2.2.2
     have e1:=h6.1.2.2
     have e2:=hs.2.1
     have e3:=hl p6.1
     have e4:=hs.2.2
     have e5:=h5.1.2.1
     exact ⟨p7.1,by simp only;omega,⟨p2.2.1,by simp only;omega,by simp only;omega,p4.2.2,ht p6.1⟩⟩
    refine T.cond (fun hsw=>?_) fun _=>fin
    have hsw:=B7 hsw
    refine T.bind (Nd hM (r:=s) hs) fun b _=>?_
    cases b
    ·have j5: ∀s':AB,Rd ms s'→s.at_≤s'.at_→T (Dt N l (BY N x k) s'.marks s'.at_ s'.why s'.where_ s'.l.text s'.l.funcs s'.l.arity s'.l.nest s'.nest) fun x=>Rd ms x.2∧r.at_≤x.2.at_∧(x.2.why=0→r.why=0∧r.at_<x.2.at_∧WFn x.1):=by
      intro s' hs' hle
      unfold Dt
      have hl':=hl hsw
      have hs2:=hs.2.2
      refine T.bind (Pf hlen' hM (r:=s') hs') fun y hy=>T.bind (Ua hlen' hM (by omega) hy.1) fun t ht'=>T.bind (GS (by omega) (by simp;omega)) fun _ _=>?_
      have y1:=hy.2.1;have t1:=ht'.2.1
      refine ih t.2 (l++[_]) ht'.1 (by omega) (fun _=>hw hsw) ?_ (fun h=>?_) (fun h=>?_) fun h z hz=>?_
      ·have:=hk hsw;omega
      ·have p:=ht'.2.2 h;have q:=hy.2.2 p.1;have:=hk hsw;omega
      ·have p:=ht'.2.2 h;rw [List.length_append,List.length_singleton];omega
      ·rcases List.mem_append.1 hz with hz|hz
       ·exact ht hsw z hz
       ·simp at hz;subst hz;exact (ht'.2.2 h).2.2
     have j6: ∀(s':AB) (c:Bool),Rd ms s'→s.at_≤s'.at_→T (DO N l (BY N x k) s'.marks s'.at_ s'.why s'.where_ s'.l.text s'.l.funcs s'.l.arity s'.l.nest s'.nest c) fun x=>Rd ms x.2∧r.at_≤x.2.at_∧(x.2.why=0→r.why=0∧r.at_<x.2.at_∧WFn x.1):=by
      intro s' c hs' hle
      unfold DO
      exact T.cond (fun _=>T.bind (NX (r:=s') hs' (by decide)) fun s2 h2=>j5 s2 h2.1 (by rw [h2.2.1];exact hle)) fun _=>j5 s' hs' hle
     have j4: ∀(s':AB),Rd ms s'→s.at_≤s'.at_→T (Du N l (BY N x k) s'.marks s'.at_ s'.why s'.where_ s'.l.text s'.l.funcs s'.l.arity s'.l.nest s'.nest) fun x=>Rd ms x.2∧r.at_≤x.2.at_∧(x.2.why=0→r.why=0∧r.at_<x.2.at_∧WFn x.1):=by
      intro s' hs' hle
      unfold Du
      exact T.cond (fun _=>T.bind (Kc (r:=s') hs') fun m _=>T.cond (fun _=>j6 s' _ hs' hle) fun _=>j6 s' _ hs' hle) fun _=>j6 s' _ hs' hle
     unfold DP
     exact T.cond (fun _=>T.cond (fun _=>T.bind (IR hlen' hM (r:=s) hs) fun s' h'=>j4 s' h'.1 h'.2.1) fun _=>j4 s hs (by omega)) fun h=>by cases h
    ·exact fin
  refine key N s1 [] h1.1 (by omega) id (by omega) (fun _=>?_) (fun _=>?_) fun _ x h=>by cases h
  ·have:=h1.1.2.1;omega
  ·have:=h1.1.2.1;simp;omega
 have j7: ∀c,T (Dw N r c) fun x=>Rd ms x.2∧r.at_≤x.2.at_∧(x.2.why=0→r.why=0∧r.at_<x.2.at_∧WFn x.1):=by
  intro c
  unfold Dw
  exact T.cond (fun _=>T.bind (NX hr (by decide)) fun s h=>j1 s h.1 (by rw [h.2.1];omega) fun h'=>absurd h' h.2.2) fun _=>j1 r hr (by omega) id
 unfold Cf
 exact T.bind (Kc hr) fun m _=>T.cond (fun _=>j7 _) fun _=>j7 _
theorem V1{r:AB}(hr:Rd ms r):T (Bn N r) fun x=>x.2.why=0→WP x.1:=by
 have hlen':ms.length≤1000000000:=by omega
 have key: ∀(k:Nat) (s:AB) (l:List AK),Rd ms s→1≤k→(s.why=0→(ms.length:Int) - s.at_<k)→(s.why=0→l.length≤s.at_)→(s.why=0→∀f∈l,WFn f)→
   T (BT N k s.marks s.at_ s.why s.where_ s.l.text s.l.funcs s.l.arity s.l.nest s.nest l) fun x=>x.2.why=0→WP x.1:=by
  intro k
  induction k with
  |zero=>intro s l _ _;omega
  |succ k ih=>
   intro s l hs _ hk hl hf
   show T (B8 N (BT N k) s.marks s.at_ s.why s.where_ s.l.text s.l.funcs s.l.arity s.l.nest s.nest l) _
   unfold B8
   have h2:=hs.2.2
   have fin:T (B0 N s.marks s.at_ s.why s.where_ s.l.text s.l.funcs s.l.arity s.l.nest s.nest l (BT N k) false) fun x=>x.2.why=0→WP x.1:=by
    refine .some (a:=_) fun h=>⟨hf h,?_⟩
    have:=hl h;simp only;omega
   refine T.cond (fun hw=>?_) fun _=>fin
   have hw:=B7 hw
   have go:T (B0 N s.marks s.at_ s.why s.where_ s.l.text s.l.funcs s.l.arity s.l.nest s.nest l (BT N k) true) fun x=>x.2.why=0→WP x.1:=by
    unfold B0
    refine T.cond (fun _=>?_) fun h=>by cases h
    have hl':=hl hw
    have hk':=hk hw
    refine T.bind (ABK hlen hM hN (r:=s) hs) fun x hx=>T.bind (GS (by omega) (by simp;omega)) fun _ _=>ih x.2 (l++[x.1]) hx.1 (by omega) (fun h=>?_) (fun h=>?_) fun h f hf'=>?_
    ·have:=(hx.2.2 h).2.1;omega
    ·have:=(hx.2.2 h).2.1;rw [List.length_append,List.length_singleton];omega
    ·rcases List.mem_append.1 hf' with hf'|hf'
     ·exact hf hw f hf'
     ·simp at hf';subst hf';exact (hx.2.2 h).2.2
   refine T.cond (fun _=>go) fun _=>T.bind (Kc (r:=s) hs) fun m _=>?_
   generalize (m.kind != 4)=b
   cases b
   ·exact fin
   ·exact go
 unfold Bn
 refine key N r [] hr (by omega) (fun _=>by have:=hr.2.1;omega) (fun _=>by have:=hr.2.1;simp;omega) fun _ f h=>by cases h
omit hM hN hlen
theorem XH{N:Nat}(hN:1000000≤N)(t:List UInt8):T (FS N t ⟨32768,32768,32768,32768⟩) fun x=>x.2.why=0→WP x.1:=by
 unfold FS
 refine T.cond (fun _=> .some fun h=>by cases h) fun h=>?_
 have h:=Dn h
 simp at h
 refine T.bind (YF (by omega) (by omega)) fun x hx=>T.cond (fun _=> .some fun h=>by cases h) fun h2=>?_
 have h2:=Dn h2
 have hx:=hx (by omega)
 have hr:Rd x.1 (AB.mk x.1 0 0 0 (Af.mk (if (32768:Int)< (if (32768:Int)<0 then 0 else 32768) then 32768 else (if (32768:Int)<0 then 0 else 32768)) 32768 32768 32768) 0):=by
  refine ⟨rfl,by simp,?_⟩
  obtain ⟨⟨l,e,he,_⟩,_⟩:=hx
  rw [he];simp
 refine T.bind (V1 (by omega) hx.1 hN hr) fun y hy=>T.cond (fun h=> .some fun h'=>absurd h' (Ko h)) fun h=> .some fun _=>hy (JK h)
end
end Fth
namespace Fth
open Go Ieee
def Wd(d:Datum)(n:Int):Prop:=∃(s:Bool) (k:Nat),d= .number s (n.natAbs*2^k) (-(k:Int))∧(n≠0→s=decide (n<0))
def Wp(d:Datum)(n:Int):Prop:=∃k:Nat,d= .number (decide (n<0)) (n.natAbs*2^k) (-(k:Int))
theorem Wp.wd{d:Datum}{n:Int}(h:Wp d n):Wd d n:=let ⟨k,h⟩:=h;⟨_,k,h,fun _=>rfl⟩
theorem Wd.wp{d:Datum}{n:Int}(h:Wd d n)(h0:n≠0):Wp d n:=by obtain ⟨s,k,h,hs⟩:=h;exact ⟨k,by rw [h,hs h0]⟩
def fw(s:Bool)(m:Nat):Nat:=double.word s ((m.log2+1022)*2^52+m*2^(52 - m.log2))
theorem Ke{m:Nat}(h0:0<m)(h:m<2^53):m.log2≤52:=by
 have h1:=Nat.log2_self_le (n:=m) (by omega)
 have h2:2^m.log2<2^53:=Nat.lt_of_le_of_lt h1 h
 have:=(Nat.pow_lt_pow_iff_right (by decide:1<2)).1 h2
 omega
theorem Lx{m:Nat}(h0:0<m)(h:m<2^53):2^52≤m*2^(52 - m.log2)∧m*2^(52 - m.log2)<2^53:=by
 have hl:=Ke h0 h
 have h1:=Nat.log2_self_le (n:=m) (by omega)
 have h2:=Nat.lt_log2_self (n:=m)
 have e1:2^m.log2*2^(52 - m.log2)=2^52:=by rw [←Nat.pow_add];congr 1;omega
 have e2:2^(m.log2+1)*2^(52 - m.log2)=2^53:=by rw [←Nat.pow_add];congr 1;omega
 constructor
 ·rw [←e1];exact Nat.mul_le_mul_right _ h1
 ·rw [←e2];exact Nat.mul_lt_mul_of_pos_right h2 (Nat.pow_pos (by decide))
theorem MH{m k:Nat}(h0:0<m):(m*2^k).log2=m.log2+k:=by
 have h1:=Nat.log2_self_le (n:=m) (by omega)
 have h2:=Nat.lt_log2_self (n:=m)
 rw [Nat.log2_eq_iff (Nat.ne_of_gt (Nat.mul_pos h0 (Nat.pow_pos (by decide))))]
 rw [Nat.pow_add,show m.log2+k+1=(m.log2+1)+k by omega,Nat.pow_add]
 exact ⟨Nat.mul_le_mul_right _ h1,Nat.mul_lt_mul_of_pos_right h2 (Nat.pow_pos (by decide))⟩
theorem VE{s:Bool}{q d:Nat}(h:d≤(q*2^d).log2+2):Toward.even.cut s (q*2^d) d=q:=by
 simp only [Toward.cut,Nat.min_eq_left h,Nat.one_shiftLeft]
 have hp:0<2^d:=Nat.pow_pos (by decide)
 have e1:q*2^d / 2^d=q:=Nat.mul_div_cancel _ hp
 have e2:q*2^d % 2^d=0:=Nat.mul_mod_left _ _
 rw [e1,e2]
 simp
theorem Tj{s:Bool}{m k:Nat}(h0:0<m)(h:m<2^53):double.nearest s (m*2^k) (-(k:Int))=fw s m:=by
 have hl:=Ke h0 h
 have hpos: ¬(m*2^k=0):=Nat.ne_of_gt (Nat.mul_pos h0 (Nat.pow_pos (by decide)))
 have hlast:max (-(k:Int)+((m*2^k).log2:Nat) - (double.fractionBits:Nat)) double.leastPlace=(m.log2:Int) - 52:=by
  rw [MH h0]
  simp only [double,Format.leastPlace]
  omega
 have hkept:Toward.even.cut s ((m*2^k) <<< (-(k:Int) - ((m.log2:Int) - 52)).toNat) (((m.log2:Int) - 52) - -(k:Int)).toNat=m*2^(52 - m.log2):=by
  rw [Nat.shiftLeft_eq]
  rcases Nat.le_total k (52 - m.log2) with hk|hk
  ·have e1:(-(k:Int) - ((m.log2:Int) - 52)).toNat=52 - m.log2 - k:=by omega
   have e2:(((m.log2:Int) - 52) - -(k:Int)).toNat=0:=by omega
   rw [e1,e2,Nat.mul_assoc,←Nat.pow_add,show k+(52 - m.log2 - k)=52 - m.log2 by omega]
   have:=VE (s:=s) (q:=m*2^(52 - m.log2)) (d:=0) (by omega)
   simpa using this
  ·have e1:(-(k:Int) - ((m.log2:Int) - 52)).toNat=0:=by omega
   obtain ⟨d,hd⟩: ∃d,k=(52 - m.log2)+d:=⟨k - (52 - m.log2),by omega⟩
   have e2:(((m.log2:Int) - 52) - -(k:Int)).toNat=d:=by omega
   rw [e1,e2,Nat.pow_zero,Nat.mul_one,hd,Nat.pow_add,←Nat.mul_assoc]
   refine VE ?_
   rw [Nat.mul_assoc,←Nat.pow_add,MH h0]
   omega
 have hb:=Lx h0 h
 simp only [Format.nearest,hpos,if_false,hlast,hkept,fw]
 congr 1
 have e3:((m.log2:Int) - 52 - double.leastPlace).toNat=m.log2+1022:=by simp only [double,Format.leastPlace];omega
 rw [e3]
 have e4:double.binade=2^52:=rfl
 have e5:double.infRung=2047*2^52:=by decide
 rw [e4,e5]
 omega
theorem Sf{s:Bool}{k:Int}:double.nearest s 0 k=double.word s 0:=by simp [Format.nearest]
theorem We{s:Bool}{m:Nat}(h0:0<m)(h:m<2^53):double.read (fw s m)= .number s (m*2^(52 - m.log2)) (-((52 - m.log2:Nat):Int)):=by
 have hl:=Ke h0 h
 have hb:=Lx h0 h
 have e0:double.signWeight=2^63:=by decide
 have e4:double.binade=2^52:=rfl
 have e5:double.infRung=2047*2^52:=by decide
 have e6:double.leastPlace= -1074:=by decide
 generalize hq:m*2^(52 - m.log2)=q at*
 generalize hL:m.log2=L at*
 have hw:fw s m=(if s then 2^63 else 0)+((L+1022)*2^52+q):=by
  simp only [fw,Format.word,hq,hL,e0];cases s<;>simp
 have hr:fw s m % 2^63=(L+1022)*2^52+q:=by rw [hw];cases s<;>simp<;>omega
 have hn:(fw s m / 2^63 % 2==1)=s:=by rw [hw];cases s<;>simp<;>omega
 simp only [Format.read,e0,hr,hn,e4,e5,e6]
 rw [if_neg (by omega),if_pos (by omega)]
 congr 1
 ·omega
 ·omega
theorem V2(n:Int):FloatKind.f64.nearest n=double.nearest (decide (n<0)) n.natAbs 0:=rfl
theorem KB{n:Int}(h0:n≠0)(h:n.natAbs<2^53):FloatKind.f64.nearest n=fw (decide (n<0)) n.natAbs:=by
 rw [V2]
 have:=Tj (s:=decide (n<0)) (m:=n.natAbs) (k:=0) (by omega) h
 simpa using this
theorem Ok:FloatKind.f64.nearest 0=0:=by decide
theorem Ly{n:Int}(h:n.natAbs<2^53):Wp (double.read (FloatKind.f64.nearest n)) n:=by
 rcases Decidable.em (n=0) with h0|h0
 ·subst h0;exact ⟨1074,by rw [Ok,Int.natAbs_zero,Nat.zero_mul];decide⟩
 ·rw [KB h0 h,We (by omega) h];exact ⟨_,rfl⟩
theorem Sg{d:Datum}{n:Int}(h:n.natAbs<2^53)(hd:Wp d n):double.write d=FloatKind.f64.nearest n:=by
 obtain ⟨k,rfl⟩:=hd
 rcases Decidable.em (n=0) with h0|h0
 ·subst h0;simp only [Int.natAbs_zero,Nat.zero_mul,Format.write];rw [Sf];decide
 ·rw [KB h0 h];exact Tj (by omega) h
def Fz(x:Nat)(n:Int):Prop:=x=FloatKind.f64.nearest n∨(n=0∧x=9223372036854775808)
theorem Fz.of{n:Int}:Fz (FloatKind.f64.nearest n) n:= .inl rfl
theorem Fz.eq{x:Nat}{n:Int}(h:Fz x n)(h0:n≠0):x=FloatKind.f64.nearest n:=h.resolve_right fun h'=>h0 h'.1
theorem Fz.read{x:Nat}{n:Int}(hx:Fz x n)(h:n.natAbs<2^53):Wd (double.read x) n:=by
 rcases hx with rfl| ⟨rfl,rfl⟩
 ·exact (Ly h).wd
 ·exact ⟨true,1074,by rw [Int.natAbs_zero,Nat.zero_mul];decide,fun h=>absurd rfl h⟩
theorem Fz.write{d:Datum}{n:Int}(hd:Wd d n)(h:n.natAbs<2^53):Fz (double.write d) n:=by
 rcases Decidable.em (n=0) with h0|h0
 ·subst h0
  obtain ⟨s,k,rfl,_⟩:=hd
  simp only [Int.natAbs_zero,Nat.zero_mul,Format.write]
  rw [Sf]
  cases s
  ·exact .inl (by decide)
  ·exact .inr ⟨rfl,by decide⟩
 ·exact .inl (Sg h (hd.wp h0))
theorem L0{s:Bool}{n:Int}{k:Nat}(hs:n≠0→s=decide (n<0))(up:Nat):signed s (n.natAbs*2^k) up=n*2^(k+up):=by
 rw [signed,Nat.shiftLeft_eq,Nat.mul_assoc,←Nat.pow_add]
 rcases Decidable.em (n=0) with h0|h0
 ·subst h0;simp
 ·rw [hs h0]
  rcases Int.lt_or_le n 0 with h|h
  ·simp only [h,decide_true,if_true]
   rw [Int.natCast_mul,Int.natCast_pow,show ((n.natAbs:Nat):Int)= -n by omega,Int.neg_mul,Int.neg_neg];rfl
  ·have: ¬n<0:=by omega
   simp only [this,decide_false,if_false,Bool.false_eq_true]
   rw [Int.natCast_mul,Int.natCast_pow,show ((n.natAbs:Nat):Int)=n by omega];rfl
theorem natAbs_pow(n:Int)(k:Nat):(n*2^k).natAbs=n.natAbs*2^k:=by
 rw [Int.natAbs_mul,Int.natAbs_pow];rfl
theorem Wf{n:Int}{k:Nat}:n*2^k<0↔n<0:=by
 have hp:(0:Int)<2^k:=Int.pow_pos (by decide)
 constructor
 ·intro h
  rcases Int.lt_or_le n 0 with h'|h'
  ·exact h'
  ·have:=Int.mul_nonneg h' (Int.le_of_lt hp);omega
 ·intro h;exact Int.mul_neg_of_neg_of_pos h hp
theorem Si{n:Int}{k:Nat}:n*2^k=0↔n=0:=by
 have hp:(2:Int)^k≠0:=Int.ne_of_gt (Int.pow_pos (by decide))
 constructor
 ·intro h;rcases Int.mul_eq_zero.1 h with h|h
  ·exact h
  ·exact absurd h hp
 ·intro h;rw [h];simp
theorem V3{c d:Datum}{a b:Int}(hc:Wd c a)(hd:Wd d b): ∃e,c.sum d=some e∧Wd e (a+b)∧(Wp c a∨Wp d b→Wp e (a+b)):=by
 obtain ⟨s,k,rfl,hs⟩:=hc
 obtain ⟨t,j,rfl,ht⟩:=hd
 refine ⟨_,rfl,?_⟩
 have e1:min (-(k:Int)) (-(j:Int))= -((max k j:Nat):Int):=by omega
 rw [e1]
 have e2:((-(k:Int)) - -((max k j:Nat):Int)).toNat=max k j - k:=by omega
 have e3:((-(j:Int)) - -((max k j:Nat):Int)).toNat=max k j - j:=by omega
 rw [e2,e3,L0 hs,L0 ht,show k+(max k j - k)=max k j by omega,show j+(max k j - j)=max k j by omega,←Int.add_mul]
 generalize max k j=M
 refine ⟨⟨_,M,by rw [natAbs_pow],fun h=>?_⟩,fun h=>⟨M,?_⟩⟩
 ·rw [if_neg (by rw [Si];exact h)];simp [Wf]
 ·rw [natAbs_pow]
  congr 1
  rcases Decidable.em (a+b=0) with h0|h0
  ·rw [if_pos (by rw [Si];exact h0),h0]
   simp only [Int.lt_irrefl,decide_false,Bool.and_eq_false_iff]
   rcases Decidable.em (a=0) with ha|ha
   ·have hb:b=0:=by omega
    rcases h with ⟨k',h⟩| ⟨j',h⟩
    ·injection h with h _ _;left;rw [h,ha];decide
    ·injection h with h _ _;right;rw [h,hb];decide
   ·rw [hs ha,ht (by omega)]
    simp only [decide_eq_false_iff_not];omega
  ·rw [if_neg (by rw [Si];exact h0)];simp [Wf]
theorem ABL{d:Datum}{b:Int}(hd:Wd d b):Wd d.opposite (-b):=by
 obtain ⟨t,j,rfl,ht⟩:=hd
 refine ⟨!t,j,by simp [Datum.opposite],fun h=>?_⟩
 rw [ht (by omega)]
 rcases Int.lt_or_le b 0 with h'|h'
 ·simp [h'];omega
 ·have h1: ¬b<0:=by omega
  have h2: -b<0:=by omega
  simp [h1];omega
theorem Zi{c d:Datum}{a b:Int}(hc:Wd c a)(hd:Wd d b): ∃e,c.product d=some e∧Wd e (a*b):=by
 obtain ⟨s,k,rfl,hs⟩:=hc
 obtain ⟨t,j,rfl,ht⟩:=hd
 refine ⟨_,rfl,s^^t,k+j,?_,fun h=>?_⟩
 ·congr 1
  ·rw [Int.natAbs_mul,Nat.pow_add];simp only [Nat.mul_assoc,Nat.mul_left_comm]
  ·omega
 ·have ha:a≠0:=fun e=>h (by rw [e];simp)
  have hb:b≠0:=fun e=>h (by rw [e];simp)
  rw [hs ha,ht hb]
  rcases Int.lt_or_le a 0 with h1|h1<;>rcases Int.lt_or_le b 0 with h2|h2
  ·have:=Int.mul_pos_of_neg_of_neg h1 h2
   simp [h1,h2];omega
  ·have:=Int.mul_neg_of_neg_of_pos h1 (show 0<b by omega)
   have h3: ¬b<0:=by omega
   simp [h1,h3,this]
  ·have:=Int.mul_neg_of_pos_of_neg (show 0<a by omega) h2
   have h3: ¬a<0:=by omega
   simp [h2,h3,this]
  ·have:=Int.mul_pos (show 0<a by omega) (show 0<b by omega)
   have h3: ¬a<0:=by omega
   have h4: ¬b<0:=by omega
   simp [h3,h4];omega
theorem YG{c d:Datum}{a b:Int}(hc:Wd c a)(hd:Wd d b):c.order d=some (compare a b):=by
 obtain ⟨s,k,rfl,hs⟩:=hc
 obtain ⟨t,j,rfl,ht⟩:=hd
 simp only [Datum.order]
 have e1:min (-(k:Int)) (-(j:Int))= -((max k j:Nat):Int):=by omega
 rw [e1]
 have e2:((-(k:Int)) - -((max k j:Nat):Int)).toNat=max k j - k:=by omega
 have e3:((-(j:Int)) - -((max k j:Nat):Int)).toNat=max k j - j:=by omega
 rw [e2,e3,L0 hs,L0 ht,show k+(max k j - k)=max k j by omega,show j+(max k j - j)=max k j by omega]
 generalize max k j=M
 have hp:(0:Int)<2^M:=Int.pow_pos (by decide)
 congr 1
 simp only [compare,compareOfLessAndEq]
 have hlt:a*2^M<b*2^M↔a<b:=Int.mul_lt_mul_right hp
 have:a*2^M=b*2^M↔a=b:=by
  constructor
  ·intro h;exact Int.eq_of_mul_eq_mul_right (Int.ne_of_gt hp) h
  ·rintro rfl;rfl
 simp only [hlt,this]
section
variable{x y:Nat}{a b:Int}
theorem Fz.add(hx:Fz x a)(hy:Fz y b)(ha:a.natAbs<2^53)(hb:b.natAbs<2^53)(h:(a+b).natAbs<2^53): ∃z,FloatKind.f64.format.add x y=some z∧Fz z (a+b):=by
 obtain ⟨e,he,hw,_⟩:=V3 (hx.read ha) (hy.read hb)
 refine ⟨double.write e,?_,Fz.write hw h⟩
 show ((double.read x).sum (double.read y)).map double.write=_
 rw [he];rfl
theorem Fz.add0(hx:Fz x a)(ha:a.natAbs<2^53):FloatKind.f64.format.add x 0=some (FloatKind.f64.nearest a):=by
 obtain ⟨e,he,_,hw⟩:=V3 (hx.read ha) (Ly (n:=0) (by decide)).wd
 have hw:=hw (.inr (Ly (n:=0) (by decide)))
 rw [Int.add_zero] at hw
 show ((double.read x).sum (double.read 0)).map double.write=_
 rw [Ok] at he
 rw [he]
 exact congrArg some (Sg ha hw)
theorem Fz.sub(hx:Fz x a)(hy:Fz y b)(ha:a.natAbs<2^53)(hb:b.natAbs<2^53)(h:(a - b).natAbs<2^53): ∃z,FloatKind.f64.format.sub x y=some z∧Fz z (a - b):=by
 obtain ⟨e,he,hw,_⟩:=V3 (hx.read ha) (ABL (hy.read hb))
 refine ⟨double.write e,?_,Fz.write (by rwa [Int.sub_eq_add_neg]) h⟩
 show ((double.read x).sum (double.read y).opposite).map double.write=_
 rw [he];rfl
theorem Fz.mul(hx:Fz x a)(hy:Fz y b)(ha:a.natAbs<2^53)(hb:b.natAbs<2^53)(h:(a*b).natAbs<2^53): ∃z,FloatKind.f64.format.mul x y=some z∧Fz z (a*b):=by
 obtain ⟨e,he,hw⟩:=Zi (hx.read ha) (hy.read hb)
 refine ⟨double.write e,?_,Fz.write hw h⟩
 show ((double.read x).product (double.read y)).map double.write=_
 rw [he];rfl
theorem Fz.order(hx:Fz x a)(hy:Fz y b)(ha:a.natAbs<2^53)(hb:b.natAbs<2^53):FloatKind.f64.format.order x y=some (compare a b):=
 YG (hx.read ha) (hy.read hb)
theorem Sj{a b:Int}:(compare a b= .lt)↔a<b:=by
 simp only [compare,compareOfLessAndEq];split<;>simp_all;split<;>simp_all
theorem YH{a b:Int}:(compare a b= .eq)↔a=b:=by
 simp only [compare,compareOfLessAndEq];split
 ·simp;omega
 ·split<;>simp_all
theorem ABM{a b:Int}:(compare a b= .gt)↔b<a:=by
 simp only [compare,compareOfLessAndEq];split
 ·simp;omega
 ·split
  ·simp;omega
  ·simp;omega
theorem Fz.feq(hx:Fz x a)(hy:Fz y b)(ha:a.natAbs<2^53)(hb:b.natAbs<2^53):feq x y=decide (a=b):=by
 rw [Fth.feq,hx.order hy ha hb,Bool.eq_iff_iff];simp [YH]
theorem Fz.fne(hx:Fz x a)(hy:Fz y b)(ha:a.natAbs<2^53)(hb:b.natAbs<2^53):fne x y= !decide (a=b):=by
 rw [Fth.fne,hx.order hy ha hb,Bool.eq_iff_iff];simp [YH]
theorem Fz.flt(hx:Fz x a)(hy:Fz y b)(ha:a.natAbs<2^53)(hb:b.natAbs<2^53):flt_ x y=decide (a<b):=by
 rw [Fth.flt_,hx.order hy ha hb,Bool.eq_iff_iff];simp [Sj]
theorem Fz.fle(hx:Fz x a)(hy:Fz y b)(ha:a.natAbs<2^53)(hb:b.natAbs<2^53):fle x y=decide (a≤b):=by
 rw [Fth.fle,hx.order hy ha hb,Bool.eq_iff_iff];simp [Sj];omega
theorem Fz.fge(hx:Fz x a)(hy:Fz y b)(ha:a.natAbs<2^53)(hb:b.natAbs<2^53):fge x y=decide (b≤a):=by
 rw [Fth.fge,hx.order hy ha hb,Bool.eq_iff_iff];simp [ABM];omega
end
end Fth
namespace Fth
open Go Ieee
theorem Sk{s:Bool}{m k:Nat}:Toward.zero.cut s (m*2^k) k=m:=by
 rcases Nat.eq_zero_or_pos m with h|h
 ·subst h;simp [Toward.cut]
 ·have hl:=MH (k:=k) h
  simp only [Toward.cut,Nat.one_shiftLeft,Nat.min_eq_left (show k≤(m*2^k).log2+2 by omega)]
  rw [Nat.mul_div_cancel _ (Nat.pow_pos (by decide))]
  simp
theorem VF{d:Datum}{n:Int}(h:Wd d n):Wd (d.integral .zero) n:=by
 obtain ⟨s,k,rfl,hs⟩:=h
 refine ⟨s,0,?_,hs⟩
 have e:(-(k:Int)).toNat=0:=by omega
 have e2:(- -(k:Int)).toNat=k:=by omega
 simp only [Datum.integral,e,e2,Nat.shiftLeft_zero,Sk]
 simp
theorem VG{d:Datum}{n:Int}(h:Wp d n):Wp (d.integral .zero) n:=by
 obtain ⟨k,rfl⟩:=h
 refine ⟨0,?_⟩
 have e:(-(k:Int)).toNat=0:=by omega
 have e2:(- -(k:Int)).toNat=k:=by omega
 simp only [Datum.integral,e,e2,Nat.shiftLeft_zero,Sk]
 simp
theorem YI{d:Datum}{n:Int}(h:Wd d n):d.toInt .zero=some n:=by
 have h':=VF h
 obtain ⟨s,k,rfl,hs⟩:=h
 have e:(-(k:Int)).toNat=0:=by omega
 have e2:(- -(k:Int)).toNat=k:=by omega
 simp only [Datum.toInt,Datum.integral,e,e2,Nat.shiftLeft_zero,Sk]
 have:=L0 (k:=0) hs 0
 simpa using this
theorem YJ{n:Int}(h1: -16777216≤n)(h2:n≤16777216):n.natAbs<2^53:=by omega
theorem m24:(13938640846711685120:Nat)=FloatKind.f64.nearest (-16777216):=by decide
theorem p24:(4715268809856909312:Nat)=FloatKind.f64.nearest 16777216:=by decide
theorem z0:(0:Nat)=FloatKind.f64.nearest 0:=by decide
theorem fz0:Fz 0 0:= .inl z0
theorem Zj{n:Int}(h:n.natAbs<2^53):IB (FloatKind.f64.nearest n)=some (FloatKind.f64.nearest n):=by
 have hr:=Ly h
 have hi:=VG hr
 have hw:=Sg h hi
 have:Rc (FloatKind.f64.nearest n)=some (FloatKind.f64.nearest n):=by
  obtain ⟨k,hk⟩:=hr
  unfold Rc
  have e:FloatKind.f64.decode (FloatKind.f64.nearest n)= .number (decide (n<0)) (n.natAbs*2^k) (-(k:Int)):=hk
  rw [e]
  rw [hk] at hw
  exact congrArg some hw
 unfold IB
 rw [this];rfl
theorem Wg{n:Int}(h:n.natAbs<2^53):GY (FloatKind.f64.nearest n)=some (decide (-16777216≤n∧n≤16777216)):=by
 have hx:Fz (FloatKind.f64.nearest n) n:= .of
 unfold GY HN
 rw [m24,p24,hx.fge .of h (by decide),hx.fle .of h (by decide),Zj h]
 simp only [Option.bind_some]
 rw [hx.feq .of h h,hx.fne fz0 h (by decide)]
 cases h1:decide (-16777216≤n)
 ·have:=Dn h1
  simp [this]
 ·cases h2:decide (n≤16777216)
  ·have:=Dn h2;simp [this]
  ·have h1:=CN h1;have h2:=CN h2
   simp only [decide_true,cond_true,h1,h2,and_self]
   cases h0:decide (n=0)
   ·rfl
   ·have h0:=CN h0;subst h0;decide
theorem Wi{a b:Int}(ha:a.natAbs<2^53)(hb:b.natAbs<2^53):Bv (FloatKind.f64.nearest a,FloatKind.f64.nearest b)=some (decide ((-16777216≤a∧a≤16777216)∧(-16777216≤b∧b≤16777216))):=by
 unfold Bv Jx
 simp only [Wg ha,Wg hb,Option.bind_some]
 cases h:decide (-16777216≤a∧a≤16777216)
 ·have:=Dn h;simp [this]
 ·have:=CN h;simp [this]
def rn(n:Ai):Nat×Nat:=(FloatKind.f64.nearest n.re,FloatKind.f64.nearest n.im)
def G6(n:Ai):Prop:=(-16777216≤n.re∧n.re≤16777216)∧(-16777216≤n.im∧n.im≤16777216)
instance (n:Ai):Decidable (G6 n):=inferInstanceAs (Decidable (_∧_))
theorem Sm(z:Nat×Nat):Gn z↔∃n,G6 n∧z=rn n:=by
 constructor
 ·rintro ⟨a,b,⟨h1,h2,h3⟩,h4,h5,h6⟩
  exact ⟨⟨a,b⟩,⟨⟨h2,h3⟩,h5,h6⟩,by rw [rn,←h1,←h4]⟩
 ·rintro ⟨n,h,rfl⟩
  exact ⟨n.re,n.im,⟨rfl,h.1.1,h.1.2⟩,rfl,h.2.1,h.2.2⟩
theorem Gn.of{n:Ai}(h:G6 n):Gn (rn n):=(Sm _).2 ⟨n,h,rfl⟩
theorem G6.re{n:Ai}(h:G6 n):n.re.natAbs<2^53:=YJ h.1.1 h.1.2
theorem G6.im{n:Ai}(h:G6 n):n.im.natAbs<2^53:=YJ h.2.1 h.2.2
theorem Jg{n:Ai}(h:G6 n):Bv (rn n)=some true:=by
 rw [rn,Wi h.re h.im];congr 1;exact decide_eq_true h
theorem YK{n:Int}(h1: -16777216≤n)(h2:n≤16777216):HY (FloatKind.f64.nearest n)=some (n,true):=by
 have h:=YJ h1 h2
 have hx:Fz (FloatKind.f64.nearest n) n:= .of
 have e1:f2i .i64 (FloatKind.f64.nearest n)=some n:=by
  unfold f2i
  have:(FloatKind.f64.decode (FloatKind.f64.nearest n)).toInt .zero=some n:=YI (hx.read h)
  rw [this]
  simp only [IntKind.min,IntKind.max,IntKind.signed,IntKind.bits]
  rw [if_pos]
  simp only [if_true];omega
 unfold HY G0
 rw [m24,p24,hx.fge .of h (by decide),hx.fle .of h (by decide),hx.feq fz0 h (by decide),e1]
 simp only [h1,h2,decide_true,cond_true,Option.bind_some,Bool.not_true,cond_false]
 rw [hx.feq .of h h]
 cases h0:decide (n=0)
 ·simp
 ·have h0:=CN h0;subst h0;decide
theorem Tk{n:Ai}(h:G6 n):EU (rn n)=some (n,true):=by
 unfold EU
 simp only [rn,YK h.1.1 h.1.2,YK h.2.1 h.2.2,Option.bind_some]
 rfl
theorem YL{z:Nat×Nat}(h:Gn z): ∃n,G6 n∧z=rn n∧EU z=some (n,true):=by
 obtain ⟨n,hn,rfl⟩:=(Sm z).1 h
 exact ⟨n,hn,rfl,Tk hn⟩
def inn(n:Ai):Ai×Int:=if G6 n then (n,0) else (⟨0,0⟩,50)
theorem Wj(n:Ai):HB n=some (inn n):=by
 unfold HB JL inn
 cases h1:decide (n.re< -16777216)
 ·cases h2:decide (n.re>16777216)
  ·cases h3:decide (n.im< -16777216)
   ·cases h4:decide (n.im>16777216)
    ·have:=Dn h1;have:=Dn h2;have:=Dn h3;have:=Dn h4
     rw [if_pos (show G6 n from ⟨⟨by omega,by omega⟩,by omega,by omega⟩)];rfl
    ·have:=CN h4;rw [if_neg (show¬G6 n by unfold G6;omega)];rfl
   ·have:=CN h3;rw [if_neg (show¬G6 n by unfold G6;omega)];rfl
  ·have:=CN h2;rw [if_neg (show¬G6 n by unfold G6;omega)];rfl
 ·have:=CN h1;rw [if_neg (show¬G6 n by unfold G6;omega)];rfl
theorem OX{x y:Nat}{a b:Int}(hx:Fz x a)(hy:Fz y b)(ha:a.natAbs<2^53)(hb:b.natAbs<2^53):Ek (x,y)=some (rn (inn ⟨a,b⟩).1,(inn ⟨a,b⟩).2):=by
 unfold Ek
 simp only [hx.add0 ha,hy.add0 hb,Option.bind_some,Wi ha hb]
 unfold inn
 cases h:decide ((-16777216≤a∧a≤16777216)∧(-16777216≤b∧b≤16777216))
 ·have h:=Dn h
  rw [if_neg (show¬G6 ⟨a,b⟩ from h)]
  simp only [Bool.not_false,cond_true]
  congr 1
 ·have h:=CN h
  rw [if_pos (show G6 ⟨a,b⟩ from h)]
  rfl
theorem Fz.re{a:Ai}(_h:G6 a):Fz (rn a).1 a.re:= .inl rfl
theorem Fz.im{a:Ai}(_h:G6 a):Fz (rn a).2 a.im:= .inl rfl
section
variable{a b:Ai}(ha:G6 a)(hb:G6 b)
include ha hb
theorem ABN:I8 (rn a) (rn b)=some (rn (inn ⟨a.re+b.re,a.im+b.im⟩).1,(inn ⟨a.re+b.re,a.im+b.im⟩).2):=by
 obtain ⟨⟨h1,h2⟩,h3,h4⟩:=ha
 obtain ⟨⟨h5,h6⟩,h7,h8⟩:=hb
 have ha:G6 a:=⟨⟨h1,h2⟩,h3,h4⟩
 have hb:G6 b:=⟨⟨h5,h6⟩,h7,h8⟩
 obtain ⟨z,hz,hz'⟩:=(Fz.re ha).add (Fz.re hb) ha.re hb.re (by omega)
 obtain ⟨y,hy,hy'⟩:=(Fz.im ha).add (Fz.im hb) ha.im hb.im (by omega)
 unfold I8 Kt
 simp only [Jg ha,Jg hb,Option.bind_some,Bool.not_true,cond_false,cadd,hz,hy,OX hz' hy' (by omega) (by omega)]
theorem ABO:I9 (rn a) (rn b)=some (rn (inn ⟨a.re - b.re,a.im - b.im⟩).1,(inn ⟨a.re - b.re,a.im - b.im⟩).2):=by
 obtain ⟨⟨h1,h2⟩,h3,h4⟩:=ha
 obtain ⟨⟨h5,h6⟩,h7,h8⟩:=hb
 have ha:G6 a:=⟨⟨h1,h2⟩,h3,h4⟩
 have hb:G6 b:=⟨⟨h5,h6⟩,h7,h8⟩
 obtain ⟨z,hz,hz'⟩:=(Fz.re ha).sub (Fz.re hb) ha.re hb.re (by omega)
 obtain ⟨y,hy,hy'⟩:=(Fz.im ha).sub (Fz.im hb) ha.im hb.im (by omega)
 unfold I9 Ku
 simp only [Jg ha,Jg hb,Option.bind_some,Bool.not_true,cond_false,csub,hz,hy,OX hz' hy' (by omega) (by omega)]
end
theorem LE{x y:Int}{A B:Nat}(hx:x.natAbs≤A)(hy:y.natAbs≤B):(x*y).natAbs≤A*B:=by
 rw [Int.natAbs_mul];exact Nat.mul_le_mul hx hy
theorem G6.reA{n:Ai}(h:G6 n):n.re.natAbs≤16777216:=by have:=h.1;omega
theorem G6.imA{n:Ai}(h:G6 n):n.im.natAbs≤16777216:=by have:=h.2;omega
theorem Ub{x1 x2 y1 y2:Nat}{a1 a2 b1 b2:Int}(h1:Fz x1 a1)(h2:Fz x2 a2)(h3:Fz y1 b1)(h4:Fz y2 b2)(l1:a1.natAbs≤16777216)(l2:a2.natAbs≤16777216)(l3:b1.natAbs≤16777216)(l4:b2.natAbs≤16777216):
  ∃z1 z2,cmul (x1,x2) (y1,y2)=some (z1,z2)∧Fz z1 (a1*b1 - a2*b2)∧Fz z2 (a1*b2+a2*b1)∧(a1*b1 - a2*b2).natAbs≤562949953421312∧(a1*b2+a2*b1).natAbs≤562949953421312:=by
 have m1:=LE l1 l3
 have m2:=LE l2 l4
 have m3:=LE l1 l4
 have m4:=LE l2 l3
 obtain ⟨p,hp,hp'⟩:=h1.mul h3 (by omega) (by omega) (by omega)
 obtain ⟨q,hq,hq'⟩:=h2.mul h4 (by omega) (by omega) (by omega)
 obtain ⟨r,hr,hr'⟩:=hp'.sub hq' (by omega) (by omega) (by omega)
 obtain ⟨s,hs,hs'⟩:=h1.mul h4 (by omega) (by omega) (by omega)
 obtain ⟨t,ht,ht'⟩:=h2.mul h3 (by omega) (by omega) (by omega)
 obtain ⟨u,hu,hu'⟩:=hs'.add ht' (by omega) (by omega) (by omega)
 refine ⟨r,u,?_,hr',hu',by omega,by omega⟩
 simp only [cmul,hp,hq,hr,hs,ht,hu,Option.bind_some]
section
variable{a b:Ai}(ha:G6 a)(hb:G6 b)
include ha hb
theorem ABP:JA (rn a) (rn b)=some (rn (inn ⟨a.re*b.re - a.im*b.im,a.re*b.im+a.im*b.re⟩).1,(inn ⟨a.re*b.re - a.im*b.im,a.re*b.im+a.im*b.re⟩).2):=by
 obtain ⟨z1,z2,hz,h1,h2,l1,l2⟩:=Ub (Fz.re ha) (Fz.im ha) (Fz.re hb) (Fz.im hb) ha.reA ha.imA hb.reA hb.imA
 unfold JA Kv
 have e:cmul (rn a) (rn b)=some (z1,z2):=hz
 simp only [Jg ha,Jg hb,Option.bind_some,Bool.not_true,cond_false,e,OX h1 h2 (by omega) (by omega)]
theorem Zk:IF (rn a) (rn b)=some ((decide (a.re<b.re)||(decide (a.re=b.re)&&decide (a.im<b.im))),0):=by
 unfold IF KS
 simp only [Jg ha,Jg hb,Option.bind_some,Bool.not_true,cond_false]
 rw [(Fz.re ha).fne (Fz.re hb) ha.re hb.re,(Fz.re ha).flt (Fz.re hb) ha.re hb.re,(Fz.im ha).flt (Fz.im hb) ha.im hb.im]
 cases h:decide (a.re=b.re)
 ·simp
 ·have h:=CN h
  simp [h]
theorem ABQ:ceq (rn a) (rn b)=(decide (a.re=b.re)&&decide (a.im=b.im)):=by
 rw [ceq,(Fz.re ha).feq (Fz.re hb) ha.re hb.re,(Fz.im ha).feq (Fz.im hb) ha.im hb.im]
end
theorem Uc{x:Nat}{a:Int}(h:Fz x a)(ha:a.natAbs<2^53):Fz (Op.negFloat .f64 x) (-a):=by
 have e: ∀y:Nat,Op.negFloat .f64 y=y ^^^ 9223372036854775808:=fun y=>rfl
 rw [e]
 rcases Decidable.em (a=0) with h0|h0
 ·subst h0
  rcases h with rfl| ⟨_,rfl⟩
  ·exact .inr ⟨rfl,by decide⟩
  ·exact .inl (by decide)
 ·have h':=h.eq h0
  subst h'
  left
  rw [KB h0 ha,KB (n:= -a) (by omega) (by omega),Int.natAbs_neg]
  have hb:=Lx (m:=a.natAbs) (by omega) ha
  have hl:=Ke (m:=a.natAbs) (by omega) ha
  simp only [fw,Format.word]
  have hs:double.signWeight=2^63:=by decide
  rw [hs]
  generalize a.natAbs.log2=L at*
  generalize a.natAbs*2^(52 - L)=q at*
  have hr:(L+1022)*2^52+q<2^63:=by omega
  obtain ⟨r,hrr⟩: ∃r,(L+1022)*2^52+q=r:=⟨_,rfl⟩
  simp only [hrr] at hr ⊢
  have x1:r ^^^ 9223372036854775808=2^63+r:=by
   have h1:=Nat.two_pow_add_eq_or_of_lt hr 1
   rw [Nat.mul_one] at h1
   rw [h1,show (9223372036854775808:Nat)=2^63 by decide]
   refine Nat.eq_of_testBit_eq fun i=>?_
   rw [Nat.testBit_xor,Nat.testBit_or,Nat.testBit_two_pow]
   by_cases hi:63=i
   ·subst hi;simp [Nat.testBit_lt_two_pow hr]
   ·simp [hi]
  have x2:(2^63+r) ^^^ 9223372036854775808=r:=by
   rw [←x1,Nat.xor_assoc,Nat.xor_self,Nat.xor_zero]
  rcases Int.lt_or_le a 0 with hn|hn
  ·have h2: ¬(-a<0):=by omega
   simp only [hn,h2,decide_true,decide_false,if_true,Bool.false_eq_true,if_false]
   exact x2
  ·have h1: ¬(a<0):=by omega
   have h2: -a<0:=by omega
   simp only [h1,h2,decide_true,decide_false,if_true,Bool.false_eq_true,if_false]
   exact x1
theorem Zl{a:Ai}(ha:G6 a):Hd (rn a)=some (rn ⟨a.re,-a.im⟩,0):=by
 unfold Hd
 have hn:G6 ⟨a.re,-a.im⟩:=by obtain ⟨⟨h1,h2⟩,h3,h4⟩:=ha;exact ⟨⟨h1,h2⟩,by simp only;omega,by simp only;omega⟩
 have:=OX (Fz.re ha) (Uc (Fz.im ha) ha.im) ha.re (by have:=ha.im;omega)
 simp only [Jg ha,Option.bind_some,Bool.not_true,cond_false,this,inn,if_pos hn]
end Fth
