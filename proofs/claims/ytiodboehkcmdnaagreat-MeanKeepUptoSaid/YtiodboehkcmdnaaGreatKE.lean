/- Part 5 of the proof: what it says holds of the given program; no condition. -/
import Derived.Test.YtiodboehkcmdnaaGreatProg
import Derived.KernelRfl
import Derived.Test.YtiodboehkcmdnaaGreatKD
set_option linter.all false
set_option exponentiation.threshold 3000
namespace Fth
open Go Go.Proofs Sh
set_option maxRecDepth 100000
set_option maxHeartbeats 8000000
theorem U3(q:Nat)(bd:Col)(bn:World)(a3:∀b,bd b<10){n:AL}{ct:List Value}{ac:Bts}{m:(List AD)}{cu:Value}{h:Int}{ad:BK}(ec:Bz.rep bd.F bn ct n)(cv:Slc Aq bd.F bn cu m)(a:Ha q n ac m h=some ad):
  Calls PG 13 #[Ag ct,Sb ac,cu,I h] bn λed cw=>∃cx cy,ed=.returned (Ag [I ad.why,I ad.value.type_,Cx ad.value.num,.bool ad.value.bool,cy,I ad.moves,I ad.thunks,I ad.updates,I ad.calls])/\AU [1] bd bn cx cw/\Own Kd.cpx 35 cx cw 1 cy ad.value.list:=by
 rw [Ha] at a
 obtain ⟨bo,bp,rfl,cz⟩:=E1 (BQ ec)
 obtain ⟨b4,b5,rfl⟩:=AW cv
 refine R3 Tryz.func13 Z Tryz.ntmps13 Z λW B hW af=>WA'.seq af<|AM<|Ef<|A0 bd 20 Z Z λee i6 ef eg ao=>Ef<|Aa ee 21 LQ Z λeh ei ak a4 al=>AA<|WA'.seq af<|Sr<|have c0:=Bs eg al;Vx (Lx Fw Z Z (Bw c0))<|have c1:=K2 AI cz ao al;Bi a λbq ej a=>Ca (Cg [Ag [Sl bo n.funcs bp]] Z) (Tl q eh ei ej (BL (x:=n) c1)) ?_
 rintro _ i7 ⟨c2,i8,rfl,r,ek⟩
 obtain rfl:=Au ek
 refine Vx (v:=I bq.why) (Kz (cs:=[I bq.why,I bq.at_]) XL Z Z)<|Vr (.bool (bq.why != 0))<|AA<|Cn a (λel a=>?_) λel a=>?_
 refine Sr<|Vx (v:=Ag [I 3,I 0,Cx (((0,0):Cpl)),.bool false,.slice none 0 0,I 0,I 0,I 0,I 0]) (Bp LQ NQ Z (.cons Z Z Z .nil))<|have em:=Bs a4 r;Eu<|St MA em Z Z Z Z λi9 en eo=>AA<|AS ?_
 obtain rfl:=AK a
 refine AAZ hW (B:=B) af<|TC Z (.agg Mi Z Z (Bw en))<|⟨c2,.slice none 0 0,Z,Ho (T3 (Mo [21] ao) al r eo) a3,Own.nil⟩
 refine AR<|WA'.seq af<|AM<|Ef<|Nb c2 22 λep ja br eq ae=>Vx (Fz Dd Z)<|have c3:=Y2 c0 r ae;Vx (Ld Fr Z (Bc c3 Z))<|Vm<|Vx (v:=I (if h<0 then 0 else h)) (Run.max Z Z)<|Vx (v:=I (if 16384< (if h<0 then 0 else h) then 16384 else (if h<0 then 0 else h))) (Run.min Z Z)<|Vx (v:=Ag [.map (some br),Sl bo n.funcs bp,I 0,I (if 16384< (if h<0 then 0 else h) then 16384 else (if h<0 then 0 else h))]) (Bp AB2 ABx Z (.cons Z Z Z (.cons Z Z Z (.cons Z Z Z .nil))))<|Ef<|A0 ep 23 Z Z λer jb bt c4 aa=>Ef<|Aa er 24 AB0 Z λc5 jc am es o=>Eu<|St ABs es Z Z Z Z λet c6 p=>AA<|WA'.seq af<|Sr<|Vx (Fz Dd Z)<|have c7:=Y3 c3 aa o p;Vx (Ld Fr Z (Bc c7 Z))<|have b6:=Ss AI (K4 AI c1 r ae aa o) p; ?_
 obtain ⟨jd,je,eu⟩:=AW b6
 refine Vx (v:=I (n.funcs.length:Int)) (Ll FA eu)<|Vm<|AA<|Ah<|Bj (λax be bf=>∃ay az ah u,be=Env.puts ay [(1,Sb ac),(2,Sl b4 m b5),(4,Pt ef 0),(8,Pt ak 0),(9,Pt am 0),(34,Sl bo n.funcs bp),(35,I (n.funcs.length:Int)),(36,I ah)]/\Ji q n ac m h ax ah u=some ad/\AU [22,25] c5 et az bf/\Mp az bf 22 br u) q ?_ ?_
 refine have ew:=Ms (Ms (Ms eq aa) o) p;⟨_,c5,0,([]:As),Pu,a,(AU.refl [22,25] _ _),ew⟩
 rintro ax _ bf ⟨ay,az,ah,u,rfl,a,g,b7⟩
 rcases ax with _|ax
 exact A5 a
 refine have a:Jv q n ac m h (Ji q n ac m h ax) ah u=some ad:=a; ?_
 obtain ⟨jf,c8⟩:∃s,s=Ji q n ac m h ax:=⟨_,rfl⟩
 rw [<-c8,Jv] at a
 refine Sr<|Vr (.bool (decide (ah< (n.funcs.length:Int))))<|AA<|AT<|Cn a (λex a=>?_) λex a=>?_
 refine AR<|AT<|Ah<|Sr<|Vm<|Bi a λag ey a=>have ez:=Ss AI b6 g; ?_
 obtain ⟨e0,e1,jg,e2,e3,e4,e5,e6,b8⟩:=A8 (κ:=AI) ez ey
 replace b8:Ay az bf e0 (e1+ah.toNat*11) e2:=b8
 obtain ⟨jh,ji,rfl,c9,da⟩:=CL e6
 obtain ⟨e7,e8,rfl⟩:=AW c9
 obtain ⟨e9,fa,rfl⟩:=AW da
 refine Vx (Ix FA e3 Z e4 e5)<|Vx (Lx Lm Z Z (Ay.part0 b8 [Sb ag.name,Sl e7 ag.params e8,I ag.type_,I ag.body.op,Sb ag.body.name,Sb ag.body.tail,I ag.body.type_,Cx ag.body.num,Sl e9 ag.body.args fa,I ag.body.at_,I ag.at_] Z))<|Ef<|Aa az 25 KZ Z λdb jj jk fb a5=>Va (I ah)<|have jl:=Ss AZ c9 a5;have jm:=Ss AG da a5;Eu<|St LP fb Z Z Z Z λjn fc bu=>AA<|Sp<|BZ C7 (qs 0 7 (.one 7 .nil)) [7] [] db (by kernel_rfl) λjo bg=>have fd:=Y4 c6 g a5 bu bg;Qx DM Z (λ_ ⟨_,c⟩=>Ld RK Z (Bc (Bs fd c) Z))<|Qx DM Z (λ_ _=>Nc Z)<|Qx DM Z (λ_ _=>Fz TN Z)<|have fe:=Y2 (Y4 c4 o p g a5) bu bg;Qx DM Z (λ_ ⟨_,c⟩=>Ld PL Z (Bc (Bs fe c) Z))<|Qx DM Z (λ_ _=>Fz MX Z)<|have ff:=Bs fc bg;Qx DM Z (λ_ ⟨_,c⟩=>Ld B7 Z (Bc (Bs ff c) Z))<|Qx DM Z (v:=I ah) (λ_ _=>Mv Z)<|E3 dcd<|WY.one<|have fg:=Ms (Ms (Ms b7 a5) bu) bg;BS Z (.none Z) Z<|Kn Ln Z Z Z fg λjp fh fi=>WY.nil<|AM<|Vr (I (Wr (ah+1)))<|Vm<|AA<|⟨ax,Nat.lt_succ_self ax,_,db,(Wr (ah+1)),(Mc ag.name ah u),Pu,(c8▸a),(T4 (Mo [22,25] g) a5 bu bg fi),fh⟩
 refine BX<|WA'.seq af<|AM<|have dc:=Bs c6 g;Vx (Ld RK Z (Bc dc Z))<|Vx (Nc Z)<|Vx (Fz TN Z)<|have de:=Y3 c4 o p g;Vx (Ld PL Z (Bc de Z))<|Vm<|Vx (v:=.tuple #[I (Cz u ac),.bool (Oj u ac)]) (W8 Ln Z Z b7)<|Vm<|Vr (I (Cz u ac))<|Vr (.bool (Oj u ac))<|Va (I (Cz u ac))<|Va (.bool (Oj u ac))<|AA<|WA'.seq af<|Sr<|Vm<|Vr (.bool (!(Oj u ac)))<|AA<|Cn a (λfj a=>?_) λfj a=>?_
 refine Sr<|Vx (v:=Ag [I 32,I 0,Cx (((0,0):Cpl)),.bool false,.slice none 0 0,I 0,I 0,I 0,I 0]) (Bp LQ NQ Z (.cons Z Z Z .nil))<|have fk:=Y2 (Y4 a4 r ae aa o) p g;Eu<|St MA fk Z Z Z Z λjq fl fm=>AA<|AS ?_
 obtain rfl:=AK a
 refine AAZ hW (B:=B) af<|TC Z (.agg Mi Z Z (Bw fl))<|⟨az,.slice none 0 0,Z,Ho (T4 (T4 (Mo [21,22,24,25] ao) al r ae aa) o p g fm) a3,Own.nil⟩
 refine AR<|WA'.seq af<|AM<|Vx (Fz Dd Z)<|have fn:=Bs c7 g;Vx (Ld Fr Z (Bc fn Z))<|Vm<|Bi a λd fo a=>have df:=Ss AI b6 g; ?_
 obtain ⟨fp,fq,jr,fr,fs,ft,fu,fv,b9⟩:=A8 (κ:=AI) df fo
 replace b9:Ay az bf fp (fq+((Cz u ac)).toNat*11) fr:=b9
 obtain ⟨js,jt,rfl,dg,dh⟩:=CL fv
 obtain ⟨fw,fx,rfl⟩:=AW dg
 obtain ⟨ca,cb,rfl⟩:=AW dh
 refine Vx (Ix FA fs Z ft fu)<|Vx (Lx Lm Z Z (Ay.part0 b9 [Sb d.name,Sl fw d.params fx,I d.type_,I d.body.op,Sb d.body.name,Sb d.body.tail,I d.body.type_,Cx d.body.num,Sl ca d.body.args cb,I d.body.at_,I d.at_] Z))<|Ef<|Aa az 26 KZ Z λcc ju di fy w=>have fz:=Ss AZ dg w;have f0:=Ss AG dh w;Eu<|St LP fy Z Z Z Z λf1 bv y=>AA<|WA'.seq af<|Sr<|Vm<|have cd:=K2 Aq (K4 Aq (K4 Aq cv ao al r ae) aa o p g) w y; ?_
 obtain ⟨jv,jw,f2⟩:=AW cd
 refine Vx (v:=I (m.length:Int)) (Ll Fs f2)<|Vx (Fd De Z)<|Vx (Ld EF Z (Bc bv Z))<|have cf:=Ss AZ fz y; ?_
 obtain ⟨jx,jy,f3⟩:=AW cf
 refine Vx (v:=I (d.params.length:Int)) (Ll Df f3)<|Vr (.bool ((m.length:Int) != (d.params.length:Int)))<|AA<|Cn a (λf4 a=>?_) λf4 a=>?_
 refine Sr<|Vx (v:=Ag [I 40,I 0,Cx (((0,0):Cpl)),.bool false,.slice none 0 0,I 0,I 0,I 0,I 0]) (Bp LQ NQ Z (.cons Z Z Z .nil))<|have f5:=Y4 (Y4 a4 r ae aa o) p g w y;Eu<|St MA f5 Z Z Z Z λjz f6 f7=>AA<|AS ?_
 obtain rfl:=AK a
 refine AAZ hW (B:=B) af<|TC Z (.agg Mi Z Z (Bw f6))<|⟨cc,.slice none 0 0,Z,Ho (T2 (T4 (T4 (Mo [21,22,24,25,26] ao) al r ae aa) o p g w) y f7) a3,Own.nil⟩
 refine AR<|WA'.seq af<|AM<|Va (.pointer none)<|AA<|WA'.seq af<|Sr<|Vm ?_
 obtain ⟨j0,j1,f8⟩:=AW cd
 refine Vx (v:=I (m.length:Int)) (Ll Fs f8)<|Vm<|AA<|Ah<|Bj (λa0 be bh=>∃ay a6 a7 a1 ab,be=Env.puts ay [(8,Pt ak 0),(9,Pt am 0),(14,Pt di 0),(15,a1),(73,Sl b4 m b5),(74,I (m.length:Int)),(75,I ab)]/\E7 q n m h u d a0 a7 ab=some ad/\AU [27,28] cc f1 a6 bh/\Ge 89 90 a6.F bh a1 a7) q ?_ ?_
 exact ⟨_,cc,Nm.nil,.pointer none,0,Pu,a,(AU.refl [27,28] _ _),Ge.nil⟩
 rintro a0 _ bh ⟨ay,a6,a7,a1,ab,rfl,a,l,cg⟩
 rcases a0 with _|a0
 exact A5 a
 refine have a:GB q n m h u d (E7 q n m h u d a0) a7 ab=some ad:=a; ?_
 obtain ⟨f9,dj⟩:∃s,s=E7 q n m h u d a0:=⟨_,rfl⟩
 rw [<-dj,GB] at a
 refine Sr<|Vr (.bool (decide (ab< (m.length:Int))))<|AA<|AT<|Cn a (λga a=>?_) λga a=>?_
 refine AR<|AT<|Ah<|Sr<|Vm<|Bi a λf gb a=>have gc:=Ss Aq cd l; ?_
 obtain ⟨gd,ge,j2,gf,gg,gh,gi,gj,ch⟩:=A8 (κ:=Aq) gc gb
 replace ch:Ay a6 bh gd (ge+ab.toNat*4) gf:=ch
 obtain ⟨bi,bj,rfl,dk⟩:=E1 (A1 gj)
 refine Vx (Ix Fs gg Z gh gi)<|Vx (Lx B5 Z Z (Ay.part0 ch [I f.type_,Cx f.num,.bool f.bool,Sl bi f.list bj] Z))<|Ef<|Aa a6 27 Cm Z λbk j4 gk gl ap=>Va (I ab)<|have dl:=Ss Kd.cpx dk ap;Eu<|St DN gl Z Z Z Z λgm dm an=>AA<|AT<|Am (λbe dn=>∃ay a8 ci,be=Env.puts ay [(8,Pt ak 0),(9,Pt am 0),(14,Pt di 0),(15,a1),(16,I ab),(17,Pt gk 0),(73,Sl b4 m b5),(74,I (m.length:Int)),(75,I ab),(93,.bool ci)]/\MS q d a7 ab f9 f ci=some ad/\AU [] bk gm a8 dn) ?_ ?_
 refine Sp<|BZ C7 (qs 0 11 (.one 11 (.q 12 (.q 13 .nil)))) [] [] bk (by kernel_rfl) λdp a9=>Qx DM Z (λ_ _=>Fz JJ Z)<|have dq:=Bs dm a9;Qx DM Z (λ_ ⟨_,c⟩=>Ld Dl Z (Bc (Bs dq c) Z))<|Qx DM Z (λ_ _=>Fd De Z)<|have gn:=Y4 bv l ap an a9;Qx DM Z (λ_ ⟨_,c⟩=>Ld EF Z (Bc (Bs gn c) Z))<|Qx DM Z (v:=I ab) (λ_ _=>Mv Z)<|Bi a λdr go a=>have gp:=K4 AZ cf l ap an a9; ?_
 obtain ⟨gq,gr,j5,gs,gt,gu,gv,gw,cj⟩:=A8 (κ:=AZ) gp go
 replace cj:Ay bk dp gq (gr+ab.toNat*3) gs:=cj
 obtain rfl:=EK gw
 refine Qx DM Z (λ_ _=>Ix Df gt Z gu gv)<|Qx DM Z (λ_ _=>Fd My Z)<|Qx DM Z (λ_ ⟨_,c⟩=>Ld Dl Z (Ay.cell (k:=1) (Es cj c) Z))<|Qx DM Z (v:=.bool (f.type_ != dr.type_)) (λ_ _=>Z)<|Qx DM Z (v:=.bool (f.type_ != dr.type_)) (λ_ _=>Mv Z)<|Bo a (λaq a=>?_) λaq a=>?_
 refine Qp DM Z aq<|A2 Z<|LY Z (.guard (t:=true) (b:=false) Z Z Z Z (Cb aq)) Z Z<|⟨⟨_,Rf⟩,?_⟩
 refine Qp DM Z aq<|Qx DM Z (v:=.bool true) (λ_ _=>(Pk aq))<|CA<|⟨_,bk,true,Pu,a,(Mo [] a9)⟩
 refine Qg DM Z aq (λ_ ⟨_,c⟩=>Lx B5 Z Z (Bw (Bs dq c)))<|A2 Z<|have gx:=K2 Kd.cpx dl an a9;Bi a λck gy a=>A4 Z (.guard (t:=false) (b:=false) Z Z Z Z (Cb aq)) Z Z (Cg [Ag [I f.type_,Cx f.num,.bool f.bool,Sl bi f.list bj]] Z)<|Calls.mono (Pa q bk dp gy (Ao (x:=f) gx)) ?_
 rintro _ j6 ⟨gz,rfl,ds⟩
 refine ⟨_,Z,⟨_,(Mo [] ds)⟩,?_⟩
 refine Qg DM Z aq (v:=.bool (ck != 0)) (λ_ _=>Z)<|Qx DM Z (v:=.bool (ck != 0)) (λ_ _=>(Pk aq))<|CA<|⟨_,gz,(ck != 0),Pu,a,(Tn (Mo [] a9) ds)⟩
 rintro _ dn ⟨ay,a8,ci,rfl,a,a2⟩
 rw [MS] at a
 refine Cn a (λg0 a=>?_) λg0 a=>?_
 refine Sr<|Vx (v:=Ag [I 40,I 0,Cx (((0,0):Cpl)),.bool false,.slice none 0 0,I 0,I 0,I 0,I 0]) (Bp LQ NQ Z (.cons Z Z Z .nil))<|have g1:=Y4 (Y4 (Y4 a4 r ae aa o) p g w y) l ap an a2;Eu<|St MA g1 Z Z Z Z λj7 g2 g3=>AA<|AS ?_
 obtain rfl:=AK a
 refine AAZ hW (B:=B) af<|TC Z (.agg Mi Z Z (Bw g2))<|⟨a8,.slice none 0 0,Z,Ho (T2 (T4 (T4 (T4 (Mo [21,22,24,25,26,27,28] ao) al r ae aa) o p g w) y l ap an) a2 g3) a3,Own.nil⟩
 refine AR<|Sp<|BZ C7 (qs 0 7 (.q 8 (.one 7 (.q 9 (.one 10 (.q 11 .nil)))))) [] [] a8 (by kernel_rfl) λdt ba=>Qx DM Z (λ_ _=>Fd De Z)<|have g4:=Bs (Y4 bv l ap an a2) ba;Qx DM Z (λ_ ⟨_,c⟩=>Ld EF Z (Bc (Bs g4 c) Z))<|Qx DM Z (v:=I ab) (λ_ _=>Mv Z)<|Bi a λcl g5 a=>have g6:=Ss AZ (K4 AZ cf l ap an a2) ba; ?_
 obtain ⟨g7,g8,j8,g9,ha,hb,hc,hd,cm⟩:=A8 (κ:=AZ) g6 g5
 replace cm:Ay a8 dt g7 (g8+ab.toNat*3) g9:=cm
 obtain rfl:=EK hd
 refine Qx DM Z (λ_ _=>Ix Df ha Z hb hc)<|Qx DM Z (λ_ _=>Fz Kl Z)<|Qx DM Z (λ_ ⟨_,c⟩=>Ld B7 Z (Ay.cell0 (Es cm c) Z))<|have he:=Y2 dm a2 ba;Qx DM Z (λ_ ⟨_,c⟩=>Lx B5 Z Z (Bw (Bs he c)))<|Qx DM Z (v:=a1) (λ_ _=>Mv Z)<|A2 Z<|have hf:=K3 Kd.cpx dl an a2 ba;Bi a λhg hh a=>A4 Z (.none Z) Z Z (Cg [Ag [I f.type_,Cx f.num,.bool f.bool,Sl bi f.list bj]] Z)<|Calls.mono (Ur q a8 dt hh (Ao (x:=f) hf)) ?_
 rintro _ j9 ⟨hi,du,rfl,bw,dv⟩
 refine ⟨_,Z,⟨_,(Mo [] bw)⟩,?_⟩
 refine Qx DM Z (v:=Ag [Sb cl.name,du,a1]) (λ_ _=>CK (cs:=[Sb cl.name,du,a1]) [Sb ([]:Bts),.nilFunc,.pointer none] RO RM Z (.cons Z Z Z (.cons Z (Dq (MTh.one dv)) Z (.cons Z (Dq (Ge.one cg)) Z .nil))) Z Z)<|A2 Z<|Bn Z (.none Z) Z Z<|A0 hi 28 Z Z λka kb dw hj bx=>⟨⟨_,(Tn (Mo [] bw) bx)⟩,?_⟩
 refine Qx DM Z (v:=Pt dw 0) (λ_ _=>Run.assign Z)<|CA<|AM<|Vr (I (Wr (ab+1)))<|Vm<|AA<|have hk:=Mt dv bx;have hl:=Me (Me (Me (Me (Me (Me cg ap) an) a2) ba) bw) bx; ?_
 obtain ⟨hm,hn,ho⟩:=Ge.lay hj dcd hk hl
 exact ⟨a0,Nat.lt_succ_self a0,_,hm,(Nm.bind cl.name hg a7),Pt dw 0,(Wr (ab+1)),Pu,(dj▸a),(T3 (T4 (Mo [27,28] l) ap an a2 ba) bw bx hn),ho⟩
 refine BX<|WA'.region<|LA.val (.none Z) Z Z (v:=.func (.func 32) #[] [Pt am 0,Pt ak 0].toArray) (IZ (vs:=[Pt am 0,Pt ak 0]) Z)<|LA.defer (dd:={target:=.fn (.func 32) [Pt am 0,Pt ak 0].toArray,args:=#[]}) (.none Z) Z (Xr Z)<|LA.nil (?_:WA' _ _ _ _ W _ _)
 obtain ⟨B2,hB2⟩:∃B2,B2=NK [{target:=.fn (.func 32) [Pt am 0,Pt ak 0].toArray,args:=#[]}] 122 W:=⟨_,rfl⟩
 refine ZN hB2<|Sr<|have cn:=Y3 dc w y l;Vx (Ld RK Z (Bc cn Z))<|Vx (Fd LO Z)<|have hp:=Bs bv l;Vx (Lx BA Z Z (Bk.part hp 3 [I d.body.op,Sb d.body.name,Sb d.body.tail,I d.body.type_,Cx d.body.num,Sl ca d.body.args cb,I d.body.at_] Z))<|Vm<|have hq:=Y3 de w y l;have hr:=K3 AI df w y l;have dx:=Ms (Ms (Ms b7 w) y) l;have hs:=K2 AG f0 y l;Bi a λbz ht a=>Is (.none Z) Z Z (Cg [Pt bt 0,Ag [I d.body.op,Sb d.body.name,Sb d.body.tail,I d.body.type_,Cx d.body.num,Sl ca d.body.args cb,I d.body.at_],a1] Z)<|Calls.mono (Ra q a6 bh ht dcd dcd hq hr dx (AY (x:=(AE.mk d.body.op d.body.name d.body.tail d.body.type_ d.body.num d.body.args d.body.at_)) hs) cg) ?_
 rintro _ hu ⟨co,kc,ar,dy,dz,hw⟩
 obtain ⟨hx,hy,rfl⟩:=AW dz
 obtain ⟨d0,hz,rfl⟩| ⟨z,h0,kd,rfl,ke,rfl,h1⟩:=Ey.split hw
 refine have a:=EG a hz; .inl ⟨_,Z,?_⟩
 refine have h2:=Bs cn ar;have h3:=Y2 (Y4 (Y4 a4 r ae aa o) p g w y) l ar;ACd hW (B:=B2) hB2 (PF Tryz.func32 Z dcd) (Rx co hu am ak 0 0 ((0,0):Cpl) false (.slice none 0 0) 0 0 0 0 bt (.map (some br)) (Sl hx bz.2.1 hy) bz.2.2.1 bz.2.2.2 d0 h2 h3 dy) λkf h4=>?_
 obtain ⟨h5,h6⟩:=h4
 obtain rfl:=AK a
 refine TC Z (.agg Mi Z Z (Bw h5))<|⟨co,.slice none 0 0,Z,Ho (T4 (T4 (T4 (Mo [21,22,23,24,25,26,27,28] ao) al r ae aa) o p g w) y l ar h6) a3,Own.nil⟩
 refine have a:=HS a h0; ?_
 obtain ⟨kg,b0,b1,rfl,d1,d2,d3⟩:=Dk h1
 obtain ⟨b2,b3,rfl⟩:=AW d1
 refine .inr ⟨_,Z,?_⟩
 refine Ef<|Aa co 29 LR Z λh7 kh ki h8 ai=>have d4:=Ss Kd.cpx d1 ai;Eu<|Bf (vs:=[I z.plain.type_,Cx z.plain.num,.bool z.plain.bool,Sl b2 z.plain.list b3,b0,b1]) (cs':=[I z.plain.type_,Cx z.plain.num,.bool z.plain.bool,Sl b2 z.plain.list b3,b0,b1]) J0 Z Z Z Z (AQ Z (AQ Z (AQ Z (AQ (Fg d4) (AQ (MTh.one d2) (AQ (MTh.one d3) B6)))))) h8 dcd Z Z λh9 ia aj=>AA<|Sr<|have cq:=Y3 cn ar ai aj;Vx (Ld RK Z (Bc cq Z))<|Vx (Lx KO Z Z (Bw ia))<|have ib:=Y2 dy ai aj;have ic:=K2 AI dz ai aj;have id:=Ms (Ms (Ms dx ar) ai) aj;have ie:=Ss Kd.cpx d4 aj;have ig:=Mt (Mt d2 ai) aj;have ih:=Mt (Mt d3 ai) aj;Bi a λau ii a=>Is (.none Z) Z Z (Cg [Pt bt 0,Ag [I z.plain.type_,Cx z.plain.num,.bool z.plain.bool,Sl b2 z.plain.list b3,b0,b1]] Z)<|Calls.mono (Qy q h7 h9 (kw0:=1) ii dcd dcd ib ic id (Cw (x:=z) ie ig ih)) ?_
 rintro _ ij ⟨cr,kj,bb,d5,ik,il⟩
 obtain ⟨im,io,rfl⟩:=AW ik
 obtain ⟨d6,ip,rfl⟩| ⟨e,iq,kk,rfl,kl,rfl,d7⟩:=Ey.split il
 refine have a:=EG a ip; .inl ⟨_,Z,?_⟩
 refine have ir:=Bs cq bb;have it:=Bs (Y4 (Y4 (Y4 a4 r ae aa o) p g w y) l ar ai aj) bb;ACd hW (B:=B2) hB2 (PF Tryz.func32 Z dcd) (Rx cr ij am ak 0 0 ((0,0):Cpl) false (.slice none 0 0) 0 0 0 0 bt (.map (some br)) (Sl im au.2.1 io) au.2.2.1 au.2.2.2 d6 ir it d5) λkm iu=>?_
 obtain ⟨iv,iw⟩:=iu
 obtain rfl:=AK a
 refine TC Z (.agg Mi Z Z (Bw iv))<|⟨cr,.slice none 0 0,Z,Ho (T3 (T4 (T4 (T4 (Mo [1,21,22,23,24,25,26,27,28,29] ao) al r ae aa) o p g w) y l ar ai) aj bb iw) a3,Own.nil⟩
 refine have a:=HS a iq; ?_
 obtain ⟨av,aw,rfl⟩:=Own.len d7
 refine .inr ⟨_,Z,?_⟩
 refine Ef<|Aa cr 31 Cm Z λd8 kn ko ix bl=>have d9:=Os d7 bl;Eu<|Bf (vs:=[I e.type_,Cx e.num,.bool e.bool,Sl av e.list aw]) (cs':=[I e.type_,Cx e.num,.bool e.bool,Sl av e.list aw]) DN Z Z Z Z (AQ Z (AQ Z (AQ Z (AQ (Own.one d9) B6)))) ix dcd Z Z λkp iy bm=>AA<|AT<|Sp<|BZ C7 (qs 0 6 (.one 6 .nil)) [6] [] d8 (by kernel_rfl) λkq bc=>have iz:=Bs iy bc;Qx DM Z (λ_ ⟨_,c⟩=>Lx B5 Z Z (Bw (Bs iz c)))<|have i0:=Y4 cq bb bl bm bc;Qx DM Z (λ_ ⟨_,c⟩=>Ld RK Z (Bc (Bs i0 c) Z))<|Qx DM Z (λ_ _=>Nc Z)<|Qx DM Z (λ_ _=>Fd PI Z)<|have i1:=Y3 d5 bl bm bc;Qx DM Z (λ_ ⟨_,c⟩=>Ld BC Z (Bc (Bs i1 c) Z))<|Qx DM Z (v:=Ag [I 0,I e.type_,Cx e.num,.bool e.bool,Sl av e.list aw,I au.2.2.1,I 0,I 0,I 0]) (λ_ _=>CK (cs:=[I 0,I e.type_,Cx e.num,.bool e.bool,Sl av e.list aw,I au.2.2.1,I 0,I 0,I 0]) [I 0,I 0,Cx (((0,0):Cpl)),.bool false,.slice none 0 0,I 0,I 0,I 0,I 0] LQ NQ Z (.cons Z Z Z (.cons Z Z Z .nil)) Z Z)<|E3 dcd<|WY.one<|have i2:=Y4 (Y4 (Y4 (Y4 a4 r ae aa o) p g w y) l ar ai aj) bb bl bm bc;have ea:=Os (Os d9 bm) bc;BS Z (.none Z) Z<|Bf (vs:=[I 0,I e.type_,Cx e.num,.bool e.bool,Sl av e.list aw,I au.2.2.1,I 0,I 0,I 0]) (cs':=[I 0,I e.type_,Cx e.num,.bool e.bool,Sl av e.list aw,I au.2.2.1,I 0,I 0,I 0]) MA Z Z Z Z (AQ Z (AQ Z (AQ Z (AQ Z (AQ (Own.one ea) (AQ Z (AQ Z (AQ Z (AQ Z B6))))))))) i2 dcd Z Z λkr i3 eb=>WY.nil<|AS ?_
 obtain rfl:=AK a
 refine ACs hW (B:=B2) hB2 (PF Tryz.func32 Z dcd) (Yw (Pt am 0) (Pt ak 0) _)<|TC Z (.agg Mi Z Z (Bw i3))<|have i4:=Os ea eb;⟨d8,Sl av e.list aw,Z,Ho (T2 (T4 (T4 (T4 (T4 (Mo [1,21,22,23,24,25,26,27,28,29,31] ao) al r ae aa) o p g w) y l ar ai) aj bb bl bm) bc eb) a3,i4⟩
theorem NC(c:Nat):Ha.Spec (Ha c):=by
 intro a d p q r s u w kw0 y f hnd hnz g h
 refine Calls.mono (U3 c (recol (see [kw0]) a) d (E9 (Nat.le_of_ble_eq_true Z) a) (Bd Bz g [kw0]) (EZ Aq h [kw0]) f) ?_
 rintro z aa ⟨l,m,n,e,o⟩
 exact ⟨glue [kw0] d a l,m,n,B8 e (E4 Z Z),IV (j:=0) o Z Z e⟩
def H5.At(d:Col)(a:World)(f:Option Bool):Prop:=
 ∀{c},f=some c->
  Calls PG 10 #[] a λe g=>∃h,e=.returned (.bool c)/\AU [] d a h g
def H5.Spec(f:Option Bool):Prop:=
 ∀a c,H5.At a c f
theorem SS(s:Nat)(ab:Col)(a1:World)(a2:∀b,ab b<10):H5.At ab a1 (H5 s):=by
 intro a3 a
 rw [H5] at a
 refine Az Tryz.func10 Z Tryz.ntmps10 Z λB a4 b6=>Sr<|Va (.bool false)<|AA<|Sr<|Ef<|Cj (cs:=[U8 102,U8 40,U8 120,U8 32,U8 78,U8 41,U8 58,U8 78,U8 61,U8 120,U8 43,U8 120,U8 59,U8 103,U8 40,U8 41,U8 58,U8 78,U8 61,U8 102,U8 40,U8 49,U8 43,U8 50,U8 41,U8 59]) ab 20 [[U8 102],[U8 40],[U8 120],[U8 32],[U8 78],[U8 41],[U8 58],[U8 78],[U8 61],[U8 120],[U8 43],[U8 120],[U8 59],[U8 103],[U8 40],[U8 41],[U8 58],[U8 78],[U8 61],[U8 102],[U8 40],[U8 49],[U8 43],[U8 50],[U8 41],[U8 59]] IC Zi Z Z (.cons Z Z Z (.cons Z Z Z (.cons Z Z Z (.cons Z Z Z (.cons Z Z Z (.cons Z Z Z (.cons Z Z Z (.cons Z Z Z (.cons Z Z Z (.cons Z Z Z (.cons Z Z Z (.cons Z Z Z (.cons Z Z Z (.cons Z Z Z (.cons Z Z Z (.cons Z Z Z (.cons Z Z Z (.cons Z Z Z (.cons Z Z Z (.cons Z Z Z (.cons Z Z Z (.cons Z Z Z (.cons Z Z Z (.cons Z Z Z (.cons Z Z Z (.cons Z Z Z .nil)))))))))))))))))))))))))) Z λa5 a6 ac a7 a8=>have a9:Own Kd.u8 5 a5 a6 20 (.slice (some ⟨ac,0,none⟩) 26 26) ([102,40,120,32,78,41,58,78,61,120,43,120,59,103,40,41,58,78,61,102,40,49,43,50,41,59]:Bts):=Own.lit (css:=[[U8 102],[U8 40],[U8 120],[U8 32],[U8 78],[U8 41],[U8 58],[U8 78],[U8 61],[U8 120],[U8 43],[U8 120],[U8 59],[U8 103],[U8 40],[U8 41],[U8 58],[U8 78],[U8 61],[U8 102],[U8 40],[U8 49],[U8 43],[U8 50],[U8 41],[U8 59]]) a7 Z Z Z (Ac Z (Ac Z (Ac Z (Ac Z (Ac Z (Ac Z (Ac Z (Ac Z (Ac Z (Ac Z (Ac Z (Ac Z (Ac Z (Ac Z (Ac Z (Ac Z (Ac Z (Ac Z (Ac Z (Ac Z (Ac Z (Ac Z (Ac Z (Ac Z (Ac Z (Ac Z BB)))))))))))))))))))))))))) (A6 Z (A6 Z (A6 Z (A6 Z (A6 Z (A6 Z (A6 Z (A6 Z (A6 Z (A6 Z (A6 Z (A6 Z (A6 Z (A6 Z (A6 Z (A6 Z (A6 Z (A6 Z (A6 Z (A6 Z (A6 Z (A6 Z (A6 Z (A6 Z (A6 Z (A6 Z Ds)))))))))))))))))))))))))) Z;Ef<|ZM AAi Z a9 (by simp) dcd λba bb bc bd=>Vx (v:=Ag [Sl (some ⟨ac,0,none⟩) (([102,40,120,32,78,41,58,78,61,120,43,120,59,103,40,41,58,78,61,102,40,49,43,50,41,59]:Bts)) 26,Sb ([103]:Bts),Sb ([]:Bts)]) (Bp ABz Tb.p24 Z (.cons Z Z Z (.cons Z Z Z (.cons Z Z Z .nil))))<|Bi a λe be a=>Ca (Cg [Ag [Sl (some ⟨ac,0,none⟩) (([102,40,120,32,78,41,58,78,61,120,43,120,59,103,40,41,58,78,61,102,40,49,43,50,41,59]:Bts)) 26,Sb ([103]:Bts),Sb ([]:Bts)]] Z) (Nk s ba bb (kw1:=21) be dcd dcd (OH (x:=(Eh.mk ([102,40,120,32,78,41,58,78,61,120,43,120,59,103,40,41,58,78,61,102,40,49,43,50,41,59]:Bts) ([103]:Bts) ([]:Bts))) bc)) ?_
 rintro _ b7 ⟨bf,b8,b9,rfl,bg,bh,aj⟩
 obtain ⟨p,q,rfl,ak⟩:=E1 (BQ bh)
 obtain ⟨u,w,rfl⟩:=Own.len aj
 refine Vm<|Vr (Ag [Sl p e.1.funcs q])<|Vr (Sl u e.2.1 w)<|Vr (.bool e.2.2)<|Ef<|Aa bf 22 KP Z λcb cc cd bi ad=>have bj:=Ss AI ak ad;Eu<|St JK bi Z Z Z Z λbk al ae=>Va (Sl u e.2.1 w)<|Va (.bool e.2.2)<|AA<|Sr<|Vx (Lx Fw Z Z (Bw al))<|Vm<|have bl:=Os (Os aj ad) ae; ?_
 obtain ⟨bm,af,am⟩:=Own.freeze (S:=[21]) bl dcd dcd
 refine have an:=K2 AI bj ae af;Bi a λc bn a=>Ca (Cg [Ag [Sl p e.1.funcs q],Sb ([103]:Bts),Sl u e.2.1 w,I 99] Z) (NC s bm bk (kw0:=23) bn dcd dcd (BL (x:=e.1) an) am) ?_
 rintro _ cf ⟨bo,cg,rfl,y,ao⟩
 obtain ⟨ap,aq,rfl⟩:=Own.len ao
 refine Ef<|Aa bo 24 LQ Z λbp ch ci bq r=>have br:=Os ao r;Eu<|Bf (vs:=[I c.why,I c.value.type_,Cx c.value.num,.bool c.value.bool,Sl ap c.value.list aq,I c.moves,I c.thunks,I c.updates,I c.calls]) (cs':=[I c.why,I c.value.type_,Cx c.value.num,.bool c.value.bool,Sl ap c.value.list aq,I c.moves,I c.thunks,I c.updates,I c.calls]) MA Z Z Z Z (AQ Z (AQ Z (AQ Z (AQ Z (AQ (Own.one br) (AQ Z (AQ Z (AQ Z (AQ Z B6))))))))) bq dcd Z Z λbt bu z=>AA<|Sr<|have bv:=Y4 al af y r z;Vx (Lx Fw Z Z (Bw bv))<|Vm<|have bw:=K3 AI an y r z;have bx:=K3 Aq am y r z;Bi a λd bz a=>Ca (Cg [Ag [Sl p e.1.funcs q],Sb ([103]:Bts),Sl u e.2.1 w,I 9] Z) (NC s bp bt (kw0:=25) bz dcd dcd (BL (x:=e.1) bw) bx) ?_
 rintro _ cj ⟨b0,ck,rfl,ar,au⟩
 obtain ⟨av,aw,rfl⟩:=Own.len au
 refine Ef<|Aa b0 26 LQ Z λo cl cm b1 ag=>have b2:=Os au ag;Eu<|Bf (vs:=[I d.why,I d.value.type_,Cx d.value.num,.bool d.value.bool,Sl av d.value.list aw,I d.moves,I d.thunks,I d.updates,I d.calls]) (cs':=[I d.why,I d.value.type_,Cx d.value.num,.bool d.value.bool,Sl av d.value.list aw,I d.moves,I d.thunks,I d.updates,I d.calls]) MA Z Z Z Z (AQ Z (AQ Z (AQ Z (AQ Z (AQ (Own.one b2) (AQ Z (AQ Z (AQ Z (AQ Z B6))))))))) b1 dcd Z Z λb3 ax ay=>AA<|Am (λb4 az=>∃a0 ah ai,b4=Env.puts a0 [(0,.bool ai)]/\Gv ai=some a3/\AU [] o b3 ah az) ?_ ?_
 refine AM<|Vm<|Vm<|Bo a (λh a=>?_) λh a=>?_
 refine Gx h (Fz Qh Z)<|have aa:=Y3 bu ar ag ay;Gx h (Ld NO Z (Bc aa Z))<|Gr h (.bool (c.why==0))<|Vp h<|Vm<|Bo a (λf a=>?_) λf a=>?_
 refine Gx f (Fd Mx Z)<|Gx f (Fz JJ Z)<|Gx f (Ld Dl Z (Bc aa Z))<|Gr f (.bool (c.value.type_==1))<|Vp f<|Vm<|Bo a (λg a=>?_) λg a=>?_
 refine Gx g (Fd Mx Z)<|Gx g (Fd HU Z)<|Gx g (Ld Gc Z (Bc aa Z))<|Gx g (v:=.bool (ceq c.value.num ((4618441417868443648,0):Cpl))) (Run.ceq Z Z)<|Vp g<|Vm<|Bo a (λl a=>?_) λl a=>?_
 refine Gx l (Fd Qi Z)<|Gx l (Ld BC Z (Bc aa Z))<|Gr l (.bool (c.moves==10))<|Vp l<|Vm<|Bo a (λm a=>?_) λm a=>?_
 refine Gx m (Fz Qh Z)<|Gx m (Ld NO Z (Bc ax Z))<|Gr m (.bool (d.why==60))<|Vp m<|Vm<|Bo a (λn a=>?_) λn a=>?_
 refine Gx n (Fd Qi Z)<|Gx n (Ld BC Z (Bc ax Z))<|Gr n (.bool (d.moves==9))<|Vp n<|Va (.bool (d.moves==9))<|AA<|⟨_,o,(d.moves==9),Pu,a,Rf⟩
 refine Pg n<|Pg n<|Pg n<|Vp n<|Va (.bool false)<|AA<|⟨_,o,false,Pu,a,Rf⟩
 refine Pg m<|Pg m<|Pg m<|Vp m<|Vm<|Pg Z<|Pg Z<|Pg Z<|Vr (.bool false)<|Va (.bool false)<|AA<|⟨_,o,false,Pu,a,Rf⟩
 refine Pg l<|Pg l<|Pg l<|Vp l<|Vm<|Pg Z<|Pg Z<|Pg Z<|Vr (.bool false)<|Vm<|Pg Z<|Pg Z<|Pg Z<|Vr (.bool false)<|Va (.bool false)<|AA<|⟨_,o,false,Pu,a,Rf⟩
 refine Pg g<|Pg g<|Pg g<|Pg g<|Vp g<|Vm<|Pg Z<|Pg Z<|Pg Z<|Vr (.bool false)<|Vm<|Pg Z<|Pg Z<|Pg Z<|Vr (.bool false)<|Vm<|Pg Z<|Pg Z<|Pg Z<|Vr (.bool false)<|Va (.bool false)<|AA<|⟨_,o,false,Pu,a,Rf⟩
 refine Pg f<|Pg f<|Pg f<|Pg f<|Vp f<|Vm<|Pg Z<|Pg Z<|Pg Z<|Pg Z<|Vr (.bool false)<|Vm<|Pg Z<|Pg Z<|Pg Z<|Vr (.bool false)<|Vm<|Pg Z<|Pg Z<|Pg Z<|Vr (.bool false)<|Vm<|Pg Z<|Pg Z<|Pg Z<|Vr (.bool false)<|Va (.bool false)<|AA<|⟨_,o,false,Pu,a,Rf⟩
 refine Pg h<|Pg h<|Pg h<|Vp h<|Vm<|Pg Z<|Pg Z<|Pg Z<|Pg Z<|Vr (.bool false)<|Vm<|Pg Z<|Pg Z<|Pg Z<|Pg Z<|Vr (.bool false)<|Vm<|Pg Z<|Pg Z<|Pg Z<|Vr (.bool false)<|Vm<|Pg Z<|Pg Z<|Pg Z<|Vr (.bool false)<|Vm<|Pg Z<|Pg Z<|Pg Z<|Vr (.bool false)<|Va (.bool false)<|AA<|⟨_,o,false,Pu,a,Rf⟩
 rintro _ az ⟨a0,ah,ai,rfl,a,b5⟩
 rw [Gv] at a
 refine AS ?_
 obtain rfl:=AK a
 refine O1 B a4 Z (.tmp Z)<|⟨ah,Z,Ho (T4 (T4 (T4 (Mo [20,21,22,23,24,25,26] a8) bd bg ad ae) af y r z) ar ag ay b5) a2⟩
theorem T6(c:Nat):H5.Spec (H5 c):=lk0 (SS c)
def IN.At(c:Col)(a:World)(f:AD->AD->Option Bool):Prop:=
 ∀{d e g h l},f d g=some l->Aq.rep c.F a e d->Aq.rep c.F a h g->
  Calls PG 23 #[Ag e,Ag h] a λm n=>∃o,m=.returned (.bool l)/\AU [] c a o n
def IN.Spec(f:AD->AD->Option Bool):Prop:=
 ∀a c,IN.At a c f
theorem T7(ac:Nat)(ai:Col)(bj:World)(aj:∀b,ai b<10):IN.At ai bj (IN ac):=by
 intro c cl d cm ak a bk bl
 rw [IN] at a
 obtain ⟨av,aw,rfl,al⟩:=E1 (A1 bk)
 obtain ⟨ax,ay,rfl,am⟩:=E1 (A1 bl)
 refine Az Tryz.func23 Z Tryz.ntmps23 Z λB an n=>Sr<|Ef<|A0 ai 20 Z Z λbm cq az a0 y=>Ef<|A0 bm 21 Z Z λa1 a2 a3 a4 p=>Va (.bool false)<|AA<|AT<|Am (λao ap=>∃ad ae aq,ao=Env.puts ad [(2,Pt az 0),(3,Pt a3 0),(43,.bool aq)]/\Hi ac c d aq=some ak/\AU [] a1 a2 ae ap) ?_ ?_
 refine AM<|have a5:=Bs a0 p;Vx (Lx B5 Z Z (Bw a5))<|have a6:=K2 Kd.cpx al y p;Bi a λbn bo a=>Ca (Cg [Ag [I c.type_,Cx c.num,.bool c.bool,Sl av c.list aw]] Z) (LT ac a1 a2 bo (Ao (x:=c) a6)) ?_
 rintro _ bp ⟨a7,rfl,o⟩
 refine Vr (.bool (!bn))<|Vm<|Bo a (λq a=>?_) λq a=>?_
 refine Pg q<|Pg q<|Pg q<|Vp q<|Vm<|Pg Z<|Pg Z<|Pg Z<|Pg Z<|Pg Z<|Vr (.bool true)<|Vm<|Pg Z<|Pg Z<|Pg Z<|Pg Z<|Pg Z<|Vr (.bool true)<|Vm<|Pg Z<|Pg Z<|Pg Z<|Pg Z<|Pg Z<|Vr (.bool true)<|Vm<|Pg Z<|Pg Z<|Pg Z<|Pg Z<|Pg Z<|Pg Z<|Pg Z<|Vr (.bool true)<|AA<|⟨_,a7,true,Pu,a,(Mo [] o)⟩
 refine have a8:=Bs a4 o;Gx q (Lx B5 Z Z (Bw a8))<|have a9:=K3 Kd.cpx am y p o;Bi a λbq br a=>CQ (.guard (t:=false) (b:=false) Z Z Z Z (Cb q)) Z Z (Cg [Ag [I d.type_,Cx d.num,.bool d.bool,Sl ax d.list ay]] Z)<|Calls.mono (LT ac a7 bp br (Ao (x:=d) a9)) ?_
 rintro _ cr ⟨af,rfl,r⟩
 refine ⟨_,Z,?_⟩
 refine Gr q (.bool (!bq))<|Vp q<|Vm<|Bo a (λg a=>?_) λg a=>?_
 refine Pg g<|Pg g<|Pg g<|Pg g<|Pg g<|Vp g<|Vm<|Pg Z<|Pg Z<|Pg Z<|Pg Z<|Pg Z<|Vr (.bool true)<|Vm<|Pg Z<|Pg Z<|Pg Z<|Pg Z<|Pg Z<|Vr (.bool true)<|Vm<|Pg Z<|Pg Z<|Pg Z<|Pg Z<|Pg Z<|Pg Z<|Pg Z<|Vr (.bool true)<|AA<|⟨_,af,true,Pu,a,(Tn (Mo [] o) r)⟩
 refine Gx g (Fz JJ Z)<|have ag:=Y2 a5 o r;Gx g (Ld Dl Z (Bc ag Z))<|Gx g (Fz JJ Z)<|have ah:=Bs a8 r;Gx g (Ld Dl Z (Bc ah Z))<|Gr g (.bool (c.type_ != d.type_))<|Vp g<|Vm<|Bo a (λh a=>?_) λh a=>?_
 refine Pg h<|Pg h<|Pg h<|Pg h<|Pg h<|Vp h<|Vm<|Pg Z<|Pg Z<|Pg Z<|Pg Z<|Pg Z<|Vr (.bool true)<|Vm<|Pg Z<|Pg Z<|Pg Z<|Pg Z<|Pg Z<|Pg Z<|Pg Z<|Vr (.bool true)<|AA<|⟨_,af,true,Pu,a,(Tn (Mo [] o) r)⟩
 refine Gx h (Fd HU Z)<|Gx h (Ld Gc Z (Bc ag Z))<|Gx h (Fd HU Z)<|Gx h (Ld Gc Z (Bc ah Z))<|Gx h (v:=.bool (cne c.num d.num)) (Run.cne Z Z)<|Vp h<|Vm<|Bo a (λl a=>?_) λl a=>?_
 refine Pg l<|Pg l<|Pg l<|Pg l<|Pg l<|Vp l<|Vm<|Pg Z<|Pg Z<|Pg Z<|Pg Z<|Pg Z<|Pg Z<|Pg Z<|Vr (.bool true)<|AA<|⟨_,af,true,Pu,a,(Tn (Mo [] o) r)⟩
 refine Gx l (Fd Kj Z)<|Gx l (Ld M0 Z (Bc ag Z))<|Gx l (Fd Kj Z)<|Gx l (Ld M0 Z (Bc ah Z))<|Gx l (v:=.bool (!(c.bool==d.bool))) (Run.boolNe ABy Z Z)<|Vp l<|Vm<|Bo a (λe a=>?_) λe a=>?_
 refine Pg e<|Pg e<|Pg e<|Pg e<|Pg e<|Pg e<|Pg e<|Vp e<|AA<|⟨_,af,true,Pu,a,(Tn (Mo [] o) r)⟩
 refine Gx e (Fd DV Z)<|Gx e (Ld HO Z (Bc ag Z))<|have bt:=K2 Kd.cpx a6 o r; ?_
 obtain ⟨ct,cu,bu⟩:=AW bt
 refine Gx e (v:=I (c.list.length:Int)) (Ll HB bu)<|Gx e (Fd DV Z)<|Gx e (Ld HO Z (Bc ah Z))<|have bv:=Ss Kd.cpx a9 r; ?_
 obtain ⟨cv,cw,bw⟩:=AW bv
 refine Gx e (v:=I (d.list.length:Int)) (Ll HB bw)<|Gr e (.bool ((c.list.length:Int) != (d.list.length:Int)))<|Vp e<|AA<|⟨_,af,((c.list.length:Int) != (d.list.length:Int)),Pu,a,(Tn (Mo [] o) r)⟩
 rintro _ ap ⟨ad,ae,aq,rfl,a,z⟩
 rw [Hi] at a
 refine Cn a (λbx a=>?_) λbx a=>?_
 refine Sr<|Va (.bool false)<|AA<|AS ?_
 obtain rfl:=AK a
 refine O1 B an Z (.tmp Z)<|⟨ae,Z,Ho (T2 (Mo [] y) p z) aj⟩
 refine AR<|AT<|Sr<|Va (I 0)<|AA<|Ah<|Bj (λu ao ba=>∃ad w m,ao=Env.puts ad [(2,Pt az 0),(3,Pt a3 0),(5,I m)]/\Jw c d u m=some ak/\AU [] ae ap w ba) ac ?_ ?_
 exact ⟨_,ae,0,Pu,a,Rf⟩
 rintro u _ ba ⟨ad,w,m,rfl,a,aa⟩
 rcases u with _|u
 exact A5 a
 refine have a:LE c d (Jw c d u) m=some ak:=a; ?_
 obtain ⟨cx,bb⟩:∃s,s=Jw c d u:=⟨_,rfl⟩
 rw [<-bb,LE] at a
 refine AT<|Sr<|Vm<|Vx (Fd DV Z)<|have bc:=Y3 a0 p z aa;Vx (Ld HO Z (Bc bc Z))<|have bd:=K4 Kd.cpx al y p z aa; ?_
 obtain ⟨cy,cz,bz⟩:=AW bd
 refine Vx (v:=I (c.list.length:Int)) (Ll HB bz)<|Vr (.bool (decide (m< (c.list.length:Int))))<|AA<|Cn a (λb0 a=>?_) λb0 a=>?_
 refine AR<|AT<|Ah<|AT<|BZ C7 (qs 0 11 .nil) [] [] w (by kernel_rfl) λbe ab=>Qx n Z (λ_ _=>Fd DV Z)<|have b1:=Bs bc ab;Qx n Z (λ_ ⟨_,f⟩=>Ld HO Z (Bc (Bs b1 f) Z))<|Qx n Z (v:=I m) (λ_ _=>Mv Z)<|Bi a λbf b2 a=>have b3:=Ss Kd.cpx bd ab; ?_
 obtain ⟨b4,b5,c0,bg,b6,b7,b8,b9,ar⟩:=A8 (κ:=Kd.cpx) b3 b2
 replace ar:Ay w be b4 (b5+m.toNat*1) bg:=ar
 obtain rfl:=(show bg=[Cx bf] from b9)
 refine Qx n Z (λ_ _=>Ix HB b6 Z b7 b8)<|Qx n Z (λ_ ⟨_,f⟩=>Ld Gc Z (Ay.cell0 (Es ar f) Z))<|Qx n Z (λ_ _=>Fd DV Z)<|have ca:=Y3 a4 z aa ab;Qx n Z (λ_ ⟨_,f⟩=>Ld HO Z (Bc (Bs ca f) Z))<|Qx n Z (v:=I m) (λ_ _=>Mv Z)<|Bi a λbh cb a=>have cc:=Ss Kd.cpx (K4 Kd.cpx am y p z aa) ab; ?_
 obtain ⟨cd,cf,c1,bi,cg,ch,ci,cj,au⟩:=A8 (κ:=Kd.cpx) cc cb
 replace au:Ay w be cd (cf+m.toNat*1) bi:=au
 obtain rfl:=(show bi=[Cx bh] from cj)
 refine Qx n Z (λ_ _=>Ix HB cg Z ch ci)<|Qx n Z (λ_ ⟨_,f⟩=>Ld Gc Z (Ay.cell0 (Es au f) Z))<|Qx n Z (v:=.bool (cne bf bh)) (λ_ _=>(Run.cne Z Z))<|CA<|Cn a (λck a=>?_) λck a=>?_
 refine Sr<|Va (.bool false)<|AA<|AS ?_
 obtain rfl:=AK a
 refine O1 B an Z (.tmp Z)<|⟨w,Z,Ho (T4 (Mo [] y) p z aa ab) aj⟩
 refine AR<|AM<|Vm<|Vr (I (Wr (m+1)))<|Va (I (Wr (m+1)))<|AA<|⟨u,Nat.lt_succ_self u,_,w,(Wr (m+1)),Pu,(bb▸a),(Tn (Mo [] aa) ab)⟩
 refine BX<|Sr<|Va (.bool true)<|AA<|AS ?_
 obtain rfl:=AK a
 refine O1 B an Z (.tmp Z)<|⟨w,Z,Ho (T3 (Mo [] y) p z aa) aj⟩
theorem QF(c:Nat):IN.Spec (IN c):=lk0 (T7 c)
def ref04_SameExpr.At(c:Col)(a:World)(f:AE->AE->Bool->Option Bool):Prop:=
 ∀{d e g h l m},f d g l=some m->AG.rep c.F a e d->AG.rep c.F a h g->
  Calls PG 69 #[Ag e,Ag h,.bool l] a λn o=>∃p,n=.returned (.bool m)/\AU [] c a p o
def ref04_SameExpr.Spec(f:AE->AE->Bool->Option Bool):Prop:=
 ∀a c,ref04_SameExpr.At a c f
structure BV.Good(a:BV):Prop where
 ref04_SameExpr:ref04_SameExpr.Spec a.ref04_SameExpr
theorem QS(ac:BV)(al:Nat)(bf:BV.Good ac)(am:Col)(bg:World)(an:∀b,am b<10):ref04_SameExpr.At am bg (Ir ac al):=by
 intro d ci h cj w ao a bh bi
 rw [Ir] at a
 obtain ⟨cl,cm,rfl,ap⟩:=E1 (Ae bh)
 obtain ⟨co,cq,rfl,aq⟩:=E1 (Ae bi)
 refine Az Tryz.func69 Z Tryz.ntmps69 Z λB ar q=>Sr<|Ef<|A0 am 20 Z Z λbj cr a1 a2 ad=>Ef<|A0 bj 21 Z Z λy bk a3 aa z=>Va (.bool false)<|AA<|AT<|Am (λau av=>∃aj ak aw,au=Env.puts aj [(2,.bool w),(3,Pt a1 0),(4,Pt a3 0),(59,.bool aw)]/\D6 ac al d h w aw=some ao/\AU [] y bk ak av) ?_ ?_
 refine AM<|Vx (Fz Cp Z)<|have ae:=Bs a2 z;Vx (Ld GC Z (Bc ae Z))<|Vx (Fz Cp Z)<|Vx (Ld GC Z (Bc aa Z))<|Vr (.bool (d.op != h.op))<|Vm<|Bo a (λl a=>?_) λl a=>?_
 refine Pg l<|Pg l<|Pg l<|Pg l<|Pg l<|Vp l<|Vm<|Pg Z<|Pg Z<|Pg Z<|Pg Z<|Pg Z<|Vr (.bool true)<|Vm<|Pg Z<|Pg Z<|Pg Z<|Pg Z<|Pg Z<|Vr (.bool true)<|Vm<|Pg Z<|Pg Z<|Pg Z<|Pg Z<|Pg Z<|Vr (.bool true)<|Vm<|Pg Z<|Pg Z<|Pg Z<|Pg Z<|Pg Z<|Pg Z<|Pg Z<|Vr (.bool true)<|Vm<|Pg Z<|Pg Z<|Po ?_
 refine Po<|Po<|Po<|Po<|Pg Z<|Vr (.bool true)<|AA<|⟨_,y,true,Pu,a,Rf⟩
 refine Gx l (Fd DW Z)<|Gx l (Ld B7 Z (Bc ae Z))<|Gx l (Fd DW Z)<|Gx l (Ld B7 Z (Bc aa Z))<|Gx l (v:=.bool (!(d.name==h.name))) (Run.strNe Z Z)<|Vp l<|Vm<|Bo a (λm a=>?_) λm a=>?_
 refine Pg m<|Pg m<|Pg m<|Pg m<|Pg m<|Vp m<|Vm<|Pg Z<|Pg Z<|Pg Z<|Pg Z<|Pg Z<|Vr (.bool true)<|Vm<|Pg Z<|Pg Z<|Pg Z<|Pg Z<|Pg Z<|Vr (.bool true)<|Vm<|Pg Z<|Pg Z<|Pg Z<|Pg Z<|Pg Z<|Pg Z<|Pg Z<|Vr (.bool true)<|Vm<|Pg Z<|Pg Z<|Po<|Po<|Po<|Po<|Po<|Pg Z<|Vr (.bool true)<|AA ?_
 exact ⟨_,y,true,Pu,a,Rf⟩
 refine Gx m (Fd MW Z)<|Gx m (Ld B7 Z (Bc ae Z))<|Gx m (Fd MW Z)<|Gx m (Ld B7 Z (Bc aa Z))<|Gx m (v:=.bool (!(d.tail==h.tail))) (Run.strNe Z Z)<|Vp m<|Vm<|Bo a (λn a=>?_) λn a=>?_
 refine Pg n<|Pg n<|Pg n<|Pg n<|Pg n<|Vp n<|Vm<|Pg Z<|Pg Z<|Pg Z<|Pg Z<|Pg Z<|Vr (.bool true)<|Vm<|Pg Z<|Pg Z<|Pg Z<|Pg Z<|Pg Z<|Pg Z<|Pg Z<|Vr (.bool true)<|Vm<|Pg Z<|Pg Z<|Po<|Po<|Po<|Po<|Po<|Pg Z<|Vr (.bool true)<|AA<|⟨_,y,true,Pu,a,Rf⟩
 refine Gx n (Fd Kk Z)<|Gx n (Ld Dl Z (Bc ae Z))<|Gx n (Fd Kk Z)<|Gx n (Ld Dl Z (Bc aa Z))<|Gr n (.bool (d.type_ != h.type_))<|Vp n<|Vm<|Bo a (λo a=>?_) λo a=>?_
 refine Pg o<|Pg o<|Pg o<|Pg o<|Pg o<|Vp o<|Vm<|Pg Z<|Pg Z<|Pg Z<|Pg Z<|Pg Z<|Pg Z<|Pg Z<|Vr (.bool true)<|Vm<|Pg Z<|Pg Z<|Po<|Po<|Po<|Po<|Po<|Pg Z<|Vr (.bool true)<|AA<|⟨_,y,true,Pu,a,Rf⟩
 refine Gx o (Fd Qj Z)<|Gx o (Ld Gc Z (Bc ae Z))<|Gx o (Fd Qj Z)<|Gx o (Ld Gc Z (Bc aa Z))<|Gx o (v:=.bool (cne d.num h.num)) (Run.cne Z Z)<|Vp o<|Vm<|Bo a (λc a=>?_) λc a=>?_
 refine Pg c<|Pg c<|Pg c<|Pg c<|Pg c<|Pg c<|Pg c<|Vp c<|Vm<|Pg Z<|Pg Z<|Po<|Po<|Po<|Po<|Po<|Pg Z<|Vr (.bool true)<|AA<|⟨_,y,true,Pu,a,Rf⟩
 refine Gx c (Fd BR Z)<|Gx c (Ld CR Z (Bc ae Z))<|have bl:=K2 AG ap ad z; ?_
 obtain ⟨ct,cu,bm⟩:=AW bl
 refine Gx c (v:=I (d.args.length:Int)) (Ll CG bm)<|Gx c (Fd BR Z)<|Gx c (Ld CR Z (Bc aa Z))<|have bn:=K2 AG aq ad z; ?_
 obtain ⟨cv,cw,bo⟩:=AW bn
 refine Gx c (v:=I (h.args.length:Int)) (Ll CG bo)<|Gr c (.bool ((d.args.length:Int) != (h.args.length:Int)))<|Vp c<|Vm<|Bo a (λu a=>?_) λu a=>?_
 refine Pg u<|Pg u<|Po<|Po<|Po<|Po<|Po<|Pg u<|Vp u<|AA<|⟨_,y,true,Pu,a,Rf⟩
 refine Gm u<|Gm u<|Bo a (λp a=>?_) λp a=>?_
 refine Gx p (Fd L2 Z)<|Gx p (Ld BC Z (Bc ae Z))<|Gx p (Fd L2 Z)<|Gx p (Ld BC Z (Bc aa Z))<|Gr p (.bool (d.at_ != h.at_))<|Gp u p<|Vp u<|AA<|⟨_,y,(d.at_ != h.at_),Pu,a,Rf⟩
 refine Pg p<|Pg p<|Pg p<|Pg p<|Pg p<|Gp u p<|Vp u<|AA<|⟨_,y,false,Pu,a,Rf⟩
 rintro _ av ⟨aj,ak,aw,rfl,a,af⟩
 rw [D6] at a
 refine Cn a (λbp a=>?_) λbp a=>?_
 refine Sr<|Va (.bool false)<|AA<|AS ?_
 obtain rfl:=AK a
 refine O1 B ar Z (.tmp Z)<|⟨ak,Z,Ho (T2 (Mo [] ad) z af) an⟩
 refine AR<|AT<|Sr<|Va (I 0)<|AA<|Ah<|Bj (λab au a4=>∃aj ag r,au=Env.puts aj [(2,.bool w),(3,Pt a1 0),(4,Pt a3 0),(7,I r)]/\Gw ac d h w ab r=some ao/\AU [] ak av ag a4) al ?_ ?_
 exact ⟨_,ak,0,Pu,a,Rf⟩
 rintro ab _ a4 ⟨aj,ag,r,rfl,a,ah⟩
 rcases ab with _|ab
 exact A5 a
 refine have a:I6 ac d h w (Gw ac d h w ab) r=some ao:=a; ?_
 obtain ⟨cx,a5⟩:∃s,s=Gw ac d h w ab:=⟨_,rfl⟩
 rw [<-a5,I6] at a
 refine AT<|Sr<|Vm<|Vx (Fd BR Z)<|have a6:=Y3 a2 z af ah;Vx (Ld CR Z (Bc a6 Z))<|have a7:=K4 AG ap ad z af ah; ?_
 obtain ⟨cy,cz,bq⟩:=AW a7
 refine Vx (v:=I (d.args.length:Int)) (Ll CG bq)<|Vr (.bool (decide (r< (d.args.length:Int))))<|AA<|Cn a (λbr a=>?_) λbr a=>?_
 refine AR<|AT<|Ah<|AT<|BZ C7 (qs 0 11 (.one 11 (.q 12 .nil))) [] [] ag (by kernel_rfl) λax ai=>Qx q Z (λ_ _=>Fd BR Z)<|have bt:=Bs a6 ai;Qx q Z (λ_ ⟨_,e⟩=>Ld CR Z (Bc (Bs bt e) Z))<|Qx q Z (v:=I r) (λ_ _=>Mv Z)<|Bi a λf bu a=>have bv:=Ss AG a7 ai; ?_
 obtain ⟨bw,bx,c0,bz,b0,b1,b2,b3,ay⟩:=A8 (κ:=AG) bv bu
 replace ay:Ay ag ax bw (bx+r.toNat*7) bz:=ay
 obtain ⟨a9,ba,rfl,a8⟩:=E1 (Ae b3)
 refine Qx q Z (λ_ _=>Ix CG b0 Z b1 b2)<|Qx q Z (λ_ ⟨_,e⟩=>Lx BA Z Z (Ay.part0 (Es ay e) [I f.op,Sb f.name,Sb f.tail,I f.type_,Cx f.num,Sl a9 f.args ba,I f.at_] Z))<|Qx q Z (λ_ _=>Fd BR Z)<|have b4:=Y3 aa af ah ai;Qx q Z (λ_ ⟨_,e⟩=>Ld CR Z (Bc (Bs b4 e) Z))<|Qx q Z (v:=I r) (λ_ _=>Mv Z)<|Bi a λg b5 a=>have b6:=Ss AG (K4 AG aq ad z af ah) ai; ?_
 obtain ⟨b7,b8,c2,b9,ca,cb,cc,cd,az⟩:=A8 (κ:=AG) b6 b5
 replace az:Ay ag ax b7 (b8+r.toNat*7) b9:=az
 obtain ⟨bc,bd,rfl,bb⟩:=E1 (Ae cd)
 refine Qx q Z (λ_ _=>Ix CG ca Z cb cc)<|Qx q Z (λ_ ⟨_,e⟩=>Lx BA Z Z (Ay.part0 (Es az e) [I g.op,Sb g.name,Sb g.tail,I g.type_,Cx g.num,Sl bc g.args bd,I g.at_] Z))<|Qx q Z (v:=.bool w) (λ_ _=>Mv Z)<|A2 Z<|Bi a λcf cg a=>A4 Z (.none Z) Z Z (Cg [Ag [I f.op,Sb f.name,Sb f.tail,I f.type_,Cx f.num,Sl a9 f.args ba,I f.at_],Ag [I g.op,Sb g.name,Sb g.tail,I g.type_,Cx g.num,Sl bc g.args bd,I g.at_],.bool w] Z)<|Calls.mono (bf.ref04_SameExpr ag ax cg (AY (x:=f) a8) (AY (x:=g) bb)) ?_
 rintro _ c4 ⟨be,rfl,a0⟩
 refine ⟨_,Z,⟨_,(Mo [] a0)⟩,?_⟩
 refine Qx q Z (v:=.bool (!cf)) (λ_ _=>Z)<|CA<|Cn a (λch a=>?_) λch a=>?_
 refine Sr<|Va (.bool false)<|AA<|AS ?_
 obtain rfl:=AK a
 refine O1 B ar Z (.tmp Z)<|⟨be,Z,Ho (Tn (T4 (Mo [] ad) z af ah ai) a0) an⟩
 refine AR<|AM<|Vm<|Vr (I (Wr (r+1)))<|Va (I (Wr (r+1)))<|AA<|⟨ab,Nat.lt_succ_self ab,_,be,(Wr (r+1)),Pu,(a5▸a),(T2 (Mo [] ah) ai a0)⟩
 refine BX<|Sr<|Va (.bool true)<|AA<|AS ?_
 obtain rfl:=AK a
 refine O1 B ar Z (.tmp Z)<|⟨ag,Z,Ho (T3 (Mo [] ad) z af ah) an⟩
theorem QT(a:BV)(d:Nat)(f:BV.Good a):ref04_SameExpr.Spec (Ir a d):=lk0 (QS a d f)
theorem BV.good:∀a,BV.Good (BV.at a)
 |0=>⟨by intro c d;intros;(try intro _);intros;exact A5 (by assumption)⟩
 |n+1=>⟨QT _ n (BV.good n)⟩
theorem Qz(a:Nat):ref04_SameExpr.Spec (ref04_SameExpr a):=(BV.good a).ref04_SameExpr
def FM.At(c:Col)(a:World)(f:AN->AN->Bool->Option Bool):Prop:=
 ∀{d e g h l m},f d g l=some m->AI.rep c.F a e d->AI.rep c.F a h g->
  Calls PG 45 #[Ag e,Ag h,.bool l] a λn o=>∃p,n=.returned (.bool m)/\AU [] c a p o
def FM.Spec(f:AN->AN->Bool->Option Bool):Prop:=
 ∀a c,FM.At a c f
theorem QU(y:Nat)(ap:Col)(bk:World)(aq:∀b,ap b<10):FM.At ap bk (FM y):=by
 intro c cx d cy u aj a bl bm
 rw [FM] at a
 obtain ⟨cz,c0,rfl,ar,a8⟩:=CL bl
 obtain ⟨c1,c2,rfl⟩:=AW ar
 obtain ⟨a9,ba,rfl⟩:=AW a8
 obtain ⟨c3,c4,rfl,au,bb⟩:=CL bm
 obtain ⟨c5,c6,rfl⟩:=AW au
 obtain ⟨bc,bd,rfl⟩:=AW bb
 refine Az Tryz.func45 Z Tryz.ntmps45 Z λB av c7=>Sr<|Ef<|A0 ap 20 Z Z λbn c8 aw be w=>Ef<|A0 bn 21 Z Z λad bo ax ae n=>Va (.bool false)<|AA<|AT<|Am (λaf ay=>∃z ag az,af=Env.puts z [(2,.bool u),(3,Pt aw 0),(4,Pt ax 0),(40,.bool az)]/\F0 y c d u az=some aj/\AU [] ad bo ag ay) ?_ ?_
 refine AM<|Vx (Fz MX Z)<|have ak:=Bs be n;Vx (Ld B7 Z (Bc ak Z))<|Vx (Fz MX Z)<|Vx (Ld B7 Z (Bc ae Z))<|Vx (v:=.bool (!(c.name==d.name))) (Run.strNe Z Z)<|Vm<|Bo a (λf a=>?_) λf a=>?_
 refine Pg f<|Pg f<|Pg f<|Pg f<|Pg f<|Vp f<|Vm<|Pg Z<|Pg Z<|Pg Z<|Pg Z<|Pg Z<|Pg Z<|Pg Z<|Vr (.bool true)<|Vm<|Pg Z<|Pg Z<|Po<|Po<|Po<|Po<|Po<|Pg Z<|Vr (.bool true)<|AA<|⟨_,ad,true,Pu,a,Rf⟩
 refine Gx f (Fd NM Z)<|Gx f (Ld Dl Z (Bc ak Z))<|Gx f (Fd NM Z)<|Gx f (Ld Dl Z (Bc ae Z))<|Gr f (.bool (c.type_ != d.type_))<|Vp f<|Vm<|Bo a (λe a=>?_) λe a=>?_
 refine Pg e<|Pg e<|Pg e<|Pg e<|Pg e<|Pg e<|Pg e<|Vp e<|Vm<|Pg Z<|Pg Z<|Po<|Po<|Po<|Po<|Po<|Pg Z<|Vr (.bool true)<|AA<|⟨_,ad,true,Pu,a,Rf⟩
 refine Gx e (Fd De Z)<|Gx e (Ld EF Z (Bc ak Z))<|have bp:=K2 AZ ar w n; ?_
 obtain ⟨c9,da,bq⟩:=AW bp
 refine Gx e (v:=I (c.params.length:Int)) (Ll Df bq)<|Gx e (Fd De Z)<|Gx e (Ld EF Z (Bc ae Z))<|have br:=K2 AZ au w n; ?_
 obtain ⟨db,dc,bt⟩:=AW br
 refine Gx e (v:=I (d.params.length:Int)) (Ll Df bt)<|Gr e (.bool ((c.params.length:Int) != (d.params.length:Int)))<|Vp e<|Vm<|Bo a (λo a=>?_) λo a=>?_
 refine Pg o<|Pg o<|Po<|Po<|Po<|Po<|Po<|Pg o<|Vp o<|AA<|⟨_,ad,true,Pu,a,Rf⟩
 refine Gm o<|Gm o<|Bo a (λg a=>?_) λg a=>?_
 refine Gx g (Fd Qk Z)<|Gx g (Ld BC Z (Bc ak Z))<|Gx g (Fd Qk Z)<|Gx g (Ld BC Z (Bc ae Z))<|Gr g (.bool (c.at_ != d.at_))<|Gp o g<|Vp o<|AA<|⟨_,ad,(c.at_ != d.at_),Pu,a,Rf⟩
 refine Pg g<|Pg g<|Pg g<|Pg g<|Pg g<|Gp o g<|Vp o<|AA<|⟨_,ad,false,Pu,a,Rf⟩
 rintro _ ay ⟨z,ag,az,rfl,a,q⟩
 rw [F0] at a
 refine Cn a (λbu a=>?_) λbu a=>?_
 refine Sr<|Va (.bool false)<|AA<|AS ?_
 obtain rfl:=AK a
 refine O1 B av Z (.tmp Z)<|⟨ag,Z,Ho (T2 (Mo [] w) n q) aq⟩
 refine AR<|AT<|Sr<|Va (I 0)<|AA<|Ah<|Bj (λaa af al=>∃z ah m,af=Env.puts z [(2,.bool u),(3,Pt aw 0),(4,Pt ax 0),(7,I m)]/\Gz y c d u aa m=some aj/\AU [22,23] ag ay ah al) y ?_ ?_
 exact ⟨_,ag,0,Pu,a,(AU.refl [22,23] _ _)⟩
 rintro aa _ al ⟨z,ah,m,rfl,a,r⟩
 rcases aa with _|aa
 exact A5 a
 refine have a:I7 y c d u (Gz y c d u aa) m=some aj:=a; ?_
 obtain ⟨bv,bf⟩:∃s,s=Gz y c d u aa:=⟨_,rfl⟩
 rw [<-bf,I7] at a
 refine AT<|Sr<|Vm<|Vx (Fd De Z)<|have a0:=Y3 be n q r;Vx (Ld EF Z (Bc a0 Z))<|have bg:=K4 AZ ar w n q r; ?_
 obtain ⟨de,df,bw⟩:=AW bg
 refine Vx (v:=I (c.params.length:Int)) (Ll Df bw)<|Vr (.bool (decide (m< (c.params.length:Int))))<|AA<|Cn a (λbx a=>?_) λbx a=>?_
 refine AR<|AT<|Ah<|Sr<|Vx (Fd De Z)<|Vx (Ld EF Z (Bc a0 Z))<|Vm<|Bi a λab bz a=>?_
 obtain ⟨b0,b1,dg,b2,b3,b4,b5,b6,a1⟩:=A8 (κ:=AZ) bg bz
 replace a1:Ay ah al b0 (b1+m.toNat*3) b2:=a1
 obtain rfl:=EK b6
 refine Vx (Ix Df b3 Z b4 b5)<|Vx (Lx TJ Z Z (Ay.part0 a1 [Sb ab.name,I ab.type_,I ab.at_] Z))<|Ef<|Aa ah 22 Lo Z λbh dh di b7 am=>Eu<|St TQ b7 Z Z Z Z λb8 b9 an=>AA<|Sr<|Vx (Fd De Z)<|have ca:=Y4 ae q r am an;Vx (Ld EF Z (Bc ca Z))<|Vm<|Bi a λac cb a=>have cc:=K2 AZ (K4 AZ au w n q r) am an; ?_
 obtain ⟨cd,cf,dj,cg,ch,ci,cj,ck,a2⟩:=A8 (κ:=AZ) cc cb
 replace a2:Ay bh b8 cd (cf+m.toNat*3) cg:=a2
 obtain rfl:=EK ck
 refine Vx (Ix Df ch Z ci cj)<|Vx (Lx TJ Z Z (Ay.part0 a2 [Sb ac.name,I ac.type_,I ac.at_] Z))<|Ef<|Aa bh 23 Lo Z λai dk dl cl a3=>Eu<|St TQ cl Z Z Z Z λcm a4 a5=>AA<|Am (λaf bi=>∃z ao a6,af=Env.puts z [(2,.bool u),(3,Pt aw 0),(4,Pt ax 0),(7,I m),(79,.bool a6)]/\Gy m bv a6=some aj/\AU [] ai cm ao bi) ?_ ?_
 refine AM<|Vx (Fz Kl Z)<|have a7:=Y2 b9 a3 a5;Vx (Ld B7 Z (Bc a7 Z))<|Vx (Fz Kl Z)<|Vx (Ld B7 Z (Bc a4 Z))<|Vx (v:=.bool (!(ab.name==ac.name))) (Run.strNe Z Z)<|Vm<|Bo a (λh a=>?_) λh a=>?_
 refine Pg h<|Pg h<|Pg h<|Pg h<|Pg h<|Vp h<|Vm<|Pg Z<|Pg Z<|Po<|Po<|Po<|Po<|Po<|Pg Z<|Vr (.bool true)<|AA<|⟨_,ai,true,Pu,a,Rf⟩
 refine Gx h (Fd My Z)<|Gx h (Ld Dl Z (Bc a7 Z))<|Gx h (Fd My Z)<|Gx h (Ld Dl Z (Bc a4 Z))<|Gr h (.bool (ab.type_ != ac.type_))<|Vp h<|Vm<|Bo a (λp a=>?_) λp a=>?_
 refine Pg p<|Pg p<|Po<|Po<|Po<|Po<|Po<|Pg p<|Vp p<|AA<|⟨_,ai,true,Pu,a,Rf⟩
 refine Gm p<|Gm p<|Bo a (λl a=>?_) λl a=>?_
 refine Gx l (Fd Qm Z)<|Gx l (Ld BC Z (Bc a7 Z))<|Gx l (Fd Qm Z)<|Gx l (Ld BC Z (Bc a4 Z))<|Gr l (.bool (ab.at_ != ac.at_))<|Gp p l<|Vp p<|AA<|⟨_,ai,(ab.at_ != ac.at_),Pu,a,Rf⟩
 refine Pg l<|Pg l<|Pg l<|Pg l<|Pg l<|Gp p l<|Vp p<|AA<|⟨_,ai,false,Pu,a,Rf⟩
 rintro _ bi ⟨z,ao,a6,rfl,a,bj⟩
 rw [Gy] at a
 refine Cn a (λcn a=>?_) λcn a=>?_
 refine Sr<|Va (.bool false)<|AA<|AS ?_
 obtain rfl:=AK a
 refine O1 B av Z (.tmp Z)<|⟨ao,Z,Ho (T4 (T4 (Mo [22,23] w) n q r am) an a3 a5 bj) aq⟩
 refine AR<|AM<|Vm<|Vr (I (Wr (m+1)))<|Va (I (Wr (m+1)))<|AA<|⟨aa,Nat.lt_succ_self aa,_,ao,(Wr (m+1)),Pu,(bf▸a),(Tn (T4 (Mo [22,23] r) am an a3 a5) bj)⟩
 refine BX<|Sr<|Vx (Fd LO Z)<|Vx (Lx BA Z Z (Bk.part a0 3 [I c.body.op,Sb c.body.name,Sb c.body.tail,I c.body.type_,Cx c.body.num,Sl a9 c.body.args ba,I c.body.at_] Z))<|Vx (Fd LO Z)<|have co:=Y2 ae q r;Vx (Lx BA Z Z (Bk.part co 3 [I d.body.op,Sb d.body.name,Sb d.body.tail,I d.body.type_,Cx d.body.num,Sl bc d.body.args bd,I d.body.at_] Z))<|Vm<|have cq:=K4 AG a8 w n q r;have cr:=K4 AG bb w n q r;Bi a λct cu a=>Ca (Cg [Ag [I c.body.op,Sb c.body.name,Sb c.body.tail,I c.body.type_,Cx c.body.num,Sl a9 c.body.args ba,I c.body.at_],Ag [I d.body.op,Sb d.body.name,Sb d.body.tail,I d.body.type_,Cx d.body.num,Sl bc d.body.args bd,I d.body.at_],.bool u] Z) (Qz y ah al cu (AY (x:=(AE.mk c.body.op c.body.name c.body.tail c.body.type_ c.body.num c.body.args c.body.at_)) cq) (AY (x:=(AE.mk d.body.op d.body.name d.body.tail d.body.type_ d.body.num d.body.args d.body.at_)) cr)) ?_
 rintro _ dm ⟨cv,rfl,cw⟩
 refine Va (.bool ct)<|AA<|AS ?_
 obtain rfl:=AK a
 refine O1 B av Z (.tmp Z)<|⟨cv,Z,Ho (T4 (Mo [22,23] w) n q r cw) aq⟩
theorem Q0(c:Nat):FM.Spec (FM c):=lk0 (QU c)
def I8.At(c:Col)(a:World)(f:AL->AL->Bool->Option Bool):Prop:=
 ∀{d e g h l m},f d g l=some m->Bz.rep c.F a e d->Bz.rep c.F a h g->
  Calls PG 24 #[Ag e,Ag h,.bool l] a λn o=>∃p,n=.returned (.bool m)/\AU [] c a p o
def I8.Spec(f:AL->AL->Bool->Option Bool):Prop:=
 ∀a c,I8.At a c f
theorem T8(m:Nat)(y:Col)(a7:World)(z:∀b,y b<10):I8.At y a7 (I8 m):=by
 intro h ca q cb n ag a a8 a9
 rw [I8] at a
 obtain ⟨cd,cf,rfl,ah⟩:=E1 (BQ a8)
 obtain ⟨ch,ci,rfl,ai⟩:=E1 (BQ a9)
 refine Az Tryz.func24 Z Tryz.ntmps24 Z λB aa f=>Sr<|Ef<|A0 y 20 Z Z λba cj bb bc w=>Ef<|A0 ba 21 Z Z λab bd be aj r=>Va (.bool false)<|AA<|AT<|Sr<|Vx (Fz Dd Z)<|have ak:=Bs bc r;Vx (Ld Fr Z (Bc ak Z))<|have al:=K2 AI ah w r; ?_
 obtain ⟨ck,cl,bf⟩:=AW al
 refine Vx (v:=I (h.funcs.length:Int)) (Ll FA bf)<|Vx (Fz Dd Z)<|Vx (Ld Fr Z (Bc aj Z))<|have am:=K2 AI ai w r; ?_
 obtain ⟨cm,cn,bg⟩:=AW am
 refine Vx (v:=I (q.funcs.length:Int)) (Ll FA bg)<|Vr (.bool ((h.funcs.length:Int) != (q.funcs.length:Int)))<|AA<|Cn a (λbh a=>?_) λbh a=>?_
 refine Sr<|Va (.bool false)<|AA<|AS ?_
 obtain rfl:=AK a
 refine O1 B aa Z (.tmp Z)<|⟨ab,Z,Ho (Tn (Mo [] w) r) z⟩
 refine AR<|AT<|Sr<|Va (I 0)<|AA<|Ah<|Bj (λl bi an=>∃ao o g,bi=Env.puts ao [(2,.bool n),(3,Pt bb 0),(4,Pt be 0),(7,I g)]/\Jx m h q n l g=some ag/\AU [] ab bd o an) m ?_ ?_
 exact ⟨_,ab,0,Pu,a,Rf⟩
 rintro l _ an ⟨ao,o,g,rfl,a,p⟩
 rcases l with _|l
 exact A5 a
 refine have a:LF m h q n (Jx m h q n l) g=some ag:=a; ?_
 obtain ⟨co,ap⟩:∃s,s=Jx m h q n l:=⟨_,rfl⟩
 rw [<-ap,LF] at a
 refine AT<|Sr<|Vm<|Vx (Fz Dd Z)<|have aq:=Bs ak p;Vx (Ld Fr Z (Bc aq Z))<|have ar:=Ss AI al p; ?_
 obtain ⟨cq,cr,bj⟩:=AW ar
 refine Vx (v:=I (h.funcs.length:Int)) (Ll FA bj)<|Vr (.bool (decide (g< (h.funcs.length:Int))))<|AA<|Cn a (λbk a=>?_) λbk a=>?_
 refine AR<|AT<|Ah<|AT<|BZ C7 (qs 0 11 (.one 11 (.q 12 .nil))) [] [] o (by kernel_rfl) λac u=>Qx f Z (λ_ _=>Fz Dd Z)<|have bl:=Bs aq u;Qx f Z (λ_ ⟨_,e⟩=>Ld Fr Z (Bc (Bs bl e) Z))<|Qx f Z (v:=I g) (λ_ _=>Mv Z)<|Bi a λc bm a=>have bn:=Ss AI ar u; ?_
 obtain ⟨bo,bp,ct,bq,br,bt,bu,bv,ad⟩:=A8 (κ:=AI) bn bm
 replace ad:Ay o ac bo (bp+g.toNat*11) bq:=ad
 obtain ⟨cu,cv,rfl,au,av⟩:=CL bv
 obtain ⟨aw,ax,rfl⟩:=AW au
 obtain ⟨ay,az,rfl⟩:=AW av
 refine Qx f Z (λ_ _=>Ix FA br Z bt bu)<|Qx f Z (λ_ ⟨_,e⟩=>Lx Lm Z Z (Ay.part0 (Es ad e) [Sb c.name,Sl aw c.params ax,I c.type_,I c.body.op,Sb c.body.name,Sb c.body.tail,I c.body.type_,Cx c.body.num,Sl ay c.body.args az,I c.body.at_,I c.at_] Z))<|Qx f Z (λ_ _=>Fz Dd Z)<|have bw:=Y2 aj p u;Qx f Z (λ_ ⟨_,e⟩=>Ld Fr Z (Bc (Bs bw e) Z))<|Qx f Z (v:=I g) (λ_ _=>Mv Z)<|Bi a λd bx a=>have bz:=K2 AI am p u; ?_
 obtain ⟨b0,b1,cw,b2,b3,b4,b5,b6,ae⟩:=A8 (κ:=AI) bz bx
 replace ae:Ay o ac b0 (b1+g.toNat*11) b2:=ae
 obtain ⟨cx,cy,rfl,a0,a1⟩:=CL b6
 obtain ⟨a2,a3,rfl⟩:=AW a0
 obtain ⟨a4,a5,rfl⟩:=AW a1
 refine Qx f Z (λ_ _=>Ix FA b3 Z b4 b5)<|Qx f Z (λ_ ⟨_,e⟩=>Lx Lm Z Z (Ay.part0 (Es ae e) [Sb d.name,Sl a2 d.params a3,I d.type_,I d.body.op,Sb d.body.name,Sb d.body.tail,I d.body.type_,Cx d.body.num,Sl a4 d.body.args a5,I d.body.at_,I d.at_] Z))<|Qx f Z (v:=.bool n) (λ_ _=>Mv Z)<|A2 Z<|Bi a λb7 b8 a=>A4 Z (.none Z) Z Z (Cg [Ag [Sb c.name,Sl aw c.params ax,I c.type_,I c.body.op,Sb c.body.name,Sb c.body.tail,I c.body.type_,Cx c.body.num,Sl ay c.body.args az,I c.body.at_,I c.at_],Ag [Sb d.name,Sl a2 d.params a3,I d.type_,I d.body.op,Sb d.body.name,Sb d.body.tail,I d.body.type_,Cx d.body.num,Sl a4 d.body.args a5,I d.body.at_,I d.at_],.bool n] Z)<|Calls.mono (Q0 m o ac b8 (K0 (x:=c) au av) (K0 (x:=d) a0 a1)) ?_
 rintro _ cz ⟨a6,rfl,af⟩
 refine ⟨_,Z,⟨_,(Mo [] af)⟩,?_⟩
 refine Qx f Z (v:=.bool (!b7)) (λ_ _=>Z)<|CA<|Cn a (λb9 a=>?_) λb9 a=>?_
 refine Sr<|Va (.bool false)<|AA<|AS ?_
 obtain rfl:=AK a
 refine O1 B aa Z (.tmp Z)<|⟨a6,Z,Ho (T4 (Mo [] w) r p u af) z⟩
 refine AR<|AM<|Vm<|Vr (I (Wr (g+1)))<|Va (I (Wr (g+1)))<|AA<|⟨l,Nat.lt_succ_self l,_,a6,(Wr (g+1)),Pu,(ap▸a),(T2 (Mo [] p) u af)⟩
 refine BX<|Sr<|Va (.bool true)<|AA<|AS ?_
 obtain rfl:=AK a
 refine O1 B aa Z (.tmp Z)<|⟨o,Z,Ho (T2 (Mo [] w) r p) z⟩
theorem U4(c:Nat):I8.Spec (I8 c):=lk0 (T8 c)
def HJ.At(c:Col)(a:World)(f:AL->Bts->Option Int):Prop:=
 ∀{d e g h},f d g=some h->Bz.rep c.F a e d->
  Calls PG 94 #[Ag e,Sb g] a λl m=>∃n,l=.returned (I h)/\AU [] c a n m
def HJ.Spec(f:AL->Bts->Option Int):Prop:=
 ∀a c,HJ.At a c f
theorem ST(p:Nat)(l:Col)(ad:World)(q:∀b,l b<10):HJ.At l ad (HJ p):=by
 intro e az f r a ae
 rw [HJ] at a
 obtain ⟨a1,a2,rfl,u⟩:=E1 (BQ ae)
 refine Az Tryz.func94 Z Tryz.ntmps94 Z λB w a3=>Sr<|Ef<|A0 l 20 Z Z λy af ag ah m=>Va (I 0)<|AA<|AT<|Sr<|Va (I 0)<|AA<|Ah<|Bj (λd ai n=>∃z g c,ai=Env.puts z [(1,Sb f),(2,Pt ag 0),(5,I c)]/\I9 e f d c=some r/\AU [] y af g n) p ?_ ?_
 exact ⟨_,y,0,Pu,a,Rf⟩
 rintro d _ n ⟨z,g,c,rfl,a,h⟩
 rcases d with _|d
 exact A5 a
 refine have a:Ke e f (I9 e f d) c=some r:=a; ?_
 obtain ⟨a4,aa⟩:∃s,s=I9 e f d:=⟨_,rfl⟩
 rw [<-aa,Ke] at a
 refine AT<|Sr<|Vm<|Vx (Fz Dd Z)<|have ab:=Bs ah h;Vx (Ld Fr Z (Bc ab Z))<|have ac:=K2 AI u m h; ?_
 obtain ⟨a5,a6,aj⟩:=AW ac
 refine Vx (v:=I (e.funcs.length:Int)) (Ll FA aj)<|Vr (.bool (decide (c< (e.funcs.length:Int))))<|AA<|Cn a (λak a=>?_) λak a=>?_
 refine AR<|AT<|Ah<|Sr<|Vx (Fz Dd Z)<|Vx (Ld Fr Z (Bc ab Z))<|Vm<|Bi a λal am a=>?_
 obtain ⟨an,ao,a7,ap,aq,ar,au,av,o⟩:=A8 (κ:=AI) ac am
 replace o:Ay g n an (ao+c.toNat*11) ap:=o
 obtain ⟨a8,a9,rfl,aw,ax⟩:=CL av
 obtain ⟨ba,bb,rfl⟩:=AW aw
 obtain ⟨bc,bd,rfl⟩:=AW ax
 refine Vx (Ix FA aq Z ar au)<|Vx (Fz MX Z)<|Vx (Ld B7 Z (Ay.cell0 o Z))<|Vm<|Vx (v:=.bool (al.name==f)) (Run.strEq Z Z)<|AA<|Cn a (λay a=>?_) λay a=>?_
 refine Sr<|Vm<|Va (I c)<|AA<|AS ?_
 obtain rfl:=AK a
 refine O1 B w Z (.tmp Z)<|⟨g,Z,Ho (Tn (Mo [] m) h) q⟩
 refine AR<|AM<|Vm<|Vr (I (Wr (c+1)))<|Va (I (Wr (c+1)))<|AA<|⟨d,Nat.lt_succ_self d,_,g,(Wr (c+1)),Pu,(aa▸a),(Mo [] h)⟩
 refine BX<|Sr<|Va (I (-1:Int))<|AA<|AS ?_
 obtain rfl:=AK a
 refine O1 B w Z (.tmp Z)<|⟨g,Z,Ho (Tn (Mo [] m) h) q⟩
theorem Pd(c:Nat):HJ.Spec (HJ c):=lk0 (ST c)
def JS.At(c:Col)(a:World)(f:(List Bts)->Bts->Option Bool):Prop:=
 ∀{d v0 e g},f d e=some g->Slc Kd.bts c.F a v0 d->
  Calls PG 20 #[v0,Sb e] a λh l=>∃m,h=.returned (.bool g)/\AU [] c a m l
def JS.Spec(f:(List Bts)->Bts->Option Bool):Prop:=
 ∀a c,JS.At a c f
theorem U5(o:Nat)(h:Col)(p:World)(q:∀b,h b<10):JS.At h p (JS o):=by
 intro e v0 f r a u
 rw [JS] at a
 obtain ⟨ad,ae,rfl⟩:=AW u
 refine Az Tryz.func20 Z Tryz.ntmps20 Z λB w aq=>Sr<|Va (.bool false)<|AA<|AT<|Sr<|Va (I 0)<|AA<|Ah<|Bj (λd af m=>∃y g c,af=Env.puts y [(0,Sl ad e ae),(1,Sb f),(5,I c)]/\KW e f d c=some r/\AU [] h p g m) o ?_ ?_
 exact ⟨_,h,0,Pu,a,Rf⟩
 rintro d _ m ⟨y,g,c,rfl,a,l⟩
 rcases d with _|d
 exact A5 a
 refine have a:Ly e f (KW e f d) c=some r:=a; ?_
 obtain ⟨ar,z⟩:∃s,s=KW e f d:=⟨_,rfl⟩
 rw [<-z,Ly] at a
 refine AT<|Sr<|Vm<|Vm<|have aa:=Ss Kd.bts u l; ?_
 obtain ⟨au,av,ag⟩:=AW aa
 refine Vx (v:=I (e.length:Int)) (Ll IT ag)<|Vr (.bool (decide (c< (e.length:Int))))<|AA<|Cn a (λah a=>?_) λah a=>?_
 refine AR<|AT<|Ah<|Sr<|Vm<|Vm<|Bi a λab ai a=>?_
 obtain ⟨aj,ak,aw,ac,al,am,an,ao,n⟩:=A8 (κ:=Kd.bts) aa ai
 replace n:Ay g m aj (ak+c.toNat*1) ac:=n
 obtain rfl:=(show ac=[Sb ab] from ao)
 refine Vx (Ix IT al Z am an)<|Vx (Ld B7 Z (Ay.cell0 n Z))<|Vm<|Vx (v:=.bool (ab==f)) (Run.strEq Z Z)<|AA<|Cn a (λap a=>?_) λap a=>?_
 refine Sr<|Va (.bool true)<|AA<|AS ?_
 obtain rfl:=AK a
 refine O1 B w Z (.tmp Z)<|⟨g,Z,Ho (Mo [] l) q⟩
 refine AR<|AM<|Vm<|Vr (I (Wr (c+1)))<|Va (I (Wr (c+1)))<|AA<|⟨d,Nat.lt_succ_self d,_,g,(Wr (c+1)),Pu,(z▸a),(Mo [] l)⟩
 refine BX<|Sr<|Va (.bool false)<|AA<|AS ?_
 obtain rfl:=AK a
 refine O1 B w Z (.tmp Z)<|⟨g,Z,Ho (Mo [] l) q⟩
theorem Q1(c:Nat):JS.Spec (JS c):=lk0 (U5 c)
def Il.At(c:Col)(a:World)(f:AE->Int->Option (List Bts)):Prop:=
 ∀{d e g h},f d g=some h->AG.rep c.F a e d->
  Calls PG 127 #[Ag e,I g] a λo l=>∃m n,o=.returned n/\AU [] c a m l/\Slc Kd.bts m.F l n h
def Il.Spec(f:AE->Int->Option (List Bts)):Prop:=
 ∀a c,Il.At a c f
theorem SU(p:Col)(ah:World)(q:∀b,p b<10):Il.At p ah Il:=by
 intro c a8 d ad a ai
 rw [Il] at a
 obtain ⟨ba,bb,rfl,aj⟩:=E1 (Ae ai)
 refine Az Tryz.func127 Z Tryz.ntmps127 Z λB r bc=>Sr<|Ef<|A0 p 20 Z Z λn ak ae l s=>Va (.slice none 0 0)<|AA<|AT<|Ah<|Am (λu w=>∃m g y,u=Env.puts m [(1,I d),(2,Pt ae 0),(5,.bool y)]/\LG c d y=some ad/\AU [] n ak g w) ?_ ?_
 refine Sr<|Vx (Fz Cp Z)<|Vx (Ld GC Z (Bc l Z))<|Vr (.bool (c.op==21))<|Va (.bool (c.op==21))<|AA<|Cn a (λal a=>?_) λal a=>?_
 refine AR<|⟨_,n,(c.op==21),Pu,a,Rf⟩
 refine AM<|Vx (Fz Cp Z)<|Vx (Ld GC Z (Bc l Z))<|Vr (.bool (c.op==22))<|Vm<|Bo a (λe a=>?_) λe a=>?_
 refine Gm e<|Gr e (.bool (d==1))<|Vp e<|Va (.bool (d==1))<|AA<|⟨_,n,(d==1),Pu,a,Rf⟩
 refine Pg e<|Pg e<|Vp e<|Va (.bool false)<|AA<|⟨_,n,false,Pu,a,Rf⟩
 rintro _ w ⟨m,g,y,rfl,a,h⟩
 rw [LG] at a
 refine Cn a (λam a=>?_) λam a=>?_
 refine Sr<|Vx (Fd DW Z)<|have an:=Bs l h;Vx (Ld B7 Z (Bc an Z))<|Ef<|Cj (cs:=[Sb c.name]) g 21 [[Sb c.name]] IT QB Z Z (.cons Z Z Z .nil) Z λao ap z aq ar=>have au:Own Kd.bts 9 ao ap 21 (.slice (some ⟨z,0,none⟩) 1 1) ([c.name]:List Bts):=Own.lit (css:=[[Sb c.name]]) aq Z Z Z (Ac Z BB) (A6 Z Ds) Z;Va (Sl (some ⟨z,0,none⟩) (([c.name]:List Bts)) 1)<|AA<|AS ?_
 obtain ⟨av,aw,ax⟩:=Own.freeze (S:=[21]) au dcd dcd
 obtain rfl:=AK a
 refine O1 B r Z (.tmp Z)<|⟨av,Sl (some ⟨z,0,none⟩) (([c.name]:List Bts)) 1,Z,Ho (T3 (Mo [21] s) h ar aw) q,ax⟩
 refine Am (λu af=>∃m o aa,u=Env.puts m [(2,Pt ae 0),(19,.bool aa)]/\MT c aa=some ad/\AU [] g w o af) ?_ ?_
 refine AM<|Vx (Fz Cp Z)<|have ay:=Bs l h;Vx (Ld GC Z (Bc ay Z))<|Vr (.bool (c.op==20))<|Vm<|Bo a (λf a=>?_) λf a=>?_
 refine Gm f<|Gr f (.bool (d==2))<|Vp f<|Va (.bool (d==2))<|AA<|⟨_,g,(d==2),Pu,a,Rf⟩
 refine Pg f<|Pg f<|Vp f<|Va (.bool false)<|AA<|⟨_,g,false,Pu,a,Rf⟩
 rintro _ af ⟨m,o,aa,rfl,a,ab⟩
 rw [MT] at a
 refine Cn a (λaz a=>?_) λaz a=>?_
 refine Sr<|Vx (Fd DW Z)<|have ag:=Y2 l h ab;Vx (Ld B7 Z (Bc ag Z))<|Vx (Fd MW Z)<|Vx (Ld B7 Z (Bc ag Z))<|Ef<|Cj (cs:=[Sb c.name,Sb c.tail]) o 22 [[Sb c.name],[Sb c.tail]] IT QB Z Z (.cons Z Z Z (.cons Z Z Z .nil)) Z λa0 a1 ac a2 a3=>have a4:Own Kd.bts 9 a0 a1 22 (.slice (some ⟨ac,0,none⟩) 2 2) ([c.name,c.tail]:List Bts):=Own.lit (css:=[[Sb c.name],[Sb c.tail]]) a2 Z Z Z (Ac Z (Ac Z BB)) (A6 Z (A6 Z Ds)) Z;Va (Sl (some ⟨ac,0,none⟩) (([c.name,c.tail]:List Bts)) 2)<|AA<|AS ?_
 obtain ⟨a5,a6,a7⟩:=Own.freeze (S:=[22]) a4 dcd dcd
 obtain rfl:=AK a
 refine O1 B r Z (.tmp Z)<|⟨a5,Sl (some ⟨ac,0,none⟩) (([c.name,c.tail]:List Bts)) 2,Z,Ho (T4 (Mo [22] s) h ab a3 a6) q,a7⟩
 refine AR<|Sr<|Va (.slice none 0 0)<|AA<|AS ?_
 obtain rfl:=AK a
 refine O1 B r Z (.tmp Z)<|⟨o,.slice none 0 0,Z,Ho (T2 (Mo [] s) h ab) q,Ba⟩
theorem T9:Il.Spec Il:=lk0 (SU)
def JA.At(c:Col)(a:World)(f:(List Bts)->(List Bts)->Option (List Bts)):Prop:=
 ∀{d v0 e g h},f d e=some h->Slc Kd.bts c.F a v0 d->Slc Kd.bts c.F a g e->
  Calls PG 44 #[v0,g] a λo l=>∃m n,o=.returned n/\AU [] c a m l/\Slc Kd.bts m.F l n h
def JA.Spec(f:(List Bts)->(List Bts)->Option (List Bts)):Prop:=
 ∀a c,JA.At a c f
theorem UA(c:Col)(e:World)(s:∀b,c b<10):JA.At c e JA:=by
 intro d v0 f ae af a g h
 rw [JA] at a
 obtain ⟨ag,ah,rfl⟩:=AW g
 obtain ⟨ai,aj,rfl⟩:=AW h
 refine Az Tryz.func44 Z Tryz.ntmps44 Z λB u ak=>Sr<|Va (.slice none 0 0)<|AA<|Sr<|Va (.slice none 0 0)<|AA<|Sr<|Vm<|Vm<|Bi a λal l a=>Ef<|Br (κ:=Kd.bts) Z Z (Own.nil:Own Kd.bts 9 c e 20 _ _) dcd V1 (IY g) (Ea l) (Ew l) λam an ao m n=>?_
 obtain ⟨w,y,rfl⟩:=Own.len m
 refine Va (Sl w ((([]:List Bts)++d)) y)<|AA<|Sr<|Vm<|Vm<|have z:=Ss Kd.bts h n;Bi a λap o a=>Ef<|Br (κ:=Kd.bts) Z Z m dcd V1 (IY z) (Ea o) (Ew o) λaq ar au p aa=>?_
 obtain ⟨q,r,rfl⟩:=Own.len p
 refine Va (Sl q (((([]:List Bts)++d)++f)) r)<|AA<|AS ?_
 obtain ⟨ab,ac,ad⟩:=Own.freeze (S:=[20]) p dcd dcd
 obtain rfl:=AK a
 refine O1 B u Z (.tmp Z)<|⟨ab,Sl q (((([]:List Bts)++d)++f)) r,Z,Ho (T2 (Mo [20] n) aa ac) s,ad⟩
theorem U6:JA.Spec JA:=lk0 (UA)
def ref06_seen.At(c:Col)(a:World)(f:AE->(List Bts)->Option (List BF)):Prop:=
 ∀{d e g h l},f d g=some l->AG.rep c.F a e d->Slc Kd.bts c.F a h g->
  Calls PG 95 #[Ag e,h] a λp m=>∃n o,p=.returned o/\AU [] c a n m/\Slc Ex n.F m o l
def ref06_seen.Spec(f:AE->(List Bts)->Option (List BF)):Prop:=
 ∀a c,ref06_seen.At a c f
structure Bh.Good(a:Bh):Prop where
 ref06_seen:ref06_seen.Spec a.ref06_seen
theorem UB(r:Bh)(af:Nat)(cb:Bh.Good r)(a2:Col)(cc:World)(cd:∀b,a2 b<10):ref06_seen.At a2 cc (Lc r af):=by
 intro a du m dv an c cf a3
 rw [Lc] at c
 obtain ⟨g,h,rfl,ao⟩:=E1 (Ae cf)
 obtain ⟨z,aa,rfl⟩:=AW a3
 refine Az Tryz.func95 Z Tryz.ntmps95 Z λB cg d=>Sr<|Ef<|A0 a2 20 Z Z λap bb a4 aq ab=>Va (.slice none 0 0)<|AA<|Sr<|Va (.slice none 0 0)<|AA<|Am (λag ar=>∃u ah ac au av,ag=Env.puts u [(1,Sl z m aa),(2,Pt a4 0),(5,Sl au ac av)]/\Jy r af a m ac=some an/\AU [22] ap bb ah ar/\Own Ex 184 ah ar 22 (Sl au ac av) ac) ?_ ?_
 refine Am (λag bc=>∃u ad a5,ag=Env.puts u [(1,Sl z m aa),(2,Pt a4 0),(5,.slice none 0 0),(16,.bool a5)]/\Lz r af a m a5=some an/\AU [] ap bb ad bc) ?_ ?_
 refine AM<|Vx (Fz Cp Z)<|Vx (Ld GC Z (Bc aq Z))<|Vr (.bool (a.op==6))<|Vm<|Bo c (λq c=>?_) λq c=>?_
 refine Pg q<|Pg q<|Pg q<|Vp q<|AA<|⟨_,ap,true,Pu,c,Rf⟩
 refine Gx q (Fz Cp Z)<|Gx q (Ld GC Z (Bc aq Z))<|Gr q (.bool (a.op==7))<|Vp q<|AA<|⟨_,ap,(a.op==7),Pu,c,Rf⟩
 rintro _ bc ⟨u,ad,a5,rfl,c,y⟩
 rw [Lz] at c
 refine Cn c (λch c=>?_) λch c=>?_
 refine BZ C7 (qs 0 9 (.one 9 (qs 10 3 (.one 13 (.one 14 (.q 15 .nil)))))) [] [22] ad (by kernel_rfl) λci ae=>Qx d Z (v:=.slice none 0 0) (λ_ _=>Mv Z)<|have a6:=Y2 aq y ae;Qx d Z (λ_ ⟨_,e⟩=>Lx BA Z Z (Bw (Bs a6 e)))<|Qx d Z (λ_ _=>Fz Cp Z)<|Qx d Z (λ_ ⟨_,e⟩=>Ld GC Z (Bc (Bs a6 e) Z))<|Qx d Z (v:=.bool (a.op==6)) (λ_ _=>Z)<|Qx d Z (v:=.bool (a.op==6)) (λ_ _=>Mv Z)<|Bo c (λl c=>?_) λl c=>?_
 refine Qg d Z l (v:=Sl z m aa) (λ_ _=>Mv Z)<|Qg d Z l (λ_ _=>Fd DW Z)<|Qg d Z l (λ_ ⟨_,e⟩=>Ld B7 Z (Bc (Bs a6 e) Z))<|A2 Z<|have cj:=K3 Kd.bts a3 ab y ae;Bi c λn ck c=>A4 Z (.guard (t:=true) (b:=true) Z Z Z Z (Cb l)) Z Z (Cg [Sl z m aa,Sb a.name] Z)<|Calls.mono (Q1 af ad ci ck cj) ?_
 rintro _ dx ⟨cl,rfl,ai⟩
 refine ⟨_,Z,⟨_,(Mo [22] ai)⟩,?_⟩
 refine Qg d Z l (v:=.bool (!n)) (λ_ _=>Z)<|Qx d Z (v:=.bool (!n)) (λ_ _=>(Pk l))<|Qx d Z (v:=Ag [I a.op,Sb a.name,Sb a.tail,I a.type_,Cx a.num,Sl g a.args h,I a.at_,.bool (!n)]) (λ_ _=>CK (cs:=[I a.op,Sb a.name,Sb a.tail,I a.type_,Cx a.num,Sl g a.args h,I a.at_,.bool (!n)]) [I 0,Sb ([]:Bts),Sb ([]:Bts),I 0,Cx (((0,0):Cpl)),.slice none 0 0,I 0,.bool false] Su YG Z (.cons Z Z Z (.cons Z Z Z .nil)) Z Z)<|A2 Z<|Bn Z (.none Z) Z Z<|Cj (cs:=[I a.op,Sb a.name,Sb a.tail,I a.type_,Cx a.num,Sl g a.args h,I a.at_,.bool (!n)]) cl 21 [[I a.op,Sb a.name,Sb a.tail,I a.type_,Cx a.num,Sl g a.args h,I a.at_,.bool (!n)]] Qo Su Z Z (.cons Z Z Z .nil) Z λbd be cm cn aw=>have co:=Ss AG (K4 AG ao ab y ae ai) aw;have cq:Own Ex 184 bd be 21 (.slice (some ⟨cm,0,none⟩) 1 1) ([(BF.mk a (!n))]:List BF):=Own.lit (css:=[[I a.op,Sb a.name,Sb a.tail,I a.type_,Cx a.num,Sl g a.args h,I a.at_,.bool (!n)]]) cn Z Z Z (Ac (QA (x:=(BF.mk a (!n))) co) BB) (A6 Z Ds) Z;⟨⟨_,(Tn (Mo [22] ai) aw)⟩,?_⟩
 refine A2 Z<|Bi c λdy bf c=>Bn Z (.none Z) Z Z<|Br (κ:=Ex) Z Z (Own.nil:Own Ex 184 bd be 22 _ _) dcd Vz (CI cq) (Ea bf) (Ew bf) λdz cr d0 bg bh=>?_
 obtain ⟨bi,bj,rfl⟩:=Own.len bg
 refine ⟨⟨_,(T2 (Mo [22] ai) aw bh)⟩,?_⟩
 refine Qx d Z (v:=Sl bi ((([]:List BF)++([(BF.mk a (!n))]:List BF))) bj) (λ_ _=>Run.assign Z)<|CA<|⟨_,cr,(([]:List BF)++([(BF.mk a (!n))]:List BF)),bi,bj,Pu,c,(T4 (Mo [22] y) ae ai aw bh),bg⟩
 refine Qp d Z l<|Qp d Z l<|Qp d Z l<|A2 Z<|LY Z (.guard (t:=false) (b:=true) Z Z Z Z (Cb l)) Z Z<|⟨⟨_,(AU.refl [22] _ _)⟩,?_⟩
 refine Qp d Z l<|Qx d Z (v:=.bool false) (λ_ _=>(Pk l))<|Qx d Z (v:=Ag [I a.op,Sb a.name,Sb a.tail,I a.type_,Cx a.num,Sl g a.args h,I a.at_,.bool false]) (λ_ _=>CK (cs:=[I a.op,Sb a.name,Sb a.tail,I a.type_,Cx a.num,Sl g a.args h,I a.at_,.bool false]) [I 0,Sb ([]:Bts),Sb ([]:Bts),I 0,Cx (((0,0):Cpl)),.slice none 0 0,I 0,.bool false] Su YG Z (.cons Z Z Z (.cons Z Z Z .nil)) Z Z)<|A2 Z<|Bn Z (.none Z) Z Z<|Cj (cs:=[I a.op,Sb a.name,Sb a.tail,I a.type_,Cx a.num,Sl g a.args h,I a.at_,.bool false]) ad 21 [[I a.op,Sb a.name,Sb a.tail,I a.type_,Cx a.num,Sl g a.args h,I a.at_,.bool false]] Qo Su Z Z (.cons Z Z Z .nil) Z λbk bl ct cu ax=>have cv:=K4 AG ao ab y ae ax;have cw:Own Ex 184 bk bl 21 (.slice (some ⟨ct,0,none⟩) 1 1) ([(BF.mk a false)]:List BF):=Own.lit (css:=[[I a.op,Sb a.name,Sb a.tail,I a.type_,Cx a.num,Sl g a.args h,I a.at_,.bool false]]) cu Z Z Z (Ac (QA (x:=(BF.mk a false)) cv) BB) (A6 Z Ds) Z;⟨⟨_,(Mo [22] ax)⟩,?_⟩
 refine A2 Z<|Bi c λd1 bm c=>Bn Z (.none Z) Z Z<|Br (κ:=Ex) Z Z (Own.nil:Own Ex 184 bk bl 22 _ _) dcd Vz (CI cw) (Ea bm) (Ew bm) λd2 cx d3 bn bo=>?_
 obtain ⟨bp,bq,rfl⟩:=Own.len bn
 refine ⟨⟨_,(Tn (Mo [22] ax) bo)⟩,?_⟩
 refine Qx d Z (v:=Sl bp ((([]:List BF)++([(BF.mk a false)]:List BF))) bq) (λ_ _=>Run.assign Z)<|CA<|⟨_,cx,(([]:List BF)++([(BF.mk a false)]:List BF)),bp,bq,Pu,c,(T3 (Mo [22] y) ae ax bo),bn⟩
 refine AR<|⟨_,ad,([]:List BF),none,0,Pu,c,(Mo [22] y),Own.nil⟩
 rintro _ ar ⟨u,ah,ac,au,av,rfl,c,ay,cy⟩
 rw [Jy] at c
 refine AT<|Sr<|Va (I 0)<|AA<|Ah<|Bj (λw ag az=>∃u a0 o aj ak p,ag=Env.puts u [(1,Sl z m aa),(2,Pt a4 0),(5,Sl aj o ak),(6,I p)]/\Im r a m w o p=some an/\AU [22] ah ar a0 az/\Own Ex 184 a0 az 22 (Sl aj o ak) o) af ?_ ?_
 exact ⟨_,ah,ac,au,av,0,Pu,c,(AU.refl [22] _ _),cy⟩
 rintro w _ az ⟨u,a0,o,aj,ak,p,rfl,c,al,br⟩
 rcases w with _|w
 exact A5 c
 refine have c:JB r a m (Im r a m w) o p=some an:=c; ?_
 obtain ⟨d4,bt⟩:∃s,s=Im r a m w:=⟨_,rfl⟩
 rw [<-bt,JB] at c
 refine AT<|Sr<|Vm<|Vx (Fd BR Z)<|have a7:=Y2 aq ay al;Vx (Ld CR Z (Bc a7 Z))<|have a8:=K3 AG ao ab ay al; ?_
 obtain ⟨d5,d6,cz⟩:=AW a8
 refine Vx (v:=I (a.args.length:Int)) (Ll CG cz)<|Vr (.bool (decide (p< (a.args.length:Int))))<|AA<|Cn c (λc0 c=>?_) λc0 c=>?_
 refine AR<|AT<|Ah<|Sr<|Vm<|Vx (Lx BA Z Z (Bw a7))<|Vm<|Bi c λc1 c2 c=>Ca (Cg [Ag [I a.op,Sb a.name,Sb a.tail,I a.type_,Cx a.num,Sl g a.args h,I a.at_],I p] Z) (T9 a0 az c2 (AY (x:=a) a8)) ?_
 rintro _ c3 ⟨c4,d7,rfl,am,bu⟩
 obtain ⟨c5,c6,rfl⟩:=AW bu
 refine have c7:=K4 Kd.bts a3 ab ay al am;Bi c λbv c8 c=>Ca (Cg [Sl z m aa,Sl c5 c1 c6] Z) (U6 c4 c3 c8 c7 bu) ?_
 rintro _ bw ⟨bx,d8,rfl,a1,bz⟩
 obtain ⟨b0,b1,rfl⟩:=AW bz
 refine Va (Sl b0 bv b1)<|AA<|Sr<|Vx (Fd BR Z)<|have c9:=Y2 a7 am a1;Vx (Ld CR Z (Bc c9 Z))<|Vm<|Bi c λf da c=>have db:=K2 AG a8 am a1; ?_
 obtain ⟨dc,de,d9,df,dg,dh,di,dj,a9⟩:=A8 (κ:=AG) db da
 replace a9:Ay bx bw dc (de+p.toNat*7) df:=a9
 obtain ⟨b3,b4,rfl,b2⟩:=E1 (Ae dj)
 refine Vx (Ix CG dg Z dh di)<|Vx (Lx BA Z Z (Ay.part0 a9 [I f.op,Sb f.name,Sb f.tail,I f.type_,Cx f.num,Sl b3 f.args b4,I f.at_] Z))<|Vm<|Bi c λba dk c=>Ca (Cg [Ag [I f.op,Sb f.name,Sb f.tail,I f.type_,Cx f.num,Sl b3 f.args b4,I f.at_],Sl b0 bv b1] Z) (cb.ref06_seen bx bw dk (AY (x:=f) b2) bz) ?_
 rintro _ eb ⟨ec,ed,rfl,b5,b6⟩
 obtain ⟨dl,dm,rfl⟩:=AW b6
 refine Va (Sl dl ba dm)<|AA<|AM<|Vm<|Vm<|have dn:=Os (Os (Os br am) a1) b5;Bi c λee b7 c=>Ef<|Br (κ:=Ex) Z Z dn dcd Vz (IY b6) (Ea b7) (Ew b7) λef dp eg b8 dq=>?_
 obtain ⟨b9,ca,rfl⟩:=Own.len b8
 refine Va (Sl b9 ((o++ba)) ca)<|AA<|AM<|Vm<|Vr (I (Wr (p+1)))<|Va (I (Wr (p+1)))<|AA<|⟨w,Nat.lt_succ_self w,_,dp,(o++ba),b9,ca,(Wr (p+1)),Pu,(bt▸c),(T4 (Mo [22] al) am a1 b5 dq),b8⟩
 refine BX<|Sr<|Vm<|Va (Sl aj o ak)<|AA<|AS ?_
 obtain ⟨dr,ds,dt⟩:=Own.freeze (S:=[22]) br dcd dcd
 obtain rfl:=AK c
 refine O1 B cg Z (.tmp Z)<|⟨dr,Sl aj o ak,Z,Ho (T3 (Mo [22] ab) ay al ds) cd,dt⟩
theorem UC(a:Bh)(d:Nat)(f:Bh.Good a):ref06_seen.Spec (Lc a d):=lk0 (UB a d f)
theorem Bh.good:∀a,Bh.Good (Bh.at a)
 |0=>⟨by intro c d;intros;(try intro _);intros;exact A5 (by assumption)⟩
 |n+1=>⟨UC _ n (Bh.good n)⟩
theorem U7(a:Nat):ref06_seen.Spec (ref06_seen a):=(Bh.good a).ref06_seen
def Hj.At(c:Col)(a:World)(f:AL->Option (List AF)):Prop:=
 ∀{d e g},f d=some g->Bz.rep c.F a e d->
  Calls PG 65 #[Ag e] a λn h=>∃l m,n=.returned m/\AU [] c a l h/\Slc An l.F h m g
def Hj.Spec(f:AL->Option (List AF)):Prop:=
 ∀a c,Hj.At a c f
theorem Rb(f:Nat)(cb:Col)(ej:World)(ek:∀b,cb b<10):Hj.At cb ej (Hj f):=by
 intro g ix y a el
 rw [Hj] at a
 obtain ⟨bk,bl,rfl,cu⟩:=E1 (BQ el)
 refine Az Tryz.func65 Z Tryz.ntmps65 Z λB em q=>Sr<|Ef<|A0 cb 20 Z Z λcv en ao eo cw=>Va (.slice none 0 0)<|AA<|Sr<|Va (.slice none 0 0)<|AA<|AT<|Sr<|Va (I 0)<|AA<|Ah<|Bj (λai l bm=>∃h a4 r ar au e,l=Env.puts h [(1,Pt ao 0),(3,Sl ar r au),(4,I e)]/\Eo f g ai r e=some y/\AU [21,23,26,27] cv en a4 bm/\Own An 63 a4 bm 23 (Sl ar r au) r) f ?_ ?_
 exact ⟨_,cv,([]:List AF),none,0,0,Pu,a,(AU.refl [21,23,26,27] _ _),Own.nil⟩
 rintro ai _ bm ⟨h,a4,r,ar,au,e,rfl,a,bn,cc⟩
 rcases ai with _|ai
 exact A5 a
 refine have a:Hb f g (Eo f g ai) r e=some y:=a; ?_
 obtain ⟨ae,cx⟩:∃s,s=Eo f g ai:=⟨_,rfl⟩
 rw [<-cx,Hb] at a
 refine AT<|Sr<|Vm<|Vx (Fz Dd Z)<|have bo:=Bs eo bn;Vx (Ld Fr Z (Bc bo Z))<|have bp:=K2 AI cu cw bn; ?_
 obtain ⟨iz,i0,ep⟩:=AW bp
 refine Vx (v:=I (g.funcs.length:Int)) (Ll FA ep)<|Vr (.bool (decide (e< (g.funcs.length:Int))))<|AA<|Cn a (λeq a=>?_) λeq a=>?_
 refine AR<|AT<|Ah<|Sr<|Vx (Fz Dd Z)<|Vx (Ld Fr Z (Bc bo Z))<|Vm<|Bi a λc er a=>?_
 obtain ⟨es,et,i1,eu,ew,ex,ey,ez,cd⟩:=A8 (κ:=AI) bp er
 replace cd:Ay a4 bm es (et+e.toNat*11) eu:=cd
 obtain ⟨i2,i3,rfl,cy,cz⟩:=CL ez
 obtain ⟨e0,e1,rfl⟩:=AW cy
 obtain ⟨cf,cg,rfl⟩:=AW cz
 refine Vx (Ix FA ew Z ex ey)<|Vx (Lx Lm Z Z (Ay.part0 cd [Sb c.name,Sl e0 c.params e1,I c.type_,I c.body.op,Sb c.body.name,Sb c.body.tail,I c.body.type_,Cx c.body.num,Sl cf c.body.args cg,I c.body.at_,I c.at_] Z))<|Ef<|Aa a4 21 KZ Z λc0 i4 ch e2 af=>have e3:=Ss AZ cy af;have e4:=Ss AG cz af;Eu<|St LP e2 Z Z Z Z λc1 ci ag=>AA<|Am (λl bq=>∃h a5 av br bt,l=Env.puts h [(1,Pt ao 0),(3,Sl br av bt),(4,I e),(5,Pt ch 0)]/\JU f g e ae c av=some y/\AU [23] c0 c1 a5 bq/\Own An 63 a5 bq 23 (Sl br av bt) av) ?_ ?_
 refine Sr<|have e5:=Y2 bo af ag;Vx (Lx Fw Z Z (Bw e5))<|Vx (Fz MX Z)<|Vx (Ld B7 Z (Bc ci Z))<|have e6:=K2 AI bp af ag;Bi a λe7 e8 a=>Ca (Cg [Ag [Sl bk g.funcs bl],Sb c.name] Z) (Pd f c0 c1 e8 (BL (x:=g) e6)) ?_
 rintro _ i5 ⟨c2,rfl,a6⟩
 refine Vm<|Vr (.bool (decide (e7<e)))<|AA<|Cn a (λe9 a=>?_) λe9 a=>?_
 refine AM<|Vm<|Vx (Fd Qk Z)<|have fa:=Bs ci a6;Vx (Ld BC Z (Bc fa Z))<|Vx (v:=Ag [I 30,I c.at_]) (Bp FR M6 Z (.cons Z Z Z (.cons Z Z Z .nil)))<|Ef<|Cj (cs:=[I 30,I c.at_]) c2 22 [[I 30,I c.at_]] Ni FR Z Z (.cons Z Z Z .nil) Z λfb fc fd fe c3=>have ff:Own An 63 fb fc 22 (.slice (some ⟨fd,0,none⟩) 1 1) ([(AF.mk 30 c.at_)]:List AF):=Own.lit (css:=[[I 30,I c.at_]]) fe Z Z Z (Ac (Al (x:=(AF.mk 30 c.at_))) BB) (A6 Z Ds) Z;have fg:=Os (Os (Os (Os cc af) ag) a6) c3;Bi a λi6 c4 a=>Ef<|Br (κ:=An) Z Z fg dcd Qf (CI ff) (Ea c4) (Ew c4) λi7 fh i8 c5 fi=>?_
 obtain ⟨c6,c7,rfl⟩:=Own.len c5
 refine Va (Sl c6 ((r++([(AF.mk 30 c.at_)]:List AF))) c7)<|AA<|⟨_,fh,(r++([(AF.mk 30 c.at_)]:List AF)),c6,c7,Pu,a,(T2 (Mo [23] a6) c3 fi),c5⟩
 refine AR<|have fj:=Os (Os (Os cc af) ag) a6;⟨_,c2,r,ar,au,Pu,a,(Mo [23] a6),fj⟩
 rintro _ bq ⟨h,a5,av,br,bt,rfl,a,aw,fk⟩
 rw [JU] at a
 refine Sr<|Va (.slice none 0 0)<|AA<|AT<|Sr<|Va (I 0)<|AA<|Ah<|Bj (λaj l ak=>∃h ax z a7 a8 o ay az p,l=Env.puts h [(1,Pt ao 0),(3,Sl a7 z a8),(4,I e),(5,Pt ch 0),(6,Sl ay o az),(7,I p)]/\En f g e ae c aj z o p=some y/\AU [23,26] a5 bq ax ak/\Own An 63 ax ak 23 (Sl a7 z a8) z/\Own Kd.bts 9 ax ak 26 (Sl ay o az) o) f ?_ ?_
 exact ⟨_,a5,av,br,bt,([]:List Bts),none,0,0,Pu,a,(AU.refl [23,26] _ _),fk,Own.nil⟩
 rintro aj _ ak ⟨h,ax,z,a7,a8,o,ay,az,p,rfl,a,ap,cj,ck⟩
 rcases aj with _|aj
 exact A5 a
 refine have a:Fn f g e ae c (En f g e ae c aj) z o p=some y:=a; ?_
 obtain ⟨fl,c8⟩:∃s,s=En f g e ae c aj:=⟨_,rfl⟩
 rw [<-c8,Fn] at a
 refine AT<|Sr<|Vm<|Vx (Fd De Z)<|have a9:=Y2 ci aw ap;Vx (Ld EF Z (Bc a9 Z))<|have cl:=K3 AZ e3 ag aw ap; ?_
 obtain ⟨i9,ja,fm⟩:=AW cl
 refine Vx (v:=I (c.params.length:Int)) (Ll Df fm)<|Vr (.bool (decide (p< (c.params.length:Int))))<|AA<|Cn a (λfn a=>?_) λfn a=>?_
 refine AR<|AT<|Ah<|Am (λl bu=>∃h ba a0 bv bw,l=Env.puts h [(1,Pt ao 0),(3,Sl bv a0 bw),(4,I e),(5,Pt ch 0),(6,Sl ay o az),(7,I p)]/\JT c o p fl a0=some y/\AU [23] ax ak ba bu/\Own An 63 ba bu 23 (Sl bv a0 bw) a0) ?_ ?_
 refine Sr<|Vm<|Vx (Fd De Z)<|Vx (Ld EF Z (Bc a9 Z))<|Vm<|Bi a λah fo a=>?_
 obtain ⟨fp,fq,jb,fr,c9,da,db,fs,bx⟩:=A8 (κ:=AZ) cl fo
 replace bx:Ay ax ak fp (fq+p.toNat*3) fr:=bx
 obtain rfl:=EK fs
 refine Vx (Ix Df c9 Z da db)<|Vx (Fz Kl Z)<|Vx (Ld B7 Z (Ay.cell0 bx Z)) ?_
 obtain ⟨ft,jc,fu,fv⟩:=Own.lend ck dcd
 refine Bi a λjd fw a=>Ca (Cg [Sl ay o az,Sb ah.name] Z) (Q1 f ft ak fw fu) ?_
 rintro _ je ⟨jf,rfl,fx⟩
 obtain ⟨dc,a1⟩:=fv [] _ _ fx dcd
 refine AA<|Cn a (λfy a=>?_) λfy a=>?_
 refine AM<|Vm<|Vx (Fd De Z)<|have fz:=Bs a9 a1;Vx (Ld EF Z (Bc fz Z))<|Vm<|Vx (Ix Df c9 Z da db)<|Vx (Fd Qm Z)<|have f0:=Es bx a1;Vx (Ld BC Z (Ay.cell (k:=2) f0 Z))<|Vx (v:=Ag [I 30,I ah.at_]) (Bp FR M6 Z (.cons Z Z Z (.cons Z Z Z .nil)))<|Ef<|Cj (cs:=[I 30,I ah.at_]) dc 24 [[I 30,I ah.at_]] Ni FR Z Z (.cons Z Z Z .nil) Z λf1 f2 f3 f4 de=>have f5:Own An 63 f1 f2 24 (.slice (some ⟨f3,0,none⟩) 1 1) ([(AF.mk 30 ah.at_)]:List AF):=Own.lit (css:=[[I 30,I ah.at_]]) f4 Z Z Z (Ac (Al (x:=(AF.mk 30 ah.at_))) BB) (A6 Z Ds) Z;have f6:=Os (Os cj a1) de;Bi a λjg df a=>Ef<|Br (κ:=An) Z Z f6 dcd Qf (CI f5) (Ea df) (Ew df) λjh f7 ji dg f8=>?_
 obtain ⟨dh,di,rfl⟩:=Own.len dg
 refine Va (Sl dh ((z++([(AF.mk 30 ah.at_)]:List AF))) di)<|AA<|⟨_,f7,(z++([(AF.mk 30 ah.at_)]:List AF)),dh,di,Pu,a,(T2 (Mo [23] a1) de f8),dg⟩
 refine AR<|have f9:=Os cj a1;⟨_,dc,z,a7,a8,Pu,a,(Mo [23] a1),f9⟩
 rintro _ bu ⟨h,ba,a0,bv,bw,rfl,a,bz,ga⟩
 rw [JT] at a
 refine AM<|Vm<|Vx (Fd De Z)<|have gb:=Bs a9 bz;Vx (Ld EF Z (Bc gb Z))<|Vm<|Bi a λa2 gc a=>have gd:=Ss AZ cl bz; ?_
 obtain ⟨ge,gf,jj,gg,gh,gi,gj,gk,cm⟩:=A8 (κ:=AZ) gd gc
 replace cm:Ay ba bu ge (gf+p.toNat*3) gg:=cm
 obtain rfl:=EK gk
 refine Vx (Ix Df gh Z gi gj)<|Vx (Fz Kl Z)<|Vx (Ld B7 Z (Ay.cell0 cm Z))<|Ef<|Cj (cs:=[Sb a2.name]) ba 25 [[Sb a2.name]] IT QB Z Z (.cons Z Z Z .nil) Z λgl gm gn go cn=>have gp:Own Kd.bts 9 gl gm 25 (.slice (some ⟨gn,0,none⟩) 1 1) ([a2.name]:List Bts):=Own.lit (css:=[[Sb a2.name]]) go Z Z Z (Ac Z BB) (A6 Z Ds) Z;have gq:=Os (Os ck bz) cn;Bi a λjk dj a=>Ef<|Br (κ:=Kd.bts) Z Z gq dcd V1 (CI gp) (Ea dj) (Ew dj) λjl gr jm dk dl=>?_
 obtain ⟨dm,dn,rfl⟩:=Own.len dk
 refine Va (Sl dm ((o++([a2.name]:List Bts))) dn)<|AA<|AM<|Vm<|Vr (I (Wr (p+1)))<|Va (I (Wr (p+1)))<|AA<|have gs:=Os (Os ga cn) dl;⟨aj,Nat.lt_succ_self aj,_,gr,a0,bv,bw,(o++([a2.name]:List Bts)),dm,dn,(Wr (p+1)),Pu,(c8▸a),(T3 (Mo [23,26] ap) bz cn dl),gs,dk⟩
 refine BX<|Sr<|Vx (Fd LO Z)<|Vx (Lx BA Z Z (Bk.part a9 3 [I c.body.op,Sb c.body.name,Sb c.body.tail,I c.body.type_,Cx c.body.num,Sl cf c.body.args cg,I c.body.at_] Z))<|Vm ?_
 obtain ⟨gt,bb,gu⟩:=Own.freeze (S:=[26]) ck dcd dcd
 refine have gv:=K4 AG e4 ag aw ap bb;Bi a λaa gw a=>Ca (Cg [Ag [I c.body.op,Sb c.body.name,Sb c.body.tail,I c.body.type_,Cx c.body.num,Sl cf c.body.args cg,I c.body.at_],Sl ay o az] Z) (U7 f gt ak gw (AY (x:=(AE.mk c.body.op c.body.name c.body.tail c.body.type_ c.body.num c.body.args c.body.at_)) gv) gu) ?_
 rintro _ gx ⟨dp,jn,rfl,b0,dq⟩
 obtain ⟨b1,b2,rfl⟩:=AW dq
 refine Va (Sl b1 aa b2)<|AA<|Sr<|Va (I 0)<|AA<|Ah<|Bj (λal l bc=>∃h aq ab bd be m,l=Env.puts h [(1,Pt ao 0),(3,Sl bd ab be),(4,I e),(8,Sl b1 aa b2),(9,I m)]/\EU f g e ae aa al ab m=some y/\AU [23,27] dp gx aq bc/\Own An 63 aq bc 23 (Sl bd ab be) ab) f ?_ ?_
 refine have gy:=Os (Os cj bb) b0;⟨_,dp,z,a7,a8,0,Pu,a,(AU.refl [23,27] _ _),gy⟩
 rintro al _ bc ⟨h,aq,ab,bd,be,m,rfl,a,bf,co⟩
 rcases al with _|al
 exact A5 a
 refine have a:Fm f g e ae aa (EU f g e ae aa al) ab m=some y:=a; ?_
 obtain ⟨dr,ds⟩:∃s,s=EU f g e ae aa al:=⟨_,rfl⟩
 rw [<-ds,Fm] at a
 refine AT<|Sr<|Vm<|Vm<|have dt:=Ss Ex dq bf; ?_
 obtain ⟨jo,jp,gz⟩:=AW dt
 refine Vx (v:=I (aa.length:Int)) (Ll Qo gz)<|Vr (.bool (decide (m< (aa.length:Int))))<|AA<|Cn a (λg0 a=>?_) λg0 a=>?_
 refine AR<|Am (λl cq=>∃h b3 a3 b4 b5,l=Env.puts h [(1,Pt ao 0),(3,Sl b4 a3 b5),(4,I e),(8,Sl b1 aa b2),(9,I m)]/\GE m dr a3=some y/\AU [23,27] aq bc b3 cq/\Own An 63 b3 cq 23 (Sl b4 a3 b5) a3) ?_ ?_
 refine Ah<|Sr<|Vm<|Vm<|Bi a λd g1 a=>?_
 obtain ⟨g2,g3,jq,g4,du,dv,dw,g5,b6⟩:=A8 (κ:=Ex) dt g1
 replace b6:Ay aq bc g2 (g3+m.toNat*8) g4:=b6
 obtain ⟨g6,g7,rfl,dx⟩:=E1 (Ud g5)
 refine Vx (Ix Qo du Z dv dw)<|Vx (Fz Yt Z)<|Vx (Lx BA Z Z (Ay.part0 b6 [I d.e.op,Sb d.e.name,Sb d.e.tail,I d.e.type_,Cx d.e.num,Sl g6 d.e.args g7,I d.e.at_] Z))<|Ef<|Aa aq 27 Dm Z λcr js g8 g9 ac=>have ha:=Ss AG dx ac;Eu<|St D7 g9 Z Z Z Z λhb dy ad=>AA<|Am (λl b7=>∃h bg u bh bi,l=Env.puts h [(1,Pt ao 0),(3,Sl bh u bi),(4,I e),(8,Sl b1 aa b2),(9,I m),(10,Pt g8 0)]/\GG f g m dr d u=some y/\AU [23] cr hb bg b7/\Own An 63 bg b7 23 (Sl bh u bi) u) ?_ ?_
 refine Sr<|Vm<|Vm<|Vx (Ix Qo du Z dv dw)<|Vx (Fd Yu Z)<|have hc:=Es (Es b6 ac) ad;Vx (Ld M0 Z (Ay.cell (k:=7) hc Z))<|AA<|Cn a (λhd a=>?_) λhd a=>?_
 refine AM<|Vm<|Vx (Fd L2 Z)<|Vx (Ld BC Z (Bc dy Z))<|Vx (v:=Ag [I 31,I d.e.at_]) (Bp FR M6 Z (.cons Z Z Z (.cons Z Z Z .nil)))<|Ef<|Cj (cs:=[I 31,I d.e.at_]) cr 28 [[I 31,I d.e.at_]] Ni FR Z Z (.cons Z Z Z .nil) Z λhe hf hg hh dz=>have hi:Own An 63 he hf 28 (.slice (some ⟨hg,0,none⟩) 1 1) ([(AF.mk 31 d.e.at_)]:List AF):=Own.lit (css:=[[I 31,I d.e.at_]]) hh Z Z Z (Ac (Al (x:=(AF.mk 31 d.e.at_))) BB) (A6 Z Ds) Z;have hj:=Os (Os (Os co ac) ad) dz;Bi a λjt d0 a=>Ef<|Br (κ:=An) Z Z hj dcd Qf (CI hi) (Ea d0) (Ew d0) λju hk jv d1 hl=>?_
 obtain ⟨d2,d3,rfl⟩:=Own.len d1
 refine Va (Sl d2 ((ab++([(AF.mk 31 d.e.at_)]:List AF))) d3)<|AA<|⟨_,hk,(ab++([(AF.mk 31 d.e.at_)]:List AF)),d2,d3,Pu,a,(Tn (Mo [23] dz) hl),d1⟩
 refine AR<|have hm:=Os (Os co ac) ad;⟨_,cr,ab,bd,be,Pu,a,(AU.refl [23] _ _),hm⟩
 rintro _ b7 ⟨h,bg,u,bh,bi,rfl,a,am,b8⟩
 rw [GG] at a
 refine AT<|Sr<|Vx (Fz Cp Z)<|have b9:=Bs dy am;Vx (Ld GC Z (Bc b9 Z))<|Vr (.bool (d.e.op != 7))<|AA<|Cn a (λhn a=>?_) λhn a=>?_
 refine BX<|⟨_,bg,u,bh,bi,Pu,a,(T2 (Mo [23,27] ac) ad am),b8⟩
 refine AR<|Sr<|have d4:=Y2 (Y4 (Y4 bo af ag aw ap) bb b0 bf ac) ad am;Vx (Lx Fw Z Z (Bw d4))<|Vx (Fd DW Z)<|Vx (Ld B7 Z (Bc b9 Z))<|have d5:=K2 AI (K4 AI (K4 AI bp af ag aw ap) bb b0 bf ac) ad am;Bi a λca ho a=>Ca (Cg [Ag [Sl bk g.funcs bl],Sb d.e.name] Z) (Pd f bg b7 ho (BL (x:=g) d5)) ?_
 rintro _ jw ⟨bj,rfl,w⟩
 refine Va (I ca)<|AA<|Sr<|Vm<|Vr (.bool (decide (ca<0)))<|AA<|Cn a (λhp a=>?_) λhp a=>?_
 refine AM<|Vm<|Vx (Fd L2 Z)<|have hq:=Bs b9 w;Vx (Ld BC Z (Bc hq Z))<|Vx (v:=Ag [I 32,I d.e.at_]) (Bp FR M6 Z (.cons Z Z Z (.cons Z Z Z .nil)))<|Ef<|Cj (cs:=[I 32,I d.e.at_]) bj 29 [[I 32,I d.e.at_]] Ni FR Z Z (.cons Z Z Z .nil) Z λhr hs ht hu d6=>have hw:Own An 63 hr hs 29 (.slice (some ⟨ht,0,none⟩) 1 1) ([(AF.mk 32 d.e.at_)]:List AF):=Own.lit (css:=[[I 32,I d.e.at_]]) hu Z Z Z (Ac (Al (x:=(AF.mk 32 d.e.at_))) BB) (A6 Z Ds) Z;have hx:=Os (Os b8 w) d6;Bi a λjx d7 a=>Ef<|Br (κ:=An) Z Z hx dcd Qf (CI hw) (Ea d7) (Ew d7) λjy hy jz d8 hz=>?_
 obtain ⟨d9,ea,rfl⟩:=Own.len d8
 refine Va (Sl d9 ((u++([(AF.mk 32 d.e.at_)]:List AF))) ea)<|AA<|⟨_,hy,(u++([(AF.mk 32 d.e.at_)]:List AF)),d9,ea,Pu,a,(Tn (T4 (Mo [23,27] ac) ad am w d6) hz),d8⟩
 refine AT<|BZ C7 (qs 0 11 .nil) [] [] bj (by kernel_rfl) λh0 an=>Qx q Z (λ_ _=>Fz Dd Z)<|have h1:=Y2 d4 w an;Qx q Z (λ_ ⟨_,n⟩=>Ld Fr Z (Bc (Bs h1 n) Z))<|Qx q Z (v:=I ca) (λ_ _=>Mv Z)<|Bi a λeb h2 a=>have h3:=K2 AI d5 w an; ?_
 obtain ⟨h4,h5,j0,h6,h7,h8,h9,ia,ct⟩:=A8 (κ:=AI) h3 h2
 replace ct:Ay bj h0 h4 (h5+ca.toNat*11) h6:=ct
 obtain ⟨j1,j2,rfl,ec,ib⟩:=CL ia
 obtain ⟨j3,j4,rfl⟩:=AW ec
 obtain ⟨j5,j6,rfl⟩:=AW ib
 refine Qx q Z (λ_ _=>Ix FA h7 Z h8 h9)<|Qx q Z (λ_ _=>Fd De Z)<|Qx q Z (λ_ ⟨_,n⟩=>Ld EF Z (Ay.cell (k:=1) (Es ct n) Z)) ?_
 obtain ⟨j7,j8,ic⟩:=AW ec
 refine Qx q Z (v:=I (eb.params.length:Int)) (λ_ _=>Ll Df ic)<|Qx q Z (λ_ _=>Fd BR Z)<|have ed:=Y2 b9 w an;Qx q Z (λ_ ⟨_,n⟩=>Ld CR Z (Bc (Bs ed n) Z))<|have id:=K4 AG ha ad am w an; ?_
 obtain ⟨j9,ka,ie⟩:=AW id
 refine Qx q Z (v:=I (d.e.args.length:Int)) (λ_ _=>Ll CG ie)<|Qx q Z (v:=.bool ((eb.params.length:Int) != (d.e.args.length:Int))) (λ_ _=>Z)<|CA<|Cn a (λig a=>?_) λig a=>?_
 refine AM<|Vm<|Vx (Fd L2 Z)<|Vx (Ld BC Z (Bc ed Z))<|Vx (v:=Ag [I 33,I d.e.at_]) (Bp FR M6 Z (.cons Z Z Z (.cons Z Z Z .nil)))<|Ef<|Cj (cs:=[I 33,I d.e.at_]) bj 30 [[I 33,I d.e.at_]] Ni FR Z Z (.cons Z Z Z .nil) Z λih ii ij ik ee=>have il:Own An 63 ih ii 30 (.slice (some ⟨ij,0,none⟩) 1 1) ([(AF.mk 33 d.e.at_)]:List AF):=Own.lit (css:=[[I 33,I d.e.at_]]) ik Z Z Z (Ac (Al (x:=(AF.mk 33 d.e.at_))) BB) (A6 Z Ds) Z;have im:=Os (Os (Os b8 w) an) ee;Bi a λkb ef a=>Ef<|Br (κ:=An) Z Z im dcd Qf (CI il) (Ea ef) (Ew ef) λkc io kd eg ip=>?_
 obtain ⟨eh,ei,rfl⟩:=Own.len eg
 refine Va (Sl eh ((u++([(AF.mk 33 d.e.at_)]:List AF))) ei)<|AA<|⟨_,io,(u++([(AF.mk 33 d.e.at_)]:List AF)),eh,ei,Pu,a,(T2 (T4 (Mo [23,27] ac) ad am w an) ee ip),eg⟩
 refine AR<|have iq:=Os (Os b8 w) an;⟨_,bj,u,bh,bi,Pu,a,(T4 (Mo [23,27] ac) ad am w an),iq⟩
 rintro _ cq ⟨h,b3,a3,b4,b5,rfl,a,ir,it⟩
 rw [GE] at a
 refine AM<|Vm<|Vr (I (Wr (m+1)))<|Va (I (Wr (m+1)))<|AA<|⟨al,Nat.lt_succ_self al,_,b3,a3,b4,b5,(Wr (m+1)),Pu,(ds▸a),(Tn (Mo [23,27] bf) ir),it⟩
 refine BX<|AM<|Vm<|Vr (I (Wr (e+1)))<|Va (I (Wr (e+1)))<|AA<|⟨ai,Nat.lt_succ_self ai,_,aq,ab,bd,be,(Wr (e+1)),Pu,(cx▸a),(T3 (T4 (Mo [21,23,26,27] bn) af ag aw ap) bb b0 bf),co⟩
 refine BX<|Sr<|Vm<|Va (Sl ar r au)<|AA<|AS ?_
 obtain ⟨iu,iv,iw⟩:=Own.freeze (S:=[23]) cc dcd dcd
 obtain rfl:=AK a
 refine O1 B em Z (.tmp Z)<|⟨iu,Sl ar r au,Z,Ho (T2 (Mo [21,23,26,27] cw) bn iv) ek,iw⟩
theorem SV(c:Nat):Hj.Spec (Hj c):=lk0 (Rb c)
def H7.At(c:Col)(a:World)(f:AL->Option AF):Prop:=
 ∀{d e g},f d=some g->Bz.rep c.F a e d->
  Calls PG 40 #[Ag e] a λn h=>∃l m,n=.returned (Ag m)/\AU [] c a l h/\An.rep l.F h m g
def H7.Spec(f:AL->Option AF):Prop:=
 ∀a c,H7.At a c f
theorem SW(ai:Nat)(aj:Col)(a7:World)(a8:∀b,aj b<10):H7.At aj a7 (H7 ai):=by
 intro ak ck aa a a9
 rw [H7] at a
 obtain ⟨ay,az,rfl,ax⟩:=E1 (BQ a9)
 refine Az Tryz.func40 Z Tryz.ntmps40 Z λB ba c=>Sr<|Ef<|A0 aj 20 Z Z λbb cm cn bc a0=>Ef<|Aa bb 21 FR Z λbd be al bf am=>AA<|Sr<|have bg:=Bs bc am;Vx (Lx Fw Z Z (Bw bg))<|have bh:=K2 AI ax a0 am;Bi a λh bi a=>Ca (Cg [Ag [Sl ay ak.funcs az]] Z) (SV ai bd be bi (BL (x:=ak) bh)) ?_
 rintro _ co ⟨bj,s26,rfl,a1,a2⟩
 obtain ⟨p,q,rfl⟩:=AW a2
 refine Va (Sl p h q)<|AA<|Sr<|Ef<|Aa bj 22 FR Z λa3 bk r bl an=>AA<|AT<|Sr<|Va (I 0)<|AA<|Ah<|Bj (λn u w=>∃o m f l g,u=Env.puts o [(2,Pt al 0),(3,Sl p h q),(4,Pt r 0),(5,I f)]/\H6 h n f l g=some aa/\AU [22] a3 bk m w/\Bk m w 22 r [I l,I g] 63) ai ?_ ?_
 exact ⟨_,a3,0,0,0,Pu,a,(AU.refl [22] _ _),bl⟩
 rintro n _ w ⟨o,m,f,l,g,rfl,a,ab,ac⟩
 rcases n with _|n
 exact A5 a
 refine have a:IP h (H6 h n) f l g=some aa:=a; ?_
 obtain ⟨a4,a5⟩:∃s,s=H6 h n:=⟨_,rfl⟩
 rw [<-a5,IP] at a
 refine AT<|Sr<|Vm<|Vm<|have ao:=K2 An a2 an ab; ?_
 obtain ⟨cq,cr,bm⟩:=AW ao
 refine Vx (v:=I (h.length:Int)) (Ll Ni bm)<|Vr (.bool (decide (f< (h.length:Int))))<|AA<|Cn a (λbn a=>?_) λbn a=>?_
 refine AR<|Am (λu ap=>∃o ad ae af,u=Env.puts o [(2,Pt al 0),(3,Sl p h q),(4,Pt r 0),(5,I f)]/\LH f a4 ae af=some aa/\AU [22] m w ad ap/\Bk ad ap 22 r [I ae,I af] 63) ?_ ?_
 refine Ah<|Am (λu aq=>∃o y ar,u=Env.puts o [(2,Pt al 0),(3,Sl p h q),(4,Pt r 0),(5,I f),(26,.bool ar)]/\LI h f l g a4 ar=some aa/\AU [] m w y aq) ?_ ?_
 refine BZ C7 (qs 0 13 .nil) [] [] m (by kernel_rfl) λbo ag=>Qx c Z (λ_ _=>Fz NN Z)<|have a6:=Bs ac ag;Qx c Z (λ_ ⟨_,e⟩=>Ld NO Z (Bc (Bs a6 e) Z))<|Qx c Z (v:=.bool (l==0)) (λ_ _=>Z)<|Qx c Z (v:=.bool (l==0)) (λ_ _=>Mv Z)<|Bo a (λd a=>?_) λd a=>?_
 refine Qp c Z d<|Qp c Z d<|Qp c Z d<|Qp c Z d<|Qp c Z d<|Qp c Z d<|Qp c Z d<|Qp c Z d<|Qx c Z (v:=.bool true) (λ_ _=>(Pk d))<|CA<|⟨_,m,true,Pu,a,(Mo [] ag)⟩
 refine Qg c Z d (v:=Sl p h q) (λ_ _=>Mv Z)<|Qg c Z d (v:=I f) (λ_ _=>Mv Z)<|Bi a λau bp a=>have bq:=Ss An ao ag; ?_
 obtain ⟨br,bt,ct,bu,bv,bw,bx,bz,av⟩:=A8 (κ:=An) bq bp
 replace av:Ay m bo br (bt+f.toNat*2) bu:=av
 obtain rfl:=Au bz
 refine Qg c Z d (λ_ _=>Ix Ni bv Z bw bx)<|Qg c Z d (λ_ _=>Fd PH Z)<|Qg c Z d (λ_ ⟨_,e⟩=>Ld BC Z (Ay.cell (k:=1) (Es av e) Z))<|Qg c Z d (λ_ _=>Fd PH Z)<|Qg c Z d (λ_ ⟨_,e⟩=>Ld BC Z (Bc (Bs a6 e) Z))<|Qg c Z d (v:=.bool (decide (au.at_<g))) (λ_ _=>Z)<|Qx c Z (v:=.bool (decide (au.at_<g))) (λ_ _=>(Pk d))<|CA<|⟨_,m,(decide (au.at_<g)),Pu,a,(Mo [] ag)⟩
 rintro _ aq ⟨o,y,ar,rfl,a,z⟩
 rw [LI] at a
 refine Cn a (λb0 a=>?_) λb0 a=>?_
 refine AM<|Vm<|Vm<|Bi a λah b1 a=>have b2:=Ss An ao z; ?_
 obtain ⟨b3,b4,cu,b5,b6,b7,b8,b9,aw⟩:=A8 (κ:=An) b2 b1
 replace aw:Ay y aq b3 (b4+f.toNat*2) b5:=aw
 obtain rfl:=Au b9
 refine Vx (Ix Ni b6 Z b7 b8)<|Vx (Lx LN Z Z (Ay.part0 aw [I ah.why,I ah.at_] Z))<|have ca:=Bs ac z;Eu<|St HN ca Z Z Z Z λcv cb cc=>AA<|⟨_,y,ah.why,ah.at_,Pu,a,(Tn (Mo [22] z) cc),cb⟩
 refine AR<|have cd:=Bs ac z;⟨_,y,l,g,Pu,a,(Mo [22] z),cd⟩
 rintro _ ap ⟨o,ad,ae,af,rfl,a,cf,cg⟩
 rw [LH] at a
 refine AM<|Vm<|Vr (I (Wr (f+1)))<|Va (I (Wr (f+1)))<|AA<|⟨n,Nat.lt_succ_self n,_,ad,(Wr (f+1)),ae,af,Pu,(a5▸a),(Tn (Mo [22] ab) cf),cg⟩
 refine BX<|Sr<|Vx (Lx LN Z Z (Bw ac))<|have ch:=Y3 bf a1 an ab;Eu<|St HN ch Z Z Z Z λcw ci cj=>AA<|AS ?_
 obtain rfl:=AK a
 refine O1 B ba Z (.agg LN Z Z (Bw ci))<|⟨m,[I l,I g],Z,Ho (Tn (T4 (Mo [21,22] a0) am a1 an ab) cj) a8,(Al (x:=(AF.mk l g)))⟩
theorem UD(c:Nat):H7.Spec (H7 c):=lk0 (SW c)
def G0.At(d:Col)(a:World)(f:AL->Bts->Option (AN×Bool)):Prop:=
 ∀{e g h c},f e h=some c->Bz.rep d.F a g e->
  Calls PG 16 #[Ag g,Sb h] a λo l=>∃m n,o=.returned (.tuple #[Ag n,.bool c.2])/\AU [] d a m l/\AI.rep m.F l n c.1
def G0.Spec(f:AL->Bts->Option (AN×Bool)):Prop:=
 ∀a c,G0.At a c f
theorem UE(ab:Nat)(o:Col)(aq:World)(ac:∀b,o b<10):G0.At o aq (G0 ab):=by
 intro g bf h ad c ar
 rw [G0] at c
 obtain ⟨bh,bi,rfl,ae⟩:=E1 (BQ ar)
 refine Az Tryz.func16 Z Tryz.ntmps16 Z λB af bj=>Sr<|Ef<|A0 o 20 Z Z λau bk av aw p=>Ef<|Aa au 21 KZ Z λag ax ay ah m=>Va (.bool false)<|AA<|AT<|Sr<|Va (I 0)<|AA<|Ah<|Bj (λe az q=>∃ai l d,az=Env.puts ai [(1,Sb h),(2,Pt av 0),(4,Pt ay 0),(6,I d)]/\Jz g h e d=some ad/\AU [] ag ax l q) ab ?_ ?_
 exact ⟨_,ag,0,Pu,c,Rf⟩
 rintro e _ q ⟨ai,l,d,rfl,c,f⟩
 rcases e with _|e
 exact A5 c
 refine have c:LJ g h (Jz g h e) d=some ad:=c; ?_
 obtain ⟨bl,aj⟩:∃s,s=Jz g h e:=⟨_,rfl⟩
 rw [<-aj,LJ] at c
 refine AT<|Sr<|Vm<|Vx (Fz Dd Z)<|have r:=Y2 aw m f;Vx (Ld Fr Z (Bc r Z))<|have ak:=K3 AI ae p m f; ?_
 obtain ⟨bm,bn,a0⟩:=AW ak
 refine Vx (v:=I (g.funcs.length:Int)) (Ll FA a0)<|Vr (.bool (decide (d< (g.funcs.length:Int))))<|AA<|Cn c (λa1 c=>?_) λa1 c=>?_
 refine AR<|AT<|Ah<|Sr<|Vx (Fz Dd Z)<|Vx (Ld Fr Z (Bc r Z))<|Vm<|Bi c λa a2 c=>?_
 obtain ⟨a3,a4,bo,a5,al,am,an,a6,n⟩:=A8 (κ:=AI) ak a2
 replace n:Ay l q a3 (a4+d.toNat*11) a5:=n
 obtain ⟨s121,bp,rfl,ao,ap⟩:=CL a6
 obtain ⟨u,w,rfl⟩:=AW ao
 obtain ⟨y,z,rfl⟩:=AW ap
 refine Vx (Ix FA al Z am an)<|Vx (Fz MX Z)<|Vx (Ld B7 Z (Ay.cell0 n Z))<|Vm<|Vx (v:=.bool (a.name==h)) (Run.strEq Z Z)<|AA<|Cn c (λa7 c=>?_) λa7 c=>?_
 refine Sr<|Vx (Fz Dd Z)<|Vx (Ld Fr Z (Bc r Z))<|Vm<|Vx (Ix FA al Z am an)<|Vx (Lx Lm Z Z (Ay.part0 n [Sb a.name,Sl u a.params w,I a.type_,I a.body.op,Sb a.body.name,Sb a.body.tail,I a.body.type_,Cx a.body.num,Sl y a.body.args z,I a.body.at_,I a.at_] Z))<|have a8:=Bs ah f;Eu<|St LP a8 Z Z Z Z λbq a9 aa=>Va (.bool true)<|AA<|AS ?_
 obtain rfl:=AK c
 refine O2 B af Z (.agg Lm Z Z (Bw a9)) (.tmp Z)<|have ba:=Ss AZ ao aa;have bb:=Ss AG ap aa;⟨l,[Sb a.name,Sl u a.params w,I a.type_,I a.body.op,Sb a.body.name,Sb a.body.tail,I a.body.type_,Cx a.body.num,Sl y a.body.args z,I a.body.at_,I a.at_],Z,Ho (T3 (Mo [21] p) m f aa) ac,(K0 (x:=a) ba bb)⟩
 refine AR<|AM<|Vm<|Vr (I (Wr (d+1)))<|Va (I (Wr (d+1)))<|AA<|⟨e,Nat.lt_succ_self e,_,l,(Wr (d+1)),Pu,(aj▸c),(Mo [] f)⟩
 refine BX<|Sr<|Vx (v:=Ag [Sb ([]:Bts),.slice none 0 0,I 0,I 0,Sb ([]:Bts),Sb ([]:Bts),I 0,Cx (((0,0):Cpl)),.slice none 0 0,I 0,I 0]) (Bp KZ Zg Z .nil)<|have bc:=Bs ah f;Eu<|St LP bc Z Z Z Z λbr bd be=>Va (.bool false)<|AA<|AS ?_
 obtain rfl:=AK c
 refine O2 B af Z (.agg Lm Z Z (Bw bd)) (.tmp Z)<|⟨l,[Sb ([]:Bts),.slice none 0 0,I 0,I 0,Sb ([]:Bts),Sb ([]:Bts),I 0,Cx (((0,0):Cpl)),.slice none 0 0,I 0,I 0],Z,Ho (T3 (Mo [21] p) m f be) ac,(K0 (x:=(AN.mk ([]:Bts) [] 0 (AE.mk 0 ([]:Bts) ([]:Bts) 0 ((0,0):Cpl) [] 0) 0)) Ba Ba)⟩
theorem L4(c:Nat):G0.Spec (G0 c):=lk0 (UE c)
def KL.At(c:Col)(a:World)(f:AL->(List AJ)->AE->Option Int):Prop:=
 ∀{d e g h l m n},f d g l=some n->Bz.rep c.F a e d->Slc AZ c.F a h g->AG.rep c.F a m l->
  Calls PG 66 #[Ag e,h,Ag m] a λo p=>∃q,o=.returned (I n)/\AU [] c a q p
def KL.Spec(f:AL->(List AJ)->AE->Option Int):Prop:=
 ∀a c,KL.At a c f
theorem U9(ae:Nat)(aw:Col)(bn:World)(q:∀b,aw b<10):KL.At aw bn (KL ae):=by
 intro af dc f de c df ag a bo a6 bp
 rw [KL] at a
 obtain ⟨a8,a9,rfl,a7⟩:=E1 (BQ bo)
 obtain ⟨aj,ak,rfl⟩:=AW a6
 obtain ⟨di,dj,rfl,ba⟩:=E1 (Ae bp)
 refine Az Tryz.func66 Z Tryz.ntmps66 Z λB r aa=>Sr<|Ef<|A0 aw 20 Z Z λbq dk ax br o=>Ef<|A0 bq 21 Z Z λu bt an ao n=>Va (I 0)<|AA<|AT<|Sr<|Vx (Fz Cp Z)<|Vx (Ld GC Z (Bc ao Z))<|AA<|Ah<|Am (λw ay=>∃l y az,w=Env.puts l [(1,Sl aj f ak),(3,Pt ax 0),(5,Pt an 0),(11,I c.op),(12,.bool az)]/\Fo ae af f c az=some ag/\AU [] u bt y ay) ?_ ?_
 refine Sr<|Vr (.bool (c.op==1))<|Va (.bool (c.op==1))<|AA<|Cn a (λbu a=>?_) λbu a=>?_
 refine AR<|⟨_,u,(c.op==1),Pu,a,Rf⟩
 refine Sr<|Vr (.bool (c.op==8))<|Va (.bool (c.op==8))<|AA<|Cn a (λbv a=>?_) λbv a=>?_
 refine AR<|⟨_,u,(c.op==8),Pu,a,Rf⟩
 refine Sr<|Vr (.bool (c.op==9))<|Va (.bool (c.op==9))<|AA<|Cn a (λbw a=>?_) λbw a=>?_
 refine AR<|⟨_,u,(c.op==9),Pu,a,Rf⟩
 refine Sr<|Vr (.bool (c.op==10))<|Va (.bool (c.op==10))<|AA<|Cn a (λbx a=>?_) λbx a=>?_
 refine AR<|⟨_,u,(c.op==10),Pu,a,Rf⟩
 refine Sr<|Vr (.bool (c.op==11))<|Va (.bool (c.op==11))<|AA<|Cn a (λbz a=>?_) λbz a=>?_
 refine AR<|⟨_,u,(c.op==11),Pu,a,Rf⟩
 refine Sr<|Vr (.bool (c.op==15))<|Va (.bool (c.op==15))<|AA<|Cn a (λb0 a=>?_) λb0 a=>?_
 refine AR<|⟨_,u,(c.op==15),Pu,a,Rf⟩
 refine Sr<|Vr (.bool (c.op==16))<|Va (.bool (c.op==16))<|AA<|Cn a (λb1 a=>?_) λb1 a=>?_
 refine AR<|⟨_,u,(c.op==16),Pu,a,Rf⟩
 refine AM<|Vr (.bool (c.op==17))<|Va (.bool (c.op==17))<|AA<|⟨_,u,(c.op==17),Pu,a,Rf⟩
 rintro _ ay ⟨l,y,az,rfl,a,g⟩
 rw [Fo] at a
 refine Cn a (λb2 a=>?_) λb2 a=>?_
 refine Sr<|Va (I 1)<|AA<|AS ?_
 obtain rfl:=AK a
 refine O1 B r Z (.tmp Z)<|⟨y,Z,Ho (T2 (Mo [] o) n g) q⟩
 refine Am (λw a0=>∃l ah a1,w=Env.puts l [(1,Sl aj f ak),(3,Pt ax 0),(5,Pt an 0),(11,I c.op),(21,.bool a1)]/\Id ae af f c a1=some ag/\AU [] y ay ah a0) ?_ ?_
 refine Sr<|Vr (.bool (c.op==2))<|Va (.bool (c.op==2))<|AA<|Cn a (λb3 a=>?_) λb3 a=>?_
 refine AR<|⟨_,y,(c.op==2),Pu,a,Rf⟩
 refine Sr<|Vr (.bool (c.op==3))<|Va (.bool (c.op==3))<|AA<|Cn a (λb4 a=>?_) λb4 a=>?_
 refine AR<|⟨_,y,(c.op==3),Pu,a,Rf⟩
 refine Sr<|Vr (.bool (c.op==12))<|Va (.bool (c.op==12))<|AA<|Cn a (λb5 a=>?_) λb5 a=>?_
 refine AR<|⟨_,y,(c.op==12),Pu,a,Rf⟩
 refine Sr<|Vr (.bool (c.op==13))<|Va (.bool (c.op==13))<|AA<|Cn a (λb6 a=>?_) λb6 a=>?_
 refine AR<|⟨_,y,(c.op==13),Pu,a,Rf⟩
 refine AM<|Vr (.bool (c.op==14))<|Va (.bool (c.op==14))<|AA<|⟨_,y,(c.op==14),Pu,a,Rf⟩
 rintro _ a0 ⟨l,ah,a1,rfl,a,h⟩
 rw [Id] at a
 refine Cn a (λb7 a=>?_) λb7 a=>?_
 refine Sr<|Va (I 2)<|AA<|AS ?_
 obtain rfl:=AK a
 refine O1 B r Z (.tmp Z)<|⟨ah,Z,Ho (T3 (Mo [] o) n g h) q⟩
 refine Am (λw ap=>∃l ab a2,w=Env.puts l [(1,Sl aj f ak),(3,Pt ax 0),(5,Pt an 0),(11,I c.op),(27,.bool a2)]/\Lf ae af f c a2=some ag/\AU [] ah a0 ab ap) ?_ ?_
 refine Sr<|Vr (.bool (c.op==4))<|Va (.bool (c.op==4))<|AA<|Cn a (λb8 a=>?_) λb8 a=>?_
 refine AR<|⟨_,ah,(c.op==4),Pu,a,Rf⟩
 refine AM<|Vr (.bool (c.op==18))<|Va (.bool (c.op==18))<|AA<|⟨_,ah,(c.op==18),Pu,a,Rf⟩
 rintro _ ap ⟨l,ab,a2,rfl,a,m⟩
 rw [Lf] at a
 refine Cn a (λb9 a=>?_) λb9 a=>?_
 refine Sr<|Va (I 3)<|AA<|AS ?_
 obtain rfl:=AK a
 refine O1 B r Z (.tmp Z)<|⟨ab,Z,Ho (T4 (Mo [] o) n g h m) q⟩
 refine Sr<|Vr (.bool (c.op==5))<|Va (.bool (c.op==5))<|AA<|Cn a (λca a=>?_) λca a=>?_
 refine Sr<|Vx (Fd Kk Z)<|have cb:=Y3 ao g h m;Vx (Ld Dl Z (Bc cb Z))<|Va (I c.type_)<|AA<|AS ?_
 obtain rfl:=AK a
 refine O1 B r Z (.tmp Z)<|⟨ab,Z,Ho (T4 (Mo [] o) n g h m) q⟩
 refine Sr<|Vr (.bool (c.op==6))<|Va (.bool (c.op==6))<|AA<|Cn a (λcc a=>?_) λcc a=>?_
 refine AT<|Sr<|Vm<|have bb:=Ss AZ (K4 AZ a6 o n g h) m; ?_
 obtain ⟨dl,dm,cd⟩:=AW bb
 refine Vx (v:=I (f.length:Int)) (Ll Df cd)<|Vr (I (Wr ((f.length:Int) - 1)))<|Va (I (Wr ((f.length:Int) - 1)))<|AA<|Ah<|Bj (λac w bc=>∃l ad p,w=Env.puts l [(1,Sl aj f ak),(5,Pt an 0),(7,I p)]/\KX f c ac p=some ag/\AU [] ab ap ad bc) ae ?_ ?_
 exact ⟨_,ab,(Wr ((f.length:Int) - 1)),Pu,a,Rf⟩
 rintro ac _ bc ⟨l,ad,p,rfl,a,al⟩
 rcases ac with _|ac
 exact A5 a
 refine have a:L0 f c (KX f c ac) p=some ag:=a; ?_
 obtain ⟨dn,bd⟩:∃s,s=KX f c ac:=⟨_,rfl⟩
 rw [<-bd,L0] at a
 refine AT<|Sr<|Vm<|Vr (.bool (decide (p>=0)))<|AA<|Cn a (λcf a=>?_) λcf a=>?_
 refine AR<|AT<|Ah<|AT<|BZ C7 (qs 0 8 .nil) [] [] ad (by kernel_rfl) λcg aq=>Qx aa Z (v:=Sl aj f ak) (λ_ _=>Mv Z)<|Qx aa Z (v:=I p) (λ_ _=>Mv Z)<|Bi a λbe ch a=>have ci:=K2 AZ bb al aq; ?_
 obtain ⟨cj,ck,dp,cl,bf,bg,bh,cm,ar⟩:=A8 (κ:=AZ) ci ch
 replace ar:Ay ad cg cj (ck+p.toNat*3) cl:=ar
 obtain rfl:=EK cm
 refine Qx aa Z (λ_ _=>Ix Df bf Z bg bh)<|Qx aa Z (λ_ _=>Fz Kl Z)<|Qx aa Z (λ_ ⟨_,z⟩=>Ld B7 Z (Ay.cell0 (Es ar z) Z))<|Qx aa Z (λ_ _=>Fd DW Z)<|have cn:=Bs (Y4 ao g h m al) aq;Qx aa Z (λ_ ⟨_,z⟩=>Ld B7 Z (Bc (Bs cn z) Z))<|Qx aa Z (v:=.bool (be.name==c.name)) (λ_ _=>Run.strEq Z Z)<|CA<|Cn a (λco a=>?_) λco a=>?_
 refine Sr<|Vm<|Vm<|Vx (Ix Df bf Z bg bh)<|Vx (Fd My Z)<|Vx (Ld Dl Z (Ay.cell (k:=1) ar Z))<|Va (I be.type_)<|AA<|AS ?_
 obtain rfl:=AK a
 refine O1 B r Z (.tmp Z)<|⟨ad,Z,Ho (T2 (T4 (Mo [] o) n g h m) al aq) q⟩
 refine AR<|AM<|Vm<|Vr (I (Wr (p - 1)))<|Va (I (Wr (p - 1)))<|AA<|⟨ac,Nat.lt_succ_self ac,_,ad,(Wr (p - 1)),Pu,(bd▸a),(Tn (Mo [] al) aq)⟩
 refine BX<|Sr<|Va (I (-1:Int))<|AA<|AS ?_
 obtain rfl:=AK a
 refine O1 B r Z (.tmp Z)<|⟨ad,Z,Ho (Tn (T4 (Mo [] o) n g h m) al) q⟩
 refine Sr<|Vr (.bool (c.op==7))<|Va (.bool (c.op==7))<|AA<|Cn a (λcq a=>?_) λcq a=>?_
 refine Sr<|have cr:=Y4 br n g h m;Vx (Lx Fw Z Z (Bw cr))<|Vx (Fd DW Z)<|have bi:=Y3 ao g h m;Vx (Ld B7 Z (Bc bi Z))<|have ct:=Ss AI (K4 AI a7 o n g h) m;Bi a λd cu a=>Ca (Cg [Ag [Sl a8 af.funcs a9],Sb c.name] Z) (L4 ae ab ap cu (BL (x:=af) ct)) ?_
 rintro _ dq ⟨cv,dr,rfl,au,cw⟩
 obtain ⟨ds,dt,rfl,bj,bk⟩:=CL cw
 obtain ⟨cx,cy,rfl⟩:=AW bj
 obtain ⟨cz,c0,rfl⟩:=AW bk
 refine Vm<|Vr (Ag [Sb d.1.name,Sl cx d.1.params cy,I d.1.type_,I d.1.body.op,Sb d.1.body.name,Sb d.1.body.tail,I d.1.body.type_,Cx d.1.body.num,Sl cz d.1.body.args c0,I d.1.body.at_,I d.1.at_])<|Vr (.bool d.2)<|Ef<|Aa cv 22 KZ Z λa3 du c1 c2 ai=>have c3:=Ss AZ bj ai;have dv:=Ss AG bk ai;Eu<|St LP c2 Z Z Z Z λc4 bl am=>Va (.bool d.2)<|AA<|AT<|Am (λw bm=>∃l av a4,w=Env.puts l [(8,Pt c1 0),(75,.bool a4)]/\MU d a4=some ag/\AU [] a3 c4 av bm) ?_ ?_
 refine AM<|Vm<|Vr (.bool (!d.2))<|Vm<|Bo a (λe a=>?_) λe a=>?_
 refine Pg e<|Pg e<|Pg e<|Pg e<|Pg e<|Pg e<|Pg e<|Vp e<|AA<|⟨_,a3,true,Pu,a,Rf⟩
 refine Gx e (Fd De Z)<|Gx e (Ld EF Z (Bc bl Z))<|have c5:=Ss AZ c3 am; ?_
 obtain ⟨dw,dx,c6⟩:=AW c5
 refine Gx e (v:=I (d.1.params.length:Int)) (Ll Df c6)<|Gx e (Fd BR Z)<|have c7:=Y3 bi au ai am;Gx e (Ld CR Z (Bc c7 Z))<|have c8:=K4 AG (K4 AG ba o n g h) m au ai am; ?_
 obtain ⟨dy,dz,c9⟩:=AW c8
 refine Gx e (v:=I (c.args.length:Int)) (Ll CG c9)<|Gr e (.bool ((d.1.params.length:Int) != (c.args.length:Int)))<|Vp e<|AA<|⟨_,a3,((d.1.params.length:Int) != (c.args.length:Int)),Pu,a,Rf⟩
 rintro _ bm ⟨l,av,a4,rfl,a,a5⟩
 rw [MU] at a
 refine Cn a (λda a=>?_) λda a=>?_
 refine Sr<|Va (I (-1:Int))<|AA<|AS ?_
 obtain rfl:=AK a
 refine O1 B r Z (.tmp Z)<|⟨av,Z,Ho (T4 (T4 (Mo [22] o) n g h m) au ai am a5) q⟩
 refine AR<|Sr<|Vx (Fd NM Z)<|have db:=Bs bl a5;Vx (Ld Dl Z (Bc db Z))<|Va (I d.1.type_)<|AA<|AS ?_
 obtain rfl:=AK a
 refine O1 B r Z (.tmp Z)<|⟨av,Z,Ho (T4 (T4 (Mo [22] o) n g h m) au ai am a5) q⟩
 refine AR<|Sr<|Va (I 0)<|AA<|AS ?_
 obtain rfl:=AK a
 refine O1 B r Z (.tmp Z)<|⟨ab,Z,Ho (T4 (Mo [] o) n g h m) q⟩
theorem WS(c:Nat):KL.Spec (KL c):=lk0 (U9 c)
def Hc.At(c:Col)(a:World)(f:(List AJ)->Bts->Int->Option (List AJ)):Prop:=
 ∀{d v0 e g h},f d e g=some h->Slc AZ c.F a v0 d->
  Calls PG 96 #[v0,Sb e,I g] a λo l=>∃m n,o=.returned n/\AU [] c a m l/\Slc AZ m.F l n h
def Hc.Spec(f:(List AJ)->Bts->Int->Option (List AJ)):Prop:=
 ∀a c,Hc.At a c f
theorem UF(e:Col)(g:World)(s:∀b,e b<10):Hc.At e g Hc:=by
 intro f v0 a c al d h
 rw [Hc] at d
 obtain ⟨am,an,rfl⟩:=AW h
 refine Az Tryz.func96 Z Tryz.ntmps96 Z λB u ao=>Sr<|Va (.slice none 0 0)<|AA<|Sr<|Va (.slice none 0 0)<|AA<|Sr<|Vm<|Vm<|Bi d λap l d=>Ef<|Br (κ:=AZ) Z Z (Own.nil:Own AZ 87 e g 20 _ _) dcd QK (IY h) (Ea l) (Ew l) λaq w ar m y=>?_
 obtain ⟨z,aa,rfl⟩:=Own.len m
 refine Va (Sl z ((([]:List AJ)++f)) aa)<|AA<|Sr<|Vm<|Vm<|Vm<|Vx (v:=Ag [Sb a,I c,I 0]) (Bp Lo RL Z (.cons Z Z Z (.cons Z Z Z .nil)))<|Ef<|Cj (cs:=[Sb a,I c,I 0]) w 21 [[Sb a,I c,I 0]] Df Lo Z Z (.cons Z Z Z .nil) Z λab ac ad ae n=>have af:Own AZ 87 ab ac 21 (.slice (some ⟨ad,0,none⟩) 1 1) ([(AJ.mk a c 0)]:List AJ):=Own.lit (css:=[[Sb a,I c,I 0]]) ae Z Z Z (Ac (LZ (x:=(AJ.mk a c 0))) BB) (A6 Z Ds) Z;have ag:=Os m n;Bi d λau o d=>Ef<|Br (κ:=AZ) Z Z ag dcd QK (CI af) (Ea o) (Ew o) λav aw ax p ah=>?_
 obtain ⟨q,r,rfl⟩:=Own.len p
 refine Va (Sl q (((([]:List AJ)++f)++([(AJ.mk a c 0)]:List AJ))) r)<|AA<|AS ?_
 obtain ⟨ai,aj,ak⟩:=Own.freeze (S:=[20]) p dcd dcd
 obtain rfl:=AK d
 refine O1 B u Z (.tmp Z)<|⟨ai,Sl q (((([]:List AJ)++f)++([(AJ.mk a c 0)]:List AJ))) r,Z,Ho (T3 (Mo [20] y) n ah aj) s,ak⟩
theorem N3:Hc.Spec Hc:=lk0 (UF)
def G3.At(c:Col)(a:World)(f:(List AJ)->AE->Int->Option (List AJ)):Prop:=
 ∀{d v0 e g h l},f d e h=some l->Slc AZ c.F a v0 d->AG.rep c.F a g e->
  Calls PG 67 #[v0,Ag g,I h] a λp m=>∃n o,p=.returned o/\AU [] c a n m/\Slc AZ n.F m o l
def G3.Spec(f:(List AJ)->AE->Int->Option (List AJ)):Prop:=
 ∀a c,G3.At a c f
theorem Rc(z:Col)(az:World)(aa:∀b,z b<10):G3.At z az G3:=by
 intro e v0 c bk f ag a s a0
 rw [G3] at a
 obtain ⟨l,m,rfl⟩:=AW s
 obtain ⟨bm,bn,rfl,a1⟩:=E1 (Ae a0)
 refine Az Tryz.func67 Z Tryz.ntmps67 Z λB ab bo=>Sr<|Ef<|A0 z 20 Z Z λu a2 ah p n=>Va (.slice none 0 0)<|AA<|AT<|Ah<|Am (λac w=>∃q o ad,ac=Env.puts q [(0,Sl l e m),(2,I f),(4,Pt ah 0),(8,.bool ad)]/\JV e c f ad=some ag/\AU [] u a2 o w) ?_ ?_
 refine Sr<|Vx (Fz Cp Z)<|Vx (Ld GC Z (Bc p Z))<|Vr (.bool (c.op==21))<|Va (.bool (c.op==21))<|AA<|Cn a (λa3 a=>?_) λa3 a=>?_
 refine AR<|⟨_,u,(c.op==21),Pu,a,Rf⟩
 refine AM<|Vx (Fz Cp Z)<|Vx (Ld GC Z (Bc p Z))<|Vr (.bool (c.op==22))<|Vm<|Bo a (λg a=>?_) λg a=>?_
 refine Gm g<|Gr g (.bool (f==1))<|Vp g<|Va (.bool (f==1))<|AA<|⟨_,u,(f==1),Pu,a,Rf⟩
 refine Pg g<|Pg g<|Vp g<|Va (.bool false)<|AA<|⟨_,u,false,Pu,a,Rf⟩
 rintro _ w ⟨q,o,ad,rfl,a,d⟩
 rw [JV] at a
 refine Cn a (λa4 a=>?_) λa4 a=>?_
 refine Sr<|Vm<|Vx (Fd DW Z)<|have ai:=Bs p d;Vx (Ld B7 Z (Bc ai Z))<|Vx (Fd Kk Z)<|Vx (Ld Dl Z (Bc ai Z))<|have a5:=K2 AZ s n d;Bi a λaj a6 a=>Ca (Cg [Sl l e m,Sb c.name,I c.type_] Z) (N3 o w a6 a5) ?_
 rintro _ bp ⟨a7,bq,rfl,a8,ak⟩
 obtain ⟨al,am,rfl⟩:=AW ak
 refine Va (Sl al aj am)<|AA<|AS ?_
 obtain rfl:=AK a
 refine O1 B ab Z (.tmp Z)<|⟨a7,Sl al aj am,Z,Ho (T2 (Mo [] n) d a8) aa,ak⟩
 refine Am (λac ae=>∃q y af,ac=Env.puts q [(0,Sl l e m),(4,Pt ah 0),(25,.bool af)]/\Kf e c af=some ag/\AU [] o w y ae) ?_ ?_
 refine AM<|Vx (Fz Cp Z)<|have a9:=Bs p d;Vx (Ld GC Z (Bc a9 Z))<|Vr (.bool (c.op==20))<|Vm<|Bo a (λh a=>?_) λh a=>?_
 refine Gm h<|Gr h (.bool (f==2))<|Vp h<|Va (.bool (f==2))<|AA<|⟨_,o,(f==2),Pu,a,Rf⟩
 refine Pg h<|Pg h<|Vp h<|Va (.bool false)<|AA<|⟨_,o,false,Pu,a,Rf⟩
 rintro _ ae ⟨q,y,af,rfl,a,r⟩
 rw [Kf] at a
 refine Cn a (λba a=>?_) λba a=>?_
 refine Sr<|Vm<|Vx (Fd DW Z)<|have an:=Y2 p d r;Vx (Ld B7 Z (Bc an Z))<|have bb:=K3 AZ s n d r;Bi a λao bc a=>Ca (Cg [Sl l e m,Sb c.name,I 1] Z) (N3 y ae bc bb) ?_
 rintro _ bd ⟨be,br,rfl,ap,aq⟩
 obtain ⟨ar,au,rfl⟩:=AW aq
 refine Va (Sl ar ao au)<|AA<|Sr<|Vm<|Vx (Fd MW Z)<|have bf:=Bs an ap;Vx (Ld B7 Z (Bc bf Z))<|Bi a λav bg a=>Ca (Cg [Sl ar ao au,Sb c.tail,I 3] Z) (N3 be bd bg aq) ?_
 rintro _ bt ⟨bh,bu,rfl,bi,aw⟩
 obtain ⟨ax,ay,rfl⟩:=AW aw
 refine Va (Sl ax av ay)<|AA<|AS ?_
 obtain rfl:=AK a
 refine O1 B ab Z (.tmp Z)<|⟨bh,Sl ax av ay,Z,Ho (T4 (Mo [] n) d r ap bi) aa,aw⟩
 refine AR<|Sr<|Vm<|Va (Sl l e m)<|AA<|AS ?_
 obtain rfl:=AK a
 refine O1 B ab Z (.tmp Z)<|have bj:=K3 AZ s n d r;⟨y,Sl l e m,Z,Ho (T2 (Mo [] n) d r) aa,bj⟩
theorem SX:G3.Spec G3:=lk0 (Rc)
def G4.At(c:Col)(a:World)(f:AL->AE->Int->Int->Option Int):Prop:=
 ∀{d e g h l m n},f d g l m=some n->Bz.rep c.F a e d->AG.rep c.F a h g->
  Calls PG 68 #[Ag e,Ag h,I l,I m] a λo p=>∃q,o=.returned (I n)/\AU [] c a q p
def G4.Spec(f:AL->AE->Int->Int->Option Int):Prop:=
 ∀a c,G4.At a c f
theorem Re(al:Nat)(aa:Col)(ay:World)(m:∀b,aa b<10):G4.At aa ay (G4 al):=by
 intro ab ca c cb h p ac a az a0
 rw [G4] at a
 obtain ⟨an,ao,rfl,am⟩:=E1 (BQ az)
 obtain ⟨cf,cg,rfl,a1⟩:=E1 (Ae a0)
 refine Az Tryz.func68 Z Tryz.ntmps68 Z λB n ch=>Sr<|Ef<|A0 aa 20 Z Z λa2 ci cj a3 l=>Ef<|A0 a2 21 Z Z λf ad a4 ae g=>Va (I 0)<|AA<|Am (λq ap=>∃o af,q=Env.puts o []/\JW=some ac/\AU [22] f ad af ap) ?_ ?_
 refine Sr<|Vx (Fz Cp Z)<|Vx (Ld GC Z (Bc ae Z))<|AA<|Ah<|Sr<|Vr (.bool (c.op==14))<|Va (.bool (c.op==14))<|AA<|Cn a (λa5 a=>?_) λa5 a=>?_
 refine Sr<|Va (I 2)<|AA<|AS ?_
 obtain rfl:=AK a
 refine O1 B n Z (.tmp Z)<|⟨f,Z,Ho (Tn (Mo [] l) g) m⟩
 refine Sr<|Vr (.bool (c.op==18))<|Va (.bool (c.op==18))<|AA<|Cn a (λa6 a=>?_) λa6 a=>?_
 refine Sr<|Vm<|Vr (.bool (h==1))<|AA<|Cn a (λa7 a=>?_) λa7 a=>?_
 refine Sr<|Va (I 3)<|AA<|AS ?_
 obtain rfl:=AK a
 refine O1 B n Z (.tmp Z)<|⟨f,Z,Ho (Tn (Mo [] l) g) m⟩
 refine AR<|⟨_,f,Pu,a,(AU.refl [22] _ _)⟩
 refine Sr<|Vr (.bool (c.op==7))<|Va (.bool (c.op==7))<|AA<|Cn a (λa8 a=>?_) λa8 a=>?_
 refine Sr<|have a9:=Bs a3 g;Vx (Lx Fw Z Z (Bw a9))<|Vx (Fd DW Z)<|Vx (Ld B7 Z (Bc ae Z))<|have ba:=K2 AI am l g;Bi a λd bb a=>Ca (Cg [Ag [Sl an ab.funcs ao],Sb c.name] Z) (L4 al f ad bb (BL (x:=ab) ba)) ?_
 rintro _ ck ⟨bc,cl,rfl,aq,bd⟩
 obtain ⟨cm,cn,rfl,ar,au⟩:=CL bd
 obtain ⟨be,bf,rfl⟩:=AW ar
 obtain ⟨bg,bh,rfl⟩:=AW au
 refine Vm<|Vr (Ag [Sb d.1.name,Sl be d.1.params bf,I d.1.type_,I d.1.body.op,Sb d.1.body.name,Sb d.1.body.tail,I d.1.body.type_,Cx d.1.body.num,Sl bg d.1.body.args bh,I d.1.body.at_,I d.1.at_])<|Vr (.bool d.2)<|Ef<|Aa bc 22 KZ Z λag co bi bj u=>have av:=Ss AZ ar u;have cq:=Ss AG au u;Eu<|St LP bj Z Z Z Z λbk aw w=>Va (.bool d.2)<|AA<|Am (λq ah=>∃o r ai,q=Env.puts o [(2,I h),(9,Pt bi 0),(35,.bool ai)]/\Kg h d ai=some ac/\AU [] ag bk r ah) ?_ ?_
 refine AM<|Vm<|Vm<|Bo a (λe a=>?_) λe a=>?_
 refine Gm e<|Gx e (Fd De Z)<|Gx e (Ld EF Z (Bc aw Z))<|have bl:=Ss AZ av w; ?_
 obtain ⟨cr,ct,bm⟩:=AW bl
 refine Gx e (v:=I (d.1.params.length:Int)) (Ll Df bm)<|Gr e (.bool (decide (h< (d.1.params.length:Int))))<|Vp e<|AA<|⟨_,ag,(decide (h< (d.1.params.length:Int))),Pu,a,Rf⟩
 refine Pg e<|Pg e<|Pg e<|Pg e<|Pg e<|Vp e<|AA<|⟨_,ag,false,Pu,a,Rf⟩
 rintro _ ah ⟨o,r,ai,rfl,a,y⟩
 rw [Kg] at a
 refine Cn a (λbn a=>?_) λbn a=>?_
 refine Sr<|Vx (Fd De Z)<|have bo:=Bs aw y;Vx (Ld EF Z (Bc bo Z))<|Vm<|Bi a λbp bq a=>have br:=K2 AZ av w y; ?_
 obtain ⟨bt,bu,cu,bv,bw,bx,bz,b0,aj⟩:=A8 (κ:=AZ) br bq
 replace aj:Ay r ah bt (bu+h.toNat*3) bv:=aj
 obtain rfl:=EK b0
 refine Vx (Ix Df bw Z bx bz)<|Vx (Fd My Z)<|Vx (Ld Dl Z (Ay.cell (k:=1) aj Z))<|Va (I bp.type_)<|AA<|AS ?_
 obtain rfl:=AK a
 refine O1 B n Z (.tmp Z)<|⟨r,Z,Ho (Tn (T4 (Mo [22] l) g aq u w) y) m⟩
 refine AR<|⟨_,r,Pu,a,(T3 (Mo [22] aq) u w y)⟩
 refine Sr<|Vr (.bool (c.op==19))<|Va (.bool (c.op==19))<|AA<|Cn a (λb1 a=>?_) λb1 a=>?_
 refine AT<|Sr<|Vm<|Vr (.bool (h==0))<|AA<|Cn a (λb2 a=>?_) λb2 a=>?_
 refine Sr<|Va (I 2)<|AA<|AS ?_
 obtain rfl:=AK a
 refine O1 B n Z (.tmp Z)<|⟨f,Z,Ho (Tn (Mo [] l) g) m⟩
 refine AR<|Sr<|Vm<|Va (I p)<|AA<|AS ?_
 obtain rfl:=AK a
 refine O1 B n Z (.tmp Z)<|⟨f,Z,Ho (Tn (Mo [] l) g) m⟩
 refine Sr<|Vr (.bool (c.op==20))<|Va (.bool (c.op==20))<|AA<|Cn a (λb3 a=>?_) λb3 a=>?_
 refine AT<|Sr<|Vm<|Vr (.bool (h==0))<|AA<|Cn a (λb4 a=>?_) λb4 a=>?_
 refine Sr<|Va (I 3)<|AA<|AS ?_
 obtain rfl:=AK a
 refine O1 B n Z (.tmp Z)<|⟨f,Z,Ho (Tn (Mo [] l) g) m⟩
 refine AR<|Sr<|Vm<|Va (I p)<|AA<|AS ?_
 obtain rfl:=AK a
 refine O1 B n Z (.tmp Z)<|⟨f,Z,Ho (Tn (Mo [] l) g) m⟩
 refine Am (λq ax=>∃o s ak,q=Env.puts o [(2,I h),(3,I p),(5,Pt a4 0),(52,.bool ak)]/\Kh c h p ak=some ac/\AU [] f ad s ax) ?_ ?_
 refine Sr<|Vr (.bool (c.op==21))<|Va (.bool (c.op==21))<|AA<|Cn a (λb5 a=>?_) λb5 a=>?_
 refine AR<|⟨_,f,(c.op==21),Pu,a,Rf⟩
 refine AM<|Vr (.bool (c.op==22))<|Va (.bool (c.op==22))<|AA<|⟨_,f,(c.op==22),Pu,a,Rf⟩
 rintro _ ax ⟨o,s,ak,rfl,a,z⟩
 rw [Kh] at a
 refine Cn a (λb6 a=>?_) λb6 a=>?_
 refine AT<|Sr<|Vm<|Vr (.bool (h==0))<|AA<|Cn a (λb7 a=>?_) λb7 a=>?_
 refine Sr<|Vx (Fd Kk Z)<|have b8:=Bs ae z;Vx (Ld Dl Z (Bc b8 Z))<|Va (I c.type_)<|AA<|AS ?_
 obtain rfl:=AK a
 refine O1 B n Z (.tmp Z)<|⟨s,Z,Ho (T2 (Mo [] l) g z) m⟩
 refine AR<|Sr<|Vm<|Va (I p)<|AA<|AS ?_
 obtain rfl:=AK a
 refine O1 B n Z (.tmp Z)<|⟨s,Z,Ho (T2 (Mo [] l) g z) m⟩
 refine AR<|⟨_,s,Pu,a,(Mo [22] z)⟩
 rintro _ ap ⟨o,af,rfl,a,b9⟩
 rw [JW] at a
 refine Sr<|Va (I 1)<|AA<|AS ?_
 obtain rfl:=AK a
 refine O1 B n Z (.tmp Z)<|⟨af,Z,Ho (T2 (Mo [22] l) g b9) m⟩
theorem SY(c:Nat):G4.Spec (G4 c):=lk0 (Re c)
def ref07_wrong.At(c:Col)(a:World)(f:AL->(List AJ)->AE->Int->Option (List Int)):Prop:=
 ∀{d e g h l m n o},f d g l n=some o->Bz.rep c.F a e d->Slc AZ c.F a h g->AG.rep c.F a m l->
  Calls PG 41 #[Ag e,h,Ag m,I n] a λs p=>∃q r,s=.returned r/\AU [] c a q p/\Slc (Kd.int .i64) q.F p r o
def ref07_wrong.Spec(f:AL->(List AJ)->AE->Int->Option (List Int)):Prop:=
 ∀a c,ref07_wrong.At a c f
structure BW.Good(a:BW):Prop where
 ref07_wrong:ref07_wrong.Spec a.ref07_wrong
theorem SZ(q:BW)(n:Nat)(b9:BW.Good q)(a0:Col)(ca:World)(cb:∀b,a0 b<10):ref07_wrong.At a0 ca (Kq q n):=by
 intro e dw m dx a dy l aq c cc bc cd
 rw [Kq] at c
 obtain ⟨ac,ad,rfl,bd⟩:=E1 (BQ cc)
 obtain ⟨ae,af,rfl⟩:=AW bc
 obtain ⟨ag,ah,rfl,be⟩:=E1 (Ae cd)
 refine Az Tryz.func41 Z Tryz.ntmps41 Z λB cf g=>Sr<|Ef<|A0 a0 20 Z Z λcg d1 a1 ch ar=>Ef<|A0 cg 21 Z Z λci cj a2 a3 al=>Va (.slice none 0 0)<|AA<|Sr<|Va (.slice none 0 0)<|AA<|Sr<|have bf:=Bs ch al;Vx (Lx Fw Z Z (Bw bf))<|Vm<|Vx (Lx BA Z Z (Bw a3))<|have bg:=K2 AI bd ar al;have bh:=K2 AZ bc ar al;have bi:=K2 AG be ar al;Bi c λau ck c=>Ca (Cg [Ag [Sl ac e.funcs ad],Sl ae m af,Ag [I a.op,Sb a.name,Sb a.tail,I a.type_,Cx a.num,Sl ag a.args ah,I a.at_]] Z) (WS n ci cj ck (BL (x:=e) bg) bh (AY (x:=a) bi)) ?_
 rintro _ bj ⟨av,rfl,y⟩
 refine Va (I au)<|AA<|Am (λam aw=>∃r an ai ax ay,am=Env.puts r [(1,Sl ae m af),(3,I l),(4,Pt a1 0),(6,Pt a2 0),(9,Sl ax ai ay)]/\KM q n e m a l ai=some aq/\AU [23] av bj an aw/\Own (Kd.int .i64) 3 an aw 23 (Sl ax ai ay) ai) ?_ ?_
 refine Am (λam bk=>∃r az a4,am=Env.puts r [(1,Sl ae m af),(3,I l),(4,Pt a1 0),(6,Pt a2 0),(9,.slice none 0 0),(23,.bool a4)]/\LK q n e m a l a4=some aq/\AU [] av bj az bk) ?_ ?_
 refine AM<|Vm<|Vr (.bool (au != 0))<|Vm<|Bo c (λp c=>?_) λp c=>?_
 refine Gm p<|Gm p<|Gr p (.bool (au != l))<|Vp p<|AA<|⟨_,av,(au != l),Pu,c,Rf⟩
 refine Pg p<|Pg p<|Pg p<|Vp p<|AA<|⟨_,av,false,Pu,c,Rf⟩
 rintro _ bk ⟨r,az,a4,rfl,c,a5⟩
 rw [LK] at c
 refine Cn c (λcl c=>?_) λcl c=>?_
 refine AM<|Vm<|Vx (Fd L2 Z)<|have cm:=Y2 a3 y a5;Vx (Ld BC Z (Bc cm Z))<|Ef<|Cj (cs:=[I a.at_]) az 22 [[I a.at_]] Sq ACe Z Z (.cons Z Z Z .nil) Z λbl bm cn co cq=>have cr:Own (Kd.int .i64) 3 bl bm 22 (.slice (some ⟨cn,0,none⟩) 1 1) ([a.at_]:List Int):=Own.lit (css:=[[I a.at_]]) co Z Z Z (Ac Z BB) (A6 Z Ds) Z;Bi c λd2 bn c=>Ef<|Br (κ:=(Kd.int .i64)) Z Z (Own.nil:Own (Kd.int .i64) 3 bl bm 23 _ _) dcd YC (CI cr) (Ea bn) (Ew bn) λd3 ct d4 bo cu=>?_
 obtain ⟨bp,bq,rfl⟩:=Own.len bo
 refine Va (Sl bp ((([]:List Int)++([a.at_]:List Int))) bq)<|AA<|⟨_,ct,(([]:List Int)++([a.at_]:List Int)),bp,bq,Pu,c,(T2 (Mo [23] a5) cq cu),bo⟩
 refine AR<|⟨_,az,([]:List Int),none,0,Pu,c,(Mo [23] a5),Own.nil⟩
 rintro _ aw ⟨r,an,ai,ax,ay,rfl,c,aj,cv⟩
 rw [KM] at c
 refine AT<|Sr<|Va (I 0)<|AA<|Ah<|Bj (λu am a6=>∃r ak o ao ap h,am=Env.puts r [(1,Sl ae m af),(3,I l),(4,Pt a1 0),(6,Pt a2 0),(9,Sl ao o ap),(11,I h)]/\H8 q n e m a l u o h=some aq/\AU [23] an aw ak a6/\Own (Kd.int .i64) 3 ak a6 23 (Sl ao o ap) o) n ?_ ?_
 exact ⟨_,an,ai,ax,ay,0,Pu,c,(AU.refl [23] _ _),cv⟩
 rintro u _ a6 ⟨r,ak,o,ao,ap,h,rfl,c,z,br⟩
 rcases u with _|u
 exact A5 c
 refine have c:IQ q n e m a l (H8 q n e m a l u) o h=some aq:=c; ?_
 obtain ⟨d5,bt⟩:∃s,s=H8 q n e m a l u:=⟨_,rfl⟩
 rw [<-bt,IQ] at c
 refine AT<|Sr<|Vm<|Vx (Fd BR Z)<|have bu:=Y3 a3 y aj z;Vx (Ld CR Z (Bc bu Z))<|have bv:=K3 AG bi y aj z; ?_
 obtain ⟨d6,d7,cw⟩:=AW bv
 refine Vx (v:=I (a.args.length:Int)) (Ll CG cw)<|Vr (.bool (decide (h< (a.args.length:Int))))<|AA<|Cn c (λcx c=>?_) λcx c=>?_
 refine AR<|AT<|Ah<|AT<|BZ C7 (qs 0 4 (qs 5 9 (.one 4 (.one 14 (.one 15 (.q 16 .nil)))))) [] [] ak (by kernel_rfl) λbw aa=>have bx:=Y4 bf y aj z aa;Qx g Z (λ_ ⟨_,d⟩=>Lx Fw Z Z (Bw (Bs bx d)))<|Qx g Z (v:=Sl ae m af) (λ_ _=>Mv Z)<|have a7:=Bs bu aa;Qx g Z (λ_ ⟨_,d⟩=>Lx BA Z Z (Bw (Bs a7 d)))<|Qx g Z (v:=I h) (λ_ _=>Mv Z)<|Qx g Z (λ_ _=>Fd BR Z)<|Qx g Z (λ_ ⟨_,d⟩=>Ld CR Z (Bc (Bs a7 d) Z))<|Qx g Z (v:=I h) (λ_ _=>Mv Z)<|Bi c λf cy c=>have a8:=Ss AG bv aa; ?_
 obtain ⟨cz,c0,d8,c1,c2,c3,c4,c5,a9⟩:=A8 (κ:=AG) a8 cy
 replace a9:Ay ak bw cz (c0+h.toNat*7) c1:=a9
 obtain ⟨b0,b1,rfl,bz⟩:=E1 (Ae c5)
 refine Qx g Z (λ_ _=>Ix CG c2 Z c3 c4)<|Qx g Z (λ_ ⟨_,d⟩=>Lx BA Z Z (Ay.part0 (Es a9 d) [I f.op,Sb f.name,Sb f.tail,I f.type_,Cx f.num,Sl b0 f.args b1,I f.at_] Z))<|Qx g Z (λ_ ⟨_,d⟩=>Lx Fw Z Z (Bw (Bs bx d)))<|Qx g Z (λ_ ⟨_,d⟩=>Lx BA Z Z (Bw (Bs a7 d)))<|Qx g Z (v:=I h) (λ_ _=>Mv Z)<|Qx g Z (v:=I l) (λ_ _=>Mv Z)<|A2 Z<|have c6:=K4 AZ bh y aj z aa;Bi c λc7 c8 c=>A4 Z (.none Z) Z Z (Cg [Sl ae m af,Ag [I a.op,Sb a.name,Sb a.tail,I a.type_,Cx a.num,Sl ag a.args ah,I a.at_],I h] Z)<|Calls.mono (SX ak bw c8 c6 (AY (x:=a) a8)) ?_
 rintro _ c9 ⟨da,ea,rfl,w,b2⟩
 obtain ⟨db,dc,rfl⟩:=AW b2
 refine ⟨_,Z,⟨_,(Mo [] w)⟩,?_⟩
 refine A2 Z<|have b3:=Ss AI (K4 AI bg y aj z aa) w;have de:=Ss AG a8 w;Bi c λdf dg c=>A4 Z (.none Z) Z Z (Cg [Ag [Sl ac e.funcs ad],Ag [I a.op,Sb a.name,Sb a.tail,I a.type_,Cx a.num,Sl ag a.args ah,I a.at_],I h,I l] Z)<|Calls.mono (SY n da c9 dg (BL (x:=e) b3) (AY (x:=a) de)) ?_
 rintro _ dh ⟨di,rfl,ab⟩
 refine ⟨_,Z,⟨_,(Tn (Mo [] w) ab)⟩,?_⟩
 refine A2 Z<|have dj:=Ss AI b3 ab;have dk:=Ss AZ b2 ab;have dl:=K2 AG bz w ab;Bi c λba dm c=>A4 Z (.none Z) Z Z (Cg [Ag [Sl ac e.funcs ad],Sl db c7 dc,Ag [I f.op,Sb f.name,Sb f.tail,I f.type_,Cx f.num,Sl b0 f.args b1,I f.at_],I df] Z)<|Calls.mono (b9.ref07_wrong di dh dm (BL (x:=e) dj) dk (AY (x:=f) dl)) ?_
 rintro _ eb ⟨ec,ed,rfl,bb,b4⟩
 obtain ⟨dn,dp,rfl⟩:=AW b4
 refine ⟨_,Z,⟨_,(T2 (Mo [] w) ab bb)⟩,?_⟩
 refine Qx g Z (v:=Sl dn ba dp) (λ_ _=>Run.assign Z)<|CA<|AM<|Vm<|Vm<|have dq:=Os (Os (Os (Os br aa) w) ab) bb;Bi c λee b5 c=>Ef<|Br (κ:=(Kd.int .i64)) Z Z dq dcd YC (IY b4) (Ea b5) (Ew b5) λef dr eg b6 ds=>?_
 obtain ⟨b7,b8,rfl⟩:=Own.len b6
 refine Va (Sl b7 ((o++ba)) b8)<|AA<|AM<|Vm<|Vr (I (Wr (h+1)))<|Va (I (Wr (h+1)))<|AA<|⟨u,Nat.lt_succ_self u,_,dr,(o++ba),b7,b8,(Wr (h+1)),Pu,(bt▸c),(Tn (T4 (Mo [23] z) aa w ab bb) ds),b6⟩
 refine BX<|Sr<|Vm<|Va (Sl ao o ap)<|AA<|AS ?_
 obtain ⟨dt,du,dv⟩:=Own.freeze (S:=[23]) br dcd dcd
 obtain rfl:=AK c
 refine O1 B cf Z (.tmp Z)<|⟨dt,Sl ao o ap,Z,Ho (Tn (T4 (Mo [23] ar) al y aj z) du) cb,dv⟩
theorem Sa(a:BW)(d:Nat)(f:BW.Good a):ref07_wrong.Spec (Kq a d):=lk0 (SZ a d f)
theorem BW.good:∀a,BW.Good (BW.at a)
 |0=>⟨by intro c d;intros;(try intro _);intros;exact A5 (by assumption)⟩
 |n+1=>⟨Sa _ n (BW.good n)⟩
theorem UG(a:Nat):ref07_wrong.Spec (ref07_wrong a):=(BW.good a).ref07_wrong
def HK.At(c:Col)(a:World)(f:AL->Option AF):Prop:=
 ∀{d e g},f d=some g->Bz.rep c.F a e d->
  Calls PG 18 #[Ag e] a λn h=>∃l m,n=.returned (Ag m)/\AU [] c a l h/\An.rep l.F h m g
def HK.Spec(f:AL->Option AF):Prop:=
 ∀a c,HK.At a c f
theorem Se(r:Nat)(a5:Col)(cb:World)(bm:∀b,a5 b<10):HK.At a5 cb (HK r):=by
 intro l d0 ae a cc
 rw [HK] at a
 obtain ⟨ap,aq,rfl,bn⟩:=E1 (BQ cc)
 refine Az Tryz.func18 Z Tryz.ntmps18 Z λB bo d=>Sr<|Ef<|A0 a5 20 Z Z λcd d2 ar cf a6=>Ef<|Aa cd 21 FR Z λcg ch au bp av=>AA<|Sr<|have bq:=Bs cf av;Vx (Lx Fw Z Z (Bw bq))<|have br:=K2 AI bn a6 av;Bi a λo ci a=>Ca (Cg [Ag [Sl ap l.funcs aq]] Z) (UD r cg ch ci (BL (x:=l) br)) ?_
 rintro _ d3 ⟨cj,d4,rfl,af,ck⟩
 obtain rfl:=Au ck
 refine Ef<|Aa cj 22 FR Z λa7 d5 ab cl ag=>Eu<|St HN cl Z Z Z Z λcm a8 ah=>AA<|AT<|Sr<|Vx (Fz NN Z)<|Vx (Ld NO Z (Bc a8 Z))<|Vr (.bool (o.why != 0))<|AA<|Cn a (λcn a=>?_) λcn a=>?_
 refine Sr<|Vx (Lx LN Z Z (Bw a8))<|have co:=Y3 bp af ag ah;Eu<|St HN co Z Z Z Z λd6 cq cr=>AA<|AS ?_
 obtain rfl:=AK a
 refine O1 B bo Z (.agg LN Z Z (Bw cq))<|⟨a7,[I o.why,I o.at_],Z,Ho (Tn (T4 (Mo [21,22] a6) av af ag ah) cr) bm,(Al (x:=o))⟩
 refine AR<|AT<|Sr<|Va (I 0)<|AA<|Ah<|Bj (λz ac a9=>∃n ad f u w,ac=Env.puts n [(1,Pt ar 0),(2,Pt au 0),(3,Pt ab 0),(4,I f)]/\CP r l z f u w=some ae/\AU [22] a7 cm ad a9/\Bk ad a9 22 ab [I u,I w] 63) r ?_ ?_
 exact ⟨_,a7,0,o.why,o.at_,Pu,a,(AU.refl [22] _ _),a8⟩
 rintro z _ a9 ⟨n,ad,f,u,w,rfl,a,ai,bt⟩
 rcases z with _|z
 exact A5 a
 refine have a:IR r l (CP r l z) f u w=some ae:=a; ?_
 obtain ⟨aw,bu⟩:∃s,s=CP r l z:=⟨_,rfl⟩
 rw [<-bu,IR] at a
 refine AT<|Sr<|Vm<|Vx (Fz Dd Z)<|have bv:=Y4 bq af ag ah ai;Vx (Ld Fr Z (Bc bv Z))<|have bw:=K4 AI br af ag ah ai; ?_
 obtain ⟨d7,d8,ct⟩:=AW bw
 refine Vx (v:=I (l.funcs.length:Int)) (Ll FA ct)<|Vr (.bool (decide (f< (l.funcs.length:Int))))<|AA<|Cn a (λcu a=>?_) λcu a=>?_
 refine AR<|AT<|Ah<|AT<|BZ C7 (qs 0 19 (.one 19 (.q 20 .nil))) [] [] ad (by kernel_rfl) λbx ax=>have ay:=Bs bv ax;Qx d Z (λ_ ⟨_,c⟩=>Lx Fw Z Z (Bw (Bs ay c)))<|Qx d Z (λ_ _=>Fz Dd Z)<|Qx d Z (λ_ ⟨_,c⟩=>Ld Fr Z (Bc (Bs ay c) Z))<|Qx d Z (v:=I f) (λ_ _=>Mv Z)<|Bi a λe cv a=>have bz:=Ss AI bw ax; ?_
 obtain ⟨cw,cx,d9,cy,ba,bb,bc,cz,aj⟩:=A8 (κ:=AI) bz cv
 replace aj:Ay ad bx cw (cx+f.toNat*11) cy:=aj
 obtain ⟨ea,eb,rfl,b0,b1⟩:=CL cz
 obtain ⟨c0,c1,rfl⟩:=AW b0
 obtain ⟨b2,b3,rfl⟩:=AW b1
 refine Qx d Z (λ_ _=>Ix FA ba Z bb bc)<|Qx d Z (λ_ _=>Fd De Z)<|Qx d Z (λ_ ⟨_,c⟩=>Ld EF Z (Ay.cell (k:=1) (Es aj c) Z))<|Qx d Z (λ_ _=>Fz Dd Z)<|Qx d Z (λ_ ⟨_,c⟩=>Ld Fr Z (Bc (Bs ay c) Z))<|Qx d Z (v:=I f) (λ_ _=>Mv Z)<|Qx d Z (λ_ _=>Ix FA ba Z bb bc)<|Qx d Z (λ_ _=>Fd LO Z)<|Qx d Z (λ_ ⟨_,c⟩=>Lx BA Z Z (Kd.At.part (Ay.at_ (Es aj c)) 3 [I e.body.op,Sb e.body.name,Sb e.body.tail,I e.body.type_,Cx e.body.num,Sl b2 e.body.args b3,I e.body.at_] Z))<|Qx d Z (λ_ _=>Fz Dd Z)<|Qx d Z (λ_ ⟨_,c⟩=>Ld Fr Z (Bc (Bs ay c) Z))<|Qx d Z (v:=I f) (λ_ _=>Mv Z)<|Qx d Z (λ_ _=>Ix FA ba Z bb bc)<|Qx d Z (λ_ _=>Fd NM Z)<|Qx d Z (λ_ ⟨_,c⟩=>Ld Dl Z (Ay.cell (k:=2) (Es aj c) Z))<|A2 Z<|Bi a λm c2 a=>A4 Z (.none Z) Z Z (Cg [Ag [Sl ap l.funcs aq],Sl c0 e.params c1,Ag [I e.body.op,Sb e.body.name,Sb e.body.tail,I e.body.type_,Cx e.body.num,Sl b2 e.body.args b3,I e.body.at_],I e.type_] Z)<|Calls.mono (UG r ad bx c2 (BL (x:=l) bz) b0 (AY (x:=(AE.mk e.body.op e.body.name e.body.tail e.body.type_ e.body.num e.body.args e.body.at_)) b1)) ?_
 rintro _ c3 ⟨b4,ec,rfl,bd,b5⟩
 obtain ⟨ak,al,rfl⟩:=AW b5
 refine ⟨_,Z,⟨_,(Mo [] bd)⟩,?_⟩
 refine Qx d Z (v:=Sl ak m al) (λ_ _=>Run.assign Z)<|CA<|Sr<|Va (I 0)<|AA<|Ah<|Bj (λaa ac am=>∃n p h y q,ac=Env.puts n [(1,Pt ar 0),(2,Pt au 0),(3,Pt ab 0),(4,I f),(5,Sl ak m al),(6,I h)]/\FO f aw m aa h y q=some ae/\AU [22] b4 c3 p am/\Bk p am 22 ab [I y,I q] 63) r ?_ ?_
 refine have c4:=Y2 bt ax bd;⟨_,b4,0,u,w,Pu,a,(AU.refl [22] _ _),c4⟩
 rintro aa _ am ⟨n,p,h,y,q,rfl,a,be,az⟩
 rcases aa with _|aa
 exact A5 a
 refine have a:Ep f aw m (FO f aw m aa) h y q=some ae:=a; ?_
 obtain ⟨b6,b7⟩:∃s,s=FO f aw m aa:=⟨_,rfl⟩
 rw [<-b7,Ep] at a
 refine AT<|Sr<|Vm<|Vm<|have bf:=Ss (Kd.int .i64) b5 be; ?_
 obtain ⟨ed,ee,c5⟩:=AW bf
 refine Vx (v:=I (m.length:Int)) (Ll Sq c5)<|Vr (.bool (decide (h< (m.length:Int))))<|AA<|Cn a (λc6 a=>?_) λc6 a=>?_
 refine AR<|Am (λac bg=>∃n a0 a1 a2,ac=Env.puts n [(1,Pt ar 0),(2,Pt au 0),(3,Pt ab 0),(4,I f),(5,Sl ak m al),(6,I h)]/\JC h b6 a1 a2=some ae/\AU [22] p am a0 bg/\Bk a0 bg 22 ab [I a1,I a2] 63) ?_ ?_
 refine Ah<|Am (λac bh=>∃n an bi,ac=Env.puts n [(1,Pt ar 0),(2,Pt au 0),(3,Pt ab 0),(4,I f),(5,Sl ak m al),(6,I h),(57,.bool bi)]/\JD m h y q b6 bi=some ae/\AU [] p am an bh) ?_ ?_
 refine BZ C7 (qs 0 12 .nil) [] [] p (by kernel_rfl) λc7 a3=>Qx d Z (λ_ _=>Fz NN Z)<|have b8:=Bs az a3;Qx d Z (λ_ ⟨_,c⟩=>Ld NO Z (Bc (Bs b8 c) Z))<|Qx d Z (v:=.bool (y==0)) (λ_ _=>Z)<|Qx d Z (v:=.bool (y==0)) (λ_ _=>Mv Z)<|Bo a (λg a=>?_) λg a=>?_
 refine Qp d Z g<|Qp d Z g<|Qp d Z g<|Qp d Z g<|Qp d Z g<|Qp d Z g<|Qp d Z g<|Qx d Z (v:=.bool true) (λ_ _=>(Pk g))<|CA<|⟨_,p,true,Pu,a,(Mo [] a3)⟩
 refine Qg d Z g (v:=Sl ak m al) (λ_ _=>Mv Z)<|Qg d Z g (v:=I h) (λ_ _=>Mv Z)<|Bi a λa4 c8 a=>have c9:=Ss (Kd.int .i64) bf a3; ?_
 obtain ⟨da,db,ef,b9,dc,de,df,dg,bj⟩:=A8 (κ:=(Kd.int .i64)) c9 c8
 replace bj:Ay p c7 da (db+h.toNat*1) b9:=bj
 obtain rfl:=(show b9=[I a4] from dg)
 refine Qg d Z g (λ_ _=>Ix Sq dc Z de df)<|Qg d Z g (λ_ ⟨_,c⟩=>Ld BC Z (Ay.cell0 (Es bj c) Z))<|Qg d Z g (λ_ _=>Fd PH Z)<|Qg d Z g (λ_ ⟨_,c⟩=>Ld BC Z (Bc (Bs b8 c) Z))<|Qg d Z g (v:=.bool (decide (a4<q))) (λ_ _=>Z)<|Qx d Z (v:=.bool (decide (a4<q))) (λ_ _=>(Pk g))<|CA<|⟨_,p,(decide (a4<q)),Pu,a,(Mo [] a3)⟩
 rintro _ bh ⟨n,an,bi,rfl,a,ao⟩
 rw [JD] at a
 refine Cn a (λdh a=>?_) λdh a=>?_
 refine AM<|Vm<|Vm<|Bi a λbk di a=>have dj:=Ss (Kd.int .i64) bf ao; ?_
 obtain ⟨dk,dl,eg,ca,dm,dn,dp,dq,bl⟩:=A8 (κ:=(Kd.int .i64)) dj di
 replace bl:Ay an bh dk (dl+h.toNat*1) ca:=bl
 obtain rfl:=(show ca=[I bk] from dq)
 refine Vx (Ix Sq dm Z dn dp)<|Vx (Ld BC Z (Ay.cell0 bl Z))<|Vx (v:=Ag [I 34,I bk]) (Bp FR M6 Z (.cons Z Z Z (.cons Z Z Z .nil)))<|have dr:=Bs az ao;Eu<|St HN dr Z Z Z Z λeh ds dt=>AA<|⟨_,an,34,bk,Pu,a,(Tn (Mo [22] ao) dt),ds⟩
 refine AR<|have du:=Bs az ao;⟨_,an,y,q,Pu,a,(Mo [22] ao),du⟩
 rintro _ bg ⟨n,a0,a1,a2,rfl,a,dv,dw⟩
 rw [JC] at a
 refine AM<|Vm<|Vr (I (Wr (h+1)))<|Va (I (Wr (h+1)))<|AA<|⟨aa,Nat.lt_succ_self aa,_,a0,(Wr (h+1)),a1,a2,Pu,(b7▸a),(Tn (Mo [22] be) dv),dw⟩
 refine BX<|AM<|Vm<|Vr (I (Wr (f+1)))<|Va (I (Wr (f+1)))<|AA<|⟨z,Nat.lt_succ_self z,_,p,(Wr (f+1)),y,q,Pu,(bu▸a),(T3 (Mo [22] ai) ax bd be),az⟩
 refine BX<|Sr<|Vx (Lx LN Z Z (Bw bt))<|have dx:=Y4 bp af ag ah ai;Eu<|St HN dx Z Z Z Z λei dy dz=>AA<|AS ?_
 obtain rfl:=AK a
 refine O1 B bo Z (.agg LN Z Z (Bw dy))<|⟨ad,[I u,I w],Z,Ho (T2 (T4 (Mo [21,22] a6) av af ag ah) ai dz) bm,(Al (x:=(AF.mk u w)))⟩
theorem UH(c:Nat):HK.Spec (HK c):=lk0 (Se c)
def G5.At(c:Col)(a:World)(f:AN->(List AD)->Option Bool):Prop:=
 ∀{d e g h l},f d g=some l->AI.rep c.F a e d->Slc Aq c.F a h g->
  Calls PG 19 #[Ag e,h] a λm n=>∃o,m=.returned (.bool l)/\AU [] c a o n
def G5.Spec(f:AN->(List AD)->Option Bool):Prop:=
 ∀a c,G5.At a c f
theorem UI(n:Nat)(ab:Col)(a6:World)(ac:∀b,ab b<10):G5.At ab a6 (G5 n):=by
 intro o b1 g b2 ad a a7 am
 rw [G5] at a
 obtain ⟨b3,b4,rfl,an,a8⟩:=CL a7
 obtain ⟨b5,b6,rfl⟩:=AW an
 obtain ⟨b7,b8,rfl⟩:=AW a8
 obtain ⟨w,y,rfl⟩:=AW am
 refine Az Tryz.func19 Z Tryz.ntmps19 Z λB ae c=>Sr<|Ef<|A0 ab 20 Z Z λaf a9 ao ap q=>Va (.bool false)<|AA<|AT<|Sr<|Vm<|have aq:=Ss Aq am q; ?_
 obtain ⟨b9,ca,ba⟩:=AW aq
 refine Vx (v:=I (g.length:Int)) (Ll Fs ba)<|Vx (Fd De Z)<|Vx (Ld EF Z (Bc ap Z))<|have ar:=Ss AZ an q; ?_
 obtain ⟨cb,cc,bb⟩:=AW ar
 refine Vx (v:=I (o.params.length:Int)) (Ll Df bb)<|Vr (.bool ((g.length:Int) != (o.params.length:Int)))<|AA<|Cn a (λbc a=>?_) λbc a=>?_
 refine Sr<|Va (.bool false)<|AA<|AS ?_
 obtain rfl:=AK a
 refine O1 B ae Z (.tmp Z)<|⟨af,Z,Ho (Mo [] q) ac⟩
 refine AR<|AT<|Sr<|Va (I 0)<|AA<|Ah<|Bj (λm ag ah=>∃r l e,ag=Env.puts r [(1,Sl w g y),(2,Pt ao 0),(5,I e)]/\In n o g m e=some ad/\AU [] af a9 l ah) n ?_ ?_
 exact ⟨_,af,0,Pu,a,Rf⟩
 rintro m _ ah ⟨r,l,e,rfl,a,p⟩
 rcases m with _|m
 exact A5 a
 refine have a:JE n o g (In n o g m) e=some ad:=a; ?_
 obtain ⟨bd,au⟩:∃s,s=In n o g m:=⟨_,rfl⟩
 rw [<-au,JE] at a
 refine AT<|Sr<|Vm<|Vm<|have av:=Ss Aq aq p; ?_
 obtain ⟨cd,cf,be⟩:=AW av
 refine Vx (v:=I (g.length:Int)) (Ll Fs be)<|Vr (.bool (decide (e< (g.length:Int))))<|AA<|Cn a (λbf a=>?_) λbf a=>?_
 refine AR<|AT<|Ah<|Am (λag aw=>∃r z ai,ag=Env.puts r [(1,Sl w g y),(2,Pt ao 0),(5,I e),(37,.bool ai)]/\L1 e bd ai=some ad/\AU [] l ah z aw) ?_ ?_
 refine BZ C7 (qs 0 17 (.one 17 (.q 18 (.q 19 .nil)))) [] [] l (by kernel_rfl) λaj u=>Qx c Z (v:=Sl w g y) (λ_ _=>Mv Z)<|Qx c Z (v:=I e) (λ_ _=>Mv Z)<|Bi a λh bg a=>have bh:=Ss Aq av u; ?_
 obtain ⟨bi,bj,cg,bk,ax,ay,az,bl,aa⟩:=A8 (κ:=Aq) bh bg
 replace aa:Ay l aj bi (bj+e.toNat*4) bk:=aa
 obtain ⟨a1,a2,rfl,a0⟩:=E1 (A1 bl)
 refine Qx c Z (λ_ _=>Ix Fs ax Z ay az)<|Qx c Z (λ_ _=>Fz JJ Z)<|Qx c Z (λ_ ⟨_,d⟩=>Ld Dl Z (Ay.cell0 (Es aa d) Z))<|Qx c Z (λ_ _=>Fd De Z)<|have bm:=Y2 ap p u;Qx c Z (λ_ ⟨_,d⟩=>Ld EF Z (Bc (Bs bm d) Z))<|Qx c Z (v:=I e) (λ_ _=>Mv Z)<|Bi a λa3 bn a=>have bo:=K2 AZ ar p u; ?_
 obtain ⟨bp,bq,ci,br,bt,bu,bv,bw,ak⟩:=A8 (κ:=AZ) bo bn
 replace ak:Ay l aj bp (bq+e.toNat*3) br:=ak
 obtain rfl:=EK bw
 refine Qx c Z (λ_ _=>Ix Df bt Z bu bv)<|Qx c Z (λ_ _=>Fd My Z)<|Qx c Z (λ_ ⟨_,d⟩=>Ld Dl Z (Ay.cell (k:=1) (Es ak d) Z))<|Qx c Z (v:=.bool (h.type_ != a3.type_)) (λ_ _=>Z)<|Qx c Z (v:=.bool (h.type_ != a3.type_)) (λ_ _=>Mv Z)<|Bo a (λf a=>?_) λf a=>?_
 refine Qp c Z f<|Qp c Z f<|Qp c Z f<|Qp c Z f<|A2 Z<|LY Z (.guard (t:=true) (b:=false) Z Z Z Z (Cb f)) Z Z<|⟨⟨_,Rf⟩,?_⟩
 refine Qp c Z f<|Qx c Z (v:=.bool true) (λ_ _=>(Pk f))<|CA<|⟨_,l,true,Pu,a,(Mo [] u)⟩
 refine Qg c Z f (v:=Sl w g y) (λ_ _=>Mv Z)<|Qg c Z f (v:=I e) (λ_ _=>Mv Z)<|Qg c Z f (λ_ _=>Ix Fs ax Z ay az)<|Qg c Z f (λ_ ⟨_,d⟩=>Lx B5 Z Z (Ay.part0 (Es aa d) [I h.type_,Cx h.num,.bool h.bool,Sl a1 h.list a2] Z))<|A2 Z<|Bi a λal bx a=>A4 Z (.guard (t:=false) (b:=false) Z Z Z Z (Cb f)) Z Z (Cg [Ag [I h.type_,Cx h.num,.bool h.bool,Sl a1 h.list a2]] Z)<|Calls.mono (LT n l aj bx (Ao (x:=h) a0)) ?_
 rintro _ cj ⟨bz,rfl,a4⟩
 refine ⟨_,Z,⟨_,(Mo [] a4)⟩,?_⟩
 refine Qg c Z f (v:=.bool (!al)) (λ_ _=>Z)<|Qx c Z (v:=.bool (!al)) (λ_ _=>(Pk f))<|CA<|⟨_,bz,(!al),Pu,a,(Tn (Mo [] u) a4)⟩
 rintro _ aw ⟨r,z,ai,rfl,a,a5⟩
 rw [L1] at a
 refine Cn a (λb0 a=>?_) λb0 a=>?_
 refine Sr<|Va (.bool false)<|AA<|AS ?_
 obtain rfl:=AK a
 refine O1 B ae Z (.tmp Z)<|⟨z,Z,Ho (T2 (Mo [] q) p a5) ac⟩
 refine AR<|AM<|Vm<|Vr (I (Wr (e+1)))<|Va (I (Wr (e+1)))<|AA<|⟨m,Nat.lt_succ_self m,_,z,(Wr (e+1)),Pu,(au▸a),(Tn (Mo [] p) a5)⟩
 refine BX<|Sr<|Va (.bool true)<|AA<|AS ?_
 obtain rfl:=AK a
 refine O1 B ae Z (.tmp Z)<|⟨l,Z,Ho (Tn (Mo [] q) p) ac⟩
theorem VA(c:Nat):G5.Spec (G5 c):=lk0 (UI c)
def H9.At(c:Col)(a:World)(f:AD->Option Th):Prop:=
 ∀{d e g},f d=some g->Aq.rep c.F a e d->
  Calls PG 35 #[Ag e] a λn h=>∃l m,n=.returned m/\AU [] c a l h/\RTh l.F h m g
def H9.Spec(f:AD->Option Th):Prop:=
 ∀a c,H9.At a c f
theorem Sf(ae:Nat)(p:Col)(av:World)(af:∀b,p b<10):H9.At p av (H9 ae):=by
 intro a bx ag c aw
 rw [H9] at c
 obtain ⟨r,u,rfl,q⟩:=E1 (A1 aw)
 refine Az Tryz.func35 Z Tryz.ntmps35 Z λB ah b0=>Sr<|Ef<|A0 p 20 Z Z λai b1 ax w m=>Va (.pointer none)<|AA<|AT<|Sr<|Vx (Fz JJ Z)<|Vx (Ld Dl Z (Bc w Z))<|Vr (.bool (a.type_ != 3))<|AA<|Cn c (λay c=>?_) λay c=>?_
 refine Sr<|Vx (Lx B5 Z Z (Bw w))<|Vx (v:=Ag [.bool true,.bool false,I a.type_,Cx a.num,.bool a.bool,Sl r a.list u,.pointer none,.pointer none,I 0,Sb ([]:Bts),Sb ([]:Bts),I 0,Cx (((0,0):Cpl)),.slice none 0 0,I 0,.pointer none]) (Bp Jm Jk Z (.cons Z Z Z (.cons Z Z Z .nil)))<|Ef<|A0 ai 21 Z Z λb2 b3 aj az ak=>Va (Pt aj 0)<|AA<|AS<|have a0:=K2 Kd.cpx q m ak; ?_
 obtain ⟨a1,a2,a3⟩:=RTh.layDone (hv:=.pointer none) (tv:=.pointer none) (cp:=[I a.type_,Cx a.num,.bool a.bool,Sl r a.list u]) (ce:=[I 0,Sb ([]:Bts),Sb ([]:Bts),I 0,Cx (((0,0):Cpl)),.slice none 0 0,I 0]) az dcd (Ao (x:=a) a0) (AY (x:=(AE.mk 0 ([]:Bts) ([]:Bts) 0 ((0,0):Cpl) [] 0)) Ba) RTh.nil RTh.nil
 obtain rfl:=AK c
 refine O1 B ah Z (.tmp Z)<|⟨a1,Pt aj 0,Z,Ho (T2 (Mo [21] m) ak a2) af,a3⟩
 refine AR<|Sr<|Vx (v:=Ag [I 3,Cx (((0,0):Cpl)),.bool false,.slice none 0 0]) (Bp Cm GK Z (.cons Z Z Z .nil))<|Vx (v:=Ag [.bool true,.bool false,I 3,Cx (((0,0):Cpl)),.bool false,.slice none 0 0,.pointer none,.pointer none,I 0,Sb ([]:Bts),Sb ([]:Bts),I 0,Cx (((0,0):Cpl)),.slice none 0 0,I 0,.pointer none]) (Bp Jm Jk Z (.cons Z Z Z (.cons Z Z Z .nil)))<|Ef<|A0 ai 22 Z Z λa4 a5 al a6 y=>Va (Pt al 0)<|AA<|AT<|Sr<|Vx (Fd DV Z)<|have am:=Bs w y;Vx (Ld HO Z (Bc am Z))<|have an:=K2 Kd.cpx q m y; ?_
 obtain ⟨b4,b5,a7⟩:=AW an
 refine Vx (v:=I (a.list.length:Int)) (Ll HB a7)<|Vr (I (Wr ((a.list.length:Int) - 1)))<|Va (I (Wr ((a.list.length:Int) - 1)))<|AA<|Ah<|Bj (λe a8 n=>∃ao g l f d,a8=Env.puts ao [(1,Pt ax 0),(3,f),(4,I d)]/\JF a e l d=some ag/\AU [22,23,24] a4 a5 g n/\RTh g.F n f l) ae ?_ ?_
 obtain ⟨a9,ba,bb⟩:=RTh.layDone (hv:=.pointer none) (tv:=.pointer none) (cp:=[I 3,Cx (((0,0):Cpl)),.bool false,.slice none 0 0]) (ce:=[I 0,Sb ([]:Bts),Sb ([]:Bts),I 0,Cx (((0,0):Cpl)),.slice none 0 0,I 0]) a6 dcd (Ao (x:=(AD.mk 3 ((0,0):Cpl) false [])) Ba) (AY (x:=(AE.mk 0 ([]:Bts) ([]:Bts) 0 ((0,0):Cpl) [] 0)) Ba) RTh.nil RTh.nil
 exact ⟨_,a9,(Th.done (AD.mk 3 ((0,0):Cpl) false []) Th.nil Th.nil),Pt al 0,(Wr ((a.list.length:Int) - 1)),Pu,c,(Mo [22,23,24] ba),bb⟩
 rintro e _ n ⟨ao,g,l,f,d,rfl,c,o,z⟩
 rcases e with _|e
 exact A5 c
 refine have c:Ki a (JF a e) l d=some ag:=c; ?_
 obtain ⟨b6,ap⟩:∃s,s=JF a e:=⟨_,rfl⟩
 rw [<-ap,Ki] at c
 refine AT<|Sr<|Vm<|Vr (.bool (decide (d>=0)))<|AA<|Cn c (λbc c=>?_) λbc c=>?_
 refine AR<|AT<|Ah<|Sr<|Vx (Fd DV Z)<|have bd:=Bs am o;Vx (Ld HO Z (Bc bd Z))<|Vm<|Bi c λh be c=>have bf:=Ss Kd.cpx an o; ?_
 obtain ⟨bg,bh,b7,aq,bi,bj,bk,bl,aa⟩:=A8 (κ:=Kd.cpx) bf be
 replace aa:Ay g n bg (bh+d.toNat*1) aq:=aa
 obtain rfl:=(show aq=[Cx h] from bl)
 refine Vx (Ix HB bi Z bj bk)<|Vx (Ld Gc Z (Ay.cell0 aa Z))<|Vx (v:=Ag [I 1,Cx h,.bool false,.slice none 0 0]) (Bp Cm GK Z (.cons Z Z Z (.cons Z Z Z .nil)))<|Vx (v:=Ag [.bool true,.bool false,I 1,Cx h,.bool false,.slice none 0 0,.pointer none,.pointer none,I 0,Sb ([]:Bts),Sb ([]:Bts),I 0,Cx (((0,0):Cpl)),.slice none 0 0,I 0,.pointer none]) (Bp Jm Jk Z (.cons Z Z Z (.cons Z Z Z .nil)))<|Ef<|A0 g 23 Z Z λbm b8 ab bn ar=>Va (Pt ab 0)<|AA<|AM<|Vm<|Vm<|Vx (v:=Ag [.bool true,.bool true,I 0,Cx (((0,0):Cpl)),.bool false,.slice none 0 0,Pt ab 0,f,I 0,Sb ([]:Bts),Sb ([]:Bts),I 0,Cx (((0,0):Cpl)),.slice none 0 0,I 0,.pointer none]) (Bp Jm Jk Z (.cons Z Z Z (.cons Z Z Z (.cons Z Z Z (.cons Z (Dq (RTh.one z)) Z .nil)))))<|Ef<|A0 bm 24 Z Z λb9 ca au bo ac=>Va (Pt au 0)<|AA<|AM<|Vm<|Vr (I (Wr (d - 1)))<|Va (I (Wr (d - 1)))<|AA<|have bp:=Bs bn ac; ?_
 obtain ⟨cb,ad,bq⟩:=RTh.layDone (hv:=.pointer none) (tv:=.pointer none) (cp:=[I 1,Cx h,.bool false,.slice none 0 0]) (ce:=[I 0,Sb ([]:Bts),Sb ([]:Bts),I 0,Cx (((0,0):Cpl)),.slice none 0 0,I 0]) bp dcd (Ao (x:=(AD.mk 1 h false [])) Ba) (AY (x:=(AE.mk 0 ([]:Bts) ([]:Bts) 0 ((0,0):Cpl) [] 0)) Ba) RTh.nil RTh.nil
 refine have br:=Bs bo ad;have bt:=RTh.step (RTh.step (RTh.step z ar dcd) ac dcd) ad dcd; ?_
 obtain ⟨bu,bv,bw⟩:=RTh.layDone (hv:=Pt ab 0) (tv:=f) (cp:=[I 0,Cx (((0,0):Cpl)),.bool false,.slice none 0 0]) (ce:=[I 0,Sb ([]:Bts),Sb ([]:Bts),I 0,Cx (((0,0):Cpl)),.slice none 0 0,I 0]) br dcd (Ao (x:=(AD.mk 0 ((0,0):Cpl) false [])) Ba) (AY (x:=(AE.mk 0 ([]:Bts) ([]:Bts) 0 ((0,0):Cpl) [] 0)) Ba) bq bt
 exact ⟨e,Nat.lt_succ_self e,_,bu,(Th.done (AD.mk 0 ((0,0):Cpl) false []) (Th.done (AD.mk 1 h false []) Th.nil Th.nil) l),Pt au 0,(Wr (d - 1)),Pu,(ap▸c),(T4 (Mo [22,23,24] o) ar ac ad bv),bw⟩
 refine BX<|Sr<|Vm<|Va f<|AA<|AS ?_
 obtain rfl:=AK c
 refine O1 B ah Z (.tmp Z)<|⟨g,f,Z,Ho (T2 (Mo [22,23,24] m) y o) af,z⟩
theorem UJ(c:Nat):H9.Spec (H9 c):=by
 intro a d o p q e f
 refine Calls.mono (Sf c (recol (see []) a) d (E9 (Nat.le_of_ble_eq_true Z) a) e (Bd Aq f [])) ?_
 rintro r s ⟨g,h,l,m,n⟩
 exact ⟨glue [] d a g,h,l,B8 m Mw,RTh.glue n⟩
def Dc.At(G1 G2:Prop)(e:Col)(a:World)(f:AX->Int->Option (Th×AX))(g:Nat):Prop:=
 ∀{h m n o l},f m o=some l->G1->G2->Bk e a g h n 101->B1.rep e.F a n m->
  Calls PG 60 #[Pt h 0,I o] a λr c=>∃d p q,r=.returned p/\AU [g] e a d c/\RTh d.F c p l.1/\Bk d c g h q 101/\B1.rep d.F c q l.2
def Dc.Spec(f:AX->Int->Option (Th×AX)):Prop:=
 ∀c d {a},Dc.At ([a].Nodup) (0∉[a]) c d f a
theorem OW(d:Col)(n:World)(w:∀b,d b<10):Dc.At True True d n Dc 1:=by
 intro y a an z aa c _ _ g ab
 rw [Dc] at c
 obtain ⟨p,q,rfl,o⟩:=E1 (BT ab)
 refine Az Tryz.func60 Z Tryz.ntmps60 Z λB ac ap=>Sr<|Va (.pointer none)<|AA<|Am (λad h=>∃r f e,ad=Env.puts r []/\JM a e=some aa/\AU [1] d n f h/\Bk f h 1 y [Sl p a.p.funcs q,I a.most,I a.cost,I e] 101) ?_ ?_
 refine Sr<|Vm<|Vx (Nc Z)<|Vx (Fd Ks Z)<|Vx (Ld BC Z (Bc g Z))<|Vr (.bool (a.why==0))<|AA<|Cn c (λae c=>?_) λae c=>?_
 refine AM<|Vm<|Vm<|Vx (Nc Z)<|Vx (Fd Ks Z)<|Eu<|St Mz g Z Z Z Z λaq af ag=>AA<|⟨_,d,z,Pu,c,(Mo [1] ag),af⟩
 refine AR<|⟨_,d,a.why,Pu,c,(AU.refl [1] _ _),g⟩
 rintro _ h ⟨r,f,e,rfl,c,s,ah⟩
 rw [JM] at c
 refine Sr<|Vx (v:=Ag [.bool false,.bool false,I 0,Cx (((0,0):Cpl)),.bool false,.slice none 0 0,.pointer none,.pointer none,I 0,Sb ([]:Bts),Sb ([]:Bts),I 0,Cx (((0,0):Cpl)),.slice none 0 0,I 0,.pointer none]) (Bp Jm Jk Z .nil)<|Ef<|A0 f 20 Z Z λar au u ai l=>Va (Pt u 0)<|AA<|AS ?_
 obtain ⟨aj,m,ak⟩:=RTh.layLater (cp:=[I 0,Cx (((0,0):Cpl)),.bool false,.slice none 0 0]) (ce:=[I 0,Sb ([]:Bts),Sb ([]:Bts),I 0,Cx (((0,0):Cpl)),.slice none 0 0,I 0]) ai dcd (Ao (x:=(AD.mk 0 ((0,0):Cpl) false [])) Ba) (AY (x:=(AE.mk 0 ([]:Bts) ([]:Bts) 0 ((0,0):Cpl) [] 0)) Ba) RNm.nil
 obtain rfl:=AK c
 refine O1 B ac Z (.tmp Z)<|have al:=Y2 ah l m;have am:=K3 AI o s l m;⟨aj,Pt u 0,[Sl p a.p.funcs q,I a.most,I a.cost,I e],Z,Ho (T2 (Mo [1,20] s) l m) w,ak,al,(Aw (x:=(AX.mk (AL.mk a.p.funcs) a.most a.cost e)) am)⟩
theorem Ku:Dc.Spec Dc:=by
 intro c d a s u w y z f hnd hnz e g
 refine Calls.mono (OW (recol (see [a]) c) d (E9 (Nat.le_of_ble_eq_true Z) c) f trivial trivial (BY e [a] (BU hnd hnz (i:=0) Z)) (Bd B1 g [a])) ?_
 rintro aa ab ⟨h,l,m,n,o,p,q,r⟩
 exact ⟨glue [a] d c h,l,m,n,B8 o (E4 Z Z),RTh.glue p,EJ e q dcd,ED B1 r⟩
def GY.At(c:Col)(a:World)(f:Nm->Bts->Option Th):Prop:=
 ∀{d v0 e g},f d e=some g->RNm c.F a v0 d->
  Calls PG 61 #[v0,Sb e] a λn h=>∃l m,n=.returned m/\AU [] c a l h/\RTh l.F h m g
def GY.Spec(f:Nm->Bts->Option Th):Prop:=
 ∀a c,GY.At a c f
theorem Sg(r:Nat)(g:Col)(u:World)(ab:∀b,g b<10):GY.At g u (GY r):=by
 intro ac v0 d w a ad
 rw [GY] at a
 refine Az Tryz.func61 Z Tryz.ntmps61 Z λB ae am=>Sr<|Va (.pointer none)<|AA<|AT<|Ah<|Bj (λc af h=>∃y e l m,af=Env.puts y [(0,m),(1,Sb d)]/\G6 d c l=some w/\AU [] g u e h/\RNm e.F h m l) r ?_ ?_
 exact ⟨_,g,ac,v0,Pu,a,Rf,ad⟩
 rintro c _ h ⟨y,e,l,m,rfl,a,z,ag⟩
 rcases c with _|c
 exact A5 a
 refine have a:M5 d (G6 d c) l=some w:=a; ?_
 obtain ⟨an,aa⟩:∃s,s=G6 d c:=⟨_,rfl⟩
 rw [<-aa,M5] at a
 refine AT<|Sr<|Vm<|Bi a λn ah a=>?_
 obtain ⟨ai,o,p,q,f,aj,ak⟩:=RNm.el ag ah
 replace f:Ay e h ai 0 [Sb n.1,o,p]:=f
 refine Vx (Nc q)<|Vx (Fz Yn Z)<|Vx (Ld B7 Z (Ay.cell0 f Z))<|Vm<|Vx (v:=.bool (!(n.1==d))) (Run.strNe Z Z)<|AA<|Cn a (λal a=>?_) λal a=>?_
 refine AR<|Ah<|AM<|Vm<|Vx (Nc q)<|Vx (Fd Yo Z)<|Vx (Ld YF Z (Ay.cell (k:=2) f Z))<|Va p<|AA<|⟨c,Nat.lt_succ_self c,_,e,n.2.2,p,Pu,(aa▸a),(Mo [] z),ak⟩
 refine BX<|Sr<|Vm<|Vx (Nc q)<|Vx (Fd VR Z)<|Vx (Ld Px Z (Ay.cell (k:=1) f Z))<|Va o<|AA<|AS ?_
 obtain rfl:=AK a
 refine O1 B ae Z (.tmp Z)<|⟨e,o,Z,Ho (Mo [] z) ab,aj⟩
theorem UK(c:Nat):GY.Spec (GY c):=by
 intro a d o v0 p q e f
 refine Calls.mono (Sg c (recol (see []) a) d (E9 (Nat.le_of_ble_eq_true Z) a) e (RNm.recol f [])) ?_
 rintro r s ⟨g,h,l,m,n⟩
 exact ⟨glue [] d a g,h,l,B8 m Mw,RTh.glue n⟩
def HL.At(e:Col)(c:World)(f:Int->Option (Int×Int)):Prop:=
 ∀{d a},f d=some a->
  Calls PG 119 #[I d] c λg h=>∃l,g=.returned (.tuple #[I a.1,I a.2])/\AU [] e c l h
def HL.Spec(f:Int->Option (Int×Int)):Prop:=
 ∀a c,HL.At a c f
theorem Si(d:Col)(r:World)(g:∀b,d b<10):HL.At d r HL:=by
 intro c s a
 rw [HL] at a
 refine Az Tryz.func119 Z Tryz.ntmps119 Z λB h ai=>Sr<|Va (I 0)<|Va (I 0)<|AA<|AT<|Sr<|Vm<|AA<|Ah<|Am (λn o=>∃f e p,n=Env.puts f [(4,I c),(5,.bool p)]/\IA c p=some s/\AU [] d r e o) ?_ ?_
 refine Sr<|Vr (.bool (c==8))<|Va (.bool (c==8))<|AA<|Cn a (λy a=>?_) λy a=>?_
 refine AR<|⟨_,d,(c==8),Pu,a,Rf⟩
 refine Sr<|Vr (.bool (c==9))<|Va (.bool (c==9))<|AA<|Cn a (λz a=>?_) λz a=>?_
 refine AR<|⟨_,d,(c==9),Pu,a,Rf⟩
 refine Sr<|Vr (.bool (c==10))<|Va (.bool (c==10))<|AA<|Cn a (λaa a=>?_) λaa a=>?_
 refine AR<|⟨_,d,(c==10),Pu,a,Rf⟩
 refine Sr<|Vr (.bool (c==11))<|Va (.bool (c==11))<|AA<|Cn a (λab a=>?_) λab a=>?_
 refine AR<|⟨_,d,(c==11),Pu,a,Rf⟩
 refine Sr<|Vr (.bool (c==12))<|Va (.bool (c==12))<|AA<|Cn a (λac a=>?_) λac a=>?_
 refine AR<|⟨_,d,(c==12),Pu,a,Rf⟩
 refine AM<|Vr (.bool (c==13))<|Va (.bool (c==13))<|AA<|⟨_,d,(c==13),Pu,a,Rf⟩
 rintro _ o ⟨f,e,p,rfl,a,l⟩
 rw [IA] at a
 refine Cn a (λad a=>?_) λad a=>?_
 refine Sr<|Va (I 2)<|Va (I 1)<|AA<|AS ?_
 obtain rfl:=AK a
 refine O2 B h Z (.tmp Z) (.tmp Z)<|⟨e,Z,Ho (Mo [] l) g⟩
 refine Sr<|Vr (.bool (c==14))<|Va (.bool (c==14))<|AA<|Cn a (λae a=>?_) λae a=>?_
 refine Sr<|Va (I 1)<|Va (I 2)<|AA<|AS ?_
 obtain rfl:=AK a
 refine O2 B h Z (.tmp Z) (.tmp Z)<|⟨e,Z,Ho (Mo [] l) g⟩
 refine Am (λn u=>∃f m q,n=Env.puts f [(14,.bool q)]/\LL q=some s/\AU [] e o m u) ?_ ?_
 refine Sr<|Vr (.bool (c==15))<|Va (.bool (c==15))<|AA<|Cn a (λaf a=>?_) λaf a=>?_
 refine AR<|⟨_,e,(c==15),Pu,a,Rf⟩
 refine Sr<|Vr (.bool (c==16))<|Va (.bool (c==16))<|AA<|Cn a (λag a=>?_) λag a=>?_
 refine AR<|⟨_,e,(c==16),Pu,a,Rf⟩
 refine AM<|Vr (.bool (c==17))<|Va (.bool (c==17))<|AA<|⟨_,e,(c==17),Pu,a,Rf⟩
 rintro _ u ⟨f,m,q,rfl,a,w⟩
 rw [LL] at a
 refine Cn a (λah a=>?_) λah a=>?_
 refine Sr<|Va (I 1)<|Va (I 1)<|AA<|AS ?_
 obtain rfl:=AK a
 refine O2 B h Z (.tmp Z) (.tmp Z)<|⟨m,Z,Ho (Tn (Mo [] l) w) g⟩
 refine AR<|Sr<|Va (I 0)<|Va (I 0)<|AA<|AS ?_
 obtain rfl:=AK a
 refine O2 B h Z (.tmp Z) (.tmp Z)<|⟨m,Z,Ho (Tn (Mo [] l) w) g⟩
theorem UL:HL.Spec HL:=lk0 (Si)
def JX.At(c:Col)(a:World)(f:Af->Af->Option (Af×Int)):Prop:=
 ∀{e g h l d},f e h=some d->Bm.rep c.F a g e->Bm.rep c.F a l h->
  Calls PG 121 #[Ag g,Ag l] a λp m=>∃n o,p=.returned (.tuple #[Ag o,I d.2])/\AU [] c a n m/\Bm.rep n.F m o d.1
def JX.Spec(f:Af->Af->Option (Af×Int)):Prop:=
 ∀a c,JX.At a c f
theorem VB(f:Col)(o:World)(p:∀b,f b<10):JX.At f o JX:=by
 intro c ak d al am e q r
 rw [JX] at e
 obtain rfl:=A7 q
 obtain rfl:=A7 r
 refine Az Tryz.func121 Z Tryz.ntmps121 Z λB s an=>Sr<|Ef<|A0 f 20 Z Z λu ao ap w y=>Ef<|A0 u 21 Z Z λz aq ar aa h=>Ef<|Aa z 22 Eg Z λab ac au ad g=>Va (I 0)<|AA<|Sr<|Vx (Fz DX Z)<|have l:=Y2 w h g;Vx (Ld BC Z (Bc l Z))<|Vx (Fz DX Z)<|have m:=Bs aa g;Vx (Ld BC Z (Bc m Z))<|Vr (I (Wr (c.re+d.re)))<|Vx (Fd DY Z)<|Vx (Ld BC Z (Bc l Z))<|Vx (Fd DY Z)<|Vx (Ld BC Z (Bc m Z))<|Vr (I (Wr (c.im+d.im)))<|Vx (v:=Ag [I (Wr (c.re+d.re)),I (Wr (c.im+d.im))]) (Bp Eg KY Z (.cons Z Z Z (.cons Z Z Z .nil)))<|Bi e λa ae e=>Ca (Cg [Ag [I (Wr (c.re+d.re)),I (Wr (c.im+d.im))]] Z) (M1 ab ac ae (BE (x:=(Af.mk (Wr (c.re+d.re)) (Wr (c.im+d.im)))))) ?_
 rintro _ av ⟨af,aw,rfl,n,ag⟩
 obtain rfl:=A7 ag
 refine Vr (Ag [I a.1.re,I a.1.im])<|Vr (I a.2)<|have ah:=Bs ad n;Eu<|St HP ah Z Z Z Z λax ai aj=>Va (I a.2)<|AA<|AS ?_
 obtain rfl:=AK e
 refine O2 B s Z (.agg EC Z Z (Bw ai)) (.tmp Z)<|⟨af,[I a.1.re,I a.1.im],Z,Ho (T4 (Mo [22] y) h g n aj) p,(BE (x:=a.1))⟩
theorem WU:JX.Spec JX:=lk0 (VB)
def Cf.At(d:Col)(a:World)(f:Af->Int->Option (AD×Int)):Prop:=
 ∀{e g h c},f e h=some c->Bm.rep d.F a g e->
  Calls PG 120 #[Ag g,I h] a λo l=>∃m n,o=.returned (.tuple #[Ag n,I c.2])/\AU [] d a m l/\Aq.rep m.F l n c.1
def Cf.Spec(f:Af->Int->Option (AD×Int)):Prop:=
 ∀a c,Cf.At a c f
theorem Rg(e:Col)(q:World)(g:∀b,e b<10):Cf.At e q Cf:=by
 intro c ah h ai a r
 rw [Cf] at a
 obtain rfl:=A7 r
 refine Az Tryz.func120 Z Tryz.ntmps120 Z λB l aj=>Sr<|Ef<|A0 e 20 Z Z λs ak al u m=>Ef<|Aa s 21 Cm Z λn w am o f=>Va (I 0)<|AA<|AT<|Sr<|Vm<|Vr (.bool (h != 0))<|AA<|Cn a (λy a=>?_) λy a=>?_
 refine Sr<|Vx (v:=Ag [I 0,Cx (((0,0):Cpl)),.bool false,.slice none 0 0]) (Bp Cm GK Z .nil)<|Vm<|Eu<|St DN o Z Z Z Z λan z aa=>Va (I h)<|AA<|AS ?_
 obtain rfl:=AK a
 refine O2 B l Z (.agg B5 Z Z (Bw z)) (.tmp Z)<|⟨n,[I 0,Cx (((0,0):Cpl)),.bool false,.slice none 0 0],Z,Ho (T2 (Mo [21] m) f aa) g,(Ao (x:=(AD.mk 0 ((0,0):Cpl) false [])) Ba)⟩
 refine AR<|Sr<|have ab:=Bs u f;Vx (Lx EC Z Z (Bw ab))<|Bi a λd ac a=>Ca (Cg [Ag [I c.re,I c.im]] Z) (MY n w ac (BE (x:=c))) ?_
 rintro _ ao ⟨ad,rfl,p⟩
 refine Vx (v:=Ag [I 1,Cx d,.bool false,.slice none 0 0]) (Bp Cm GK Z (.cons Z Z Z (.cons Z Z Z .nil)))<|have ae:=Bs o p;Eu<|St DN ae Z Z Z Z λap af ag=>Va (I 0)<|AA<|AS ?_
 obtain rfl:=AK a
 refine O2 B l Z (.agg B5 Z Z (Bw af)) (.tmp Z)<|⟨ad,[I 1,Cx d,.bool false,.slice none 0 0],Z,Ho (T3 (Mo [21] m) f p ag) g,(Ao (x:=(AD.mk 1 d false [])) Ba)⟩
theorem IU:Cf.Spec Cf:=lk0 (Rg)
def JY.At(c:Col)(a:World)(f:Af->Af->Option (Af×Int)):Prop:=
 ∀{e g h l d},f e h=some d->Bm.rep c.F a g e->Bm.rep c.F a l h->
  Calls PG 122 #[Ag g,Ag l] a λp m=>∃n o,p=.returned (.tuple #[Ag o,I d.2])/\AU [] c a n m/\Bm.rep n.F m o d.1
def JY.Spec(f:Af->Af->Option (Af×Int)):Prop:=
 ∀a c,JY.At a c f
theorem VC(f:Col)(o:World)(p:∀b,f b<10):JY.At f o JY:=by
 intro c ak d al am e q r
 rw [JY] at e
 obtain rfl:=A7 q
 obtain rfl:=A7 r
 refine Az Tryz.func122 Z Tryz.ntmps122 Z λB s an=>Sr<|Ef<|A0 f 20 Z Z λu ao ap w y=>Ef<|A0 u 21 Z Z λz aq ar aa h=>Ef<|Aa z 22 Eg Z λab ac au ad g=>Va (I 0)<|AA<|Sr<|Vx (Fz DX Z)<|have l:=Y2 w h g;Vx (Ld BC Z (Bc l Z))<|Vx (Fz DX Z)<|have m:=Bs aa g;Vx (Ld BC Z (Bc m Z))<|Vr (I (Wr (c.re - d.re)))<|Vx (Fd DY Z)<|Vx (Ld BC Z (Bc l Z))<|Vx (Fd DY Z)<|Vx (Ld BC Z (Bc m Z))<|Vr (I (Wr (c.im - d.im)))<|Vx (v:=Ag [I (Wr (c.re - d.re)),I (Wr (c.im - d.im))]) (Bp Eg KY Z (.cons Z Z Z (.cons Z Z Z .nil)))<|Bi e λa ae e=>Ca (Cg [Ag [I (Wr (c.re - d.re)),I (Wr (c.im - d.im))]] Z) (M1 ab ac ae (BE (x:=(Af.mk (Wr (c.re - d.re)) (Wr (c.im - d.im)))))) ?_
 rintro _ av ⟨af,aw,rfl,n,ag⟩
 obtain rfl:=A7 ag
 refine Vr (Ag [I a.1.re,I a.1.im])<|Vr (I a.2)<|have ah:=Bs ad n;Eu<|St HP ah Z Z Z Z λax ai aj=>Va (I a.2)<|AA<|AS ?_
 obtain rfl:=AK e
 refine O2 B s Z (.agg EC Z Z (Bw ai)) (.tmp Z)<|⟨af,[I a.1.re,I a.1.im],Z,Ho (T4 (Mo [22] y) h g n aj) p,(BE (x:=a.1))⟩
theorem WV:JY.Spec JY:=lk0 (VC)
def JZ.At(c:Col)(a:World)(f:Af->Af->Option (Af×Int)):Prop:=
 ∀{e g h l d},f e h=some d->Bm.rep c.F a g e->Bm.rep c.F a l h->
  Calls PG 123 #[Ag g,Ag l] a λp m=>∃n o,p=.returned (.tuple #[Ag o,I d.2])/\AU [] c a n m/\Bm.rep n.F m o d.1
def JZ.Spec(f:Af->Af->Option (Af×Int)):Prop:=
 ∀a c,JZ.At a c f
theorem VD(h:Col)(o:World)(p:∀b,h b<10):JZ.At h o JZ:=by
 intro a ak c al am e q r
 rw [JZ] at e
 obtain rfl:=A7 q
 obtain rfl:=A7 r
 refine Az Tryz.func123 Z Tryz.ntmps123 Z λB s an=>Sr<|Ef<|A0 h 20 Z Z λu ao ap w y=>Ef<|A0 u 21 Z Z λz aq ar aa m=>Ef<|Aa z 22 Eg Z λab ac au ad l=>Va (I 0)<|AA<|Sr<|Vx (Fz DX Z)<|have f:=Y2 w m l;Vx (Ld BC Z (Bc f Z))<|Vx (Fz DX Z)<|have g:=Bs aa l;Vx (Ld BC Z (Bc g Z))<|Vr (I (Wr (a.re*c.re)))<|Vx (Fd DY Z)<|Vx (Ld BC Z (Bc f Z))<|Vx (Fd DY Z)<|Vx (Ld BC Z (Bc g Z))<|Vr (I (Wr (a.im*c.im)))<|Vr (I (Wr ((Wr (a.re*c.re)) - (Wr (a.im*c.im)))))<|Vx (Fz DX Z)<|Vx (Ld BC Z (Bc f Z))<|Vx (Fd DY Z)<|Vx (Ld BC Z (Bc g Z))<|Vr (I (Wr (a.re*c.im)))<|Vx (Fd DY Z)<|Vx (Ld BC Z (Bc f Z))<|Vx (Fz DX Z)<|Vx (Ld BC Z (Bc g Z))<|Vr (I (Wr (a.im*c.re)))<|Vr (I (Wr ((Wr (a.re*c.im))+(Wr (a.im*c.re)))))<|Vx (v:=Ag [I (Wr ((Wr (a.re*c.re)) - (Wr (a.im*c.im)))),I (Wr ((Wr (a.re*c.im))+(Wr (a.im*c.re))))]) (Bp Eg KY Z (.cons Z Z Z (.cons Z Z Z .nil)))<|Bi e λd ae e=>Ca (Cg [Ag [I (Wr ((Wr (a.re*c.re)) - (Wr (a.im*c.im)))),I (Wr ((Wr (a.re*c.im))+(Wr (a.im*c.re))))]] Z) (M1 ab ac ae (BE (x:=(Af.mk (Wr ((Wr (a.re*c.re)) - (Wr (a.im*c.im)))) (Wr ((Wr (a.re*c.im))+(Wr (a.im*c.re)))))))) ?_
 rintro _ av ⟨af,aw,rfl,n,ag⟩
 obtain rfl:=A7 ag
 refine Vr (Ag [I d.1.re,I d.1.im])<|Vr (I d.2)<|have ah:=Bs ad n;Eu<|St HP ah Z Z Z Z λax ai aj=>Va (I d.2)<|AA<|AS ?_
 obtain rfl:=AK e
 refine O2 B s Z (.agg EC Z Z (Bw ai)) (.tmp Z)<|⟨af,[I d.1.re,I d.1.im],Z,Ho (T4 (Mo [22] y) m l n aj) p,(BE (x:=d.1))⟩
theorem WW:JZ.Spec JZ:=lk0 (VD)
def Ja.At(c:Col)(a:World)(f:Af->Af->Option (Af×Int)):Prop:=
 ∀{e g h l d},f e h=some d->Bm.rep c.F a g e->Bm.rep c.F a l h->
  Calls PG 124 #[Ag g,Ag l] a λp m=>∃n o,p=.returned (.tuple #[Ag o,I d.2])/\AU [] c a n m/\Bm.rep n.F m o d.1
def Ja.Spec(f:Af->Af->Option (Af×Int)):Prop:=
 ∀a c,Ja.At a c f
theorem VE(u:Col)(ah:World)(z:∀b,u b<10):Ja.At u ah Ja:=by
 intro c a8 a a9 ai d aj ak
 rw [Ja] at d
 obtain rfl:=A7 aj
 obtain rfl:=A7 ak
 refine Az Tryz.func124 Z Tryz.ntmps124 Z λB aa g=>Sr<|Ef<|A0 u 20 Z Z λal ba bb am ab=>Ef<|A0 al 21 Z Z λan bc bd ao w=>Ef<|Aa an 22 Eg Z λo ap aq ac p=>Va (I 0)<|AA<|Sr<|Vx (Fz DX Z)<|have m:=Bs ao p;Vx (Ld BC Z (Bc m Z))<|Vx (Fz DX Z)<|Vx (Ld BC Z (Bc m Z))<|Vr (I (Wr (a.re*a.re)))<|Vx (Fd DY Z)<|Vx (Ld BC Z (Bc m Z))<|Vx (Fd DY Z)<|Vx (Ld BC Z (Bc m Z))<|Vr (I (Wr (a.im*a.im)))<|Vr (I (Wr ((Wr (a.re*a.re))+(Wr (a.im*a.im)))))<|Va (I (Wr ((Wr (a.re*a.re))+(Wr (a.im*a.im)))))<|AA<|Sr<|Vx (Fz DX Z)<|have q:=Y2 am w p;Vx (Ld BC Z (Bc q Z))<|Vx (Fz DX Z)<|Vx (Ld BC Z (Bc m Z))<|Vr (I (Wr (c.re*a.re)))<|Vx (Fd DY Z)<|Vx (Ld BC Z (Bc q Z))<|Vx (Fd DY Z)<|Vx (Ld BC Z (Bc m Z))<|Vr (I (Wr (c.im*a.im)))<|Vr (I (Wr ((Wr (c.re*a.re))+(Wr (c.im*a.im)))))<|Va (I (Wr ((Wr (c.re*a.re))+(Wr (c.im*a.im)))))<|AA<|Sr<|Vx (Fd DY Z)<|Vx (Ld BC Z (Bc q Z)) ?_
 refine Vx (Fz DX Z)<|Vx (Ld BC Z (Bc m Z))<|Vr (I (Wr (c.im*a.re)))<|Vx (Fz DX Z)<|Vx (Ld BC Z (Bc q Z))<|Vx (Fd DY Z)<|Vx (Ld BC Z (Bc m Z))<|Vr (I (Wr (c.re*a.im)))<|Vr (I (Wr ((Wr (c.im*a.re)) - (Wr (c.re*a.im)))))<|Va (I (Wr ((Wr (c.im*a.re)) - (Wr (c.re*a.im)))))<|AA<|AT<|Am (λar ad=>∃ae n y,ar=Env.puts ae [(4,Pt aq 0),(6,I (Wr ((Wr (a.re*a.re))+(Wr (a.im*a.im))))),(7,I (Wr ((Wr (c.re*a.re))+(Wr (c.im*a.im))))),(8,I (Wr ((Wr (c.im*a.re)) - (Wr (c.re*a.im))))),(55,.bool y)]/\Lg c a y=some ai/\AU [] o ap n ad) ?_ ?_
 refine AM<|Vm<|Vr (.bool ((Wr ((Wr (a.re*a.re))+(Wr (a.im*a.im))))==0))<|Vm<|Bo d (λe d=>?_) λe d=>?_
 refine Pg e<|Pg e<|Pg e<|Pg e<|Vp e<|Vm<|Pg Z<|Pg Z<|Pg Z<|Pg Z<|Vr (.bool true)<|AA<|⟨_,o,true,Pu,d,Rf⟩
 refine Gm e<|Gm e<|Bi d λbe au d=>Gx e (v:=I ((IntKind.i64.wrap ((Wr (c.re*a.re))+(Wr (c.im*a.im)))).tmod (Wr ((Wr (a.re*a.re))+(Wr (a.im*a.im)))))) (Run.rem Z Z (Pr au))<|Gr e (.bool (((IntKind.i64.wrap ((Wr (c.re*a.re))+(Wr (c.im*a.im)))).tmod (Wr ((Wr (a.re*a.re))+(Wr (a.im*a.im))))) != 0))<|Vp e<|Vm<|Bo d (λf d=>?_) λf d=>?_
 refine Pg f<|Pg f<|Pg f<|Pg f<|Vp f<|AA<|⟨_,o,true,Pu,d,Rf⟩
 refine Gm f<|Gm f<|Bi d λbf av d=>Gx f (v:=I ((IntKind.i64.wrap ((Wr (c.im*a.re)) - (Wr (c.re*a.im)))).tmod (Wr ((Wr (a.re*a.re))+(Wr (a.im*a.im)))))) (Run.rem Z Z (Pr av))<|Gr f (.bool (((IntKind.i64.wrap ((Wr (c.im*a.re)) - (Wr (c.re*a.im)))).tmod (Wr ((Wr (a.re*a.re))+(Wr (a.im*a.im))))) != 0))<|Vp f<|AA<|⟨_,o,(((IntKind.i64.wrap ((Wr (c.im*a.re)) - (Wr (c.re*a.im)))).tmod (Wr ((Wr (a.re*a.re))+(Wr (a.im*a.im))))) != 0),Pu,d,Rf⟩
 rintro _ ad ⟨ae,n,y,rfl,d,r⟩
 rw [Lg] at d
 refine Cn d (λaw d=>?_) λaw d=>?_
 refine Sr<|Vx (v:=Ag [I 0,I 0]) (Bp Eg KY Z .nil)<|have ax:=Bs ac r;Eu<|St HP ax Z Z Z Z λbg ay az=>Va (I 51)<|AA<|AS ?_
 obtain rfl:=AK d
 refine O2 B aa Z (.agg EC Z Z (Bw ay)) (.tmp Z)<|⟨n,[I 0,I 0],Z,Ho (T4 (Mo [22] ab) w p r az) z,(BE (x:=(Af.mk 0 0)))⟩
 refine AR<|AT<|BZ C7 (qs 0 7 (.one 7 (.q 8 (.q 9 (.one 10 (.q 11 .nil)))))) [] [22] n (by kernel_rfl) λa0 af=>Qx g Z (v:=I (Wr ((Wr (c.re*a.re))+(Wr (c.im*a.im))))) (λ_ _=>Mv Z)<|Qx g Z (v:=I (Wr ((Wr (a.re*a.re))+(Wr (a.im*a.im))))) (λ_ _=>Mv Z)<|Bi d λbh a1 d=>Qx g Z (v:=I (Wr ((IntKind.i64.wrap ((Wr (c.re*a.re))+(Wr (c.im*a.im)))).tdiv (Wr ((Wr (a.re*a.re))+(Wr (a.im*a.im))))))) (λ_ _=>(Run.quo Z Z (Pr a1)))<|Qx g Z (v:=I (Wr ((Wr (c.im*a.re)) - (Wr (c.re*a.im))))) (λ_ _=>Mv Z)<|Qx g Z (v:=I (Wr ((Wr (a.re*a.re))+(Wr (a.im*a.im))))) (λ_ _=>Mv Z)<|Bi d λbi a2 d=>Qx g Z (v:=I (Wr ((IntKind.i64.wrap ((Wr (c.im*a.re)) - (Wr (c.re*a.im)))).tdiv (Wr ((Wr (a.re*a.re))+(Wr (a.im*a.im))))))) (λ_ _=>(Run.quo Z Z (Pr a2)))<|Qx g Z (v:=Ag [I (Wr ((IntKind.i64.wrap ((Wr (c.re*a.re))+(Wr (c.im*a.im)))).tdiv (Wr ((Wr (a.re*a.re))+(Wr (a.im*a.im)))))),I (Wr ((IntKind.i64.wrap ((Wr (c.im*a.re)) - (Wr (c.re*a.im)))).tdiv (Wr ((Wr (a.re*a.re))+(Wr (a.im*a.im))))))]) (λ_ _=>CK (cs:=[I (Wr ((IntKind.i64.wrap ((Wr (c.re*a.re))+(Wr (c.im*a.im)))).tdiv (Wr ((Wr (a.re*a.re))+(Wr (a.im*a.im)))))),I (Wr ((IntKind.i64.wrap ((Wr (c.im*a.re)) - (Wr (c.re*a.im)))).tdiv (Wr ((Wr (a.re*a.re))+(Wr (a.im*a.im))))))]) [I 0,I 0] Eg KY Z (.cons Z Z Z (.cons Z Z Z .nil)) Z Z)<|A2 Z<|Bi d λl a3 d=>A4 Z (.none Z) Z Z (Cg [Ag [I (Wr ((IntKind.i64.wrap ((Wr (c.re*a.re))+(Wr (c.im*a.im)))).tdiv (Wr ((Wr (a.re*a.re))+(Wr (a.im*a.im)))))),I (Wr ((IntKind.i64.wrap ((Wr (c.im*a.re)) - (Wr (c.re*a.im)))).tdiv (Wr ((Wr (a.re*a.re))+(Wr (a.im*a.im))))))]] Z)<|Calls.mono (M1 n a0 a3 (BE (x:=(Af.mk (Wr ((IntKind.i64.wrap ((Wr (c.re*a.re))+(Wr (c.im*a.im)))).tdiv (Wr ((Wr (a.re*a.re))+(Wr (a.im*a.im)))))) (Wr ((IntKind.i64.wrap ((Wr (c.im*a.re)) - (Wr (c.re*a.im)))).tdiv (Wr ((Wr (a.re*a.re))+(Wr (a.im*a.im)))))))))) ?_
 rintro _ bj ⟨a4,bk,rfl,s,a5⟩
 obtain rfl:=A7 a5
 refine ⟨_,Z,⟨_,(Mo [22] s)⟩,?_⟩
 refine Qx g Z (v:=Ag [I l.1.re,I l.1.im]) (λ_ _=>Z)<|Qx g Z (v:=I l.2) (λ_ _=>Z)<|A2 Z<|have a6:=Y3 ac r af s;BS Z (.none Z) Z<|St HP a6 Z Z Z Z λbl a7 ag=>⟨⟨_,(Tn (Mo [22] s) ag)⟩,?_⟩
 refine Qx g Z (v:=I l.2) (λ_ _=>Run.assign Z)<|CA<|AS ?_
 obtain rfl:=AK d
 refine O2 B aa Z (.agg EC Z Z (Bw a7)) (.tmp Z)<|⟨a4,[I l.1.re,I l.1.im],Z,Ho (T2 (T4 (Mo [22] ab) w p r af) s ag) z,(BE (x:=l.1))⟩
theorem WZ:Ja.Spec Ja:=lk0 (VE)
def HM.At(l:Col)(c:World)(f:Bool->Option (AD×Int)):Prop:=
 ∀{d a},f d=some a->
  Calls PG 125 #[.bool d] c λm e=>∃g h,m=.returned (.tuple #[Ag h,I a.2])/\AU [] l c g e/\Aq.rep g.F e h a.1
def HM.Spec(f:Bool->Option (AD×Int)):Prop:=
 ∀a c,HM.At a c f
theorem Sj(c:Col)(e:World)(f:∀b,c b<10):HM.At c e HM:=by
 intro a p d
 rw [HM] at d
 refine Az Tryz.func125 Z Tryz.ntmps125 Z λB g q=>Sr<|Ef<|Aa c 20 Cm Z λh r s l m=>Va (I 0)<|AA<|Sr<|Vm<|Vx (v:=Ag [I 2,Cx (((0,0):Cpl)),.bool a,.slice none 0 0]) (Bp Cm GK Z (.cons Z Z Z (.cons Z Z Z .nil)))<|Eu<|St DN l Z Z Z Z λu n o=>Va (I 0)<|AA<|AS ?_
 obtain rfl:=AK d
 refine O2 B g Z (.agg B5 Z Z (Bw n)) (.tmp Z)<|⟨h,[I 2,Cx (((0,0):Cpl)),.bool a,.slice none 0 0],Z,Ho (Tn (Mo [20] m) o) f,(Ao (x:=(AD.mk 2 ((0,0):Cpl) a [])) Ba)⟩
theorem NT:HM.Spec HM:=lk0 (Sj)
def IS.At(c:Col)(a:World)(f:Af->Af->Option Bool):Prop:=
 ∀{d e g h l},f d g=some l->Bm.rep c.F a e d->Bm.rep c.F a h g->
  Calls PG 126 #[Ag e,Ag h] a λm n=>∃o,m=.returned (.bool l)/\AU [] c a o n
def IS.Spec(f:Af->Af->Option Bool):Prop:=
 ∀a c,IS.At a c f
theorem UM(h:Col)(s:World)(u:∀b,h b<10):IS.At h s IS:=by
 intro e ah f ai w c y z
 rw [IS] at c
 obtain rfl:=A7 y
 obtain rfl:=A7 z
 refine Az Tryz.func126 Z Tryz.ntmps126 Z λB aa aj=>Sr<|Ef<|A0 h 20 Z Z λab ak al ac ad=>Ef<|A0 ab 21 Z Z λg ae am l p=>Va (.bool false)<|AA<|Am (λaf q=>∃r m n,af=Env.puts r [(4,.bool n)]/\Kr n=some w/\AU [] g ae m q) ?_ ?_
 refine AM<|Vx (Fz DX Z)<|have o:=Bs ac p;Vx (Ld BC Z (Bc o Z))<|Vx (Fz DX Z)<|Vx (Ld BC Z (Bc l Z))<|Vr (.bool (decide (e.re<f.re)))<|Vm<|Bo c (λa c=>?_) λa c=>?_
 refine Pg a<|Pg a<|Pg a<|Pg a<|Pg a<|Pg a<|Po<|Po<|Po<|Po<|Po<|Pg a<|Vp a<|Va (.bool true)<|AA<|⟨_,g,true,Pu,c,Rf⟩
 refine Gx a (Fz DX Z)<|Gx a (Ld BC Z (Bc o Z))<|Gx a (Fz DX Z)<|Gx a (Ld BC Z (Bc l Z))<|Gr a (.bool (e.re==f.re))<|Gm a<|Bo c (λd c=>?_) λd c=>?_
 refine Gx d (Fd DY Z)<|Gx d (Ld BC Z (Bc o Z))<|Gx d (Fd DY Z)<|Gx d (Ld BC Z (Bc l Z))<|Gr d (.bool (decide (e.im<f.im)))<|Gp a d<|Vp a<|Va (.bool (decide (e.im<f.im)))<|AA<|⟨_,g,(decide (e.im<f.im)),Pu,c,Rf⟩
 refine Pg d<|Pg d<|Pg d<|Pg d<|Pg d<|Gp a d<|Vp a<|Va (.bool false)<|AA<|⟨_,g,false,Pu,c,Rf⟩
 rintro _ q ⟨r,m,n,rfl,c,ag⟩
 rw [Kr] at c
 refine AS ?_
 obtain rfl:=AK c
 refine O1 B aa Z (.tmp Z)<|⟨m,Z,Ho (T2 (Mo [] ad) p ag) u⟩
theorem VF:IS.Spec IS:=lk0 (UM)
def Dj.At(d:Col)(a:World)(f:Int->(List AD)->Option (AD×Int)):Prop:=
 ∀{e g h c},f e g=some c->Slc Aq d.F a h g->
  Calls PG 92 #[I e,h] a λo l=>∃m n,o=.returned (.tuple #[Ag n,I c.2])/\AU [] d a m l/\Aq.rep m.F l n c.1
def Dj.Spec(f:Int->(List AD)->Option (AD×Int)):Prop:=
 ∀a c,Dj.At a c f
theorem Sk(au:Nat)(b8:Col)(fe:World)(al:∀b,b8 b<10):Dj.At b8 fe (Dj au):=by
 intro g w mo a6 a a7
 rw [Dj] at a
 obtain ⟨bo,bp,rfl⟩:=AW a7
 refine Az Tryz.func92 Z Tryz.ntmps92 Z λB am d=>Sr<|Ef<|Aa b8 20 Cm Z λff fg bq an y=>Va (I 0)<|AA<|Sr<|Vm<|Bi a λh fh a=>Ca (Cg [I g] Z) (UL ff fg fh) ?_
 rintro _ fi ⟨b9,rfl,l⟩
 refine Vm<|Vr (I h.1)<|Vr (I h.2)<|Va (I h.1)<|Va (I h.2)<|AA<|Am (λax ca=>∃ao br bt,ax=Env.puts ao [(0,I g),(1,Sl bo w bp),(4,Pt bq 0),(6,I h.1),(7,I h.2),(8,.bool bt)]/\MV au g w h bt=some a6/\AU [] b9 fi br ca) ?_ ?_
 refine AM<|Vm<|Vr (.bool (decide (h.1>0)))<|Vm<|Bo a (λap a=>?_) λap a=>?_
 refine Gm ap<|have fj:=K2 Aq a7 y l; ?_
 obtain ⟨mp,mq,fk⟩:=AW fj
 refine Gx ap (v:=I (w.length:Int)) (Ll Fs fk)<|Gm ap<|Gr ap (.bool ((w.length:Int)==h.1))<|Vp ap<|Va (.bool ((w.length:Int)==h.1))<|AA<|⟨_,b9,((w.length:Int)==h.1),Pu,a,Rf⟩
 refine Pg ap<|Pg ap<|Pg ap<|Pg ap<|Vp ap<|Va (.bool false)<|AA<|⟨_,b9,false,Pu,a,Rf⟩
 rintro _ ca ⟨ao,br,bt,rfl,a,o⟩
 rw [MV] at a
 refine Sr<|Va (.slice none 0 0)<|AA<|AT<|Sr<|Va (I 0)<|AA<|Ah<|Bj (λaw ax bu=>∃ao a3 ay m p q z,ax=Env.puts ao [(0,I g),(1,Sl bo w bp),(4,Pt bq 0),(6,I h.1),(7,I h.2),(8,.bool ay),(9,Sl p m q),(10,I z)]/\Bu au g w h aw ay m z=some a6/\AU [21,23] br ca a3 bu/\Own Bm 111 a3 bu 23 (Sl p m q) m) au ?_ ?_
 exact ⟨_,br,bt,([]:List Af),none,0,0,Pu,a,(AU.refl [21,23] _ _),Own.nil⟩
 rintro aw _ bu ⟨ao,a3,ay,m,p,q,z,rfl,a,n,ar⟩
 rcases aw with _|aw
 exact A5 a
 refine have a:Cc au g w h (Bu au g w h aw) ay m z=some a6:=a; ?_
 obtain ⟨d8,d9⟩:∃s,s=Bu au g w h aw:=⟨_,rfl⟩
 rw [<-d9,Cc] at a
 refine AT<|Am (λax aq=>∃ao e cb,ax=Env.puts ao [(0,I g),(1,Sl bo w bp),(4,Pt bq 0),(6,I h.1),(7,I h.2),(8,.bool ay),(9,Sl p m q),(10,I z),(31,.bool cb)]/\LM au g w h ay m z d8 cb=some a6/\AU [] a3 bu e aq) ?_ ?_
 refine AM<|Vm<|Vm<|Bo a (λav a=>?_) λav a=>?_
 refine Gm av<|Gm av<|Gr av (.bool (decide (z<h.1)))<|Vp av<|AA<|⟨_,a3,(decide (z<h.1)),Pu,a,Rf⟩
 refine Pg av<|Pg av<|Pg av<|Vp av<|AA<|⟨_,a3,false,Pu,a,Rf⟩
 rintro _ aq ⟨ao,e,cb,rfl,a,f⟩
 rw [LM] at a
 refine Cn a (λfl a=>?_) λfl a=>?_
 refine AR<|AT<|Ah<|Am (λax bv=>∃ao bw bx,ax=Env.puts ao [(0,I g),(1,Sl bo w bp),(4,Pt bq 0),(6,I h.1),(7,I h.2),(8,.bool bx),(9,Sl p m q),(10,I z)]/\Er w m z d8 bx=some a6/\AU [] e aq bw bv) ?_ ?_
 refine AM<|Vm<|Vm<|Bi a λak fm a=>have fn:=Ss Aq (K4 Aq a7 y l o n) f; ?_
 obtain ⟨fo,fp,mr,fq,ea,eb,ec,fr,bz⟩:=A8 (κ:=Aq) fn fm
 replace bz:Ay e aq fo (fp+z.toNat*4) fq:=bz
 obtain ⟨ee,ef,rfl,ed⟩:=E1 (A1 fr)
 refine Vx (Ix Fs ea Z eb ec)<|Vx (Lx B5 Z Z (Ay.part0 bz [I ak.type_,Cx ak.num,.bool ak.bool,Sl ee ak.list ef] Z))<|Bi a λmt fs a=>Ca (Cg [Ag [I ak.type_,Cx ak.num,.bool ak.bool,Sl ee ak.list ef]] Z) (LT au e aq fs (Ao (x:=ak) ed)) ?_
 rintro _ mu ⟨eg,rfl,cc⟩
 refine Vm<|Bo a (λr a=>?_) λr a=>?_
 refine Gm r<|Gm r<|Gx r (Ix Fs ea Z eb ec)<|Gx r (Fz JJ Z)<|have ft:=Es bz cc;Gx r (Ld Dl Z (Ay.cell0 ft Z))<|Gm r<|Gr r (.bool (ak.type_==h.2))<|Vp r<|Va (.bool (ak.type_==h.2))<|AA<|⟨_,eg,(ak.type_==h.2),Pu,a,(Mo [] cc)⟩
 refine Pg r<|Pg r<|Pg r<|Pg r<|Pg r<|Pg r<|Pg r<|Vp r<|Va (.bool false)<|AA<|⟨_,eg,false,Pu,a,(Mo [] cc)⟩
 rintro _ bv ⟨ao,bw,bx,rfl,a,cd⟩
 rw [Er] at a
 refine Sr<|Vm<|Vm<|Bi a λfu fv a=>have fw:=K2 Aq (K4 Aq a7 y l o n) f cd; ?_
 obtain ⟨fx,fy,mv,fz,f0,f1,f2,f3,cf⟩:=A8 (κ:=Aq) fw fv
 replace cf:Ay bw bv fx (fy+z.toNat*4) fz:=cf
 obtain ⟨mx,my,rfl,f4⟩:=E1 (A1 f3)
 refine Vx (Ix Fs f0 Z f1 f2)<|Vx (Fd HU Z)<|Vx (Ld Gc Z (Ay.cell (k:=1) cf Z))<|Bi a λu f5 a=>Ca (Cg [Cx fu.num] Z) (Nj bw bv f5) ?_
 rintro _ mz ⟨f6,m0,rfl,eh,f7⟩
 obtain rfl:=A7 f7
 refine Vm<|Vr (Ag [I u.1.re,I u.1.im])<|Vr (.bool u.2)<|Ef<|Aa f6 21 Eg Z λf8 m1 m2 f9 ei=>Eu<|St HP f9 Z Z Z Z λm3 ga ej=>Va (.bool u.2)<|AA<|AM<|Vm<|Vx (Lx EC Z Z (Bw ga))<|Ef<|Cj (cs:=[I u.1.re,I u.1.im]) f8 22 [[I u.1.re,I u.1.im]] Jl Eg Z Z (.cons Z Z Z .nil) Z λgb gc gd ge ek=>have gf:Own Bm 111 gb gc 22 (.slice (some ⟨gd,0,none⟩) 1 1) ([u.1]:List Af):=Own.lit (css:=[[I u.1.re,I u.1.im]]) ge Z Z Z (Ac (BE (x:=u.1)) BB) (A6 Z Ds) Z;have gg:=Os (Os (Os (Os (Os (Os ar f) cd) eh) ei) ej) ek;Bi a λm4 el a=>Ef<|Br (κ:=Bm) Z Z gg dcd AAg (CI gf) (Ea el) (Ew el) λm5 gh m6 em gi=>?_
 obtain ⟨en,eo,rfl⟩:=Own.len em
 refine Va (Sl en ((m++([u.1]:List Af))) eo)<|AA<|AM<|Vm<|Vr (I (Wr (z+1)))<|Va (I (Wr (z+1)))<|AA<|⟨aw,Nat.lt_succ_self aw,_,gh,bx,(m++([u.1]:List Af)),en,eo,(Wr (z+1)),Pu,(d9▸a),(T3 (T4 (Mo [21,23] n) f cd eh ei) ej ek gi),em⟩
 refine BX<|AT<|Sr<|Vm<|Vr (.bool (!ay))<|AA<|Cn a (λgj a=>?_) λgj a=>?_
 refine Sr<|Vx (v:=Ag [I 0,Cx (((0,0):Cpl)),.bool false,.slice none 0 0]) (Bp Cm GK Z .nil)<|have gk:=Y4 an l o n f;Eu<|St DN gk Z Z Z Z λm7 gl gm=>Va (I 3)<|AA<|AS ?_
 obtain rfl:=AK a
 refine O2 B am Z (.agg B5 Z Z (Bw gl)) (.tmp Z)<|⟨e,[I 0,Cx (((0,0):Cpl)),.bool false,.slice none 0 0],Z,Ho (Tn (T4 (Mo [20,21,23] y) l o n f) gm) al,(Ao (x:=(AD.mk 0 ((0,0):Cpl) false [])) Ba)⟩
 refine AR<|AT<|Sr<|Vm<|AA<|Ah<|Sr<|Vr (.bool (g==8))<|Va (.bool (g==8))<|AA<|Cn a (λgn a=>?_) λgn a=>?_
 refine AT<|BZ C7 (qs 0 6 (.one 6 (.q 7 (.q 8 (.one 9 (.q 10 (.q 11 (.one 12 (.q 13 .nil))))))))) [] [20] e (by kernel_rfl) λcg ch=>Qx d Z (v:=Sl p m q) (λ_ _=>Mv Z)<|Bi a λa8 go a=>have ep:=Os (Os ar f) ch; ?_
 obtain ⟨gp,m8,gq,gr,gs,gt,gu,ci⟩:=JQ (κ:=Bm) ep go
 replace ci:Fv 23 e cg gp (0+(0:Int).toNat*2) gq:=ci
 obtain rfl:=A7 gu
 refine Qx d Z (λ_ _=>Ix Jl gr Z gs gt)<|Qx d Z (λ_ ⟨_,c⟩=>Lx EC Z Z (Fv.part0 (Fv.step ci c dcd) [I a8.re,I a8.im] Z))<|Qx d Z (v:=Sl p m q) (λ_ _=>Mv Z)<|Bi a λa9 gv a=>?_
 obtain ⟨gw,m9,gx,gy,gz,g0,g1,cj⟩:=JQ (κ:=Bm) ep gv
 replace cj:Fv 23 e cg gw (0+(1:Int).toNat*2) gx:=cj
 obtain rfl:=A7 g1
 refine Qx d Z (λ_ _=>Ix Jl gy Z gz g0)<|Qx d Z (λ_ ⟨_,c⟩=>Lx EC Z Z (Fv.part0 (Fv.step cj c dcd) [I a9.re,I a9.im] Z))<|A2 Z<|Bi a λaz g2 a=>A4 Z (.none Z) Z Z (Cg [Ag [I a8.re,I a8.im],Ag [I a9.re,I a9.im]] Z)<|Calls.mono (WU e cg g2 (BE (x:=a8)) (BE (x:=a9))) ?_
 rintro _ g3 ⟨g4,na,rfl,ba,g5⟩
 obtain rfl:=A7 g5
 refine ⟨_,Z,⟨_,(Mo [20] ba)⟩,?_⟩
 refine Qx d Z (v:=Ag [I az.1.re,I az.1.im]) (λ_ _=>Z)<|Qx d Z (v:=I az.2) (λ_ _=>Z)<|A2 Z<|Bi a λaa g6 a=>A4 Z (.none Z) Z Z (Cg [Ag [I az.1.re,I az.1.im],I az.2] Z)<|Calls.mono (IU g4 g3 g6 (BE (x:=az.1))) ?_
 rintro _ nb ⟨g7,nc,rfl,b0,g8⟩
 obtain ⟨ck,cl,rfl,eq⟩:=E1 (A1 g8)
 refine ⟨_,Z,⟨_,(Tn (Mo [20] ba) b0)⟩,?_⟩
 refine Qx d Z (v:=Ag [I aa.1.type_,Cx aa.1.num,.bool aa.1.bool,Sl ck aa.1.list cl]) (λ_ _=>Z)<|Qx d Z (v:=I aa.2) (λ_ _=>Z)<|A2 Z<|have g9:=Y3 (Y4 an l o n f) ch ba b0;BS Z (.none Z) Z<|St DN g9 Z Z Z Z λne ha cm=>⟨⟨_,(T2 (Mo [20] ba) b0 cm)⟩,?_⟩
 refine Qx d Z (v:=I aa.2) (λ_ _=>Run.assign Z)<|CA<|AS ?_
 obtain rfl:=AK a
 refine O2 B am Z (.agg B5 Z Z (Bw ha)) (.tmp Z)<|have hb:=Ss Kd.cpx eq cm;⟨g7,[I aa.1.type_,Cx aa.1.num,.bool aa.1.bool,Sl ck aa.1.list cl],Z,Ho (T4 (T4 (Mo [20,21,23] y) l o n f) ch ba b0 cm) al,(Ao (x:=aa.1) hb)⟩
 refine Sr<|Vr (.bool (g==9))<|Va (.bool (g==9))<|AA<|Cn a (λhc a=>?_) λhc a=>?_
 refine AT<|BZ C7 (qs 0 6 (.one 6 (.q 7 (.q 8 (.one 9 (.q 10 (.q 11 (.one 12 (.q 13 .nil))))))))) [] [20] e (by kernel_rfl) λcn co=>Qx d Z (v:=Sl p m q) (λ_ _=>Mv Z)<|Bi a λbb hd a=>have er:=Os (Os ar f) co; ?_
 obtain ⟨he,nf,hf,hg,hh,hi,hj,cq⟩:=JQ (κ:=Bm) er hd
 replace cq:Fv 23 e cn he (0+(0:Int).toNat*2) hf:=cq
 obtain rfl:=A7 hj
 refine Qx d Z (λ_ _=>Ix Jl hg Z hh hi)<|Qx d Z (λ_ ⟨_,c⟩=>Lx EC Z Z (Fv.part0 (Fv.step cq c dcd) [I bb.re,I bb.im] Z))<|Qx d Z (v:=Sl p m q) (λ_ _=>Mv Z)<|Bi a λbc hk a=>?_
 obtain ⟨hl,ng,hm,hn,ho,hp,hq,cr⟩:=JQ (κ:=Bm) er hk
 replace cr:Fv 23 e cn hl (0+(1:Int).toNat*2) hm:=cr
 obtain rfl:=A7 hq
 refine Qx d Z (λ_ _=>Ix Jl hn Z ho hp)<|Qx d Z (λ_ ⟨_,c⟩=>Lx EC Z Z (Fv.part0 (Fv.step cr c dcd) [I bc.re,I bc.im] Z))<|A2 Z<|Bi a λa0 hr a=>A4 Z (.none Z) Z Z (Cg [Ag [I bb.re,I bb.im],Ag [I bc.re,I bc.im]] Z)<|Calls.mono (WV e cn hr (BE (x:=bb)) (BE (x:=bc))) ?_
 rintro _ hs ⟨ht,nh,rfl,bd,hu⟩
 obtain rfl:=A7 hu
 refine ⟨_,Z,⟨_,(Mo [20] bd)⟩,?_⟩
 refine Qx d Z (v:=Ag [I a0.1.re,I a0.1.im]) (λ_ _=>Z)<|Qx d Z (v:=I a0.2) (λ_ _=>Z)<|A2 Z<|Bi a λab hw a=>A4 Z (.none Z) Z Z (Cg [Ag [I a0.1.re,I a0.1.im],I a0.2] Z)<|Calls.mono (IU ht hs hw (BE (x:=a0.1))) ?_
 rintro _ ni ⟨hx,nj,rfl,b1,hy⟩
 obtain ⟨ct,cu,rfl,es⟩:=E1 (A1 hy)
 refine ⟨_,Z,⟨_,(Tn (Mo [20] bd) b1)⟩,?_⟩
 refine Qx d Z (v:=Ag [I ab.1.type_,Cx ab.1.num,.bool ab.1.bool,Sl ct ab.1.list cu]) (λ_ _=>Z)<|Qx d Z (v:=I ab.2) (λ_ _=>Z)<|A2 Z<|have hz:=Y3 (Y4 an l o n f) co bd b1;BS Z (.none Z) Z<|St DN hz Z Z Z Z λnl h0 cv=>⟨⟨_,(T2 (Mo [20] bd) b1 cv)⟩,?_⟩
 refine Qx d Z (v:=I ab.2) (λ_ _=>Run.assign Z)<|CA<|AS ?_
 obtain rfl:=AK a
 refine O2 B am Z (.agg B5 Z Z (Bw h0)) (.tmp Z)<|have h1:=Ss Kd.cpx es cv;⟨hx,[I ab.1.type_,Cx ab.1.num,.bool ab.1.bool,Sl ct ab.1.list cu],Z,Ho (T4 (T4 (Mo [20,21,23] y) l o n f) co bd b1 cv) al,(Ao (x:=ab.1) h1)⟩
 refine Sr<|Vr (.bool (g==10))<|Va (.bool (g==10))<|AA<|Cn a (λh2 a=>?_) λh2 a=>?_
 refine AT<|BZ C7 (qs 0 6 (.one 6 (.q 7 (.q 8 (.one 9 (.q 10 (.q 11 (.one 12 (.q 13 .nil))))))))) [] [20] e (by kernel_rfl) λcw cx=>Qx d Z (v:=Sl p m q) (λ_ _=>Mv Z)<|Bi a λbe h3 a=>have et:=Os (Os ar f) cx; ?_
 obtain ⟨h4,nm,h5,h6,h7,h8,h9,cy⟩:=JQ (κ:=Bm) et h3
 replace cy:Fv 23 e cw h4 (0+(0:Int).toNat*2) h5:=cy
 obtain rfl:=A7 h9
 refine Qx d Z (λ_ _=>Ix Jl h6 Z h7 h8)<|Qx d Z (λ_ ⟨_,c⟩=>Lx EC Z Z (Fv.part0 (Fv.step cy c dcd) [I be.re,I be.im] Z))<|Qx d Z (v:=Sl p m q) (λ_ _=>Mv Z)<|Bi a λbf ia a=>?_
 obtain ⟨ib,np,ic,id,ie,ig,ih,cz⟩:=JQ (κ:=Bm) et ia
 replace cz:Fv 23 e cw ib (0+(1:Int).toNat*2) ic:=cz
 obtain rfl:=A7 ih
 refine Qx d Z (λ_ _=>Ix Jl id Z ie ig)<|Qx d Z (λ_ ⟨_,c⟩=>Lx EC Z Z (Fv.part0 (Fv.step cz c dcd) [I bf.re,I bf.im] Z))<|A2 Z<|Bi a λa1 ii a=>A4 Z (.none Z) Z Z (Cg [Ag [I be.re,I be.im],Ag [I bf.re,I bf.im]] Z)<|Calls.mono (WW e cw ii (BE (x:=be)) (BE (x:=bf))) ?_
 rintro _ ij ⟨ik,nq,rfl,bg,il⟩
 obtain rfl:=A7 il
 refine ⟨_,Z,⟨_,(Mo [20] bg)⟩,?_⟩
 refine Qx d Z (v:=Ag [I a1.1.re,I a1.1.im]) (λ_ _=>Z)<|Qx d Z (v:=I a1.2) (λ_ _=>Z)<|A2 Z<|Bi a λac im a=>A4 Z (.none Z) Z Z (Cg [Ag [I a1.1.re,I a1.1.im],I a1.2] Z)<|Calls.mono (IU ik ij im (BE (x:=a1.1))) ?_
 rintro _ nr ⟨io,ns,rfl,b2,ip⟩
 obtain ⟨c0,c1,rfl,eu⟩:=E1 (A1 ip)
 refine ⟨_,Z,⟨_,(Tn (Mo [20] bg) b2)⟩,?_⟩
 refine Qx d Z (v:=Ag [I ac.1.type_,Cx ac.1.num,.bool ac.1.bool,Sl c0 ac.1.list c1]) (λ_ _=>Z)<|Qx d Z (v:=I ac.2) (λ_ _=>Z)<|A2 Z<|have iq:=Y3 (Y4 an l o n f) cx bg b2;BS Z (.none Z) Z<|St DN iq Z Z Z Z λnu ir c2=>⟨⟨_,(T2 (Mo [20] bg) b2 c2)⟩,?_⟩
 refine Qx d Z (v:=I ac.2) (λ_ _=>Run.assign Z)<|CA<|AS ?_
 obtain rfl:=AK a
 refine O2 B am Z (.agg B5 Z Z (Bw ir)) (.tmp Z)<|have it:=Ss Kd.cpx eu c2;⟨io,[I ac.1.type_,Cx ac.1.num,.bool ac.1.bool,Sl c0 ac.1.list c1],Z,Ho (T4 (T4 (Mo [20,21,23] y) l o n f) cx bg b2 c2) al,(Ao (x:=ac.1) it)⟩
 refine Sr<|Vr (.bool (g==11))<|Va (.bool (g==11))<|AA<|Cn a (λiu a=>?_) λiu a=>?_
 refine AT<|BZ C7 (qs 0 6 (.one 6 (.q 7 (.q 8 (.one 9 (.q 10 (.q 11 (.one 12 (.q 13 .nil))))))))) [] [20] e (by kernel_rfl) λc3 c4=>Qx d Z (v:=Sl p m q) (λ_ _=>Mv Z)<|Bi a λbh iv a=>have ew:=Os (Os ar f) c4; ?_
 obtain ⟨iw,nv,ix,iy,iz,i0,i1,c5⟩:=JQ (κ:=Bm) ew iv
 replace c5:Fv 23 e c3 iw (0+(0:Int).toNat*2) ix:=c5
 obtain rfl:=A7 i1
 refine Qx d Z (λ_ _=>Ix Jl iy Z iz i0)<|Qx d Z (λ_ ⟨_,c⟩=>Lx EC Z Z (Fv.part0 (Fv.step c5 c dcd) [I bh.re,I bh.im] Z))<|Qx d Z (v:=Sl p m q) (λ_ _=>Mv Z)<|Bi a λbi i2 a=>?_
 obtain ⟨i3,nw,i4,i5,i6,i7,i8,c6⟩:=JQ (κ:=Bm) ew i2
 replace c6:Fv 23 e c3 i3 (0+(1:Int).toNat*2) i4:=c6
 obtain rfl:=A7 i8
 refine Qx d Z (λ_ _=>Ix Jl i5 Z i6 i7)<|Qx d Z (λ_ ⟨_,c⟩=>Lx EC Z Z (Fv.part0 (Fv.step c6 c dcd) [I bi.re,I bi.im] Z))<|A2 Z<|Bi a λa2 i9 a=>A4 Z (.none Z) Z Z (Cg [Ag [I bh.re,I bh.im],Ag [I bi.re,I bi.im]] Z)<|Calls.mono (WZ e c3 i9 (BE (x:=bh)) (BE (x:=bi))) ?_
 rintro _ ja ⟨jb,nx,rfl,bj,jc⟩
 obtain rfl:=A7 jc
 refine ⟨_,Z,⟨_,(Mo [20] bj)⟩,?_⟩
 refine Qx d Z (v:=Ag [I a2.1.re,I a2.1.im]) (λ_ _=>Z)<|Qx d Z (v:=I a2.2) (λ_ _=>Z)<|A2 Z<|Bi a λad jd a=>A4 Z (.none Z) Z Z (Cg [Ag [I a2.1.re,I a2.1.im],I a2.2] Z)<|Calls.mono (IU jb ja jd (BE (x:=a2.1))) ?_
 rintro _ ny ⟨je,n0,rfl,b3,jf⟩
 obtain ⟨c7,c8,rfl,ex⟩:=E1 (A1 jf)
 refine ⟨_,Z,⟨_,(Tn (Mo [20] bj) b3)⟩,?_⟩
 refine Qx d Z (v:=Ag [I ad.1.type_,Cx ad.1.num,.bool ad.1.bool,Sl c7 ad.1.list c8]) (λ_ _=>Z)<|Qx d Z (v:=I ad.2) (λ_ _=>Z)<|A2 Z<|have jg:=Y3 (Y4 an l o n f) c4 bj b3;BS Z (.none Z) Z<|St DN jg Z Z Z Z λn2 jh c9=>⟨⟨_,(T2 (Mo [20] bj) b3 c9)⟩,?_⟩
 refine Qx d Z (v:=I ad.2) (λ_ _=>Run.assign Z)<|CA<|AS ?_
 obtain rfl:=AK a
 refine O2 B am Z (.agg B5 Z Z (Bw jh)) (.tmp Z)<|have ji:=Ss Kd.cpx ex c9;⟨je,[I ad.1.type_,Cx ad.1.num,.bool ad.1.bool,Sl c7 ad.1.list c8],Z,Ho (T4 (T4 (Mo [20,21,23] y) l o n f) c4 bj b3 c9) al,(Ao (x:=ad.1) ji)⟩
 refine Sr<|Vr (.bool (g==12))<|Va (.bool (g==12))<|AA<|Cn a (λjj a=>?_) λjj a=>?_
 refine AT<|BZ C7 (qs 0 7 (.one 7 (.q 8 (.q 9 (.one 10 (.q 11 .nil)))))) [] [20] e (by kernel_rfl) λda db=>Qx d Z (v:=Sl p m q) (λ_ _=>Mv Z)<|Bi a λa4 jk a=>have ey:=Os (Os ar f) db; ?_
 obtain ⟨jl,n4,jm,jn,jo,jp,jq,dc⟩:=JQ (κ:=Bm) ey jk
 replace dc:Fv 23 e da jl (0+(0:Int).toNat*2) jm:=dc
 obtain rfl:=A7 jq
 refine Qx d Z (λ_ _=>Ix Jl jn Z jo jp)<|Qx d Z (λ_ ⟨_,c⟩=>Lx EC Z Z (Fv.part0 (Fv.step dc c dcd) [I a4.re,I a4.im] Z))<|Qx d Z (v:=Sl p m q) (λ_ _=>Mv Z)<|Bi a λa5 jr a=>?_
 obtain ⟨js,n5,jt,ju,jv,jw,jx,de⟩:=JQ (κ:=Bm) ey jr
 replace de:Fv 23 e da js (0+(1:Int).toNat*2) jt:=de
 obtain rfl:=A7 jx
 refine Qx d Z (λ_ _=>Ix Jl ju Z jv jw)<|Qx d Z (λ_ ⟨_,c⟩=>Lx EC Z Z (Fv.part0 (Fv.step de c dcd) [I a5.re,I a5.im] Z))<|Qx d Z (v:=.bool (a4.re==a5.re&&a4.im==a5.im)) (λ_ _=>(Run.int2Eq AAq Z Z))<|A2 Z<|Bi a λae jy a=>A4 Z (.none Z) Z Z (Cg [.bool (a4.re==a5.re&&a4.im==a5.im)] Z)<|Calls.mono (NT e da jy) ?_
 rintro _ n6 ⟨jz,n7,rfl,b4,j0⟩
 obtain ⟨df,dg,rfl,ez⟩:=E1 (A1 j0)
 refine ⟨_,Z,⟨_,(Mo [20] b4)⟩,?_⟩
 refine Qx d Z (v:=Ag [I ae.1.type_,Cx ae.1.num,.bool ae.1.bool,Sl df ae.1.list dg]) (λ_ _=>Z)<|Qx d Z (v:=I ae.2) (λ_ _=>Z)<|A2 Z<|have j1:=Y2 (Y4 an l o n f) db b4;BS Z (.none Z) Z<|St DN j1 Z Z Z Z λoa j2 dh=>⟨⟨_,(Tn (Mo [20] b4) dh)⟩,?_⟩
 refine Qx d Z (v:=I ae.2) (λ_ _=>Run.assign Z)<|CA<|AS ?_
 obtain rfl:=AK a
 refine O2 B am Z (.agg B5 Z Z (Bw j2)) (.tmp Z)<|have j3:=Ss Kd.cpx ez dh;⟨jz,[I ae.1.type_,Cx ae.1.num,.bool ae.1.bool,Sl df ae.1.list dg],Z,Ho (T3 (T4 (Mo [20,21,23] y) l o n f) db b4 dh) al,(Ao (x:=ae.1) j3)⟩
 refine Sr<|Vr (.bool (g==13))<|Va (.bool (g==13))<|AA<|Cn a (λj4 a=>?_) λj4 a=>?_
 refine AT<|BZ C7 (qs 0 6 (.one 6 (.one 7 (.q 8 (.q 9 (.one 10 (.q 11 .nil))))))) [] [20] e (by kernel_rfl) λdi dj=>Qx d Z (v:=Sl p m q) (λ_ _=>Mv Z)<|Bi a λbk j5 a=>have e0:=Os (Os ar f) dj; ?_
 obtain ⟨j6,ob,j7,j8,j9,ka,kb,dk⟩:=JQ (κ:=Bm) e0 j5
 replace dk:Fv 23 e di j6 (0+(0:Int).toNat*2) j7:=dk
 obtain rfl:=A7 kb
 refine Qx d Z (λ_ _=>Ix Jl j8 Z j9 ka)<|Qx d Z (λ_ ⟨_,c⟩=>Lx EC Z Z (Fv.part0 (Fv.step dk c dcd) [I bk.re,I bk.im] Z))<|Qx d Z (v:=Sl p m q) (λ_ _=>Mv Z)<|Bi a λbl kc a=>?_
 obtain ⟨kd,oc,ke,kf,kg,kh,ki,dl⟩:=JQ (κ:=Bm) e0 kc
 replace dl:Fv 23 e di kd (0+(1:Int).toNat*2) ke:=dl
 obtain rfl:=A7 ki
 refine Qx d Z (λ_ _=>Ix Jl kf Z kg kh)<|Qx d Z (λ_ ⟨_,c⟩=>Lx EC Z Z (Fv.part0 (Fv.step dl c dcd) [I bl.re,I bl.im] Z))<|A2 Z<|Bi a λkj kk a=>A4 Z (.none Z) Z Z (Cg [Ag [I bk.re,I bk.im],Ag [I bl.re,I bl.im]] Z)<|Calls.mono (VF e di kk (BE (x:=bk)) (BE (x:=bl))) ?_
 rintro _ kl ⟨km,rfl,bm⟩
 refine ⟨_,Z,⟨_,(Mo [20] bm)⟩,?_⟩
 refine A2 Z<|Bi a λaf kn a=>A4 Z (.none Z) Z Z (Cg [.bool kj] Z)<|Calls.mono (NT km kl kn) ?_
 rintro _ od ⟨ko,oe,rfl,b5,kp⟩
 obtain ⟨dm,dn,rfl,e1⟩:=E1 (A1 kp)
 refine ⟨_,Z,⟨_,(Tn (Mo [20] bm) b5)⟩,?_⟩
 refine Qx d Z (v:=Ag [I af.1.type_,Cx af.1.num,.bool af.1.bool,Sl dm af.1.list dn]) (λ_ _=>Z)<|Qx d Z (v:=I af.2) (λ_ _=>Z)<|A2 Z<|have kq:=Y3 (Y4 an l o n f) dj bm b5;BS Z (.none Z) Z<|St DN kq Z Z Z Z λoh kr dp=>⟨⟨_,(T2 (Mo [20] bm) b5 dp)⟩,?_⟩
 refine Qx d Z (v:=I af.2) (λ_ _=>Run.assign Z)<|CA<|AS ?_
 obtain rfl:=AK a
 refine O2 B am Z (.agg B5 Z Z (Bw kr)) (.tmp Z)<|have ks:=Ss Kd.cpx e1 dp;⟨ko,[I af.1.type_,Cx af.1.num,.bool af.1.bool,Sl dm af.1.list dn],Z,Ho (T4 (T4 (Mo [20,21,23] y) l o n f) dj bm b5 dp) al,(Ao (x:=af.1) ks)⟩
 refine Sr<|Vr (.bool (g==14))<|Va (.bool (g==14))<|AA<|Cn a (λkt a=>?_) λkt a=>?_
 refine Sr<|Vm<|Bi a λe2 ku a=>have kv:=Ss Aq (K4 Aq a7 y l o n) f; ?_
 obtain ⟨kw,kx,oi,ky,kz,k0,k1,k2,dq⟩:=A8 (κ:=Aq) kv ku
 replace dq:Ay e aq kw (kx+(0:Int).toNat*4) ky:=dq
 obtain ⟨ok,ol,rfl,k3⟩:=E1 (A1 k2)
 refine Vx (Ix Fs kz Z k0 k1)<|Vx (Fd Kj Z)<|Vx (Ld M0 Z (Ay.cell (k:=2) dq Z))<|Vr (.bool (!e2.bool))<|Bi a λag k4 a=>Ca (Cg [.bool (!e2.bool)] Z) (NT e aq k4) ?_
 rintro _ om ⟨k5,oo,rfl,e3,k6⟩
 obtain ⟨dr,ds,rfl,e4⟩:=E1 (A1 k6)
 refine Vr (Ag [I ag.1.type_,Cx ag.1.num,.bool ag.1.bool,Sl dr ag.1.list ds])<|Vr (I ag.2)<|have k7:=Bs (Y4 an l o n f) e3;Eu<|St DN k7 Z Z Z Z λoq k8 e5=>Va (I ag.2)<|AA<|AS ?_
 obtain rfl:=AK a
 refine O2 B am Z (.agg B5 Z Z (Bw k8)) (.tmp Z)<|have k9:=Ss Kd.cpx e4 e5;⟨k5,[I ag.1.type_,Cx ag.1.num,.bool ag.1.bool,Sl dr ag.1.list ds],Z,Ho (T2 (T4 (Mo [20,21,23] y) l o n f) e3 e5) al,(Ao (x:=ag.1) k9)⟩
 refine Sr<|Vr (.bool (g==15))<|Va (.bool (g==15))<|AA<|Cn a (λla a=>?_) λla a=>?_
 refine Sr<|Vm<|Bi a λdt lb a=>have lc:=Os ar f; ?_
 obtain ⟨ld,os,le,lf,lg,lh,li,du⟩:=JQ (κ:=Bm) lc lb
 replace du:Fv 23 e aq ld (0+(0:Int).toNat*2) le:=du
 obtain rfl:=A7 li
 refine Vx (Ix Jl lf Z lg lh)<|Vx (Fz DX Z)<|Vx (Ld BC Z (Fv.cell0 du Z))<|Vx (v:=Ag [I dt.re,I 0]) (Bp Eg KY Z (.cons Z Z Z .nil))<|Bi a λah lj a=>Ca (Cg [Ag [I dt.re,I 0],I 0] Z) (IU e aq lj (BE (x:=(Af.mk dt.re 0)))) ?_
 rintro _ ot ⟨lk,ou,rfl,e6,ll⟩
 obtain ⟨dv,dw,rfl,e7⟩:=E1 (A1 ll)
 refine Vr (Ag [I ah.1.type_,Cx ah.1.num,.bool ah.1.bool,Sl dv ah.1.list dw])<|Vr (I ah.2)<|have lm:=Bs (Y4 an l o n f) e6;Eu<|St DN lm Z Z Z Z λow ln e8=>Va (I ah.2)<|AA<|AS ?_
 obtain rfl:=AK a
 refine O2 B am Z (.agg B5 Z Z (Bw ln)) (.tmp Z)<|have lo:=Ss Kd.cpx e7 e8;⟨lk,[I ah.1.type_,Cx ah.1.num,.bool ah.1.bool,Sl dv ah.1.list dw],Z,Ho (T2 (T4 (Mo [20,21,23] y) l o n f) e6 e8) al,(Ao (x:=ah.1) lo)⟩
 refine Sr<|Vr (.bool (g==16))<|Va (.bool (g==16))<|AA<|Cn a (λlp a=>?_) λlp a=>?_
 refine Sr<|Vm<|Bi a λdx lq a=>have lr:=Os ar f; ?_
 obtain ⟨ls,ox,lt,lu,lv,lw,lx,dy⟩:=JQ (κ:=Bm) lr lq
 replace dy:Fv 23 e aq ls (0+(0:Int).toNat*2) lt:=dy
 obtain rfl:=A7 lx
 refine Vx (Ix Jl lu Z lv lw)<|Vx (Fd DY Z)<|Vx (Ld BC Z (Fv.cell (j:=1) dy Z))<|Vx (v:=Ag [I dx.im,I 0]) (Bp Eg KY Z (.cons Z Z Z .nil))<|Bi a λai ly a=>Ca (Cg [Ag [I dx.im,I 0],I 0] Z) (IU e aq ly (BE (x:=(Af.mk dx.im 0)))) ?_
 rintro _ oy ⟨lz,oz,rfl,e9,l0⟩
 obtain ⟨dz,d0,rfl,fa⟩:=E1 (A1 l0)
 refine Vr (Ag [I ai.1.type_,Cx ai.1.num,.bool ai.1.bool,Sl dz ai.1.list d0])<|Vr (I ai.2)<|have l1:=Bs (Y4 an l o n f) e9;Eu<|St DN l1 Z Z Z Z λo1 l2 fb=>Va (I ai.2)<|AA<|AS ?_
 obtain rfl:=AK a
 refine O2 B am Z (.agg B5 Z Z (Bw l2)) (.tmp Z)<|have l3:=Ss Kd.cpx fa fb;⟨lz,[I ai.1.type_,Cx ai.1.num,.bool ai.1.bool,Sl dz ai.1.list d0],Z,Ho (T2 (T4 (Mo [20,21,23] y) l o n f) e9 fb) al,(Ao (x:=ai.1) l3)⟩
 refine AR<|AT<|BZ C7 (qs 0 10 (.one 10 (.q 11 (.q 12 (.one 13 (.q 14 .nil)))))) [] [20] e (by kernel_rfl) λd1 d2=>Qx d Z (v:=Sl p m q) (λ_ _=>Mv Z)<|Bi a λb6 l4 a=>have fc:=Os (Os ar f) d2; ?_
 obtain ⟨l5,o2,l6,l7,l8,l9,ma,d3⟩:=JQ (κ:=Bm) fc l4
 replace d3:Fv 23 e d1 l5 (0+(0:Int).toNat*2) l6:=d3
 obtain rfl:=A7 ma
 refine Qx d Z (λ_ _=>Ix Jl l7 Z l8 l9)<|Qx d Z (λ_ _=>Fz DX Z)<|Qx d Z (λ_ ⟨_,c⟩=>Ld BC Z (Fv.cell0 (Fv.step d3 c dcd) Z))<|Qx d Z (v:=Sl p m q) (λ_ _=>Mv Z)<|Bi a λbn mb a=>?_
 obtain ⟨mc,o6,md,me,mf,mg,mh,d4⟩:=JQ (κ:=Bm) fc mb
 replace d4:Fv 23 e d1 mc (0+(0:Int).toNat*2) md:=d4
 obtain rfl:=A7 mh
 refine Qx d Z (λ_ _=>Ix Jl me Z mf mg)<|Qx d Z (λ_ _=>Fd DY Z)<|Qx d Z (λ_ ⟨_,c⟩=>Ld BC Z (Fv.cell (j:=1) (Fv.step d4 c dcd) Z))<|Qx d Z (v:=I (Wr (0 - bn.im))) (λ_ _=>Z)<|Qx d Z (v:=Ag [I b6.re,I (Wr (0 - bn.im))]) (λ_ _=>CK (cs:=[I b6.re,I (Wr (0 - bn.im))]) [I 0,I 0] Eg KY Z (.cons Z Z Z (.cons Z Z Z .nil)) Z Z)<|A2 Z<|Bi a λaj mi a=>A4 Z (.none Z) Z Z (Cg [Ag [I b6.re,I (Wr (0 - bn.im))],I 0] Z)<|Calls.mono (IU e d1 mi (BE (x:=(Af.mk b6.re (Wr (0 - bn.im)))))) ?_
 rintro _ o7 ⟨mj,o8,rfl,b7,mk⟩
 obtain ⟨d5,d6,rfl,fd⟩:=E1 (A1 mk)
 refine ⟨_,Z,⟨_,(Mo [20] b7)⟩,?_⟩
 refine Qx d Z (v:=Ag [I aj.1.type_,Cx aj.1.num,.bool aj.1.bool,Sl d5 aj.1.list d6]) (λ_ _=>Z)<|Qx d Z (v:=I aj.2) (λ_ _=>Z)<|A2 Z<|have ml:=Y2 (Y4 an l o n f) d2 b7;BS Z (.none Z) Z<|St DN ml Z Z Z Z λpb mm d7=>⟨⟨_,(Tn (Mo [20] b7) d7)⟩,?_⟩
 refine Qx d Z (v:=I aj.2) (λ_ _=>Run.assign Z)<|CA<|AS ?_
 obtain rfl:=AK a
 refine O2 B am Z (.agg B5 Z Z (Bw mm)) (.tmp Z)<|have mn:=Ss Kd.cpx fd d7;⟨mj,[I aj.1.type_,Cx aj.1.num,.bool aj.1.bool,Sl d5 aj.1.list d6],Z,Ho (T3 (T4 (Mo [20,21,23] y) l o n f) d2 b7 d7) al,(Ao (x:=aj.1) mn)⟩
theorem UN(c:Nat):Dj.Spec (Dj c):=lk0 (Sk c)
def ref11_Machine_look.At(G1 G2:Prop)(c:Col)(a:World)(f:AX->AE->Nm->Option (Th×AX))(g:Nat):Prop:=
 ∀{h m n o p q r l},f m o q=some l->G1->G2->Bk c a g h n 101->B1.rep c.F a n m->AG.rep c.F a p o->RNm c.F a r q->
  Calls PG 37 #[Pt h 0,Ag p,r] a λw d=>∃e s u,w=.returned s/\AU [g] c a e d/\RTh e.F d s l.1/\Bk e d g h u 101/\B1.rep e.F d u l.2
def ref11_Machine_look.Spec(f:AX->AE->Nm->Option (Th×AX)):Prop:=
 ∀c d {a},ref11_Machine_look.At ([a].Nodup) (0∉[a]) c d f a
def ref11_Machine_of.At(G1 G2:Prop)(c:Col)(a:World)(f:AX->Th->Option (Th×AX))(g:Nat):Prop:=
 ∀{h m n o p l},f m o=some l->G1->G2->Bk c a g h n 101->B1.rep c.F a n m->RTh c.F a p o->
  Calls PG 59 #[Pt h 0,p] a λs d=>∃e q r,s=.returned q/\AU [g] c a e d/\RTh e.F d q l.1/\Bk e d g h r 101/\B1.rep e.F d r l.2
def ref11_Machine_of.Spec(f:AX->Th->Option (Th×AX)):Prop:=
 ∀c d {a},ref11_Machine_of.At ([a].Nodup) (0∉[a]) c d f a
def ref11_Machine_inside.At(G1 G2:Prop)(c:Col)(a:World)(f:AX->AE->Nm->Option (Th×AX))(g:Nat):Prop:=
 ∀{h m n o p q r l},f m o q=some l->G1->G2->Bk c a g h n 101->B1.rep c.F a n m->AG.rep c.F a p o->RNm c.F a r q->
  Calls PG 62 #[Pt h 0,Ag p,r] a λw d=>∃e s u,w=.returned s/\AU [g] c a e d/\RTh e.F d s l.1/\Bk e d g h u 101/\B1.rep e.F d u l.2
def ref11_Machine_inside.Spec(f:AX->AE->Nm->Option (Th×AX)):Prop:=
 ∀c d {a},ref11_Machine_inside.At ([a].Nodup) (0∉[a]) c d f a
structure AP.Good(a:AP):Prop where
 ref11_Machine_look:ref11_Machine_look.Spec a.ref11_Machine_look
 ref11_Machine_of:ref11_Machine_of.Spec a.ref11_Machine_of
 ref11_Machine_inside:ref11_Machine_inside.Spec a.ref11_Machine_inside
end Fth
namespace Fth
open Go Go.Proofs Sh
set_option maxRecDepth 100000
set_option maxHeartbeats 8000000
theorem OX(ap:AP)(ay:Nat)(cc:AP.Good ap)(cd:Col)(ep:World)(af:∀b,cd b<10):ref11_Machine_look.At True True cd ep (BJ ap ay) 1:=by
 intro ab c kt f ku ac w bh a _ _ eq er es aq
 rw [BJ] at a
 obtain ⟨ar,au,rfl,y⟩:=E1 (BT er)
 obtain ⟨dm,dn,rfl,b1⟩:=E1 (Ae es)
 refine Az Tryz.func37 Z Tryz.ntmps37 Z λB ag e=>Sr<|Ef<|A0 cd 20 Z Z λaz kx cf et o=>Va (.pointer none)<|AA<|AT<|Sr<|Vm<|Vx (Nc Z)<|Vx (Fd Ks Z)<|have cg:=Bs eq o;Vx (Ld BC Z (Bc cg Z))<|Vr (.bool (c.why != 0))<|AA<|Cn a (λeu a=>?_) λeu a=>?_
 refine Sr<|Vx (v:=Ag [.bool false,.bool false,I 0,Cx (((0,0):Cpl)),.bool false,.slice none 0 0,.pointer none,.pointer none,I 0,Sb ([]:Bts),Sb ([]:Bts),I 0,Cx (((0,0):Cpl)),.slice none 0 0,I 0,.pointer none]) (Bp Jm Jk Z .nil)<|Ef<|A0 az 21 Z Z λky kz dp ew ch=>Va (Pt dp 0)<|AA<|AS ?_
 obtain ⟨ex,ci,ey⟩:=RTh.layLater (cp:=[I 0,Cx (((0,0):Cpl)),.bool false,.slice none 0 0]) (ce:=[I 0,Sb ([]:Bts),Sb ([]:Bts),I 0,Cx (((0,0):Cpl)),.slice none 0 0,I 0]) ew dcd (Ao (x:=(AD.mk 0 ((0,0):Cpl) false [])) Ba) (AY (x:=(AE.mk 0 ([]:Bts) ([]:Bts) 0 ((0,0):Cpl) [] 0)) Ba) RNm.nil
 obtain rfl:=AK a
 refine O1 B ag Z (.tmp Z)<|have ez:=Y2 cg ch ci;have e0:=K3 AI y o ch ci;⟨ex,Pt dp 0,[Sl ar c.p.funcs au,I c.most,I c.cost,I c.why],Z,Ho (T2 (Mo [21] o) ch ci) af,ey,ez,(Aw (x:=c) e0)⟩
 refine AR<|AT<|AT<|BZ C7 (qs 0 9 .nil) [] [] az (by kernel_rfl) λe1 p=>Qx e Z (v:=Pt ab 0) (λ_ _=>Mv Z)<|Qx e Z (λ_ _=>Nc Z)<|Qx e Z (λ_ _=>Fd N9 Z)<|have bi:=Bs cg p;Qx e Z (λ_ ⟨_,d⟩=>Ld BC Z (Bc (Bs bi d) Z))<|Qx e Z (v:=Pt ab 0) (λ_ _=>Mv Z)<|Qx e Z (λ_ _=>Nc Z)<|Qx e Z (λ_ _=>Fd Ym Z)<|Qx e Z (λ_ ⟨_,d⟩=>Ld BC Z (Bc (Bs bi d) Z))<|Qx e Z (v:=.bool (decide (c.cost>=c.most))) (λ_ _=>Z)<|CA<|Cn a (λe2 a=>?_) λe2 a=>?_
 refine Sr<|Vm<|have e3:=K2 AI y o p;Bi a λbj e4 a=>Ca (Cg [Pt ab 0,I 60] Z) (Ku az e1 e4 dcd dcd bi (Aw (x:=c) e3)) ?_
 rintro _ k0 ⟨e5,dq,k1,rfl,e6,e7,e8,e9⟩
 obtain ⟨fa,fb,rfl,dr⟩:=E1 (BT e9)
 refine Va dq<|AA<|AS ?_
 obtain rfl:=AK a
 refine O1 B ag Z (.tmp Z)<|⟨e5,dq,[Sl fa bj.2.p.funcs fb,I bj.2.most,I bj.2.cost,I bj.2.why],Z,Ho (T2 (Mo [1] o) p e6) af,e7,e8,(Aw (x:=bj.2) dr)⟩
 refine AR<|Sr<|Vm<|Vx (Nc Z)<|Vx (Fd N9 Z)<|Vx (Ld BC Z (Bc bi Z))<|Vr (I (Wr (c.cost+1)))<|Vx (Nc Z)<|Vx (Fd N9 Z)<|Eu<|St Mz bi Z Z Z Z λfc an r=>AA<|AT<|Sr<|Vx (Fz Cp Z)<|have av:=Y2 et p r;Vx (Ld GC Z (Bc av Z))<|AA<|Ah<|Sr<|Vr (.bool (f.op==1))<|Va (.bool (f.op==1))<|AA<|Cn a (λfd a=>?_) λfd a=>?_
 refine Sr<|Vx (Fd Qj Z)<|Vx (Ld Gc Z (Bc av Z))<|Vx (v:=Ag [I 1,Cx f.num,.bool false,.slice none 0 0]) (Bp Cm GK Z (.cons Z Z Z (.cons Z Z Z .nil)))<|Vx (v:=Ag [.bool true,.bool false,I 1,Cx f.num,.bool false,.slice none 0 0,.pointer none,.pointer none,I 0,Sb ([]:Bts),Sb ([]:Bts),I 0,Cx (((0,0):Cpl)),.slice none 0 0,I 0,.pointer none]) (Bp Jm Jk Z (.cons Z Z Z (.cons Z Z Z .nil)))<|Ef<|A0 az 22 Z Z λk3 k4 ds fe cj=>Va (Pt ds 0)<|AA<|AS ?_
 obtain ⟨ff,ck,fg⟩:=RTh.layDone (hv:=.pointer none) (tv:=.pointer none) (cp:=[I 1,Cx f.num,.bool false,.slice none 0 0]) (ce:=[I 0,Sb ([]:Bts),Sb ([]:Bts),I 0,Cx (((0,0):Cpl)),.slice none 0 0,I 0]) fe dcd (Ao (x:=(AD.mk 1 f.num false [])) Ba) (AY (x:=(AE.mk 0 ([]:Bts) ([]:Bts) 0 ((0,0):Cpl) [] 0)) Ba) RTh.nil RTh.nil
 obtain rfl:=AK a
 refine O1 B ag Z (.tmp Z)<|have fh:=Y2 an cj ck;have fi:=Ss AI (K4 AI y o p r cj) ck;⟨ff,Pt ds 0,[Sl ar c.p.funcs au,I c.most,I (Wr (c.cost+1)),I c.why],Z,Ho (T4 (Mo [1,22] o) p r cj ck) af,fg,fh,(Aw (x:=(AX.mk (AL.mk c.p.funcs) c.most (Wr (c.cost+1)) c.why)) fi)⟩
 refine Am (λa0 a1=>∃ad u cl,a0=Env.puts ad [(0,Pt ab 0),(2,w),(4,Pt cf 0),(37,I f.op),(45,.bool cl)]/\B4 ap ay c f ac cl=some bh/\AU [] az fc u a1) ?_ ?_
 refine Sr<|Vr (.bool (f.op==2))<|Va (.bool (f.op==2))<|AA<|Cn a (λfj a=>?_) λfj a=>?_
 refine AR<|⟨_,az,(f.op==2),Pu,a,Rf⟩
 refine AM<|Vr (.bool (f.op==3))<|Va (.bool (f.op==3))<|AA<|⟨_,az,(f.op==3),Pu,a,Rf⟩
 rintro _ a1 ⟨ad,u,cl,rfl,a,l⟩
 rw [B4] at a
 refine Cn a (λfk a=>?_) λfk a=>?_
 refine Sr<|Vx (Fz Cp Z)<|have fl:=Bs av l;Vx (Ld GC Z (Bc fl Z))<|Vr (.bool (f.op==2))<|Vx (v:=Ag [I 2,Cx (((0,0):Cpl)),.bool (f.op==2),.slice none 0 0]) (Bp Cm GK Z (.cons Z Z Z (.cons Z Z Z .nil)))<|Vx (v:=Ag [.bool true,.bool false,I 2,Cx (((0,0):Cpl)),.bool (f.op==2),.slice none 0 0,.pointer none,.pointer none,I 0,Sb ([]:Bts),Sb ([]:Bts),I 0,Cx (((0,0):Cpl)),.slice none 0 0,I 0,.pointer none]) (Bp Jm Jk Z (.cons Z Z Z (.cons Z Z Z .nil)))<|Ef<|A0 u 23 Z Z λk5 k6 dt fm cm=>Va (Pt dt 0)<|AA<|AS ?_
 obtain ⟨fn,cn,fo⟩:=RTh.layDone (hv:=.pointer none) (tv:=.pointer none) (cp:=[I 2,Cx (((0,0):Cpl)),.bool (f.op==2),.slice none 0 0]) (ce:=[I 0,Sb ([]:Bts),Sb ([]:Bts),I 0,Cx (((0,0):Cpl)),.slice none 0 0,I 0]) fm dcd (Ao (x:=(AD.mk 2 ((0,0):Cpl) (f.op==2) [])) Ba) (AY (x:=(AE.mk 0 ([]:Bts) ([]:Bts) 0 ((0,0):Cpl) [] 0)) Ba) RTh.nil RTh.nil
 obtain rfl:=AK a
 refine O1 B ag Z (.tmp Z)<|have fp:=Y3 an l cm cn;have fq:=K2 AI (K4 AI y o p r l) cm cn;⟨fn,Pt dt 0,[Sl ar c.p.funcs au,I c.most,I (Wr (c.cost+1)),I c.why],Z,Ho (Tn (T4 (Mo [1,23] o) p r l cm) cn) af,fo,fp,(Aw (x:=(AX.mk (AL.mk c.p.funcs) c.most (Wr (c.cost+1)) c.why)) fq)⟩
 refine Sr<|Vr (.bool (f.op==4))<|Va (.bool (f.op==4))<|AA<|Cn a (λfr a=>?_) λfr a=>?_
 refine Sr<|Vx (v:=Ag [I 3,Cx (((0,0):Cpl)),.bool false,.slice none 0 0]) (Bp Cm GK Z (.cons Z Z Z .nil))<|Vx (v:=Ag [.bool true,.bool false,I 3,Cx (((0,0):Cpl)),.bool false,.slice none 0 0,.pointer none,.pointer none,I 0,Sb ([]:Bts),Sb ([]:Bts),I 0,Cx (((0,0):Cpl)),.slice none 0 0,I 0,.pointer none]) (Bp Jm Jk Z (.cons Z Z Z (.cons Z Z Z .nil)))<|Ef<|A0 u 24 Z Z λk7 k8 du fs co=>Va (Pt du 0)<|AA<|AS ?_
 obtain ⟨ft,cq,fu⟩:=RTh.layDone (hv:=.pointer none) (tv:=.pointer none) (cp:=[I 3,Cx (((0,0):Cpl)),.bool false,.slice none 0 0]) (ce:=[I 0,Sb ([]:Bts),Sb ([]:Bts),I 0,Cx (((0,0):Cpl)),.slice none 0 0,I 0]) fs dcd (Ao (x:=(AD.mk 3 ((0,0):Cpl) false [])) Ba) (AY (x:=(AE.mk 0 ([]:Bts) ([]:Bts) 0 ((0,0):Cpl) [] 0)) Ba) RTh.nil RTh.nil
 obtain rfl:=AK a
 refine O1 B ag Z (.tmp Z)<|have fv:=Y3 an l co cq;have fw:=K2 AI (K4 AI y o p r l) co cq;⟨ft,Pt du 0,[Sl ar c.p.funcs au,I c.most,I (Wr (c.cost+1)),I c.why],Z,Ho (Tn (T4 (Mo [1,24] o) p r l co) cq) af,fu,fv,(Aw (x:=(AX.mk (AL.mk c.p.funcs) c.most (Wr (c.cost+1)) c.why)) fw)⟩
 refine Sr<|Vr (.bool (f.op==5))<|Va (.bool (f.op==5))<|AA<|Cn a (λfx a=>?_) λfx a=>?_
 refine Sr<|Vm<|have fy:=Bs an l;have fz:=K4 AI y o p r l;Bi a λbk f0 a=>Ca (Cg [Pt ab 0,I 52] Z) (Ku u a1 f0 dcd dcd fy (Aw (x:=(AX.mk (AL.mk c.p.funcs) c.most (Wr (c.cost+1)) c.why)) fz)) ?_
 rintro _ k9 ⟨f1,dv,la,rfl,f2,f3,f4,f5⟩
 obtain ⟨f6,f7,rfl,dw⟩:=E1 (BT f5)
 refine Va dv<|AA<|AS ?_
 obtain rfl:=AK a
 refine O1 B ag Z (.tmp Z)<|⟨f1,dv,[Sl f6 bk.2.p.funcs f7,I bk.2.most,I bk.2.cost,I bk.2.why],Z,Ho (T4 (Mo [1] o) p r l f2) af,f3,f4,(Aw (x:=bk.2) dw)⟩
 refine Sr<|Vr (.bool (f.op==6))<|Va (.bool (f.op==6))<|AA<|Cn a (λf8 a=>?_) λf8 a=>?_
 refine Sr<|Vm<|Vm<|Vx (Fd DW Z)<|have f9:=Bs av l;Vx (Ld B7 Z (Bc f9 Z))<|have ga:=Rs (Rs (Rs (Rs aq o) p) r) l;Bi a λlc gb a=>Ca (Cg [w,Sb f.name] Z) (UK ay u a1 gb ga) ?_
 rintro _ gc ⟨gd,ge,rfl,cr,gf⟩
 refine have gg:=Y2 an l cr;have gh:=Ss AI (K4 AI y o p r l) cr;Bi a λbl gi a=>Ca (Cg [Pt ab 0,ge] Z) (cc.ref11_Machine_of gd gc gi dcd dcd gg (Aw (x:=(AX.mk (AL.mk c.p.funcs) c.most (Wr (c.cost+1)) c.why)) gh) gf) ?_
 rintro _ ld ⟨gj,dx,le,rfl,gk,gl,gm,gn⟩
 obtain ⟨go,gp,rfl,dy⟩:=E1 (BT gn)
 refine Va dx<|AA<|AS ?_
 obtain rfl:=AK a
 refine O1 B ag Z (.tmp Z)<|⟨gj,dx,[Sl go bl.2.p.funcs gp,I bl.2.most,I bl.2.cost,I bl.2.why],Z,Ho (Tn (T4 (Mo [1] o) p r l cr) gk) af,gl,gm,(Aw (x:=bl.2) dy)⟩
 refine Sr<|Vr (.bool (f.op==7))<|Va (.bool (f.op==7))<|AA<|Cn a (λgq a=>?_) λgq a=>?_
 refine Am (λa0 bb=>∃ad a2 b2 dz ao ct cu d0 ah ai aj ak al z bm bn am d1,a0=Env.puts ad [(0,Pt ab 0),(2,w),(4,Pt cf 0),(7,Pt b2 0)]/\JN ap ay c f ac ao ah ai aj ak al z am=some bh/\AU [25] u a1 a2 bb/\Slc AZ a2.F bb (Sl ct ao cu) ao/\Slc AG a2.F bb (Sl bm z bn) z/\Bk a2 bb 25 b2 [Sb dz,Sl ct ao cu,I d0,I ah,Sb ai,Sb aj,I ak,Cx al,Sl bm z bn,I am,I d1] 58) ?_ ?_
 refine BZ C7 (qs 0 6 (.two 6 10 (qs 7 3 (.one 10 (.one 11 (.q 12 .nil)))) (.one 6 (qs 7 3 (.one 11 (.q 12 .nil)))))) [] [25] u (by kernel_rfl) λgr bc=>Qx e Z (v:=Pt ab 0) (λ_ _=>Mv Z)<|Qx e Z (λ_ _=>Nc Z)<|Qx e Z (λ_ _=>Fz Yl Z)<|have gs:=Y2 an l bc;Qx e Z (λ_ ⟨_,d⟩=>Lx Fw Z Z (Bk.part (Bs gs d) 0 [Sl ar c.p.funcs au] Z))<|Qx e Z (λ_ _=>Fd DW Z)<|have gt:=Y2 av l bc;Qx e Z (λ_ ⟨_,d⟩=>Ld B7 Z (Bc (Bs gt d) Z))<|Nq Z Z ?_ ?_
 refine have gu:=Ss AI (K4 AI y o p r l) bc;Bi a λm gv a=>A4 Z (.none Z) Z Z (Cg [Ag [Sl ar c.p.funcs au],Sb f.name] Z)<|Calls.mono (L4 ay u gr gv (BL (x:=(AL.mk c.p.funcs)) gu)) ?_
 rintro _ lg ⟨gw,lh,rfl,b3,gx⟩
 obtain ⟨li,lj,rfl,d2,d3⟩:=CL gx
 obtain ⟨cv,cw,rfl⟩:=AW d2
 obtain ⟨cx,cy,rfl⟩:=AW d3
 refine ⟨_,Z,⟨_,(Mo [25] b3)⟩,?_⟩
 refine Qx e Z (v:=.tuple #[Ag [Sb m.1.name,Sl cv m.1.params cw,I m.1.type_,I m.1.body.op,Sb m.1.body.name,Sb m.1.body.tail,I m.1.body.type_,Cx m.1.body.num,Sl cx m.1.body.args cy,I m.1.body.at_,I m.1.at_],.bool m.2]) (λ_ _=>Mv Z)<|Qx e Z (v:=Ag [Sb m.1.name,Sl cv m.1.params cw,I m.1.type_,I m.1.body.op,Sb m.1.body.name,Sb m.1.body.tail,I m.1.body.type_,Cx m.1.body.num,Sl cx m.1.body.args cy,I m.1.body.at_,I m.1.at_]) (λ_ _=>Z)<|Qx e Z (v:=.bool m.2) (λ_ _=>Z)<|A2 Z<|Bn Z (.none Z) Z Z<|Aa gw 25 KZ Z λgy lk gz g0 bo=>⟨⟨_,(Tn (Mo [25] b3) bo)⟩,?_⟩
 refine A2 Z<|have g1:=Ss AZ d2 bo;have g2:=Ss AG d3 bo;BS Z (.none Z) Z<|St LP g0 Z Z Z Z λll g3 b4=>⟨⟨_,(T2 (Mo [25] b3) bo b4)⟩,?_⟩
 refine Qx e Z (v:=.bool m.2) (λ_ _=>Run.assign Z)<|CA<|have g4:=Ss AZ g1 b4;have g5:=Ss AG g2 b4;⟨_,gy,gz,m.1.name,m.1.params,cv,cw,m.1.type_,m.1.body.op,m.1.body.name,m.1.body.tail,m.1.body.type_,m.1.body.num,m.1.body.args,cx,cy,m.1.body.at_,m.1.at_,Pu,a,(T3 (Mo [25] bc) b3 bo b4),g4,g5,g3⟩
 refine Bn Z (.none Z) Z Z<|Aa u 25 KZ Z λg6 g7 g8 g9 bp=>⟨⟨_,(Mo [25] bp)⟩,?_⟩
 refine A2 Z<|have ha:=K2 AI (K4 AI y o p r l) bc bp;Bi a λn hb a=>A4 Z (.none Z) Z Z (Cg [Ag [Sl ar c.p.funcs au],Sb f.name] Z)<|Calls.mono (L4 ay g6 g7 hb (BL (x:=(AL.mk c.p.funcs)) ha)) ?_
 rintro _ lm ⟨hc,ln,rfl,b5,hd⟩
 obtain ⟨lo,lp,rfl,d4,d5⟩:=CL hd
 obtain ⟨cz,c0,rfl⟩:=AW d4
 obtain ⟨c1,c2,rfl⟩:=AW d5
 refine ⟨_,Z,⟨_,(Tn (Mo [25] bp) b5)⟩,?_⟩
 refine Qx e Z (v:=.tuple #[Ag [Sb n.1.name,Sl cz n.1.params c0,I n.1.type_,I n.1.body.op,Sb n.1.body.name,Sb n.1.body.tail,I n.1.body.type_,Cx n.1.body.num,Sl c1 n.1.body.args c2,I n.1.body.at_,I n.1.at_],.bool n.2]) (λ_ _=>Mv Z)<|Qx e Z (v:=Ag [Sb n.1.name,Sl cz n.1.params c0,I n.1.type_,I n.1.body.op,Sb n.1.body.name,Sb n.1.body.tail,I n.1.body.type_,Cx n.1.body.num,Sl c1 n.1.body.args c2,I n.1.body.at_,I n.1.at_]) (λ_ _=>Z)<|Qx e Z (v:=.bool n.2) (λ_ _=>Z)<|A2 Z<|have he:=Bs g9 b5;BS Z (.none Z) Z<|St LP he Z Z Z Z λlq hf b6=>⟨⟨_,(T2 (Mo [25] bp) b5 b6)⟩,?_⟩
 refine Qx e Z (v:=.bool n.2) (λ_ _=>Run.assign Z)<|CA<|have hg:=Ss AZ d4 b6;have hh:=Ss AG d5 b6;⟨_,hc,g8,n.1.name,n.1.params,cz,c0,n.1.type_,n.1.body.op,n.1.body.name,n.1.body.tail,n.1.body.type_,n.1.body.num,n.1.body.args,c1,c2,n.1.body.at_,n.1.at_,Pu,a,(T3 (Mo [25] bc) bp b5 b6),hg,hh,hf⟩
 rintro _ bb ⟨ad,a2,b2,dz,ao,ct,cu,d0,ah,ai,aj,ak,al,z,bm,bn,am,d1,rfl,a,bd,hi,hj,d6⟩
 rw [JN] at a
 refine Sr<|Va (.pointer none)<|AA<|AT<|Sr<|Va (I 0)<|AA<|Ah<|Bj (λaw a0 b7=>∃ad ax bq a3 aa,a0=Env.puts ad [(0,Pt ab 0),(2,w),(4,Pt cf 0),(7,Pt b2 0),(9,a3),(10,I aa)]/\E0 ap c f ac ao ah ai aj ak al z am aw bq aa=some bh/\AU [26,27] a2 bb ax b7/\RNm ax.F b7 a3 bq) ay ?_ ?_
 exact ⟨_,a2,Nm.nil,.pointer none,0,Pu,a,(AU.refl [26,27] _ _),RNm.nil⟩
 rintro aw _ b7 ⟨ad,ax,bq,a3,aa,rfl,a,ae,c3⟩
 rcases aw with _|aw
 exact A5 a
 refine have a:G7 ap c f ac ao ah ai aj ak al z am (E0 ap c f ac ao ah ai aj ak al z am aw) bq aa=some bh:=a; ?_
 obtain ⟨lr,d7⟩:∃s,s=E0 ap c f ac ao ah ai aj ak al z am aw:=⟨_,rfl⟩
 rw [<-d7,G7] at a
 refine AT<|Sr<|Vm<|Vx (Fd BR Z)<|have d8:=Y3 av l bd ae;Vx (Ld CR Z (Bc d8 Z))<|have d9:=K2 AG (K4 AG b1 o p r l) bd ae; ?_
 obtain ⟨ls,lt,hk⟩:=AW d9
 refine Vx (v:=I (f.args.length:Int)) (Ll CG hk)<|Vr (.bool (decide (aa< (f.args.length:Int))))<|AA<|Cn a (λhl a=>?_) λhl a=>?_
 refine AR<|AT<|Ah<|BZ C7 (qs 0 13 (.q 14 (.one 13 (.q 15 (.one 16 (.q 17 .nil)))))) [] [] ax (by kernel_rfl) λea a4=>Qx e Z (λ_ _=>Fd De Z)<|have hm:=Y2 d6 ae a4;Qx e Z (λ_ ⟨_,d⟩=>Ld EF Z (Bc (Bs hm d) Z))<|Qx e Z (v:=I aa) (λ_ _=>Mv Z)<|Bi a λc4 hn a=>have ho:=K2 AZ hi ae a4; ?_
 obtain ⟨hp,hq,lu,hr,hs,ht,hu,hw,c5⟩:=A8 (κ:=AZ) ho hn
 replace c5:Ay ax ea hp (hq+aa.toNat*3) hr:=c5
 obtain rfl:=EK hw
 refine Qx e Z (λ_ _=>Ix Df hs Z ht hu)<|Qx e Z (λ_ _=>Fz Kl Z)<|Qx e Z (λ_ ⟨_,d⟩=>Ld B7 Z (Ay.cell0 (Es c5 d) Z))<|Qx e Z (λ_ _=>Fd BR Z)<|have hx:=Bs d8 a4;Qx e Z (λ_ ⟨_,d⟩=>Ld CR Z (Bc (Bs hx d) Z))<|Qx e Z (v:=I aa) (λ_ _=>Mv Z)<|Bi a λq hy a=>have hz:=Ss AG d9 a4; ?_
 obtain ⟨h0,h1,lv,h2,h3,h4,h5,h6,c6⟩:=A8 (κ:=AG) hz hy
 replace c6:Ay ax ea h0 (h1+aa.toNat*7) h2:=c6
 obtain ⟨b8,b9,rfl,eb⟩:=E1 (Ae h6)
 refine Qx e Z (λ_ _=>Ix CG h3 Z h4 h5)<|Qx e Z (λ_ ⟨_,d⟩=>Lx BA Z Z (Ay.part0 (Es c6 d) [I q.op,Sb q.name,Sb q.tail,I q.type_,Cx q.num,Sl b8 q.args b9,I q.at_] Z))<|Qx e Z (v:=w) (λ_ _=>Mv Z)<|Qx e Z (v:=Ag [.bool false,.bool false,I 0,Cx (((0,0):Cpl)),.bool false,.slice none 0 0,.pointer none,.pointer none,I q.op,Sb q.name,Sb q.tail,I q.type_,Cx q.num,Sl b8 q.args b9,I q.at_,w]) (λ_ _=>CK (cs:=[.bool false,.bool false,I 0,Cx (((0,0):Cpl)),.bool false,.slice none 0 0,.pointer none,.pointer none,I q.op,Sb q.name,Sb q.tail,I q.type_,Cx q.num,Sl b8 q.args b9,I q.at_,w]) [.bool false,.bool false,I 0,Cx (((0,0):Cpl)),.bool false,.slice none 0 0,.pointer none,.pointer none,I 0,Sb ([]:Bts),Sb ([]:Bts),I 0,Cx (((0,0):Cpl)),.slice none 0 0,I 0,.pointer none] Jm Jk Z (.cons Z Z Z (.cons Z (Dq (RNm.one aq)) Z .nil)) Z Z)<|Qx e Z (v:=a3) (λ_ _=>Mv Z)<|A2 Z<|Bn Z (.none Z) Z Z<|A0 ax 26 Z Z λh7 lx ec h8 be=>⟨⟨_,(Mo [] be)⟩,?_⟩
 refine Qx e Z (v:=Ag [Sb c4.name,Pt ec 0,a3]) (λ_ _=>CK (cs:=[Sb c4.name,Pt ec 0,a3]) [Sb ([]:Bts),.pointer none,.pointer none] P0 Pz Z (.cons Z Z Z (.cons Z Z Z (.cons Z (Dq (RNm.one c3)) Z .nil))) Z Z)<|A2 Z<|Bn Z (.none Z) Z Z<|A0 h7 27 Z Z λly lz ed h9 bf=>⟨⟨_,(Tn (Mo [] be) bf)⟩,?_⟩
 refine Qx e Z (v:=Pt ed 0) (λ_ _=>Run.assign Z)<|CA<|AM<|Vm<|Vr (I (Wr (aa+1)))<|Va (I (Wr (aa+1)))<|AA<|have ia:=K2 AG eb be bf;have ib:=Bs h8 bf;have ic:=Rs (Rs (Rs (Rs (Rs (Rs (Rs (Rs (Rs aq o) p) r) l) bd) ae) a4) be) bf; ?_
 obtain ⟨l0,c7,id⟩:=RTh.layLater (cp:=[I 0,Cx (((0,0):Cpl)),.bool false,.slice none 0 0]) (ce:=[I q.op,Sb q.name,Sb q.tail,I q.type_,Cx q.num,Sl b8 q.args b9,I q.at_]) ib dcd (Ao (x:=(AD.mk 0 ((0,0):Cpl) false [])) Ba) (AY (x:=q) ia) ic
 refine have ie:=Bs h9 c7;have ig:=Rs (Rs (Rs (Rs c3 a4) be) bf) c7; ?_
 obtain ⟨ih,ii,ij⟩:=RNm.lay ie dcd id ig
 exact ⟨aw,Nat.lt_succ_self aw,_,ih,(Nm.bind c4.name (Th.later q ac) bq),Pt ed 0,(Wr (aa+1)),Pu,(d7▸a),(Tn (T4 (Mo [26,27] ae) a4 be bf c7) ii),ij⟩
 refine BX<|Sr<|Vm<|Vx (Fd LO Z)<|have ik:=Bs d6 ae;Vx (Lx BA Z Z (Bk.part ik 3 [I ah,Sb ai,Sb aj,I ak,Cx al,Sl bm z bn,I am] Z))<|Vm<|have il:=Y3 an l bd ae;have im:=K2 AI (K4 AI y o p r l) bd ae;have io:=Ss AG hj ae;Bi a λbr ip a=>Ca (Cg [Pt ab 0,Ag [I ah,Sb ai,Sb aj,I ak,Cx al,Sl bm z bn,I am],a3] Z) (cc.ref11_Machine_look ax b7 ip dcd dcd il (Aw (x:=(AX.mk (AL.mk c.p.funcs) c.most (Wr (c.cost+1)) c.why)) im) (AY (x:=(AE.mk ah ai aj ak al z am)) io) c3) ?_
 rintro _ l1 ⟨iq,ee,l2,rfl,ir,it,iu,iv⟩
 obtain ⟨iw,ix,rfl,ef⟩:=E1 (BT iv)
 refine Va ee<|AA<|AS ?_
 obtain rfl:=AK a
 refine O1 B ag Z (.tmp Z)<|⟨iq,ee,[Sl iw br.2.p.funcs ix,I br.2.most,I br.2.cost,I br.2.why],Z,Ho (T2 (T4 (Mo [1,25,26,27] o) p r l bd) ae ir) af,it,iu,(Aw (x:=br.2) ef)⟩
 refine Sr<|Vr (.bool (f.op==18))<|Va (.bool (f.op==18))<|AA<|Cn a (λiy a=>?_) λiy a=>?_
 refine Am (λa0 c8=>∃ad ca c9 cb,a0=Env.puts ad [(6,cb)]/\JO c c9=some bh/\AU [28,29,30] u a1 ca c8/\RTh ca.F c8 cb c9) ?_ ?_
 refine BZ C7 (qs 0 6 (qs 7 6 (.two 6 13 (.one 13 (.q 14 (.one 15 (.q 16 .nil)))) (.one 6 (.q 14 (.one 15 (.q 16 .nil))))))) [] [] u (by kernel_rfl) λeg bg=>Qx e Z (λ_ _=>Fd BR Z)<|have eh:=Y2 av l bg;Qx e Z (λ_ ⟨_,d⟩=>Ld CR Z (Bc (Bs eh d) Z))<|Bi a λg iz a=>have ei:=Ss AG (K4 AG b1 o p r l) bg; ?_
 obtain ⟨i0,i1,l4,i2,i3,i4,i5,i6,da⟩:=A8 (κ:=AG) ei iz
 replace da:Ay u eg i0 (i1+(0:Int).toNat*7) i2:=da
 obtain ⟨bt,bu,rfl,db⟩:=E1 (Ae i6)
 refine Qx e Z (λ_ _=>Ix CG i3 Z i4 i5)<|Qx e Z (λ_ ⟨_,d⟩=>Lx BA Z Z (Ay.part0 (Es da d) [I g.op,Sb g.name,Sb g.tail,I g.type_,Cx g.num,Sl bt g.args bu,I g.at_] Z))<|Qx e Z (v:=w) (λ_ _=>Mv Z)<|Qx e Z (v:=Ag [.bool false,.bool false,I 0,Cx (((0,0):Cpl)),.bool false,.slice none 0 0,.pointer none,.pointer none,I g.op,Sb g.name,Sb g.tail,I g.type_,Cx g.num,Sl bt g.args bu,I g.at_,w]) (λ_ _=>CK (cs:=[.bool false,.bool false,I 0,Cx (((0,0):Cpl)),.bool false,.slice none 0 0,.pointer none,.pointer none,I g.op,Sb g.name,Sb g.tail,I g.type_,Cx g.num,Sl bt g.args bu,I g.at_,w]) [.bool false,.bool false,I 0,Cx (((0,0):Cpl)),.bool false,.slice none 0 0,.pointer none,.pointer none,I 0,Sb ([]:Bts),Sb ([]:Bts),I 0,Cx (((0,0):Cpl)),.slice none 0 0,I 0,.pointer none] Jm Jk Z (.cons Z Z Z (.cons Z (Dq (RNm.one aq)) Z .nil)) Z Z)<|Qx e Z (λ_ _=>Fd BR Z)<|Qx e Z (λ_ ⟨_,d⟩=>Ld CR Z (Bc (Bs eh d) Z))<|Bi a λh i7 a=>?_
 obtain ⟨i8,i9,l6,ja,jb,jc,jd,je,dc⟩:=A8 (κ:=AG) ei i7
 replace dc:Ay u eg i8 (i9+(1:Int).toNat*7) ja:=dc
 obtain ⟨bv,bw,rfl,de⟩:=E1 (Ae je)
 refine Qx e Z (λ_ _=>Ix CG jb Z jc jd)<|Qx e Z (λ_ ⟨_,d⟩=>Lx BA Z Z (Ay.part0 (Es dc d) [I h.op,Sb h.name,Sb h.tail,I h.type_,Cx h.num,Sl bv h.args bw,I h.at_] Z))<|Qx e Z (v:=w) (λ_ _=>Mv Z)<|Qx e Z (v:=Ag [.bool false,.bool false,I 0,Cx (((0,0):Cpl)),.bool false,.slice none 0 0,.pointer none,.pointer none,I h.op,Sb h.name,Sb h.tail,I h.type_,Cx h.num,Sl bv h.args bw,I h.at_,w]) (λ_ _=>CK (cs:=[.bool false,.bool false,I 0,Cx (((0,0):Cpl)),.bool false,.slice none 0 0,.pointer none,.pointer none,I h.op,Sb h.name,Sb h.tail,I h.type_,Cx h.num,Sl bv h.args bw,I h.at_,w]) [.bool false,.bool false,I 0,Cx (((0,0):Cpl)),.bool false,.slice none 0 0,.pointer none,.pointer none,I 0,Sb ([]:Bts),Sb ([]:Bts),I 0,Cx (((0,0):Cpl)),.slice none 0 0,I 0,.pointer none] Jm Jk Z (.cons Z Z Z (.cons Z (Dq (RNm.one aq)) Z .nil)) Z Z)<|Nq Z Z ?_ ?_
 refine Bn Z (.none Z) Z Z<|A0 u 28 Z Z λjf l8 df jg a5=>⟨⟨_,(Mo [] a5)⟩,?_⟩
 refine A2 Z<|Bn Z (.none Z) Z Z<|A0 jf 29 Z Z λjh l9 dg ji a6=>⟨⟨_,(Tn (Mo [] a5) a6)⟩,?_⟩
 refine Qx e Z (v:=Ag [.bool true,.bool true,I 0,Cx (((0,0):Cpl)),.bool false,.slice none 0 0,Pt df 0,Pt dg 0,I 0,Sb ([]:Bts),Sb ([]:Bts),I 0,Cx (((0,0):Cpl)),.slice none 0 0,I 0,.pointer none]) (λ_ _=>CK (cs:=[.bool true,.bool true,I 0,Cx (((0,0):Cpl)),.bool false,.slice none 0 0,Pt df 0,Pt dg 0,I 0,Sb ([]:Bts),Sb ([]:Bts),I 0,Cx (((0,0):Cpl)),.slice none 0 0,I 0,.pointer none]) [.bool false,.bool false,I 0,Cx (((0,0):Cpl)),.bool false,.slice none 0 0,.pointer none,.pointer none,I 0,Sb ([]:Bts),Sb ([]:Bts),I 0,Cx (((0,0):Cpl)),.slice none 0 0,I 0,.pointer none] Jm Jk Z (.cons Z Z Z (.cons Z Z Z (.cons Z Z Z (.cons Z Z Z .nil)))) Z Z)<|A2 Z<|Bn Z (.none Z) Z Z<|A0 jh 30 Z Z λma mb ej jj a7=>⟨⟨_,(T2 (Mo [] a5) a6 a7)⟩,?_⟩
 refine Qx e Z (v:=Pt ej 0) (λ_ _=>Run.assign Z)<|CA<|have jk:=K3 AG db a5 a6 a7;have jl:=Y2 jg a6 a7;have ek:=Rs (Rs (Rs (Rs (Rs (Rs (Rs (Rs aq o) p) r) l) bg) a5) a6) a7; ?_
 obtain ⟨mc,bx,jm⟩:=RTh.layLater (cp:=[I 0,Cx (((0,0):Cpl)),.bool false,.slice none 0 0]) (ce:=[I g.op,Sb g.name,Sb g.tail,I g.type_,Cx g.num,Sl bt g.args bu,I g.at_]) jl dcd (Ao (x:=(AD.mk 0 ((0,0):Cpl) false [])) Ba) (AY (x:=g) jk) ek
 refine have jn:=K4 AG de a5 a6 a7 bx;have jo:=Y2 ji a7 bx;have jp:=Rs ek bx; ?_
 obtain ⟨md,dh,jq⟩:=RTh.layLater (cp:=[I 0,Cx (((0,0):Cpl)),.bool false,.slice none 0 0]) (ce:=[I h.op,Sb h.name,Sb h.tail,I h.type_,Cx h.num,Sl bv h.args bw,I h.at_]) jo dcd (Ao (x:=(AD.mk 0 ((0,0):Cpl) false [])) Ba) (AY (x:=h) jn) jp
 refine have jr:=Y2 jj bx dh;have js:=RTh.step jm dh dcd; ?_
 obtain ⟨jt,ju,jv⟩:=RTh.layDone (hv:=Pt df 0) (tv:=Pt dg 0) (cp:=[I 0,Cx (((0,0):Cpl)),.bool false,.slice none 0 0]) (ce:=[I 0,Sb ([]:Bts),Sb ([]:Bts),I 0,Cx (((0,0):Cpl)),.slice none 0 0,I 0]) jr dcd (Ao (x:=(AD.mk 0 ((0,0):Cpl) false [])) Ba) (AY (x:=(AE.mk 0 ([]:Bts) ([]:Bts) 0 ((0,0):Cpl) [] 0)) Ba) js jq
 exact ⟨_,jt,(Th.done (AD.mk 0 ((0,0):Cpl) false []) (Th.later g ac) (Th.later h ac)),Pt ej 0,Pu,a,(T2 (T4 (Mo [28,29,30] bg) a5 a6 a7 bx) dh ju),jv⟩
 refine Bn Z (.none Z) Z Z<|A0 u 29 Z Z λjw me di jx a8=>⟨⟨_,(Mo [] a8)⟩,?_⟩
 refine A2 Z<|Bn Z (.none Z) Z Z<|A0 jw 28 Z Z λjy mf dj jz a9=>⟨⟨_,(Tn (Mo [] a8) a9)⟩,?_⟩
 refine Qx e Z (v:=Ag [.bool true,.bool true,I 0,Cx (((0,0):Cpl)),.bool false,.slice none 0 0,Pt dj 0,Pt di 0,I 0,Sb ([]:Bts),Sb ([]:Bts),I 0,Cx (((0,0):Cpl)),.slice none 0 0,I 0,.pointer none]) (λ_ _=>CK (cs:=[.bool true,.bool true,I 0,Cx (((0,0):Cpl)),.bool false,.slice none 0 0,Pt dj 0,Pt di 0,I 0,Sb ([]:Bts),Sb ([]:Bts),I 0,Cx (((0,0):Cpl)),.slice none 0 0,I 0,.pointer none]) [.bool false,.bool false,I 0,Cx (((0,0):Cpl)),.bool false,.slice none 0 0,.pointer none,.pointer none,I 0,Sb ([]:Bts),Sb ([]:Bts),I 0,Cx (((0,0):Cpl)),.slice none 0 0,I 0,.pointer none] Jm Jk Z (.cons Z Z Z (.cons Z Z Z (.cons Z Z Z (.cons Z Z Z .nil)))) Z Z)<|A2 Z<|Bn Z (.none Z) Z Z<|A0 jy 30 Z Z λmg mh el j0 ba=>⟨⟨_,(T2 (Mo [] a8) a9 ba)⟩,?_⟩
 refine Qx e Z (v:=Pt el 0) (λ_ _=>Run.assign Z)<|CA<|have j1:=K3 AG db a8 a9 ba;have j2:=Bs jz ba;have em:=Rs (Rs (Rs (Rs (Rs (Rs (Rs (Rs aq o) p) r) l) bg) a8) a9) ba; ?_
 obtain ⟨mi,bz,j3⟩:=RTh.layLater (cp:=[I 0,Cx (((0,0):Cpl)),.bool false,.slice none 0 0]) (ce:=[I g.op,Sb g.name,Sb g.tail,I g.type_,Cx g.num,Sl bt g.args bu,I g.at_]) j2 dcd (Ao (x:=(AD.mk 0 ((0,0):Cpl) false [])) Ba) (AY (x:=g) j1) em
 refine have j4:=K4 AG de a8 a9 ba bz;have j5:=Y3 jx a9 ba bz;have j6:=Rs em bz; ?_
 obtain ⟨mj,dk,j7⟩:=RTh.layLater (cp:=[I 0,Cx (((0,0):Cpl)),.bool false,.slice none 0 0]) (ce:=[I h.op,Sb h.name,Sb h.tail,I h.type_,Cx h.num,Sl bv h.args bw,I h.at_]) j5 dcd (Ao (x:=(AD.mk 0 ((0,0):Cpl) false [])) Ba) (AY (x:=h) j4) j6
 refine have j8:=Y2 j0 bz dk;have j9:=RTh.step j3 dk dcd; ?_
 obtain ⟨ka,kb,kc⟩:=RTh.layDone (hv:=Pt dj 0) (tv:=Pt di 0) (cp:=[I 0,Cx (((0,0):Cpl)),.bool false,.slice none 0 0]) (ce:=[I 0,Sb ([]:Bts),Sb ([]:Bts),I 0,Cx (((0,0):Cpl)),.slice none 0 0,I 0]) j8 dcd (Ao (x:=(AD.mk 0 ((0,0):Cpl) false [])) Ba) (AY (x:=(AE.mk 0 ([]:Bts) ([]:Bts) 0 ((0,0):Cpl) [] 0)) Ba) j9 j7
 exact ⟨_,ka,(Th.done (AD.mk 0 ((0,0):Cpl) false []) (Th.later g ac) (Th.later h ac)),Pt el 0,Pu,a,(T2 (T4 (Mo [28,29,30] bg) a8 a9 ba bz) dk kb),kc⟩
 rintro _ c8 ⟨ad,ca,c9,cb,rfl,a,dl,kd⟩
 rw [JO] at a
 refine AS ?_
 obtain rfl:=AK a
 refine O1 B ag Z (.tmp Z)<|have ke:=Y2 an l dl;have kf:=Ss AI (K4 AI y o p r l) dl;⟨ca,cb,[Sl ar c.p.funcs au,I c.most,I (Wr (c.cost+1)),I c.why],Z,Ho (T4 (Mo [1,28,29,30] o) p r l dl) af,kd,ke,(Aw (x:=(AX.mk (AL.mk c.p.funcs) c.most (Wr (c.cost+1)) c.why)) kf)⟩
 refine AR<|Sr<|Vm<|have kg:=Bs av l;Vx (Lx BA Z Z (Bk.part kg 0 [I f.op,Sb f.name,Sb f.tail,I f.type_,Cx f.num,Sl dm f.args dn,I f.at_] Z))<|Vm<|have kh:=Bs an l;have ki:=K4 AI y o p r l;have kj:=K4 AG b1 o p r l;have kk:=Rs (Rs (Rs (Rs aq o) p) r) l;Bi a λb0 kl a=>Ca (Cg [Pt ab 0,Ag [I f.op,Sb f.name,Sb f.tail,I f.type_,Cx f.num,Sl dm f.args dn,I f.at_],w] Z) (cc.ref11_Machine_inside u a1 kl dcd dcd kh (Aw (x:=(AX.mk (AL.mk c.p.funcs) c.most (Wr (c.cost+1)) c.why)) ki) (AY (x:=f) kj) kk) ?_
 rintro _ mk ⟨km,en,ml,rfl,kn,ko,kp,kq⟩
 obtain ⟨kr,ks,rfl,eo⟩:=E1 (BT kq)
 refine Va en<|AA<|AS ?_
 obtain rfl:=AK a
 refine O1 B ag Z (.tmp Z)<|⟨km,en,[Sl kr b0.2.p.funcs ks,I b0.2.most,I b0.2.cost,I b0.2.why],Z,Ho (T4 (Mo [1] o) p r l kn) af,ko,kp,(Aw (x:=b0.2) eo)⟩
theorem OY(c:AP)(e:Nat)(h:AP.Good c):ref11_Machine_look.Spec (BJ c e):=by
 intro d f a aa ab ac ad ae af ag ah l hnd hnz g m n o
 refine Calls.mono (OX c e h (recol (see [a]) d) f (E9 (Nat.le_of_ble_eq_true Z) d) l trivial trivial (BY g [a] (BU hnd hnz (i:=0) Z)) (Bd B1 m [a]) (Bd AG n [a]) (RNm.recol o [a])) ?_
 rintro ai aj ⟨p,q,r,s,u,w,y,z⟩
 exact ⟨glue [a] f d p,q,r,s,B8 u (E4 Z Z),RTh.glue w,EJ g y dcd,ED B1 z⟩
theorem Pe(s:AP)(aq:Nat)(ar:AP.Good s)(m:Col)(u:World)(af:∀b,m b<10):ref11_Machine_of.At True True m u (Hd s aq) 1:=by
 intro w h b4 au o av c _ _ y aw z
 rw [Hd] at c
 obtain ⟨ax,ay,rfl,aa⟩:=E1 (BT aw)
 refine Az Tryz.func59 Z Tryz.ntmps59 Z λB ag g=>Sr<|Va (.pointer none)<|AA<|AT<|Am (λaz ah=>∃ai n ab,az=Env.puts ai [(0,Pt w 0),(1,o),(15,.bool ab)]/\J4 s h au ab=some av/\AU [] m u n ah) ?_ ?_
 refine AM<|Vm<|Vx (Nc Z)<|Vx (Fd Ks Z)<|Vx (Ld BC Z (Bc y Z))<|Vr (.bool (h.why != 0))<|Vm<|Bo c (λe c=>?_) λe c=>?_
 refine Pg e<|Pg e<|Pg e<|Pg e<|Vp e<|AA<|⟨_,m,true,Pu,c,Rf⟩
 refine Gm e<|Bi c λd a0 c=>?_
 obtain ⟨a1,b6,a2,a3,b7,a4,a5,ac,a6,b8,b9,a7,ca⟩:=RTh.el z a0
 obtain ⟨a9,ba,rfl,a8⟩:=E1 (A1 a6)
 obtain ⟨bc,bd,rfl,bb⟩:=E1 (Ae a7)
 replace ac:Ay m u a1 0 [.bool d.known,.bool d.pair,I d.value.type_,Cx d.value.num,.bool d.value.bool,Sl a9 d.value.list ba,a2,a3,I d.e.op,Sb d.e.name,Sb d.e.tail,I d.e.type_,Cx d.e.num,Sl bc d.e.args bd,I d.e.at_,a4]:=ac
 refine Gx e (Nc a5)<|Gx e (Fz Yr Z)<|Gx e (Ld M0 Z (Ay.cell0 ac Z))<|Vp e<|AA<|⟨_,m,d.known,Pu,c,Rf⟩
 rintro _ ah ⟨ai,n,ab,rfl,c,l⟩
 rw [J4] at c
 refine Cn c (λbe c=>?_) λbe c=>?_
 refine Sr<|Vm<|Va o<|AA<|AS ?_
 obtain rfl:=AK c
 refine O1 B ag Z (.tmp Z)<|have bf:=RTh.step z l dcd;have bg:=Bs y l;have bh:=Ss AI aa l;⟨n,o,[Sl ax h.p.funcs ay,I h.most,I h.cost,I h.why],Z,Ho (Mo [] l) af,bf,bg,(Aw (x:=h) bh)⟩
 refine AR<|AT<|BZ C7 (qs 0 9 (.one 9 (.q 10 .nil))) [] [1] n (by kernel_rfl) λaj q=>Qx g Z (v:=Pt w 0) (λ_ _=>Mv Z)<|Qx g Z (v:=o) (λ_ _=>Mv Z)<|have bi:=RTh.step (RTh.step z l dcd) q dcd;Bi c λa bj c=>?_
 obtain ⟨bk,cd,bl,bm,cf,ak,al,r,bn,cg,ch,bo,bp⟩:=RTh.el bi bj
 obtain ⟨br,bt,rfl,bq⟩:=E1 (A1 bn)
 obtain ⟨ad,ae,rfl,am⟩:=E1 (Ae bo)
 replace r:Ay n aj bk 0 [.bool a.known,.bool a.pair,I a.value.type_,Cx a.value.num,.bool a.value.bool,Sl br a.value.list bt,bl,bm,I a.e.op,Sb a.e.name,Sb a.e.tail,I a.e.type_,Cx a.e.num,Sl ad a.e.args ae,I a.e.at_,ak]:=r
 refine Qx g Z (λ_ _=>Nc al)<|Qx g Z (λ_ _=>Fd Ys Z)<|Qx g Z (λ_ ⟨_,f⟩=>Lx BA Z Z (Kd.At.part (Ay.at_ (Es r f)) 8 [I a.e.op,Sb a.e.name,Sb a.e.tail,I a.e.type_,Cx a.e.num,Sl ad a.e.args ae,I a.e.at_] Z))<|Qx g Z (v:=o) (λ_ _=>Mv Z)<|Qx g Z (λ_ _=>Nc al)<|Qx g Z (λ_ _=>Fd VX Z)<|Qx g Z (λ_ ⟨_,f⟩=>Ld YF Z (Ay.cell (k:=15) (Es r f) Z))<|A2 Z<|have bu:=Y2 y l q;have bv:=K2 AI aa l q;Bi c λp bw c=>A4 Z (.none Z) Z Z (Cg [Pt w 0,Ag [I a.e.op,Sb a.e.name,Sb a.e.tail,I a.e.type_,Cx a.e.num,Sl ad a.e.args ae,I a.e.at_],ak] Z)<|Calls.mono (ar.ref11_Machine_look n aj bw dcd dcd bu (Aw (x:=h) bv) (AY (x:=a.e) am) bp) ?_
 rintro _ ck ⟨bx,an,cl,rfl,ao,bz,b0,b1⟩
 obtain ⟨b2,b3,rfl,ap⟩:=E1 (BT b1)
 refine ⟨_,Z,⟨_,(Mo [1] ao)⟩,?_⟩
 refine Qx g Z (v:=an) (λ_ _=>Run.assign Z)<|CA<|AS ?_
 obtain rfl:=AK c
 refine O1 B ag Z (.tmp Z)<|⟨bx,an,[Sl b2 p.2.p.funcs b3,I p.2.most,I p.2.cost,I p.2.why],Z,Ho (T2 (Mo [1] l) q ao) af,bz,b0,(Aw (x:=p.2) ap)⟩
theorem Pf(c:AP)(e:Nat)(h:AP.Good c):ref11_Machine_of.Spec (Hd c e):=by
 intro d f a z aa ab ac ad ae l hnd hnz g m n
 refine Calls.mono (Pe c e h (recol (see [a]) d) f (E9 (Nat.le_of_ble_eq_true Z) d) l trivial trivial (BY g [a] (BU hnd hnz (i:=0) Z)) (Bd B1 m [a]) (RTh.recol n [a])) ?_
 rintro af ag ⟨o,p,q,r,s,u,w,y⟩
 exact ⟨glue [a] f d o,p,q,r,B8 s (E4 Z Z),RTh.glue u,EJ g w dcd,ED B1 y⟩
theorem N4(a7:AP)(a8:Nat)(al:AP.Good a7)(ct:Col)(f4:World)(aq:∀b,ct b<10):ref11_Machine_inside.At True True ct f4 (BN a7 a8) 1:=by
 intro n ay pi h pj bm m cu a _ _ bn f5 f6 bg
 rw [BN] at a
 obtain ⟨f7,f8,rfl,bh⟩:=E1 (BT f5)
 obtain ⟨pm,pn,rfl,bi⟩:=E1 (Ae f6)
 refine Az Tryz.func62 Z Tryz.ntmps62 Z λB ar d=>Sr<|Ef<|A0 ct 20 Z Z λai a9 du aj f=>Va (.pointer none)<|AA<|AT<|Sr<|Vx (Fz Cp Z)<|Vx (Ld GC Z (Bc aj Z))<|AA<|Ah<|Sr<|Vr (.bool (h.op==19))<|Va (.bool (h.op==19))<|AA<|Cn a (λf9 a=>?_) λf9 a=>?_
 refine Sr<|Vm<|Vx (Fd BR Z)<|Vx (Ld CR Z (Bc aj Z))<|Bi a λo ga a=>have cv:=Ss AG bi f; ?_
 obtain ⟨gb,o26,po,gc,gd,ge,gf,gg,cw⟩:=A8 (κ:=AG) cv ga
 replace cw:Ay ai a9 gb (o26+(0:Int).toNat*7) gc:=cw
 obtain ⟨dw,dx,rfl,dv⟩:=E1 (Ae gg)
 refine Vx (Ix CG gd Z ge gf)<|Vx (Lx BA Z Z (Ay.part0 cw [I o.op,Sb o.name,Sb o.tail,I o.type_,Cx o.num,Sl dw o.args dx,I o.at_] Z))<|Vm<|have gh:=Bs bn f;have gi:=Ss AI bh f;have cx:=Rs bg f;Bi a λdy gj a=>Ca (Cg [Pt n 0,Ag [I o.op,Sb o.name,Sb o.tail,I o.type_,Cx o.num,Sl dw o.args dx,I o.at_],m] Z) (al.ref11_Machine_look ai a9 gj dcd dcd gh (Aw (x:=ay) gi) (AY (x:=o) dv) cx) ?_
 rintro _ bo ⟨bp,gk,pq,rfl,az,gl,dz,gm⟩
 obtain ⟨ps,pt,rfl,cy⟩:=E1 (BT gm)
 refine Va gk<|AA<|AT<|Sr<|Vm<|Bi a λad gn a=>?_
 obtain ⟨go,pu,gp,gq,pv,gr,gs,cz,gt,pw,px,gu,py⟩:=RTh.el gl gn
 obtain ⟨gw,gx,rfl,gv⟩:=E1 (A1 gt)
 obtain ⟨gz,g0,rfl,gy⟩:=E1 (Ae gu)
 replace cz:Ay bp bo go 0 [.bool ad.known,.bool ad.pair,I ad.value.type_,Cx ad.value.num,.bool ad.value.bool,Sl gw ad.value.list gx,gp,gq,I ad.e.op,Sb ad.e.name,Sb ad.e.tail,I ad.e.type_,Cx ad.e.num,Sl gz ad.e.args g0,I ad.e.at_,gr]:=cz
 refine Vx (Nc gs)<|Vx (Fd Pw Z)<|Vx (Fd Kj Z)<|Vx (Ld M0 Z (Ay.cell (k:=4) cz Z))<|AA<|Cn a (λg1 a=>?_) λg1 a=>?_
 refine Sr<|Vm<|Vx (Fd BR Z)<|have g2:=Bs aj az;Vx (Ld CR Z (Bc g2 Z))<|Bi a λp g3 a=>have g4:=Ss AG cv az; ?_
 obtain ⟨g5,g6,p1,g7,g8,g9,ha,hb,c0⟩:=A8 (κ:=AG) g4 g3
 replace c0:Ay bp bo g5 (g6+(1:Int).toNat*7) g7:=c0
 obtain ⟨d1,d2,rfl,d0⟩:=E1 (Ae hb)
 refine Vx (Ix CG g8 Z g9 ha)<|Vx (Lx BA Z Z (Ay.part0 c0 [I p.op,Sb p.name,Sb p.tail,I p.type_,Cx p.num,Sl d1 p.args d2,I p.at_] Z))<|Vm<|have hc:=Rs cx az;Bi a λbq hd a=>Ca (Cg [Pt n 0,Ag [I p.op,Sb p.name,Sb p.tail,I p.type_,Cx p.num,Sl d1 p.args d2,I p.at_],m] Z) (al.ref11_Machine_look bp bo hd dcd dcd dz (Aw (x:=dy.2) cy) (AY (x:=p) d0) hc) ?_
 rintro _ p3 ⟨he,d3,p4,rfl,hf,hg,hh,hi⟩
 obtain ⟨hj,hk,rfl,d4⟩:=E1 (BT hi)
 refine Va d3<|AA<|AS ?_
 obtain rfl:=AK a
 refine O1 B ar Z (.tmp Z)<|⟨he,d3,[Sl hj bq.2.p.funcs hk,I bq.2.most,I bq.2.cost,I bq.2.why],Z,Ho (T2 (Mo [1] f) az hf) aq,hg,hh,(Aw (x:=bq.2) d4)⟩
 refine AR<|Sr<|Vm<|Vx (Fd BR Z)<|have hl:=Bs aj az;Vx (Ld CR Z (Bc hl Z))<|Bi a λq hm a=>have hn:=Ss AG cv az; ?_
 obtain ⟨ho,hp,p6,hq,hr,hs,ht,hu,c1⟩:=A8 (κ:=AG) hn hm
 replace c1:Ay bp bo ho (hp+(2:Int).toNat*7) hq:=c1
 obtain ⟨d6,d7,rfl,d5⟩:=E1 (Ae hu)
 refine Vx (Ix CG hr Z hs ht)<|Vx (Lx BA Z Z (Ay.part0 c1 [I q.op,Sb q.name,Sb q.tail,I q.type_,Cx q.num,Sl d6 q.args d7,I q.at_] Z))<|Vm<|have hw:=Rs cx az;Bi a λbr hx a=>Ca (Cg [Pt n 0,Ag [I q.op,Sb q.name,Sb q.tail,I q.type_,Cx q.num,Sl d6 q.args d7,I q.at_],m] Z) (al.ref11_Machine_look bp bo hx dcd dcd dz (Aw (x:=dy.2) cy) (AY (x:=q) d5) hw) ?_
 rintro _ p8 ⟨hy,d8,p9,rfl,hz,h0,h1,h2⟩
 obtain ⟨h3,h4,rfl,d9⟩:=E1 (BT h2)
 refine Va d8<|AA<|AS ?_
 obtain rfl:=AK a
 refine O1 B ar Z (.tmp Z)<|⟨hy,d8,[Sl h3 br.2.p.funcs h4,I br.2.most,I br.2.cost,I br.2.why],Z,Ho (T2 (Mo [1] f) az hz) aq,h0,h1,(Aw (x:=br.2) d9)⟩
 refine Sr<|Vr (.bool (h.op==20))<|Va (.bool (h.op==20))<|AA<|Cn a (λh5 a=>?_) λh5 a=>?_
 refine Sr<|Vm<|Vx (Fd BR Z)<|Vx (Ld CR Z (Bc aj Z))<|Bi a λr h6 a=>have c2:=Ss AG bi f; ?_
 obtain ⟨h7,h8,qb,h9,ia,ib,ic,id,c3⟩:=A8 (κ:=AG) c2 h6
 replace c3:Ay ai a9 h7 (h8+(0:Int).toNat*7) h9:=c3
 obtain ⟨eb,ec,rfl,ea⟩:=E1 (Ae id)
 refine Vx (Ix CG ia Z ib ic)<|Vx (Lx BA Z Z (Ay.part0 c3 [I r.op,Sb r.name,Sb r.tail,I r.type_,Cx r.num,Sl eb r.args ec,I r.at_] Z))<|Vm<|have ie:=Bs bn f;have ig:=Ss AI bh f;have b8:=Rs bg f;Bi a λb9 ih a=>Ca (Cg [Pt n 0,Ag [I r.op,Sb r.name,Sb r.tail,I r.type_,Cx r.num,Sl eb r.args ec,I r.at_],m] Z) (al.ref11_Machine_look ai a9 ih dcd dcd ie (Aw (x:=ay) ig) (AY (x:=r) ea) b8) ?_
 rintro _ ed ⟨ca,cb,qd,rfl,a0,ee,c4,ii⟩
 obtain ⟨qf,qg,rfl,c5⟩:=E1 (BT ii)
 refine Va cb<|AA<|AT<|Am (λc6 cc=>∃bt a1 c7,c6=Env.puts bt [(0,Pt n 0),(2,m),(4,Pt du 0),(8,cb),(66,.bool c7)]/\Ce a7 h bm b9 c7=some cu/\AU [] ca ed a1 cc) ?_ ?_
 refine AM<|Vm<|Vx (Nc Z)<|Vx (Fd Ks Z)<|Vx (Ld BC Z (Bc c4 Z))<|Vr (.bool (b9.2.why != 0))<|Vm<|Bo a (λae a=>?_) λae a=>?_
 refine Pg ae<|Pg ae<|Pg ae<|Pg ae<|Pg ae<|Vp ae<|AA<|⟨_,ca,true,Pu,a,Rf⟩
 refine Gm ae<|Bi a λu ij a=>?_
 obtain ⟨ik,qh,il,im,qi,io,ip,c8,iq,qj,qk,ir,ql⟩:=RTh.el ee ij
 obtain ⟨iu,iv,rfl,it⟩:=E1 (A1 iq)
 obtain ⟨ix,iy,rfl,iw⟩:=E1 (Ae ir)
 replace c8:Ay ca ed ik 0 [.bool u.known,.bool u.pair,I u.value.type_,Cx u.value.num,.bool u.value.bool,Sl iu u.value.list iv,il,im,I u.e.op,Sb u.e.name,Sb u.e.tail,I u.e.type_,Cx u.e.num,Sl ix u.e.args iy,I u.e.at_,io]:=c8
 refine Gx ae (Nc ip)<|Gx ae (Fd RI Z)<|Gx ae (Ld M0 Z (Ay.cell (k:=1) c8 Z))<|Gr ae (.bool (!u.pair))<|Vp ae<|AA<|⟨_,ca,(!u.pair),Pu,a,Rf⟩
 rintro _ cc ⟨bt,a1,c7,rfl,a,af⟩
 rw [Ce] at a
 refine Cn a (λiz a=>?_) λiz a=>?_
 refine Sr<|Vm<|Vx (Fd BR Z)<|have i0:=Y2 aj a0 af;Vx (Ld CR Z (Bc i0 Z))<|Bi a λw i1 a=>have i2:=K2 AG c2 a0 af; ?_
 obtain ⟨i3,i4,qo,i5,i6,i7,i8,i9,c9⟩:=A8 (κ:=AG) i2 i1
 replace c9:Ay a1 cc i3 (i4+(1:Int).toNat*7) i5:=c9
 obtain ⟨eg,eh,rfl,ef⟩:=E1 (Ae i9)
 refine Vx (Ix CG i6 Z i7 i8)<|Vx (Lx BA Z Z (Ay.part0 c9 [I w.op,Sb w.name,Sb w.tail,I w.type_,Cx w.num,Sl eg w.args eh,I w.at_] Z))<|Vm<|have ja:=Bs c4 af;have jb:=Ss AI c5 af;have jc:=Rs (Rs b8 a0) af;Bi a λbu jd a=>Ca (Cg [Pt n 0,Ag [I w.op,Sb w.name,Sb w.tail,I w.type_,Cx w.num,Sl eg w.args eh,I w.at_],m] Z) (al.ref11_Machine_look a1 cc jd dcd dcd ja (Aw (x:=b9.2) jb) (AY (x:=w) ef) jc) ?_
 rintro _ qq ⟨je,ei,qr,rfl,jf,jg,jh,ji⟩
 obtain ⟨jj,jk,rfl,ej⟩:=E1 (BT ji)
 refine Va ei<|AA<|AS ?_
 obtain rfl:=AK a
 refine O1 B ar Z (.tmp Z)<|⟨je,ei,[Sl jj bu.2.p.funcs jk,I bu.2.most,I bu.2.cost,I bu.2.why],Z,Ho (T3 (Mo [1] f) a0 af jf) aq,jg,jh,(Aw (x:=bu.2) ej)⟩
 refine AR<|AT<|BZ C7 (qs 0 19 (.one 19 (.q 20 (.one 21 (.one 22 (.q 23 .nil)))))) [] [1,21,22] a1 (by kernel_rfl) λek ba=>Qx d Z (v:=Pt n 0) (λ_ _=>Mv Z)<|Qx d Z (λ_ _=>Fd BR Z)<|have da:=Y3 aj a0 af ba;Qx d Z (λ_ ⟨_,c⟩=>Ld CR Z (Bc (Bs da c) Z))<|Bi a λy jl a=>have jm:=K3 AG c2 a0 af ba; ?_
 obtain ⟨jn,jo,qt,jp,jq,jr,js,jt,db⟩:=A8 (κ:=AG) jm jl
 replace db:Ay a1 ek jn (jo+(2:Int).toNat*7) jp:=db
 obtain ⟨em,en,rfl,el⟩:=E1 (Ae jt)
 refine Qx d Z (λ_ _=>Ix CG jq Z jr js)<|Qx d Z (λ_ ⟨_,c⟩=>Lx BA Z Z (Ay.part0 (Es db c) [I y.op,Sb y.name,Sb y.tail,I y.type_,Cx y.num,Sl em y.args en,I y.at_] Z))<|Qx d Z (λ_ _=>Fd MW Z)<|Qx d Z (λ_ ⟨_,c⟩=>Ld B7 Z (Bc (Bs da c) Z))<|Qx d Z (v:=cb) (λ_ _=>Mv Z)<|have ju:=RTh.step (RTh.step ee af dcd) ba dcd;Bi a λag jv a=>?_
 obtain ⟨jw,qv,dc,de,qw,jx,eo,cd,jy,ep,eq,jz,qx⟩:=RTh.el ju jv
 obtain ⟨j1,j2,rfl,j0⟩:=E1 (A1 jy)
 obtain ⟨j4,j5,rfl,j3⟩:=E1 (Ae jz)
 replace cd:Ay a1 ek jw 0 [.bool ag.known,.bool ag.pair,I ag.value.type_,Cx ag.value.num,.bool ag.value.bool,Sl j1 ag.value.list j2,dc,de,I ag.e.op,Sb ag.e.name,Sb ag.e.tail,I ag.e.type_,Cx ag.e.num,Sl j4 ag.e.args j5,I ag.e.at_,jx]:=cd
 refine Qx d Z (λ_ _=>Nc eo)<|Qx d Z (λ_ _=>Fd VW Z)<|Qx d Z (λ_ ⟨_,c⟩=>Ld Px Z (Ay.cell (k:=7) (Es cd c) Z))<|Qx d Z (λ_ _=>Fd DW Z)<|Qx d Z (λ_ ⟨_,c⟩=>Ld B7 Z (Bc (Bs da c) Z))<|Qx d Z (v:=cb) (λ_ _=>Mv Z)<|Qx d Z (λ_ _=>Nc eo)<|Qx d Z (λ_ _=>Fd VU Z)<|Qx d Z (λ_ ⟨_,c⟩=>Ld Px Z (Ay.cell (k:=6) (Es cd c) Z))<|Qx d Z (v:=m) (λ_ _=>Mv Z)<|Qx d Z (v:=Ag [Sb h.name,dc,m]) (λ_ _=>CK (cs:=[Sb h.name,dc,m]) [Sb ([]:Bts),.pointer none,.pointer none] P0 Pz Z (.cons Z Z Z (.cons Z (Dq (RTh.one ep)) Z (.cons Z (Dq (RNm.one b8)) Z .nil))) Z Z)<|A2 Z<|Bn Z (.none Z) Z Z<|A0 a1 21 Z Z λj6 q0 er j7 am=>⟨⟨_,(Mo [1,21,22] am)⟩,?_⟩
 refine Qx d Z (v:=Ag [Sb h.tail,de,Pt er 0]) (λ_ _=>CK (cs:=[Sb h.tail,de,Pt er 0]) [Sb ([]:Bts),.pointer none,.pointer none] P0 Pz Z (.cons Z Z Z (.cons Z (Dq (RTh.one eq)) Z (.cons Z Z Z .nil))) Z Z)<|A2 Z<|Bn Z (.none Z) Z Z<|A0 j6 22 Z Z λq1 j8 j9 ka an=>⟨⟨_,(Tn (Mo [1,21,22] am) an)⟩,?_⟩
 refine A2 Z<|have kb:=Bs j7 an;have kc:=RTh.step (RTh.step ep am dcd) an dcd;have kd:=Rs (Rs (Rs (Rs (Rs b8 a0) af) ba) am) an; ?_
 obtain ⟨q2,bb,ke⟩:=RNm.lay kb dcd kc kd
 refine have kf:=Bs ka bb;have kg:=RTh.step (RTh.step (RTh.step eq am dcd) an dcd) bb dcd; ?_
 obtain ⟨kh,bv,ki⟩:=RNm.lay kf dcd kg ke
 refine have kj:=Y2 (Y4 c4 af ba am an) bb bv;have kk:=K2 AI (K4 AI c5 af ba am an) bb bv;have kl:=K4 AG el am an bb bv;Bi a λbw km a=>A4 Z (.none Z) Z Z (Cg [Pt n 0,Ag [I y.op,Sb y.name,Sb y.tail,I y.type_,Cx y.num,Sl em y.args en,I y.at_],Pt j9 0] Z)<|Calls.mono (al.ref11_Machine_look kh j8 km dcd dcd kj (Aw (x:=b9.2) kk) (AY (x:=y) kl) ki) ?_
 rintro _ q3 ⟨kn,es,q4,rfl,et,ko,kp,kq⟩
 obtain ⟨kr,ks,rfl,eu⟩:=E1 (BT kq)
 refine ⟨_,Z,⟨_,(T4 (Mo [1,21,22] am) an bb bv et)⟩,?_⟩
 refine Qx d Z (v:=es) (λ_ _=>Run.assign Z)<|CA<|AS ?_
 obtain rfl:=AK a
 refine O1 B ar Z (.tmp Z)<|⟨kn,es,[Sl kr bw.2.p.funcs ks,I bw.2.most,I bw.2.cost,I bw.2.why],Z,Ho (T4 (T4 (Mo [1,21,22] f) a0 af ba am) an bb bv et) aq,ko,kp,(Aw (x:=bw.2) eu)⟩
 refine Sr<|Vr (.bool (h.op==21))<|Va (.bool (h.op==21))<|AA<|Cn a (λkt a=>?_) λkt a=>?_
 refine AT<|BZ C7 (qs 0 7 (.q 8 (.one 7 (.q 9 (.one 10 (.q 11 .nil)))))) [] [] ai (by kernel_rfl) λku bj=>Qx d Z (λ_ _=>Fd DW Z)<|have df:=Bs aj bj;Qx d Z (λ_ ⟨_,c⟩=>Ld B7 Z (Bc (Bs df c) Z))<|Qx d Z (λ_ _=>Fd BR Z)<|Qx d Z (λ_ ⟨_,c⟩=>Ld CR Z (Bc (Bs df c) Z))<|Bi a λg kv a=>have ew:=K2 AG bi f bj; ?_
 obtain ⟨kw,kx,q6,ky,kz,k0,k1,k2,dg⟩:=A8 (κ:=AG) ew kv
 replace dg:Ay ai ku kw (kx+(0:Int).toNat*7) ky:=dg
 obtain ⟨cf,cg,rfl,ex⟩:=E1 (Ae k2)
 refine Qx d Z (λ_ _=>Ix CG kz Z k0 k1)<|Qx d Z (λ_ ⟨_,c⟩=>Lx BA Z Z (Ay.part0 (Es dg c) [I g.op,Sb g.name,Sb g.tail,I g.type_,Cx g.num,Sl cf g.args cg,I g.at_] Z))<|Qx d Z (v:=Ag [.bool false,.bool false,I 0,Cx (((0,0):Cpl)),.bool false,.slice none 0 0,.pointer none,.pointer none,I g.op,Sb g.name,Sb g.tail,I g.type_,Cx g.num,Sl cf g.args cg,I g.at_,.pointer none]) (λ_ _=>CK (cs:=[.bool false,.bool false,I 0,Cx (((0,0):Cpl)),.bool false,.slice none 0 0,.pointer none,.pointer none,I g.op,Sb g.name,Sb g.tail,I g.type_,Cx g.num,Sl cf g.args cg,I g.at_,.pointer none]) [.bool false,.bool false,I 0,Cx (((0,0):Cpl)),.bool false,.slice none 0 0,.pointer none,.pointer none,I 0,Sb ([]:Bts),Sb ([]:Bts),I 0,Cx (((0,0):Cpl)),.slice none 0 0,I 0,.pointer none] Jm Jk Z (.cons Z Z Z .nil) Z Z)<|Qx d Z (v:=m) (λ_ _=>Mv Z)<|A2 Z<|Bn Z (.none Z) Z Z<|A0 ai 23 Z Z λk3 q8 ey k4 au=>⟨⟨_,(Mo [] au)⟩,?_⟩
 refine Qx d Z (v:=Ag [Sb h.name,Pt ey 0,m]) (λ_ _=>CK (cs:=[Sb h.name,Pt ey 0,m]) [Sb ([]:Bts),.pointer none,.pointer none] P0 Pz Z (.cons Z Z Z (.cons Z Z Z (.cons Z (Dq (RNm.one bg)) Z .nil))) Z Z)<|A2 Z<|Bn Z (.none Z) Z Z<|A0 k3 24 Z Z λk5 q9 ez e0 av=>⟨⟨_,(Tn (Mo [] au) av)⟩,?_⟩
 refine Qx d Z (v:=Pt ez 0) (λ_ _=>Run.assign Z)<|CA<|Sr<|Vm<|Vx (Nc Z)<|Vx (Fd VR Z)<|Vx (Ld Px Z (Bc e0 Z))<|Vm<|Vx (Nc Z)<|Vx (Fd VX Z)<|have k6:=Bs k4 av;Eu<|St AAj k6 Z Z Z Z λe1 k7 a2=>AA<|Sr<|Vm<|Vx (Fd BR Z)<|have k8:=Y3 df au av a2;Vx (Ld CR Z (Bc k8 Z))<|Bi a λz k9 a=>have la:=K3 AG ew au av a2; ?_
 obtain ⟨lb,lc,ra,ld,le,lf,lg,lh,dh⟩:=A8 (κ:=AG) la k9
 replace dh:Ay k5 e1 lb (lc+(1:Int).toNat*7) ld:=dh
 obtain ⟨e3,e4,rfl,e2⟩:=E1 (Ae lh)
 refine Vx (Ix CG le Z lf lg)<|Vx (Lx BA Z Z (Ay.part0 dh [I z.op,Sb z.name,Sb z.tail,I z.type_,Cx z.num,Sl e3 z.args e4,I z.at_] Z))<|Vm<|have li:=K3 AG ex au av a2;have lj:=Bs e0 a2;have lk:=Rs (Rs (Rs (Rs (Rs bg f) bj) au) av) a2; ?_
 obtain ⟨ll,ch,lm⟩:=RNm.layRec (cp:=[I 0,Cx (((0,0):Cpl)),.bool false,.slice none 0 0]) (ce:=[I g.op,Sb g.name,Sb g.tail,I g.type_,Cx g.num,Sl cf g.args cg,I g.at_]) lj k7 dcd (Ao (x:=(AD.mk 0 ((0,0):Cpl) false [])) Ba) (AY (x:=g) li) lk
 refine have ln:=Y2 (Y4 bn f bj au av) a2 ch;have lo:=K2 AI (K4 AI bh f bj au av) a2 ch;have lp:=Ss AG e2 ch;Bi a λbx lq a=>Ca (Cg [Pt n 0,Ag [I z.op,Sb z.name,Sb z.tail,I z.type_,Cx z.num,Sl e3 z.args e4,I z.at_],Pt ez 0] Z) (al.ref11_Machine_look ll e1 lq dcd dcd ln (Aw (x:=ay) lo) (AY (x:=z) lp) lm) ?_
 rintro _ rc ⟨lr,e5,rd,rfl,ls,lt,lu,lv⟩
 obtain ⟨lw,lx,rfl,e6⟩:=E1 (BT lv)
 refine Va e5<|AA<|AS ?_
 obtain rfl:=AK a
 refine O1 B ar Z (.tmp Z)<|⟨lr,e5,[Sl lw bx.2.p.funcs lx,I bx.2.most,I bx.2.cost,I bx.2.why],Z,Ho (T2 (T4 (Mo [1,23,24] f) bj au av a2) ch ls) aq,lt,lu,(Aw (x:=bx.2) e6)⟩
 refine Sr<|Vr (.bool (h.op==22))<|Va (.bool (h.op==22))<|AA<|Cn a (λly a=>?_) λly a=>?_
 refine Sr<|Vm<|Vx (Fd BR Z)<|Vx (Ld CR Z (Bc aj Z))<|Bi a λaa lz a=>have e7:=Ss AG bi f; ?_
 obtain ⟨l0,l1,rf,l2,l3,l4,l5,l6,di⟩:=A8 (κ:=AG) e7 lz
 replace di:Ay ai a9 l0 (l1+(0:Int).toNat*7) l2:=di
 obtain ⟨e9,fa,rfl,e8⟩:=E1 (Ae l6)
 refine Vx (Ix CG l3 Z l4 l5)<|Vx (Lx BA Z Z (Ay.part0 di [I aa.op,Sb aa.name,Sb aa.tail,I aa.type_,Cx aa.num,Sl e9 aa.args fa,I aa.at_] Z))<|Vm<|have l7:=Bs bn f;have l8:=Ss AI bh f;have dj:=Rs bg f;Bi a λl9 ma a=>Ca (Cg [Pt n 0,Ag [I aa.op,Sb aa.name,Sb aa.tail,I aa.type_,Cx aa.num,Sl e9 aa.args fa,I aa.at_],m] Z) (al.ref11_Machine_look ai a9 ma dcd dcd l7 (Aw (x:=ay) l8) (AY (x:=aa) e8) dj) ?_
 rintro _ rh ⟨dk,ci,ri,rfl,cj,fb,mb,mc⟩
 obtain ⟨rk,rl,rfl,fc⟩:=E1 (BT mc)
 refine Va ci<|AA<|AT<|BZ C7 (qs 0 10 (.one 10 (.one 11 (.q 12 .nil)))) [] [1,25] dk (by kernel_rfl) λmd bc=>Qx d Z (v:=Pt n 0) (λ_ _=>Mv Z)<|Qx d Z (λ_ _=>Fd BR Z)<|have fd:=Y2 aj cj bc;Qx d Z (λ_ ⟨_,c⟩=>Ld CR Z (Bc (Bs fd c) Z))<|Bi a λab me a=>have mf:=K2 AG e7 cj bc; ?_
 obtain ⟨mg,mh,rm,mi,mj,mk,ml,mm,dl⟩:=A8 (κ:=AG) mf me
 replace dl:Ay dk md mg (mh+(1:Int).toNat*7) mi:=dl
 obtain ⟨ff,fg,rfl,fe⟩:=E1 (Ae mm)
 refine Qx d Z (λ_ _=>Ix CG mj Z mk ml)<|Qx d Z (λ_ ⟨_,c⟩=>Lx BA Z Z (Ay.part0 (Es dl c) [I ab.op,Sb ab.name,Sb ab.tail,I ab.type_,Cx ab.num,Sl ff ab.args fg,I ab.at_] Z))<|Qx d Z (λ_ _=>Fd DW Z)<|Qx d Z (λ_ ⟨_,c⟩=>Ld B7 Z (Bc (Bs fd c) Z))<|Qx d Z (v:=ci) (λ_ _=>Mv Z)<|Qx d Z (v:=m) (λ_ _=>Mv Z)<|Qx d Z (v:=Ag [Sb h.name,ci,m]) (λ_ _=>CK (cs:=[Sb h.name,ci,m]) [Sb ([]:Bts),.pointer none,.pointer none] P0 Pz Z (.cons Z Z Z (.cons Z (Dq (RTh.one fb)) Z (.cons Z (Dq (RNm.one dj)) Z .nil))) Z Z)<|A2 Z<|Bn Z (.none Z) Z Z<|A0 dk 25 Z Z λro mn mo mp a3=>⟨⟨_,(Mo [1,25] a3)⟩,?_⟩
 refine A2 Z<|have mq:=RTh.step (RTh.step fb bc dcd) a3 dcd;have mr:=Rs (Rs (Rs dj cj) bc) a3; ?_
 obtain ⟨ms,bz,mt⟩:=RNm.lay mp dcd mq mr
 refine have mu:=Y3 mb bc a3 bz;have mv:=K3 AI fc bc a3 bz;have mw:=K2 AG fe a3 bz;Bi a λb0 mx a=>A4 Z (.none Z) Z Z (Cg [Pt n 0,Ag [I ab.op,Sb ab.name,Sb ab.tail,I ab.type_,Cx ab.num,Sl ff ab.args fg,I ab.at_],Pt mo 0] Z)<|Calls.mono (al.ref11_Machine_look ms mn mx dcd dcd mu (Aw (x:=l9.2) mv) (AY (x:=ab) mw) mt) ?_
 rintro _ rp ⟨my,fh,rq,rfl,fi,mz,m0,m1⟩
 obtain ⟨m2,m3,rfl,fj⟩:=E1 (BT m1)
 refine ⟨_,Z,⟨_,(T2 (Mo [1,25] a3) bz fi)⟩,?_⟩
 refine Qx d Z (v:=fh) (λ_ _=>Run.assign Z)<|CA<|AS ?_
 obtain rfl:=AK a
 refine O1 B ar Z (.tmp Z)<|⟨my,fh,[Sl m2 b0.2.p.funcs m3,I b0.2.most,I b0.2.cost,I b0.2.why],Z,Ho (Tn (T4 (Mo [1,25] f) cj bc a3 bz) fi) aq,mz,m0,(Aw (x:=b0.2) fj)⟩
 refine AR<|Sr<|Va (.slice none 0 0)<|AA<|AT<|Sr<|Va (I 0)<|AA<|Ah<|Bj (λa4 c6 a5=>∃bt a6 aw ck cl ax ah b1 b2 ao ap ak,c6=Env.puts bt [(0,Pt n 0),(2,m),(4,Pt du 0),(11,Sl ck aw cl),(12,I ax)]/\BO a7 a8 h bm a4 aw ax ah ao ap ak=some cu/\AU [1,27] ai a9 a6 a5/\Own Aq 38 a6 a5 27 (Sl ck aw cl) aw/\Slc AI a6.F a5 (Sl b1 ah b2) ah/\Bk a6 a5 1 n [Sl b1 ah b2,I ao,I ap,I ak] 101) a8 ?_ ?_
 refine have m4:=Ss AI bh f;have m5:=Bs bn f;⟨_,ai,([]:List AD),none,0,0,ay.p.funcs,f7,f8,ay.most,ay.cost,ay.why,Pu,a,(AU.refl [1,27] _ _),Own.nil,m4,m5⟩
 rintro a4 _ a5 ⟨bt,a6,aw,ck,cl,ax,ah,b1,b2,ao,ap,ak,rfl,a,bd,fk,cm,b3⟩
 rcases a4 with _|a4
 exact A5 a
 refine have a:Av a7 a8 h bm (BO a7 a8 h bm a4) aw ax ah ao ap ak=some cu:=a; ?_
 obtain ⟨rs,fl⟩:∃s,s=BO a7 a8 h bm a4:=⟨_,rfl⟩
 rw [<-fl,Av] at a
 refine AT<|Sr<|Vm<|Vx (Fd BR Z)<|have dm:=Bs aj bd;Vx (Ld CR Z (Bc dm Z))<|have fm:=K2 AG bi f bd; ?_
 obtain ⟨rt,ru,m6⟩:=AW fm
 refine Vx (v:=I (h.args.length:Int)) (Ll CG m6)<|Vr (.bool (decide (ax< (h.args.length:Int))))<|AA<|Cn a (λm7 a=>?_) λm7 a=>?_
 refine AR<|AT<|Ah<|Sr<|Vm<|Vx (Fd BR Z)<|Vx (Ld CR Z (Bc dm Z))<|Vm<|Bi a λac m8 a=>?_
 obtain ⟨m9,na,rx,nb,nc,nd,ne,nf,dn⟩:=A8 (κ:=AG) fm m8
 replace dn:Ay a6 a5 m9 (na+ax.toNat*7) nb:=dn
 obtain ⟨fo,fp,rfl,fn⟩:=E1 (Ae nf)
 refine Vx (Ix CG nc Z nd ne)<|Vx (Lx BA Z Z (Ay.part0 dn [I ac.op,Sb ac.name,Sb ac.tail,I ac.type_,Cx ac.num,Sl fo ac.args fp,I ac.at_] Z))<|Vm<|have ng:=Rs (Rs bg f) bd;Bi a λcn nh a=>Ca (Cg [Pt n 0,Ag [I ac.op,Sb ac.name,Sb ac.tail,I ac.type_,Cx ac.num,Sl fo ac.args fp,I ac.at_],m] Z) (al.ref11_Machine_look a6 a5 nh dcd dcd b3 (Aw (x:=(AX.mk (AL.mk ah) ao ap ak)) cm) (AY (x:=ac) fn) ng) ?_
 rintro _ ni ⟨fq,nj,rz,rfl,fr,nk,nl,nm⟩
 obtain ⟨np,nq,rfl,fs⟩:=E1 (BT nm)
 refine Va nj<|AA<|AM<|Vm<|Vm<|Bi a λe nr a=>?_
 obtain ⟨ns,r1,nt,nu,r2,nv,nw,dp,nx,r3,r4,ny,r5⟩:=RTh.el nk nr
 obtain ⟨b4,b5,rfl,ft⟩:=E1 (A1 nx)
 obtain ⟨n1,n2,rfl,n0⟩:=E1 (Ae ny)
 replace dp:Ay fq ni ns 0 [.bool e.known,.bool e.pair,I e.value.type_,Cx e.value.num,.bool e.value.bool,Sl b4 e.value.list b5,nt,nu,I e.e.op,Sb e.e.name,Sb e.e.tail,I e.e.type_,Cx e.e.num,Sl n1 e.e.args n2,I e.e.at_,nv]:=dp
 refine Vx (Nc nw)<|Vx (Fd Pw Z)<|Vx (Lx B5 Z Z (Kd.At.part (Ay.at_ dp) 2 [I e.value.type_,Cx e.value.num,.bool e.value.bool,Sl b4 e.value.list b5] Z))<|Ef<|Cj (cs:=[I e.value.type_,Cx e.value.num,.bool e.value.bool,Sl b4 e.value.list b5]) fq 26 [[I e.value.type_,Cx e.value.num,.bool e.value.bool,Sl b4 e.value.list b5]] Fs Cm Z Z (.cons Z Z Z .nil) Z λn4 n5 n6 n7 b6=>have n8:=Ss Kd.cpx ft b6;have oa:Own Aq 38 n4 n5 26 (.slice (some ⟨n6,0,none⟩) 1 1) ([e.value]:List AD):=Own.lit (css:=[[I e.value.type_,Cx e.value.num,.bool e.value.bool,Sl b4 e.value.list b5]]) n7 Z Z Z (Ac (Ao (x:=e.value) n8) BB) (A6 Z Ds) Z;have ob:=Os (Os fk fr) b6;Bi a λr8 fu a=>Ef<|Br (κ:=Aq) Z Z ob dcd TL (CI oa) (Ea fu) (Ew fu) λr9 oc sa fv dq=>?_
 obtain ⟨fw,fx,rfl⟩:=Own.len fv
 refine Va (Sl fw ((aw++([e.value]:List AD))) fx)<|AA<|AM<|Vm<|Vr (I (Wr (ax+1)))<|Va (I (Wr (ax+1)))<|AA<|have od:=K2 AI fs b6 dq;have oe:=Y2 nl b6 dq;⟨a4,Nat.lt_succ_self a4,_,oc,(aw++([e.value]:List AD)),fw,fx,(Wr (ax+1)),cn.2.p.funcs,np,nq,cn.2.most,cn.2.cost,cn.2.why,Pu,(fl▸a),(T3 (Mo [1,27] bd) fr b6 dq),fv,od,oe⟩
 refine BX<|AT<|Sr<|Vm<|Vx (Nc Z)<|Vx (Fd Ks Z)<|Vx (Ld BC Z (Bc b3 Z))<|Vr (.bool (ak != 0))<|AA<|Cn a (λog a=>?_) λog a=>?_
 refine Sr<|Vx (v:=Ag [.bool false,.bool false,I 0,Cx (((0,0):Cpl)),.bool false,.slice none 0 0,.pointer none,.pointer none,I 0,Sb ([]:Bts),Sb ([]:Bts),I 0,Cx (((0,0):Cpl)),.slice none 0 0,I 0,.pointer none]) (Bp Jm Jk Z .nil)<|Ef<|A0 a6 28 Z Z λsb sc fy oh dr=>Va (Pt fy 0)<|AA<|AS ?_
 obtain ⟨oi,ds,oj⟩:=RTh.layLater (cp:=[I 0,Cx (((0,0):Cpl)),.bool false,.slice none 0 0]) (ce:=[I 0,Sb ([]:Bts),Sb ([]:Bts),I 0,Cx (((0,0):Cpl)),.slice none 0 0,I 0]) oh dcd (Ao (x:=(AD.mk 0 ((0,0):Cpl) false [])) Ba) (AY (x:=(AE.mk 0 ([]:Bts) ([]:Bts) 0 ((0,0):Cpl) [] 0)) Ba) RNm.nil
 obtain rfl:=AK a
 refine O1 B ar Z (.tmp Z)<|have ok:=Y2 b3 dr ds;have ol:=K2 AI cm dr ds;⟨oi,Pt fy 0,[Sl b1 ah b2,I ao,I ap,I ak],Z,Ho (T3 (Mo [1,27,28] f) bd dr ds) aq,oj,ok,(Aw (x:=(AX.mk (AL.mk ah) ao ap ak)) ol)⟩
 refine AR<|Sr<|Vx (Fz Cp Z)<|Vx (Ld GC Z (Bc dm Z))<|Vm ?_
 obtain ⟨om,bk,oo⟩:=Own.freeze (S:=[27]) fk dcd dcd
 refine Bi a λl op a=>Ca (Cg [I h.op,Sl ck aw cl] Z) (UN a8 om a5 op oo) ?_
 rintro _ sd ⟨oq,se,rfl,bl,os⟩
 obtain ⟨co,cq,rfl,fz⟩:=E1 (A1 os)
 refine Vm<|Vr (Ag [I l.1.type_,Cx l.1.num,.bool l.1.bool,Sl co l.1.list cq])<|Vr (I l.2)<|Ef<|Aa oq 29 Cm Z λf0 sg sh ot be=>have ou:=Ss Kd.cpx fz be;Eu<|St DN ot Z Z Z Z λov ow bf=>Va (I l.2)<|AA<|AT<|Sr<|Vm<|Vr (.bool (l.2 != 0))<|AA<|Cn a (λox a=>?_) λox a=>?_
 refine Sr<|Vm<|Vm<|have oy:=Y4 b3 bk bl be bf;have oz:=K4 AI cm bk bl be bf;Bi a λb7 o0 a=>Ca (Cg [Pt n 0,I l.2] Z) (Ku f0 ov o0 dcd dcd oy (Aw (x:=(AX.mk (AL.mk ah) ao ap ak)) oz)) ?_
 rintro _ si ⟨o1,f1,sj,rfl,o2,o6,o7,o8⟩
 obtain ⟨pa,pb,rfl,f2⟩:=E1 (BT o8)
 refine Va f1<|AA<|AS ?_
 obtain rfl:=AK a
 refine O1 B ar Z (.tmp Z)<|⟨o1,f1,[Sl pa b7.2.p.funcs pb,I b7.2.most,I b7.2.cost,I b7.2.why],Z,Ho (T2 (T4 (Mo [1,27,29] f) bd bk bl be) bf o2) aq,o6,o7,(Aw (x:=b7.2) f2)⟩
 refine AR<|Sr<|Vx (Lx B5 Z Z (Bw ow))<|Vx (v:=Ag [.bool true,.bool false,I l.1.type_,Cx l.1.num,.bool l.1.bool,Sl co l.1.list cq,.pointer none,.pointer none,I 0,Sb ([]:Bts),Sb ([]:Bts),I 0,Cx (((0,0):Cpl)),.slice none 0 0,I 0,.pointer none]) (Bp Jm Jk Z (.cons Z Z Z (.cons Z Z Z .nil)))<|Ef<|A0 f0 30 Z Z λsl sm f3 pc cr=>Va (Pt f3 0)<|AA<|AS<|have pd:=K2 Kd.cpx ou bf cr; ?_
 obtain ⟨pe,dt,pf⟩:=RTh.layDone (hv:=.pointer none) (tv:=.pointer none) (cp:=[I l.1.type_,Cx l.1.num,.bool l.1.bool,Sl co l.1.list cq]) (ce:=[I 0,Sb ([]:Bts),Sb ([]:Bts),I 0,Cx (((0,0):Cpl)),.slice none 0 0,I 0]) pc dcd (Ao (x:=l.1) pd) (AY (x:=(AE.mk 0 ([]:Bts) ([]:Bts) 0 ((0,0):Cpl) [] 0)) Ba) RTh.nil RTh.nil
 obtain rfl:=AK a
 refine O1 B ar Z (.tmp Z)<|have pg:=Y2 (Y4 b3 bk bl be bf) cr dt;have ph:=K2 AI (K4 AI cm bk bl be bf) cr dt;⟨pe,Pt f3 0,[Sl b1 ah b2,I ao,I ap,I ak],Z,Ho (T3 (T4 (Mo [1,27,29,30] f) bd bk bl be) bf cr dt) aq,pf,pg,(Aw (x:=(AX.mk (AL.mk ah) ao ap ak)) ph)⟩
theorem N5(c:AP)(e:Nat)(h:AP.Good c):ref11_Machine_inside.Spec (BN c e):=by
 intro d f a aa ab ac ad ae af ag ah l hnd hnz g m n o
 refine Calls.mono (N4 c e h (recol (see [a]) d) f (E9 (Nat.le_of_ble_eq_true Z) d) l trivial trivial (BY g [a] (BU hnd hnz (i:=0) Z)) (Bd B1 m [a]) (Bd AG n [a]) (RNm.recol o [a])) ?_
 rintro ai aj ⟨p,q,r,s,u,w,y,z⟩
 exact ⟨glue [a] f d p,q,r,s,B8 u (E4 Z Z),RTh.glue w,EJ g y dcd,ED B1 z⟩
theorem AP.good:∀d,AP.Good (AP.at d)
 |0=>⟨by intro a c;intros;(try intro _);intros;exact A5 (by assumption),by intro a c;intros;(try intro _);intros;exact A5 (by assumption),by intro a c;intros;(try intro _);intros;exact A5 (by assumption)⟩
 |n+1=>⟨OY _ n (AP.good n),Pf _ n (AP.good n),N5 _ n (AP.good n)⟩
theorem PA(a:Nat):ref11_Machine_look.Spec (ref11_Machine_look a):=(AP.good a).ref11_Machine_look
theorem M8(a:Nat):ref11_Machine_of.Spec (ref11_Machine_of a):=(AP.good a).ref11_Machine_of
def CY.At(G1 G2:Prop)(c:Col)(a:World)(f:AX->Th->Option (AD×AX))(g:Nat):Prop:=
 ∀{h m n o p l},f m o=some l->G1->G2->Bk c a g h n 101->B1.rep c.F a n m->RTh c.F a p o->
  Calls PG 36 #[Pt h 0,p] a λs d=>∃e q r,s=.returned (Ag q)/\AU [g] c a e d/\Aq.rep e.F d q l.1/\Bk e d g h r 101/\B1.rep e.F d r l.2
def CY.Spec(f:AX->Th->Option (AD×AX)):Prop:=
 ∀c d {a},CY.At ([a].Nodup) (0∉[a]) c d f a
theorem OC(q:Nat)(a9:Col)(cl:World)(bu:∀b,a9 b<10):CY.At True True a9 cl (CY q) 1:=by
 intro al n f9 bv bw aw a _ _ ba cm bb
 rw [CY] at a
 obtain ⟨bx,bz,rfl,bc⟩:=E1 (BT cm)
 refine Az Tryz.func36 Z Tryz.ntmps36 Z λB b0 ac=>Sr<|Ef<|Aa a9 20 Cm Z λax b1 bd b2 r=>AA<|AT<|Am (λan be=>∃ad ao bf,an=Env.puts ad [(0,Pt al 0),(1,bw),(4,Pt bd 0),(18,.bool bf)]/\Ee q n bv bf=some aw/\AU [] ax b1 ao be) ?_ ?_
 refine AM<|Vm<|Vx (Nc Z)<|Vx (Fd Ks Z)<|have cn:=Bs ba r;Vx (Ld BC Z (Bc cn Z))<|Vr (.bool (n.why==0))<|Vm<|Bo a (λh a=>?_) λh a=>?_
 refine Gm h<|have co:=RTh.step bb r dcd;Bi a λf cq a=>?_
 obtain ⟨cr,gb,ct,cu,gc,cv,cw,bg,cx,gd,ge,cy,gf⟩:=RTh.el co cq
 obtain ⟨c0,c1,rfl,cz⟩:=E1 (A1 cx)
 obtain ⟨c3,c4,rfl,c2⟩:=E1 (Ae cy)
 replace bg:Ay ax b1 cr 0 [.bool f.known,.bool f.pair,I f.value.type_,Cx f.value.num,.bool f.value.bool,Sl c0 f.value.list c1,ct,cu,I f.e.op,Sb f.e.name,Sb f.e.tail,I f.e.type_,Cx f.e.num,Sl c3 f.e.args c4,I f.e.at_,cv]:=bg
 refine Gx h (Nc cw)<|Gx h (Fd RI Z)<|Gx h (Ld M0 Z (Ay.cell (k:=1) bg Z))<|Gr h (.bool (!f.pair))<|Vp h<|AA<|⟨_,ax,(!f.pair),Pu,a,Rf⟩
 refine Pg h<|Pg h<|Pg h<|Pg h<|Pg h<|Vp h<|AA<|⟨_,ax,false,Pu,a,Rf⟩
 rintro _ be ⟨ad,ao,bf,rfl,a,u⟩
 rw [Ee] at a
 refine Cn a (λc5 a=>?_) λc5 a=>?_
 refine Sr<|Vm<|have c6:=RTh.step (RTh.step bb r dcd) u dcd;Bi a λc c7 a=>?_
 obtain ⟨c8,gi,c9,da,gj,db,dc,bh,de,gk,gl,df,gm⟩:=RTh.el c6 c7
 obtain ⟨ay,az,rfl,b3⟩:=E1 (A1 de)
 obtain ⟨dh,di,rfl,dg⟩:=E1 (Ae df)
 replace bh:Ay ao be c8 0 [.bool c.known,.bool c.pair,I c.value.type_,Cx c.value.num,.bool c.value.bool,Sl ay c.value.list az,c9,da,I c.e.op,Sb c.e.name,Sb c.e.tail,I c.e.type_,Cx c.e.num,Sl dh c.e.args di,I c.e.at_,db]:=bh
 refine Vx (Nc dc)<|Vx (Fd Pw Z)<|Vx (Lx B5 Z Z (Kd.At.part (Ay.at_ bh) 2 [I c.value.type_,Cx c.value.num,.bool c.value.bool,Sl ay c.value.list az] Z))<|have dj:=Bs b2 u;Eu<|St DN dj Z Z Z Z λgp dk a0=>AA<|AS ?_
 obtain rfl:=AK a
 refine O1 B b0 Z (.agg B5 Z Z (Bw dk))<|have dl:=Ss Kd.cpx b3 a0;have dm:=Y3 ba r u a0;have dn:=K3 AI bc r u a0;⟨ao,[I c.value.type_,Cx c.value.num,.bool c.value.bool,Sl ay c.value.list az],[Sl bx n.p.funcs bz,I n.most,I n.cost,I n.why],Z,Ho (T2 (Mo [20] r) u a0) bu,(Ao (x:=c.value) dl),dm,(Aw (x:=n) dn)⟩
 refine AR<|Sr<|Vx (v:=Ag [I 3,Cx (((0,0):Cpl)),.bool false,.slice none 0 0]) (Bp Cm GK Z (.cons Z Z Z .nil))<|Ef<|Aa ao 21 Cm Z λb4 gq bi dp ap=>Eu<|St DN dp Z Z Z Z λdq dr aq=>AA<|AT<|Ah<|Bj (λae an y=>∃ad o ar a1 w a2 a3 af ag z e ah ai,an=Env.puts ad [(0,Pt al 0),(1,a1),(4,Pt bd 0),(5,Pt bi 0)]/\Bx q ae ar w af ag z e=some aw/\AU [1,21,23] b4 dq o y/\Slc AI o.F y (Sl a2 w a3) w/\Own Kd.cpx 35 o y 23 (Sl ah e ai) e/\RTh o.F y a1 ar/\Bk o y 1 al [Sl a2 w a3,I af,I ag,I z] 101/\Bk o y 21 bi [I 3,Cx (((0,0):Cpl)),.bool false,Sl ah e ai] 38) q ?_ ?_
 refine have ds:=K4 AI bc r u ap aq;have dt:=RTh.step (RTh.step (RTh.step (RTh.step bb r dcd) u dcd) ap dcd) aq dcd;have du:=Y4 ba r u ap aq;⟨_,b4,bv,bw,n.p.funcs,bx,bz,n.most,n.cost,n.why,([]:List Cpl),none,0,Pu,a,(AU.refl [1,21,23] _ _),ds,Own.nil,dt,du,dr⟩
 rintro ae _ y ⟨ad,o,ar,a1,w,a2,a3,af,ag,z,e,ah,ai,rfl,a,bj,b5,b6,b7,bk,b8⟩
 rcases ae with _|ae
 exact A5 a
 refine have a:DA q (Bx q ae) ar w af ag z e=some aw:=a; ?_
 obtain ⟨dv,b9⟩:∃s,s=Bx q ae:=⟨_,rfl⟩
 rw [<-b9,DA] at a
 refine AT<|Am (λan a4=>∃ad a5 bl,an=Env.puts ad [(0,Pt al 0),(1,a1),(4,Pt bd 0),(5,Pt bi 0),(34,.bool bl)]/\Bv q ar w af ag z e dv bl=some aw/\AU [] o y a5 a4) ?_ ?_
 refine AM<|Vm<|Vx (Nc Z)<|Vx (Fd Ks Z)<|Vx (Ld BC Z (Bc bk Z))<|Vr (.bool (z==0))<|Vm<|Bo a (λp a=>?_) λp a=>?_
 refine Gm p<|Bi a λg dw a=>?_
 obtain ⟨dx,gr,dy,dz,gs,d0,d1,bm,d2,gt,gu,d3,gv⟩:=RTh.el b7 dw
 obtain ⟨d5,d6,rfl,d4⟩:=E1 (A1 d2)
 obtain ⟨d8,d9,rfl,d7⟩:=E1 (Ae d3)
 replace bm:Ay o y dx 0 [.bool g.known,.bool g.pair,I g.value.type_,Cx g.value.num,.bool g.value.bool,Sl d5 g.value.list d6,dy,dz,I g.e.op,Sb g.e.name,Sb g.e.tail,I g.e.type_,Cx g.e.num,Sl d8 g.e.args d9,I g.e.at_,d0]:=bm
 refine Gx p (Nc d1)<|Gx p (Fd RI Z)<|Gx p (Ld M0 Z (Ay.cell (k:=1) bm Z))<|Vp p<|AA<|⟨_,o,g.pair,Pu,a,Rf⟩
 refine Pg p<|Pg p<|Pg p<|Pg p<|Vp p<|AA<|⟨_,o,false,Pu,a,Rf⟩
 rintro _ a4 ⟨ad,a5,bl,rfl,a,m⟩
 rw [Bv] at a
 refine Cn a (λea a=>?_) λea a=>?_
 refine AR<|Ah<|Sr<|Vm<|Vm<|have eb:=RTh.step b7 m dcd;Bi a λl ec a=>?_
 obtain ⟨ed,gy,ca,cb,gz,ee,cc,a6,ef,eg,eh,ei,g0⟩:=RTh.el eb ec
 obtain ⟨ek,el,rfl,ej⟩:=E1 (A1 ef)
 obtain ⟨en,eo,rfl,em⟩:=E1 (Ae ei)
 replace a6:Ay a5 a4 ed 0 [.bool l.known,.bool l.pair,I l.value.type_,Cx l.value.num,.bool l.value.bool,Sl ek l.value.list el,ca,cb,I l.e.op,Sb l.e.name,Sb l.e.tail,I l.e.type_,Cx l.e.num,Sl en l.e.args eo,I l.e.at_,ee]:=a6
 refine Vx (Nc cc)<|Vx (Fd VU Z)<|Vx (Ld Px Z (Ay.cell (k:=6) a6 Z))<|have ep:=Bs bk m;have eq:=Ss AI b5 m;Bi a λer es a=>Ca (Cg [Pt al 0,ca] Z) (M8 q a5 a4 es dcd dcd ep (Aw (x:=(AX.mk (AL.mk w) af ag z)) eq) eg) ?_
 rintro _ g3 ⟨bn,cd,g4,rfl,au,et,eu,ew⟩
 obtain ⟨g6,g7,rfl,cf⟩:=E1 (BT ew)
 refine Va cd<|AA<|AT<|BZ C7 (qs 0 7 (.one 7 (.one 8 (.q 9 (.one 10 .nil))))) [10] [23] bn (by kernel_rfl) λex aj=>Qx ac Z (λ_ _=>Fd DV Z)<|have cg:=Y3 b8 m au aj;Qx ac Z (λ_ ⟨_,aa⟩=>Ld HO Z (Bc (Bs cg aa) Z))<|Qx ac Z (v:=cd) (λ_ _=>Mv Z)<|have ey:=RTh.step et aj dcd;Bi a λd ez a=>?_
 obtain ⟨e0,g8,e1,e2,g9,e3,e4,bo,e5,ha,hb,e6,hc⟩:=RTh.el ey ez
 obtain ⟨e8,e9,rfl,e7⟩:=E1 (A1 e5)
 obtain ⟨fb,fc,rfl,fa⟩:=E1 (Ae e6)
 replace bo:Ay bn ex e0 0 [.bool d.known,.bool d.pair,I d.value.type_,Cx d.value.num,.bool d.value.bool,Sl e8 d.value.list e9,e1,e2,I d.e.op,Sb d.e.name,Sb d.e.tail,I d.e.type_,Cx d.e.num,Sl fb d.e.args fc,I d.e.at_,e3]:=bo
 refine Qx ac Z (λ_ _=>Nc e4)<|Qx ac Z (λ_ _=>Fd Pw Z)<|Qx ac Z (λ_ _=>Fd HU Z)<|Qx ac Z (λ_ ⟨_,aa⟩=>Ld Gc Z (Ay.cell (k:=3) (Es bo aa) Z))<|A2 Z<|Bn Z (.none Z) Z Z<|Cj (cs:=[Cx d.value.num]) bn 22 [[Cx d.value.num]] HB V8 Z Z (.cons Z Z Z .nil) Z λfd fe ff fg ab=>have fh:Own Kd.cpx 35 fd fe 22 (.slice (some ⟨ff,0,none⟩) 1 1) ([d.value.num]:List Cpl):=Own.lit (css:=[[Cx d.value.num]]) fg Z Z Z (Ac Z BB) (A6 Z Ds) Z;⟨⟨_,(Mo [23] ab)⟩,?_⟩
 refine A2 Z<|have fi:=Os (Os (Os (Os b6 m) au) aj) ab;Bi a λhf ch a=>Bn Z (.none Z) Z Z<|Br (κ:=Kd.cpx) Z Z fi dcd V0 (CI fh) (Ea ch) (Ew ch) λhg fj hh bp ak=>?_
 obtain ⟨bq,br,rfl⟩:=Own.len bp
 refine ⟨⟨_,(Tn (Mo [23] ab) ak)⟩,?_⟩
 refine Qx ac Z (λ_ _=>Fd DV Z)<|E3 dcd<|WY.one<|have fk:=Y2 cg ab ak;BS Z (.none Z) Z<|Bf (vs:=[Sl bq ((e++([d.value.num]:List Cpl))) br]) (cs':=[I 3,Cx (((0,0):Cpl)),.bool false,Sl bq ((e++([d.value.num]:List Cpl))) br]) V4 Z Z Z Z (AQ (Own.one bp) B6) fk dcd Z Z λfl fm am=>WY.nil<|AM<|Vm<|Vm<|Vx (Nc cc)<|Vx (Fd VW Z)<|have fn:=Es (Es (Es (Es (Es a6 au) aj) ab) ak) am;Vx (Ld Px Z (Ay.cell (k:=7) fn Z))<|have fo:=Y4 eu aj ab ak am;have fp:=K4 AI cf aj ab ak am;have fq:=RTh.step (RTh.step (RTh.step (RTh.step (RTh.step eh au dcd) aj dcd) ab dcd) ak dcd) am dcd;Bi a λav fr a=>Ca (Cg [Pt al 0,cb] Z) (M8 q fj fl fr dcd dcd fo (Aw (x:=er.2) fp) fq) ?_
 rintro _ hi ⟨fs,ci,hj,rfl,bt,ft,fu,fv⟩
 obtain ⟨fw,fx,rfl,cj⟩:=E1 (BT fv)
 refine Va ci<|AA<|have fy:=Os (Os bp am) bt;have fz:=Bs fm bt;⟨ae,Nat.lt_succ_self ae,_,fs,av.1,ci,av.2.p.funcs,fw,fx,av.2.most,av.2.cost,av.2.why,(e++([d.value.num]:List Cpl)),bq,br,Pu,(b9▸a),(T3 (T4 (Mo [1,21,23] bj) m au aj ab) ak am bt),cj,fy,ft,fu,fz⟩
 refine BX<|Sr<|have f0:=Bs b8 m;Vx (Lx B5 Z Z (Bw f0))<|have f1:=Bs (Y4 b2 u ap aq bj) m;have ck:=Os b6 m;Eu<|Bf (vs:=[I 3,Cx (((0,0):Cpl)),.bool false,Sl ah e ai]) (cs':=[I 3,Cx (((0,0):Cpl)),.bool false,Sl ah e ai]) DN Z Z Z Z (AQ Z (AQ Z (AQ Z (AQ (Own.one ck) B6)))) f1 dcd Z Z λhl f2 a7=>AA<|AS<|have f3:=Os ck a7; ?_
 obtain ⟨f4,a8,f5⟩:=Own.freeze (S:=[23]) f3 dcd dcd
 obtain rfl:=AK a
 refine have f6:=Bs f2 a8;O1 B b0 Z (.agg B5 Z Z (Bw f6))<|have f7:=Y3 bk m a7 a8;have f8:=K3 AI b5 m a7 a8;⟨f4,[I 3,Cx (((0,0):Cpl)),.bool false,Sl ah e ai],[Sl a2 w a3,I af,I ag,I z],Z,Ho (T3 (T4 (Mo [1,20,21,23] r) u ap aq bj) m a7 a8) bu,(Ao (x:=(AD.mk 3 ((0,0):Cpl) false e)) f5),f7,(Aw (x:=(AX.mk (AL.mk w) af ag z)) f8)⟩
theorem OZ(d:Nat):CY.Spec (CY d):=by
 intro c e a w y z aa ab ac g hnd hnz f h l
 refine Calls.mono (OC d (recol (see [a]) c) e (E9 (Nat.le_of_ble_eq_true Z) c) g trivial trivial (BY f [a] (BU hnd hnz (i:=0) Z)) (Bd B1 h [a]) (RTh.recol l [a])) ?_
 rintro ad ae ⟨m,n,o,p,q,r,s,u⟩
 exact ⟨glue [a] e c m,n,o,p,B8 q (E4 Z Z),ED Aq r,EJ f s dcd,ED B1 u⟩
def GI.At(c:Col)(a:World)(f:AL->Bts->(List AD)->Int->Option BK):Prop:=
 ∀{d e g h l m n},f d g h m=some n->Bz.rep c.F a e d->Slc Aq c.F a l h->
  Calls PG 14 #[Ag e,Sb g,l,I m] a λr o=>∃p q,r=.returned (Ag q)/\AU [] c a p o/\K1.rep p.F o q n
def GI.Spec(f:AL->Bts->(List AD)->Int->Option BK):Prop:=
 ∀a c,GI.At a c f
theorem UO(p:Nat)(a3:Col)(cb:World)(ak:∀b,a3 b<10):GI.At a3 cb (GI p):=by
 intro h e7 cc y e8 g bg c cd bh
 rw [GI] at c
 obtain ⟨ag,ah,rfl,bi⟩:=E1 (BQ cd)
 obtain ⟨a4,a5,rfl⟩:=AW bh
 refine Az Tryz.func14 Z Tryz.ntmps14 Z λB al f=>Sr<|Ef<|A0 a3 20 Z Z λcf fa fb cg ad=>Ef<|Aa cf 21 LQ Z λch ci cj am aa=>AA<|AT<|Sr<|have bj:=Bs cg aa;Vx (Lx Fw Z Z (Bw bj))<|have bk:=K2 AI bi ad aa;Bi c λaw ck c=>Ca (Cg [Ag [Sl ag h.funcs ah]] Z) (UH p ch ci ck (BL (x:=h) bk)) ?_
 rintro _ cl ⟨bl,fc,rfl,l,cm⟩
 obtain rfl:=Au cm
 refine Vx (v:=I aw.why) (Kz (cs:=[I aw.why,I aw.at_]) XL Z Z)<|Vr (.bool (aw.why != 0))<|AA<|Cn c (λcn c=>?_) λcn c=>?_
 refine Sr<|Vx (v:=Ag [I 3,I 0,Cx (((0,0):Cpl)),.bool false,.slice none 0 0,I 0,I 0,I 0,I 0]) (Bp LQ NQ Z (.cons Z Z Z .nil))<|have co:=Bs am l;Eu<|St MA co Z Z Z Z λfd cq cr=>AA<|AS ?_
 obtain rfl:=AK c
 refine O1 B al Z (.agg Mi Z Z (Bw cq))<|⟨bl,[I 3,I 0,Cx (((0,0):Cpl)),.bool false,.slice none 0 0,I 0,I 0,I 0,I 0],Z,Ho (T3 (Mo [21] ad) aa l cr) ak,(Jq (x:=(BK.mk 3 (AD.mk 0 ((0,0):Cpl) false []) 0 0 0 0)) Ba)⟩
 refine AR<|Sr<|have bm:=Bs bj l;Vx (Lx Fw Z Z (Bw bm))<|Vm<|have bn:=Ss AI bk l;Bi c λa ct c=>Ca (Cg [Ag [Sl ag h.funcs ah],Sb cc] Z) (L4 p bl cl ct (BL (x:=h) bn)) ?_
 rintro _ fe ⟨cu,ff,rfl,u,cv⟩
 obtain ⟨fg,fh,rfl,bo,bp⟩:=CL cv
 obtain ⟨a6,a7,rfl⟩:=AW bo
 obtain ⟨an,ao,rfl⟩:=AW bp
 refine Vm<|Vr (Ag [Sb a.1.name,Sl a6 a.1.params a7,I a.1.type_,I a.1.body.op,Sb a.1.body.name,Sb a.1.body.tail,I a.1.body.type_,Cx a.1.body.num,Sl an a.1.body.args ao,I a.1.body.at_,I a.1.at_])<|Vr (.bool a.2)<|Ef<|Aa cu 22 KZ Z λbq fi cw cx m=>have cy:=Ss AZ bo m;have cz:=Ss AG bp m;Eu<|St LP cx Z Z Z Z λc0 a8 n=>Va (.bool a.2)<|AA<|AT<|Sr<|Vm<|Vr (.bool (!a.2))<|AA<|Cn c (λc1 c=>?_) λc1 c=>?_
 refine Sr<|Vx (v:=Ag [I 32,I 0,Cx (((0,0):Cpl)),.bool false,.slice none 0 0,I 0,I 0,I 0,I 0]) (Bp LQ NQ Z (.cons Z Z Z .nil))<|have c2:=Y4 am l u m n;Eu<|St MA c2 Z Z Z Z λfj c3 c4=>AA<|AS ?_
 obtain rfl:=AK c
 refine O1 B al Z (.agg Mi Z Z (Bw c3))<|⟨bq,[I 32,I 0,Cx (((0,0):Cpl)),.bool false,.slice none 0 0,I 0,I 0,I 0,I 0],Z,Ho (T2 (T4 (Mo [21,22] ad) aa l u m) n c4) ak,(Jq (x:=(BK.mk 32 (AD.mk 0 ((0,0):Cpl) false []) 0 0 0 0)) Ba)⟩
 refine AR<|AT<|Sr<|Vx (Lx Lm Z Z (Bw a8))<|Vm<|have br:=Ss AZ cy n;have bt:=Ss AG cz n;have bu:=K2 Aq (K4 Aq bh ad aa l u) m n;Bi c λc5 c6 c=>Ca (Cg [Ag [Sb a.1.name,Sl a6 a.1.params a7,I a.1.type_,I a.1.body.op,Sb a.1.body.name,Sb a.1.body.tail,I a.1.body.type_,Cx a.1.body.num,Sl an a.1.body.args ao,I a.1.body.at_,I a.1.at_],Sl a4 y a5] Z) (VA p bq c0 c6 (K0 (x:=a.1) br bt) bu) ?_
 rintro _ fk ⟨bv,rfl,o⟩
 refine Vr (.bool (!c5))<|AA<|Cn c (λc7 c=>?_) λc7 c=>?_
 refine Sr<|Vx (v:=Ag [I 40,I 0,Cx (((0,0):Cpl)),.bool false,.slice none 0 0,I 0,I 0,I 0,I 0]) (Bp LQ NQ Z (.cons Z Z Z .nil))<|have c8:=Bs (Y4 am l u m n) o;Eu<|St MA c8 Z Z Z Z λfl c9 da=>AA<|AS ?_
 obtain rfl:=AK c
 refine O1 B al Z (.agg Mi Z Z (Bw c9))<|⟨bv,[I 40,I 0,Cx (((0,0):Cpl)),.bool false,.slice none 0 0,I 0,I 0,I 0,I 0],Z,Ho (T3 (T4 (Mo [21,22] ad) aa l u m) n o da) ak,(Jq (x:=(BK.mk 40 (AD.mk 0 ((0,0):Cpl) false []) 0 0 0 0)) Ba)⟩
 refine AR<|Sr<|have db:=Y4 bm u m n o;Vx (Lx Fw Z Z (Bw db))<|Vm<|Vx (v:=I (if g<0 then 0 else g)) (Run.max Z Z)<|Vx (v:=I (if 16384< (if g<0 then 0 else g) then 16384 else (if g<0 then 0 else g))) (Run.min Z Z)<|Vx (v:=Ag [Sl ag h.funcs ah,I (if 16384< (if g<0 then 0 else g) then 16384 else (if g<0 then 0 else g)),I 0,I 0]) (Bp AAs AAn Z (.cons Z Z Z (.cons Z Z Z .nil)))<|Ef<|A0 bv 23 Z Z λbw dc ae de w=>Va (Pt ae 0)<|AA<|Sr<|Va (.pointer none)<|AA<|AT<|Sr<|Va (I 0)<|AA<|Ah<|Bj (λab df ax=>∃bx ac ap af q,df=Env.puts bx [(2,Sl a4 y a5),(8,Pt cj 0),(9,Pt cw 0),(11,Pt ae 0),(12,af),(13,I q)]/\Gh p h y g a ab ap q=some bg/\AU [24] bw dc ac ax/\RNm ac.F ax af ap) p ?_ ?_
 exact ⟨_,bw,Nm.nil,.pointer none,0,Pu,c,(AU.refl [24] _ _),RNm.nil⟩
 rintro ab _ ax ⟨bx,ac,ap,af,q,rfl,c,r,a9⟩
 rcases ab with _|ab
 exact A5 c
 refine have c:FP p h y g a (Gh p h y g a ab) ap q=some bg:=c; ?_
 obtain ⟨fm,bz⟩:∃s,s=Gh p h y g a ab:=⟨_,rfl⟩
 rw [<-bz,FP] at c
 refine AT<|Sr<|Vm<|Vm<|have b0:=K3 Aq bu o w r; ?_
 obtain ⟨fn,fo,dg⟩:=AW b0
 refine Vx (v:=I (y.length:Int)) (Ll Fs dg)<|Vr (.bool (decide (q< (y.length:Int))))<|AA<|Cn c (λdh c=>?_) λdh c=>?_
 refine AR<|AT<|Ah<|BZ C7 (qs 0 10 (.q 11 (.one 10 (.q 12 (.one 13 (.q 14 .nil)))))) [] [] ac (by kernel_rfl) λba aq=>Qx f Z (λ_ _=>Fd De Z)<|have di:=Y4 a8 o w r aq;Qx f Z (λ_ ⟨_,e⟩=>Ld EF Z (Bc (Bs di e) Z))<|Qx f Z (v:=I q) (λ_ _=>Mv Z)<|Bi c λbb dj c=>have dk:=K4 AZ br o w r aq; ?_
 obtain ⟨dl,dm,fp,dn,dp,dq,dr,ds,bc⟩:=A8 (κ:=AZ) dk dj
 replace bc:Ay ac ba dl (dm+q.toNat*3) dn:=bc
 obtain rfl:=EK ds
 refine Qx f Z (λ_ _=>Ix Df dp Z dq dr)<|Qx f Z (λ_ _=>Fz Kl Z)<|Qx f Z (λ_ ⟨_,e⟩=>Ld B7 Z (Ay.cell0 (Es bc e) Z))<|Qx f Z (v:=Sl a4 y a5) (λ_ _=>Mv Z)<|Qx f Z (v:=I q) (λ_ _=>Mv Z)<|Bi c λz dt c=>have du:=Ss Aq b0 aq; ?_
 obtain ⟨dv,dw,fq,dx,dy,dz,d0,d1,bd⟩:=A8 (κ:=Aq) du dt
 replace bd:Ay ac ba dv (dw+q.toNat*4) dx:=bd
 obtain ⟨b2,b3,rfl,b1⟩:=E1 (A1 d1)
 refine Qx f Z (λ_ _=>Ix Fs dy Z dz d0)<|Qx f Z (λ_ ⟨_,e⟩=>Lx B5 Z Z (Ay.part0 (Es bd e) [I z.type_,Cx z.num,.bool z.bool,Sl b2 z.list b3] Z))<|Qx f Z (v:=af) (λ_ _=>Mv Z)<|A2 Z<|Bi c λd2 d3 c=>A4 Z (.none Z) Z Z (Cg [Ag [I z.type_,Cx z.num,.bool z.bool,Sl b2 z.list b3]] Z)<|Calls.mono (UJ p ac ba d3 (Ao (x:=z) b1)) ?_
 rintro _ fs ⟨d4,b4,rfl,ay,b5⟩
 refine ⟨_,Z,⟨_,(Mo [] ay)⟩,?_⟩
 refine Qx f Z (v:=Ag [Sb bb.name,b4,af]) (λ_ _=>CK (cs:=[Sb bb.name,b4,af]) [Sb ([]:Bts),.pointer none,.pointer none] P0 Pz Z (.cons Z Z Z (.cons Z (Dq (RTh.one b5)) Z (.cons Z (Dq (RNm.one a9)) Z .nil))) Z Z)<|A2 Z<|Bn Z (.none Z) Z Z<|A0 d4 24 Z Z λft fu b6 d5 az=>⟨⟨_,(Tn (Mo [] ay) az)⟩,?_⟩
 refine Qx f Z (v:=Pt b6 0) (λ_ _=>Run.assign Z)<|CA<|AM<|Vm<|Vr (I (Wr (q+1)))<|Va (I (Wr (q+1)))<|AA<|have d6:=RTh.step b5 az dcd;have d7:=Rs (Rs (Rs a9 aq) ay) az; ?_
 obtain ⟨d8,d9,ea⟩:=RNm.lay d5 dcd d6 d7
 exact ⟨ab,Nat.lt_succ_self ab,_,d8,(Nm.bind bb.name d2 ap),Pt b6 0,(Wr (q+1)),Pu,(bz▸c),(T4 (Mo [24] r) aq ay az d9),ea⟩
 refine BX<|Sr<|Vm<|Vm<|Vx (Fd LO Z)<|have eb:=Y3 a8 o w r;Vx (Lx BA Z Z (Bk.part eb 3 [I a.1.body.op,Sb a.1.body.name,Sb a.1.body.tail,I a.1.body.type_,Cx a.1.body.num,Sl an a.1.body.args ao,I a.1.body.at_] Z))<|Vm<|have ec:=Bs de r;have ed:=K2 AI (K4 AI bn u m n o) w r;have ee:=K3 AG bt o w r;Bi c λef eg c=>Ca (Cg [Pt ae 0,Ag [I a.1.body.op,Sb a.1.body.name,Sb a.1.body.tail,I a.1.body.type_,Cx a.1.body.num,Sl an a.1.body.args ao,I a.1.body.at_],af] Z) (PA p ac ax eg dcd dcd ec (Aw (x:=(AX.mk h (if 16384< (if g<0 then 0 else g) then 16384 else (if g<0 then 0 else g)) 0 0)) ed) (AY (x:=(AE.mk a.1.body.op a.1.body.name a.1.body.tail a.1.body.type_ a.1.body.num a.1.body.args a.1.body.at_)) ee) a9) ?_
 rintro _ eh ⟨ei,ej,fv,rfl,a0,ek,el,em⟩
 obtain ⟨fx,fy,rfl,b7⟩:=E1 (BT em)
 refine Bi c λd en c=>Ca (Cg [Pt ae 0,ej] Z) (OZ p ei eh en dcd dcd el (Aw (x:=ef.2) b7) ek) ?_
 rintro _ fz ⟨eo,f0,f1,rfl,a1,ep,eq,er⟩
 obtain ⟨ar,au,rfl,b8⟩:=E1 (A1 ep)
 obtain ⟨f4,f5,rfl,es⟩:=E1 (BT er)
 refine Ef<|Aa eo 25 Cm Z λa2 f6 f7 et ai=>have eu:=Ss Kd.cpx b8 ai;Eu<|St DN et Z Z Z Z λf8 ew aj=>AA<|AT<|Sr<|Vm<|Vx (Nc Z)<|Vx (Fd Ks Z)<|have be:=Y2 eq ai aj;Vx (Ld BC Z (Bc be Z))<|Vr (.bool (d.2.why != 0))<|AA<|Cn c (λex c=>?_) λex c=>?_
 refine AT<|BZ C7 (qs 0 9 (.one 9 .nil)) [9] [] a2 (by kernel_rfl) λf9 bf=>Qx f Z (v:=Pt ae 0) (λ_ _=>Mv Z)<|Qx f Z (λ_ _=>Nc Z)<|Qx f Z (λ_ _=>Fd Ks Z)<|have b9:=Bs be bf;Qx f Z (λ_ ⟨_,e⟩=>Ld BC Z (Bc (Bs b9 e) Z))<|Qx f Z (v:=Pt ae 0) (λ_ _=>Mv Z)<|Qx f Z (λ_ _=>Nc Z)<|Qx f Z (λ_ _=>Fd N9 Z)<|Qx f Z (λ_ ⟨_,e⟩=>Ld BC Z (Bc (Bs b9 e) Z))<|Qx f Z (v:=Ag [I d.2.why,I 0,Cx (((0,0):Cpl)),.bool false,.slice none 0 0,I d.2.cost,I 0,I 0,I 0]) (λ_ _=>CK (cs:=[I d.2.why,I 0,Cx (((0,0):Cpl)),.bool false,.slice none 0 0,I d.2.cost,I 0,I 0,I 0]) [I 0,I 0,Cx (((0,0):Cpl)),.bool false,.slice none 0 0,I 0,I 0,I 0,I 0] LQ NQ Z (.cons Z Z Z (.cons Z Z Z .nil)) Z Z)<|E3 dcd<|WY.one<|have ey:=Y4 (Y4 (Y4 am l u m n) o w r a0) a1 ai aj bf;BS Z (.none Z) Z<|St MA ey Z Z Z Z λga ez e0=>WY.nil<|AS ?_
 obtain rfl:=AK c
 refine O1 B al Z (.agg Mi Z Z (Bw ez))<|⟨a2,[I d.2.why,I 0,Cx (((0,0):Cpl)),.bool false,.slice none 0 0,I d.2.cost,I 0,I 0,I 0],Z,Ho (T2 (T4 (T4 (T4 (Mo [21,22,23,24,25] ad) aa l u m) n o w r) a0 a1 ai aj) bf e0) ak,(Jq (x:=(BK.mk d.2.why (AD.mk 0 ((0,0):Cpl) false []) d.2.cost 0 0 0)) Ba)⟩
 refine AR<|AT<|BZ C7 (qs 0 6 (.one 6 .nil)) [6] [] a2 (by kernel_rfl) λgb av=>have e1:=Bs ew av;Qx f Z (λ_ ⟨_,e⟩=>Lx B5 Z Z (Bw (Bs e1 e)))<|Qx f Z (v:=Pt ae 0) (λ_ _=>Mv Z)<|Qx f Z (λ_ _=>Nc Z)<|Qx f Z (λ_ _=>Fd N9 Z)<|have e2:=Bs be av;Qx f Z (λ_ ⟨_,e⟩=>Ld BC Z (Bc (Bs e2 e) Z))<|Qx f Z (v:=Ag [I 0,I d.1.type_,Cx d.1.num,.bool d.1.bool,Sl ar d.1.list au,I d.2.cost,I 0,I 0,I 0]) (λ_ _=>CK (cs:=[I 0,I d.1.type_,Cx d.1.num,.bool d.1.bool,Sl ar d.1.list au,I d.2.cost,I 0,I 0,I 0]) [I 0,I 0,Cx (((0,0):Cpl)),.bool false,.slice none 0 0,I 0,I 0,I 0,I 0] LQ NQ Z (.cons Z Z Z (.cons Z Z Z .nil)) Z Z)<|E3 dcd<|WY.one<|have e3:=Y4 (Y4 (Y4 am l u m n) o w r a0) a1 ai aj av;have e4:=K2 Kd.cpx eu aj av;BS Z (.none Z) Z<|St MA e3 Z Z Z Z λgc e5 ca=>WY.nil<|AS ?_
 obtain rfl:=AK c
 refine O1 B al Z (.agg Mi Z Z (Bw e5))<|have e6:=Ss Kd.cpx e4 ca;⟨a2,[I 0,I d.1.type_,Cx d.1.num,.bool d.1.bool,Sl ar d.1.list au,I d.2.cost,I 0,I 0,I 0],Z,Ho (T2 (T4 (T4 (T4 (Mo [21,22,23,24,25] ad) aa l u m) n o w r) a0 a1 ai aj) av ca) ak,(Jq (x:=(BK.mk 0 d.1 d.2.cost 0 0 0)) e6)⟩
theorem VG(c:Nat):GI.Spec (GI c):=lk0 (UO c)
def GZ.At(c:Col)(a:World)(f:AD->AD->Option Bool):Prop:=
 ∀{d e g h l},f d g=some l->Aq.rep c.F a e d->Aq.rep c.F a h g->
  Calls PG 22 #[Ag e,Ag h] a λm n=>∃o,m=.returned (.bool l)/\AU [] c a o n
def GZ.Spec(f:AD->AD->Option Bool):Prop:=
 ∀a c,GZ.At a c f
theorem Sm(u:Nat)(w:Col)(ar:World)(aj:∀b,w b<10):GZ.At w ar (GZ u):=by
 intro d bf c bg ak a au av
 rw [GZ] at a
 obtain ⟨al,am,rfl,y⟩:=E1 (A1 au)
 obtain ⟨an,ao,rfl,z⟩:=E1 (A1 av)
 refine Az Tryz.func22 Z Tryz.ntmps22 Z λB ap bj=>Sr<|Ef<|A0 w 20 Z Z λaw bk ax aa q=>Ef<|A0 aw 21 Z Z λab ay az ac l=>Va (.bool false)<|AA<|AT<|Am (λad s=>∃r g ae,ad=Env.puts r [(2,Pt ax 0),(3,Pt az 0),(12,.bool ae)]/\KN u d c ae=some ak/\AU [] ab ay g s) ?_ ?_
 refine AM<|Vx (Fz JJ Z)<|have a0:=Bs aa l;Vx (Ld Dl Z (Bc a0 Z))<|Vr (.bool (d.type_==0))<|Vm<|Bo a (λm a=>?_) λm a=>?_
 refine Gx m (Fz JJ Z)<|Gx m (Ld Dl Z (Bc ac Z))<|Gr m (.bool (c.type_==0))<|Vp m<|AA<|⟨_,ab,(c.type_==0),Pu,a,Rf⟩
 refine Pg m<|Pg m<|Pg m<|Vp m<|AA<|⟨_,ab,false,Pu,a,Rf⟩
 rintro _ s ⟨r,g,ae,rfl,a,h⟩
 rw [KN] at a
 refine Cn a (λa1 a=>?_) λa1 a=>?_
 refine Am (λad aq=>∃r af ag,ad=Env.puts r [(4,.bool ag)]/\IB ag=some ak/\AU [] g s af aq) ?_ ?_
 refine AM<|Vx (Fd HU Z)<|have ah:=Y2 aa l h;Vx (Ld Gc Z (Bc ah Z))<|Vx (v:=.bool (ceq d.num ((0,0):Cpl))) (Run.ceq Z Z)<|Vm<|Bo a (λn a=>?_) λn a=>?_
 refine Gx n (Fd HU Z)<|have ai:=Bs ac h;Gx n (Ld Gc Z (Bc ai Z))<|Gx n (v:=.bool (ceq c.num ((0,0):Cpl))) (Run.ceq Z Z)<|Vp n<|Vm<|Bo a (λo a=>?_) λo a=>?_
 refine Gx o (Fd Kj Z)<|Gx o (Ld M0 Z (Bc ah Z))<|Gr o (.bool (!d.bool))<|Vp o<|Vm<|Bo a (λp a=>?_) λp a=>?_
 refine Gx p (Fd Kj Z)<|Gx p (Ld M0 Z (Bc ai Z))<|Gr p (.bool (!c.bool))<|Vp p<|Vm<|Bo a (λe a=>?_) λe a=>?_
 refine Gx e (Fd DV Z)<|Gx e (Ld HO Z (Bc ah Z))<|have a2:=K3 Kd.cpx y q l h; ?_
 obtain ⟨bl,bm,a3⟩:=AW a2
 refine Gx e (v:=I (d.list.length:Int)) (Ll HB a3)<|Gr e (.bool ((d.list.length:Int)==0))<|Vp e<|Vm<|Bo a (λf a=>?_) λf a=>?_
 refine Gx f (Fd DV Z)<|Gx f (Ld HO Z (Bc ai Z))<|have a4:=K3 Kd.cpx z q l h; ?_
 obtain ⟨bn,bo,a5⟩:=AW a4
 refine Gx f (v:=I (c.list.length:Int)) (Ll HB a5)<|Gr f (.bool ((c.list.length:Int)==0))<|Vp f<|Va (.bool ((c.list.length:Int)==0))<|AA<|⟨_,g,((c.list.length:Int)==0),Pu,a,Rf⟩
 refine Pg f<|Pg f<|Pg f<|Pg f<|Vp f<|Va (.bool false)<|AA<|⟨_,g,false,Pu,a,Rf⟩
 refine Pg e<|Pg e<|Pg e<|Pg e<|Vp e<|Vm<|Pg Z<|Pg Z<|Pg Z<|Pg Z<|Vr (.bool false)<|Va (.bool false)<|AA<|⟨_,g,false,Pu,a,Rf⟩
 refine Pg p<|Pg p<|Pg p<|Vp p<|Vm<|Pg Z<|Pg Z<|Pg Z<|Pg Z<|Vr (.bool false)<|Vm<|Pg Z<|Pg Z<|Pg Z<|Pg Z<|Vr (.bool false)<|Va (.bool false)<|AA<|⟨_,g,false,Pu,a,Rf⟩
 refine Pg o<|Pg o<|Pg o<|Vp o<|Vm<|Pg Z<|Pg Z<|Pg Z<|Vr (.bool false)<|Vm<|Pg Z<|Pg Z<|Pg Z<|Pg Z<|Vr (.bool false)<|Vm<|Pg Z<|Pg Z<|Pg Z<|Pg Z<|Vr (.bool false)<|Va (.bool false)<|AA<|⟨_,g,false,Pu,a,Rf⟩
 refine Pg n<|Pg n<|Pg n<|Vp n<|Vm<|Pg Z<|Pg Z<|Pg Z<|Vr (.bool false)<|Vm<|Pg Z<|Pg Z<|Pg Z<|Vr (.bool false)<|Vm<|Pg Z<|Pg Z<|Pg Z<|Pg Z<|Vr (.bool false)<|Vm<|Pg Z<|Pg Z<|Pg Z<|Pg Z<|Vr (.bool false)<|Va (.bool false)<|AA<|⟨_,g,false,Pu,a,Rf⟩
 rintro _ aq ⟨r,af,ag,rfl,a,a6⟩
 rw [IB] at a
 refine AS ?_
 obtain rfl:=AK a
 refine O1 B ap Z (.tmp Z)<|⟨af,Z,Ho (T3 (Mo [] q) l h a6) aj⟩
 refine AR<|Sr<|have a7:=Y2 aa l h;Vx (Lx B5 Z Z (Bw a7))<|have a8:=Bs ac h;Vx (Lx B5 Z Z (Bw a8))<|have a9:=K3 Kd.cpx y q l h;have ba:=K3 Kd.cpx z q l h;Bi a λbb bc a=>Ca (Cg [Ag [I d.type_,Cx d.num,.bool d.bool,Sl al d.list am],Ag [I c.type_,Cx c.num,.bool c.bool,Sl an c.list ao]] Z) (QF u g s bc (Ao (x:=d) a9) (Ao (x:=c) ba)) ?_
 rintro _ bp ⟨bd,rfl,be⟩
 refine Va (.bool bb)<|AA<|AS ?_
 obtain rfl:=AK a
 refine O1 B ap Z (.tmp Z)<|⟨bd,Z,Ho (T3 (Mo [] q) l h be) aj⟩
theorem UP(c:Nat):GZ.Spec (GZ c):=lk0 (Sm c)
def JG.At(c:Col)(a:World)(f:BK->BK->Option Bool):Prop:=
 ∀{d e g h l},f d g=some l->K1.rep c.F a e d->K1.rep c.F a h g->
  Calls PG 12 #[Ag e,Ag h] a λm n=>∃o,m=.returned (.bool l)/\AU [] c a o n
def JG.Spec(f:BK->BK->Option Bool):Prop:=
 ∀a c,JG.At a c f
theorem UQ(ab:Nat)(r:Col)(al:World)(am:∀b,r b<10):JG.At r al (JG ab):=by
 intro c a0 d a1 an a ao ap
 rw [JG] at a
 obtain ⟨ad,ae,rfl,ac⟩:=E1 (Nr ao)
 obtain ⟨ag,ah,rfl,af⟩:=E1 (Nr ap)
 refine Az Tryz.func12 Z Tryz.ntmps12 Z λB aq a4=>Sr<|Ef<|A0 r 20 Z Z λar a5 a6 au s=>Ef<|A0 ar 21 Z Z λu ai a7 w o=>Va (.bool false)<|AA<|Am (λav aj=>∃ak y z,av=Env.puts ak [(4,.bool z)]/\Hk z=some an/\AU [] u ai y aj) ?_ ?_
 refine AM<|Vx (Fz Qh Z)<|have aa:=Bs au o;Vx (Ld NO Z (Bc aa Z))<|Vx (Fz Qh Z)<|Vx (Ld NO Z (Bc w Z))<|Vr (.bool (c.why==d.why))<|Vm<|Bo a (λe a=>?_) λe a=>?_
 refine Gx e (Fd Mx Z)<|Gx e (Lx B5 Z Z (Bk.part aa 1 [I c.value.type_,Cx c.value.num,.bool c.value.bool,Sl ad c.value.list ae] Z))<|Gx e (Fd Mx Z)<|Gx e (Lx B5 Z Z (Bk.part w 1 [I d.value.type_,Cx d.value.num,.bool d.value.bool,Sl ag d.value.list ah] Z))<|have aw:=K2 Kd.cpx ac s o;have ax:=K2 Kd.cpx af s o;Bi a λa8 ay a=>CQ (.guard (t:=true) (b:=true) Z Z Z Z (Cb e)) Z Z (Cg [Ag [I c.value.type_,Cx c.value.num,.bool c.value.bool,Sl ad c.value.list ae],Ag [I d.value.type_,Cx d.value.num,.bool d.value.bool,Sl ag d.value.list ah]] Z)<|Calls.mono (UP ab u ai ay (Ao (x:=(AD.mk c.value.type_ c.value.num c.value.bool c.value.list)) aw) (Ao (x:=(AD.mk d.value.type_ d.value.num d.value.bool d.value.list)) ax)) ?_
 rintro _ a9 ⟨n,rfl,m⟩
 refine ⟨_,Z,?_⟩
 refine Vp e<|Vm<|Bo a (λf a=>?_) λf a=>?_
 refine Gx f (Fd Qi Z)<|have p:=Bs aa m;Gx f (Ld BC Z (Bc p Z))<|Gx f (Fd Qi Z)<|have q:=Bs w m;Gx f (Ld BC Z (Bc q Z))<|Gr f (.bool (c.moves==d.moves))<|Vp f<|Vm<|Bo a (λg a=>?_) λg a=>?_
 refine Gx g (Fd XG Z)<|Gx g (Ld BC Z (Bc p Z))<|Gx g (Fd XG Z)<|Gx g (Ld BC Z (Bc q Z))<|Gr g (.bool (c.thunks==d.thunks))<|Vp g<|Vm<|Bo a (λh a=>?_) λh a=>?_
 refine Gx h (Fd XH Z)<|Gx h (Ld BC Z (Bc p Z))<|Gx h (Fd XH Z)<|Gx h (Ld BC Z (Bc q Z))<|Gr h (.bool (c.updates==d.updates))<|Vp h<|Vm<|Bo a (λl a=>?_) λl a=>?_
 refine Gx l (Fd XI Z)<|Gx l (Ld BC Z (Bc p Z))<|Gx l (Fd XI Z)<|Gx l (Ld BC Z (Bc q Z))<|Gr l (.bool (c.calls==d.calls))<|Vp l<|Va (.bool (c.calls==d.calls))<|AA<|⟨_,n,(c.calls==d.calls),Pu,a,(Mo [] m)⟩
 refine Pg l<|Pg l<|Pg l<|Pg l<|Pg l<|Vp l<|Va (.bool false)<|AA<|⟨_,n,false,Pu,a,(Mo [] m)⟩
 refine Pg h<|Pg h<|Pg h<|Pg h<|Pg h<|Vp h<|Vm<|Pg Z<|Pg Z<|Pg Z<|Pg Z<|Pg Z<|Vr (.bool false)<|Va (.bool false)<|AA<|⟨_,n,false,Pu,a,(Mo [] m)⟩
 refine Pg g<|Pg g<|Pg g<|Pg g<|Pg g<|Vp g<|Vm<|Pg Z<|Pg Z<|Pg Z<|Pg Z<|Pg Z<|Vr (.bool false)<|Vm<|Pg Z<|Pg Z<|Pg Z<|Pg Z<|Pg Z<|Vr (.bool false)<|Va (.bool false)<|AA<|⟨_,n,false,Pu,a,(Mo [] m)⟩
 refine Pg f<|Pg f<|Pg f<|Pg f<|Pg f<|Vp f<|Vm<|Pg Z<|Pg Z<|Pg Z<|Pg Z<|Pg Z<|Vr (.bool false)<|Vm<|Pg Z<|Pg Z<|Pg Z<|Pg Z<|Pg Z<|Vr (.bool false)<|Vm<|Pg Z<|Pg Z<|Pg Z<|Pg Z<|Pg Z<|Vr (.bool false)<|Va (.bool false)<|AA<|⟨_,n,false,Pu,a,(Mo [] m)⟩
 refine Pg e<|Pg e<|Pg e<|Pg e<|Pg e<|Vp e<|Vm<|Pg Z<|Pg Z<|Pg Z<|Pg Z<|Pg Z<|Vr (.bool false)<|Vm<|Pg Z<|Pg Z<|Pg Z<|Pg Z<|Pg Z<|Vr (.bool false)<|Vm<|Pg Z<|Pg Z<|Pg Z<|Pg Z<|Pg Z<|Vr (.bool false)<|Vm<|Pg Z<|Pg Z<|Pg Z<|Pg Z<|Pg Z<|Vr (.bool false)<|Va (.bool false)<|AA<|⟨_,u,false,Pu,a,Rf⟩
 rintro _ aj ⟨ak,y,z,rfl,a,az⟩
 rw [Hk] at a
 refine AS ?_
 obtain rfl:=AK a
 refine O1 B aq Z (.tmp Z)<|⟨y,Z,Ho (T2 (Mo [] s) o az) am⟩
theorem VH(c:Nat):JG.Spec (JG c):=lk0 (UQ c)
def FQ.At(c:Col)(a:World)(f:Eh->Option Bool):Prop:=
 ∀{d e g},f d=some g->J7.rep c.F a e d->
  Calls PG 8 #[Ag e] a λh l=>∃m,h=.returned (.bool g)/\AU [] c a m l
def FQ.Spec(f:Eh->Option Bool):Prop:=
 ∀a c,FQ.At a c f
theorem QV(p:Nat)(cj:Col)(fa:World)(b2:∀b,cj b<10):FQ.At cj fa (FQ p):=by
 intro m i3 be a fb
 rw [FQ] at a
 obtain ⟨b3,b4,rfl,c7⟩:=E1 (Qe fb)
 refine Az Tryz.func8 Z Tryz.ntmps8 Z λB b5 c=>Sr<|Ef<|A0 cj 20 Z Z λfc fd ck fe bq=>Va (.bool false)<|AA<|AT<|Sr<|Bi a λff fg a=>Ca (Cg [] Z) (T6 p fc fd fg) ?_
 rintro _ fh ⟨c8,rfl,bj⟩
 refine Vr (.bool (!ff))<|AA<|Cn a (λfi a=>?_) λfi a=>?_
 refine Sr<|Va (.bool false)<|AA<|AS ?_
 obtain rfl:=AK a
 refine O1 B b5 Z (.tmp Z)<|⟨c8,Z,Ho (Tn (Mo [] bq) bj) b2⟩
 refine AR<|Sr<|have c9:=Bs fe bj;Vx (Lx ZP Z Z (Bw c9))<|have da:=K2 Kd.u8 c7 bq bj;Bi a λf fj a=>Ca (Cg [Ag [Sl b3 m.text b4,Sb m.name,Sb m.args]] Z) (NS p c8 fh (kw1:=21) (kw2:=40) fj dcd dcd (OH (x:=m) da)) ?_
 rintro _ i5 ⟨fk,i6,i7,rfl,br,fl,b6⟩
 obtain ⟨bf,bg,rfl,db⟩:=E1 (BQ fl)
 obtain ⟨bk,bl,rfl⟩:=Li.len b6
 obtain ⟨ys,hys,b6,hnl⟩:=b6
 have hyn:ys.length=f.2.1.length:=by rw [<-hys,List.length_map]
 refine Vm<|Vr (Ag [Sl bf f.1.funcs bg])<|Vr (Sl bk f.2.1 bl)<|Vr (.bool f.2.2)<|Ef<|Aa fk 22 KP Z λfm i9 cm fn a3=>have fo:=Ss AI db a3;Eu<|St JK fn Z Z Z Z λfp fq a4=>Va (Sl bk f.2.1 bl)<|Va (.bool f.2.2)<|AA<|Sr<|have dc:=Y3 c9 br a3 a4;Vx (Lx ZP Z Z (Bw dc))<|have fr:=K3 Kd.u8 da br a3 a4;Bi a λo fs a=>Ca (Cg [Ag [Sl b3 m.text b4,Sb m.name,Sb m.args]] Z) (Nk p fm fp (kw1:=23) fs dcd dcd (OH (x:=m) fr)) ?_
 rintro _ ja ⟨ft,jb,jc,rfl,a5,fu,cn⟩
 obtain ⟨bt,bu,rfl,de⟩:=E1 (BQ fu)
 obtain ⟨a6,a7,rfl⟩:=Own.len cn
 refine Vm<|Vr (Ag [Sl bt o.1.funcs bu])<|Vr (Sl a6 o.2.1 a7)<|Vr (.bool o.2.2)<|Ef<|Aa ft 24 KP Z λdf je co fv an=>have fw:=Ss AI de an;Eu<|St JK fv Z Z Z Z λjf fx ao=>Va (Sl a6 o.2.1 a7)<|Va (.bool o.2.2)<|AA<|AT<|Sr<|Vm<|Vr (.bool (!f.2.2))<|AA<|Cn a (λfy a=>?_) λfy a=>?_
 refine Sr<|Va (.bool true)<|AA<|AS ?_
 obtain rfl:=AK a
 refine O1 B b5 Z (.tmp Z)<|⟨df,Z,Ho (T3 (T4 (Mo [40,21,22,23,24] bq) bj br a3 a4) a5 an ao) b2⟩
 refine AR<|Sr<|Ef<|Cj (cs:=[]) df 25 [] Fs Cm Z Z .nil Z λfz f0 f1 f2 ap=>have f3:Own kNv 38 fz f0 25 (.slice (some ⟨f1,0,none⟩) 0 0) ([]:List (AD×Value)):=Own.lit (css:=[]) f2 Z Z Z BB Ds Z;Vm<|have dg:=Os (Os (Os (Os (Os (Os b6 a3) a4) a5) an) ao) ap;Bi a λjg cq a=>Ef<|Br (κ:=kNv) Z Z f3 dcd (Xs TL) (CI dg) (by rw [hyn];exact Ea cq) (by rw [hyn];exact Ew cq) λjh f4 ji dh aq=>?_
 obtain ⟨jj,jk,rfl⟩:=Own.len dh
 refine Vx (v:=Ag [I 77,Cx (((0,0):Cpl)),.bool false,.slice none 0 0]) (Bp Cm GK Z (.cons Z Z Z .nil))<|Ef<|Cj (cs:=[I 77,Cx (((0,0):Cpl)),.bool false,.slice none 0 0]) f4 26 [[I 77,Cx (((0,0):Cpl)),.bool false,.slice none 0 0]] Fs Cm Z Z (.cons Z Z Z .nil) Z λf5 f6 f7 f8 al=>have f9:Own kNv 38 f5 f6 26 (.slice (some ⟨f7,0,none⟩) 1 1) ([((AD.mk 77 ((0,0):Cpl) false []),.slice none 0 0)]:List (AD×Value)):=Own.lit (css:=[[I 77,Cx (((0,0):Cpl)),.bool false,.slice none 0 0]]) f8 Z Z Z (Ac ⟨Z,Z⟩ BB) (A6 Z Ds) Z;have ga:=Os dh al;Bi a λjl di a=>Ef<|Br (κ:=kNv) Z Z ga dcd (Xs TL) (CI f9) (by rw [List.nil_append,hyn];exact Ea di) (by rw [List.nil_append,hyn];exact Ew di) λjm jn dj dk ar=>?_
 obtain ⟨bv,bw,rfl⟩:=Nd (xs:=((([]:List AD)++f.2.1)++([(AD.mk 77 ((0,0):Cpl) false [])]:List AD))) dk (by rw [List.map_append,List.map_append,hys];rfl)
 refine Va (Sl bv (((([]:List AD)++f.2.1)++([(AD.mk 77 ((0,0):Cpl) false [])]:List AD))) bw)<|AA<|Sr<|Vm<|Vm<|have dl:=Os (Os (Os dg aq) al) ar; ?_
 obtain ⟨jo,jp,gb⟩:=Nd (xs:=f.2.1) dl hys
 refine Vx (v:=I (f.2.1.length:Int)) (Ll Fs gb)<|Bi a λr gc a=>?_
 obtain ⟨dm,au,dn⟩:=Own.freeze (S:=[25]) dk dcd dcd
 obtain ⟨zs,dp,bm⟩:=AAb (zs:=([]++ys)++[(AD.mk 77 ((0,0):Cpl) false [],.slice none 0 0)]) (by rw [List.map_append,List.map_append,hys];exact gc)
 obtain ⟨dq,dr,gd,ge,bx⟩:=So dn dp
 obtain ⟨jq,ds⟩:∃s,s=Value.slice (if dr=(0:Int).toNat then dq else dq.map (·.add ((0:Int).toNat*kNv.size))) ((f.2.1.length:Int).toNat - (0:Int).toNat) (dr - (0:Int).toNat):=⟨_,rfl⟩
 rw [<-ds] at bx
 obtain ⟨gf,gg,gh,gi⟩:=Lp dp
 have gj:zs=ys:=by rw [gi,<-hyn];simp
 rw [gj] at bx bm
 have hyx:ys.length=r.length:=by rw [<-bm,List.length_map]
 refine have hmx:=Ea cq; ?_
 obtain ⟨a8,a9,dt⟩:=AW bx
 rw [show ys.length=r.length by rw [<-bm,List.length_map]] at dt
 subst dt
 refine Vx (v:=.slice a8 r.length a9) (by rw [ds];exact Run.sliceSlc Fs gd Z ⟨_,Z⟩ gf gg gh ge)<|Va (Sl a8 r a9)<|AA<|Sr<|have du:=Y4 (Y4 fq a5 an ao ap) aq al ar au;Vx (Lx Fw Z Z (Bw du))<|Vx (Fd TM Z)<|have dv:=Y4 (Y4 dc a5 an ao ap) aq al ar au;Vx (Ld B7 Z (Bc dv Z))<|Vm<|have dw:=Ss AI (K4 AI (K4 AI fo a4 a5 an ao) ap aq al ar) au;Bi a λl gk a=>CQ (.none Z) Z Z (Cg [Ag [Sl bf f.1.funcs bg],Sb m.name,Sl a8 r a9,I 2000] Z) ?_
 replace hnl:=hnl.step a3 dcd dcd
 replace hnl:=hnl.step a4 dcd dcd
 replace hnl:=hnl.step a5 dcd dcd
 replace hnl:=hnl.step an dcd dcd
 replace hnl:=hnl.step ao dcd dcd
 replace hnl:=hnl.step ap dcd dcd
 replace hnl:=hnl.step aq dcd dcd
 replace hnl:=hnl.step al dcd dcd
 replace hnl:=hnl.step ar dcd dcd
 replace hnl:=hnl.step au dcd dcd
 refine Calls.mono (NC p (hide 40 dm) dj (kw0:=27) gk dcd dcd (BL (x:=f.1) (Ss AI dw (AU.hide dm dj 40))) (hnl.args bx bm)) ?_
 rintro _ jr ⟨_,js,rfl,st159q,h161q⟩
 obtain ⟨gl,aj,dx⟩:=XE st159q h161q dcd dcd
 obtain ⟨cr,ct,rfl⟩:=Own.len dx
 refine ⟨_,Z,?_⟩
 refine Ef<|Aa gl 28 LQ Z λdy jt dz gm ah=>have d0:=Os dx ah;Eu<|Bf (vs:=[I l.why,I l.value.type_,Cx l.value.num,.bool l.value.bool,Sl cr l.value.list ct,I l.moves,I l.thunks,I l.updates,I l.calls]) (cs':=[I l.why,I l.value.type_,Cx l.value.num,.bool l.value.bool,Sl cr l.value.list ct,I l.moves,I l.thunks,I l.updates,I l.calls]) MA Z Z Z Z (AQ Z (AQ Z (AQ Z (AQ Z (AQ (Own.one d0) (AQ Z (AQ Z (AQ Z (AQ Z B6))))))))) gm dcd Z Z λd1 gn ai=>AA<|Sr<|have d2:=Y3 du aj ah ai;Vx (Lx Fw Z Z (Bw d2))<|Vx (Fd TM Z)<|have d3:=Y3 dv aj ah ai;Vx (Ld B7 Z (Bc d3 Z))<|Vm<|have d4:=K3 AI dw aj ah ai;have d5:=K3 kNv bx aj ah ai;Bi a λd go a=>CQ (.none Z) Z Z (Cg [Ag [Sl bf f.1.funcs bg],Sb m.name,Sl a8 r a9,I 2000] Z) ?_
 replace hnl:=hnl.step aj dcd dcd
 replace hnl:=hnl.step ah dcd dcd
 replace hnl:=hnl.step ai dcd dcd
 refine Calls.mono (NC p (hide 40 dy) d1 (kw0:=29) go dcd dcd (BL (x:=f.1) (Ss AI d4 (AU.hide dy d1 40))) (hnl.args d5 bm)) ?_
 rintro _ ju ⟨_,jv,rfl,st185q,h187q⟩
 obtain ⟨gp,ae,d6⟩:=XE st185q h187q dcd dcd
 obtain ⟨b7,b8,rfl⟩:=Own.len d6
 refine ⟨_,Z,?_⟩
 refine Ef<|Aa gp 30 LQ Z λd7 jw cu gq aa=>have d8:=Os d6 aa;Eu<|Bf (vs:=[I d.why,I d.value.type_,Cx d.value.num,.bool d.value.bool,Sl b7 d.value.list b8,I d.moves,I d.thunks,I d.updates,I d.calls]) (cs':=[I d.why,I d.value.type_,Cx d.value.num,.bool d.value.bool,Sl b7 d.value.list b8,I d.moves,I d.thunks,I d.updates,I d.calls]) MA Z Z Z Z (AQ Z (AQ Z (AQ Z (AQ Z (AQ (Own.one d8) (AQ Z (AQ Z (AQ Z (AQ Z B6))))))))) gq dcd Z Z λgr gs ab=>AA<|AT<|Sr<|Va (I 0)<|AA<|Ah<|Bj (λba bh bz=>∃av bi ay aw b9 ca,bh=Env.puts av [(1,Pt ck 0),(3,Pt cm 0),(4,Sl bk f.2.1 bl),(6,Pt co 0),(7,Sl a6 o.2.1 a7),(9,Sl bv (((([]:List AD)++f.2.1)++([(AD.mk 77 ((0,0):Cpl) false [])]:List AD))) bw),(10,Sl a8 r a9),(11,Pt dz 0),(12,Pt cu 0),(13,I ay)]/\G9 p m f o r d ba ay aw=some be/\AU [27] d7 gr bi bz/\Own Kd.cpx 35 bi bz 27 (Sl b9 aw ca) aw/\Bk bi bz 28 dz [I l.why,I l.value.type_,Cx l.value.num,.bool l.value.bool,Sl b9 aw ca,I l.moves,I l.thunks,I l.updates,I l.calls] 40) p ?_ ?_
 refine have gt:=Os (Os (Os (Os d0 ai) ae) aa) ab;have gu:=Y3 gn ae aa ab;⟨_,d7,0,l.value.list,cr,ct,Pu,a,(AU.refl [27] _ _),gt,gu⟩
 rintro ba _ bz ⟨av,bi,ay,aw,b9,ca,rfl,a,ac,cb,b0⟩
 rcases ba with _|ba
 exact A5 a
 refine have a:JI p m f o r d (G9 p m f o r d ba) ay aw=some be:=a; ?_
 obtain ⟨jx,d9⟩:∃s,s=G9 p m f o r d ba:=⟨_,rfl⟩
 rw [<-d9,JI] at a
 refine AT<|Sr<|Vm<|Vx (Fd Mx Z)<|Vx (Fd DV Z)<|Vx (Ld HO Z (Bc b0 Z)) ?_
 obtain ⟨jy,jz,gv⟩:=Own.len cb
 refine Vx (v:=I (aw.length:Int)) (Ll HB gv)<|Vr (.bool (decide (ay< (aw.length:Int))))<|AA<|Cn a (λgw a=>?_) λgw a=>?_
 refine AR<|AT<|Ah<|AM<|Vx (Fd Mx Z)<|Vx (Fd DV Z)<|Vx (Ld HO Z (Bc b0 Z))<|Vm<|Bi a λgx gy a=>?_
 obtain ⟨gz,j0,ea,eb,ec,ed,g0,ee⟩:=JQ (κ:=Kd.cpx) cb gy
 replace ee:Fv 27 bi bz gz (0+ay.toNat*1) ea:=ee
 obtain rfl:=(show ea=[Cx gx] from g0)
 refine Vx (Ix HB eb Z ec ed)<|Eu<|Qd (κ:=Kd.cpx) (cs:=[Cx (((4636666922610458624,0):Cpl))]) cb eb dcd Xv Z Z ec ed Z Z Z λj1 g1 ef=>AA<|AM<|Vm<|Vr (I (Wr (ay+1)))<|Va (I (Wr (ay+1)))<|AA<|have g2:=Bs b0 ef;⟨ba,Nat.lt_succ_self ba,_,bi,(Wr (ay+1)),(aw.set ay.toNat ((4636666922610458624,0):Cpl)),b9,ca,Pu,(d9▸a),(Tn (Mo [27] ac) ef),(by simpa only [Sl,List.length_set] using g1),(by simpa only [Sl,List.length_set] using g2)⟩
 refine BX<|Sr<|Vx (Fd Mx Z)<|Vx (Fd DV Z)<|Vx (Ld HO Z (Bc b0 Z))<|Ef<|Cj (cs:=[Cx (((4636596553866280960,0):Cpl))]) bi 31 [[Cx (((4636596553866280960,0):Cpl))]] HB V8 Z Z (.cons Z Z Z .nil) Z λg3 g4 g5 g6 w=>have g7:Own Kd.cpx 35 g3 g4 31 (.slice (some ⟨g5,0,none⟩) 1 1) ([((4636596553866280960,0):Cpl)]:List Cpl):=Own.lit (css:=[[Cx (((4636596553866280960,0):Cpl))]]) g6 Z Z Z (Ac Z BB) (A6 Z Ds) Z;have g8:=Os cb w;Bi a λj2 eg a=>Ef<|Br (κ:=Kd.cpx) Z Z g8 dcd V0 (CI g7) (Ea eg) (Ew eg) λj3 eh j4 ei ad=>?_
 obtain ⟨ej,ek,rfl⟩:=Own.len ei
 refine Vx (Fd Mx Z)<|Vx (Fd DV Z)<|have g9:=Y2 b0 w ad;Eu<|Bf (vs:=[Sl ej ((aw++([((4636596553866280960,0):Cpl)]:List Cpl))) ek]) (cs':=[I l.why,I l.value.type_,Cx l.value.num,.bool l.value.bool,Sl ej ((aw++([((4636596553866280960,0):Cpl)]:List Cpl))) ek,I l.moves,I l.thunks,I l.updates,I l.calls]) V4 Z Z Z Z (AQ (Own.one ei) B6) g9 dcd Z Z λha j5 af=>AA<|AT<|Sr<|Va (I 0)<|AA<|Ah ?_
 replace hnl:=hnl.step ae dcd dcd
 replace hnl:=hnl.step aa dcd dcd
 replace hnl:=hnl.step ab dcd dcd
 replace hnl:=hnl.step ac dcd dcd
 replace hnl:=hnl.step w dcd dcd
 replace hnl:=hnl.step ad dcd dcd
 replace hnl:=hnl.step af dcd dcd
 refine Bj (λbb bh cc=>∃av ax u,bh=Env.puts av [(1,Pt ck 0),(3,Pt cm 0),(4,Sl bk f.2.1 bl),(6,Pt co 0),(7,Sl a6 o.2.1 a7),(9,Sl bv (((([]:List AD)++f.2.1)++([(AD.mk 77 ((0,0):Cpl) false [])]:List AD))) bw),(10,Sl a8 r a9),(12,Pt cu 0),(14,I u)]/\E8 p m f o r d bb u=some be/\AU [40] eh ha ax cc/\XF ax cc u ys) p ?_ ?_
 exact ⟨_,eh,0,Pu,a,(AU.refl [40] _ _),λn y hy _=>hnl.own y (List.mem_of_getElem? hy)⟩
 rintro bb _ cc ⟨av,ax,u,rfl,a,ag,hR⟩
 rcases bb with _|bb
 exact A5 a
 refine have a:GJ p m f o r d (E8 p m f o r d bb) u=some be:=a; ?_
 obtain ⟨cd,el⟩:∃s,s=E8 p m f o r d bb:=⟨_,rfl⟩
 rw [<-el,GJ] at a
 refine AT<|Sr<|Vm<|Vm<|have em:=K4 kNv (K4 kNv d5 ae aa ab ac) w ad af ag; ?_
 obtain ⟨j6,j7,en⟩:=AW em
 rw [hyx] at en
 refine Vx (v:=I (r.length:Int)) (Ll Fs en)<|Vr (.bool (decide (u< (r.length:Int))))<|AA<|Cn a (λhb a=>?_) λhb a=>?_
 refine AR<|AT<|Ah<|AT<|AT<|BZ C7 (qs 0 8 (.one 8 (.q 9 .nil))) [] [] ax (by kernel_rfl) λbn bo=>Qx c Z (v:=Sl a8 r a9) (λ_ _=>Mv Z)<|Qx c Z (v:=I u) (λ_ _=>Mv Z)<|Bi a λq hc a=>have hd:=Ss kNv em bo; ?_
 obtain ⟨⟨x588q,eo⟩,b1,he⟩:=YB (zs:=ys) (by rw [bm];exact hc)
 obtain rfl:q=x588q:=he.symm
 refine have hO:Own Kd.cpx 35 ax bn 40 eo q.list:=(hR u.toNat (q,eo) (MF b1).2.2 (by have:=(MF b1).1;omega)).step bo dcd dcd; ?_
 obtain ⟨hf,hg,j8,hh,cv,cw,cx,hi,cf⟩:=A8 (κ:=kNv) hd b1
 replace cf:Ay ax bn hf (hg+u.toNat*4) hh:=cf
 obtain ⟨rfl,_⟩:=hi
 obtain ⟨cy,cz,rfl⟩:=Own.len hO
 refine Qx c Z (λ_ _=>Ix Fs cv Z cw cx)<|Qx c Z (λ_ ⟨_,e⟩=>Lx B5 Z Z (Ay.part0 (Es cf e) [I q.type_,Cx q.num,.bool q.bool,Sl cy q.list cz] Z))<|Qx c Z (v:=Sl a6 o.2.1 a7) (λ_ _=>Mv Z)<|Qx c Z (v:=I u) (λ_ _=>Mv Z)<|Bi a λa1 hj a=>have hk:=Os (Os (Os (Os (Os (Os (Os (Os (Os (Os (Os (Os (Os (Os (Os (Os (Os (Os (Os cn an) ao) ap) aq) al) ar) au) aj) ah) ai) ae) aa) ab) ac) w) ad) af) ag) bo; ?_
 obtain ⟨hl,j9,hm,hn,ho,hp,hq,c0⟩:=JQ (κ:=Aq) hk hj
 replace c0:Fv 23 ax bn hl (0+u.toNat*4) hm:=c0
 obtain ⟨eq,er,rfl,ep⟩:=E1 (A1 hq)
 refine Qx c Z (λ_ _=>Ix Fs hn Z ho hp)<|Qx c Z (λ_ ⟨_,e⟩=>Lx B5 Z Z (Fv.part0 (Fv.step c0 e dcd) [I a1.type_,Cx a1.num,.bool a1.bool,Sl eq a1.list er] Z))<|A2 Z<|Bi a λhr hs a=>A4 Z (.none Z) Z Z (Cg [Ag [I q.type_,Cx q.num,.bool q.bool,Sl cy q.list cz],Ag [I a1.type_,Cx a1.num,.bool a1.bool,Sl eq a1.list er]] Z)<|Calls.mono (QF p (hide 40 ax) bn hs (Ao (x:=q) (Yj hO)) (Ao (x:=a1) (Ss Kd.cpx ep (AU.hide ax bn 40)))) ?_
 rintro _ es ⟨_,rfl,st630q⟩
 obtain ⟨cg,bp⟩:∃cg,AU [] ax bn cg es:=⟨_,st630q.unhide dcd⟩
 refine ⟨_,Z,⟨_,(Mo [] bp)⟩,?_⟩
 refine Qx c Z (v:=.bool (!hr)) (λ_ _=>Z)<|CA<|Cn a (λht a=>?_) λht a=>?_
 refine Sr<|Va (.bool false)<|AA<|AS ?_
 obtain rfl:=AK a
 refine O1 B b5 Z (.tmp Z)<|⟨cg,Z,Ho (Tn (T4 (T4 (T4 (T4 (T4 (T4 (Mo [40,21,22,23,24,25,27,28,29,30] bq) bj br a3 a4) a5 an ao ap) aq al ar au) aj ah ai ae) aa ab ac w) ad af ag bo) bp) b2⟩
 refine AR<|Sr<|Va (I 0)<|AA<|Ah<|have hO2:=hO.step bp dcd dcd; ?_
 obtain ⟨g,kb,et,hgo⟩:=AAd hO2
 refine Bj (λbc bh c1=>∃av cl bd,bh=Env.puts av [(1,Pt ck 0),(3,Pt cm 0),(4,Sl bk f.2.1 bl),(6,Pt co 0),(7,Sl a6 o.2.1 a7),(9,Sl bv (((([]:List AD)++f.2.1)++([(AD.mk 77 ((0,0):Cpl) false [])]:List AD))) bw),(10,Sl a8 r a9),(12,Pt cu 0),(14,I u),(15,I bd)]/\G8 u cd q bc bd=some be/\AU [41] (spot g) es (spot g) c1/\cl.length=q.list.length/\Own Kd.cpx 35 (spot g) c1 41 (Sl cy q.list cz) cl) p ?_ ?_
 exact ⟨_,q.list,0,Pu,a,(AU.refl [41] _ _),Z,hgo⟩
 rintro bc _ c1 ⟨av,cl,bd,rfl,a,stg,hcl,hgo⟩
 have eu:=AAe stg (λh=>(et h).1)
 rcases bc with _|bc
 exact A5 a
 refine have a:JH u cd q (G8 u cd q bc) bd=some be:=a; ?_
 obtain ⟨kc,ew⟩:∃s,s=G8 u cd q bc:=⟨_,rfl⟩
 rw [<-ew,JH] at a
 refine AT<|Sr<|Vm<|Vm<|Vm<|Vx (Ix Fs cv Z cw cx)<|Vx (Fd DV Z)<|have ex:=Es (Es cf bp) eu;Vx (Ld HO Z (Ay.cell (k:=3) ex Z)) ?_
 obtain ⟨kd,ke,ey⟩:=Own.len hgo
 rw [hcl] at ey
 refine Vx (v:=I (q.list.length:Int)) (Ll HB ey)<|Vr (.bool (decide (bd< (q.list.length:Int))))<|AA<|Cn a (λhu a=>?_) λhu a=>?_
 refine AR<|AT<|Ah<|AM<|Vm<|Vm<|Vx (Ix Fs cv Z cw cx)<|Vx (Fd DV Z)<|Vx (Ld HO Z (Ay.cell (k:=3) ex Z))<|Vm<|Bi a λkf hw a=>?_
 obtain ⟨x687q,h688q⟩:=AAc hcl hw
 obtain ⟨kg,kh,ki,ez,e0,e1,kj,kk⟩:=JQ (κ:=Kd.cpx) hgo h688q
 refine Vx (Ix HB ez Z e0 e1)<|Eu<|Qd (κ:=Kd.cpx) (cs:=[Cx (((4636526185122103296,0):Cpl))]) hgo ez dcd Xv Z Z e0 e1 Z Z Z λkl hx hz=>AA<|AM<|Vm<|Vr (I (Wr (bd+1)))<|Va (I (Wr (bd+1)))<|AA<|⟨bc,Nat.lt_succ_self bc,_,_,(Wr (bd+1)),Pu,(ew▸a),stg.trans hz dcd,(by simpa only [Sl,List.length_set] using hcl),hx⟩
 refine BX<|AM<|Vm<|Vr (I (Wr (u+1)))<|Va (I (Wr (u+1)))<|AA<|⟨bb,Nat.lt_succ_self bb,_,cg,(Wr (u+1)),Pu,(el▸a),(T3 (Mo [40] ag) bo bp eu),XF.next hnl ((hR.step bo dcd dcd).step bp dcd dcd) b1 et stg (Yk hyn hmx b1)⟩
 refine BX<|Am (λbh e2=>∃av c2 c3,bh=Env.puts av [(2,.bool c3)]/\Jj c3=some be/\AU [23] ax cc c2 e2) ?_ ?_
 refine have h0:=Os (Os (Os (Os (Os (Os (Os (Os (Os (Os (Os (Os (Os (Os (Os (Os (Os (Os cn an) ao) ap) aq) al) ar) au) aj) ah) ai) ae) aa) ab) ac) w) ad) af) ag; ?_
 obtain ⟨ch,am,h1⟩:=Own.freeze (S:=[23]) h0 dcd dcd
 refine BZ C7 (qs 0 10 (.one 10 (qs 11 7 (.one 18 (.one 19 (.q 20 (.q 21 .nil))))))) [] [] ch (by kernel_rfl) λe3 ak=>Qx c Z (v:=Sl bv (((([]:List AD)++f.2.1)++([(AD.mk 77 ((0,0):Cpl) false [])]:List AD))) bw) (λ_ _=>Mv Z)<|Qx c Z (v:=Sl bk f.2.1 bl) (λ_ _=>Mv Z)<|have h2:=Os (Os (Os (Os (Os (Os (Os (Os (Os (Os (Os (Os (Os (Os dl au) aj) ah) ai) ae) aa) ab) ac) w) ad) af) ag) am) ak; ?_
 obtain ⟨km,kn,h3⟩:=Nd (xs:=f.2.1) h2 hys
 refine Qx c Z (v:=I (f.2.1.length:Int)) (λ_ _=>Ll Fs h3)<|Bi a λc4 h4 a=>have h5:=Ss kNv (K4 kNv (K4 kNv (K4 kNv dn aj ah ai ae) aa ab ac w) ad af ag am) ak; ?_
 obtain ⟨⟨x856q,ko⟩,h6,h7⟩:=YB (zs:=([]++ys)++[(AD.mk 77 ((0,0):Cpl) false [],.slice none 0 0)]) (by rw [List.map_append,List.map_append,hys];exact h4)
 obtain rfl:c4=x856q:=h7.symm
 obtain ⟨h8,h9,kp,ia,ib,ic,id,ie,c5⟩:=A8 (κ:=kNv) h5 h6
 replace c5:Ay ch e3 h8 (h9+(f.2.1.length:Int).toNat*4) ia:=c5
 obtain ⟨rfl,_⟩:=ie
 refine Qx c Z (λ_ _=>Ix Fs ib Z ic id)<|Qx c Z (λ_ _=>Fz JJ Z)<|Qx c Z (λ_ ⟨_,e⟩=>Ld Dl Z (Ay.cell0 (Es c5 e) Z))<|Qx c Z (v:=.bool (c4.type_==77)) (λ_ _=>Z)<|Qx c Z (v:=.bool (c4.type_==77)) (λ_ _=>Mv Z)<|Bo a (λa2 a=>?_) λa2 a=>?_
 refine have ig:=Y2 (Y4 (Y4 d2 ae aa ab ac) w ad af ag) am ak;Qg c Z a2 (λ_ ⟨_,e⟩=>Lx Fw Z Z (Bw (Bs ig e)))<|have e4:=Y2 (Y4 (Y4 (Y4 (Y4 fx ap aq al ar) au aj ah ai) ae aa ab ac) w ad af ag) am ak;Qg c Z a2 (λ_ ⟨_,e⟩=>Lx Fw Z Z (Bw (Bs e4 e)))<|A2 Z<|have ih:=K2 AI (K4 AI (K4 AI d4 ae aa ab ac) w ad af ag) am ak;have e5:=K3 AI (K4 AI (K4 AI (K4 AI (K4 AI fw ao ap aq al) ar au aj ah) ai ae aa ab) ac w ad af) ag am ak;Bi a λe6 ii a=>A4 Z (.guard (t:=true) (b:=true) Z Z Z Z (Cb a2)) Z Z (Cg [Ag [Sl bf f.1.funcs bg],Ag [Sl bt o.1.funcs bu],.bool true] Z)<|Calls.mono (U4 p ch e3 ii (BL (x:=f.1) ih) (BL (x:=o.1) e5)) ?_
 rintro _ ij ⟨e7,rfl,az⟩
 refine ⟨_,Z,⟨_,(Mo [] az)⟩,?_⟩
 refine Qx c Z (v:=.bool e6) (λ_ _=>(Pk a2))<|Qx c Z (v:=.bool e6) (λ_ _=>Mv Z)<|Bo a (λz a=>?_) λz a=>?_
 refine Qg c Z z (λ_ ⟨_,e⟩=>Lx Mi Z Z (Bk.part (Y4 (Y4 gs ac w ad af) ag am ak e) 0 [I d.why,I d.value.type_,Cx d.value.num,.bool d.value.bool,Sl b7 d.value.list b8,I d.moves,I d.thunks,I d.updates,I d.calls] Z))<|Qg c Z z (λ_ ⟨_,e⟩=>Lx Fw Z Z (Bw (Bs e4 e)))<|Qg c Z z (λ_ _=>Fd TM Z)<|Qg c Z z (λ_ ⟨_,e⟩=>Ld B7 Z (Bc (Y3 (Y4 (Y4 d3 ae aa ab ac) w ad af ag) am ak e) Z))<|Qg c Z z (v:=Sl a6 o.2.1 a7) (λ_ _=>Mv Z)<|A2 Z<|have ik:=Ss AI e5 az;have il:=K2 Aq h1 ak az;Bi a λa0 im a=>A4 Z (.guard (t:=true) (b:=true) Z Z Z Z (Cb z)) Z Z (Cg [Ag [Sl bt o.1.funcs bu],Sb m.name,Sl a6 o.2.1 a7,I 2000] Z)<|Calls.mono (VG p e7 ij im (BL (x:=o.1) ik) il) ?_
 rintro _ io ⟨kq,kr,rfl,ci,ip⟩
 obtain ⟨iq,ir,rfl,e8⟩:=E1 (Nr ip)
 refine ⟨_,Z,⟨_,(Tn (Mo [] az) ci)⟩,?_⟩
 refine A2 Z<|have it:=Os (Os (Os (Os (Os (Os (Os (Os (Os (Os d8 ab) ac) w) ad) af) ag) am) ak) az) ci; ?_
 obtain ⟨iu,iv,iw,ix⟩:=Own.lend it dcd
 refine have iy:=Ss Kd.cpx e8 iv;Bi a λc6 iz a=>A4 Z (.guard (t:=true) (b:=true) Z Z Z Z (Cb z)) Z Z (Cg [Ag [I d.why,I d.value.type_,Cx d.value.num,.bool d.value.bool,Sl b7 d.value.list b8,I d.moves,I d.thunks,I d.updates,I d.calls],Ag [I a0.why,I a0.value.type_,Cx a0.value.num,.bool a0.value.bool,Sl iq a0.value.list ir,I a0.moves,I a0.thunks,I a0.updates,I a0.calls]] Z)<|Calls.mono (VH p iu io iz (Jq (x:=d) iw) (Jq (x:=a0) iy)) ?_
 rintro _ kt ⟨ku,rfl,i0⟩
 obtain ⟨i1,e9⟩:=ix [] _ _ i0 dcd
 refine ⟨_,Z,⟨_,(T2 (Mo [] az) ci e9)⟩,?_⟩
 refine Qx c Z (v:=.bool c6) (λ_ _=>(Pk z))<|Qx c Z (v:=.bool c6) (λ_ _=>Run.assign Z)<|CA<|⟨_,i1,c6,Pu,a,(T4 (Mo [23] am) ak az ci e9)⟩
 refine Qp c Z z<|Qp c Z z<|Qp c Z z<|Qp c Z z<|Qp c Z z<|A2 Z<|LY Z (.guard (t:=false) (b:=true) Z Z Z Z (Cb z)) Z Z<|⟨⟨_,(Mo [] az)⟩,?_⟩
 refine A2 Z<|LY Z (.guard (t:=false) (b:=true) Z Z Z Z (Cb z)) Z Z<|⟨⟨_,(Mo [] az)⟩,?_⟩
 refine Qx c Z (v:=.bool false) (λ_ _=>(Pk z))<|Qx c Z (v:=.bool false) (λ_ _=>Run.assign Z)<|CA<|⟨_,e7,false,Pu,a,(T2 (Mo [23] am) ak az)⟩
 refine Qp c Z a2<|Qp c Z a2<|A2 Z<|LY Z (.guard (t:=false) (b:=true) Z Z Z Z (Cb a2)) Z Z<|⟨⟨_,Rf⟩,?_⟩
 refine Qx c Z (v:=.bool false) (λ_ _=>(Pk a2))<|Qx c Z (v:=.bool false) (λ_ _=>Mv Z)<|Qp c Z Z<|Qp c Z Z<|Qp c Z Z<|Qp c Z Z<|Qp c Z Z<|A2 Z<|LY Z (.guard (t:=false) (b:=true) Z Z Z Z Z) Z Z<|⟨⟨_,Rf⟩,?_⟩
 refine A2 Z<|LY Z (.guard (t:=false) (b:=true) Z Z Z Z Z) Z Z<|⟨⟨_,Rf⟩,?_⟩
 refine Qx c Z (v:=.bool false) (λ_ _=>Z)<|Qx c Z (v:=.bool false) (λ_ _=>Run.assign Z)<|CA<|⟨_,ch,false,Pu,a,(Tn (Mo [23] am) ak)⟩
 rintro _ e2 ⟨av,c2,c3,rfl,a,i2⟩
 rw [Jj] at a
 refine AS ?_
 obtain rfl:=AK a
 refine O1 B b5 Z (.tmp Z)<|⟨c2,Z,Ho (T4 (T4 (T4 (T4 (T4 (T4 (Mo [40,21,22,23,24,25,27,28,29,30] bq) bj br a3 a4) a5 an ao ap) aq al ar au) aj ah ai ae) aa ab ac w) ad af ag i2) b2⟩
theorem Q2(c:Nat):FQ.Spec (FQ c):=lk0 (QV c)
end Fth
namespace Fth
open Go
def T{α:Type}(x:Option α)(Q:α->Prop):Prop:=∃a,x=some a/\Q a
section
variable{α β:Type}{x:Option α}{f:α->Option β}{P:α->Prop}{Q:β->Prop}
theorem T.some{a:α}(h:P a):T (.some a) P:=⟨a,rfl,h⟩
theorem T.bind(h:T x P)(k: ∀a,P a->T (f a) Q):T (x.bind f) Q:=by
 obtain ⟨a,rfl,ha⟩:=h
 exact k a ha
theorem T.eq{a:α}(h:x= .some a)(k:T (f a) Q):T (x.bind f) Q:=by subst h;exact k
theorem T.mono{P':α->Prop}(h:T x P)(k: ∀a,P a->P' a):T x P':=by obtain ⟨a,e,ha⟩:=h;exact ⟨a,e,k a ha⟩
theorem T.cond{c:Bool}{x y:Option α}(h1:c=true->T x P)(h2:c=false->T y P):T (bif c then x else y) P:=by
 cases c
 ·exact h2 rfl
 ·exact h1 rfl
end
def Ev(p:Nat->Prop):Prop:=∃n,∀N,n<=N->p N
theorem Ev.and{p q:Nat->Prop}(hp:Ev p)(hq:Ev q):Ev λN=>p N/\q N:=by
 obtain ⟨n,hn⟩:=hp;obtain ⟨m,hm⟩:=hq
 exact ⟨n+m,λN h=>⟨hn N om,hm N om⟩⟩
theorem Ev.mono{p q:Nat->Prop}(hp:Ev p)(h: ∀N,p N->q N):Ev q:=let ⟨n,hn⟩:=hp;⟨n,λN hN=>h N (hn N hN)⟩
theorem Ev.all{p:Nat->Prop}(h: ∀N,p N):Ev p:=⟨0,λN _=>h N⟩
theorem Ev.get{p:Nat->Prop}(hp:Ev p): ∃N,p N:=let ⟨n,hn⟩:=hp;⟨n,hn n (Nat.le_refl n)⟩
theorem M2(n:Nat):Ev λN=>n<=N:=⟨n,λ_ h=>h⟩
theorem wr{x:Int}(h1: -9223372036854775808<=x)(h2:x<=9223372036854775807):IntKind.i64.wrap x=x:=by
 simp only [IntKind.wrap,IntKind.signed,IntKind.bits]
 simp
 omega
theorem Ft{α:Type}{xs:List α}{i:Int}(h0:0<=i)(h1:i<xs.length):T (idx xs i) λx=>xs[i.toNat]?= .some x:=by
 refine ⟨xs[i.toNat]'om,?_,?_⟩
 ·rw [idx,if_pos h0];exact List.getElem?_eq_getElem _
 ·exact List.getElem?_eq_getElem _
theorem CC{α:Type}{xs:List α}{i:Nat}{x:α}(h:xs[i]?= .some x):idx xs (i:Int)= .some x:=by
 rw [idx,if_pos om];exact h
theorem N6{α:Type}{xs:List α}{lo hi:Int}(h0:0<=lo)(h1:lo<=hi)(h2:hi<=xs.length):T (sub xs lo hi) λys=>ys=(xs.drop lo.toNat).take (hi.toNat - lo.toNat):=by
 rw [sub,if_pos ⟨h0,h1,h2⟩];exact .some rfl
theorem HD{α:Type}{b:Nat}{xs ys:List α}(hb:b<=4096)(h:xs.length+ys.length<=34359738368):T (Gd b xs ys) λ_=>True:=by
 rw [Gd,if_pos]
 ·exact .some trivial
 ·refine ⟨?_,om⟩
  calc (xs.length+ys.length)*b<=34359738368*4096:=Nat.mul_le_mul h hb
   _<=140737488355328:=by decide
theorem Mr{xs ys:List UInt8}(h:xs.length+ys.length<=34359738368):T (QH xs ys) λzs=>zs=xs++ys:=by
 rw [QH,if_pos om];exact .some rfl
theorem Zk{n:Int}(h:n≠0):T (nz n) λ_=>True:=by rw [nz,if_neg h];exact .some trivial
theorem CS{p:Prop}[Decidable p](h:decide p=true):p:=of_decide_eq_true h
theorem EE{p:Prop}[Decidable p](h:decide p=false): ¬p:=of_decide_eq_false h
theorem CV{x y:Int}(h:(x==y)=true):x=y:=by simpa using h
theorem B9{x y:Int}(h:(x==y)=false):x≠y:=by simpa using h
theorem Ma{x y:Int}(h:(x != y)=true):x≠y:=by simpa using h
theorem KR{x y:Int}(h:(x != y)=false):x=y:=by simpa using h
end Fth
namespace Fth
open Go
def Gf(x:Nat)(n:Int):Prop:=x=FloatKind.f64.nearest n/\ -16777216<=n/\n<=16777216
def Gn(z:Cpl):Prop:=∃a b,Gf z.1 a/\Gf z.2 b
theorem Zl(c:UInt8):T (Hp c) λ_=>True:=by
 unfold Hp It
 repeat (first|exact T.some trivial|refine T.cond (λ_=>?_) (λ_=>?_))
theorem Yx(c:UInt8):T (Gj c) λ_=>True:=by
 unfold Gj HF
 repeat (first|exact T.some trivial|refine T.cond (λ_=>?_) (λ_=>?_))
theorem XP(c:UInt8):T (HG c) λ_=>True:=by
 unfold HG K5
 repeat (first|exact T.some trivial|refine T.cond (λ_=>?_) (λ_=>?_))
theorem AB4{N:Nat}{t:List UInt8}{at_:Int}(h0:0<=at_)(h1:at_<=t.length)(hl:t.length<=34359738368)(hN:t.length+2<=N):
  T (Ip N t at_) λn=>0<=n/\at_+n<=t.length:=by
 have key: ∀(k:Nat) (n:Int),0<=n->at_+n<=t.length->(t.length:Int) - (at_+n)<k->T (E5 t at_ k n) λn=>0<=n/\at_+n<=t.length:=by
  intro k
  induction k with
  |zero=>intro n h2 h3 h4;omega
  |succ k ih=>
   intro n h2 h3 h4
   show T (Gg t at_ (E5 t at_ k) n) _
   unfold Gg
   have fin:T (Gk n (E5 t at_ k) false) λn=>0<=n/\at_+n<=t.length:= .some ⟨h2,h3⟩
   rw [wr (x:=at_+n) om om]
   refine T.cond (λh=>?_) (λ_=>fin)
   have h:=CS h
   have go: ∀b,T (Gk n (E5 t at_ k) b) λn=>0<=n/\at_+n<=t.length:=by
    intro b
    cases b
    ·exact fin
    ·show T (E5 t at_ k (IntKind.i64.wrap (n+1))) _
     rw [wr om om]
     exact ih _ om om om
   refine T.bind (Ft om h) λc _=>T.bind (Yx c) λb _=>?_
   refine T.cond (λ_=>go _) λ_=>T.bind (XP c) λb _=>T.cond (λ_=>go _) λ_=>go _
 exact key N 0 om om om
theorem AB5(e:Int):((u8c e).toNat:Int)<=255:=by have:=(u8c e).toNat_lt;omega
theorem XQ{N:Nat}{t:List UInt8}(hl:t.length<=34359738368)(hN:t.length+2<=N):
  T (FD N t) λx=> -16777217<=x.1/\x.1<=16777217/\0<=x.2/\x.2<=t.length:=by
 have key: ∀(i:Int),0<=i->∀(k:Nat) (n p:Int),0<=n->n<=16777217->0<=p->p<=t.length->(t.length:Int) - p<k->T (Ei t i k n p) λx=> -16777217<=x.1/\x.1<=16777217/\0<=x.2/\x.2<=t.length:=by
  intro i hi k
  induction k with
  |zero=>intro n p _ _ _ _ _;omega
  |succ k ih=>
   intro n p h1 h2 h3 h4 h5
   show T (FW t i (Ei t i k) n p) _
   unfold FW
   have fin:T (FC t i n p (Ei t i k) false) λx=> -16777217<=x.1/\x.1<=16777217/\0<=x.2/\x.2<=t.length:=by
    unfold FC
    refine T.cond (λh=>by cases h) λ_=>T.cond (λ_=> .some ⟨om,om,om,om⟩) λ_=>T.cond (λ_=>?_) λ_=>?_
    ·refine .some ⟨?_,?_,h3,h4⟩<;>simp only<;>rw [wr om om]<;>omega
    ·exact .some ⟨by simp only;omega,by simp only;omega,h3,h4⟩
   refine T.cond (λh=>?_) λ_=>fin
   have h:=CS h
   refine T.bind (Ft h3 h) λc _=>T.cond (λ_=>?_) λ_=>fin
   refine T.bind (Ft h3 h) λc' _=>?_
   generalize decide (((c').toNat:Int)<=(((57:UInt8)).toNat:Int))=b
   cases b
   ·exact fin
   ·unfold FC
    refine T.cond (λ_=>?_) λh=>by cases h
    refine T.bind (Ft h3 h) λc'' _=>?_
    generalize hc:(((c'').toNat:Int) - (((48:UInt8)).toNat:Int))=e
    have:=AB5 e
    have hu:(0:Int)<=((u8c e).toNat:Int):=om
    rw [wr (x:=p+1) om om,wr (x:=10*n) om om,wr (x:=((u8c e).toNat:Int)) om om,wr (x:=10*n+((u8c e).toNat:Int)) om om]
    split
    ·exact ih _ _ om om om om om
    ·exact ih _ _ om om om om om
 unfold FD
 have j5: ∀b,(b=true->1<=t.length)->T (Hq N t b) λx=> -16777217<=x.1/\x.1<=16777217/\0<=x.2/\x.2<=t.length:=by
  intro b hb
  refine T.cond (λh=>?_) λ_=>?_
  ·have:=hb h
   exact key 1 om N 0 1 om om om om om
  ·exact key 0 om N 0 0 om om om om om
 refine T.cond (λh=>?_) λ_=>j5 _ λh=>by cases h
 have h:=CS h
 exact T.bind (Ft om om) λc _=>j5 _ λ_=>om
theorem ACf(n:Af):T (Hr n) λx=>x.2=0-> -16777216<=n.re/\n.re<=16777216/\ -16777216<=n.im/\n.im<=16777216:=by
 unfold Hr
 have bad:T (KS n true) λx=>x.2=0-> -16777216<=n.re/\n.re<=16777216/\ -16777216<=n.im/\n.im<=16777216:= .some λh=>by cases h
 refine T.cond (λ_=>bad) λh1=>T.cond (λ_=>bad) λh2=>T.cond (λ_=>bad) λh3=>?_
 have h1:=EE h1;have h2:=EE h2;have h3:=EE h3
 cases h4:decide (n.im>16777216)
 ·have h4:=EE h4
  exact .some λ_=>⟨om,om,om,om⟩
 ·exact bad
theorem UR: ∀(n N:Nat) (a:Int),n<N->0<=a->a<10^n*10->n<=40->a<=1000000000000->T (ref01_digits N a) λs=>s.length<=n+1:=by
 intro n
 induction n with
 |zero=>
  intro N a hN h0 h1 _ _
  obtain ⟨N,rfl⟩: ∃m,N=m+1:=⟨N - 1,om⟩
  show T (Da _ N a) _
  unfold Da
  refine T.cond (λh=>?_) λ_=>?_
  ·have:=CS h;omega
  refine T.bind (Zk om) λ_ _=>T.cond (λh=>?_) λ_=> .some (by simp)
  have:=CS h;omega
 |succ n ih=>
  intro N a hN h0 h1 h2 h3
  obtain ⟨N,rfl⟩: ∃m,N=m+1:=⟨N - 1,om⟩
  show T (Da _ N a) _
  unfold Da
  refine T.cond (λh=>?_) λ_=>?_
  ·have:=CS h;omega
  refine T.bind (Zk om) λ_ _=>T.cond (λh=>?_) λ_=> .some (by simp)
  have h:=CS h
  have hd:a.tdiv 10=a / 10:=Int.tdiv_eq_ediv_of_nonneg h0
  refine T.bind (Zk om) λ_ _=>?_
  rw [hd,wr (x:=a / 10) om om]
  have hlt:a / 10<10^n*10:=by
   rw [Int.pow_succ] at h1
   omega
  refine T.bind (ih N (a / 10) om om hlt om om) λs hs=>T.bind (Mr (by simp;omega)) λz hz=> .some ?_
  subst hz;simp;omega
theorem VZ{N:Nat}{a:Int}(hN:40<=N)(h0: -1000000000000<=a)(h1:a<=1000000000000):T (ref01_digits N a) λs=>s.length<=40:=by
 rcases Int.lt_or_le a 0 with h|h
 ·obtain ⟨N,rfl⟩: ∃m,N=m+1:=⟨N - 1,om⟩
  show T (Da _ N a) _
  unfold Da
  refine T.cond (λ_=>?_) λh'=>?_
  ·rw [wr (x:=0 - a) om om]
   refine T.bind (UR 13 N (0 - a) om om om om om) λs hs=>T.bind (Mr (by simp;omega)) λz hz=> .some ?_
   subst hz;simp;omega
  ·have:=EE h';omega
 ·exact (UR 13 N a om h om om om).mono λs hs=>om
theorem YH{N:Nat}{n:Af}(hN:40<=N)(h1: -16777216<=n.re)(h2:n.re<=16777216)(h3: -16777216<=n.im)(h4:n.im<=16777216):T (GH N n) λs=>s.length<=100:=by
 have hr:=VZ (N:=N) (a:=n.re) hN om om
 have hi:=VZ (N:=N) (a:=n.im) hN om om
 unfold GH
 refine T.cond (λ_=>T.bind hr λs hs=> .some om) λ_=>T.cond (λ_=>T.bind hi λs hs=>T.bind (Mr (by simp;omega)) λz hz=> .some (by subst hz;simp;omega)) λ_=>T.cond (λ_=>?_) λ_=>?_
 ·refine T.bind hr λs hs=>T.bind (Mr (by simp;omega)) λz hz=>T.bind hi λs' hs'=>?_
  subst hz
  refine T.bind (Mr (by simp;omega)) λz hz=>T.bind (Mr (by subst hz;simp;omega)) λz' hz'=> .some ?_
  subst hz;subst hz';simp;omega
 ·refine T.bind hr λs hs=>T.bind hi λs' hs'=>T.bind (Mr om) λz hz=>T.bind (Mr (by subst hz;simp;omega)) λz' hz'=> .some ?_
  subst hz;subst hz';simp;omega
theorem Rh{N:Nat}{t:List UInt8}(hl:t.length<=34359738368)(hN:t.length+40<=N):
  T (Et N t) λx=>x.2=0-> -16777216<=x.1.re/\x.1.re<=16777216/\ -16777216<=x.1.im/\x.1.im<=16777216:=by
 have j1: ∀(a b:Int),T (F3 N t a b) λx=>x.2=0-> -16777216<=x.1.re/\x.1.re<=16777216/\ -16777216<=x.1.im/\x.1.im<=16777216:=by
  intro a b
  unfold F3
  refine T.bind (ACf _) λx hx=>T.cond (λ_=> .some λh=>by cases h) λh=>?_
  have h:=hx (KR h)
  refine T.bind (YH om h.1 h.2.1 h.2.2.1 h.2.2.2) λs _=>T.cond (λ_=> .some λh=>by cases h) λ_=> .some λ_=>h
 unfold Et
 refine T.bind (XQ hl om) λx hx=>T.cond (λ_=> .some λh=>by cases h) λ_=>?_
 refine T.bind (N6 hx.2.2.1 hx.2.2.2 om) λs hs=>T.cond (λ_=>j1 _ _) λ_=>T.cond (λh=>?_) λ_=>j1 _ _
 have hsl:s.length<=t.length:=by subst hs;simp
 have hs0:s≠[]:=by intro e;subst e;simp at h
 have hpos:0<s.length:=List.length_pos_iff.2 hs0
 have j3: ∀(u:List UInt8),u.length<=s.length->T (Hs N t x u) λx=>x.2=0-> -16777216<=x.1.re/\x.1.re<=16777216/\ -16777216<=x.1.im/\x.1.im<=16777216:=
  λu hu=>T.bind (XQ om om) λy _=>j1 _ _
 refine T.bind (Ft om om) λc _=>T.cond (λ_=>?_) λ_=>j3 _ om
 refine T.bind (N6 om om om) λu hu=>j3 _ ?_
 subst hu;simp
theorem XR{N:Nat}{s:List UInt8}(hN:20<=N):T (Du N s) λ_=>True:=by
 obtain ⟨N,rfl⟩: ∃m,N=m+20:=⟨N - 20,om⟩
 unfold Du
 refine T.bind (P:=λl=>l.length=19) (.some rfl) λl hl=>?_
 have key: ∀(k:Nat) (i:Int),0<=i->(19:Int) - i<k->i<=19->T (Dt s l k i) λ_=>True:=by
  intro k
  induction k with
  |zero=>intro i _ _ _;omega
  |succ k ih=>
   intro i h1 h2 h3
   show T (D9 s l (Dt s l k) i) _
   unfold D9
   refine T.cond (λh=>?_) λ_=> .some trivial
   have h:=CS h
   refine T.bind (Ft h1 h) λc _=>T.cond (λ_=> .some trivial) λ_=>?_
   rw [wr om om]
   exact ih _ om om om
 exact key _ 0 om om om
theorem AAw{t:List UInt8}{p:Int}(hl:t.length<=34359738368)(h0:0<=p)(h1:p<t.length):T (Iv t p) λn=>0<=n/\p+n<=t.length:=by
 have one: ∀b,T (EA b) λn=>0<=n/\p+n<=t.length:=λb=>T.cond (λ_=> .some ⟨om,om⟩) λ_=> .some ⟨om,om⟩
 have j1f:T (F4 t p false) λn=>0<=n/\p+n<=t.length:=by
  unfold F4
  refine T.cond (λh=>by cases h) λ_=>T.bind (Ft h0 h1) λc _=>?_
  repeat (first|exact one _|refine T.cond (λ_=>?_) (λ_=>?_))
 have j1: ∀b,(b=true->p+1<t.length)->T (F4 t p b) λn=>0<=n/\p+n<=t.length:=by
  intro b hb
  cases b
  ·exact j1f
  ·have:=hb rfl
   exact .some ⟨om,om⟩
 unfold Iv
 rw [wr om om]
 refine T.cond (λh=>?_) λ_=>j1f
 have h:=CS h
 refine T.bind (Ft h0 h1) λc _=>T.cond (λ_=>?_) λ_=>?_
 ·refine T.bind (Ft om h) λd _=>T.cond (λ_=>j1 _ λ_=>h) λ_=>T.cond (λ_=>j1 _ λ_=>h) λ_=>j1f
 ·exact T.cond (λ_=>T.bind (Ft om h) λd _=>j1 _ λ_=>h) λ_=>j1f
def Gm(m:Ak):Prop:=m.kind≠4/\(m.kind=2->Gn m.num)
theorem ACt{n:Af}(h: -16777216<=n.re/\n.re<=16777216/\ -16777216<=n.im/\n.im<=16777216):T (GL n) Gn:= .some ⟨n.re,n.im,⟨rfl,h.1,h.2.1⟩,⟨rfl,h.2.2.1,h.2.2.2⟩⟩
theorem AB6{N:Nat}{t:List UInt8}{p:Int}(hl:t.length<=34359738368)(hN:t.length+40<=N)(h0:0<=p)(h1:p<t.length):
  T (IE N t p) λx=>x.2=true->Gm x.1/\0<x.1.text.length/\p+x.1.text.length<=t.length:=by
 unfold IE
 refine T.bind (AB4 h0 om hl om) λn hn=>?_
 rw [wr (x:=p+n) om om]
 refine T.bind (N6 h0 om om) λs hs=>?_
 have hsl:(s.length:Int)=n:=by subst hs;simp;omega
 have j2: ∀b,T (Ia N t p n s b) λx=>x.2=true->Gm x.1/\0<x.1.text.length/\p+x.1.text.length<=t.length:=by
  intro b
  unfold Ia
  refine T.cond (λ_=> .some λh=>by cases h) λ_=>T.cond (λh=>?_) λ_=>?_
  ·have h:=CS h
   refine T.bind (XR om) λb _=>T.cond (λ_=> .some λ_=>⟨⟨by simp,by simp⟩,by simp only;omega,by simp only;omega⟩) λ_=> .some λ_=>⟨⟨by simp,by simp⟩,by simp only;omega,by simp only;omega⟩
  ·refine T.bind (AAw hl h0 h1) λk hk=>?_
   rw [wr (x:=p+k) om om]
   refine T.bind (N6 h0 om om) λu hu=> .some λh=>?_
   have h:=CS h
   have hul:(u.length:Int)=k:=by subst hu;simp;omega
   exact ⟨⟨by simp,by simp⟩,by simp only;omega,by simp only;omega⟩
 have j1: ∀b,(b=true->0<n)->T (Ib N t p n s b) λx=>x.2=true->Gm x.1/\0<x.1.text.length/\p+x.1.text.length<=t.length:=by
  intro b hb
  unfold Ib
  refine T.cond (λh=>?_) λ_=>T.cond (λ_=>T.bind (Ft h0 h1) λc _=>j2 _) λ_=>j2 _
  have hp:=hb h
  refine T.bind (Rh om om) λx hx=>?_
  refine .some (a:=_) λh=>?_
  have hz:=hx (CV h)
  exact ⟨⟨by simp,λ_=>⟨x.1.re,x.1.im,⟨rfl,hz.1,hz.2.1⟩,⟨rfl,hz.2.2.1,hz.2.2.2⟩⟩⟩,by simp only;omega,by simp only;omega⟩
 refine T.cond (λh=>?_) λ_=>j1 _ λh=>by cases h
 have h:=CS h
 exact T.bind (Ft h0 h1) λc _=>T.bind (XP c) λb _=>j1 _ λ_=>h
def GM(ms:List Ak):Prop:=∃l e,ms=l++[e]/\e.kind=4/\∀m∈l,Gm m
theorem Zm{N:Nat}{t:List UInt8}(hl:t.length<=1000000000)(hN:t.length+50<=N):
  T (GN N t) λx=>x.2<0->GM x.1/\x.1.length<=t.length+1:=by
 have key: ∀(k:Nat) (ms:List Ak) (p:Int),0<=p->p<=t.length->(t.length:Int) - p<k->(∀m∈ms,Gm m)->ms.length<=p->T (Dv N t k ms p) λx=>x.2<0->GM x.1/\x.1.length<=t.length+1:=by
  intro k
  induction k with
  |zero=>intro ms p _ _ _ _ _;omega
  |succ k ih=>
   intro ms p h0 h1 h2 hm hml
   show T (FY N t (Dv N t k) ms p) _
   unfold FY
   refine T.cond (λh=>?_) λ_=>?_
   ·have h:=CS h
    refine T.bind (Ft h0 h) λc hc=>T.bind (Zl c) λb _=>T.cond (λ_=>?_) λ_=>T.cond (λhsharp=>?_) λ_=>?_
    ·rw [wr om om]
     exact ih _ _ om om om hm om
    ·
     have inner: ∀(j:Nat) (q:Int),p<=q->q<=t.length->(t.length:Int) - q<j->(q=p∨p<q)->T (FE t ms (Dv N t k) j q) λx=>x.2<0->GM x.1/\x.1.length<=t.length+1:=by
      intro j
      induction j with
      |zero=>intro q _ _ _ _;omega
      |succ j ihj=>
       intro q hq1 hq2 hq3 hq4
       show T (FX t ms (Dv N t k) (FE t ms (Dv N t k) j) q) _
       unfold FX
       refine T.cond (λhq=>?_) λhq=>?_
       ·have hq:=CS hq
        refine T.bind (Ft om hq) λd hd=>?_
        unfold Ht
        refine T.cond (λ_=>?_) λhnl=>?_
        ·rw [wr om om]
         exact ihj _ om om om om
        ·have hnl:=KR hnl
         have hsharp:=CV hsharp
         rcases hq4 with rfl|hq4
         ·rw [hd] at hc;cases hc
          rw [hsharp] at hnl
          exact absurd hnl (by decide)
         ·exact ih _ _ om om om hm om
       ·have hq:=EE hq
        have hpq:p<q:=om
        exact ih _ _ om om om hm om
     exact inner N p om om om (.inl rfl)
    ·refine T.bind (AB6 om om h0 h) λx hx=>T.cond (λ_=> .some λh=>by simp only at h;omega) λhb=>?_
     have hx:=hx (by simpa using hb)
     refine T.bind (HD om (by simp;omega)) λ_ _=>?_
     rw [wr om om]
     refine ih _ _ om om om (λm hm'=>?_) (by simp;omega)
     rcases List.mem_append.1 hm' with h'|h'
     ·exact hm m h'
     ·simp at h';subst h';exact hx.1
   ·refine T.bind (HD om (by simp;omega)) λ_ _=> .some λ_=>⟨⟨ms,_,rfl,rfl,hm⟩,by simp;omega⟩
 exact key N [] 0 om om om (λm h=>by cases h) (by simp)
end Fth
