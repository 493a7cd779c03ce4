/- Part 5 of the proof: what it says holds of the given program; no condition. -/
import Derived.Test.YtiodboehkcmdnaaGreatProg
import Derived.KernelRfl
import Derived.Test.YtiodboehkcmdnaaGreatWD
set_option linter.all false
set_option exponentiation.threshold 3000
namespace Fth
open Go Go.Proofs Sh
set_option maxRecDepth 100000
set_option maxHeartbeats 8000000
theorem Ui(o:Nat)(b4:Col)(d4:World)(a0:∀b,b4 b<10):GW.At b4 d4 (GW o):=by
 intro z i0 ae p i1 l bb a d5 cu
 rw [GW] at a
 obtain ⟨bn,bo,rfl,cv⟩:=E1 (BV d5)
 obtain ⟨b5,b6,rfl⟩:=AT cu
 refine Rj Tryz.func13 Z Tryz.ntmps13 Z fun W B hW ad=>WA'.seq ad<|AL<|Ef<|A0 b4 20 Z Z fun d6 i3 d7 d8 ao=>Ef<|AY d6 21 Lp Z fun d9 ea ak a1 al=>AA<|WA'.seq ad<|Sr<|have cw:=Bs d8 al;Vx (Lx Gd Z Z (Bw cw))<|have cx:=K2 AI cv ao al;Bi a fun bp eb a=>Ca (Cg [Ag [Sl bn z.funcs bo]] Z) (TO o d9 ea eb (BQ (x:=z) cx)) ?_
 rintro _ i4 ⟨cy,i5,rfl,q,ec⟩
 obtain rfl:=As ec
 refine Vx (v:=I bp.why) (Kr (cs:=[I bp.why,I bp.at_]) W4 Z Z)<|Vr (.bool (bp.why != 0))<|AA<|Cn a (fun ed a=>?_) fun ed a=>?_
 refine Sr<|Vx (v:=Ag [I 3,I 0,Cx (((0,0):Nat×Nat)),.bool false,.slice none 0 0,I 0,I 0,I 0,I 0]) (Bp Lp NG Z (.cons Z Z Z .nil))<|have ee:=Bs a1 q;Eu<|St MU ee Z Z Z Z fun i6 ef eg=>AA<|AQ ?_
 obtain rfl:=AK a
 refine AAX hW (B:=B) ad<|Su Z (.agg Mr Z Z (Bw ef))<|⟨cy,[I 3,I 0,Cx (((0,0):Nat×Nat)),.bool false,.slice none 0 0,I 0,I 0,I 0,I 0],Z,Ho (T3 (Mo [21] ao) al q eg) a0,(EU (x:=(BE.mk 3 (AF.mk 0 ((0,0):Nat×Nat) false []) 0 0 0 0)) BK)⟩
 refine WC.skip<|WA'.seq ad<|AL<|Ef<|NR cy 22 fun eh i7 bq ei ac=>Vx (Fz EX Z)<|have cz:=Y2 cw q ac;Vx (Ld G8 Z (Bc cz Z))<|Vm<|Vx (v:=I (if l<0 then 0 else l)) (Run.max Z Z)<|Vx (v:=I (if 16384< (if l<0 then 0 else l) then 16384 else (if l<0 then 0 else l))) (Run.min Z Z)<|Vx (v:=Ag [.map (some bq),Sl bn z.funcs bo,I 0,I (if 16384< (if l<0 then 0 else l) then 16384 else (if l<0 then 0 else l))]) (Bp ABy ABt Z (.cons Z Z Z (.cons Z Z Z (.cons Z Z Z .nil))))<|Ef<|A0 eh 23 Z Z fun ej i8 br c0 aa=>Ef<|AY ej 24 ABw Z fun c1 i9 am ek m=>Eu<|St ABo ek Z Z Z Z fun el c2 n=>AA<|WA'.seq ad<|Sr<|Vx (Fz EX Z)<|have c3:=Y3 cz aa m n;Vx (Ld G8 Z (Bc c3 Z))<|have b7:=Ss AI (K4 AI cx q ac aa m) n; ?_
 obtain ⟨ja,jb,em⟩:=AT b7
 refine Vx (v:=I (z.funcs.length:Int)) (Ll GI em)<|Vm<|AA<|Af<|Bg (fun au bc bd=>∃av aw ag r,bc=Env.puts av [(1,Sb ae),(2,Sl b5 p b6),(4,Pt d7 0),(8,Pt ak 0),(9,Pt am 0),(34,Sl bn z.funcs bo),(35,I (z.funcs.length:Int)),(36,I ag)]∧Jc o z ae p l au ag r=some bb∧AS [22,25] c1 el aw bd∧Mp aw bd 22 bq r) o ?_ ?_
 refine have en:=Ms (Ms (Ms ei aa) m) n;⟨_,c1,0,([]:Aq),Pu,a,(AS.refl [22,25] _ _),en⟩
 rintro au _ bd ⟨av,aw,ag,r,rfl,a,f,b8⟩
 rcases au with _|au
 exact A5 a
 refine have a:Jn o z ae p l (Jc o z ae p l au) ag r=some bb:=a; ?_
 obtain ⟨jc,c4⟩:∃s,s=Jc o z ae p l au:=⟨_,rfl⟩
 rw [←c4,Jn] at a
 refine Sr<|Vr (.bool (decide (ag< (z.funcs.length:Int))))<|AA<|AR<|Cn a (fun eo a=>?_) fun eo a=>?_
 refine WC.skip<|AR<|Af<|Sr<|Vm<|Bi a fun af ep a=>have eq:=Ss AI b7 f; ?_
 obtain ⟨er,es,jd,et,eu,ew,ex,ey,b9⟩:=A8 (κ:=AI) eq ep
 replace b9:Ax aw bd er (es+ag.toNat*11) et:=b9
 obtain ⟨je,jf,rfl,c5,c6⟩:=Cl ey
 obtain ⟨ez,e0,rfl⟩:=AT c5
 obtain ⟨e1,e2,rfl⟩:=AT c6
 refine Vx (Ix GI eu Z ew ex)<|Vx (Lx MD Z Z (Ax.part0 b9 [Sb af.name,Sl ez af.params e0,I af.type_,I af.body.op,Sb af.body.name,Sb af.body.tail,I af.body.type_,Cx af.body.num,Sl e1 af.body.args e2,I af.body.at_,I af.at_] Z))<|Ef<|AY aw 25 KS Z fun c7 jg jh e3 a2=>Va (I ag)<|have ji:=Ss Ab c5 a2;have jj:=Ss AH c6 a2;Eu<|St LB e3 Z Z Z Z fun jk e4 bt=>AA<|SV<|BW Cv (qs 0 7 (.one 7 .nil)) [7] [] c7 (by kernel_rfl) fun jl be=>have e5:=Y4 c2 f a2 bt be;Qx DK Z (fun _ ⟨_,c⟩=>Ld Q2 Z (Bc (Bs e5 c) Z))<|Qx DK Z (fun _ _=>Nc Z)<|Qx DK Z (fun _ _=>Fz S0 Z)<|have e6:=Y2 (Y4 c0 m n f a2) bt be;Qx DK Z (fun _ ⟨_,c⟩=>Ld O7 Z (Bc (Bs e6 c) Z))<|Qx DK Z (fun _ _=>Fz NC Z)<|have e7:=Bs e4 be;Qx DK Z (fun _ ⟨_,c⟩=>Ld CG Z (Bc (Bs e7 c) Z))<|Qx DK Z (v:=I ag) (fun _ _=>Mv Z)<|ES dcd<|WY.one<|have e8:=Ms (Ms (Ms b8 a2) bt) be;BM Z (.none Z) Z<|Kc LQ Z Z Z e8 fun jm e9 fa=>WY.nil<|AL<|Vr (I (Wr (ag+1)))<|Vm<|AA<|⟨au,Nat.lt_succ_self au,_,c7,(Wr (ag+1)),(MM af.name ag r),Pu,(c4▸a),(T4 (Mo [22,25] f) a2 bt be fa),e9⟩
 refine Ba<|WA'.seq ad<|AL<|have c8:=Bs c2 f;Vx (Ld Q2 Z (Bc c8 Z))<|Vx (Nc Z)<|Vx (Fz S0 Z)<|have c9:=Y3 c0 m n f;Vx (Ld O7 Z (Bc c9 Z))<|Vm<|Vx (v:=.tuple #[I (Cu r ae),.bool (OV r ae)]) (Wg LQ Z Z b8)<|Vm<|Vr (I (Cu r ae))<|Vr (.bool (OV r ae))<|Va (I (Cu r ae))<|Va (.bool (OV r ae))<|AA<|WA'.seq ad<|Sr<|Vm<|Vr (.bool (!(OV r ae)))<|AA<|Cn a (fun fb a=>?_) fun fb a=>?_
 refine Sr<|Vx (v:=Ag [I 32,I 0,Cx (((0,0):Nat×Nat)),.bool false,.slice none 0 0,I 0,I 0,I 0,I 0]) (Bp Lp NG Z (.cons Z Z Z .nil))<|have fc:=Y2 (Y4 a1 q ac aa m) n f;Eu<|St MU fc Z Z Z Z fun jn fd fe=>AA<|AQ ?_
 obtain rfl:=AK a
 refine AAX hW (B:=B) ad<|Su Z (.agg Mr Z Z (Bw fd))<|⟨aw,[I 32,I 0,Cx (((0,0):Nat×Nat)),.bool false,.slice none 0 0,I 0,I 0,I 0,I 0],Z,Ho (T4 (T4 (Mo [21,22,24,25] ao) al q ac aa) m n f fe) a0,(EU (x:=(BE.mk 32 (AF.mk 0 ((0,0):Nat×Nat) false []) 0 0 0 0)) BK)⟩
 refine WC.skip<|WA'.seq ad<|AL<|Vx (Fz EX Z)<|have ff:=Bs c3 f;Vx (Ld G8 Z (Bc ff Z))<|Vm<|Bi a fun d fg a=>have da:=Ss AI b7 f; ?_
 obtain ⟨fh,fi,jo,fj,fk,fl,fm,fn,ca⟩:=A8 (κ:=AI) da fg
 replace ca:Ax aw bd fh (fi+((Cu r ae)).toNat*11) fj:=ca
 obtain ⟨jp,jq,rfl,db,dc⟩:=Cl fn
 obtain ⟨fo,fp,rfl⟩:=AT db
 obtain ⟨cb,cc,rfl⟩:=AT dc
 refine Vx (Ix GI fk Z fl fm)<|Vx (Lx MD Z Z (Ax.part0 ca [Sb d.name,Sl fo d.params fp,I d.type_,I d.body.op,Sb d.body.name,Sb d.body.tail,I d.body.type_,Cx d.body.num,Sl cb d.body.args cc,I d.body.at_,I d.at_] Z))<|Ef<|AY aw 26 KS Z fun cd jr de fq u=>have fr:=Ss Ab db u;have fs:=Ss AH dc u;Eu<|St LB fq Z Z Z Z fun ft bu w=>AA<|WA'.seq ad<|Sr<|Vm<|have cf:=K2 Ao (K4 Ao (K4 Ao cu ao al q ac) aa m n f) u w; ?_
 obtain ⟨js,jt,fu⟩:=AT cf
 refine Vx (v:=I (p.length:Int)) (Ll Ic fu)<|Vx (Fd EY Z)<|Vx (Ld Ey Z (Bc bu Z))<|have cg:=Ss Ab fr w; ?_
 obtain ⟨ju,jv,fv⟩:=AT cg
 refine Vx (v:=I (d.params.length:Int)) (Ll D9 fv)<|Vr (.bool ((p.length:Int) != (d.params.length:Int)))<|AA<|Cn a (fun fw a=>?_) fun fw a=>?_
 refine Sr<|Vx (v:=Ag [I 40,I 0,Cx (((0,0):Nat×Nat)),.bool false,.slice none 0 0,I 0,I 0,I 0,I 0]) (Bp Lp NG Z (.cons Z Z Z .nil))<|have fx:=Y4 (Y4 a1 q ac aa m) n f u w;Eu<|St MU fx Z Z Z Z fun jw fy fz=>AA<|AQ ?_
 obtain rfl:=AK a
 refine AAX hW (B:=B) ad<|Su Z (.agg Mr Z Z (Bw fy))<|⟨cd,[I 40,I 0,Cx (((0,0):Nat×Nat)),.bool false,.slice none 0 0,I 0,I 0,I 0,I 0],Z,Ho (T2 (T4 (T4 (Mo [21,22,24,25,26] ao) al q ac aa) m n f u) w fz) a0,(EU (x:=(BE.mk 40 (AF.mk 0 ((0,0):Nat×Nat) false []) 0 0 0 0)) BK)⟩
 refine WC.skip<|WA'.seq ad<|AL<|Va (.pointer none)<|AA<|WA'.seq ad<|Sr<|Vm ?_
 obtain ⟨jx,jy,f0⟩:=AT cf
 refine Vx (v:=I (p.length:Int)) (Ll Ic f0)<|Vm<|AA<|Af<|Bg (fun ax bc bf=>∃av a3 a4 ay ab,bc=Env.puts av [(8,Pt ak 0),(9,Pt am 0),(14,Pt de 0),(15,ay),(73,Sl b5 p b6),(74,I (p.length:Int)),(75,I ab)]∧E4 o z p l r d ax a4 ab=some bb∧AS [27,28] cd ft a3 bf∧Gg 89 90 a3.F bf ay a4) o ?_ ?_
 exact ⟨_,cd,Nm.nil,.pointer none,0,Pu,a,(AS.refl [27,28] _ _),Gg.nil⟩
 rintro ax _ bf ⟨av,a3,a4,ay,ab,rfl,a,h,ch⟩
 rcases ax with _|ax
 exact A5 a
 refine have a:F5 o z p l r d (E4 o z p l r d ax) a4 ab=some bb:=a; ?_
 obtain ⟨f1,df⟩:∃s,s=E4 o z p l r d ax:=⟨_,rfl⟩
 rw [←df,F5] at a
 refine Sr<|Vr (.bool (decide (ab< (p.length:Int))))<|AA<|AR<|Cn a (fun f2 a=>?_) fun f2 a=>?_
 refine WC.skip<|AR<|Af<|Sr<|Vm<|Bi a fun e f3 a=>have f4:=Ss Ao cf h; ?_
 obtain ⟨f5,f6,jz,f7,f8,f9,ga,gb,ci⟩:=A8 (κ:=Ao) f4 f3
 replace ci:Ax a3 bf f5 (f6+ab.toNat*4) f7:=ci
 obtain ⟨bg,bh,rfl,dg⟩:=E1 (Az gb)
 refine Vx (Ix Ic f8 Z f9 ga)<|Vx (Lx B0 Z Z (Ax.part0 ci [I e.type_,Cx e.num,.bool e.bool,Sl bg e.list bh] Z))<|Ef<|AY a3 27 CS Z fun bi j1 gc gd ap=>Va (I ab)<|have dh:=Ss Kd.cpx dg ap;Eu<|St Cw gd Z Z Z Z fun ge di an=>AA<|AR<|Am (fun bc dj=>∃av a5 cj,bc=Env.puts av [(8,Pt ak 0),(9,Pt am 0),(14,Pt de 0),(15,ay),(16,I ab),(17,Pt gc 0),(73,Sl b5 p b6),(74,I (p.length:Int)),(75,I ab),(93,.bool cj)]∧L8 o d a4 ab f1 e cj=some bb∧AS [] bi ge a5 dj) ?_ ?_
 refine SV<|BW Cv (qs 0 11 (.one 11 (.q 12 (.q 13 .nil)))) [] [] bi (by kernel_rfl) fun dk a6=>Qx DK Z (fun _ _=>Fz Jd Z)<|have dl:=Bs di a6;Qx DK Z (fun _ ⟨_,c⟩=>Ld Ed Z (Bc (Bs dl c) Z))<|Qx DK Z (fun _ _=>Fd EY Z)<|have gf:=Y4 bu h ap an a6;Qx DK Z (fun _ ⟨_,c⟩=>Ld Ey Z (Bc (Bs gf c) Z))<|Qx DK Z (v:=I ab) (fun _ _=>Mv Z)<|Bi a fun dm gg a=>have gh:=K4 Ab cg h ap an a6; ?_
 obtain ⟨gi,gj,j2,gk,gl,gm,gn,go,ck⟩:=A8 (κ:=Ab) gh gg
 replace ck:Ax bi dk gi (gj+ab.toNat*3) gk:=ck
 obtain rfl:=Ez go
 refine Qx DK Z (fun _ _=>Ix D9 gl Z gm gn)<|Qx DK Z (fun _ _=>Fd Nw Z)<|Qx DK Z (fun _ ⟨_,c⟩=>Ld Ed Z (Ax.cell (k:=1) (Es ck c) Z))<|Qx DK Z (v:=.bool (e.type_ != dm.type_)) (fun _ _=>Z)<|Qx DK Z (v:=.bool (e.type_ != dm.type_)) (fun _ _=>Mv Z)<|Bo a (fun aq a=>?_) fun aq a=>?_
 refine Qp DK Z aq<|A1 Z<|MP Z (.guard (t:=true) (b:=false) Z Z Z Z (Cb aq)) Z Z<|⟨⟨_,Rf⟩,?_⟩
 refine Qp DK Z aq<|Qx DK Z (v:=.bool true) (fun _ _=>(Pk aq))<|B9<|⟨_,bi,true,Pu,a,(Mo [] a6)⟩
 refine Qg DK Z aq (fun _ ⟨_,c⟩=>Lx B0 Z Z (Bw (Bs dl c)))<|A1 Z<|have gp:=K2 Kd.cpx dh an a6;Bi a fun cl gq a=>A3 Z (.guard (t:=false) (b:=false) Z Z Z Z (Cb aq)) Z Z (Cg [Ag [I e.type_,Cx e.num,.bool e.bool,Sl bg e.list bh]] Z)<|Calls.mono (PM o bi dk gq (Al (x:=e) gp)) ?_
 rintro _ j3 ⟨gr,rfl,dn⟩
 refine ⟨_,Z,⟨_,(Mo [] dn)⟩,?_⟩
 refine Qg DK Z aq (v:=.bool (cl != 0)) (fun _ _=>Z)<|Qx DK Z (v:=.bool (cl != 0)) (fun _ _=>(Pk aq))<|B9<|⟨_,gr,(cl != 0),Pu,a,(Tn (Mo [] a6) dn)⟩
 rintro _ dj ⟨av,a5,cj,rfl,a,az⟩
 rw [L8] at a
 refine Cn a (fun gs a=>?_) fun gs a=>?_
 refine Sr<|Vx (v:=Ag [I 40,I 0,Cx (((0,0):Nat×Nat)),.bool false,.slice none 0 0,I 0,I 0,I 0,I 0]) (Bp Lp NG Z (.cons Z Z Z .nil))<|have gt:=Y4 (Y4 (Y4 a1 q ac aa m) n f u w) h ap an az;Eu<|St MU gt Z Z Z Z fun j4 gu gv=>AA<|AQ ?_
 obtain rfl:=AK a
 refine AAX hW (B:=B) ad<|Su Z (.agg Mr Z Z (Bw gu))<|⟨a5,[I 40,I 0,Cx (((0,0):Nat×Nat)),.bool false,.slice none 0 0,I 0,I 0,I 0,I 0],Z,Ho (T2 (T4 (T4 (T4 (Mo [21,22,24,25,26,27,28] ao) al q ac aa) m n f u) w h ap an) az gv) a0,(EU (x:=(BE.mk 40 (AF.mk 0 ((0,0):Nat×Nat) false []) 0 0 0 0)) BK)⟩
 refine WC.skip<|SV<|BW Cv (qs 0 7 (.q 8 (.one 7 (.q 9 (.one 10 (.q 11 .nil)))))) [] [] a5 (by kernel_rfl) fun dp a7=>Qx DK Z (fun _ _=>Fd EY Z)<|have gw:=Bs (Y4 bu h ap an az) a7;Qx DK Z (fun _ ⟨_,c⟩=>Ld Ey Z (Bc (Bs gw c) Z))<|Qx DK Z (v:=I ab) (fun _ _=>Mv Z)<|Bi a fun cm gx a=>have gy:=Ss Ab (K4 Ab cg h ap an az) a7; ?_
 obtain ⟨gz,g0,j5,g1,g2,g3,g4,g5,cn⟩:=A8 (κ:=Ab) gy gx
 replace cn:Ax a5 dp gz (g0+ab.toNat*3) g1:=cn
 obtain rfl:=Ez g5
 refine Qx DK Z (fun _ _=>Ix D9 g2 Z g3 g4)<|Qx DK Z (fun _ _=>Fz Lh Z)<|Qx DK Z (fun _ ⟨_,c⟩=>Ld CG Z (Ax.cell0 (Es cn c) Z))<|have g6:=Y2 di az a7;Qx DK Z (fun _ ⟨_,c⟩=>Lx B0 Z Z (Bw (Bs g6 c)))<|Qx DK Z (v:=ay) (fun _ _=>Mv Z)<|A1 Z<|have g7:=K3 Kd.cpx dh an az a7;Bi a fun g8 g9 a=>A3 Z (.none Z) Z Z (Cg [Ag [I e.type_,Cx e.num,.bool e.bool,Sl bg e.list bh]] Z)<|Calls.mono (UW o a5 dp g9 (Al (x:=e) g7)) ?_
 rintro _ j6 ⟨ha,dq,rfl,bv,dr⟩
 refine ⟨_,Z,⟨_,(Mo [] bv)⟩,?_⟩
 refine Qx DK Z (v:=Ag [Sb cm.name,dq,ay]) (fun _ _=>B3 (cs:=[Sb cm.name,dq,ay]) [Sb ([]:Bts),.nilFunc,.pointer none] Q5 Q4 Z (.cons Z Z Z (.cons Z (Dk (MTh.one dr)) Z (.cons Z (Dk (Gg.one ch)) Z .nil))) Z Z)<|A1 Z<|Bb Z (.none Z) Z Z<|A0 ha 28 Z Z fun j7 j8 ds hb bw=>⟨⟨_,(Tn (Mo [] bv) bw)⟩,?_⟩
 refine Qx DK Z (v:=Pt ds 0) (fun _ _=>Run.assign Z)<|B9<|AL<|Vr (I (Wr (ab+1)))<|Vm<|AA<|have hc:=Mt dr bw;have hd:=Me (Me (Me (Me (Me (Me ch ap) an) az) a7) bv) bw; ?_
 obtain ⟨he,hf,hg⟩:=Gg.lay hb dcd hc hd
 exact ⟨ax,Nat.lt_succ_self ax,_,he,(Nm.bind cm.name g8 a4),Pt ds 0,(Wr (ab+1)),Pu,(df▸a),(T3 (T4 (Mo [27,28] h) ap an az a7) bv bw hf),hg⟩
 refine Ba<|WA'.region<|LA.val (.none Z) Z Z (v:=.func (.func 32) #[] [Pt am 0,Pt ak 0].toArray) (IV (vs:=[Pt am 0,Pt ak 0]) Z)<|LA.defer (dd:={target:=.fn (.func 32) [Pt am 0,Pt ak 0].toArray,args:=#[]}) (.none Z) Z (Xc Z)<|LA.nil (?_:WA' _ _ _ _ W _ _)
 obtain ⟨B2,hB2⟩:∃B2,B2=NA [{target:=.fn (.func 32) [Pt am 0,Pt ak 0].toArray,args:=#[]}] 122 W:=⟨_,rfl⟩
 refine Y6 hB2<|Sr<|have co:=Y3 c8 u w h;Vx (Ld Q2 Z (Bc co Z))<|Vx (Fd ME Z)<|have hh:=Bs bu h;Vx (Lx A9 Z Z (Bk.part hh 3 [I d.body.op,Sb d.body.name,Sb d.body.tail,I d.body.type_,Cx d.body.num,Sl cb d.body.args cc,I d.body.at_] Z))<|Vm<|have hi:=Y3 c9 u w h;have hj:=K3 AI da u w h;have dt:=Ms (Ms (Ms b8 u) w) h;have hk:=K2 AH fs w h;Bi a fun a8 hl a=>Iq (.none Z) Z Z (Cg [Pt br 0,Ag [I d.body.op,Sb d.body.name,Sb d.body.tail,I d.body.type_,Cx d.body.num,Sl cb d.body.args cc,I d.body.at_],ay] Z)<|Calls.mono (RG o a3 bf hl dcd dcd hi hj dt (AW (x:=(AE.mk d.body.op d.body.name d.body.tail d.body.type_ d.body.num d.body.args d.body.at_)) hk) ch) ?_
 rintro _ hm ⟨cq,j9,ar,du,dv,hn⟩
 obtain ⟨ho,hp,rfl⟩:=AT dv
 obtain ⟨bx,hq,rfl⟩| ⟨y,hr,ka,rfl,kb,rfl,hs⟩:=E0.split hn
 refine have a:=EA a hq; .inl ⟨_,Z,?_⟩
 refine have ht:=Bs co ar;have hu:=Y2 (Y4 (Y4 a1 q ac aa m) n f u w) h ar;ACZ hW (B:=B2) hB2 (Oz Tryz.func32 Z dcd) (RZ cq hm am ak 0 0 ((0,0):Nat×Nat) false (.slice none 0 0) 0 0 0 0 br (.map (some bq)) (Sl ho a8.2.1 hp) a8.2.2.1 a8.2.2.2 bx ht hu du) fun kc hw=>?_
 obtain ⟨hx,hy⟩:=hw
 obtain rfl:=AK a
 refine Su Z (.agg Mr Z Z (Bw hx))<|⟨cq,[I bx,I 0,Cx (((0,0):Nat×Nat)),.bool false,.slice none 0 0,I a8.2.2.1,I 0,I 0,I 0],Z,Ho (T4 (T4 (T4 (Mo [21,22,23,24,25,26,27,28] ao) al q ac aa) m n f u) w h ar hy) a0,(EU (x:=(BE.mk bx (AF.mk 0 ((0,0):Nat×Nat) false []) a8.2.2.1 0 0 0)) BK)⟩
 refine have a:=HQ a hr; ?_
 obtain ⟨kd,bz,b0,rfl,dw,dx,dy⟩:=Dd hs
 obtain ⟨b1,b2,rfl⟩:=AT dw
 refine .inr ⟨_,Z,?_⟩
 refine Ef<|AY cq 29 LC Z fun hz ke kf h0 ah=>have dz:=Ss Kd.cpx dw ah;Eu<|Bv (vs:=[I y.plain.type_,Cx y.plain.num,.bool y.plain.bool,Sl b1 y.plain.list b2,bz,b0]) (cs':=[I y.plain.type_,Cx y.plain.num,.bool y.plain.bool,Sl b1 y.plain.list b2,bz,b0]) Js Z Z Z Z (AX Z (AX Z (AX Z (AX (E8 dz) (AX (MTh.one dx) (AX (MTh.one dy) CJ)))))) h0 dcd Z Z fun h1 h2 ai=>AA<|Sr<|have cr:=Y3 co ar ah ai;Vx (Ld Q2 Z (Bc cr Z))<|Vx (Lx KF Z Z (Bw h2))<|have h3:=Y2 du ah ai;have h4:=K2 AI dv ah ai;have h5:=Ms (Ms (Ms dt ar) ah) ai;have h6:=Ss Kd.cpx dz ai;have h7:=Mt (Mt dx ah) ai;have h8:=Mt (Mt dy ah) ai;Bi a fun aj h9 a=>Iq (.none Z) Z Z (Cg [Pt br 0,Ag [I y.plain.type_,Cx y.plain.num,.bool y.plain.bool,Sl b1 y.plain.list b2,bz,b0]] Z)<|Calls.mono (Qh o hz h1 h9 dcd dcd h3 h4 h5 (Ct (x:=y) h6 h7 h8)) ?_
 rintro _ ia ⟨ct,kg,a9,d0,ib,ic⟩
 obtain ⟨id,ie,rfl⟩:=AT ib
 obtain ⟨b3,ig,rfl⟩| ⟨g,ih,kh,rfl,ki,rfl,ii⟩:=E0.split ic
 refine have a:=EA a ig; .inl ⟨_,Z,?_⟩
 refine have ij:=Bs cr a9;have ik:=Bs (Y4 (Y4 (Y4 a1 q ac aa m) n f u w) h ar ah ai) a9;ACZ hW (B:=B2) hB2 (Oz Tryz.func32 Z dcd) (RZ ct ia am ak 0 0 ((0,0):Nat×Nat) false (.slice none 0 0) 0 0 0 0 br (.map (some bq)) (Sl id aj.2.1 ie) aj.2.2.1 aj.2.2.2 b3 ij ik d0) fun kj il=>?_
 obtain ⟨im,io⟩:=il
 obtain rfl:=AK a
 refine Su Z (.agg Mr Z Z (Bw im))<|⟨ct,[I b3,I 0,Cx (((0,0):Nat×Nat)),.bool false,.slice none 0 0,I aj.2.2.1,I 0,I 0,I 0],Z,Ho (T3 (T4 (T4 (T4 (Mo [21,22,23,24,25,26,27,28,29] ao) al q ac aa) m n f u) w h ar ah) ai a9 io) a0,(EU (x:=(BE.mk b3 (AF.mk 0 ((0,0):Nat×Nat) false []) aj.2.2.1 0 0 0)) BK)⟩
 refine have a:=HQ a ih; ?_
 obtain ⟨bj,bk,rfl,d1⟩:=E1 (Az ii)
 refine .inr ⟨_,Z,?_⟩
 refine Ef<|AY ct 30 CS Z fun d2 kl km ip bl=>have iq:=Ss Kd.cpx d1 bl;Eu<|St Cw ip Z Z Z Z fun kn ir bm=>AA<|AR<|SV<|BW Cv (qs 0 6 (.one 6 .nil)) [6] [] d2 (by kernel_rfl) fun ko ba=>have it:=Bs ir ba;Qx DK Z (fun _ ⟨_,c⟩=>Lx B0 Z Z (Bw (Bs it c)))<|have iu:=Y4 cr a9 bl bm ba;Qx DK Z (fun _ ⟨_,c⟩=>Ld Q2 Z (Bc (Bs iu c) Z))<|Qx DK Z (fun _ _=>Nc Z)<|Qx DK Z (fun _ _=>Fd O4 Z)<|have iv:=Y3 d0 bl bm ba;Qx DK Z (fun _ ⟨_,c⟩=>Ld BC Z (Bc (Bs iv c) Z))<|Qx DK Z (v:=Ag [I 0,I g.type_,Cx g.num,.bool g.bool,Sl bj g.list bk,I aj.2.2.1,I 0,I 0,I 0]) (fun _ _=>B3 (cs:=[I 0,I g.type_,Cx g.num,.bool g.bool,Sl bj g.list bk,I aj.2.2.1,I 0,I 0,I 0]) [I 0,I 0,Cx (((0,0):Nat×Nat)),.bool false,.slice none 0 0,I 0,I 0,I 0,I 0] Lp NG Z (.cons Z Z Z (.cons Z Z Z .nil)) Z Z)<|ES dcd<|WY.one<|have iw:=Y4 (Y4 (Y4 (Y4 a1 q ac aa m) n f u w) h ar ah ai) a9 bl bm ba;have ix:=K2 Kd.cpx iq bm ba;BM Z (.none Z) Z<|St MU iw Z Z Z Z fun kp iy d3=>WY.nil<|AQ ?_
 obtain rfl:=AK a
 refine ACp hW (B:=B2) hB2 (Oz Tryz.func32 Z dcd) (Yd (Pt am 0) (Pt ak 0) _)<|Su Z (.agg Mr Z Z (Bw iy))<|have iz:=Ss Kd.cpx ix d3;⟨d2,[I 0,I g.type_,Cx g.num,.bool g.bool,Sl bj g.list bk,I aj.2.2.1,I 0,I 0,I 0],Z,Ho (T2 (T4 (T4 (T4 (T4 (Mo [21,22,23,24,25,26,27,28,29,30] ao) al q ac aa) m n f u) w h ar ah) ai a9 bl bm) ba d3) a0,(EU (x:=(BE.mk 0 g aj.2.2.1 0 0 0)) iz)⟩
theorem OH(c:Nat):GW.Spec (GW c):=lk0 (Ui c)
def H0.At(d:Col)(a:World)(f:Option Bool):Prop:=
 ∀{c},f=some c→
  Calls PG 10 #[] a fun e g=>∃h,e=.returned (.bool c)∧AS [] d a h g
def H0.Spec(f:Option Bool):Prop:=
 ∀a c,H0.At a c f
theorem SC(q:Nat)(ab:Col)(ax:World)(ay:∀b,ab b<10):H0.At ab ax (H0 q):=by
 intro az a
 rw [H0] at a
 refine Ay Tryz.func10 Z Tryz.ntmps10 Z fun B a0 b2=>Sr<|Va (.bool false)<|AA<|Sr<|Ef<|Ch (cs:=[U8 102,U8 40,U8 120,U8 32,U8 78,U8 41,U8 58,U8 78,U8 61,U8 120,U8 43,U8 120,U8 59,U8 103,U8 40,U8 41,U8 58,U8 78,U8 61,U8 102,U8 40,U8 49,U8 43,U8 50,U8 41,U8 59]) ab 20 [[U8 102],[U8 40],[U8 120],[U8 32],[U8 78],[U8 41],[U8 58],[U8 78],[U8 61],[U8 120],[U8 43],[U8 120],[U8 59],[U8 103],[U8 40],[U8 41],[U8 58],[U8 78],[U8 61],[U8 102],[U8 40],[U8 49],[U8 43],[U8 50],[U8 41],[U8 59]] H8 ZX Z Z (.cons Z Z Z (.cons Z Z Z (.cons Z Z Z (.cons Z Z Z (.cons Z Z Z (.cons Z Z Z (.cons Z Z Z (.cons Z Z Z (.cons Z Z Z (.cons Z Z Z (.cons Z Z Z (.cons Z Z Z (.cons Z Z Z (.cons Z Z Z (.cons Z Z Z (.cons Z Z Z (.cons Z Z Z (.cons Z Z Z (.cons Z Z Z (.cons Z Z Z (.cons Z Z Z (.cons Z Z Z (.cons Z Z Z (.cons Z Z Z (.cons Z Z Z (.cons Z Z Z .nil)))))))))))))))))))))))))) Z fun a1 a2 ac a3 a4=>have a5:Own Kd.u8 5 a1 a2 20 (.slice (some ⟨ac,0,none⟩) 26 26) ([102,40,120,32,78,41,58,78,61,120,43,120,59,103,40,41,58,78,61,102,40,49,43,50,41,59]:Bts):=Own.lit (css:=[[U8 102],[U8 40],[U8 120],[U8 32],[U8 78],[U8 41],[U8 58],[U8 78],[U8 61],[U8 120],[U8 43],[U8 120],[U8 59],[U8 103],[U8 40],[U8 41],[U8 58],[U8 78],[U8 61],[U8 102],[U8 40],[U8 49],[U8 43],[U8 50],[U8 41],[U8 59]]) a3 Z Z Z (Aa Z (Aa Z (Aa Z (Aa Z (Aa Z (Aa Z (Aa Z (Aa Z (Aa Z (Aa Z (Aa Z (Aa Z (Aa Z (Aa Z (Aa Z (Aa Z (Aa Z (Aa Z (Aa Z (Aa Z (Aa Z (Aa Z (Aa Z (Aa Z (Aa Z (Aa Z BA)))))))))))))))))))))))))) (A4 Z (A4 Z (A4 Z (A4 Z (A4 Z (A4 Z (A4 Z (A4 Z (A4 Z (A4 Z (A4 Z (A4 Z (A4 Z (A4 Z (A4 Z (A4 Z (A4 Z (A4 Z (A4 Z (A4 Z (A4 Z (A4 Z (A4 Z (A4 Z (A4 Z (A4 Z D3)))))))))))))))))))))))))) Z;Ef<|Y5 AAa Z a5 (by simp) dcd fun a6 a7 a8 a9=>Vx (v:=Ag [Sl (some ⟨ac,0,none⟩) (([102,40,120,32,78,41,58,78,61,120,43,120,59,103,40,41,58,78,61,102,40,49,43,50,41,59]:Bts)) 26,Sb ([103]:Bts),Sb ([]:Bts)]) (Bp ABv Tb.p24 Z (.cons Z Z Z (.cons Z Z Z (.cons Z Z Z .nil))))<|Bi a fun c ba a=>Ca (Cg [Ag [Sl (some ⟨ac,0,none⟩) (([102,40,120,32,78,41,58,78,61,120,43,120,59,103,40,41,58,78,61,102,40,49,43,50,41,59]:Bts)) 26,Sb ([103]:Bts),Sb ([]:Bts)]] Z) (NW q a6 a7 (kw1:=21) ba dcd dcd (QO (x:=(Ft.mk ([102,40,120,32,78,41,58,78,61,120,43,120,59,103,40,41,58,78,61,102,40,49,43,50,41,59]:Bts) ([103]:Bts) ([]:Bts))) a8)) ?_
 rintro _ b3 ⟨bb,b4,b5,rfl,bc,bd,aj⟩
 obtain ⟨n,o,rfl,ak⟩:=E1 (BV bd)
 obtain ⟨r,s,rfl⟩:=Own.len aj
 refine Vm<|Vr (Ag [Sl n c.1.funcs o])<|Vr (Sl r c.2.1 s)<|Vr (.bool c.2.2)<|Ef<|AY bb 22 KR Z fun b7 b8 b9 be ad=>have bf:=Ss AI ak ad;Eu<|St JJ be Z Z Z Z fun bg al ae=>Va (Sl r c.2.1 s)<|Va (.bool c.2.2)<|AA<|Sr<|Vx (Lx Gd Z Z (Bw al))<|Vm<|have bh:=Os (Os aj ad) ae; ?_
 obtain ⟨bi,af,am⟩:=Own.freeze (S:=[21]) bh dcd dcd
 refine have an:=K2 AI bf ae af;Bi a fun u bj a=>Ca (Cg [Ag [Sl n c.1.funcs o],Sb ([103]:Bts),Sl r c.2.1 s,I 99] Z) (OH q bi bg bj (BQ (x:=c.1) an) am) ?_
 rintro _ ca ⟨bk,cb,rfl,w,bl⟩
 obtain ⟨cd,cf,rfl,ao⟩:=E1 (Ke bl)
 refine Ef<|AY bk 23 Lp Z fun bm cg ch bn p=>have ci:=Ss Kd.cpx ao p;Eu<|St MU bn Z Z Z Z fun bo bp y=>AA<|Sr<|have bq:=Y4 al af w p y;Vx (Lx Gd Z Z (Bw bq))<|Vm<|have br:=K3 AI an w p y;have bt:=K3 Ao am w p y;Bi a fun z bu a=>Ca (Cg [Ag [Sl n c.1.funcs o],Sb ([103]:Bts),Sl r c.2.1 s,I 9] Z) (OH q bm bo bu (BQ (x:=c.1) br) bt) ?_
 rintro _ cj ⟨bv,ck,rfl,ap,bw⟩
 obtain ⟨cm,cn,rfl,aq⟩:=E1 (Ke bw)
 refine Ef<|AY bv 24 Lp Z fun m co cq bx ag=>have cr:=Ss Kd.cpx aq ag;Eu<|St MU bx Z Z Z Z fun bz ar au=>AA<|Am (fun b0 av=>∃aw ah ai,b0=Env.puts aw [(0,.bool ai)]∧Gy ai=some az∧AS [] m bz ah av) ?_ ?_
 refine AL<|Vm<|Vm<|Bo a (fun f a=>?_) fun f a=>?_
 refine Gx f (Fz QT Z)<|have aa:=Y3 bp ap ag au;Gx f (Ld NE Z (Bc aa Z))<|Gr f (.bool (u.why==0))<|Vp f<|Vm<|Bo a (fun d a=>?_) fun d a=>?_
 refine Gx d (Fd QU Z)<|Gx d (Fz Jd Z)<|Gx d (Ld Ed Z (Bc aa Z))<|Gr d (.bool (u.value.type_==1))<|Vp d<|Vm<|Bo a (fun e a=>?_) fun e a=>?_
 refine Gx e (Fd QU Z)<|Gx e (Fd HT Z)<|Gx e (Ld HL Z (Bc aa Z))<|Gx e (v:=.bool (ceq u.value.num ((4618441417868443648,0):Nat×Nat))) (Run.ceq Z Z)<|Vp e<|Vm<|Bo a (fun g a=>?_) fun g a=>?_
 refine Gx g (Fd QV Z)<|Gx g (Ld BC Z (Bc aa Z))<|Gr g (.bool (u.moves==10))<|Vp g<|Vm<|Bo a (fun h a=>?_) fun h a=>?_
 refine Gx h (Fz QT Z)<|Gx h (Ld NE Z (Bc ar Z))<|Gr h (.bool (z.why==60))<|Vp h<|Vm<|Bo a (fun l a=>?_) fun l a=>?_
 refine Gx l (Fd QV Z)<|Gx l (Ld BC Z (Bc ar Z))<|Gr l (.bool (z.moves==9))<|Vp l<|Va (.bool (z.moves==9))<|AA<|⟨_,m,(z.moves==9),Pu,a,Rf⟩
 refine Pg l<|Pg l<|Pg l<|Vp l<|Va (.bool false)<|AA<|⟨_,m,false,Pu,a,Rf⟩
 refine Pg h<|Pg h<|Pg h<|Vp h<|Vm<|Pg Z<|Pg Z<|Pg Z<|Vr (.bool false)<|Va (.bool false)<|AA<|⟨_,m,false,Pu,a,Rf⟩
 refine Pg g<|Pg g<|Pg g<|Vp g<|Vm<|Pg Z<|Pg Z<|Pg Z<|Vr (.bool false)<|Vm<|Pg Z<|Pg Z<|Pg Z<|Vr (.bool false)<|Va (.bool false)<|AA<|⟨_,m,false,Pu,a,Rf⟩
 refine Pg e<|Pg e<|Pg e<|Pg e<|Vp e<|Vm<|Pg Z<|Pg Z<|Pg Z<|Vr (.bool false)<|Vm<|Pg Z<|Pg Z<|Pg Z<|Vr (.bool false)<|Vm<|Pg Z<|Pg Z<|Pg Z<|Vr (.bool false)<|Va (.bool false)<|AA<|⟨_,m,false,Pu,a,Rf⟩
 refine Pg d<|Pg d<|Pg d<|Pg d<|Vp d<|Vm<|Pg Z<|Pg Z<|Pg Z<|Pg Z<|Vr (.bool false)<|Vm<|Pg Z<|Pg Z<|Pg Z<|Vr (.bool false)<|Vm<|Pg Z<|Pg Z<|Pg Z<|Vr (.bool false)<|Vm<|Pg Z<|Pg Z<|Pg Z<|Vr (.bool false)<|Va (.bool false)<|AA<|⟨_,m,false,Pu,a,Rf⟩
 refine Pg f<|Pg f<|Pg f<|Vp f<|Vm<|Pg Z<|Pg Z<|Pg Z<|Pg Z<|Vr (.bool false)<|Vm<|Pg Z<|Pg Z<|Pg Z<|Pg Z<|Vr (.bool false)<|Vm<|Pg Z<|Pg Z<|Pg Z<|Vr (.bool false)<|Vm<|Pg Z<|Pg Z<|Pg Z<|Vr (.bool false)<|Vm<|Pg Z<|Pg Z<|Pg Z<|Vr (.bool false)<|Va (.bool false)<|AA<|⟨_,m,false,Pu,a,Rf⟩
 rintro _ av ⟨aw,ah,ai,rfl,a,b1⟩
 rw [Gy] at a
 refine AQ ?_
 obtain rfl:=AK a
 refine O1 B a0 Z (.tmp Z)<|⟨ah,Z,Ho (T4 (T4 (T4 (Mo [20,21,22,23,24] a4) a9 bc ad ae) af w p y) ap ag au b1) ay⟩
theorem Te(c:Nat):H0.Spec (H0 c):=lk0 (SC c)
def HF.At(c:Col)(a:World)(f:AM→Bts→Option Int):Prop:=
 ∀{d e g h},f d g=some h→CK.rep c.F a e d→
  Calls PG 94 #[Ag e,Sb g] a fun l m=>∃n,l=.returned (I h)∧AS [] c a n m
def HF.Spec(f:AM→Bts→Option Int):Prop:=
 ∀a c,HF.At a c f
theorem SD(p:Nat)(l:Col)(ad:World)(q:∀b,l b<10):HF.At l ad (HF p):=by
 intro e az f r a ae
 rw [HF] at a
 obtain ⟨a1,a2,rfl,u⟩:=E1 (BV ae)
 refine Ay Tryz.func94 Z Tryz.ntmps94 Z fun B w a3=>Sr<|Ef<|A0 l 20 Z Z fun y af ag ah m=>Va (I 0)<|AA<|AR<|Sr<|Va (I 0)<|AA<|Af<|Bg (fun d ai n=>∃z g c,ai=Env.puts z [(1,Sb f),(2,Pt ag 0),(5,I c)]∧I6 e f d c=some r∧AS [] y af g n) p ?_ ?_
 exact ⟨_,y,0,Pu,a,Rf⟩
 rintro d _ n ⟨z,g,c,rfl,a,h⟩
 rcases d with _|d
 exact A5 a
 refine have a:KV e f (I6 e f d) c=some r:=a; ?_
 obtain ⟨a4,aa⟩:∃s,s=I6 e f d:=⟨_,rfl⟩
 rw [←aa,KV] at a
 refine AR<|Sr<|Vm<|Vx (Fz EX Z)<|have ab:=Bs ah h;Vx (Ld G8 Z (Bc ab Z))<|have ac:=K2 AI u m h; ?_
 obtain ⟨a5,a6,aj⟩:=AT ac
 refine Vx (v:=I (e.funcs.length:Int)) (Ll GI aj)<|Vr (.bool (decide (c< (e.funcs.length:Int))))<|AA<|Cn a (fun ak a=>?_) fun ak a=>?_
 refine WC.skip<|AR<|Af<|Sr<|Vx (Fz EX Z)<|Vx (Ld G8 Z (Bc ab Z))<|Vm<|Bi a fun al am a=>?_
 obtain ⟨an,ao,a7,ap,aq,ar,au,av,o⟩:=A8 (κ:=AI) ac am
 replace o:Ax g n an (ao+c.toNat*11) ap:=o
 obtain ⟨a8,a9,rfl,aw,ax⟩:=Cl av
 obtain ⟨ba,bb,rfl⟩:=AT aw
 obtain ⟨bc,bd,rfl⟩:=AT ax
 refine Vx (Ix GI aq Z ar au)<|Vx (Fz NC Z)<|Vx (Ld CG Z (Ax.cell0 o Z))<|Vm<|Vx (v:=.bool (al.name==f)) (Run.strEq Z Z)<|AA<|Cn a (fun ay a=>?_) fun ay a=>?_
 refine Sr<|Vm<|Va (I c)<|AA<|AQ ?_
 obtain rfl:=AK a
 refine O1 B w Z (.tmp Z)<|⟨g,Z,Ho (Tn (Mo [] m) h) q⟩
 refine WC.skip<|AL<|Vm<|Vr (I (Wr (c+1)))<|Va (I (Wr (c+1)))<|AA<|⟨d,Nat.lt_succ_self d,_,g,(Wr (c+1)),Pu,(aa▸a),(Mo [] h)⟩
 refine Ba<|Sr<|Va (I (-1:Int))<|AA<|AQ ?_
 obtain rfl:=AK a
 refine O1 B w Z (.tmp Z)<|⟨g,Z,Ho (Tn (Mo [] m) h) q⟩
theorem PQ(c:Nat):HF.Spec (HF c):=lk0 (SD c)
def JL.At(c:Col)(a:World)(f:(List Bts)→Bts→Option Bool):Prop:=
 ∀{d v0 e g},f d e=some g→Slc DV c.F a v0 d→
  Calls PG 20 #[v0,Sb e] a fun h l=>∃m,h=.returned (.bool g)∧AS [] c a m l
def JL.Spec(f:(List Bts)→Bts→Option Bool):Prop:=
 ∀a c,JL.At a c f
theorem Uj(o:Nat)(h:Col)(p:World)(q:∀b,h b<10):JL.At h p (JL o):=by
 intro e v0 f r a u
 rw [JL] at a
 obtain ⟨ad,ae,rfl⟩:=AT u
 refine Ay Tryz.func20 Z Tryz.ntmps20 Z fun B w aq=>Sr<|Va (.bool false)<|AA<|AR<|Sr<|Va (I 0)<|AA<|Af<|Bg (fun d af m=>∃y g c,af=Env.puts y [(0,Sl ad e ae),(1,Sb f),(5,I c)]∧KO e f d c=some r∧AS [] h p g m) o ?_ ?_
 exact ⟨_,h,0,Pu,a,Rf⟩
 rintro d _ m ⟨y,g,c,rfl,a,l⟩
 rcases d with _|d
 exact A5 a
 refine have a:La e f (KO e f d) c=some r:=a; ?_
 obtain ⟨ar,z⟩:∃s,s=KO e f d:=⟨_,rfl⟩
 rw [←z,La] at a
 refine AR<|Sr<|Vm<|Vm<|have aa:=Ss DV u l; ?_
 obtain ⟨au,av,ag⟩:=AT aa
 refine Vx (v:=I (e.length:Int)) (Ll IR ag)<|Vr (.bool (decide (c< (e.length:Int))))<|AA<|Cn a (fun ah a=>?_) fun ah a=>?_
 refine WC.skip<|AR<|Af<|Sr<|Vm<|Vm<|Bi a fun ab ai a=>?_
 obtain ⟨aj,ak,aw,ac,al,am,an,ao,n⟩:=A8 (κ:=DV) aa ai
 replace n:Ax g m aj (ak+c.toNat*1) ac:=n
 obtain rfl:=(show ac=[Sb ab] from ao)
 refine Vx (Ix IR al Z am an)<|Vx (Ld CG Z (Ax.cell0 n Z))<|Vm<|Vx (v:=.bool (ab==f)) (Run.strEq Z Z)<|AA<|Cn a (fun ap a=>?_) fun ap a=>?_
 refine Sr<|Va (.bool true)<|AA<|AQ ?_
 obtain rfl:=AK a
 refine O1 B w Z (.tmp Z)<|⟨g,Z,Ho (Mo [] l) q⟩
 refine WC.skip<|AL<|Vm<|Vr (I (Wr (c+1)))<|Va (I (Wr (c+1)))<|AA<|⟨d,Nat.lt_succ_self d,_,g,(Wr (c+1)),Pu,(z▸a),(Mo [] l)⟩
 refine Ba<|Sr<|Va (.bool false)<|AA<|AQ ?_
 obtain rfl:=AK a
 refine O1 B w Z (.tmp Z)<|⟨g,Z,Ho (Mo [] l) q⟩
theorem Qi(c:Nat):JL.Spec (JL c):=lk0 (Uj c)
def Ij.At(c:Col)(a:World)(f:AE→Int→Option (List Bts)):Prop:=
 ∀{d e g h},f d g=some h→AH.rep c.F a e d→
  Calls PG 127 #[Ag e,I g] a fun o l=>∃m n,o=.returned n∧AS [] c a m l∧Slc DV m.F l n h
def Ij.Spec(f:AE→Int→Option (List Bts)):Prop:=
 ∀a c,Ij.At a c f
theorem SE(p:Col)(ah:World)(q:∀b,p b<10):Ij.At p ah Ij:=by
 intro c a8 d ad a ai
 rw [Ij] at a
 obtain ⟨ba,bb,rfl,aj⟩:=E1 (Ae ai)
 refine Ay Tryz.func127 Z Tryz.ntmps127 Z fun B r bc=>Sr<|Ef<|A0 p 20 Z Z fun n ak ae l s=>Va (.slice none 0 0)<|AA<|AR<|Af<|Am (fun u w=>∃m g y,u=Env.puts m [(1,I d),(2,Pt ae 0),(5,.bool y)]∧Ky c d y=some ad∧AS [] n ak g w) ?_ ?_
 refine Sr<|Vx (Fz C8 Z)<|Vx (Ld Ge Z (Bc l Z))<|Vr (.bool (c.op==21))<|Va (.bool (c.op==21))<|AA<|Cn a (fun al a=>?_) fun al a=>?_
 refine WC.skip<|⟨_,n,(c.op==21),Pu,a,Rf⟩
 refine AL<|Vx (Fz C8 Z)<|Vx (Ld Ge Z (Bc l Z))<|Vr (.bool (c.op==22))<|Vm<|Bo a (fun e a=>?_) fun e a=>?_
 refine Gm e<|Gr e (.bool (d==1))<|Vp e<|Va (.bool (d==1))<|AA<|⟨_,n,(d==1),Pu,a,Rf⟩
 refine Pg e<|Pg e<|Vp e<|Va (.bool false)<|AA<|⟨_,n,false,Pu,a,Rf⟩
 rintro _ w ⟨m,g,y,rfl,a,h⟩
 rw [Ky] at a
 refine Cn a (fun am a=>?_) fun am a=>?_
 refine Sr<|Vx (Fd Di Z)<|have an:=Bs l h;Vx (Ld CG Z (Bc an Z))<|Ef<|Ch (cs:=[Sb c.name]) g 21 [[Sb c.name]] IR Pz Z Z (.cons Z Z Z .nil) Z fun ao ap z aq ar=>have au:Own DV 9 ao ap 21 (.slice (some ⟨z,0,none⟩) 1 1) ([c.name]:List Bts):=Own.lit (css:=[[Sb c.name]]) aq Z Z Z (Aa Z BA) (A4 Z D3) Z;Va (Sl (some ⟨z,0,none⟩) (([c.name]:List Bts)) 1)<|AA<|AQ ?_
 obtain ⟨av,aw,ax⟩:=Own.freeze (S:=[21]) au dcd dcd
 obtain rfl:=AK a
 refine O1 B r Z (.tmp Z)<|⟨av,Sl (some ⟨z,0,none⟩) (([c.name]:List Bts)) 1,Z,Ho (T3 (Mo [21] s) h ar aw) q,ax⟩
 refine Am (fun u af=>∃m o aa,u=Env.puts m [(2,Pt ae 0),(19,.bool aa)]∧L9 c aa=some ad∧AS [] g w o af) ?_ ?_
 refine AL<|Vx (Fz C8 Z)<|have ay:=Bs l h;Vx (Ld Ge Z (Bc ay Z))<|Vr (.bool (c.op==20))<|Vm<|Bo a (fun f a=>?_) fun f a=>?_
 refine Gm f<|Gr f (.bool (d==2))<|Vp f<|Va (.bool (d==2))<|AA<|⟨_,g,(d==2),Pu,a,Rf⟩
 refine Pg f<|Pg f<|Vp f<|Va (.bool false)<|AA<|⟨_,g,false,Pu,a,Rf⟩
 rintro _ af ⟨m,o,aa,rfl,a,ab⟩
 rw [L9] at a
 refine Cn a (fun az a=>?_) fun az a=>?_
 refine Sr<|Vx (Fd Di Z)<|have ag:=Y2 l h ab;Vx (Ld CG Z (Bc ag Z))<|Vx (Fd NB Z)<|Vx (Ld CG Z (Bc ag Z))<|Ef<|Ch (cs:=[Sb c.name,Sb c.tail]) o 22 [[Sb c.name],[Sb c.tail]] IR Pz Z Z (.cons Z Z Z (.cons Z Z Z .nil)) Z fun a0 a1 ac a2 a3=>have a4:Own DV 9 a0 a1 22 (.slice (some ⟨ac,0,none⟩) 2 2) ([c.name,c.tail]:List Bts):=Own.lit (css:=[[Sb c.name],[Sb c.tail]]) a2 Z Z Z (Aa Z (Aa Z BA)) (A4 Z (A4 Z D3)) Z;Va (Sl (some ⟨ac,0,none⟩) (([c.name,c.tail]:List Bts)) 2)<|AA<|AQ ?_
 obtain ⟨a5,a6,a7⟩:=Own.freeze (S:=[22]) a4 dcd dcd
 obtain rfl:=AK a
 refine O1 B r Z (.tmp Z)<|⟨a5,Sl (some ⟨ac,0,none⟩) (([c.name,c.tail]:List Bts)) 2,Z,Ho (T4 (Mo [22] s) h ab a3 a6) q,a7⟩
 refine WC.skip<|Sr<|Va (.slice none 0 0)<|AA<|AQ ?_
 obtain rfl:=AK a
 refine O1 B r Z (.tmp Z)<|⟨o,.slice none 0 0,Z,Ho (T2 (Mo [] s) h ab) q,BK⟩
theorem Tf:Ij.Spec Ij:=lk0 (SE)
def I7.At(c:Col)(a:World)(f:(List Bts)→(List Bts)→Option (List Bts)):Prop:=
 ∀{d v0 e g h},f d e=some h→Slc DV c.F a v0 d→Slc DV c.F a g e→
  Calls PG 44 #[v0,g] a fun o l=>∃m n,o=.returned n∧AS [] c a m l∧Slc DV m.F l n h
def I7.Spec(f:(List Bts)→(List Bts)→Option (List Bts)):Prop:=
 ∀a c,I7.At a c f
theorem Ti(c:Col)(e:World)(s:∀b,c b<10):I7.At c e I7:=by
 intro d v0 f ae af a g h
 rw [I7] at a
 obtain ⟨ag,ah,rfl⟩:=AT g
 obtain ⟨ai,aj,rfl⟩:=AT h
 refine Ay Tryz.func44 Z Tryz.ntmps44 Z fun B u ak=>Sr<|Va (.slice none 0 0)<|AA<|Sr<|Va (.slice none 0 0)<|AA<|Sr<|Vm<|Vm<|Bi a fun al l a=>Ef<|Bu (κ:=DV) Z Z (Own.nil:Own DV 9 c e 20 _ _) dcd Vc (IU g) (Et l) (E6 l) fun am an ao m n=>?_
 obtain ⟨w,y,rfl⟩:=Own.len m
 refine Va (Sl w ((([]:List Bts)++d)) y)<|AA<|Sr<|Vm<|Vm<|have z:=Ss DV h n;Bi a fun ap o a=>Ef<|Bu (κ:=DV) Z Z m dcd Vc (IU z) (Et o) (E6 o) fun aq ar au p aa=>?_
 obtain ⟨q,r,rfl⟩:=Own.len p
 refine Va (Sl q (((([]:List Bts)++d)++f)) r)<|AA<|AQ ?_
 obtain ⟨ab,ac,ad⟩:=Own.freeze (S:=[20]) p dcd dcd
 obtain rfl:=AK a
 refine O1 B u Z (.tmp Z)<|⟨ab,Sl q (((([]:List Bts)++d)++f)) r,Z,Ho (T2 (Mo [20] n) aa ac) s,ad⟩
theorem Uk:I7.Spec I7:=lk0 (Ti)
def ref06_seen.At(c:Col)(a:World)(f:AE→(List Bts)→Option (List BG)):Prop:=
 ∀{d e g h l},f d g=some l→AH.rep c.F a e d→Slc DV c.F a h g→
  Calls PG 95 #[Ag e,h] a fun p m=>∃n o,p=.returned o∧AS [] c a n m∧Slc GE n.F m o l
def ref06_seen.Spec(f:AE→(List Bts)→Option (List BG)):Prop:=
 ∀a c,ref06_seen.At a c f
structure Be.Good(a:Be):Prop where
 ref06_seen:ref06_seen.Spec a.ref06_seen
theorem Tj(r:Be)(af:Nat)(cb:Be.Good r)(a2:Col)(cc:World)(cd:∀b,a2 b<10):ref06_seen.At a2 cc (LJ r af):=by
 intro a du m dv an c cf a3
 rw [LJ] at c
 obtain ⟨g,h,rfl,ao⟩:=E1 (Ae cf)
 obtain ⟨z,aa,rfl⟩:=AT a3
 refine Ay Tryz.func95 Z Tryz.ntmps95 Z fun B cg d=>Sr<|Ef<|A0 a2 20 Z Z fun ap bb a4 aq ab=>Va (.slice none 0 0)<|AA<|Sr<|Va (.slice none 0 0)<|AA<|Am (fun ag ar=>∃u ah ac au av,ag=Env.puts u [(1,Sl z m aa),(2,Pt a4 0),(5,Sl au ac av)]∧Jo r af a m ac=some an∧AS [22] ap bb ah ar∧Own GE 184 ah ar 22 (Sl au ac av) ac) ?_ ?_
 refine Am (fun ag bc=>∃u ad a5,ag=Env.puts u [(1,Sl z m aa),(2,Pt a4 0),(5,.slice none 0 0),(16,.bool a5)]∧Lb r af a m a5=some an∧AS [] ap bb ad bc) ?_ ?_
 refine AL<|Vx (Fz C8 Z)<|Vx (Ld Ge Z (Bc aq Z))<|Vr (.bool (a.op==6))<|Vm<|Bo c (fun q c=>?_) fun q c=>?_
 refine Pg q<|Pg q<|Pg q<|Vp q<|AA<|⟨_,ap,true,Pu,c,Rf⟩
 refine Gx q (Fz C8 Z)<|Gx q (Ld Ge Z (Bc aq Z))<|Gr q (.bool (a.op==7))<|Vp q<|AA<|⟨_,ap,(a.op==7),Pu,c,Rf⟩
 rintro _ bc ⟨u,ad,a5,rfl,c,y⟩
 rw [Lb] at c
 refine Cn c (fun ch c=>?_) fun ch c=>?_
 refine BW Cv (qs 0 9 (.one 9 (qs 10 3 (.one 13 (.one 14 (.q 15 .nil)))))) [] [22] ad (by kernel_rfl) fun ci ae=>Qx d Z (v:=.slice none 0 0) (fun _ _=>Mv Z)<|have a6:=Y2 aq y ae;Qx d Z (fun _ ⟨_,e⟩=>Lx A9 Z Z (Bw (Bs a6 e)))<|Qx d Z (fun _ _=>Fz C8 Z)<|Qx d Z (fun _ ⟨_,e⟩=>Ld Ge Z (Bc (Bs a6 e) Z))<|Qx d Z (v:=.bool (a.op==6)) (fun _ _=>Z)<|Qx d Z (v:=.bool (a.op==6)) (fun _ _=>Mv Z)<|Bo c (fun l c=>?_) fun l c=>?_
 refine Qg d Z l (v:=Sl z m aa) (fun _ _=>Mv Z)<|Qg d Z l (fun _ _=>Fd Di Z)<|Qg d Z l (fun _ ⟨_,e⟩=>Ld CG Z (Bc (Bs a6 e) Z))<|A1 Z<|have cj:=K3 DV a3 ab y ae;Bi c fun n ck c=>A3 Z (.guard (t:=true) (b:=true) Z Z Z Z (Cb l)) Z Z (Cg [Sl z m aa,Sb a.name] Z)<|Calls.mono (Qi af ad ci ck cj) ?_
 rintro _ dx ⟨cl,rfl,ai⟩
 refine ⟨_,Z,⟨_,(Mo [22] ai)⟩,?_⟩
 refine Qg d Z l (v:=.bool (!n)) (fun _ _=>Z)<|Qx d Z (v:=.bool (!n)) (fun _ _=>(Pk l))<|Qx d Z (v:=Ag [I a.op,Sb a.name,Sb a.tail,I a.type_,Cx a.num,Sl g a.args h,I a.at_,.bool (!n)]) (fun _ _=>B3 (cs:=[I a.op,Sb a.name,Sb a.tail,I a.type_,Cx a.num,Sl g a.args h,I a.at_,.bool (!n)]) [I 0,Sb ([]:Bts),Sb ([]:Bts),I 0,Cx (((0,0):Nat×Nat)),.slice none 0 0,I 0,.bool false] SX X0 Z (.cons Z Z Z (.cons Z Z Z .nil)) Z Z)<|A1 Z<|Bb Z (.none Z) Z Z<|Ch (cs:=[I a.op,Sb a.name,Sb a.tail,I a.type_,Cx a.num,Sl g a.args h,I a.at_,.bool (!n)]) cl 21 [[I a.op,Sb a.name,Sb a.tail,I a.type_,Cx a.num,Sl g a.args h,I a.at_,.bool (!n)]] QY SX Z Z (.cons Z Z Z .nil) Z fun bd be cm cn aw=>have co:=Ss AH (K4 AH ao ab y ae ai) aw;have cq:Own GE 184 bd be 21 (.slice (some ⟨cm,0,none⟩) 1 1) ([(BG.mk a (!n))]:List BG):=Own.lit (css:=[[I a.op,Sb a.name,Sb a.tail,I a.type_,Cx a.num,Sl g a.args h,I a.at_,.bool (!n)]]) cn Z Z Z (Aa (Py (x:=(BG.mk a (!n))) co) BA) (A4 Z D3) Z;⟨⟨_,(Tn (Mo [22] ai) aw)⟩,?_⟩
 refine A1 Z<|Bi c fun dy bf c=>Bb Z (.none Z) Z Z<|Bu (κ:=GE) Z Z (Own.nil:Own GE 184 bd be 22 _ _) dcd VY (CC cq) (Et bf) (E6 bf) fun dz cr d0 bg bh=>?_
 obtain ⟨bi,bj,rfl⟩:=Own.len bg
 refine ⟨⟨_,(T2 (Mo [22] ai) aw bh)⟩,?_⟩
 refine Qx d Z (v:=Sl bi ((([]:List BG)++([(BG.mk a (!n))]:List BG))) bj) (fun _ _=>Run.assign Z)<|B9<|⟨_,cr,(([]:List BG)++([(BG.mk a (!n))]:List BG)),bi,bj,Pu,c,(T4 (Mo [22] y) ae ai aw bh),bg⟩
 refine Qp d Z l<|Qp d Z l<|Qp d Z l<|A1 Z<|MP Z (.guard (t:=false) (b:=true) Z Z Z Z (Cb l)) Z Z<|⟨⟨_,(AS.refl [22] _ _)⟩,?_⟩
 refine Qp d Z l<|Qx d Z (v:=.bool false) (fun _ _=>(Pk l))<|Qx d Z (v:=Ag [I a.op,Sb a.name,Sb a.tail,I a.type_,Cx a.num,Sl g a.args h,I a.at_,.bool false]) (fun _ _=>B3 (cs:=[I a.op,Sb a.name,Sb a.tail,I a.type_,Cx a.num,Sl g a.args h,I a.at_,.bool false]) [I 0,Sb ([]:Bts),Sb ([]:Bts),I 0,Cx (((0,0):Nat×Nat)),.slice none 0 0,I 0,.bool false] SX X0 Z (.cons Z Z Z (.cons Z Z Z .nil)) Z Z)<|A1 Z<|Bb Z (.none Z) Z Z<|Ch (cs:=[I a.op,Sb a.name,Sb a.tail,I a.type_,Cx a.num,Sl g a.args h,I a.at_,.bool false]) ad 21 [[I a.op,Sb a.name,Sb a.tail,I a.type_,Cx a.num,Sl g a.args h,I a.at_,.bool false]] QY SX Z Z (.cons Z Z Z .nil) Z fun bk bl ct cu ax=>have cv:=K4 AH ao ab y ae ax;have cw:Own GE 184 bk bl 21 (.slice (some ⟨ct,0,none⟩) 1 1) ([(BG.mk a false)]:List BG):=Own.lit (css:=[[I a.op,Sb a.name,Sb a.tail,I a.type_,Cx a.num,Sl g a.args h,I a.at_,.bool false]]) cu Z Z Z (Aa (Py (x:=(BG.mk a false)) cv) BA) (A4 Z D3) Z;⟨⟨_,(Mo [22] ax)⟩,?_⟩
 refine A1 Z<|Bi c fun d1 bm c=>Bb Z (.none Z) Z Z<|Bu (κ:=GE) Z Z (Own.nil:Own GE 184 bk bl 22 _ _) dcd VY (CC cw) (Et bm) (E6 bm) fun d2 cx d3 bn bo=>?_
 obtain ⟨bp,bq,rfl⟩:=Own.len bn
 refine ⟨⟨_,(Tn (Mo [22] ax) bo)⟩,?_⟩
 refine Qx d Z (v:=Sl bp ((([]:List BG)++([(BG.mk a false)]:List BG))) bq) (fun _ _=>Run.assign Z)<|B9<|⟨_,cx,(([]:List BG)++([(BG.mk a false)]:List BG)),bp,bq,Pu,c,(T3 (Mo [22] y) ae ax bo),bn⟩
 refine WC.skip<|⟨_,ad,([]:List BG),none,0,Pu,c,(Mo [22] y),Own.nil⟩
 rintro _ ar ⟨u,ah,ac,au,av,rfl,c,ay,cy⟩
 rw [Jo] at c
 refine AR<|Sr<|Va (I 0)<|AA<|Af<|Bg (fun w ag az=>∃u a0 o aj ak p,ag=Env.puts u [(1,Sl z m aa),(2,Pt a4 0),(5,Sl aj o ak),(6,I p)]∧Ik r a m w o p=some an∧AS [22] ah ar a0 az∧Own GE 184 a0 az 22 (Sl aj o ak) o) af ?_ ?_
 exact ⟨_,ah,ac,au,av,0,Pu,c,(AS.refl [22] _ _),cy⟩
 rintro w _ az ⟨u,a0,o,aj,ak,p,rfl,c,al,br⟩
 rcases w with _|w
 exact A5 c
 refine have c:I8 r a m (Ik r a m w) o p=some an:=c; ?_
 obtain ⟨d4,bt⟩:∃s,s=Ik r a m w:=⟨_,rfl⟩
 rw [←bt,I8] at c
 refine AR<|Sr<|Vm<|Vx (Fd BS Z)<|have a7:=Y2 aq ay al;Vx (Ld Cf Z (Bc a7 Z))<|have a8:=K3 AH ao ab ay al; ?_
 obtain ⟨d5,d6,cz⟩:=AT a8
 refine Vx (v:=I (a.args.length:Int)) (Ll CH cz)<|Vr (.bool (decide (p< (a.args.length:Int))))<|AA<|Cn c (fun c0 c=>?_) fun c0 c=>?_
 refine WC.skip<|AR<|Af<|Sr<|Vm<|Vx (Lx A9 Z Z (Bw a7))<|Vm<|Bi c fun c1 c2 c=>Ca (Cg [Ag [I a.op,Sb a.name,Sb a.tail,I a.type_,Cx a.num,Sl g a.args h,I a.at_],I p] Z) (Tf a0 az c2 (AW (x:=a) a8)) ?_
 rintro _ c3 ⟨c4,d7,rfl,am,bu⟩
 obtain ⟨c5,c6,rfl⟩:=AT bu
 refine have c7:=K4 DV a3 ab ay al am;Bi c fun bv c8 c=>Ca (Cg [Sl z m aa,Sl c5 c1 c6] Z) (Uk c4 c3 c8 c7 bu) ?_
 rintro _ bw ⟨bx,d8,rfl,a1,bz⟩
 obtain ⟨b0,b1,rfl⟩:=AT bz
 refine Va (Sl b0 bv b1)<|AA<|Sr<|Vx (Fd BS Z)<|have c9:=Y2 a7 am a1;Vx (Ld Cf Z (Bc c9 Z))<|Vm<|Bi c fun f da c=>have db:=K2 AH a8 am a1; ?_
 obtain ⟨dc,de,d9,df,dg,dh,di,dj,a9⟩:=A8 (κ:=AH) db da
 replace a9:Ax bx bw dc (de+p.toNat*7) df:=a9
 obtain ⟨b3,b4,rfl,b2⟩:=E1 (Ae dj)
 refine Vx (Ix CH dg Z dh di)<|Vx (Lx A9 Z Z (Ax.part0 a9 [I f.op,Sb f.name,Sb f.tail,I f.type_,Cx f.num,Sl b3 f.args b4,I f.at_] Z))<|Vm<|Bi c fun ba dk c=>Ca (Cg [Ag [I f.op,Sb f.name,Sb f.tail,I f.type_,Cx f.num,Sl b3 f.args b4,I f.at_],Sl b0 bv b1] Z) (cb.ref06_seen bx bw dk (AW (x:=f) b2) bz) ?_
 rintro _ eb ⟨ec,ed,rfl,b5,b6⟩
 obtain ⟨dl,dm,rfl⟩:=AT b6
 refine Va (Sl dl ba dm)<|AA<|AL<|Vm<|Vm<|have dn:=Os (Os (Os br am) a1) b5;Bi c fun ee b7 c=>Ef<|Bu (κ:=GE) Z Z dn dcd VY (IU b6) (Et b7) (E6 b7) fun ef dp eg b8 dq=>?_
 obtain ⟨b9,ca,rfl⟩:=Own.len b8
 refine Va (Sl b9 ((o++ba)) ca)<|AA<|AL<|Vm<|Vr (I (Wr (p+1)))<|Va (I (Wr (p+1)))<|AA<|⟨w,Nat.lt_succ_self w,_,dp,(o++ba),b9,ca,(Wr (p+1)),Pu,(bt▸c),(T4 (Mo [22] al) am a1 b5 dq),b8⟩
 refine Ba<|Sr<|Vm<|Va (Sl aj o ak)<|AA<|AQ ?_
 obtain ⟨dr,ds,dt⟩:=Own.freeze (S:=[22]) br dcd dcd
 obtain rfl:=AK c
 refine O1 B cg Z (.tmp Z)<|⟨dr,Sl aj o ak,Z,Ho (T3 (Mo [22] ab) ay al ds) cd,dt⟩
theorem Tk(a:Be)(d:Nat)(f:Be.Good a):ref06_seen.Spec (LJ a d):=lk0 (Tj a d f)
theorem Be.good:∀a,Be.Good (Be.at a)
 |0=>⟨by intro c d;intros;(try intro _);intros;exact A5 (by assumption)⟩
 |n+1=>⟨Tk _ n (Be.good n)⟩
theorem Ul(a:Nat):ref06_seen.Spec (ref06_seen a):=(Be.good a).ref06_seen
def Hf.At(c:Col)(a:World)(f:AM→Option (List AD)):Prop:=
 ∀{d e g},f d=some g→CK.rep c.F a e d→
  Calls PG 65 #[Ag e] a fun n h=>∃l m,n=.returned m∧AS [] c a l h∧Slc An l.F h m g
def Hf.Spec(f:AM→Option (List AD)):Prop:=
 ∀a c,Hf.At a c f
theorem RH(f:Nat)(cb:Col)(ej:World)(ek:∀b,cb b<10):Hf.At cb ej (Hf f):=by
 intro g ix y a el
 rw [Hf] at a
 obtain ⟨bk,bl,rfl,cu⟩:=E1 (BV el)
 refine Ay Tryz.func65 Z Tryz.ntmps65 Z fun B em q=>Sr<|Ef<|A0 cb 20 Z Z fun cv en ao eo cw=>Va (.slice none 0 0)<|AA<|Sr<|Va (.slice none 0 0)<|AA<|AR<|Sr<|Va (I 0)<|AA<|Af<|Bg (fun ai l bm=>∃h a4 r ar au e,l=Env.puts h [(1,Pt ao 0),(3,Sl ar r au),(4,I e)]∧El f g ai r e=some y∧AS [21,23,26,27] cv en a4 bm∧Own An 63 a4 bm 23 (Sl ar r au) r) f ?_ ?_
 exact ⟨_,cv,([]:List AD),none,0,0,Pu,a,(AS.refl [21,23,26,27] _ _),Own.nil⟩
 rintro ai _ bm ⟨h,a4,r,ar,au,e,rfl,a,bn,cc⟩
 rcases ai with _|ai
 exact A5 a
 refine have a:HZ f g (El f g ai) r e=some y:=a; ?_
 obtain ⟨ae,cx⟩:∃s,s=El f g ai:=⟨_,rfl⟩
 rw [←cx,HZ] at a
 refine AR<|Sr<|Vm<|Vx (Fz EX Z)<|have bo:=Bs eo bn;Vx (Ld G8 Z (Bc bo Z))<|have bp:=K2 AI cu cw bn; ?_
 obtain ⟨iz,i0,ep⟩:=AT bp
 refine Vx (v:=I (g.funcs.length:Int)) (Ll GI ep)<|Vr (.bool (decide (e< (g.funcs.length:Int))))<|AA<|Cn a (fun eq a=>?_) fun eq a=>?_
 refine WC.skip<|AR<|Af<|Sr<|Vx (Fz EX Z)<|Vx (Ld G8 Z (Bc bo Z))<|Vm<|Bi a fun c er a=>?_
 obtain ⟨es,et,i1,eu,ew,ex,ey,ez,cd⟩:=A8 (κ:=AI) bp er
 replace cd:Ax a4 bm es (et+e.toNat*11) eu:=cd
 obtain ⟨i2,i3,rfl,cy,cz⟩:=Cl ez
 obtain ⟨e0,e1,rfl⟩:=AT cy
 obtain ⟨cf,cg,rfl⟩:=AT cz
 refine Vx (Ix GI ew Z ex ey)<|Vx (Lx MD Z Z (Ax.part0 cd [Sb c.name,Sl e0 c.params e1,I c.type_,I c.body.op,Sb c.body.name,Sb c.body.tail,I c.body.type_,Cx c.body.num,Sl cf c.body.args cg,I c.body.at_,I c.at_] Z))<|Ef<|AY a4 21 KS Z fun c0 i4 ch e2 af=>have e3:=Ss Ab cy af;have e4:=Ss AH cz af;Eu<|St LB e2 Z Z Z Z fun c1 ci ag=>AA<|Am (fun l bq=>∃h a5 av br bt,l=Env.puts h [(1,Pt ao 0),(3,Sl br av bt),(4,I e),(5,Pt ch 0)]∧JN f g e ae c av=some y∧AS [23] c0 c1 a5 bq∧Own An 63 a5 bq 23 (Sl br av bt) av) ?_ ?_
 refine Sr<|have e5:=Y2 bo af ag;Vx (Lx Gd Z Z (Bw e5))<|Vx (Fz NC Z)<|Vx (Ld CG Z (Bc ci Z))<|have e6:=K2 AI bp af ag;Bi a fun e7 e8 a=>Ca (Cg [Ag [Sl bk g.funcs bl],Sb c.name] Z) (PQ f c0 c1 e8 (BQ (x:=g) e6)) ?_
 rintro _ i5 ⟨c2,rfl,a6⟩
 refine Vm<|Vr (.bool (decide (e7<e)))<|AA<|Cn a (fun e9 a=>?_) fun e9 a=>?_
 refine AL<|Vm<|Vx (Fd W0 Z)<|have fa:=Bs ci a6;Vx (Ld BC Z (Bc fa Z))<|Vx (v:=Ag [I 30,I c.at_]) (Bp FM Mu Z (.cons Z Z Z (.cons Z Z Z .nil)))<|Ef<|Ch (cs:=[I 30,I c.at_]) c2 22 [[I 30,I c.at_]] NU FM Z Z (.cons Z Z Z .nil) Z fun fb fc fd fe c3=>have ff:Own An 63 fb fc 22 (.slice (some ⟨fd,0,none⟩) 1 1) ([(AD.mk 30 c.at_)]:List AD):=Own.lit (css:=[[I 30,I c.at_]]) fe Z Z Z (Aa (Ak (x:=(AD.mk 30 c.at_))) BA) (A4 Z D3) Z;have fg:=Os (Os (Os (Os cc af) ag) a6) c3;Bi a fun i6 c4 a=>Ef<|Bu (κ:=An) Z Z fg dcd QS (CC ff) (Et c4) (E6 c4) fun i7 fh i8 c5 fi=>?_
 obtain ⟨c6,c7,rfl⟩:=Own.len c5
 refine Va (Sl c6 ((r++([(AD.mk 30 c.at_)]:List AD))) c7)<|AA<|⟨_,fh,(r++([(AD.mk 30 c.at_)]:List AD)),c6,c7,Pu,a,(T2 (Mo [23] a6) c3 fi),c5⟩
 refine WC.skip<|have fj:=Os (Os (Os cc af) ag) a6;⟨_,c2,r,ar,au,Pu,a,(Mo [23] a6),fj⟩
 rintro _ bq ⟨h,a5,av,br,bt,rfl,a,aw,fk⟩
 rw [JN] at a
 refine Sr<|Va (.slice none 0 0)<|AA<|AR<|Sr<|Va (I 0)<|AA<|Af<|Bg (fun aj l ak=>∃h ax z a7 a8 o ay az p,l=Env.puts h [(1,Pt ao 0),(3,Sl a7 z a8),(4,I e),(5,Pt ch 0),(6,Sl ay o az),(7,I p)]∧Ek f g e ae c aj z o p=some y∧AS [23,26] a5 bq ax ak∧Own An 63 ax ak 23 (Sl a7 z a8) z∧Own DV 9 ax ak 26 (Sl ay o az) o) f ?_ ?_
 exact ⟨_,a5,av,br,bt,([]:List Bts),none,0,0,Pu,a,(AS.refl [23,26] _ _),fk,Own.nil⟩
 rintro aj _ ak ⟨h,ax,z,a7,a8,o,ay,az,p,rfl,a,ap,cj,ck⟩
 rcases aj with _|aj
 exact A5 a
 refine have a:Fi f g e ae c (Ek f g e ae c aj) z o p=some y:=a; ?_
 obtain ⟨fl,c8⟩:∃s,s=Ek f g e ae c aj:=⟨_,rfl⟩
 rw [←c8,Fi] at a
 refine AR<|Sr<|Vm<|Vx (Fd EY Z)<|have a9:=Y2 ci aw ap;Vx (Ld Ey Z (Bc a9 Z))<|have cl:=K3 Ab e3 ag aw ap; ?_
 obtain ⟨i9,ja,fm⟩:=AT cl
 refine Vx (v:=I (c.params.length:Int)) (Ll D9 fm)<|Vr (.bool (decide (p< (c.params.length:Int))))<|AA<|Cn a (fun fn a=>?_) fun fn a=>?_
 refine WC.skip<|AR<|Af<|Am (fun l bu=>∃h ba a0 bv bw,l=Env.puts h [(1,Pt ao 0),(3,Sl bv a0 bw),(4,I e),(5,Pt ch 0),(6,Sl ay o az),(7,I p)]∧JM c o p fl a0=some y∧AS [23] ax ak ba bu∧Own An 63 ba bu 23 (Sl bv a0 bw) a0) ?_ ?_
 refine Sr<|Vm<|Vx (Fd EY Z)<|Vx (Ld Ey Z (Bc a9 Z))<|Vm<|Bi a fun ah fo a=>?_
 obtain ⟨fp,fq,jb,fr,c9,da,db,fs,bx⟩:=A8 (κ:=Ab) cl fo
 replace bx:Ax ax ak fp (fq+p.toNat*3) fr:=bx
 obtain rfl:=Ez fs
 refine Vx (Ix D9 c9 Z da db)<|Vx (Fz Lh Z)<|Vx (Ld CG Z (Ax.cell0 bx Z)) ?_
 obtain ⟨ft,jc,fu,fv⟩:=Own.lend ck dcd
 refine Bi a fun jd fw a=>Ca (Cg [Sl ay o az,Sb ah.name] Z) (Qi f ft ak fw fu) ?_
 rintro _ je ⟨jf,rfl,fx⟩
 obtain ⟨dc,a1⟩:=fv [] _ _ fx dcd
 refine AA<|Cn a (fun fy a=>?_) fun fy a=>?_
 refine AL<|Vm<|Vx (Fd EY Z)<|have fz:=Bs a9 a1;Vx (Ld Ey Z (Bc fz Z))<|Vm<|Vx (Ix D9 c9 Z da db)<|Vx (Fd W1 Z)<|have f0:=Es bx a1;Vx (Ld BC Z (Ax.cell (k:=2) f0 Z))<|Vx (v:=Ag [I 30,I ah.at_]) (Bp FM Mu Z (.cons Z Z Z (.cons Z Z Z .nil)))<|Ef<|Ch (cs:=[I 30,I ah.at_]) dc 24 [[I 30,I ah.at_]] NU FM Z Z (.cons Z Z Z .nil) Z fun f1 f2 f3 f4 de=>have f5:Own An 63 f1 f2 24 (.slice (some ⟨f3,0,none⟩) 1 1) ([(AD.mk 30 ah.at_)]:List AD):=Own.lit (css:=[[I 30,I ah.at_]]) f4 Z Z Z (Aa (Ak (x:=(AD.mk 30 ah.at_))) BA) (A4 Z D3) Z;have f6:=Os (Os cj a1) de;Bi a fun jg df a=>Ef<|Bu (κ:=An) Z Z f6 dcd QS (CC f5) (Et df) (E6 df) fun jh f7 ji dg f8=>?_
 obtain ⟨dh,di,rfl⟩:=Own.len dg
 refine Va (Sl dh ((z++([(AD.mk 30 ah.at_)]:List AD))) di)<|AA<|⟨_,f7,(z++([(AD.mk 30 ah.at_)]:List AD)),dh,di,Pu,a,(T2 (Mo [23] a1) de f8),dg⟩
 refine WC.skip<|have f9:=Os cj a1;⟨_,dc,z,a7,a8,Pu,a,(Mo [23] a1),f9⟩
 rintro _ bu ⟨h,ba,a0,bv,bw,rfl,a,bz,ga⟩
 rw [JM] at a
 refine AL<|Vm<|Vx (Fd EY Z)<|have gb:=Bs a9 bz;Vx (Ld Ey Z (Bc gb Z))<|Vm<|Bi a fun a2 gc a=>have gd:=Ss Ab cl bz; ?_
 obtain ⟨ge,gf,jj,gg,gh,gi,gj,gk,cm⟩:=A8 (κ:=Ab) gd gc
 replace cm:Ax ba bu ge (gf+p.toNat*3) gg:=cm
 obtain rfl:=Ez gk
 refine Vx (Ix D9 gh Z gi gj)<|Vx (Fz Lh Z)<|Vx (Ld CG Z (Ax.cell0 cm Z))<|Ef<|Ch (cs:=[Sb a2.name]) ba 25 [[Sb a2.name]] IR Pz Z Z (.cons Z Z Z .nil) Z fun gl gm gn go cn=>have gp:Own DV 9 gl gm 25 (.slice (some ⟨gn,0,none⟩) 1 1) ([a2.name]:List Bts):=Own.lit (css:=[[Sb a2.name]]) go Z Z Z (Aa Z BA) (A4 Z D3) Z;have gq:=Os (Os ck bz) cn;Bi a fun jk dj a=>Ef<|Bu (κ:=DV) Z Z gq dcd Vc (CC gp) (Et dj) (E6 dj) fun jl gr jm dk dl=>?_
 obtain ⟨dm,dn,rfl⟩:=Own.len dk
 refine Va (Sl dm ((o++([a2.name]:List Bts))) dn)<|AA<|AL<|Vm<|Vr (I (Wr (p+1)))<|Va (I (Wr (p+1)))<|AA<|have gs:=Os (Os ga cn) dl;⟨aj,Nat.lt_succ_self aj,_,gr,a0,bv,bw,(o++([a2.name]:List Bts)),dm,dn,(Wr (p+1)),Pu,(c8▸a),(T3 (Mo [23,26] ap) bz cn dl),gs,dk⟩
 refine Ba<|Sr<|Vx (Fd ME Z)<|Vx (Lx A9 Z Z (Bk.part a9 3 [I c.body.op,Sb c.body.name,Sb c.body.tail,I c.body.type_,Cx c.body.num,Sl cf c.body.args cg,I c.body.at_] Z))<|Vm ?_
 obtain ⟨gt,bb,gu⟩:=Own.freeze (S:=[26]) ck dcd dcd
 refine have gv:=K4 AH e4 ag aw ap bb;Bi a fun aa gw a=>Ca (Cg [Ag [I c.body.op,Sb c.body.name,Sb c.body.tail,I c.body.type_,Cx c.body.num,Sl cf c.body.args cg,I c.body.at_],Sl ay o az] Z) (Ul f gt ak gw (AW (x:=(AE.mk c.body.op c.body.name c.body.tail c.body.type_ c.body.num c.body.args c.body.at_)) gv) gu) ?_
 rintro _ gx ⟨dp,jn,rfl,b0,dq⟩
 obtain ⟨b1,b2,rfl⟩:=AT dq
 refine Va (Sl b1 aa b2)<|AA<|Sr<|Va (I 0)<|AA<|Af<|Bg (fun al l bc=>∃h aq ab bd be m,l=Env.puts h [(1,Pt ao 0),(3,Sl bd ab be),(4,I e),(8,Sl b1 aa b2),(9,I m)]∧EM f g e ae aa al ab m=some y∧AS [23,27] dp gx aq bc∧Own An 63 aq bc 23 (Sl bd ab be) ab) f ?_ ?_
 refine have gy:=Os (Os cj bb) b0;⟨_,dp,z,a7,a8,0,Pu,a,(AS.refl [23,27] _ _),gy⟩
 rintro al _ bc ⟨h,aq,ab,bd,be,m,rfl,a,bf,co⟩
 rcases al with _|al
 exact A5 a
 refine have a:Fh f g e ae aa (EM f g e ae aa al) ab m=some y:=a; ?_
 obtain ⟨dr,ds⟩:∃s,s=EM f g e ae aa al:=⟨_,rfl⟩
 rw [←ds,Fh] at a
 refine AR<|Sr<|Vm<|Vm<|have dt:=Ss GE dq bf; ?_
 obtain ⟨jo,jp,gz⟩:=AT dt
 refine Vx (v:=I (aa.length:Int)) (Ll QY gz)<|Vr (.bool (decide (m< (aa.length:Int))))<|AA<|Cn a (fun g0 a=>?_) fun g0 a=>?_
 refine WC.skip<|Am (fun l cq=>∃h b3 a3 b4 b5,l=Env.puts h [(1,Pt ao 0),(3,Sl b4 a3 b5),(4,I e),(8,Sl b1 aa b2),(9,I m)]∧F9 m dr a3=some y∧AS [23,27] aq bc b3 cq∧Own An 63 b3 cq 23 (Sl b4 a3 b5) a3) ?_ ?_
 refine Af<|Sr<|Vm<|Vm<|Bi a fun d g1 a=>?_
 obtain ⟨g2,g3,jq,g4,du,dv,dw,g5,b6⟩:=A8 (κ:=GE) dt g1
 replace b6:Ax aq bc g2 (g3+m.toNat*8) g4:=b6
 obtain ⟨g6,g7,rfl,dx⟩:=E1 (UJ g5)
 refine Vx (Ix QY du Z dv dw)<|Vx (Fz Ya Z)<|Vx (Lx A9 Z Z (Ax.part0 b6 [I d.e.op,Sb d.e.name,Sb d.e.tail,I d.e.type_,Cx d.e.num,Sl g6 d.e.args g7,I d.e.at_] Z))<|Ef<|AY aq 27 De Z fun cr js g8 g9 ac=>have ha:=Ss AH dx ac;Eu<|St D1 g9 Z Z Z Z fun hb dy ad=>AA<|Am (fun l b7=>∃h bg u bh bi,l=Env.puts h [(1,Pt ao 0),(3,Sl bh u bi),(4,I e),(8,Sl b1 aa b2),(9,I m),(10,Pt g8 0)]∧GB f g m dr d u=some y∧AS [23] cr hb bg b7∧Own An 63 bg b7 23 (Sl bh u bi) u) ?_ ?_
 refine Sr<|Vm<|Vm<|Vx (Ix QY du Z dv dw)<|Vx (Fd Yb Z)<|have hc:=Es (Es b6 ac) ad;Vx (Ld MF Z (Ax.cell (k:=7) hc Z))<|AA<|Cn a (fun hd a=>?_) fun hd a=>?_
 refine AL<|Vm<|Vx (Fd Mi Z)<|Vx (Ld BC Z (Bc dy Z))<|Vx (v:=Ag [I 31,I d.e.at_]) (Bp FM Mu Z (.cons Z Z Z (.cons Z Z Z .nil)))<|Ef<|Ch (cs:=[I 31,I d.e.at_]) cr 28 [[I 31,I d.e.at_]] NU FM Z Z (.cons Z Z Z .nil) Z fun he hf hg hh dz=>have hi:Own An 63 he hf 28 (.slice (some ⟨hg,0,none⟩) 1 1) ([(AD.mk 31 d.e.at_)]:List AD):=Own.lit (css:=[[I 31,I d.e.at_]]) hh Z Z Z (Aa (Ak (x:=(AD.mk 31 d.e.at_))) BA) (A4 Z D3) Z;have hj:=Os (Os (Os co ac) ad) dz;Bi a fun jt d0 a=>Ef<|Bu (κ:=An) Z Z hj dcd QS (CC hi) (Et d0) (E6 d0) fun ju hk jv d1 hl=>?_
 obtain ⟨d2,d3,rfl⟩:=Own.len d1
 refine Va (Sl d2 ((ab++([(AD.mk 31 d.e.at_)]:List AD))) d3)<|AA<|⟨_,hk,(ab++([(AD.mk 31 d.e.at_)]:List AD)),d2,d3,Pu,a,(Tn (Mo [23] dz) hl),d1⟩
 refine WC.skip<|have hm:=Os (Os co ac) ad;⟨_,cr,ab,bd,be,Pu,a,(AS.refl [23] _ _),hm⟩
 rintro _ b7 ⟨h,bg,u,bh,bi,rfl,a,am,b8⟩
 rw [GB] at a
 refine AR<|Sr<|Vx (Fz C8 Z)<|have b9:=Bs dy am;Vx (Ld Ge Z (Bc b9 Z))<|Vr (.bool (d.e.op != 7))<|AA<|Cn a (fun hn a=>?_) fun hn a=>?_
 refine Ba<|⟨_,bg,u,bh,bi,Pu,a,(T2 (Mo [23,27] ac) ad am),b8⟩
 refine WC.skip<|Sr<|have d4:=Y2 (Y4 (Y4 bo af ag aw ap) bb b0 bf ac) ad am;Vx (Lx Gd Z Z (Bw d4))<|Vx (Fd Di Z)<|Vx (Ld CG Z (Bc b9 Z))<|have d5:=K2 AI (K4 AI (K4 AI bp af ag aw ap) bb b0 bf ac) ad am;Bi a fun ca ho a=>Ca (Cg [Ag [Sl bk g.funcs bl],Sb d.e.name] Z) (PQ f bg b7 ho (BQ (x:=g) d5)) ?_
 rintro _ jw ⟨bj,rfl,w⟩
 refine Va (I ca)<|AA<|Sr<|Vm<|Vr (.bool (decide (ca<0)))<|AA<|Cn a (fun hp a=>?_) fun hp a=>?_
 refine AL<|Vm<|Vx (Fd Mi Z)<|have hq:=Bs b9 w;Vx (Ld BC Z (Bc hq Z))<|Vx (v:=Ag [I 32,I d.e.at_]) (Bp FM Mu Z (.cons Z Z Z (.cons Z Z Z .nil)))<|Ef<|Ch (cs:=[I 32,I d.e.at_]) bj 29 [[I 32,I d.e.at_]] NU FM Z Z (.cons Z Z Z .nil) Z fun hr hs ht hu d6=>have hw:Own An 63 hr hs 29 (.slice (some ⟨ht,0,none⟩) 1 1) ([(AD.mk 32 d.e.at_)]:List AD):=Own.lit (css:=[[I 32,I d.e.at_]]) hu Z Z Z (Aa (Ak (x:=(AD.mk 32 d.e.at_))) BA) (A4 Z D3) Z;have hx:=Os (Os b8 w) d6;Bi a fun jx d7 a=>Ef<|Bu (κ:=An) Z Z hx dcd QS (CC hw) (Et d7) (E6 d7) fun jy hy jz d8 hz=>?_
 obtain ⟨d9,ea,rfl⟩:=Own.len d8
 refine Va (Sl d9 ((u++([(AD.mk 32 d.e.at_)]:List AD))) ea)<|AA<|⟨_,hy,(u++([(AD.mk 32 d.e.at_)]:List AD)),d9,ea,Pu,a,(Tn (T4 (Mo [23,27] ac) ad am w d6) hz),d8⟩
 refine AR<|BW Cv (qs 0 11 .nil) [] [] bj (by kernel_rfl) fun h0 an=>Qx q Z (fun _ _=>Fz EX Z)<|have h1:=Y2 d4 w an;Qx q Z (fun _ ⟨_,n⟩=>Ld G8 Z (Bc (Bs h1 n) Z))<|Qx q Z (v:=I ca) (fun _ _=>Mv Z)<|Bi a fun eb h2 a=>have h3:=K2 AI d5 w an; ?_
 obtain ⟨h4,h5,j0,h6,h7,h8,h9,ia,ct⟩:=A8 (κ:=AI) h3 h2
 replace ct:Ax bj h0 h4 (h5+ca.toNat*11) h6:=ct
 obtain ⟨j1,j2,rfl,ec,ib⟩:=Cl ia
 obtain ⟨j3,j4,rfl⟩:=AT ec
 obtain ⟨j5,j6,rfl⟩:=AT ib
 refine Qx q Z (fun _ _=>Ix GI h7 Z h8 h9)<|Qx q Z (fun _ _=>Fd EY Z)<|Qx q Z (fun _ ⟨_,n⟩=>Ld Ey Z (Ax.cell (k:=1) (Es ct n) Z)) ?_
 obtain ⟨j7,j8,ic⟩:=AT ec
 refine Qx q Z (v:=I (eb.params.length:Int)) (fun _ _=>Ll D9 ic)<|Qx q Z (fun _ _=>Fd BS Z)<|have ed:=Y2 b9 w an;Qx q Z (fun _ ⟨_,n⟩=>Ld Cf Z (Bc (Bs ed n) Z))<|have id:=K4 AH ha ad am w an; ?_
 obtain ⟨j9,ka,ie⟩:=AT id
 refine Qx q Z (v:=I (d.e.args.length:Int)) (fun _ _=>Ll CH ie)<|Qx q Z (v:=.bool ((eb.params.length:Int) != (d.e.args.length:Int))) (fun _ _=>Z)<|B9<|Cn a (fun ig a=>?_) fun ig a=>?_
 refine AL<|Vm<|Vx (Fd Mi Z)<|Vx (Ld BC Z (Bc ed Z))<|Vx (v:=Ag [I 33,I d.e.at_]) (Bp FM Mu Z (.cons Z Z Z (.cons Z Z Z .nil)))<|Ef<|Ch (cs:=[I 33,I d.e.at_]) bj 30 [[I 33,I d.e.at_]] NU FM Z Z (.cons Z Z Z .nil) Z fun ih ii ij ik ee=>have il:Own An 63 ih ii 30 (.slice (some ⟨ij,0,none⟩) 1 1) ([(AD.mk 33 d.e.at_)]:List AD):=Own.lit (css:=[[I 33,I d.e.at_]]) ik Z Z Z (Aa (Ak (x:=(AD.mk 33 d.e.at_))) BA) (A4 Z D3) Z;have im:=Os (Os (Os b8 w) an) ee;Bi a fun kb ef a=>Ef<|Bu (κ:=An) Z Z im dcd QS (CC il) (Et ef) (E6 ef) fun kc io kd eg ip=>?_
 obtain ⟨eh,ei,rfl⟩:=Own.len eg
 refine Va (Sl eh ((u++([(AD.mk 33 d.e.at_)]:List AD))) ei)<|AA<|⟨_,io,(u++([(AD.mk 33 d.e.at_)]:List AD)),eh,ei,Pu,a,(T2 (T4 (Mo [23,27] ac) ad am w an) ee ip),eg⟩
 refine WC.skip<|have iq:=Os (Os b8 w) an;⟨_,bj,u,bh,bi,Pu,a,(T4 (Mo [23,27] ac) ad am w an),iq⟩
 rintro _ cq ⟨h,b3,a3,b4,b5,rfl,a,ir,it⟩
 rw [F9] at a
 refine AL<|Vm<|Vr (I (Wr (m+1)))<|Va (I (Wr (m+1)))<|AA<|⟨al,Nat.lt_succ_self al,_,b3,a3,b4,b5,(Wr (m+1)),Pu,(ds▸a),(Tn (Mo [23,27] bf) ir),it⟩
 refine Ba<|AL<|Vm<|Vr (I (Wr (e+1)))<|Va (I (Wr (e+1)))<|AA<|⟨ai,Nat.lt_succ_self ai,_,aq,ab,bd,be,(Wr (e+1)),Pu,(cx▸a),(T3 (T4 (Mo [21,23,26,27] bn) af ag aw ap) bb b0 bf),co⟩
 refine Ba<|Sr<|Vm<|Va (Sl ar r au)<|AA<|AQ ?_
 obtain ⟨iu,iv,iw⟩:=Own.freeze (S:=[23]) cc dcd dcd
 obtain rfl:=AK a
 refine O1 B em Z (.tmp Z)<|⟨iu,Sl ar r au,Z,Ho (T2 (Mo [21,23,26,27] cw) bn iv) ek,iw⟩
theorem SF(c:Nat):Hf.Spec (Hf c):=lk0 (RH c)
def H2.At(c:Col)(a:World)(f:AM→Option AD):Prop:=
 ∀{d e g},f d=some g→CK.rep c.F a e d→
  Calls PG 40 #[Ag e] a fun n h=>∃l m,n=.returned (Ag m)∧AS [] c a l h∧An.rep l.F h m g
def H2.Spec(f:AM→Option AD):Prop:=
 ∀a c,H2.At a c f
theorem SG(ai:Nat)(aj:Col)(a7:World)(a8:∀b,aj b<10):H2.At aj a7 (H2 ai):=by
 intro ak ck aa a a9
 rw [H2] at a
 obtain ⟨ay,az,rfl,ax⟩:=E1 (BV a9)
 refine Ay Tryz.func40 Z Tryz.ntmps40 Z fun B ba c=>Sr<|Ef<|A0 aj 20 Z Z fun bb cm cn bc a0=>Ef<|AY bb 21 FM Z fun bd be al bf am=>AA<|Sr<|have bg:=Bs bc am;Vx (Lx Gd Z Z (Bw bg))<|have bh:=K2 AI ax a0 am;Bi a fun h bi a=>Ca (Cg [Ag [Sl ay ak.funcs az]] Z) (SF ai bd be bi (BQ (x:=ak) bh)) ?_
 rintro _ co ⟨bj,s26,rfl,a1,a2⟩
 obtain ⟨p,q,rfl⟩:=AT a2
 refine Va (Sl p h q)<|AA<|Sr<|Ef<|AY bj 22 FM Z fun a3 bk r bl an=>AA<|AR<|Sr<|Va (I 0)<|AA<|Af<|Bg (fun n u w=>∃o m f l g,u=Env.puts o [(2,Pt al 0),(3,Sl p h q),(4,Pt r 0),(5,I f)]∧H1 h n f l g=some aa∧AS [22] a3 bk m w∧Bk m w 22 r [I l,I g] 63) ai ?_ ?_
 exact ⟨_,a3,0,0,0,Pu,a,(AS.refl [22] _ _),bl⟩
 rintro n _ w ⟨o,m,f,l,g,rfl,a,ab,ac⟩
 rcases n with _|n
 exact A5 a
 refine have a:IK h (H1 h n) f l g=some aa:=a; ?_
 obtain ⟨a4,a5⟩:∃s,s=H1 h n:=⟨_,rfl⟩
 rw [←a5,IK] at a
 refine AR<|Sr<|Vm<|Vm<|have ao:=K2 An a2 an ab; ?_
 obtain ⟨cq,cr,bm⟩:=AT ao
 refine Vx (v:=I (h.length:Int)) (Ll NU bm)<|Vr (.bool (decide (f< (h.length:Int))))<|AA<|Cn a (fun bn a=>?_) fun bn a=>?_
 refine WC.skip<|Am (fun u ap=>∃o ad ae af,u=Env.puts o [(2,Pt al 0),(3,Sl p h q),(4,Pt r 0),(5,I f)]∧Kz f a4 ae af=some aa∧AS [22] m w ad ap∧Bk ad ap 22 r [I ae,I af] 63) ?_ ?_
 refine Af<|Am (fun u aq=>∃o y ar,u=Env.puts o [(2,Pt al 0),(3,Sl p h q),(4,Pt r 0),(5,I f),(26,.bool ar)]∧K0 h f l g a4 ar=some aa∧AS [] m w y aq) ?_ ?_
 refine BW Cv (qs 0 13 .nil) [] [] m (by kernel_rfl) fun bo ag=>Qx c Z (fun _ _=>Fz ND Z)<|have a6:=Bs ac ag;Qx c Z (fun _ ⟨_,e⟩=>Ld NE Z (Bc (Bs a6 e) Z))<|Qx c Z (v:=.bool (l==0)) (fun _ _=>Z)<|Qx c Z (v:=.bool (l==0)) (fun _ _=>Mv Z)<|Bo a (fun d a=>?_) fun d a=>?_
 refine Qp c Z d<|Qp c Z d<|Qp c Z d<|Qp c Z d<|Qp c Z d<|Qp c Z d<|Qp c Z d<|Qp c Z d<|Qx c Z (v:=.bool true) (fun _ _=>(Pk d))<|B9<|⟨_,m,true,Pu,a,(Mo [] ag)⟩
 refine Qg c Z d (v:=Sl p h q) (fun _ _=>Mv Z)<|Qg c Z d (v:=I f) (fun _ _=>Mv Z)<|Bi a fun au bp a=>have bq:=Ss An ao ag; ?_
 obtain ⟨br,bt,ct,bu,bv,bw,bx,bz,av⟩:=A8 (κ:=An) bq bp
 replace av:Ax m bo br (bt+f.toNat*2) bu:=av
 obtain rfl:=As bz
 refine Qg c Z d (fun _ _=>Ix NU bv Z bw bx)<|Qg c Z d (fun _ _=>Fd O3 Z)<|Qg c Z d (fun _ ⟨_,e⟩=>Ld BC Z (Ax.cell (k:=1) (Es av e) Z))<|Qg c Z d (fun _ _=>Fd O3 Z)<|Qg c Z d (fun _ ⟨_,e⟩=>Ld BC Z (Bc (Bs a6 e) Z))<|Qg c Z d (v:=.bool (decide (au.at_<g))) (fun _ _=>Z)<|Qx c Z (v:=.bool (decide (au.at_<g))) (fun _ _=>(Pk d))<|B9<|⟨_,m,(decide (au.at_<g)),Pu,a,(Mo [] ag)⟩
 rintro _ aq ⟨o,y,ar,rfl,a,z⟩
 rw [K0] at a
 refine Cn a (fun b0 a=>?_) fun b0 a=>?_
 refine AL<|Vm<|Vm<|Bi a fun ah b1 a=>have b2:=Ss An ao z; ?_
 obtain ⟨b3,b4,cu,b5,b6,b7,b8,b9,aw⟩:=A8 (κ:=An) b2 b1
 replace aw:Ax y aq b3 (b4+f.toNat*2) b5:=aw
 obtain rfl:=As b9
 refine Vx (Ix NU b6 Z b7 b8)<|Vx (Lx K9 Z Z (Ax.part0 aw [I ah.why,I ah.at_] Z))<|have ca:=Bs ac z;Eu<|St HK ca Z Z Z Z fun cv cb cc=>AA<|⟨_,y,ah.why,ah.at_,Pu,a,(Tn (Mo [22] z) cc),cb⟩
 refine WC.skip<|have cd:=Bs ac z;⟨_,y,l,g,Pu,a,(Mo [22] z),cd⟩
 rintro _ ap ⟨o,ad,ae,af,rfl,a,cf,cg⟩
 rw [Kz] at a
 refine AL<|Vm<|Vr (I (Wr (f+1)))<|Va (I (Wr (f+1)))<|AA<|⟨n,Nat.lt_succ_self n,_,ad,(Wr (f+1)),ae,af,Pu,(a5▸a),(Tn (Mo [22] ab) cf),cg⟩
 refine Ba<|Sr<|Vx (Lx K9 Z Z (Bw ac))<|have ch:=Y3 bf a1 an ab;Eu<|St HK ch Z Z Z Z fun cw ci cj=>AA<|AQ ?_
 obtain rfl:=AK a
 refine O1 B ba Z (.agg K9 Z Z (Bw ci))<|⟨m,[I l,I g],Z,Ho (Tn (T4 (Mo [21,22] a0) am a1 an ab) cj) a8,(Ak (x:=(AD.mk l g)))⟩
theorem Tl(c:Nat):H2.Spec (H2 c):=lk0 (SG c)
def Gz.At(d:Col)(a:World)(f:AM→Bts→Option (AO×Bool)):Prop:=
 ∀{e g h c},f e h=some c→CK.rep d.F a g e→
  Calls PG 16 #[Ag g,Sb h] a fun o l=>∃m n,o=.returned (.tuple #[Ag n,.bool c.2])∧AS [] d a m l∧AI.rep m.F l n c.1
def Gz.Spec(f:AM→Bts→Option (AO×Bool)):Prop:=
 ∀a c,Gz.At a c f
theorem Tm(ab:Nat)(o:Col)(aq:World)(ac:∀b,o b<10):Gz.At o aq (Gz ab):=by
 intro g bf h ad c ar
 rw [Gz] at c
 obtain ⟨bh,bi,rfl,ae⟩:=E1 (BV ar)
 refine Ay Tryz.func16 Z Tryz.ntmps16 Z fun B af bj=>Sr<|Ef<|A0 o 20 Z Z fun au bk av aw p=>Ef<|AY au 21 KS Z fun ag ax ay ah m=>Va (.bool false)<|AA<|AR<|Sr<|Va (I 0)<|AA<|Af<|Bg (fun e az q=>∃ai l d,az=Env.puts ai [(1,Sb h),(2,Pt av 0),(4,Pt ay 0),(6,I d)]∧Jp g h e d=some ad∧AS [] ag ax l q) ab ?_ ?_
 exact ⟨_,ag,0,Pu,c,Rf⟩
 rintro e _ q ⟨ai,l,d,rfl,c,f⟩
 rcases e with _|e
 exact A5 c
 refine have c:K1 g h (Jp g h e) d=some ad:=c; ?_
 obtain ⟨bl,aj⟩:∃s,s=Jp g h e:=⟨_,rfl⟩
 rw [←aj,K1] at c
 refine AR<|Sr<|Vm<|Vx (Fz EX Z)<|have r:=Y2 aw m f;Vx (Ld G8 Z (Bc r Z))<|have ak:=K3 AI ae p m f; ?_
 obtain ⟨bm,bn,a0⟩:=AT ak
 refine Vx (v:=I (g.funcs.length:Int)) (Ll GI a0)<|Vr (.bool (decide (d< (g.funcs.length:Int))))<|AA<|Cn c (fun a1 c=>?_) fun a1 c=>?_
 refine WC.skip<|AR<|Af<|Sr<|Vx (Fz EX Z)<|Vx (Ld G8 Z (Bc r Z))<|Vm<|Bi c fun a a2 c=>?_
 obtain ⟨a3,a4,bo,a5,al,am,an,a6,n⟩:=A8 (κ:=AI) ak a2
 replace n:Ax l q a3 (a4+d.toNat*11) a5:=n
 obtain ⟨s121,bp,rfl,ao,ap⟩:=Cl a6
 obtain ⟨u,w,rfl⟩:=AT ao
 obtain ⟨y,z,rfl⟩:=AT ap
 refine Vx (Ix GI al Z am an)<|Vx (Fz NC Z)<|Vx (Ld CG Z (Ax.cell0 n Z))<|Vm<|Vx (v:=.bool (a.name==h)) (Run.strEq Z Z)<|AA<|Cn c (fun a7 c=>?_) fun a7 c=>?_
 refine Sr<|Vx (Fz EX Z)<|Vx (Ld G8 Z (Bc r Z))<|Vm<|Vx (Ix GI al Z am an)<|Vx (Lx MD Z Z (Ax.part0 n [Sb a.name,Sl u a.params w,I a.type_,I a.body.op,Sb a.body.name,Sb a.body.tail,I a.body.type_,Cx a.body.num,Sl y a.body.args z,I a.body.at_,I a.at_] Z))<|have a8:=Bs ah f;Eu<|St LB a8 Z Z Z Z fun bq a9 aa=>Va (.bool true)<|AA<|AQ ?_
 obtain rfl:=AK c
 refine O2 B af Z (.agg MD Z Z (Bw a9)) (.tmp Z)<|have ba:=Ss Ab ao aa;have bb:=Ss AH ap aa;⟨l,[Sb a.name,Sl u a.params w,I a.type_,I a.body.op,Sb a.body.name,Sb a.body.tail,I a.body.type_,Cx a.body.num,Sl y a.body.args z,I a.body.at_,I a.at_],Z,Ho (T3 (Mo [21] p) m f aa) ac,(Mg (x:=a) ba bb)⟩
 refine WC.skip<|AL<|Vm<|Vr (I (Wr (d+1)))<|Va (I (Wr (d+1)))<|AA<|⟨e,Nat.lt_succ_self e,_,l,(Wr (d+1)),Pu,(aj▸c),(Mo [] f)⟩
 refine Ba<|Sr<|Vx (v:=Ag [Sb ([]:Bts),.slice none 0 0,I 0,I 0,Sb ([]:Bts),Sb ([]:Bts),I 0,Cx (((0,0):Nat×Nat)),.slice none 0 0,I 0,I 0]) (Bp KS ZT Z .nil)<|have bc:=Bs ah f;Eu<|St LB bc Z Z Z Z fun br bd be=>Va (.bool false)<|AA<|AQ ?_
 obtain rfl:=AK c
 refine O2 B af Z (.agg MD Z Z (Bw bd)) (.tmp Z)<|⟨l,[Sb ([]:Bts),.slice none 0 0,I 0,I 0,Sb ([]:Bts),Sb ([]:Bts),I 0,Cx (((0,0):Nat×Nat)),.slice none 0 0,I 0,I 0],Z,Ho (T3 (Mo [21] p) m f be) ac,(Mg (x:=(AO.mk ([]:Bts) [] 0 (AE.mk 0 ([]:Bts) ([]:Bts) 0 ((0,0):Nat×Nat) [] 0) 0)) BK BK)⟩
theorem Lj(c:Nat):Gz.Spec (Gz c):=lk0 (Tm c)
def KC.At(c:Col)(a:World)(f:AM→(List AJ)→AE→Option Int):Prop:=
 ∀{d e g h l m n},f d g l=some n→CK.rep c.F a e d→Slc Ab c.F a h g→AH.rep c.F a m l→
  Calls PG 66 #[Ag e,h,Ag m] a fun o p=>∃q,o=.returned (I n)∧AS [] c a q p
def KC.Spec(f:AM→(List AJ)→AE→Option Int):Prop:=
 ∀a c,KC.At a c f
theorem Um(ae:Nat)(aw:Col)(bn:World)(q:∀b,aw b<10):KC.At aw bn (KC ae):=by
 intro af dc f de c df ag a bo a6 bp
 rw [KC] at a
 obtain ⟨a8,a9,rfl,a7⟩:=E1 (BV bo)
 obtain ⟨aj,ak,rfl⟩:=AT a6
 obtain ⟨di,dj,rfl,ba⟩:=E1 (Ae bp)
 refine Ay Tryz.func66 Z Tryz.ntmps66 Z fun B r aa=>Sr<|Ef<|A0 aw 20 Z Z fun bq dk ax br o=>Ef<|A0 bq 21 Z Z fun u bt an ao n=>Va (I 0)<|AA<|AR<|Sr<|Vx (Fz C8 Z)<|Vx (Ld Ge Z (Bc ao Z))<|AA<|Af<|Am (fun w ay=>∃l y az,w=Env.puts l [(1,Sl aj f ak),(3,Pt ax 0),(5,Pt an 0),(11,I c.op),(12,.bool az)]∧Fj ae af f c az=some ag∧AS [] u bt y ay) ?_ ?_
 refine Sr<|Vr (.bool (c.op==1))<|Va (.bool (c.op==1))<|AA<|Cn a (fun bu a=>?_) fun bu a=>?_
 refine WC.skip<|⟨_,u,(c.op==1),Pu,a,Rf⟩
 refine Sr<|Vr (.bool (c.op==8))<|Va (.bool (c.op==8))<|AA<|Cn a (fun bv a=>?_) fun bv a=>?_
 refine WC.skip<|⟨_,u,(c.op==8),Pu,a,Rf⟩
 refine Sr<|Vr (.bool (c.op==9))<|Va (.bool (c.op==9))<|AA<|Cn a (fun bw a=>?_) fun bw a=>?_
 refine WC.skip<|⟨_,u,(c.op==9),Pu,a,Rf⟩
 refine Sr<|Vr (.bool (c.op==10))<|Va (.bool (c.op==10))<|AA<|Cn a (fun bx a=>?_) fun bx a=>?_
 refine WC.skip<|⟨_,u,(c.op==10),Pu,a,Rf⟩
 refine Sr<|Vr (.bool (c.op==11))<|Va (.bool (c.op==11))<|AA<|Cn a (fun bz a=>?_) fun bz a=>?_
 refine WC.skip<|⟨_,u,(c.op==11),Pu,a,Rf⟩
 refine Sr<|Vr (.bool (c.op==15))<|Va (.bool (c.op==15))<|AA<|Cn a (fun b0 a=>?_) fun b0 a=>?_
 refine WC.skip<|⟨_,u,(c.op==15),Pu,a,Rf⟩
 refine Sr<|Vr (.bool (c.op==16))<|Va (.bool (c.op==16))<|AA<|Cn a (fun b1 a=>?_) fun b1 a=>?_
 refine WC.skip<|⟨_,u,(c.op==16),Pu,a,Rf⟩
 refine AL<|Vr (.bool (c.op==17))<|Va (.bool (c.op==17))<|AA<|⟨_,u,(c.op==17),Pu,a,Rf⟩
 rintro _ ay ⟨l,y,az,rfl,a,g⟩
 rw [Fj] at a
 refine Cn a (fun b2 a=>?_) fun b2 a=>?_
 refine Sr<|Va (I 1)<|AA<|AQ ?_
 obtain rfl:=AK a
 refine O1 B r Z (.tmp Z)<|⟨y,Z,Ho (T2 (Mo [] o) n g) q⟩
 refine Am (fun w a0=>∃l ah a1,w=Env.puts l [(1,Sl aj f ak),(3,Pt ax 0),(5,Pt an 0),(11,I c.op),(21,.bool a1)]∧IZ ae af f c a1=some ag∧AS [] y ay ah a0) ?_ ?_
 refine Sr<|Vr (.bool (c.op==2))<|Va (.bool (c.op==2))<|AA<|Cn a (fun b3 a=>?_) fun b3 a=>?_
 refine WC.skip<|⟨_,y,(c.op==2),Pu,a,Rf⟩
 refine Sr<|Vr (.bool (c.op==3))<|Va (.bool (c.op==3))<|AA<|Cn a (fun b4 a=>?_) fun b4 a=>?_
 refine WC.skip<|⟨_,y,(c.op==3),Pu,a,Rf⟩
 refine Sr<|Vr (.bool (c.op==12))<|Va (.bool (c.op==12))<|AA<|Cn a (fun b5 a=>?_) fun b5 a=>?_
 refine WC.skip<|⟨_,y,(c.op==12),Pu,a,Rf⟩
 refine Sr<|Vr (.bool (c.op==13))<|Va (.bool (c.op==13))<|AA<|Cn a (fun b6 a=>?_) fun b6 a=>?_
 refine WC.skip<|⟨_,y,(c.op==13),Pu,a,Rf⟩
 refine AL<|Vr (.bool (c.op==14))<|Va (.bool (c.op==14))<|AA<|⟨_,y,(c.op==14),Pu,a,Rf⟩
 rintro _ a0 ⟨l,ah,a1,rfl,a,h⟩
 rw [IZ] at a
 refine Cn a (fun b7 a=>?_) fun b7 a=>?_
 refine Sr<|Va (I 2)<|AA<|AQ ?_
 obtain rfl:=AK a
 refine O1 B r Z (.tmp Z)<|⟨ah,Z,Ho (T3 (Mo [] o) n g h) q⟩
 refine Am (fun w ap=>∃l ab a2,w=Env.puts l [(1,Sl aj f ak),(3,Pt ax 0),(5,Pt an 0),(11,I c.op),(27,.bool a2)]∧LK ae af f c a2=some ag∧AS [] ah a0 ab ap) ?_ ?_
 refine Sr<|Vr (.bool (c.op==4))<|Va (.bool (c.op==4))<|AA<|Cn a (fun b8 a=>?_) fun b8 a=>?_
 refine WC.skip<|⟨_,ah,(c.op==4),Pu,a,Rf⟩
 refine AL<|Vr (.bool (c.op==18))<|Va (.bool (c.op==18))<|AA<|⟨_,ah,(c.op==18),Pu,a,Rf⟩
 rintro _ ap ⟨l,ab,a2,rfl,a,m⟩
 rw [LK] at a
 refine Cn a (fun b9 a=>?_) fun b9 a=>?_
 refine Sr<|Va (I 3)<|AA<|AQ ?_
 obtain rfl:=AK a
 refine O1 B r Z (.tmp Z)<|⟨ab,Z,Ho (T4 (Mo [] o) n g h m) q⟩
 refine Sr<|Vr (.bool (c.op==5))<|Va (.bool (c.op==5))<|AA<|Cn a (fun ca a=>?_) fun ca a=>?_
 refine Sr<|Vx (Fd Lg Z)<|have cb:=Y3 ao g h m;Vx (Ld Ed Z (Bc cb Z))<|Va (I c.type_)<|AA<|AQ ?_
 obtain rfl:=AK a
 refine O1 B r Z (.tmp Z)<|⟨ab,Z,Ho (T4 (Mo [] o) n g h m) q⟩
 refine Sr<|Vr (.bool (c.op==6))<|Va (.bool (c.op==6))<|AA<|Cn a (fun cc a=>?_) fun cc a=>?_
 refine AR<|Sr<|Vm<|have bb:=Ss Ab (K4 Ab a6 o n g h) m; ?_
 obtain ⟨dl,dm,cd⟩:=AT bb
 refine Vx (v:=I (f.length:Int)) (Ll D9 cd)<|Vr (I (Wr ((f.length:Int) - 1)))<|Va (I (Wr ((f.length:Int) - 1)))<|AA<|Af<|Bg (fun ac w bc=>∃l ad p,w=Env.puts l [(1,Sl aj f ak),(5,Pt an 0),(7,I p)]∧KP f c ac p=some ag∧AS [] ab ap ad bc) ae ?_ ?_
 exact ⟨_,ab,(Wr ((f.length:Int) - 1)),Pu,a,Rf⟩
 rintro ac _ bc ⟨l,ad,p,rfl,a,al⟩
 rcases ac with _|ac
 exact A5 a
 refine have a:Lc f c (KP f c ac) p=some ag:=a; ?_
 obtain ⟨dn,bd⟩:∃s,s=KP f c ac:=⟨_,rfl⟩
 rw [←bd,Lc] at a
 refine AR<|Sr<|Vm<|Vr (.bool (decide (p≥0)))<|AA<|Cn a (fun cf a=>?_) fun cf a=>?_
 refine WC.skip<|AR<|Af<|AR<|BW Cv (qs 0 8 .nil) [] [] ad (by kernel_rfl) fun cg aq=>Qx aa Z (v:=Sl aj f ak) (fun _ _=>Mv Z)<|Qx aa Z (v:=I p) (fun _ _=>Mv Z)<|Bi a fun be ch a=>have ci:=K2 Ab bb al aq; ?_
 obtain ⟨cj,ck,dp,cl,bf,bg,bh,cm,ar⟩:=A8 (κ:=Ab) ci ch
 replace ar:Ax ad cg cj (ck+p.toNat*3) cl:=ar
 obtain rfl:=Ez cm
 refine Qx aa Z (fun _ _=>Ix D9 bf Z bg bh)<|Qx aa Z (fun _ _=>Fz Lh Z)<|Qx aa Z (fun _ ⟨_,z⟩=>Ld CG Z (Ax.cell0 (Es ar z) Z))<|Qx aa Z (fun _ _=>Fd Di Z)<|have cn:=Bs (Y4 ao g h m al) aq;Qx aa Z (fun _ ⟨_,z⟩=>Ld CG Z (Bc (Bs cn z) Z))<|Qx aa Z (v:=.bool (be.name==c.name)) (fun _ _=>Run.strEq Z Z)<|B9<|Cn a (fun co a=>?_) fun co a=>?_
 refine Sr<|Vm<|Vm<|Vx (Ix D9 bf Z bg bh)<|Vx (Fd Nw Z)<|Vx (Ld Ed Z (Ax.cell (k:=1) ar Z))<|Va (I be.type_)<|AA<|AQ ?_
 obtain rfl:=AK a
 refine O1 B r Z (.tmp Z)<|⟨ad,Z,Ho (T2 (T4 (Mo [] o) n g h m) al aq) q⟩
 refine WC.skip<|AL<|Vm<|Vr (I (Wr (p - 1)))<|Va (I (Wr (p - 1)))<|AA<|⟨ac,Nat.lt_succ_self ac,_,ad,(Wr (p - 1)),Pu,(bd▸a),(Tn (Mo [] al) aq)⟩
 refine Ba<|Sr<|Va (I (-1:Int))<|AA<|AQ ?_
 obtain rfl:=AK a
 refine O1 B r Z (.tmp Z)<|⟨ad,Z,Ho (Tn (T4 (Mo [] o) n g h m) al) q⟩
 refine Sr<|Vr (.bool (c.op==7))<|Va (.bool (c.op==7))<|AA<|Cn a (fun cq a=>?_) fun cq a=>?_
 refine Sr<|have cr:=Y4 br n g h m;Vx (Lx Gd Z Z (Bw cr))<|Vx (Fd Di Z)<|have bi:=Y3 ao g h m;Vx (Ld CG Z (Bc bi Z))<|have ct:=Ss AI (K4 AI a7 o n g h) m;Bi a fun d cu a=>Ca (Cg [Ag [Sl a8 af.funcs a9],Sb c.name] Z) (Lj ae ab ap cu (BQ (x:=af) ct)) ?_
 rintro _ dq ⟨cv,dr,rfl,au,cw⟩
 obtain ⟨ds,dt,rfl,bj,bk⟩:=Cl cw
 obtain ⟨cx,cy,rfl⟩:=AT bj
 obtain ⟨cz,c0,rfl⟩:=AT bk
 refine Vm<|Vr (Ag [Sb d.1.name,Sl cx d.1.params cy,I d.1.type_,I d.1.body.op,Sb d.1.body.name,Sb d.1.body.tail,I d.1.body.type_,Cx d.1.body.num,Sl cz d.1.body.args c0,I d.1.body.at_,I d.1.at_])<|Vr (.bool d.2)<|Ef<|AY cv 22 KS Z fun a3 du c1 c2 ai=>have c3:=Ss Ab bj ai;have dv:=Ss AH bk ai;Eu<|St LB c2 Z Z Z Z fun c4 bl am=>Va (.bool d.2)<|AA<|AR<|Am (fun w bm=>∃l av a4,w=Env.puts l [(8,Pt c1 0),(75,.bool a4)]∧MA d a4=some ag∧AS [] a3 c4 av bm) ?_ ?_
 refine AL<|Vm<|Vr (.bool (!d.2))<|Vm<|Bo a (fun e a=>?_) fun e a=>?_
 refine Pg e<|Pg e<|Pg e<|Pg e<|Pg e<|Pg e<|Pg e<|Vp e<|AA<|⟨_,a3,true,Pu,a,Rf⟩
 refine Gx e (Fd EY Z)<|Gx e (Ld Ey Z (Bc bl Z))<|have c5:=Ss Ab c3 am; ?_
 obtain ⟨dw,dx,c6⟩:=AT c5
 refine Gx e (v:=I (d.1.params.length:Int)) (Ll D9 c6)<|Gx e (Fd BS Z)<|have c7:=Y3 bi au ai am;Gx e (Ld Cf Z (Bc c7 Z))<|have c8:=K4 AH (K4 AH ba o n g h) m au ai am; ?_
 obtain ⟨dy,dz,c9⟩:=AT c8
 refine Gx e (v:=I (c.args.length:Int)) (Ll CH c9)<|Gr e (.bool ((d.1.params.length:Int) != (c.args.length:Int)))<|Vp e<|AA<|⟨_,a3,((d.1.params.length:Int) != (c.args.length:Int)),Pu,a,Rf⟩
 rintro _ bm ⟨l,av,a4,rfl,a,a5⟩
 rw [MA] at a
 refine Cn a (fun da a=>?_) fun da a=>?_
 refine Sr<|Va (I (-1:Int))<|AA<|AQ ?_
 obtain rfl:=AK a
 refine O1 B r Z (.tmp Z)<|⟨av,Z,Ho (T4 (T4 (Mo [22] o) n g h m) au ai am a5) q⟩
 refine WC.skip<|Sr<|Vx (Fd O0 Z)<|have db:=Bs bl a5;Vx (Ld Ed Z (Bc db Z))<|Va (I d.1.type_)<|AA<|AQ ?_
 obtain rfl:=AK a
 refine O1 B r Z (.tmp Z)<|⟨av,Z,Ho (T4 (T4 (Mo [22] o) n g h m) au ai am a5) q⟩
 refine WC.skip<|Sr<|Va (I 0)<|AA<|AQ ?_
 obtain rfl:=AK a
 refine O1 B r Z (.tmp Z)<|⟨ab,Z,Ho (T4 (Mo [] o) n g h m) q⟩
theorem V2(c:Nat):KC.Spec (KC c):=lk0 (Um c)
def Ha.At(c:Col)(a:World)(f:(List AJ)→Bts→Int→Option (List AJ)):Prop:=
 ∀{d v0 e g h},f d e g=some h→Slc Ab c.F a v0 d→
  Calls PG 96 #[v0,Sb e,I g] a fun o l=>∃m n,o=.returned n∧AS [] c a m l∧Slc Ab m.F l n h
def Ha.Spec(f:(List AJ)→Bts→Int→Option (List AJ)):Prop:=
 ∀a c,Ha.At a c f
theorem To(e:Col)(g:World)(s:∀b,e b<10):Ha.At e g Ha:=by
 intro f v0 a c al d h
 rw [Ha] at d
 obtain ⟨am,an,rfl⟩:=AT h
 refine Ay Tryz.func96 Z Tryz.ntmps96 Z fun B u ao=>Sr<|Va (.slice none 0 0)<|AA<|Sr<|Va (.slice none 0 0)<|AA<|Sr<|Vm<|Vm<|Bi d fun ap l d=>Ef<|Bu (κ:=Ab) Z Z (Own.nil:Own Ab 87 e g 20 _ _) dcd P7 (IU h) (Et l) (E6 l) fun aq w ar m y=>?_
 obtain ⟨z,aa,rfl⟩:=Own.len m
 refine Va (Sl z ((([]:List AJ)++f)) aa)<|AA<|Sr<|Vm<|Vm<|Vm<|Vx (v:=Ag [Sb a,I c,I 0]) (Bp MG Q3 Z (.cons Z Z Z (.cons Z Z Z .nil)))<|Ef<|Ch (cs:=[Sb a,I c,I 0]) w 21 [[Sb a,I c,I 0]] D9 MG Z Z (.cons Z Z Z .nil) Z fun ab ac ad ae n=>have af:Own Ab 87 ab ac 21 (.slice (some ⟨ad,0,none⟩) 1 1) ([(AJ.mk a c 0)]:List AJ):=Own.lit (css:=[[Sb a,I c,I 0]]) ae Z Z Z (Aa (LG (x:=(AJ.mk a c 0))) BA) (A4 Z D3) Z;have ag:=Os m n;Bi d fun au o d=>Ef<|Bu (κ:=Ab) Z Z ag dcd P7 (CC af) (Et o) (E6 o) fun av aw ax p ah=>?_
 obtain ⟨q,r,rfl⟩:=Own.len p
 refine Va (Sl q (((([]:List AJ)++f)++([(AJ.mk a c 0)]:List AJ))) r)<|AA<|AQ ?_
 obtain ⟨ai,aj,ak⟩:=Own.freeze (S:=[20]) p dcd dcd
 obtain rfl:=AK d
 refine O1 B u Z (.tmp Z)<|⟨ai,Sl q (((([]:List AJ)++f)++([(AJ.mk a c 0)]:List AJ))) r,Z,Ho (T3 (Mo [20] y) n ah aj) s,ak⟩
theorem No:Ha.Spec Ha:=lk0 (To)
def G0.At(c:Col)(a:World)(f:(List AJ)→AE→Int→Option (List AJ)):Prop:=
 ∀{d v0 e g h l},f d e h=some l→Slc Ab c.F a v0 d→AH.rep c.F a g e→
  Calls PG 67 #[v0,Ag g,I h] a fun p m=>∃n o,p=.returned o∧AS [] c a n m∧Slc Ab n.F m o l
def G0.Spec(f:(List AJ)→AE→Int→Option (List AJ)):Prop:=
 ∀a c,G0.At a c f
theorem RI(z:Col)(az:World)(aa:∀b,z b<10):G0.At z az G0:=by
 intro e v0 c bk f ag a s a0
 rw [G0] at a
 obtain ⟨l,m,rfl⟩:=AT s
 obtain ⟨bm,bn,rfl,a1⟩:=E1 (Ae a0)
 refine Ay Tryz.func67 Z Tryz.ntmps67 Z fun B ab bo=>Sr<|Ef<|A0 z 20 Z Z fun u a2 ah p n=>Va (.slice none 0 0)<|AA<|AR<|Af<|Am (fun ac w=>∃q o ad,ac=Env.puts q [(0,Sl l e m),(2,I f),(4,Pt ah 0),(8,.bool ad)]∧JO e c f ad=some ag∧AS [] u a2 o w) ?_ ?_
 refine Sr<|Vx (Fz C8 Z)<|Vx (Ld Ge Z (Bc p Z))<|Vr (.bool (c.op==21))<|Va (.bool (c.op==21))<|AA<|Cn a (fun a3 a=>?_) fun a3 a=>?_
 refine WC.skip<|⟨_,u,(c.op==21),Pu,a,Rf⟩
 refine AL<|Vx (Fz C8 Z)<|Vx (Ld Ge Z (Bc p Z))<|Vr (.bool (c.op==22))<|Vm<|Bo a (fun g a=>?_) fun g a=>?_
 refine Gm g<|Gr g (.bool (f==1))<|Vp g<|Va (.bool (f==1))<|AA<|⟨_,u,(f==1),Pu,a,Rf⟩
 refine Pg g<|Pg g<|Vp g<|Va (.bool false)<|AA<|⟨_,u,false,Pu,a,Rf⟩
 rintro _ w ⟨q,o,ad,rfl,a,d⟩
 rw [JO] at a
 refine Cn a (fun a4 a=>?_) fun a4 a=>?_
 refine Sr<|Vm<|Vx (Fd Di Z)<|have ai:=Bs p d;Vx (Ld CG Z (Bc ai Z))<|Vx (Fd Lg Z)<|Vx (Ld Ed Z (Bc ai Z))<|have a5:=K2 Ab s n d;Bi a fun aj a6 a=>Ca (Cg [Sl l e m,Sb c.name,I c.type_] Z) (No o w a6 a5) ?_
 rintro _ bp ⟨a7,bq,rfl,a8,ak⟩
 obtain ⟨al,am,rfl⟩:=AT ak
 refine Va (Sl al aj am)<|AA<|AQ ?_
 obtain rfl:=AK a
 refine O1 B ab Z (.tmp Z)<|⟨a7,Sl al aj am,Z,Ho (T2 (Mo [] n) d a8) aa,ak⟩
 refine Am (fun ac ae=>∃q y af,ac=Env.puts q [(0,Sl l e m),(4,Pt ah 0),(25,.bool af)]∧KW e c af=some ag∧AS [] o w y ae) ?_ ?_
 refine AL<|Vx (Fz C8 Z)<|have a9:=Bs p d;Vx (Ld Ge Z (Bc a9 Z))<|Vr (.bool (c.op==20))<|Vm<|Bo a (fun h a=>?_) fun h a=>?_
 refine Gm h<|Gr h (.bool (f==2))<|Vp h<|Va (.bool (f==2))<|AA<|⟨_,o,(f==2),Pu,a,Rf⟩
 refine Pg h<|Pg h<|Vp h<|Va (.bool false)<|AA<|⟨_,o,false,Pu,a,Rf⟩
 rintro _ ae ⟨q,y,af,rfl,a,r⟩
 rw [KW] at a
 refine Cn a (fun ba a=>?_) fun ba a=>?_
 refine Sr<|Vm<|Vx (Fd Di Z)<|have an:=Y2 p d r;Vx (Ld CG Z (Bc an Z))<|have bb:=K3 Ab s n d r;Bi a fun ao bc a=>Ca (Cg [Sl l e m,Sb c.name,I 1] Z) (No y ae bc bb) ?_
 rintro _ bd ⟨be,br,rfl,ap,aq⟩
 obtain ⟨ar,au,rfl⟩:=AT aq
 refine Va (Sl ar ao au)<|AA<|Sr<|Vm<|Vx (Fd NB Z)<|have bf:=Bs an ap;Vx (Ld CG Z (Bc bf Z))<|Bi a fun av bg a=>Ca (Cg [Sl ar ao au,Sb c.tail,I 3] Z) (No be bd bg aq) ?_
 rintro _ bt ⟨bh,bu,rfl,bi,aw⟩
 obtain ⟨ax,ay,rfl⟩:=AT aw
 refine Va (Sl ax av ay)<|AA<|AQ ?_
 obtain rfl:=AK a
 refine O1 B ab Z (.tmp Z)<|⟨bh,Sl ax av ay,Z,Ho (T4 (Mo [] n) d r ap bi) aa,aw⟩
 refine WC.skip<|Sr<|Vm<|Va (Sl l e m)<|AA<|AQ ?_
 obtain rfl:=AK a
 refine O1 B ab Z (.tmp Z)<|have bj:=K3 Ab s n d r;⟨y,Sl l e m,Z,Ho (T2 (Mo [] n) d r) aa,bj⟩
theorem SH:G0.Spec G0:=lk0 (RI)
def G3.At(c:Col)(a:World)(f:AM→AE→Int→Int→Option Int):Prop:=
 ∀{d e g h l m n},f d g l m=some n→CK.rep c.F a e d→AH.rep c.F a h g→
  Calls PG 68 #[Ag e,Ag h,I l,I m] a fun o p=>∃q,o=.returned (I n)∧AS [] c a q p
def G3.Spec(f:AM→AE→Int→Int→Option Int):Prop:=
 ∀a c,G3.At a c f
theorem RJ(al:Nat)(aa:Col)(ay:World)(m:∀b,aa b<10):G3.At aa ay (G3 al):=by
 intro ab ca c cb h p ac a az a0
 rw [G3] at a
 obtain ⟨an,ao,rfl,am⟩:=E1 (BV az)
 obtain ⟨cf,cg,rfl,a1⟩:=E1 (Ae a0)
 refine Ay Tryz.func68 Z Tryz.ntmps68 Z fun B n ch=>Sr<|Ef<|A0 aa 20 Z Z fun a2 ci cj a3 l=>Ef<|A0 a2 21 Z Z fun f ad a4 ae g=>Va (I 0)<|AA<|Am (fun q ap=>∃o af,q=Env.puts o []∧JP=some ac∧AS [22] f ad af ap) ?_ ?_
 refine Sr<|Vx (Fz C8 Z)<|Vx (Ld Ge Z (Bc ae Z))<|AA<|Af<|Sr<|Vr (.bool (c.op==14))<|Va (.bool (c.op==14))<|AA<|Cn a (fun a5 a=>?_) fun a5 a=>?_
 refine Sr<|Va (I 2)<|AA<|AQ ?_
 obtain rfl:=AK a
 refine O1 B n Z (.tmp Z)<|⟨f,Z,Ho (Tn (Mo [] l) g) m⟩
 refine Sr<|Vr (.bool (c.op==18))<|Va (.bool (c.op==18))<|AA<|Cn a (fun a6 a=>?_) fun a6 a=>?_
 refine Sr<|Vm<|Vr (.bool (h==1))<|AA<|Cn a (fun a7 a=>?_) fun a7 a=>?_
 refine Sr<|Va (I 3)<|AA<|AQ ?_
 obtain rfl:=AK a
 refine O1 B n Z (.tmp Z)<|⟨f,Z,Ho (Tn (Mo [] l) g) m⟩
 refine WC.skip<|⟨_,f,Pu,a,(AS.refl [22] _ _)⟩
 refine Sr<|Vr (.bool (c.op==7))<|Va (.bool (c.op==7))<|AA<|Cn a (fun a8 a=>?_) fun a8 a=>?_
 refine Sr<|have a9:=Bs a3 g;Vx (Lx Gd Z Z (Bw a9))<|Vx (Fd Di Z)<|Vx (Ld CG Z (Bc ae Z))<|have ba:=K2 AI am l g;Bi a fun d bb a=>Ca (Cg [Ag [Sl an ab.funcs ao],Sb c.name] Z) (Lj al f ad bb (BQ (x:=ab) ba)) ?_
 rintro _ ck ⟨bc,cl,rfl,aq,bd⟩
 obtain ⟨cm,cn,rfl,ar,au⟩:=Cl bd
 obtain ⟨be,bf,rfl⟩:=AT ar
 obtain ⟨bg,bh,rfl⟩:=AT au
 refine Vm<|Vr (Ag [Sb d.1.name,Sl be d.1.params bf,I d.1.type_,I d.1.body.op,Sb d.1.body.name,Sb d.1.body.tail,I d.1.body.type_,Cx d.1.body.num,Sl bg d.1.body.args bh,I d.1.body.at_,I d.1.at_])<|Vr (.bool d.2)<|Ef<|AY bc 22 KS Z fun ag co bi bj u=>have av:=Ss Ab ar u;have cq:=Ss AH au u;Eu<|St LB bj Z Z Z Z fun bk aw w=>Va (.bool d.2)<|AA<|Am (fun q ah=>∃o r ai,q=Env.puts o [(2,I h),(9,Pt bi 0),(35,.bool ai)]∧KX h d ai=some ac∧AS [] ag bk r ah) ?_ ?_
 refine AL<|Vm<|Vm<|Bo a (fun e a=>?_) fun e a=>?_
 refine Gm e<|Gx e (Fd EY Z)<|Gx e (Ld Ey Z (Bc aw Z))<|have bl:=Ss Ab av w; ?_
 obtain ⟨cr,ct,bm⟩:=AT bl
 refine Gx e (v:=I (d.1.params.length:Int)) (Ll D9 bm)<|Gr e (.bool (decide (h< (d.1.params.length:Int))))<|Vp e<|AA<|⟨_,ag,(decide (h< (d.1.params.length:Int))),Pu,a,Rf⟩
 refine Pg e<|Pg e<|Pg e<|Pg e<|Pg e<|Vp e<|AA<|⟨_,ag,false,Pu,a,Rf⟩
 rintro _ ah ⟨o,r,ai,rfl,a,y⟩
 rw [KX] at a
 refine Cn a (fun bn a=>?_) fun bn a=>?_
 refine Sr<|Vx (Fd EY Z)<|have bo:=Bs aw y;Vx (Ld Ey Z (Bc bo Z))<|Vm<|Bi a fun bp bq a=>have br:=K2 Ab av w y; ?_
 obtain ⟨bt,bu,cu,bv,bw,bx,bz,b0,aj⟩:=A8 (κ:=Ab) br bq
 replace aj:Ax r ah bt (bu+h.toNat*3) bv:=aj
 obtain rfl:=Ez b0
 refine Vx (Ix D9 bw Z bx bz)<|Vx (Fd Nw Z)<|Vx (Ld Ed Z (Ax.cell (k:=1) aj Z))<|Va (I bp.type_)<|AA<|AQ ?_
 obtain rfl:=AK a
 refine O1 B n Z (.tmp Z)<|⟨r,Z,Ho (Tn (T4 (Mo [22] l) g aq u w) y) m⟩
 refine WC.skip<|⟨_,r,Pu,a,(T3 (Mo [22] aq) u w y)⟩
 refine Sr<|Vr (.bool (c.op==19))<|Va (.bool (c.op==19))<|AA<|Cn a (fun b1 a=>?_) fun b1 a=>?_
 refine AR<|Sr<|Vm<|Vr (.bool (h==0))<|AA<|Cn a (fun b2 a=>?_) fun b2 a=>?_
 refine Sr<|Va (I 2)<|AA<|AQ ?_
 obtain rfl:=AK a
 refine O1 B n Z (.tmp Z)<|⟨f,Z,Ho (Tn (Mo [] l) g) m⟩
 refine WC.skip<|Sr<|Vm<|Va (I p)<|AA<|AQ ?_
 obtain rfl:=AK a
 refine O1 B n Z (.tmp Z)<|⟨f,Z,Ho (Tn (Mo [] l) g) m⟩
 refine Sr<|Vr (.bool (c.op==20))<|Va (.bool (c.op==20))<|AA<|Cn a (fun b3 a=>?_) fun b3 a=>?_
 refine AR<|Sr<|Vm<|Vr (.bool (h==0))<|AA<|Cn a (fun b4 a=>?_) fun b4 a=>?_
 refine Sr<|Va (I 3)<|AA<|AQ ?_
 obtain rfl:=AK a
 refine O1 B n Z (.tmp Z)<|⟨f,Z,Ho (Tn (Mo [] l) g) m⟩
 refine WC.skip<|Sr<|Vm<|Va (I p)<|AA<|AQ ?_
 obtain rfl:=AK a
 refine O1 B n Z (.tmp Z)<|⟨f,Z,Ho (Tn (Mo [] l) g) m⟩
 refine Am (fun q ax=>∃o s ak,q=Env.puts o [(2,I h),(3,I p),(5,Pt a4 0),(52,.bool ak)]∧KY c h p ak=some ac∧AS [] f ad s ax) ?_ ?_
 refine Sr<|Vr (.bool (c.op==21))<|Va (.bool (c.op==21))<|AA<|Cn a (fun b5 a=>?_) fun b5 a=>?_
 refine WC.skip<|⟨_,f,(c.op==21),Pu,a,Rf⟩
 refine AL<|Vr (.bool (c.op==22))<|Va (.bool (c.op==22))<|AA<|⟨_,f,(c.op==22),Pu,a,Rf⟩
 rintro _ ax ⟨o,s,ak,rfl,a,z⟩
 rw [KY] at a
 refine Cn a (fun b6 a=>?_) fun b6 a=>?_
 refine AR<|Sr<|Vm<|Vr (.bool (h==0))<|AA<|Cn a (fun b7 a=>?_) fun b7 a=>?_
 refine Sr<|Vx (Fd Lg Z)<|have b8:=Bs ae z;Vx (Ld Ed Z (Bc b8 Z))<|Va (I c.type_)<|AA<|AQ ?_
 obtain rfl:=AK a
 refine O1 B n Z (.tmp Z)<|⟨s,Z,Ho (T2 (Mo [] l) g z) m⟩
 refine WC.skip<|Sr<|Vm<|Va (I p)<|AA<|AQ ?_
 obtain rfl:=AK a
 refine O1 B n Z (.tmp Z)<|⟨s,Z,Ho (T2 (Mo [] l) g z) m⟩
 refine WC.skip<|⟨_,s,Pu,a,(Mo [22] z)⟩
 rintro _ ap ⟨o,af,rfl,a,b9⟩
 rw [JP] at a
 refine Sr<|Va (I 1)<|AA<|AQ ?_
 obtain rfl:=AK a
 refine O1 B n Z (.tmp Z)<|⟨af,Z,Ho (T2 (Mo [22] l) g b9) m⟩
theorem SI(c:Nat):G3.Spec (G3 c):=lk0 (RJ c)
def ref07_wrong.At(c:Col)(a:World)(f:AM→(List AJ)→AE→Int→Option (List Int)):Prop:=
 ∀{d e g h l m n o},f d g l n=some o→CK.rep c.F a e d→Slc Ab c.F a h g→AH.rep c.F a m l→
  Calls PG 41 #[Ag e,h,Ag m,I n] a fun s p=>∃q r,s=.returned r∧AS [] c a q p∧Slc (Kd.int .i64) q.F p r o
def ref07_wrong.Spec(f:AM→(List AJ)→AE→Int→Option (List Int)):Prop:=
 ∀a c,ref07_wrong.At a c f
structure BT.Good(a:BT):Prop where
 ref07_wrong:ref07_wrong.Spec a.ref07_wrong
theorem SJ(q:BT)(n:Nat)(b9:BT.Good q)(a0:Col)(ca:World)(cb:∀b,a0 b<10):ref07_wrong.At a0 ca (Kh q n):=by
 intro e dw m dx a dy l aq c cc bc cd
 rw [Kh] at c
 obtain ⟨ac,ad,rfl,bd⟩:=E1 (BV cc)
 obtain ⟨ae,af,rfl⟩:=AT bc
 obtain ⟨ag,ah,rfl,be⟩:=E1 (Ae cd)
 refine Ay Tryz.func41 Z Tryz.ntmps41 Z fun B cf g=>Sr<|Ef<|A0 a0 20 Z Z fun cg d1 a1 ch ar=>Ef<|A0 cg 21 Z Z fun ci cj a2 a3 al=>Va (.slice none 0 0)<|AA<|Sr<|Va (.slice none 0 0)<|AA<|Sr<|have bf:=Bs ch al;Vx (Lx Gd Z Z (Bw bf))<|Vm<|Vx (Lx A9 Z Z (Bw a3))<|have bg:=K2 AI bd ar al;have bh:=K2 Ab bc ar al;have bi:=K2 AH be ar al;Bi c fun au ck c=>Ca (Cg [Ag [Sl ac e.funcs ad],Sl ae m af,Ag [I a.op,Sb a.name,Sb a.tail,I a.type_,Cx a.num,Sl ag a.args ah,I a.at_]] Z) (V2 n ci cj ck (BQ (x:=e) bg) bh (AW (x:=a) bi)) ?_
 rintro _ bj ⟨av,rfl,y⟩
 refine Va (I au)<|AA<|Am (fun am aw=>∃r an ai ax ay,am=Env.puts r [(1,Sl ae m af),(3,I l),(4,Pt a1 0),(6,Pt a2 0),(9,Sl ax ai ay)]∧KD q n e m a l ai=some aq∧AS [23] av bj an aw∧Own (Kd.int .i64) 3 an aw 23 (Sl ax ai ay) ai) ?_ ?_
 refine Am (fun am bk=>∃r az a4,am=Env.puts r [(1,Sl ae m af),(3,I l),(4,Pt a1 0),(6,Pt a2 0),(9,.slice none 0 0),(23,.bool a4)]∧K5 q n e m a l a4=some aq∧AS [] av bj az bk) ?_ ?_
 refine AL<|Vm<|Vr (.bool (au != 0))<|Vm<|Bo c (fun p c=>?_) fun p c=>?_
 refine Gm p<|Gm p<|Gr p (.bool (au != l))<|Vp p<|AA<|⟨_,av,(au != l),Pu,c,Rf⟩
 refine Pg p<|Pg p<|Pg p<|Vp p<|AA<|⟨_,av,false,Pu,c,Rf⟩
 rintro _ bk ⟨r,az,a4,rfl,c,a5⟩
 rw [K5] at c
 refine Cn c (fun cl c=>?_) fun cl c=>?_
 refine AL<|Vm<|Vx (Fd Mi Z)<|have cm:=Y2 a3 y a5;Vx (Ld BC Z (Bc cm Z))<|Ef<|Ch (cs:=[I a.at_]) az 22 [[I a.at_]] SW ACa Z Z (.cons Z Z Z .nil) Z fun bl bm cn co cq=>have cr:Own (Kd.int .i64) 3 bl bm 22 (.slice (some ⟨cn,0,none⟩) 1 1) ([a.at_]:List Int):=Own.lit (css:=[[I a.at_]]) co Z Z Z (Aa Z BA) (A4 Z D3) Z;Bi c fun d2 bn c=>Ef<|Bu (κ:=(Kd.int .i64)) Z Z (Own.nil:Own (Kd.int .i64) 3 bl bm 23 _ _) dcd Xw (CC cr) (Et bn) (E6 bn) fun d3 ct d4 bo cu=>?_
 obtain ⟨bp,bq,rfl⟩:=Own.len bo
 refine Va (Sl bp ((([]:List Int)++([a.at_]:List Int))) bq)<|AA<|⟨_,ct,(([]:List Int)++([a.at_]:List Int)),bp,bq,Pu,c,(T2 (Mo [23] a5) cq cu),bo⟩
 refine WC.skip<|⟨_,az,([]:List Int),none,0,Pu,c,(Mo [23] a5),Own.nil⟩
 rintro _ aw ⟨r,an,ai,ax,ay,rfl,c,aj,cv⟩
 rw [KD] at c
 refine AR<|Sr<|Va (I 0)<|AA<|Af<|Bg (fun u am a6=>∃r ak o ao ap h,am=Env.puts r [(1,Sl ae m af),(3,I l),(4,Pt a1 0),(6,Pt a2 0),(9,Sl ao o ap),(11,I h)]∧H3 q n e m a l u o h=some aq∧AS [23] an aw ak a6∧Own (Kd.int .i64) 3 ak a6 23 (Sl ao o ap) o) n ?_ ?_
 exact ⟨_,an,ai,ax,ay,0,Pu,c,(AS.refl [23] _ _),cv⟩
 rintro u _ a6 ⟨r,ak,o,ao,ap,h,rfl,c,z,br⟩
 rcases u with _|u
 exact A5 c
 refine have c:IL q n e m a l (H3 q n e m a l u) o h=some aq:=c; ?_
 obtain ⟨d5,bt⟩:∃s,s=H3 q n e m a l u:=⟨_,rfl⟩
 rw [←bt,IL] at c
 refine AR<|Sr<|Vm<|Vx (Fd BS Z)<|have bu:=Y3 a3 y aj z;Vx (Ld Cf Z (Bc bu Z))<|have bv:=K3 AH bi y aj z; ?_
 obtain ⟨d6,d7,cw⟩:=AT bv
 refine Vx (v:=I (a.args.length:Int)) (Ll CH cw)<|Vr (.bool (decide (h< (a.args.length:Int))))<|AA<|Cn c (fun cx c=>?_) fun cx c=>?_
 refine WC.skip<|AR<|Af<|AR<|BW Cv (qs 0 4 (qs 5 9 (.one 4 (.one 14 (.one 15 (.q 16 .nil)))))) [] [] ak (by kernel_rfl) fun bw aa=>have bx:=Y4 bf y aj z aa;Qx g Z (fun _ ⟨_,d⟩=>Lx Gd Z Z (Bw (Bs bx d)))<|Qx g Z (v:=Sl ae m af) (fun _ _=>Mv Z)<|have a7:=Bs bu aa;Qx g Z (fun _ ⟨_,d⟩=>Lx A9 Z Z (Bw (Bs a7 d)))<|Qx g Z (v:=I h) (fun _ _=>Mv Z)<|Qx g Z (fun _ _=>Fd BS Z)<|Qx g Z (fun _ ⟨_,d⟩=>Ld Cf Z (Bc (Bs a7 d) Z))<|Qx g Z (v:=I h) (fun _ _=>Mv Z)<|Bi c fun f cy c=>have a8:=Ss AH bv aa; ?_
 obtain ⟨cz,c0,d8,c1,c2,c3,c4,c5,a9⟩:=A8 (κ:=AH) a8 cy
 replace a9:Ax ak bw cz (c0+h.toNat*7) c1:=a9
 obtain ⟨b0,b1,rfl,bz⟩:=E1 (Ae c5)
 refine Qx g Z (fun _ _=>Ix CH c2 Z c3 c4)<|Qx g Z (fun _ ⟨_,d⟩=>Lx A9 Z Z (Ax.part0 (Es a9 d) [I f.op,Sb f.name,Sb f.tail,I f.type_,Cx f.num,Sl b0 f.args b1,I f.at_] Z))<|Qx g Z (fun _ ⟨_,d⟩=>Lx Gd Z Z (Bw (Bs bx d)))<|Qx g Z (fun _ ⟨_,d⟩=>Lx A9 Z Z (Bw (Bs a7 d)))<|Qx g Z (v:=I h) (fun _ _=>Mv Z)<|Qx g Z (v:=I l) (fun _ _=>Mv Z)<|A1 Z<|have c6:=K4 Ab bh y aj z aa;Bi c fun c7 c8 c=>A3 Z (.none Z) Z Z (Cg [Sl ae m af,Ag [I a.op,Sb a.name,Sb a.tail,I a.type_,Cx a.num,Sl ag a.args ah,I a.at_],I h] Z)<|Calls.mono (SH ak bw c8 c6 (AW (x:=a) a8)) ?_
 rintro _ c9 ⟨da,ea,rfl,w,b2⟩
 obtain ⟨db,dc,rfl⟩:=AT b2
 refine ⟨_,Z,⟨_,(Mo [] w)⟩,?_⟩
 refine A1 Z<|have b3:=Ss AI (K4 AI bg y aj z aa) w;have de:=Ss AH a8 w;Bi c fun df dg c=>A3 Z (.none Z) Z Z (Cg [Ag [Sl ac e.funcs ad],Ag [I a.op,Sb a.name,Sb a.tail,I a.type_,Cx a.num,Sl ag a.args ah,I a.at_],I h,I l] Z)<|Calls.mono (SI n da c9 dg (BQ (x:=e) b3) (AW (x:=a) de)) ?_
 rintro _ dh ⟨di,rfl,ab⟩
 refine ⟨_,Z,⟨_,(Tn (Mo [] w) ab)⟩,?_⟩
 refine A1 Z<|have dj:=Ss AI b3 ab;have dk:=Ss Ab b2 ab;have dl:=K2 AH bz w ab;Bi c fun ba dm c=>A3 Z (.none Z) Z Z (Cg [Ag [Sl ac e.funcs ad],Sl db c7 dc,Ag [I f.op,Sb f.name,Sb f.tail,I f.type_,Cx f.num,Sl b0 f.args b1,I f.at_],I df] Z)<|Calls.mono (b9.ref07_wrong di dh dm (BQ (x:=e) dj) dk (AW (x:=f) dl)) ?_
 rintro _ eb ⟨ec,ed,rfl,bb,b4⟩
 obtain ⟨dn,dp,rfl⟩:=AT b4
 refine ⟨_,Z,⟨_,(T2 (Mo [] w) ab bb)⟩,?_⟩
 refine Qx g Z (v:=Sl dn ba dp) (fun _ _=>Run.assign Z)<|B9<|AL<|Vm<|Vm<|have dq:=Os (Os (Os (Os br aa) w) ab) bb;Bi c fun ee b5 c=>Ef<|Bu (κ:=(Kd.int .i64)) Z Z dq dcd Xw (IU b4) (Et b5) (E6 b5) fun ef dr eg b6 ds=>?_
 obtain ⟨b7,b8,rfl⟩:=Own.len b6
 refine Va (Sl b7 ((o++ba)) b8)<|AA<|AL<|Vm<|Vr (I (Wr (h+1)))<|Va (I (Wr (h+1)))<|AA<|⟨u,Nat.lt_succ_self u,_,dr,(o++ba),b7,b8,(Wr (h+1)),Pu,(bt▸c),(Tn (T4 (Mo [23] z) aa w ab bb) ds),b6⟩
 refine Ba<|Sr<|Vm<|Va (Sl ao o ap)<|AA<|AQ ?_
 obtain ⟨dt,du,dv⟩:=Own.freeze (S:=[23]) br dcd dcd
 obtain rfl:=AK c
 refine O1 B cf Z (.tmp Z)<|⟨dt,Sl ao o ap,Z,Ho (Tn (T4 (Mo [23] ar) al y aj z) du) cb,dv⟩
theorem SK(a:BT)(d:Nat)(f:BT.Good a):ref07_wrong.Spec (Kh a d):=lk0 (SJ a d f)
theorem BT.good:∀a,BT.Good (BT.at a)
 |0=>⟨by intro c d;intros;(try intro _);intros;exact A5 (by assumption)⟩
 |n+1=>⟨SK _ n (BT.good n)⟩
theorem Tp(a:Nat):ref07_wrong.Spec (ref07_wrong a):=(BT.good a).ref07_wrong
def HG.At(c:Col)(a:World)(f:AM→Option AD):Prop:=
 ∀{d e g},f d=some g→CK.rep c.F a e d→
  Calls PG 18 #[Ag e] a fun n h=>∃l m,n=.returned (Ag m)∧AS [] c a l h∧An.rep l.F h m g
def HG.Spec(f:AM→Option AD):Prop:=
 ∀a c,HG.At a c f
theorem SL(r:Nat)(a5:Col)(cb:World)(bm:∀b,a5 b<10):HG.At a5 cb (HG r):=by
 intro l d0 ae a cc
 rw [HG] at a
 obtain ⟨ap,aq,rfl,bn⟩:=E1 (BV cc)
 refine Ay Tryz.func18 Z Tryz.ntmps18 Z fun B bo d=>Sr<|Ef<|A0 a5 20 Z Z fun cd d2 ar cf a6=>Ef<|AY cd 21 FM Z fun cg ch au bp av=>AA<|Sr<|have bq:=Bs cf av;Vx (Lx Gd Z Z (Bw bq))<|have br:=K2 AI bn a6 av;Bi a fun o ci a=>Ca (Cg [Ag [Sl ap l.funcs aq]] Z) (Tl r cg ch ci (BQ (x:=l) br)) ?_
 rintro _ d3 ⟨cj,d4,rfl,af,ck⟩
 obtain rfl:=As ck
 refine Ef<|AY cj 22 FM Z fun a7 d5 ab cl ag=>Eu<|St HK cl Z Z Z Z fun cm a8 ah=>AA<|AR<|Sr<|Vx (Fz ND Z)<|Vx (Ld NE Z (Bc a8 Z))<|Vr (.bool (o.why != 0))<|AA<|Cn a (fun cn a=>?_) fun cn a=>?_
 refine Sr<|Vx (Lx K9 Z Z (Bw a8))<|have co:=Y3 bp af ag ah;Eu<|St HK co Z Z Z Z fun d6 cq cr=>AA<|AQ ?_
 obtain rfl:=AK a
 refine O1 B bo Z (.agg K9 Z Z (Bw cq))<|⟨a7,[I o.why,I o.at_],Z,Ho (Tn (T4 (Mo [21,22] a6) av af ag ah) cr) bm,(Ak (x:=o))⟩
 refine WC.skip<|AR<|Sr<|Va (I 0)<|AA<|Af<|Bg (fun z ac a9=>∃n ad f u w,ac=Env.puts n [(1,Pt ar 0),(2,Pt au 0),(3,Pt ab 0),(4,I f)]∧CF r l z f u w=some ae∧AS [22] a7 cm ad a9∧Bk ad a9 22 ab [I u,I w] 63) r ?_ ?_
 exact ⟨_,a7,0,o.why,o.at_,Pu,a,(AS.refl [22] _ _),a8⟩
 rintro z _ a9 ⟨n,ad,f,u,w,rfl,a,ai,bt⟩
 rcases z with _|z
 exact A5 a
 refine have a:IM r l (CF r l z) f u w=some ae:=a; ?_
 obtain ⟨aw,bu⟩:∃s,s=CF r l z:=⟨_,rfl⟩
 rw [←bu,IM] at a
 refine AR<|Sr<|Vm<|Vx (Fz EX Z)<|have bv:=Y4 bq af ag ah ai;Vx (Ld G8 Z (Bc bv Z))<|have bw:=K4 AI br af ag ah ai; ?_
 obtain ⟨d7,d8,ct⟩:=AT bw
 refine Vx (v:=I (l.funcs.length:Int)) (Ll GI ct)<|Vr (.bool (decide (f< (l.funcs.length:Int))))<|AA<|Cn a (fun cu a=>?_) fun cu a=>?_
 refine WC.skip<|AR<|Af<|AR<|BW Cv (qs 0 19 (.one 19 (.q 20 .nil))) [] [] ad (by kernel_rfl) fun bx ax=>have ay:=Bs bv ax;Qx d Z (fun _ ⟨_,c⟩=>Lx Gd Z Z (Bw (Bs ay c)))<|Qx d Z (fun _ _=>Fz EX Z)<|Qx d Z (fun _ ⟨_,c⟩=>Ld G8 Z (Bc (Bs ay c) Z))<|Qx d Z (v:=I f) (fun _ _=>Mv Z)<|Bi a fun e cv a=>have bz:=Ss AI bw ax; ?_
 obtain ⟨cw,cx,d9,cy,ba,bb,bc,cz,aj⟩:=A8 (κ:=AI) bz cv
 replace aj:Ax ad bx cw (cx+f.toNat*11) cy:=aj
 obtain ⟨ea,eb,rfl,b0,b1⟩:=Cl cz
 obtain ⟨c0,c1,rfl⟩:=AT b0
 obtain ⟨b2,b3,rfl⟩:=AT b1
 refine Qx d Z (fun _ _=>Ix GI ba Z bb bc)<|Qx d Z (fun _ _=>Fd EY Z)<|Qx d Z (fun _ ⟨_,c⟩=>Ld Ey Z (Ax.cell (k:=1) (Es aj c) Z))<|Qx d Z (fun _ _=>Fz EX Z)<|Qx d Z (fun _ ⟨_,c⟩=>Ld G8 Z (Bc (Bs ay c) Z))<|Qx d Z (v:=I f) (fun _ _=>Mv Z)<|Qx d Z (fun _ _=>Ix GI ba Z bb bc)<|Qx d Z (fun _ _=>Fd ME Z)<|Qx d Z (fun _ ⟨_,c⟩=>Lx A9 Z Z (Kd.At.part (Ax.at_ (Es aj c)) 3 [I e.body.op,Sb e.body.name,Sb e.body.tail,I e.body.type_,Cx e.body.num,Sl b2 e.body.args b3,I e.body.at_] Z))<|Qx d Z (fun _ _=>Fz EX Z)<|Qx d Z (fun _ ⟨_,c⟩=>Ld G8 Z (Bc (Bs ay c) Z))<|Qx d Z (v:=I f) (fun _ _=>Mv Z)<|Qx d Z (fun _ _=>Ix GI ba Z bb bc)<|Qx d Z (fun _ _=>Fd O0 Z)<|Qx d Z (fun _ ⟨_,c⟩=>Ld Ed Z (Ax.cell (k:=2) (Es aj c) Z))<|A1 Z<|Bi a fun m c2 a=>A3 Z (.none Z) Z Z (Cg [Ag [Sl ap l.funcs aq],Sl c0 e.params c1,Ag [I e.body.op,Sb e.body.name,Sb e.body.tail,I e.body.type_,Cx e.body.num,Sl b2 e.body.args b3,I e.body.at_],I e.type_] Z)<|Calls.mono (Tp r ad bx c2 (BQ (x:=l) bz) b0 (AW (x:=(AE.mk e.body.op e.body.name e.body.tail e.body.type_ e.body.num e.body.args e.body.at_)) b1)) ?_
 rintro _ c3 ⟨b4,ec,rfl,bd,b5⟩
 obtain ⟨ak,al,rfl⟩:=AT b5
 refine ⟨_,Z,⟨_,(Mo [] bd)⟩,?_⟩
 refine Qx d Z (v:=Sl ak m al) (fun _ _=>Run.assign Z)<|B9<|Sr<|Va (I 0)<|AA<|Af<|Bg (fun aa ac am=>∃n p h y q,ac=Env.puts n [(1,Pt ar 0),(2,Pt au 0),(3,Pt ab 0),(4,I f),(5,Sl ak m al),(6,I h)]∧FK f aw m aa h y q=some ae∧AS [22] b4 c3 p am∧Bk p am 22 ab [I y,I q] 63) r ?_ ?_
 refine have c4:=Y2 bt ax bd;⟨_,b4,0,u,w,Pu,a,(AS.refl [22] _ _),c4⟩
 rintro aa _ am ⟨n,p,h,y,q,rfl,a,be,az⟩
 rcases aa with _|aa
 exact A5 a
 refine have a:Em f aw m (FK f aw m aa) h y q=some ae:=a; ?_
 obtain ⟨b6,b7⟩:∃s,s=FK f aw m aa:=⟨_,rfl⟩
 rw [←b7,Em] at a
 refine AR<|Sr<|Vm<|Vm<|have bf:=Ss (Kd.int .i64) b5 be; ?_
 obtain ⟨ed,ee,c5⟩:=AT bf
 refine Vx (v:=I (m.length:Int)) (Ll SW c5)<|Vr (.bool (decide (h< (m.length:Int))))<|AA<|Cn a (fun c6 a=>?_) fun c6 a=>?_
 refine WC.skip<|Am (fun ac bg=>∃n a0 a1 a2,ac=Env.puts n [(1,Pt ar 0),(2,Pt au 0),(3,Pt ab 0),(4,I f),(5,Sl ak m al),(6,I h)]∧I9 h b6 a1 a2=some ae∧AS [22] p am a0 bg∧Bk a0 bg 22 ab [I a1,I a2] 63) ?_ ?_
 refine Af<|Am (fun ac bh=>∃n an bi,ac=Env.puts n [(1,Pt ar 0),(2,Pt au 0),(3,Pt ab 0),(4,I f),(5,Sl ak m al),(6,I h),(57,.bool bi)]∧JA m h y q b6 bi=some ae∧AS [] p am an bh) ?_ ?_
 refine BW Cv (qs 0 12 .nil) [] [] p (by kernel_rfl) fun c7 a3=>Qx d Z (fun _ _=>Fz ND Z)<|have b8:=Bs az a3;Qx d Z (fun _ ⟨_,c⟩=>Ld NE Z (Bc (Bs b8 c) Z))<|Qx d Z (v:=.bool (y==0)) (fun _ _=>Z)<|Qx d Z (v:=.bool (y==0)) (fun _ _=>Mv Z)<|Bo a (fun g a=>?_) fun g a=>?_
 refine Qp d Z g<|Qp d Z g<|Qp d Z g<|Qp d Z g<|Qp d Z g<|Qp d Z g<|Qp d Z g<|Qx d Z (v:=.bool true) (fun _ _=>(Pk g))<|B9<|⟨_,p,true,Pu,a,(Mo [] a3)⟩
 refine Qg d Z g (v:=Sl ak m al) (fun _ _=>Mv Z)<|Qg d Z g (v:=I h) (fun _ _=>Mv Z)<|Bi a fun a4 c8 a=>have c9:=Ss (Kd.int .i64) bf a3; ?_
 obtain ⟨da,db,ef,b9,dc,de,df,dg,bj⟩:=A8 (κ:=(Kd.int .i64)) c9 c8
 replace bj:Ax p c7 da (db+h.toNat*1) b9:=bj
 obtain rfl:=(show b9=[I a4] from dg)
 refine Qg d Z g (fun _ _=>Ix SW dc Z de df)<|Qg d Z g (fun _ ⟨_,c⟩=>Ld BC Z (Ax.cell0 (Es bj c) Z))<|Qg d Z g (fun _ _=>Fd O3 Z)<|Qg d Z g (fun _ ⟨_,c⟩=>Ld BC Z (Bc (Bs b8 c) Z))<|Qg d Z g (v:=.bool (decide (a4<q))) (fun _ _=>Z)<|Qx d Z (v:=.bool (decide (a4<q))) (fun _ _=>(Pk g))<|B9<|⟨_,p,(decide (a4<q)),Pu,a,(Mo [] a3)⟩
 rintro _ bh ⟨n,an,bi,rfl,a,ao⟩
 rw [JA] at a
 refine Cn a (fun dh a=>?_) fun dh a=>?_
 refine AL<|Vm<|Vm<|Bi a fun bk di a=>have dj:=Ss (Kd.int .i64) bf ao; ?_
 obtain ⟨dk,dl,eg,ca,dm,dn,dp,dq,bl⟩:=A8 (κ:=(Kd.int .i64)) dj di
 replace bl:Ax an bh dk (dl+h.toNat*1) ca:=bl
 obtain rfl:=(show ca=[I bk] from dq)
 refine Vx (Ix SW dm Z dn dp)<|Vx (Ld BC Z (Ax.cell0 bl Z))<|Vx (v:=Ag [I 34,I bk]) (Bp FM Mu Z (.cons Z Z Z (.cons Z Z Z .nil)))<|have dr:=Bs az ao;Eu<|St HK dr Z Z Z Z fun eh ds dt=>AA<|⟨_,an,34,bk,Pu,a,(Tn (Mo [22] ao) dt),ds⟩
 refine WC.skip<|have du:=Bs az ao;⟨_,an,y,q,Pu,a,(Mo [22] ao),du⟩
 rintro _ bg ⟨n,a0,a1,a2,rfl,a,dv,dw⟩
 rw [I9] at a
 refine AL<|Vm<|Vr (I (Wr (h+1)))<|Va (I (Wr (h+1)))<|AA<|⟨aa,Nat.lt_succ_self aa,_,a0,(Wr (h+1)),a1,a2,Pu,(b7▸a),(Tn (Mo [22] be) dv),dw⟩
 refine Ba<|AL<|Vm<|Vr (I (Wr (f+1)))<|Va (I (Wr (f+1)))<|AA<|⟨z,Nat.lt_succ_self z,_,p,(Wr (f+1)),y,q,Pu,(bu▸a),(T3 (Mo [22] ai) ax bd be),az⟩
 refine Ba<|Sr<|Vx (Lx K9 Z Z (Bw bt))<|have dx:=Y4 bp af ag ah ai;Eu<|St HK dx Z Z Z Z fun ei dy dz=>AA<|AQ ?_
 obtain rfl:=AK a
 refine O1 B bo Z (.agg K9 Z Z (Bw dy))<|⟨ad,[I u,I w],Z,Ho (T2 (T4 (Mo [21,22] a6) av af ag ah) ai dz) bm,(Ak (x:=(AD.mk u w)))⟩
theorem Tq(c:Nat):HG.Spec (HG c):=lk0 (SL c)
def G4.At(c:Col)(a:World)(f:AO→(List AF)→Option Bool):Prop:=
 ∀{d e g h l},f d g=some l→AI.rep c.F a e d→Slc Ao c.F a h g→
  Calls PG 19 #[Ag e,h] a fun m n=>∃o,m=.returned (.bool l)∧AS [] c a o n
def G4.Spec(f:AO→(List AF)→Option Bool):Prop:=
 ∀a c,G4.At a c f
theorem Ts(n:Nat)(ab:Col)(a6:World)(ac:∀b,ab b<10):G4.At ab a6 (G4 n):=by
 intro o b1 g b2 ad a a7 am
 rw [G4] at a
 obtain ⟨b3,b4,rfl,an,a8⟩:=Cl a7
 obtain ⟨b5,b6,rfl⟩:=AT an
 obtain ⟨b7,b8,rfl⟩:=AT a8
 obtain ⟨w,y,rfl⟩:=AT am
 refine Ay Tryz.func19 Z Tryz.ntmps19 Z fun B ae c=>Sr<|Ef<|A0 ab 20 Z Z fun af a9 ao ap q=>Va (.bool false)<|AA<|AR<|Sr<|Vm<|have aq:=Ss Ao am q; ?_
 obtain ⟨b9,ca,ba⟩:=AT aq
 refine Vx (v:=I (g.length:Int)) (Ll Ic ba)<|Vx (Fd EY Z)<|Vx (Ld Ey Z (Bc ap Z))<|have ar:=Ss Ab an q; ?_
 obtain ⟨cb,cc,bb⟩:=AT ar
 refine Vx (v:=I (o.params.length:Int)) (Ll D9 bb)<|Vr (.bool ((g.length:Int) != (o.params.length:Int)))<|AA<|Cn a (fun bc a=>?_) fun bc a=>?_
 refine Sr<|Va (.bool false)<|AA<|AQ ?_
 obtain rfl:=AK a
 refine O1 B ae Z (.tmp Z)<|⟨af,Z,Ho (Mo [] q) ac⟩
 refine WC.skip<|AR<|Sr<|Va (I 0)<|AA<|Af<|Bg (fun m ag ah=>∃r l e,ag=Env.puts r [(1,Sl w g y),(2,Pt ao 0),(5,I e)]∧Il n o g m e=some ad∧AS [] af a9 l ah) n ?_ ?_
 exact ⟨_,af,0,Pu,a,Rf⟩
 rintro m _ ah ⟨r,l,e,rfl,a,p⟩
 rcases m with _|m
 exact A5 a
 refine have a:JB n o g (Il n o g m) e=some ad:=a; ?_
 obtain ⟨bd,au⟩:∃s,s=Il n o g m:=⟨_,rfl⟩
 rw [←au,JB] at a
 refine AR<|Sr<|Vm<|Vm<|have av:=Ss Ao aq p; ?_
 obtain ⟨cd,cf,be⟩:=AT av
 refine Vx (v:=I (g.length:Int)) (Ll Ic be)<|Vr (.bool (decide (e< (g.length:Int))))<|AA<|Cn a (fun bf a=>?_) fun bf a=>?_
 refine WC.skip<|AR<|Af<|Am (fun ag aw=>∃r z ai,ag=Env.puts r [(1,Sl w g y),(2,Pt ao 0),(5,I e),(37,.bool ai)]∧Lf e bd ai=some ad∧AS [] l ah z aw) ?_ ?_
 refine BW Cv (qs 0 17 (.one 17 (.q 18 (.q 19 .nil)))) [] [] l (by kernel_rfl) fun aj u=>Qx c Z (v:=Sl w g y) (fun _ _=>Mv Z)<|Qx c Z (v:=I e) (fun _ _=>Mv Z)<|Bi a fun h bg a=>have bh:=Ss Ao av u; ?_
 obtain ⟨bi,bj,cg,bk,ax,ay,az,bl,aa⟩:=A8 (κ:=Ao) bh bg
 replace aa:Ax l aj bi (bj+e.toNat*4) bk:=aa
 obtain ⟨a1,a2,rfl,a0⟩:=E1 (Az bl)
 refine Qx c Z (fun _ _=>Ix Ic ax Z ay az)<|Qx c Z (fun _ _=>Fz Jd Z)<|Qx c Z (fun _ ⟨_,d⟩=>Ld Ed Z (Ax.cell0 (Es aa d) Z))<|Qx c Z (fun _ _=>Fd EY Z)<|have bm:=Y2 ap p u;Qx c Z (fun _ ⟨_,d⟩=>Ld Ey Z (Bc (Bs bm d) Z))<|Qx c Z (v:=I e) (fun _ _=>Mv Z)<|Bi a fun a3 bn a=>have bo:=K2 Ab ar p u; ?_
 obtain ⟨bp,bq,ci,br,bt,bu,bv,bw,ak⟩:=A8 (κ:=Ab) bo bn
 replace ak:Ax l aj bp (bq+e.toNat*3) br:=ak
 obtain rfl:=Ez bw
 refine Qx c Z (fun _ _=>Ix D9 bt Z bu bv)<|Qx c Z (fun _ _=>Fd Nw Z)<|Qx c Z (fun _ ⟨_,d⟩=>Ld Ed Z (Ax.cell (k:=1) (Es ak d) Z))<|Qx c Z (v:=.bool (h.type_ != a3.type_)) (fun _ _=>Z)<|Qx c Z (v:=.bool (h.type_ != a3.type_)) (fun _ _=>Mv Z)<|Bo a (fun f a=>?_) fun f a=>?_
 refine Qp c Z f<|Qp c Z f<|Qp c Z f<|Qp c Z f<|A1 Z<|MP Z (.guard (t:=true) (b:=false) Z Z Z Z (Cb f)) Z Z<|⟨⟨_,Rf⟩,?_⟩
 refine Qp c Z f<|Qx c Z (v:=.bool true) (fun _ _=>(Pk f))<|B9<|⟨_,l,true,Pu,a,(Mo [] u)⟩
 refine Qg c Z f (v:=Sl w g y) (fun _ _=>Mv Z)<|Qg c Z f (v:=I e) (fun _ _=>Mv Z)<|Qg c Z f (fun _ _=>Ix Ic ax Z ay az)<|Qg c Z f (fun _ ⟨_,d⟩=>Lx B0 Z Z (Ax.part0 (Es aa d) [I h.type_,Cx h.num,.bool h.bool,Sl a1 h.list a2] Z))<|A1 Z<|Bi a fun al bx a=>A3 Z (.guard (t:=false) (b:=false) Z Z Z Z (Cb f)) Z Z (Cg [Ag [I h.type_,Cx h.num,.bool h.bool,Sl a1 h.list a2]] Z)<|Calls.mono (LD n l aj bx (Al (x:=h) a0)) ?_
 rintro _ cj ⟨bz,rfl,a4⟩
 refine ⟨_,Z,⟨_,(Mo [] a4)⟩,?_⟩
 refine Qg c Z f (v:=.bool (!al)) (fun _ _=>Z)<|Qx c Z (v:=.bool (!al)) (fun _ _=>(Pk f))<|B9<|⟨_,bz,(!al),Pu,a,(Tn (Mo [] u) a4)⟩
 rintro _ aw ⟨r,z,ai,rfl,a,a5⟩
 rw [Lf] at a
 refine Cn a (fun b0 a=>?_) fun b0 a=>?_
 refine Sr<|Va (.bool false)<|AA<|AQ ?_
 obtain rfl:=AK a
 refine O1 B ae Z (.tmp Z)<|⟨z,Z,Ho (T2 (Mo [] q) p a5) ac⟩
 refine WC.skip<|AL<|Vm<|Vr (I (Wr (e+1)))<|Va (I (Wr (e+1)))<|AA<|⟨m,Nat.lt_succ_self m,_,z,(Wr (e+1)),Pu,(au▸a),(Tn (Mo [] p) a5)⟩
 refine Ba<|Sr<|Va (.bool true)<|AA<|AQ ?_
 obtain rfl:=AK a
 refine O1 B ae Z (.tmp Z)<|⟨l,Z,Ho (Tn (Mo [] q) p) ac⟩
theorem Un(c:Nat):G4.Spec (G4 c):=lk0 (Ts c)
def H4.At(c:Col)(a:World)(f:AF→Option Th):Prop:=
 ∀{d e g},f d=some g→Ao.rep c.F a e d→
  Calls PG 35 #[Ag e] a fun n h=>∃l m,n=.returned m∧AS [] c a l h∧RTh l.F h m g
def H4.Spec(f:AF→Option Th):Prop:=
 ∀a c,H4.At a c f
theorem SM(ae:Nat)(p:Col)(av:World)(af:∀b,p b<10):H4.At p av (H4 ae):=by
 intro a bx ag c aw
 rw [H4] at c
 obtain ⟨r,u,rfl,q⟩:=E1 (Az aw)
 refine Ay Tryz.func35 Z Tryz.ntmps35 Z fun B ah b0=>Sr<|Ef<|A0 p 20 Z Z fun ai b1 ax w m=>Va (.pointer none)<|AA<|AR<|Sr<|Vx (Fz Jd Z)<|Vx (Ld Ed Z (Bc w Z))<|Vr (.bool (a.type_ != 3))<|AA<|Cn c (fun ay c=>?_) fun ay c=>?_
 refine Sr<|Vx (Lx B0 Z Z (Bw w))<|Vx (v:=Ag [.bool true,.bool false,I a.type_,Cx a.num,.bool a.bool,Sl r a.list u,.pointer none,.pointer none,I 0,Sb ([]:Bts),Sb ([]:Bts),I 0,Cx (((0,0):Nat×Nat)),.slice none 0 0,I 0,.pointer none]) (Bp Jg Je Z (.cons Z Z Z (.cons Z Z Z .nil)))<|Ef<|A0 ai 21 Z Z fun b2 b3 aj az ak=>Va (Pt aj 0)<|AA<|AQ<|have a0:=K2 Kd.cpx q m ak; ?_
 obtain ⟨a1,a2,a3⟩:=RTh.layDone (hv:=.pointer none) (tv:=.pointer none) (cp:=[I a.type_,Cx a.num,.bool a.bool,Sl r a.list u]) (ce:=[I 0,Sb ([]:Bts),Sb ([]:Bts),I 0,Cx (((0,0):Nat×Nat)),.slice none 0 0,I 0]) az dcd (Al (x:=a) a0) (AW (x:=(AE.mk 0 ([]:Bts) ([]:Bts) 0 ((0,0):Nat×Nat) [] 0)) BK) RTh.nil RTh.nil
 obtain rfl:=AK c
 refine O1 B ah Z (.tmp Z)<|⟨a1,Pt aj 0,Z,Ho (T2 (Mo [21] m) ak a2) af,a3⟩
 refine WC.skip<|Sr<|Vx (v:=Ag [I 3,Cx (((0,0):Nat×Nat)),.bool false,.slice none 0 0]) (Bp CS F7 Z (.cons Z Z Z .nil))<|Vx (v:=Ag [.bool true,.bool false,I 3,Cx (((0,0):Nat×Nat)),.bool false,.slice none 0 0,.pointer none,.pointer none,I 0,Sb ([]:Bts),Sb ([]:Bts),I 0,Cx (((0,0):Nat×Nat)),.slice none 0 0,I 0,.pointer none]) (Bp Jg Je Z (.cons Z Z Z (.cons Z Z Z .nil)))<|Ef<|A0 ai 22 Z Z fun a4 a5 al a6 y=>Va (Pt al 0)<|AA<|AR<|Sr<|Vx (Fd D8 Z)<|have am:=Bs w y;Vx (Ld Ib Z (Bc am Z))<|have an:=K2 Kd.cpx q m y; ?_
 obtain ⟨b4,b5,a7⟩:=AT an
 refine Vx (v:=I (a.list.length:Int)) (Ll IQ a7)<|Vr (I (Wr ((a.list.length:Int) - 1)))<|Va (I (Wr ((a.list.length:Int) - 1)))<|AA<|Af<|Bg (fun e a8 n=>∃ao g l f d,a8=Env.puts ao [(1,Pt ax 0),(3,f),(4,I d)]∧JC a e l d=some ag∧AS [22,23,24] a4 a5 g n∧RTh g.F n f l) ae ?_ ?_
 obtain ⟨a9,ba,bb⟩:=RTh.layDone (hv:=.pointer none) (tv:=.pointer none) (cp:=[I 3,Cx (((0,0):Nat×Nat)),.bool false,.slice none 0 0]) (ce:=[I 0,Sb ([]:Bts),Sb ([]:Bts),I 0,Cx (((0,0):Nat×Nat)),.slice none 0 0,I 0]) a6 dcd (Al (x:=(AF.mk 3 ((0,0):Nat×Nat) false [])) BK) (AW (x:=(AE.mk 0 ([]:Bts) ([]:Bts) 0 ((0,0):Nat×Nat) [] 0)) BK) RTh.nil RTh.nil
 exact ⟨_,a9,(Th.done (AF.mk 3 ((0,0):Nat×Nat) false []) Th.nil Th.nil),Pt al 0,(Wr ((a.list.length:Int) - 1)),Pu,c,(Mo [22,23,24] ba),bb⟩
 rintro e _ n ⟨ao,g,l,f,d,rfl,c,o,z⟩
 rcases e with _|e
 exact A5 c
 refine have c:KZ a (JC a e) l d=some ag:=c; ?_
 obtain ⟨b6,ap⟩:∃s,s=JC a e:=⟨_,rfl⟩
 rw [←ap,KZ] at c
 refine AR<|Sr<|Vm<|Vr (.bool (decide (d≥0)))<|AA<|Cn c (fun bc c=>?_) fun bc c=>?_
 refine WC.skip<|AR<|Af<|Sr<|Vx (Fd D8 Z)<|have bd:=Bs am o;Vx (Ld Ib Z (Bc bd Z))<|Vm<|Bi c fun h be c=>have bf:=Ss Kd.cpx an o; ?_
 obtain ⟨bg,bh,b7,aq,bi,bj,bk,bl,aa⟩:=A8 (κ:=Kd.cpx) bf be
 replace aa:Ax g n bg (bh+d.toNat*1) aq:=aa
 obtain rfl:=(show aq=[Cx h] from bl)
 refine Vx (Ix IQ bi Z bj bk)<|Vx (Ld HL Z (Ax.cell0 aa Z))<|Vx (v:=Ag [I 1,Cx h,.bool false,.slice none 0 0]) (Bp CS F7 Z (.cons Z Z Z (.cons Z Z Z .nil)))<|Vx (v:=Ag [.bool true,.bool false,I 1,Cx h,.bool false,.slice none 0 0,.pointer none,.pointer none,I 0,Sb ([]:Bts),Sb ([]:Bts),I 0,Cx (((0,0):Nat×Nat)),.slice none 0 0,I 0,.pointer none]) (Bp Jg Je Z (.cons Z Z Z (.cons Z Z Z .nil)))<|Ef<|A0 g 23 Z Z fun bm b8 ab bn ar=>Va (Pt ab 0)<|AA<|AL<|Vm<|Vm<|Vx (v:=Ag [.bool true,.bool true,I 0,Cx (((0,0):Nat×Nat)),.bool false,.slice none 0 0,Pt ab 0,f,I 0,Sb ([]:Bts),Sb ([]:Bts),I 0,Cx (((0,0):Nat×Nat)),.slice none 0 0,I 0,.pointer none]) (Bp Jg Je Z (.cons Z Z Z (.cons Z Z Z (.cons Z Z Z (.cons Z (Dk (RTh.one z)) Z .nil)))))<|Ef<|A0 bm 24 Z Z fun b9 ca au bo ac=>Va (Pt au 0)<|AA<|AL<|Vm<|Vr (I (Wr (d - 1)))<|Va (I (Wr (d - 1)))<|AA<|have bp:=Bs bn ac; ?_
 obtain ⟨cb,ad,bq⟩:=RTh.layDone (hv:=.pointer none) (tv:=.pointer none) (cp:=[I 1,Cx h,.bool false,.slice none 0 0]) (ce:=[I 0,Sb ([]:Bts),Sb ([]:Bts),I 0,Cx (((0,0):Nat×Nat)),.slice none 0 0,I 0]) bp dcd (Al (x:=(AF.mk 1 h false [])) BK) (AW (x:=(AE.mk 0 ([]:Bts) ([]:Bts) 0 ((0,0):Nat×Nat) [] 0)) BK) RTh.nil RTh.nil
 refine have br:=Bs bo ad;have bt:=RTh.step (RTh.step (RTh.step z ar dcd) ac dcd) ad dcd; ?_
 obtain ⟨bu,bv,bw⟩:=RTh.layDone (hv:=Pt ab 0) (tv:=f) (cp:=[I 0,Cx (((0,0):Nat×Nat)),.bool false,.slice none 0 0]) (ce:=[I 0,Sb ([]:Bts),Sb ([]:Bts),I 0,Cx (((0,0):Nat×Nat)),.slice none 0 0,I 0]) br dcd (Al (x:=(AF.mk 0 ((0,0):Nat×Nat) false [])) BK) (AW (x:=(AE.mk 0 ([]:Bts) ([]:Bts) 0 ((0,0):Nat×Nat) [] 0)) BK) bq bt
 exact ⟨e,Nat.lt_succ_self e,_,bu,(Th.done (AF.mk 0 ((0,0):Nat×Nat) false []) (Th.done (AF.mk 1 h false []) Th.nil Th.nil) l),Pt au 0,(Wr (d - 1)),Pu,(ap▸c),(T4 (Mo [22,23,24] o) ar ac ad bv),bw⟩
 refine Ba<|Sr<|Vm<|Va f<|AA<|AQ ?_
 obtain rfl:=AK c
 refine O1 B ah Z (.tmp Z)<|⟨g,f,Z,Ho (T2 (Mo [22,23,24] m) y o) af,z⟩
theorem Tt(c:Nat):H4.Spec (H4 c):=by
 intro a d o p q e f
 refine Calls.mono (SM c (recol (see []) a) d (Fa (Nat.le_of_ble_eq_true Z) a) e (BY Ao f [])) ?_
 rintro r s ⟨g,h,l,m,n⟩
 exact ⟨glue [] d a g,h,l,CA m Mf,RTh.glue n⟩
def DY.At(G1 G2:Prop)(e:Col)(a:World)(f:AU→Int→Option (Th×AU))(g:Nat):Prop:=
 ∀{h m n o l},f m o=some l→G1→G2→Bk e a g h n 101→CB.rep e.F a n m→
  Calls PG 60 #[Pt h 0,I o] a fun r c=>∃d p q,r=.returned p∧AS [g] e a d c∧RTh d.F c p l.1∧Bk d c g h q 101∧CB.rep d.F c q l.2
def DY.Spec(f:AU→Int→Option (Th×AU)):Prop:=
 ∀c d {a},DY.At ([a].Nodup) (0∉[a]) c d f a
theorem OI(d:Col)(n:World)(w:∀b,d b<10):DY.At True True d n DY 1:=by
 intro y a an z aa c _ _ g ab
 rw [DY] at c
 obtain ⟨p,q,rfl,o⟩:=E1 (BO ab)
 refine Ay Tryz.func60 Z Tryz.ntmps60 Z fun B ac ap=>Sr<|Va (.pointer none)<|AA<|Am (fun ad h=>∃r f e,ad=Env.puts r []∧JF a e=some aa∧AS [1] d n f h∧Bk f h 1 y [Sl p a.p.funcs q,I a.most,I a.cost,I e] 101) ?_ ?_
 refine Sr<|Vm<|Vx (Nc Z)<|Vx (Fd Kj Z)<|Vx (Ld BC Z (Bc g Z))<|Vr (.bool (a.why==0))<|AA<|Cn c (fun ae c=>?_) fun ae c=>?_
 refine AL<|Vm<|Vm<|Vx (Nc Z)<|Vx (Fd Kj Z)<|Eu<|St Mj g Z Z Z Z fun aq af ag=>AA<|⟨_,d,z,Pu,c,(Mo [1] ag),af⟩
 refine WC.skip<|⟨_,d,a.why,Pu,c,(AS.refl [1] _ _),g⟩
 rintro _ h ⟨r,f,e,rfl,c,s,ah⟩
 rw [JF] at c
 refine Sr<|Vx (v:=Ag [.bool false,.bool false,I 0,Cx (((0,0):Nat×Nat)),.bool false,.slice none 0 0,.pointer none,.pointer none,I 0,Sb ([]:Bts),Sb ([]:Bts),I 0,Cx (((0,0):Nat×Nat)),.slice none 0 0,I 0,.pointer none]) (Bp Jg Je Z .nil)<|Ef<|A0 f 20 Z Z fun ar au u ai l=>Va (Pt u 0)<|AA<|AQ ?_
 obtain ⟨aj,m,ak⟩:=RTh.layLater (cp:=[I 0,Cx (((0,0):Nat×Nat)),.bool false,.slice none 0 0]) (ce:=[I 0,Sb ([]:Bts),Sb ([]:Bts),I 0,Cx (((0,0):Nat×Nat)),.slice none 0 0,I 0]) ai dcd (Al (x:=(AF.mk 0 ((0,0):Nat×Nat) false [])) BK) (AW (x:=(AE.mk 0 ([]:Bts) ([]:Bts) 0 ((0,0):Nat×Nat) [] 0)) BK) RNm.nil
 obtain rfl:=AK c
 refine O1 B ac Z (.tmp Z)<|have al:=Y2 ah l m;have am:=K3 AI o s l m;⟨aj,Pt u 0,[Sl p a.p.funcs q,I a.most,I a.cost,I e],Z,Ho (T2 (Mo [1,20] s) l m) w,ak,al,(Av (x:=(AU.mk (AM.mk a.p.funcs) a.most a.cost e)) am)⟩
theorem Kl:DY.Spec DY:=by
 intro c d a s u w y z f hnd hnz e g
 refine Calls.mono (OI (recol (see [a]) c) d (Fa (Nat.le_of_ble_eq_true Z) c) f trivial trivial (BU e [a] (BP hnd hnz (i:=0) Z)) (BY CB g [a])) ?_
 rintro aa ab ⟨h,l,m,n,o,p,q,r⟩
 exact ⟨glue [a] d c h,l,m,n,CA o (Fb Z Z),RTh.glue p,ED e q dcd,Dm CB r⟩
def GX.At(c:Col)(a:World)(f:Nm→Bts→Option Th):Prop:=
 ∀{d v0 e g},f d e=some g→RNm c.F a v0 d→
  Calls PG 61 #[v0,Sb e] a fun n h=>∃l m,n=.returned m∧AS [] c a l h∧RTh l.F h m g
def GX.Spec(f:Nm→Bts→Option Th):Prop:=
 ∀a c,GX.At a c f
theorem SN(r:Nat)(g:Col)(u:World)(ab:∀b,g b<10):GX.At g u (GX r):=by
 intro ac v0 d w a ad
 rw [GX] at a
 refine Ay Tryz.func61 Z Tryz.ntmps61 Z fun B ae am=>Sr<|Va (.pointer none)<|AA<|AR<|Af<|Bg (fun c af h=>∃y e l m,af=Env.puts y [(0,m),(1,Sb d)]∧G5 d c l=some w∧AS [] g u e h∧RNm e.F h m l) r ?_ ?_
 exact ⟨_,g,ac,v0,Pu,a,Rf,ad⟩
 rintro c _ h ⟨y,e,l,m,rfl,a,z,ag⟩
 rcases c with _|c
 exact A5 a
 refine have a:Mq d (G5 d c) l=some w:=a; ?_
 obtain ⟨an,aa⟩:∃s,s=G5 d c:=⟨_,rfl⟩
 rw [←aa,Mq] at a
 refine AR<|Sr<|Vm<|Bi a fun n ah a=>?_
 obtain ⟨ai,o,p,q,f,aj,ak⟩:=RNm.el ag ah
 replace f:Ax e h ai 0 [Sb n.1,o,p]:=f
 refine Vx (Nc q)<|Vx (Fz YU Z)<|Vx (Ld CG Z (Ax.cell0 f Z))<|Vm<|Vx (v:=.bool (!(n.1==d))) (Run.strNe Z Z)<|AA<|Cn a (fun al a=>?_) fun al a=>?_
 refine WC.skip<|Af<|AL<|Vm<|Vx (Nc q)<|Vx (Fd YV Z)<|Vx (Ld Xz Z (Ax.cell (k:=2) f Z))<|Va p<|AA<|⟨c,Nat.lt_succ_self c,_,e,n.2.2,p,Pu,(aa▸a),(Mo [] z),ak⟩
 refine Ba<|Sr<|Vm<|Vx (Nc q)<|Vx (Fd U3 Z)<|Vx (Ld Pf Z (Ax.cell (k:=1) f Z))<|Va o<|AA<|AQ ?_
 obtain rfl:=AK a
 refine O1 B ae Z (.tmp Z)<|⟨e,o,Z,Ho (Mo [] z) ab,aj⟩
theorem Tu(c:Nat):GX.Spec (GX c):=by
 intro a d o v0 p q e f
 refine Calls.mono (SN c (recol (see []) a) d (Fa (Nat.le_of_ble_eq_true Z) a) e (RNm.recol f [])) ?_
 rintro r s ⟨g,h,l,m,n⟩
 exact ⟨glue [] d a g,h,l,CA m Mf,RTh.glue n⟩
def HH.At(e:Col)(c:World)(f:Int→Option (Int×Int)):Prop:=
 ∀{d a},f d=some a→
  Calls PG 119 #[I d] c fun g h=>∃l,g=.returned (.tuple #[I a.1,I a.2])∧AS [] e c l h
def HH.Spec(f:Int→Option (Int×Int)):Prop:=
 ∀a c,HH.At a c f
theorem SO(d:Col)(r:World)(g:∀b,d b<10):HH.At d r HH:=by
 intro c s a
 rw [HH] at a
 refine Ay Tryz.func119 Z Tryz.ntmps119 Z fun B h ai=>Sr<|Va (I 0)<|Va (I 0)<|AA<|AR<|Sr<|Vm<|AA<|Af<|Am (fun n o=>∃f e p,n=Env.puts f [(4,I c),(5,.bool p)]∧H5 c p=some s∧AS [] d r e o) ?_ ?_
 refine Sr<|Vr (.bool (c==8))<|Va (.bool (c==8))<|AA<|Cn a (fun y a=>?_) fun y a=>?_
 refine WC.skip<|⟨_,d,(c==8),Pu,a,Rf⟩
 refine Sr<|Vr (.bool (c==9))<|Va (.bool (c==9))<|AA<|Cn a (fun z a=>?_) fun z a=>?_
 refine WC.skip<|⟨_,d,(c==9),Pu,a,Rf⟩
 refine Sr<|Vr (.bool (c==10))<|Va (.bool (c==10))<|AA<|Cn a (fun aa a=>?_) fun aa a=>?_
 refine WC.skip<|⟨_,d,(c==10),Pu,a,Rf⟩
 refine Sr<|Vr (.bool (c==11))<|Va (.bool (c==11))<|AA<|Cn a (fun ab a=>?_) fun ab a=>?_
 refine WC.skip<|⟨_,d,(c==11),Pu,a,Rf⟩
 refine Sr<|Vr (.bool (c==12))<|Va (.bool (c==12))<|AA<|Cn a (fun ac a=>?_) fun ac a=>?_
 refine WC.skip<|⟨_,d,(c==12),Pu,a,Rf⟩
 refine AL<|Vr (.bool (c==13))<|Va (.bool (c==13))<|AA<|⟨_,d,(c==13),Pu,a,Rf⟩
 rintro _ o ⟨f,e,p,rfl,a,l⟩
 rw [H5] at a
 refine Cn a (fun ad a=>?_) fun ad a=>?_
 refine Sr<|Va (I 2)<|Va (I 1)<|AA<|AQ ?_
 obtain rfl:=AK a
 refine O2 B h Z (.tmp Z) (.tmp Z)<|⟨e,Z,Ho (Mo [] l) g⟩
 refine Sr<|Vr (.bool (c==14))<|Va (.bool (c==14))<|AA<|Cn a (fun ae a=>?_) fun ae a=>?_
 refine Sr<|Va (I 1)<|Va (I 2)<|AA<|AQ ?_
 obtain rfl:=AK a
 refine O2 B h Z (.tmp Z) (.tmp Z)<|⟨e,Z,Ho (Mo [] l) g⟩
 refine Am (fun n u=>∃f m q,n=Env.puts f [(14,.bool q)]∧K6 q=some s∧AS [] e o m u) ?_ ?_
 refine Sr<|Vr (.bool (c==15))<|Va (.bool (c==15))<|AA<|Cn a (fun af a=>?_) fun af a=>?_
 refine WC.skip<|⟨_,e,(c==15),Pu,a,Rf⟩
 refine Sr<|Vr (.bool (c==16))<|Va (.bool (c==16))<|AA<|Cn a (fun ag a=>?_) fun ag a=>?_
 refine WC.skip<|⟨_,e,(c==16),Pu,a,Rf⟩
 refine AL<|Vr (.bool (c==17))<|Va (.bool (c==17))<|AA<|⟨_,e,(c==17),Pu,a,Rf⟩
 rintro _ u ⟨f,m,q,rfl,a,w⟩
 rw [K6] at a
 refine Cn a (fun ah a=>?_) fun ah a=>?_
 refine Sr<|Va (I 1)<|Va (I 1)<|AA<|AQ ?_
 obtain rfl:=AK a
 refine O2 B h Z (.tmp Z) (.tmp Z)<|⟨m,Z,Ho (Tn (Mo [] l) w) g⟩
 refine WC.skip<|Sr<|Va (I 0)<|Va (I 0)<|AA<|AQ ?_
 obtain rfl:=AK a
 refine O2 B h Z (.tmp Z) (.tmp Z)<|⟨m,Z,Ho (Tn (Mo [] l) w) g⟩
theorem Tv:HH.Spec HH:=lk0 (SO)
def JQ.At(c:Col)(a:World)(f:Ad→Ad→Option (Ad×Int)):Prop:=
 ∀{e g h l d},f e h=some d→Bh.rep c.F a g e→Bh.rep c.F a l h→
  Calls PG 121 #[Ag g,Ag l] a fun p m=>∃n o,p=.returned (.tuple #[Ag o,I d.2])∧AS [] c a n m∧Bh.rep n.F m o d.1
def JQ.Spec(f:Ad→Ad→Option (Ad×Int)):Prop:=
 ∀a c,JQ.At a c f
theorem Uo(f:Col)(o:World)(p:∀b,f b<10):JQ.At f o JQ:=by
 intro c ak d al am e q r
 rw [JQ] at e
 obtain rfl:=A6 q
 obtain rfl:=A6 r
 refine Ay Tryz.func121 Z Tryz.ntmps121 Z fun B s an=>Sr<|Ef<|A0 f 20 Z Z fun u ao ap w y=>Ef<|A0 u 21 Z Z fun z aq ar aa h=>Ef<|AY z 22 Ee Z fun ab ac au ad g=>Va (I 0)<|AA<|Sr<|Vx (Fz DS Z)<|have l:=Y2 w h g;Vx (Ld BC Z (Bc l Z))<|Vx (Fz DS Z)<|have m:=Bs aa g;Vx (Ld BC Z (Bc m Z))<|Vr (I (Wr (c.re+d.re)))<|Vx (Fd DT Z)<|Vx (Ld BC Z (Bc l Z))<|Vx (Fd DT Z)<|Vx (Ld BC Z (Bc m Z))<|Vr (I (Wr (c.im+d.im)))<|Vx (v:=Ag [I (Wr (c.re+d.re)),I (Wr (c.im+d.im))]) (Bp Ee KQ Z (.cons Z Z Z (.cons Z Z Z .nil)))<|Bi e fun a ae e=>Ca (Cg [Ag [I (Wr (c.re+d.re)),I (Wr (c.im+d.im))]] Z) (Mk ab ac ae (BF (x:=(Ad.mk (Wr (c.re+d.re)) (Wr (c.im+d.im)))))) ?_
 rintro _ av ⟨af,aw,rfl,n,ag⟩
 obtain rfl:=A6 ag
 refine Vr (Ag [I a.1.re,I a.1.im])<|Vr (I a.2)<|have ah:=Bs ad n;Eu<|St HM ah Z Z Z Z fun ax ai aj=>Va (I a.2)<|AA<|AQ ?_
 obtain rfl:=AK e
 refine O2 B s Z (.agg D7 Z Z (Bw ai)) (.tmp Z)<|⟨af,[I a.1.re,I a.1.im],Z,Ho (T4 (Mo [22] y) h g n aj) p,(BF (x:=a.1))⟩
theorem V3:JQ.Spec JQ:=lk0 (Uo)
def CY.At(d:Col)(a:World)(f:Ad→Int→Option (AF×Int)):Prop:=
 ∀{e g h c},f e h=some c→Bh.rep d.F a g e→
  Calls PG 120 #[Ag g,I h] a fun o l=>∃m n,o=.returned (.tuple #[Ag n,I c.2])∧AS [] d a m l∧Ao.rep m.F l n c.1
def CY.Spec(f:Ad→Int→Option (AF×Int)):Prop:=
 ∀a c,CY.At a c f
theorem RK(e:Col)(q:World)(g:∀b,e b<10):CY.At e q CY:=by
 intro c ah h ai a r
 rw [CY] at a
 obtain rfl:=A6 r
 refine Ay Tryz.func120 Z Tryz.ntmps120 Z fun B l aj=>Sr<|Ef<|A0 e 20 Z Z fun s ak al u m=>Ef<|AY s 21 CS Z fun n w am o f=>Va (I 0)<|AA<|AR<|Sr<|Vm<|Vr (.bool (h != 0))<|AA<|Cn a (fun y a=>?_) fun y a=>?_
 refine Sr<|Vx (v:=Ag [I 0,Cx (((0,0):Nat×Nat)),.bool false,.slice none 0 0]) (Bp CS F7 Z .nil)<|Vm<|Eu<|St Cw o Z Z Z Z fun an z aa=>Va (I h)<|AA<|AQ ?_
 obtain rfl:=AK a
 refine O2 B l Z (.agg B0 Z Z (Bw z)) (.tmp Z)<|⟨n,[I 0,Cx (((0,0):Nat×Nat)),.bool false,.slice none 0 0],Z,Ho (T2 (Mo [21] m) f aa) g,(Al (x:=(AF.mk 0 ((0,0):Nat×Nat) false [])) BK)⟩
 refine WC.skip<|Sr<|have ab:=Bs u f;Vx (Lx D7 Z Z (Bw ab))<|Bi a fun d ac a=>Ca (Cg [Ag [I c.re,I c.im]] Z) (MH n w ac (BF (x:=c))) ?_
 rintro _ ao ⟨ad,rfl,p⟩
 refine Vx (v:=Ag [I 1,Cx d,.bool false,.slice none 0 0]) (Bp CS F7 Z (.cons Z Z Z (.cons Z Z Z .nil)))<|have ae:=Bs o p;Eu<|St Cw ae Z Z Z Z fun ap af ag=>Va (I 0)<|AA<|AQ ?_
 obtain rfl:=AK a
 refine O2 B l Z (.agg B0 Z Z (Bw af)) (.tmp Z)<|⟨ad,[I 1,Cx d,.bool false,.slice none 0 0],Z,Ho (T3 (Mo [21] m) f p ag) g,(Al (x:=(AF.mk 1 d false [])) BK)⟩
theorem IS:CY.Spec CY:=lk0 (RK)
def JR.At(c:Col)(a:World)(f:Ad→Ad→Option (Ad×Int)):Prop:=
 ∀{e g h l d},f e h=some d→Bh.rep c.F a g e→Bh.rep c.F a l h→
  Calls PG 122 #[Ag g,Ag l] a fun p m=>∃n o,p=.returned (.tuple #[Ag o,I d.2])∧AS [] c a n m∧Bh.rep n.F m o d.1
def JR.Spec(f:Ad→Ad→Option (Ad×Int)):Prop:=
 ∀a c,JR.At a c f
theorem Uq(f:Col)(o:World)(p:∀b,f b<10):JR.At f o JR:=by
 intro c ak d al am e q r
 rw [JR] at e
 obtain rfl:=A6 q
 obtain rfl:=A6 r
 refine Ay Tryz.func122 Z Tryz.ntmps122 Z fun B s an=>Sr<|Ef<|A0 f 20 Z Z fun u ao ap w y=>Ef<|A0 u 21 Z Z fun z aq ar aa h=>Ef<|AY z 22 Ee Z fun ab ac au ad g=>Va (I 0)<|AA<|Sr<|Vx (Fz DS Z)<|have l:=Y2 w h g;Vx (Ld BC Z (Bc l Z))<|Vx (Fz DS Z)<|have m:=Bs aa g;Vx (Ld BC Z (Bc m Z))<|Vr (I (Wr (c.re - d.re)))<|Vx (Fd DT Z)<|Vx (Ld BC Z (Bc l Z))<|Vx (Fd DT Z)<|Vx (Ld BC Z (Bc m Z))<|Vr (I (Wr (c.im - d.im)))<|Vx (v:=Ag [I (Wr (c.re - d.re)),I (Wr (c.im - d.im))]) (Bp Ee KQ Z (.cons Z Z Z (.cons Z Z Z .nil)))<|Bi e fun a ae e=>Ca (Cg [Ag [I (Wr (c.re - d.re)),I (Wr (c.im - d.im))]] Z) (Mk ab ac ae (BF (x:=(Ad.mk (Wr (c.re - d.re)) (Wr (c.im - d.im)))))) ?_
 rintro _ av ⟨af,aw,rfl,n,ag⟩
 obtain rfl:=A6 ag
 refine Vr (Ag [I a.1.re,I a.1.im])<|Vr (I a.2)<|have ah:=Bs ad n;Eu<|St HM ah Z Z Z Z fun ax ai aj=>Va (I a.2)<|AA<|AQ ?_
 obtain rfl:=AK e
 refine O2 B s Z (.agg D7 Z Z (Bw ai)) (.tmp Z)<|⟨af,[I a.1.re,I a.1.im],Z,Ho (T4 (Mo [22] y) h g n aj) p,(BF (x:=a.1))⟩
theorem V4:JR.Spec JR:=lk0 (Uq)
def JS.At(c:Col)(a:World)(f:Ad→Ad→Option (Ad×Int)):Prop:=
 ∀{e g h l d},f e h=some d→Bh.rep c.F a g e→Bh.rep c.F a l h→
  Calls PG 123 #[Ag g,Ag l] a fun p m=>∃n o,p=.returned (.tuple #[Ag o,I d.2])∧AS [] c a n m∧Bh.rep n.F m o d.1
def JS.Spec(f:Ad→Ad→Option (Ad×Int)):Prop:=
 ∀a c,JS.At a c f
theorem Ur(h:Col)(o:World)(p:∀b,h b<10):JS.At h o JS:=by
 intro a ak c al am e q r
 rw [JS] at e
 obtain rfl:=A6 q
 obtain rfl:=A6 r
 refine Ay Tryz.func123 Z Tryz.ntmps123 Z fun B s an=>Sr<|Ef<|A0 h 20 Z Z fun u ao ap w y=>Ef<|A0 u 21 Z Z fun z aq ar aa m=>Ef<|AY z 22 Ee Z fun ab ac au ad l=>Va (I 0)<|AA<|Sr<|Vx (Fz DS Z)<|have f:=Y2 w m l;Vx (Ld BC Z (Bc f Z))<|Vx (Fz DS Z)<|have g:=Bs aa l;Vx (Ld BC Z (Bc g Z))<|Vr (I (Wr (a.re*c.re)))<|Vx (Fd DT Z)<|Vx (Ld BC Z (Bc f Z))<|Vx (Fd DT Z)<|Vx (Ld BC Z (Bc g Z))<|Vr (I (Wr (a.im*c.im)))<|Vr (I (Wr ((Wr (a.re*c.re)) - (Wr (a.im*c.im)))))<|Vx (Fz DS Z)<|Vx (Ld BC Z (Bc f Z))<|Vx (Fd DT Z)<|Vx (Ld BC Z (Bc g Z))<|Vr (I (Wr (a.re*c.im)))<|Vx (Fd DT Z)<|Vx (Ld BC Z (Bc f Z))<|Vx (Fz DS Z)<|Vx (Ld BC Z (Bc g Z))<|Vr (I (Wr (a.im*c.re)))<|Vr (I (Wr ((Wr (a.re*c.im))+(Wr (a.im*c.re)))))<|Vx (v:=Ag [I (Wr ((Wr (a.re*c.re)) - (Wr (a.im*c.im)))),I (Wr ((Wr (a.re*c.im))+(Wr (a.im*c.re))))]) (Bp Ee KQ Z (.cons Z Z Z (.cons Z Z Z .nil)))<|Bi e fun d ae e=>Ca (Cg [Ag [I (Wr ((Wr (a.re*c.re)) - (Wr (a.im*c.im)))),I (Wr ((Wr (a.re*c.im))+(Wr (a.im*c.re))))]] Z) (Mk ab ac ae (BF (x:=(Ad.mk (Wr ((Wr (a.re*c.re)) - (Wr (a.im*c.im)))) (Wr ((Wr (a.re*c.im))+(Wr (a.im*c.re)))))))) ?_
 rintro _ av ⟨af,aw,rfl,n,ag⟩
 obtain rfl:=A6 ag
 refine Vr (Ag [I d.1.re,I d.1.im])<|Vr (I d.2)<|have ah:=Bs ad n;Eu<|St HM ah Z Z Z Z fun ax ai aj=>Va (I d.2)<|AA<|AQ ?_
 obtain rfl:=AK e
 refine O2 B s Z (.agg D7 Z Z (Bw ai)) (.tmp Z)<|⟨af,[I d.1.re,I d.1.im],Z,Ho (T4 (Mo [22] y) m l n aj) p,(BF (x:=d.1))⟩
theorem V5:JS.Spec JS:=lk0 (Ur)
def JT.At(c:Col)(a:World)(f:Ad→Ad→Option (Ad×Int)):Prop:=
 ∀{e g h l d},f e h=some d→Bh.rep c.F a g e→Bh.rep c.F a l h→
  Calls PG 124 #[Ag g,Ag l] a fun p m=>∃n o,p=.returned (.tuple #[Ag o,I d.2])∧AS [] c a n m∧Bh.rep n.F m o d.1
def JT.Spec(f:Ad→Ad→Option (Ad×Int)):Prop:=
 ∀a c,JT.At a c f
theorem Us(u:Col)(ah:World)(z:∀b,u b<10):JT.At u ah JT:=by
 intro c a8 a a9 ai d aj ak
 rw [JT] at d
 obtain rfl:=A6 aj
 obtain rfl:=A6 ak
 refine Ay Tryz.func124 Z Tryz.ntmps124 Z fun B aa g=>Sr<|Ef<|A0 u 20 Z Z fun al ba bb am ab=>Ef<|A0 al 21 Z Z fun an bc bd ao w=>Ef<|AY an 22 Ee Z fun o ap aq ac p=>Va (I 0)<|AA<|Sr<|Vx (Fz DS Z)<|have m:=Bs ao p;Vx (Ld BC Z (Bc m Z))<|Vx (Fz DS Z)<|Vx (Ld BC Z (Bc m Z))<|Vr (I (Wr (a.re*a.re)))<|Vx (Fd DT Z)<|Vx (Ld BC Z (Bc m Z))<|Vx (Fd DT Z)<|Vx (Ld BC Z (Bc m Z))<|Vr (I (Wr (a.im*a.im)))<|Vr (I (Wr ((Wr (a.re*a.re))+(Wr (a.im*a.im)))))<|Va (I (Wr ((Wr (a.re*a.re))+(Wr (a.im*a.im)))))<|AA<|Sr<|Vx (Fz DS Z)<|have q:=Y2 am w p;Vx (Ld BC Z (Bc q Z))<|Vx (Fz DS Z)<|Vx (Ld BC Z (Bc m Z))<|Vr (I (Wr (c.re*a.re)))<|Vx (Fd DT Z)<|Vx (Ld BC Z (Bc q Z))<|Vx (Fd DT Z)<|Vx (Ld BC Z (Bc m Z))<|Vr (I (Wr (c.im*a.im)))<|Vr (I (Wr ((Wr (c.re*a.re))+(Wr (c.im*a.im)))))<|Va (I (Wr ((Wr (c.re*a.re))+(Wr (c.im*a.im)))))<|AA<|Sr<|Vx (Fd DT Z)<|Vx (Ld BC Z (Bc q Z)) ?_
 refine Vx (Fz DS Z)<|Vx (Ld BC Z (Bc m Z))<|Vr (I (Wr (c.im*a.re)))<|Vx (Fz DS Z)<|Vx (Ld BC Z (Bc q Z))<|Vx (Fd DT Z)<|Vx (Ld BC Z (Bc m Z))<|Vr (I (Wr (c.re*a.im)))<|Vr (I (Wr ((Wr (c.im*a.re)) - (Wr (c.re*a.im)))))<|Va (I (Wr ((Wr (c.im*a.re)) - (Wr (c.re*a.im)))))<|AA<|AR<|Am (fun ar ad=>∃ae n y,ar=Env.puts ae [(4,Pt aq 0),(6,I (Wr ((Wr (a.re*a.re))+(Wr (a.im*a.im))))),(7,I (Wr ((Wr (c.re*a.re))+(Wr (c.im*a.im))))),(8,I (Wr ((Wr (c.im*a.re)) - (Wr (c.re*a.im))))),(55,.bool y)]∧LL c a y=some ai∧AS [] o ap n ad) ?_ ?_
 refine AL<|Vm<|Vr (.bool ((Wr ((Wr (a.re*a.re))+(Wr (a.im*a.im))))==0))<|Vm<|Bo d (fun e d=>?_) fun e d=>?_
 refine Pg e<|Pg e<|Pg e<|Pg e<|Vp e<|Vm<|Pg Z<|Pg Z<|Pg Z<|Pg Z<|Vr (.bool true)<|AA<|⟨_,o,true,Pu,d,Rf⟩
 refine Gm e<|Gm e<|Bi d fun be au d=>Gx e (v:=I ((IntKind.i64.wrap ((Wr (c.re*a.re))+(Wr (c.im*a.im)))).tmod (Wr ((Wr (a.re*a.re))+(Wr (a.im*a.im)))))) (Run.rem Z Z (Pb au))<|Gr e (.bool (((IntKind.i64.wrap ((Wr (c.re*a.re))+(Wr (c.im*a.im)))).tmod (Wr ((Wr (a.re*a.re))+(Wr (a.im*a.im))))) != 0))<|Vp e<|Vm<|Bo d (fun f d=>?_) fun f d=>?_
 refine Pg f<|Pg f<|Pg f<|Pg f<|Vp f<|AA<|⟨_,o,true,Pu,d,Rf⟩
 refine Gm f<|Gm f<|Bi d fun bf av d=>Gx f (v:=I ((IntKind.i64.wrap ((Wr (c.im*a.re)) - (Wr (c.re*a.im)))).tmod (Wr ((Wr (a.re*a.re))+(Wr (a.im*a.im)))))) (Run.rem Z Z (Pb av))<|Gr f (.bool (((IntKind.i64.wrap ((Wr (c.im*a.re)) - (Wr (c.re*a.im)))).tmod (Wr ((Wr (a.re*a.re))+(Wr (a.im*a.im))))) != 0))<|Vp f<|AA<|⟨_,o,(((IntKind.i64.wrap ((Wr (c.im*a.re)) - (Wr (c.re*a.im)))).tmod (Wr ((Wr (a.re*a.re))+(Wr (a.im*a.im))))) != 0),Pu,d,Rf⟩
 rintro _ ad ⟨ae,n,y,rfl,d,r⟩
 rw [LL] at d
 refine Cn d (fun aw d=>?_) fun aw d=>?_
 refine Sr<|Vx (v:=Ag [I 0,I 0]) (Bp Ee KQ Z .nil)<|have ax:=Bs ac r;Eu<|St HM ax Z Z Z Z fun bg ay az=>Va (I 51)<|AA<|AQ ?_
 obtain rfl:=AK d
 refine O2 B aa Z (.agg D7 Z Z (Bw ay)) (.tmp Z)<|⟨n,[I 0,I 0],Z,Ho (T4 (Mo [22] ab) w p r az) z,(BF (x:=(Ad.mk 0 0)))⟩
 refine WC.skip<|AR<|BW Cv (qs 0 7 (.one 7 (.q 8 (.q 9 (.one 10 (.q 11 .nil)))))) [] [22] n (by kernel_rfl) fun a0 af=>Qx g Z (v:=I (Wr ((Wr (c.re*a.re))+(Wr (c.im*a.im))))) (fun _ _=>Mv Z)<|Qx g Z (v:=I (Wr ((Wr (a.re*a.re))+(Wr (a.im*a.im))))) (fun _ _=>Mv Z)<|Bi d fun bh a1 d=>Qx g Z (v:=I (Wr ((IntKind.i64.wrap ((Wr (c.re*a.re))+(Wr (c.im*a.im)))).tdiv (Wr ((Wr (a.re*a.re))+(Wr (a.im*a.im))))))) (fun _ _=>(Run.quo Z Z (Pb a1)))<|Qx g Z (v:=I (Wr ((Wr (c.im*a.re)) - (Wr (c.re*a.im))))) (fun _ _=>Mv Z)<|Qx g Z (v:=I (Wr ((Wr (a.re*a.re))+(Wr (a.im*a.im))))) (fun _ _=>Mv Z)<|Bi d fun bi a2 d=>Qx g Z (v:=I (Wr ((IntKind.i64.wrap ((Wr (c.im*a.re)) - (Wr (c.re*a.im)))).tdiv (Wr ((Wr (a.re*a.re))+(Wr (a.im*a.im))))))) (fun _ _=>(Run.quo Z Z (Pb a2)))<|Qx g Z (v:=Ag [I (Wr ((IntKind.i64.wrap ((Wr (c.re*a.re))+(Wr (c.im*a.im)))).tdiv (Wr ((Wr (a.re*a.re))+(Wr (a.im*a.im)))))),I (Wr ((IntKind.i64.wrap ((Wr (c.im*a.re)) - (Wr (c.re*a.im)))).tdiv (Wr ((Wr (a.re*a.re))+(Wr (a.im*a.im))))))]) (fun _ _=>B3 (cs:=[I (Wr ((IntKind.i64.wrap ((Wr (c.re*a.re))+(Wr (c.im*a.im)))).tdiv (Wr ((Wr (a.re*a.re))+(Wr (a.im*a.im)))))),I (Wr ((IntKind.i64.wrap ((Wr (c.im*a.re)) - (Wr (c.re*a.im)))).tdiv (Wr ((Wr (a.re*a.re))+(Wr (a.im*a.im))))))]) [I 0,I 0] Ee KQ Z (.cons Z Z Z (.cons Z Z Z .nil)) Z Z)<|A1 Z<|Bi d fun l a3 d=>A3 Z (.none Z) Z Z (Cg [Ag [I (Wr ((IntKind.i64.wrap ((Wr (c.re*a.re))+(Wr (c.im*a.im)))).tdiv (Wr ((Wr (a.re*a.re))+(Wr (a.im*a.im)))))),I (Wr ((IntKind.i64.wrap ((Wr (c.im*a.re)) - (Wr (c.re*a.im)))).tdiv (Wr ((Wr (a.re*a.re))+(Wr (a.im*a.im))))))]] Z)<|Calls.mono (Mk n a0 a3 (BF (x:=(Ad.mk (Wr ((IntKind.i64.wrap ((Wr (c.re*a.re))+(Wr (c.im*a.im)))).tdiv (Wr ((Wr (a.re*a.re))+(Wr (a.im*a.im)))))) (Wr ((IntKind.i64.wrap ((Wr (c.im*a.re)) - (Wr (c.re*a.im)))).tdiv (Wr ((Wr (a.re*a.re))+(Wr (a.im*a.im)))))))))) ?_
 rintro _ bj ⟨a4,bk,rfl,s,a5⟩
 obtain rfl:=A6 a5
 refine ⟨_,Z,⟨_,(Mo [22] s)⟩,?_⟩
 refine Qx g Z (v:=Ag [I l.1.re,I l.1.im]) (fun _ _=>Z)<|Qx g Z (v:=I l.2) (fun _ _=>Z)<|A1 Z<|have a6:=Y3 ac r af s;BM Z (.none Z) Z<|St HM a6 Z Z Z Z fun bl a7 ag=>⟨⟨_,(Tn (Mo [22] s) ag)⟩,?_⟩
 refine Qx g Z (v:=I l.2) (fun _ _=>Run.assign Z)<|B9<|AQ ?_
 obtain rfl:=AK d
 refine O2 B aa Z (.agg D7 Z Z (Bw a7)) (.tmp Z)<|⟨a4,[I l.1.re,I l.1.im],Z,Ho (T2 (T4 (Mo [22] ab) w p r af) s ag) z,(BF (x:=l.1))⟩
theorem V6:JT.Spec JT:=lk0 (Us)
def HI.At(l:Col)(c:World)(f:Bool→Option (AF×Int)):Prop:=
 ∀{d a},f d=some a→
  Calls PG 125 #[.bool d] c fun m e=>∃g h,m=.returned (.tuple #[Ag h,I a.2])∧AS [] l c g e∧Ao.rep g.F e h a.1
def HI.Spec(f:Bool→Option (AF×Int)):Prop:=
 ∀a c,HI.At a c f
theorem SP(c:Col)(e:World)(f:∀b,c b<10):HI.At c e HI:=by
 intro a p d
 rw [HI] at d
 refine Ay Tryz.func125 Z Tryz.ntmps125 Z fun B g q=>Sr<|Ef<|AY c 20 CS Z fun h r s l m=>Va (I 0)<|AA<|Sr<|Vm<|Vx (v:=Ag [I 2,Cx (((0,0):Nat×Nat)),.bool a,.slice none 0 0]) (Bp CS F7 Z (.cons Z Z Z (.cons Z Z Z .nil)))<|Eu<|St Cw l Z Z Z Z fun u n o=>Va (I 0)<|AA<|AQ ?_
 obtain rfl:=AK d
 refine O2 B g Z (.agg B0 Z Z (Bw n)) (.tmp Z)<|⟨h,[I 2,Cx (((0,0):Nat×Nat)),.bool a,.slice none 0 0],Z,Ho (Tn (Mo [20] m) o) f,(Al (x:=(AF.mk 2 ((0,0):Nat×Nat) a [])) BK)⟩
theorem NI:HI.Spec HI:=lk0 (SP)
def IN.At(c:Col)(a:World)(f:Ad→Ad→Option Bool):Prop:=
 ∀{d e g h l},f d g=some l→Bh.rep c.F a e d→Bh.rep c.F a h g→
  Calls PG 126 #[Ag e,Ag h] a fun m n=>∃o,m=.returned (.bool l)∧AS [] c a o n
def IN.Spec(f:Ad→Ad→Option Bool):Prop:=
 ∀a c,IN.At a c f
theorem Tw(h:Col)(s:World)(u:∀b,h b<10):IN.At h s IN:=by
 intro e ah f ai w c y z
 rw [IN] at c
 obtain rfl:=A6 y
 obtain rfl:=A6 z
 refine Ay Tryz.func126 Z Tryz.ntmps126 Z fun B aa aj=>Sr<|Ef<|A0 h 20 Z Z fun ab ak al ac ad=>Ef<|A0 ab 21 Z Z fun g ae am l p=>Va (.bool false)<|AA<|Am (fun af q=>∃r m n,af=Env.puts r [(4,.bool n)]∧Ki n=some w∧AS [] g ae m q) ?_ ?_
 refine AL<|Vx (Fz DS Z)<|have o:=Bs ac p;Vx (Ld BC Z (Bc o Z))<|Vx (Fz DS Z)<|Vx (Ld BC Z (Bc l Z))<|Vr (.bool (decide (e.re<f.re)))<|Vm<|Bo c (fun a c=>?_) fun a c=>?_
 refine Pg a<|Pg a<|Pg a<|Pg a<|Pg a<|Pg a<|Po<|Po<|Po<|Po<|Po<|Pg a<|Vp a<|Va (.bool true)<|AA<|⟨_,g,true,Pu,c,Rf⟩
 refine Gx a (Fz DS Z)<|Gx a (Ld BC Z (Bc o Z))<|Gx a (Fz DS Z)<|Gx a (Ld BC Z (Bc l Z))<|Gr a (.bool (e.re==f.re))<|Gm a<|Bo c (fun d c=>?_) fun d c=>?_
 refine Gx d (Fd DT Z)<|Gx d (Ld BC Z (Bc o Z))<|Gx d (Fd DT Z)<|Gx d (Ld BC Z (Bc l Z))<|Gr d (.bool (decide (e.im<f.im)))<|Gp a d<|Vp a<|Va (.bool (decide (e.im<f.im)))<|AA<|⟨_,g,(decide (e.im<f.im)),Pu,c,Rf⟩
 refine Pg d<|Pg d<|Pg d<|Pg d<|Pg d<|Gp a d<|Vp a<|Va (.bool false)<|AA<|⟨_,g,false,Pu,c,Rf⟩
 rintro _ q ⟨r,m,n,rfl,c,ag⟩
 rw [Ki] at c
 refine AQ ?_
 obtain rfl:=AK c
 refine O1 B aa Z (.tmp Z)<|⟨m,Z,Ho (T2 (Mo [] ad) p ag) u⟩
theorem Ut:IN.Spec IN:=lk0 (Tw)
def Dc.At(d:Col)(a:World)(f:Int→(List AF)→Option (AF×Int)):Prop:=
 ∀{e g h c},f e g=some c→Slc Ao d.F a h g→
  Calls PG 92 #[I e,h] a fun o l=>∃m n,o=.returned (.tuple #[Ag n,I c.2])∧AS [] d a m l∧Ao.rep m.F l n c.1
def Dc.Spec(f:Int→(List AF)→Option (AF×Int)):Prop:=
 ∀a c,Dc.At a c f
theorem SQ(au:Nat)(b8:Col)(fe:World)(al:∀b,b8 b<10):Dc.At b8 fe (Dc au):=by
 intro g w mo a6 a a7
 rw [Dc] at a
 obtain ⟨bo,bp,rfl⟩:=AT a7
 refine Ay Tryz.func92 Z Tryz.ntmps92 Z fun B am d=>Sr<|Ef<|AY b8 20 CS Z fun ff fg bq an y=>Va (I 0)<|AA<|Sr<|Vm<|Bi a fun h fh a=>Ca (Cg [I g] Z) (Tv ff fg fh) ?_
 rintro _ fi ⟨b9,rfl,l⟩
 refine Vm<|Vr (I h.1)<|Vr (I h.2)<|Va (I h.1)<|Va (I h.2)<|AA<|Am (fun ax ca=>∃ao br bt,ax=Env.puts ao [(0,I g),(1,Sl bo w bp),(4,Pt bq 0),(6,I h.1),(7,I h.2),(8,.bool bt)]∧MB au g w h bt=some a6∧AS [] b9 fi br ca) ?_ ?_
 refine AL<|Vm<|Vr (.bool (decide (h.1>0)))<|Vm<|Bo a (fun ap a=>?_) fun ap a=>?_
 refine Gm ap<|have fj:=K2 Ao a7 y l; ?_
 obtain ⟨mp,mq,fk⟩:=AT fj
 refine Gx ap (v:=I (w.length:Int)) (Ll Ic fk)<|Gm ap<|Gr ap (.bool ((w.length:Int)==h.1))<|Vp ap<|Va (.bool ((w.length:Int)==h.1))<|AA<|⟨_,b9,((w.length:Int)==h.1),Pu,a,Rf⟩
 refine Pg ap<|Pg ap<|Pg ap<|Pg ap<|Vp ap<|Va (.bool false)<|AA<|⟨_,b9,false,Pu,a,Rf⟩
 rintro _ ca ⟨ao,br,bt,rfl,a,o⟩
 rw [MB] at a
 refine Sr<|Va (.slice none 0 0)<|AA<|AR<|Sr<|Va (I 0)<|AA<|Af<|Bg (fun aw ax bu=>∃ao a3 ay m p q z,ax=Env.puts ao [(0,I g),(1,Sl bo w bp),(4,Pt bq 0),(6,I h.1),(7,I h.2),(8,.bool ay),(9,Sl p m q),(10,I z)]∧Bm au g w h aw ay m z=some a6∧AS [21,23] br ca a3 bu∧Own Bh 111 a3 bu 23 (Sl p m q) m) au ?_ ?_
 exact ⟨_,br,bt,([]:List Ad),none,0,0,Pu,a,(AS.refl [21,23] _ _),Own.nil⟩
 rintro aw _ bu ⟨ao,a3,ay,m,p,q,z,rfl,a,n,ar⟩
 rcases aw with _|aw
 exact A5 a
 refine have a:CV au g w h (Bm au g w h aw) ay m z=some a6:=a; ?_
 obtain ⟨d8,d9⟩:∃s,s=Bm au g w h aw:=⟨_,rfl⟩
 rw [←d9,CV] at a
 refine AR<|Am (fun ax aq=>∃ao e cb,ax=Env.puts ao [(0,I g),(1,Sl bo w bp),(4,Pt bq 0),(6,I h.1),(7,I h.2),(8,.bool ay),(9,Sl p m q),(10,I z),(31,.bool cb)]∧K7 au g w h ay m z d8 cb=some a6∧AS [] a3 bu e aq) ?_ ?_
 refine AL<|Vm<|Vm<|Bo a (fun av a=>?_) fun av a=>?_
 refine Gm av<|Gm av<|Gr av (.bool (decide (z<h.1)))<|Vp av<|AA<|⟨_,a3,(decide (z<h.1)),Pu,a,Rf⟩
 refine Pg av<|Pg av<|Pg av<|Vp av<|AA<|⟨_,a3,false,Pu,a,Rf⟩
 rintro _ aq ⟨ao,e,cb,rfl,a,f⟩
 rw [K7] at a
 refine Cn a (fun fl a=>?_) fun fl a=>?_
 refine WC.skip<|AR<|Af<|Am (fun ax bv=>∃ao bw bx,ax=Env.puts ao [(0,I g),(1,Sl bo w bp),(4,Pt bq 0),(6,I h.1),(7,I h.2),(8,.bool bx),(9,Sl p m q),(10,I z)]∧En w m z d8 bx=some a6∧AS [] e aq bw bv) ?_ ?_
 refine AL<|Vm<|Vm<|Bi a fun ak fm a=>have fn:=Ss Ao (K4 Ao a7 y l o n) f; ?_
 obtain ⟨fo,fp,mr,fq,ea,eb,ec,fr,bz⟩:=A8 (κ:=Ao) fn fm
 replace bz:Ax e aq fo (fp+z.toNat*4) fq:=bz
 obtain ⟨ee,ef,rfl,ed⟩:=E1 (Az fr)
 refine Vx (Ix Ic ea Z eb ec)<|Vx (Lx B0 Z Z (Ax.part0 bz [I ak.type_,Cx ak.num,.bool ak.bool,Sl ee ak.list ef] Z))<|Bi a fun mt fs a=>Ca (Cg [Ag [I ak.type_,Cx ak.num,.bool ak.bool,Sl ee ak.list ef]] Z) (LD au e aq fs (Al (x:=ak) ed)) ?_
 rintro _ mu ⟨eg,rfl,cc⟩
 refine Vm<|Bo a (fun r a=>?_) fun r a=>?_
 refine Gm r<|Gm r<|Gx r (Ix Ic ea Z eb ec)<|Gx r (Fz Jd Z)<|have ft:=Es bz cc;Gx r (Ld Ed Z (Ax.cell0 ft Z))<|Gm r<|Gr r (.bool (ak.type_==h.2))<|Vp r<|Va (.bool (ak.type_==h.2))<|AA<|⟨_,eg,(ak.type_==h.2),Pu,a,(Mo [] cc)⟩
 refine Pg r<|Pg r<|Pg r<|Pg r<|Pg r<|Pg r<|Pg r<|Vp r<|Va (.bool false)<|AA<|⟨_,eg,false,Pu,a,(Mo [] cc)⟩
 rintro _ bv ⟨ao,bw,bx,rfl,a,cd⟩
 rw [En] at a
 refine Sr<|Vm<|Vm<|Bi a fun fu fv a=>have fw:=K2 Ao (K4 Ao a7 y l o n) f cd; ?_
 obtain ⟨fx,fy,mv,fz,f0,f1,f2,f3,cf⟩:=A8 (κ:=Ao) fw fv
 replace cf:Ax bw bv fx (fy+z.toNat*4) fz:=cf
 obtain ⟨mx,my,rfl,f4⟩:=E1 (Az f3)
 refine Vx (Ix Ic f0 Z f1 f2)<|Vx (Fd HT Z)<|Vx (Ld HL Z (Ax.cell (k:=1) cf Z))<|Bi a fun u f5 a=>Ca (Cg [Cx fu.num] Z) (NV bw bv f5) ?_
 rintro _ mz ⟨f6,m0,rfl,eh,f7⟩
 obtain rfl:=A6 f7
 refine Vm<|Vr (Ag [I u.1.re,I u.1.im])<|Vr (.bool u.2)<|Ef<|AY f6 21 Ee Z fun f8 m1 m2 f9 ei=>Eu<|St HM f9 Z Z Z Z fun m3 ga ej=>Va (.bool u.2)<|AA<|AL<|Vm<|Vx (Lx D7 Z Z (Bw ga))<|Ef<|Ch (cs:=[I u.1.re,I u.1.im]) f8 22 [[I u.1.re,I u.1.im]] Jf Ee Z Z (.cons Z Z Z .nil) Z fun gb gc gd ge ek=>have gf:Own Bh 111 gb gc 22 (.slice (some ⟨gd,0,none⟩) 1 1) ([u.1]:List Ad):=Own.lit (css:=[[I u.1.re,I u.1.im]]) ge Z Z Z (Aa (BF (x:=u.1)) BA) (A4 Z D3) Z;have gg:=Os (Os (Os (Os (Os (Os ar f) cd) eh) ei) ej) ek;Bi a fun m4 el a=>Ef<|Bu (κ:=Bh) Z Z gg dcd AAY (CC gf) (Et el) (E6 el) fun m5 gh m6 em gi=>?_
 obtain ⟨en,eo,rfl⟩:=Own.len em
 refine Va (Sl en ((m++([u.1]:List Ad))) eo)<|AA<|AL<|Vm<|Vr (I (Wr (z+1)))<|Va (I (Wr (z+1)))<|AA<|⟨aw,Nat.lt_succ_self aw,_,gh,bx,(m++([u.1]:List Ad)),en,eo,(Wr (z+1)),Pu,(d9▸a),(T3 (T4 (Mo [21,23] n) f cd eh ei) ej ek gi),em⟩
 refine Ba<|AR<|Sr<|Vm<|Vr (.bool (!ay))<|AA<|Cn a (fun gj a=>?_) fun gj a=>?_
 refine Sr<|Vx (v:=Ag [I 0,Cx (((0,0):Nat×Nat)),.bool false,.slice none 0 0]) (Bp CS F7 Z .nil)<|have gk:=Y4 an l o n f;Eu<|St Cw gk Z Z Z Z fun m7 gl gm=>Va (I 3)<|AA<|AQ ?_
 obtain rfl:=AK a
 refine O2 B am Z (.agg B0 Z Z (Bw gl)) (.tmp Z)<|⟨e,[I 0,Cx (((0,0):Nat×Nat)),.bool false,.slice none 0 0],Z,Ho (Tn (T4 (Mo [20,21,23] y) l o n f) gm) al,(Al (x:=(AF.mk 0 ((0,0):Nat×Nat) false [])) BK)⟩
 refine WC.skip<|AR<|Sr<|Vm<|AA<|Af<|Sr<|Vr (.bool (g==8))<|Va (.bool (g==8))<|AA<|Cn a (fun gn a=>?_) fun gn a=>?_
 refine AR<|BW Cv (qs 0 6 (.one 6 (.q 7 (.q 8 (.one 9 (.q 10 (.q 11 (.one 12 (.q 13 .nil))))))))) [] [20] e (by kernel_rfl) fun cg ch=>Qx d Z (v:=Sl p m q) (fun _ _=>Mv Z)<|Bi a fun a8 go a=>have ep:=Os (Os ar f) ch; ?_
 obtain ⟨gp,m8,gq,gr,gs,gt,gu,ci⟩:=KL (κ:=Bh) ep go
 replace ci:GD 23 e cg gp (0+(0:Int).toNat*2) gq:=ci
 obtain rfl:=A6 gu
 refine Qx d Z (fun _ _=>Ix Jf gr Z gs gt)<|Qx d Z (fun _ ⟨_,c⟩=>Lx D7 Z Z (GD.part0 (GD.step ci c dcd) [I a8.re,I a8.im] Z))<|Qx d Z (v:=Sl p m q) (fun _ _=>Mv Z)<|Bi a fun a9 gv a=>?_
 obtain ⟨gw,m9,gx,gy,gz,g0,g1,cj⟩:=KL (κ:=Bh) ep gv
 replace cj:GD 23 e cg gw (0+(1:Int).toNat*2) gx:=cj
 obtain rfl:=A6 g1
 refine Qx d Z (fun _ _=>Ix Jf gy Z gz g0)<|Qx d Z (fun _ ⟨_,c⟩=>Lx D7 Z Z (GD.part0 (GD.step cj c dcd) [I a9.re,I a9.im] Z))<|A1 Z<|Bi a fun az g2 a=>A3 Z (.none Z) Z Z (Cg [Ag [I a8.re,I a8.im],Ag [I a9.re,I a9.im]] Z)<|Calls.mono (V3 e cg g2 (BF (x:=a8)) (BF (x:=a9))) ?_
 rintro _ g3 ⟨g4,na,rfl,ba,g5⟩
 obtain rfl:=A6 g5
 refine ⟨_,Z,⟨_,(Mo [20] ba)⟩,?_⟩
 refine Qx d Z (v:=Ag [I az.1.re,I az.1.im]) (fun _ _=>Z)<|Qx d Z (v:=I az.2) (fun _ _=>Z)<|A1 Z<|Bi a fun aa g6 a=>A3 Z (.none Z) Z Z (Cg [Ag [I az.1.re,I az.1.im],I az.2] Z)<|Calls.mono (IS g4 g3 g6 (BF (x:=az.1))) ?_
 rintro _ nb ⟨g7,nc,rfl,b0,g8⟩
 obtain ⟨ck,cl,rfl,eq⟩:=E1 (Az g8)
 refine ⟨_,Z,⟨_,(Tn (Mo [20] ba) b0)⟩,?_⟩
 refine Qx d Z (v:=Ag [I aa.1.type_,Cx aa.1.num,.bool aa.1.bool,Sl ck aa.1.list cl]) (fun _ _=>Z)<|Qx d Z (v:=I aa.2) (fun _ _=>Z)<|A1 Z<|have g9:=Y3 (Y4 an l o n f) ch ba b0;BM Z (.none Z) Z<|St Cw g9 Z Z Z Z fun ne ha cm=>⟨⟨_,(T2 (Mo [20] ba) b0 cm)⟩,?_⟩
 refine Qx d Z (v:=I aa.2) (fun _ _=>Run.assign Z)<|B9<|AQ ?_
 obtain rfl:=AK a
 refine O2 B am Z (.agg B0 Z Z (Bw ha)) (.tmp Z)<|have hb:=Ss Kd.cpx eq cm;⟨g7,[I aa.1.type_,Cx aa.1.num,.bool aa.1.bool,Sl ck aa.1.list cl],Z,Ho (T4 (T4 (Mo [20,21,23] y) l o n f) ch ba b0 cm) al,(Al (x:=aa.1) hb)⟩
 refine Sr<|Vr (.bool (g==9))<|Va (.bool (g==9))<|AA<|Cn a (fun hc a=>?_) fun hc a=>?_
 refine AR<|BW Cv (qs 0 6 (.one 6 (.q 7 (.q 8 (.one 9 (.q 10 (.q 11 (.one 12 (.q 13 .nil))))))))) [] [20] e (by kernel_rfl) fun cn co=>Qx d Z (v:=Sl p m q) (fun _ _=>Mv Z)<|Bi a fun bb hd a=>have er:=Os (Os ar f) co; ?_
 obtain ⟨he,nf,hf,hg,hh,hi,hj,cq⟩:=KL (κ:=Bh) er hd
 replace cq:GD 23 e cn he (0+(0:Int).toNat*2) hf:=cq
 obtain rfl:=A6 hj
 refine Qx d Z (fun _ _=>Ix Jf hg Z hh hi)<|Qx d Z (fun _ ⟨_,c⟩=>Lx D7 Z Z (GD.part0 (GD.step cq c dcd) [I bb.re,I bb.im] Z))<|Qx d Z (v:=Sl p m q) (fun _ _=>Mv Z)<|Bi a fun bc hk a=>?_
 obtain ⟨hl,ng,hm,hn,ho,hp,hq,cr⟩:=KL (κ:=Bh) er hk
 replace cr:GD 23 e cn hl (0+(1:Int).toNat*2) hm:=cr
 obtain rfl:=A6 hq
 refine Qx d Z (fun _ _=>Ix Jf hn Z ho hp)<|Qx d Z (fun _ ⟨_,c⟩=>Lx D7 Z Z (GD.part0 (GD.step cr c dcd) [I bc.re,I bc.im] Z))<|A1 Z<|Bi a fun a0 hr a=>A3 Z (.none Z) Z Z (Cg [Ag [I bb.re,I bb.im],Ag [I bc.re,I bc.im]] Z)<|Calls.mono (V4 e cn hr (BF (x:=bb)) (BF (x:=bc))) ?_
 rintro _ hs ⟨ht,nh,rfl,bd,hu⟩
 obtain rfl:=A6 hu
 refine ⟨_,Z,⟨_,(Mo [20] bd)⟩,?_⟩
 refine Qx d Z (v:=Ag [I a0.1.re,I a0.1.im]) (fun _ _=>Z)<|Qx d Z (v:=I a0.2) (fun _ _=>Z)<|A1 Z<|Bi a fun ab hw a=>A3 Z (.none Z) Z Z (Cg [Ag [I a0.1.re,I a0.1.im],I a0.2] Z)<|Calls.mono (IS ht hs hw (BF (x:=a0.1))) ?_
 rintro _ ni ⟨hx,nj,rfl,b1,hy⟩
 obtain ⟨ct,cu,rfl,es⟩:=E1 (Az hy)
 refine ⟨_,Z,⟨_,(Tn (Mo [20] bd) b1)⟩,?_⟩
 refine Qx d Z (v:=Ag [I ab.1.type_,Cx ab.1.num,.bool ab.1.bool,Sl ct ab.1.list cu]) (fun _ _=>Z)<|Qx d Z (v:=I ab.2) (fun _ _=>Z)<|A1 Z<|have hz:=Y3 (Y4 an l o n f) co bd b1;BM Z (.none Z) Z<|St Cw hz Z Z Z Z fun nl h0 cv=>⟨⟨_,(T2 (Mo [20] bd) b1 cv)⟩,?_⟩
 refine Qx d Z (v:=I ab.2) (fun _ _=>Run.assign Z)<|B9<|AQ ?_
 obtain rfl:=AK a
 refine O2 B am Z (.agg B0 Z Z (Bw h0)) (.tmp Z)<|have h1:=Ss Kd.cpx es cv;⟨hx,[I ab.1.type_,Cx ab.1.num,.bool ab.1.bool,Sl ct ab.1.list cu],Z,Ho (T4 (T4 (Mo [20,21,23] y) l o n f) co bd b1 cv) al,(Al (x:=ab.1) h1)⟩
 refine Sr<|Vr (.bool (g==10))<|Va (.bool (g==10))<|AA<|Cn a (fun h2 a=>?_) fun h2 a=>?_
 refine AR<|BW Cv (qs 0 6 (.one 6 (.q 7 (.q 8 (.one 9 (.q 10 (.q 11 (.one 12 (.q 13 .nil))))))))) [] [20] e (by kernel_rfl) fun cw cx=>Qx d Z (v:=Sl p m q) (fun _ _=>Mv Z)<|Bi a fun be h3 a=>have et:=Os (Os ar f) cx; ?_
 obtain ⟨h4,nm,h5,h6,h7,h8,h9,cy⟩:=KL (κ:=Bh) et h3
 replace cy:GD 23 e cw h4 (0+(0:Int).toNat*2) h5:=cy
 obtain rfl:=A6 h9
 refine Qx d Z (fun _ _=>Ix Jf h6 Z h7 h8)<|Qx d Z (fun _ ⟨_,c⟩=>Lx D7 Z Z (GD.part0 (GD.step cy c dcd) [I be.re,I be.im] Z))<|Qx d Z (v:=Sl p m q) (fun _ _=>Mv Z)<|Bi a fun bf ia a=>?_
 obtain ⟨ib,np,ic,id,ie,ig,ih,cz⟩:=KL (κ:=Bh) et ia
 replace cz:GD 23 e cw ib (0+(1:Int).toNat*2) ic:=cz
 obtain rfl:=A6 ih
 refine Qx d Z (fun _ _=>Ix Jf id Z ie ig)<|Qx d Z (fun _ ⟨_,c⟩=>Lx D7 Z Z (GD.part0 (GD.step cz c dcd) [I bf.re,I bf.im] Z))<|A1 Z<|Bi a fun a1 ii a=>A3 Z (.none Z) Z Z (Cg [Ag [I be.re,I be.im],Ag [I bf.re,I bf.im]] Z)<|Calls.mono (V5 e cw ii (BF (x:=be)) (BF (x:=bf))) ?_
 rintro _ ij ⟨ik,nq,rfl,bg,il⟩
 obtain rfl:=A6 il
 refine ⟨_,Z,⟨_,(Mo [20] bg)⟩,?_⟩
 refine Qx d Z (v:=Ag [I a1.1.re,I a1.1.im]) (fun _ _=>Z)<|Qx d Z (v:=I a1.2) (fun _ _=>Z)<|A1 Z<|Bi a fun ac im a=>A3 Z (.none Z) Z Z (Cg [Ag [I a1.1.re,I a1.1.im],I a1.2] Z)<|Calls.mono (IS ik ij im (BF (x:=a1.1))) ?_
 rintro _ nr ⟨io,ns,rfl,b2,ip⟩
 obtain ⟨c0,c1,rfl,eu⟩:=E1 (Az ip)
 refine ⟨_,Z,⟨_,(Tn (Mo [20] bg) b2)⟩,?_⟩
 refine Qx d Z (v:=Ag [I ac.1.type_,Cx ac.1.num,.bool ac.1.bool,Sl c0 ac.1.list c1]) (fun _ _=>Z)<|Qx d Z (v:=I ac.2) (fun _ _=>Z)<|A1 Z<|have iq:=Y3 (Y4 an l o n f) cx bg b2;BM Z (.none Z) Z<|St Cw iq Z Z Z Z fun nu ir c2=>⟨⟨_,(T2 (Mo [20] bg) b2 c2)⟩,?_⟩
 refine Qx d Z (v:=I ac.2) (fun _ _=>Run.assign Z)<|B9<|AQ ?_
 obtain rfl:=AK a
 refine O2 B am Z (.agg B0 Z Z (Bw ir)) (.tmp Z)<|have it:=Ss Kd.cpx eu c2;⟨io,[I ac.1.type_,Cx ac.1.num,.bool ac.1.bool,Sl c0 ac.1.list c1],Z,Ho (T4 (T4 (Mo [20,21,23] y) l o n f) cx bg b2 c2) al,(Al (x:=ac.1) it)⟩
 refine Sr<|Vr (.bool (g==11))<|Va (.bool (g==11))<|AA<|Cn a (fun iu a=>?_) fun iu a=>?_
 refine AR<|BW Cv (qs 0 6 (.one 6 (.q 7 (.q 8 (.one 9 (.q 10 (.q 11 (.one 12 (.q 13 .nil))))))))) [] [20] e (by kernel_rfl) fun c3 c4=>Qx d Z (v:=Sl p m q) (fun _ _=>Mv Z)<|Bi a fun bh iv a=>have ew:=Os (Os ar f) c4; ?_
 obtain ⟨iw,nv,ix,iy,iz,i0,i1,c5⟩:=KL (κ:=Bh) ew iv
 replace c5:GD 23 e c3 iw (0+(0:Int).toNat*2) ix:=c5
 obtain rfl:=A6 i1
 refine Qx d Z (fun _ _=>Ix Jf iy Z iz i0)<|Qx d Z (fun _ ⟨_,c⟩=>Lx D7 Z Z (GD.part0 (GD.step c5 c dcd) [I bh.re,I bh.im] Z))<|Qx d Z (v:=Sl p m q) (fun _ _=>Mv Z)<|Bi a fun bi i2 a=>?_
 obtain ⟨i3,nw,i4,i5,i6,i7,i8,c6⟩:=KL (κ:=Bh) ew i2
 replace c6:GD 23 e c3 i3 (0+(1:Int).toNat*2) i4:=c6
 obtain rfl:=A6 i8
 refine Qx d Z (fun _ _=>Ix Jf i5 Z i6 i7)<|Qx d Z (fun _ ⟨_,c⟩=>Lx D7 Z Z (GD.part0 (GD.step c6 c dcd) [I bi.re,I bi.im] Z))<|A1 Z<|Bi a fun a2 i9 a=>A3 Z (.none Z) Z Z (Cg [Ag [I bh.re,I bh.im],Ag [I bi.re,I bi.im]] Z)<|Calls.mono (V6 e c3 i9 (BF (x:=bh)) (BF (x:=bi))) ?_
 rintro _ ja ⟨jb,nx,rfl,bj,jc⟩
 obtain rfl:=A6 jc
 refine ⟨_,Z,⟨_,(Mo [20] bj)⟩,?_⟩
 refine Qx d Z (v:=Ag [I a2.1.re,I a2.1.im]) (fun _ _=>Z)<|Qx d Z (v:=I a2.2) (fun _ _=>Z)<|A1 Z<|Bi a fun ad jd a=>A3 Z (.none Z) Z Z (Cg [Ag [I a2.1.re,I a2.1.im],I a2.2] Z)<|Calls.mono (IS jb ja jd (BF (x:=a2.1))) ?_
 rintro _ ny ⟨je,n0,rfl,b3,jf⟩
 obtain ⟨c7,c8,rfl,ex⟩:=E1 (Az jf)
 refine ⟨_,Z,⟨_,(Tn (Mo [20] bj) b3)⟩,?_⟩
 refine Qx d Z (v:=Ag [I ad.1.type_,Cx ad.1.num,.bool ad.1.bool,Sl c7 ad.1.list c8]) (fun _ _=>Z)<|Qx d Z (v:=I ad.2) (fun _ _=>Z)<|A1 Z<|have jg:=Y3 (Y4 an l o n f) c4 bj b3;BM Z (.none Z) Z<|St Cw jg Z Z Z Z fun n2 jh c9=>⟨⟨_,(T2 (Mo [20] bj) b3 c9)⟩,?_⟩
 refine Qx d Z (v:=I ad.2) (fun _ _=>Run.assign Z)<|B9<|AQ ?_
 obtain rfl:=AK a
 refine O2 B am Z (.agg B0 Z Z (Bw jh)) (.tmp Z)<|have ji:=Ss Kd.cpx ex c9;⟨je,[I ad.1.type_,Cx ad.1.num,.bool ad.1.bool,Sl c7 ad.1.list c8],Z,Ho (T4 (T4 (Mo [20,21,23] y) l o n f) c4 bj b3 c9) al,(Al (x:=ad.1) ji)⟩
 refine Sr<|Vr (.bool (g==12))<|Va (.bool (g==12))<|AA<|Cn a (fun jj a=>?_) fun jj a=>?_
 refine AR<|BW Cv (qs 0 7 (.one 7 (.q 8 (.q 9 (.one 10 (.q 11 .nil)))))) [] [20] e (by kernel_rfl) fun da db=>Qx d Z (v:=Sl p m q) (fun _ _=>Mv Z)<|Bi a fun a4 jk a=>have ey:=Os (Os ar f) db; ?_
 obtain ⟨jl,n4,jm,jn,jo,jp,jq,dc⟩:=KL (κ:=Bh) ey jk
 replace dc:GD 23 e da jl (0+(0:Int).toNat*2) jm:=dc
 obtain rfl:=A6 jq
 refine Qx d Z (fun _ _=>Ix Jf jn Z jo jp)<|Qx d Z (fun _ ⟨_,c⟩=>Lx D7 Z Z (GD.part0 (GD.step dc c dcd) [I a4.re,I a4.im] Z))<|Qx d Z (v:=Sl p m q) (fun _ _=>Mv Z)<|Bi a fun a5 jr a=>?_
 obtain ⟨js,n5,jt,ju,jv,jw,jx,de⟩:=KL (κ:=Bh) ey jr
 replace de:GD 23 e da js (0+(1:Int).toNat*2) jt:=de
 obtain rfl:=A6 jx
 refine Qx d Z (fun _ _=>Ix Jf ju Z jv jw)<|Qx d Z (fun _ ⟨_,c⟩=>Lx D7 Z Z (GD.part0 (GD.step de c dcd) [I a5.re,I a5.im] Z))<|Qx d Z (v:=.bool (a4.re==a5.re&&a4.im==a5.im)) (fun _ _=>(Run.int2Eq AAi Z Z))<|A1 Z<|Bi a fun ae jy a=>A3 Z (.none Z) Z Z (Cg [.bool (a4.re==a5.re&&a4.im==a5.im)] Z)<|Calls.mono (NI e da jy) ?_
 rintro _ n6 ⟨jz,n7,rfl,b4,j0⟩
 obtain ⟨df,dg,rfl,ez⟩:=E1 (Az j0)
 refine ⟨_,Z,⟨_,(Mo [20] b4)⟩,?_⟩
 refine Qx d Z (v:=Ag [I ae.1.type_,Cx ae.1.num,.bool ae.1.bool,Sl df ae.1.list dg]) (fun _ _=>Z)<|Qx d Z (v:=I ae.2) (fun _ _=>Z)<|A1 Z<|have j1:=Y2 (Y4 an l o n f) db b4;BM Z (.none Z) Z<|St Cw j1 Z Z Z Z fun oa j2 dh=>⟨⟨_,(Tn (Mo [20] b4) dh)⟩,?_⟩
 refine Qx d Z (v:=I ae.2) (fun _ _=>Run.assign Z)<|B9<|AQ ?_
 obtain rfl:=AK a
 refine O2 B am Z (.agg B0 Z Z (Bw j2)) (.tmp Z)<|have j3:=Ss Kd.cpx ez dh;⟨jz,[I ae.1.type_,Cx ae.1.num,.bool ae.1.bool,Sl df ae.1.list dg],Z,Ho (T3 (T4 (Mo [20,21,23] y) l o n f) db b4 dh) al,(Al (x:=ae.1) j3)⟩
 refine Sr<|Vr (.bool (g==13))<|Va (.bool (g==13))<|AA<|Cn a (fun j4 a=>?_) fun j4 a=>?_
 refine AR<|BW Cv (qs 0 6 (.one 6 (.one 7 (.q 8 (.q 9 (.one 10 (.q 11 .nil))))))) [] [20] e (by kernel_rfl) fun di dj=>Qx d Z (v:=Sl p m q) (fun _ _=>Mv Z)<|Bi a fun bk j5 a=>have e0:=Os (Os ar f) dj; ?_
 obtain ⟨j6,ob,j7,j8,j9,ka,kb,dk⟩:=KL (κ:=Bh) e0 j5
 replace dk:GD 23 e di j6 (0+(0:Int).toNat*2) j7:=dk
 obtain rfl:=A6 kb
 refine Qx d Z (fun _ _=>Ix Jf j8 Z j9 ka)<|Qx d Z (fun _ ⟨_,c⟩=>Lx D7 Z Z (GD.part0 (GD.step dk c dcd) [I bk.re,I bk.im] Z))<|Qx d Z (v:=Sl p m q) (fun _ _=>Mv Z)<|Bi a fun bl kc a=>?_
 obtain ⟨kd,oc,ke,kf,kg,kh,ki,dl⟩:=KL (κ:=Bh) e0 kc
 replace dl:GD 23 e di kd (0+(1:Int).toNat*2) ke:=dl
 obtain rfl:=A6 ki
 refine Qx d Z (fun _ _=>Ix Jf kf Z kg kh)<|Qx d Z (fun _ ⟨_,c⟩=>Lx D7 Z Z (GD.part0 (GD.step dl c dcd) [I bl.re,I bl.im] Z))<|A1 Z<|Bi a fun kj kk a=>A3 Z (.none Z) Z Z (Cg [Ag [I bk.re,I bk.im],Ag [I bl.re,I bl.im]] Z)<|Calls.mono (Ut e di kk (BF (x:=bk)) (BF (x:=bl))) ?_
 rintro _ kl ⟨km,rfl,bm⟩
 refine ⟨_,Z,⟨_,(Mo [20] bm)⟩,?_⟩
 refine A1 Z<|Bi a fun af kn a=>A3 Z (.none Z) Z Z (Cg [.bool kj] Z)<|Calls.mono (NI km kl kn) ?_
 rintro _ od ⟨ko,oe,rfl,b5,kp⟩
 obtain ⟨dm,dn,rfl,e1⟩:=E1 (Az kp)
 refine ⟨_,Z,⟨_,(Tn (Mo [20] bm) b5)⟩,?_⟩
 refine Qx d Z (v:=Ag [I af.1.type_,Cx af.1.num,.bool af.1.bool,Sl dm af.1.list dn]) (fun _ _=>Z)<|Qx d Z (v:=I af.2) (fun _ _=>Z)<|A1 Z<|have kq:=Y3 (Y4 an l o n f) dj bm b5;BM Z (.none Z) Z<|St Cw kq Z Z Z Z fun oh kr dp=>⟨⟨_,(T2 (Mo [20] bm) b5 dp)⟩,?_⟩
 refine Qx d Z (v:=I af.2) (fun _ _=>Run.assign Z)<|B9<|AQ ?_
 obtain rfl:=AK a
 refine O2 B am Z (.agg B0 Z Z (Bw kr)) (.tmp Z)<|have ks:=Ss Kd.cpx e1 dp;⟨ko,[I af.1.type_,Cx af.1.num,.bool af.1.bool,Sl dm af.1.list dn],Z,Ho (T4 (T4 (Mo [20,21,23] y) l o n f) dj bm b5 dp) al,(Al (x:=af.1) ks)⟩
 refine Sr<|Vr (.bool (g==14))<|Va (.bool (g==14))<|AA<|Cn a (fun kt a=>?_) fun kt a=>?_
 refine Sr<|Vm<|Bi a fun e2 ku a=>have kv:=Ss Ao (K4 Ao a7 y l o n) f; ?_
 obtain ⟨kw,kx,oi,ky,kz,k0,k1,k2,dq⟩:=A8 (κ:=Ao) kv ku
 replace dq:Ax e aq kw (kx+(0:Int).toNat*4) ky:=dq
 obtain ⟨ok,ol,rfl,k3⟩:=E1 (Az k2)
 refine Vx (Ix Ic kz Z k0 k1)<|Vx (Fd Ka Z)<|Vx (Ld MF Z (Ax.cell (k:=2) dq Z))<|Vr (.bool (!e2.bool))<|Bi a fun ag k4 a=>Ca (Cg [.bool (!e2.bool)] Z) (NI e aq k4) ?_
 rintro _ om ⟨k5,oo,rfl,e3,k6⟩
 obtain ⟨dr,ds,rfl,e4⟩:=E1 (Az k6)
 refine Vr (Ag [I ag.1.type_,Cx ag.1.num,.bool ag.1.bool,Sl dr ag.1.list ds])<|Vr (I ag.2)<|have k7:=Bs (Y4 an l o n f) e3;Eu<|St Cw k7 Z Z Z Z fun oq k8 e5=>Va (I ag.2)<|AA<|AQ ?_
 obtain rfl:=AK a
 refine O2 B am Z (.agg B0 Z Z (Bw k8)) (.tmp Z)<|have k9:=Ss Kd.cpx e4 e5;⟨k5,[I ag.1.type_,Cx ag.1.num,.bool ag.1.bool,Sl dr ag.1.list ds],Z,Ho (T2 (T4 (Mo [20,21,23] y) l o n f) e3 e5) al,(Al (x:=ag.1) k9)⟩
 refine Sr<|Vr (.bool (g==15))<|Va (.bool (g==15))<|AA<|Cn a (fun la a=>?_) fun la a=>?_
 refine Sr<|Vm<|Bi a fun dt lb a=>have lc:=Os ar f; ?_
 obtain ⟨ld,os,le,lf,lg,lh,li,du⟩:=KL (κ:=Bh) lc lb
 replace du:GD 23 e aq ld (0+(0:Int).toNat*2) le:=du
 obtain rfl:=A6 li
 refine Vx (Ix Jf lf Z lg lh)<|Vx (Fz DS Z)<|Vx (Ld BC Z (GD.cell0 du Z))<|Vx (v:=Ag [I dt.re,I 0]) (Bp Ee KQ Z (.cons Z Z Z .nil))<|Bi a fun ah lj a=>Ca (Cg [Ag [I dt.re,I 0],I 0] Z) (IS e aq lj (BF (x:=(Ad.mk dt.re 0)))) ?_
 rintro _ ot ⟨lk,ou,rfl,e6,ll⟩
 obtain ⟨dv,dw,rfl,e7⟩:=E1 (Az ll)
 refine Vr (Ag [I ah.1.type_,Cx ah.1.num,.bool ah.1.bool,Sl dv ah.1.list dw])<|Vr (I ah.2)<|have lm:=Bs (Y4 an l o n f) e6;Eu<|St Cw lm Z Z Z Z fun ow ln e8=>Va (I ah.2)<|AA<|AQ ?_
 obtain rfl:=AK a
 refine O2 B am Z (.agg B0 Z Z (Bw ln)) (.tmp Z)<|have lo:=Ss Kd.cpx e7 e8;⟨lk,[I ah.1.type_,Cx ah.1.num,.bool ah.1.bool,Sl dv ah.1.list dw],Z,Ho (T2 (T4 (Mo [20,21,23] y) l o n f) e6 e8) al,(Al (x:=ah.1) lo)⟩
 refine Sr<|Vr (.bool (g==16))<|Va (.bool (g==16))<|AA<|Cn a (fun lp a=>?_) fun lp a=>?_
 refine Sr<|Vm<|Bi a fun dx lq a=>have lr:=Os ar f; ?_
 obtain ⟨ls,ox,lt,lu,lv,lw,lx,dy⟩:=KL (κ:=Bh) lr lq
 replace dy:GD 23 e aq ls (0+(0:Int).toNat*2) lt:=dy
 obtain rfl:=A6 lx
 refine Vx (Ix Jf lu Z lv lw)<|Vx (Fd DT Z)<|Vx (Ld BC Z (GD.cell (j:=1) dy Z))<|Vx (v:=Ag [I dx.im,I 0]) (Bp Ee KQ Z (.cons Z Z Z .nil))<|Bi a fun ai ly a=>Ca (Cg [Ag [I dx.im,I 0],I 0] Z) (IS e aq ly (BF (x:=(Ad.mk dx.im 0)))) ?_
 rintro _ oy ⟨lz,oz,rfl,e9,l0⟩
 obtain ⟨dz,d0,rfl,fa⟩:=E1 (Az l0)
 refine Vr (Ag [I ai.1.type_,Cx ai.1.num,.bool ai.1.bool,Sl dz ai.1.list d0])<|Vr (I ai.2)<|have l1:=Bs (Y4 an l o n f) e9;Eu<|St Cw l1 Z Z Z Z fun o1 l2 fb=>Va (I ai.2)<|AA<|AQ ?_
 obtain rfl:=AK a
 refine O2 B am Z (.agg B0 Z Z (Bw l2)) (.tmp Z)<|have l3:=Ss Kd.cpx fa fb;⟨lz,[I ai.1.type_,Cx ai.1.num,.bool ai.1.bool,Sl dz ai.1.list d0],Z,Ho (T2 (T4 (Mo [20,21,23] y) l o n f) e9 fb) al,(Al (x:=ai.1) l3)⟩
 refine WC.skip<|AR<|BW Cv (qs 0 10 (.one 10 (.q 11 (.q 12 (.one 13 (.q 14 .nil)))))) [] [20] e (by kernel_rfl) fun d1 d2=>Qx d Z (v:=Sl p m q) (fun _ _=>Mv Z)<|Bi a fun b6 l4 a=>have fc:=Os (Os ar f) d2; ?_
 obtain ⟨l5,o2,l6,l7,l8,l9,ma,d3⟩:=KL (κ:=Bh) fc l4
 replace d3:GD 23 e d1 l5 (0+(0:Int).toNat*2) l6:=d3
 obtain rfl:=A6 ma
 refine Qx d Z (fun _ _=>Ix Jf l7 Z l8 l9)<|Qx d Z (fun _ _=>Fz DS Z)<|Qx d Z (fun _ ⟨_,c⟩=>Ld BC Z (GD.cell0 (GD.step d3 c dcd) Z))<|Qx d Z (v:=Sl p m q) (fun _ _=>Mv Z)<|Bi a fun bn mb a=>?_
 obtain ⟨mc,o6,md,me,mf,mg,mh,d4⟩:=KL (κ:=Bh) fc mb
 replace d4:GD 23 e d1 mc (0+(0:Int).toNat*2) md:=d4
 obtain rfl:=A6 mh
 refine Qx d Z (fun _ _=>Ix Jf me Z mf mg)<|Qx d Z (fun _ _=>Fd DT Z)<|Qx d Z (fun _ ⟨_,c⟩=>Ld BC Z (GD.cell (j:=1) (GD.step d4 c dcd) Z))<|Qx d Z (v:=I (Wr (0 - bn.im))) (fun _ _=>Z)<|Qx d Z (v:=Ag [I b6.re,I (Wr (0 - bn.im))]) (fun _ _=>B3 (cs:=[I b6.re,I (Wr (0 - bn.im))]) [I 0,I 0] Ee KQ Z (.cons Z Z Z (.cons Z Z Z .nil)) Z Z)<|A1 Z<|Bi a fun aj mi a=>A3 Z (.none Z) Z Z (Cg [Ag [I b6.re,I (Wr (0 - bn.im))],I 0] Z)<|Calls.mono (IS e d1 mi (BF (x:=(Ad.mk b6.re (Wr (0 - bn.im)))))) ?_
 rintro _ o7 ⟨mj,o8,rfl,b7,mk⟩
 obtain ⟨d5,d6,rfl,fd⟩:=E1 (Az mk)
 refine ⟨_,Z,⟨_,(Mo [20] b7)⟩,?_⟩
 refine Qx d Z (v:=Ag [I aj.1.type_,Cx aj.1.num,.bool aj.1.bool,Sl d5 aj.1.list d6]) (fun _ _=>Z)<|Qx d Z (v:=I aj.2) (fun _ _=>Z)<|A1 Z<|have ml:=Y2 (Y4 an l o n f) d2 b7;BM Z (.none Z) Z<|St Cw ml Z Z Z Z fun pb mm d7=>⟨⟨_,(Tn (Mo [20] b7) d7)⟩,?_⟩
 refine Qx d Z (v:=I aj.2) (fun _ _=>Run.assign Z)<|B9<|AQ ?_
 obtain rfl:=AK a
 refine O2 B am Z (.agg B0 Z Z (Bw mm)) (.tmp Z)<|have mn:=Ss Kd.cpx fd d7;⟨mj,[I aj.1.type_,Cx aj.1.num,.bool aj.1.bool,Sl d5 aj.1.list d6],Z,Ho (T3 (T4 (Mo [20,21,23] y) l o n f) d2 b7 d7) al,(Al (x:=aj.1) mn)⟩
theorem Tx(c:Nat):Dc.Spec (Dc c):=lk0 (SQ c)
def ref11_Machine_look.At(G1 G2:Prop)(c:Col)(a:World)(f:AU→AE→Nm→Option (Th×AU))(g:Nat):Prop:=
 ∀{h m n o p q r l},f m o q=some l→G1→G2→Bk c a g h n 101→CB.rep c.F a n m→AH.rep c.F a p o→RNm c.F a r q→
  Calls PG 37 #[Pt h 0,Ag p,r] a fun w d=>∃e s u,w=.returned s∧AS [g] c a e d∧RTh e.F d s l.1∧Bk e d g h u 101∧CB.rep e.F d u l.2
def ref11_Machine_look.Spec(f:AU→AE→Nm→Option (Th×AU)):Prop:=
 ∀c d {a},ref11_Machine_look.At ([a].Nodup) (0∉[a]) c d f a
def ref11_Machine_of.At(G1 G2:Prop)(c:Col)(a:World)(f:AU→Th→Option (Th×AU))(g:Nat):Prop:=
 ∀{h m n o p l},f m o=some l→G1→G2→Bk c a g h n 101→CB.rep c.F a n m→RTh c.F a p o→
  Calls PG 59 #[Pt h 0,p] a fun s d=>∃e q r,s=.returned q∧AS [g] c a e d∧RTh e.F d q l.1∧Bk e d g h r 101∧CB.rep e.F d r l.2
def ref11_Machine_of.Spec(f:AU→Th→Option (Th×AU)):Prop:=
 ∀c d {a},ref11_Machine_of.At ([a].Nodup) (0∉[a]) c d f a
def ref11_Machine_inside.At(G1 G2:Prop)(c:Col)(a:World)(f:AU→AE→Nm→Option (Th×AU))(g:Nat):Prop:=
 ∀{h m n o p q r l},f m o q=some l→G1→G2→Bk c a g h n 101→CB.rep c.F a n m→AH.rep c.F a p o→RNm c.F a r q→
  Calls PG 62 #[Pt h 0,Ag p,r] a fun w d=>∃e s u,w=.returned s∧AS [g] c a e d∧RTh e.F d s l.1∧Bk e d g h u 101∧CB.rep e.F d u l.2
def ref11_Machine_inside.Spec(f:AU→AE→Nm→Option (Th×AU)):Prop:=
 ∀c d {a},ref11_Machine_inside.At ([a].Nodup) (0∉[a]) c d f a
structure AP.Good(a:AP):Prop where
 ref11_Machine_look:ref11_Machine_look.Spec a.ref11_Machine_look
 ref11_Machine_of:ref11_Machine_of.Spec a.ref11_Machine_of
 ref11_Machine_inside:ref11_Machine_inside.Spec a.ref11_Machine_inside
theorem OJ(ap:AP)(ay:Nat)(cc:AP.Good ap)(cd:Col)(ep:World)(af:∀b,cd b<10):ref11_Machine_look.At True True cd ep (BJ ap ay) 1:=by
 intro ab c kt f ku ac w bh a _ _ eq er es aq
 rw [BJ] at a
 obtain ⟨ar,au,rfl,y⟩:=E1 (BO er)
 obtain ⟨dm,dn,rfl,b1⟩:=E1 (Ae es)
 refine Ay Tryz.func37 Z Tryz.ntmps37 Z fun B ag e=>Sr<|Ef<|A0 cd 20 Z Z fun az kx cf et o=>Va (.pointer none)<|AA<|AR<|Sr<|Vm<|Vx (Nc Z)<|Vx (Fd Kj Z)<|have cg:=Bs eq o;Vx (Ld BC Z (Bc cg Z))<|Vr (.bool (c.why != 0))<|AA<|Cn a (fun eu a=>?_) fun eu a=>?_
 refine Sr<|Vx (v:=Ag [.bool false,.bool false,I 0,Cx (((0,0):Nat×Nat)),.bool false,.slice none 0 0,.pointer none,.pointer none,I 0,Sb ([]:Bts),Sb ([]:Bts),I 0,Cx (((0,0):Nat×Nat)),.slice none 0 0,I 0,.pointer none]) (Bp Jg Je Z .nil)<|Ef<|A0 az 21 Z Z fun ky kz dp ew ch=>Va (Pt dp 0)<|AA<|AQ ?_
 obtain ⟨ex,ci,ey⟩:=RTh.layLater (cp:=[I 0,Cx (((0,0):Nat×Nat)),.bool false,.slice none 0 0]) (ce:=[I 0,Sb ([]:Bts),Sb ([]:Bts),I 0,Cx (((0,0):Nat×Nat)),.slice none 0 0,I 0]) ew dcd (Al (x:=(AF.mk 0 ((0,0):Nat×Nat) false [])) BK) (AW (x:=(AE.mk 0 ([]:Bts) ([]:Bts) 0 ((0,0):Nat×Nat) [] 0)) BK) RNm.nil
 obtain rfl:=AK a
 refine O1 B ag Z (.tmp Z)<|have ez:=Y2 cg ch ci;have e0:=K3 AI y o ch ci;⟨ex,Pt dp 0,[Sl ar c.p.funcs au,I c.most,I c.cost,I c.why],Z,Ho (T2 (Mo [21] o) ch ci) af,ey,ez,(Av (x:=c) e0)⟩
 refine WC.skip<|AR<|AR<|BW Cv (qs 0 9 .nil) [] [] az (by kernel_rfl) fun e1 p=>Qx e Z (v:=Pt ab 0) (fun _ _=>Mv Z)<|Qx e Z (fun _ _=>Nc Z)<|Qx e Z (fun _ _=>Fd Nu Z)<|have bi:=Bs cg p;Qx e Z (fun _ ⟨_,d⟩=>Ld BC Z (Bc (Bs bi d) Z))<|Qx e Z (v:=Pt ab 0) (fun _ _=>Mv Z)<|Qx e Z (fun _ _=>Nc Z)<|Qx e Z (fun _ _=>Fd YT Z)<|Qx e Z (fun _ ⟨_,d⟩=>Ld BC Z (Bc (Bs bi d) Z))<|Qx e Z (v:=.bool (decide (c.cost≥c.most))) (fun _ _=>Z)<|B9<|Cn a (fun e2 a=>?_) fun e2 a=>?_
 refine Sr<|Vm<|have e3:=K2 AI y o p;Bi a fun bj e4 a=>Ca (Cg [Pt ab 0,I 60] Z) (Kl az e1 e4 dcd dcd bi (Av (x:=c) e3)) ?_
 rintro _ k0 ⟨e5,dq,k1,rfl,e6,e7,e8,e9⟩
 obtain ⟨fa,fb,rfl,dr⟩:=E1 (BO e9)
 refine Va dq<|AA<|AQ ?_
 obtain rfl:=AK a
 refine O1 B ag Z (.tmp Z)<|⟨e5,dq,[Sl fa bj.2.p.funcs fb,I bj.2.most,I bj.2.cost,I bj.2.why],Z,Ho (T2 (Mo [1] o) p e6) af,e7,e8,(Av (x:=bj.2) dr)⟩
 refine WC.skip<|Sr<|Vm<|Vx (Nc Z)<|Vx (Fd Nu Z)<|Vx (Ld BC Z (Bc bi Z))<|Vr (I (Wr (c.cost+1)))<|Vx (Nc Z)<|Vx (Fd Nu Z)<|Eu<|St Mj bi Z Z Z Z fun fc an r=>AA<|AR<|Sr<|Vx (Fz C8 Z)<|have av:=Y2 et p r;Vx (Ld Ge Z (Bc av Z))<|AA<|Af<|Sr<|Vr (.bool (f.op==1))<|Va (.bool (f.op==1))<|AA<|Cn a (fun fd a=>?_) fun fd a=>?_
 refine Sr<|Vx (Fd Wy Z)<|Vx (Ld HL Z (Bc av Z))<|Vx (v:=Ag [I 1,Cx f.num,.bool false,.slice none 0 0]) (Bp CS F7 Z (.cons Z Z Z (.cons Z Z Z .nil)))<|Vx (v:=Ag [.bool true,.bool false,I 1,Cx f.num,.bool false,.slice none 0 0,.pointer none,.pointer none,I 0,Sb ([]:Bts),Sb ([]:Bts),I 0,Cx (((0,0):Nat×Nat)),.slice none 0 0,I 0,.pointer none]) (Bp Jg Je Z (.cons Z Z Z (.cons Z Z Z .nil)))<|Ef<|A0 az 22 Z Z fun k3 k4 ds fe cj=>Va (Pt ds 0)<|AA<|AQ ?_
 obtain ⟨ff,ck,fg⟩:=RTh.layDone (hv:=.pointer none) (tv:=.pointer none) (cp:=[I 1,Cx f.num,.bool false,.slice none 0 0]) (ce:=[I 0,Sb ([]:Bts),Sb ([]:Bts),I 0,Cx (((0,0):Nat×Nat)),.slice none 0 0,I 0]) fe dcd (Al (x:=(AF.mk 1 f.num false [])) BK) (AW (x:=(AE.mk 0 ([]:Bts) ([]:Bts) 0 ((0,0):Nat×Nat) [] 0)) BK) RTh.nil RTh.nil
 obtain rfl:=AK a
 refine O1 B ag Z (.tmp Z)<|have fh:=Y2 an cj ck;have fi:=Ss AI (K4 AI y o p r cj) ck;⟨ff,Pt ds 0,[Sl ar c.p.funcs au,I c.most,I (Wr (c.cost+1)),I c.why],Z,Ho (T4 (Mo [1,22] o) p r cj ck) af,fg,fh,(Av (x:=(AU.mk (AM.mk c.p.funcs) c.most (Wr (c.cost+1)) c.why)) fi)⟩
 refine Am (fun a0 a1=>∃ad u cl,a0=Env.puts ad [(0,Pt ab 0),(2,w),(4,Pt cf 0),(37,I f.op),(45,.bool cl)]∧Bz ap ay c f ac cl=some bh∧AS [] az fc u a1) ?_ ?_
 refine Sr<|Vr (.bool (f.op==2))<|Va (.bool (f.op==2))<|AA<|Cn a (fun fj a=>?_) fun fj a=>?_
 refine WC.skip<|⟨_,az,(f.op==2),Pu,a,Rf⟩
 refine AL<|Vr (.bool (f.op==3))<|Va (.bool (f.op==3))<|AA<|⟨_,az,(f.op==3),Pu,a,Rf⟩
 rintro _ a1 ⟨ad,u,cl,rfl,a,l⟩
 rw [Bz] at a
 refine Cn a (fun fk a=>?_) fun fk a=>?_
 refine Sr<|Vx (Fz C8 Z)<|have fl:=Bs av l;Vx (Ld Ge Z (Bc fl Z))<|Vr (.bool (f.op==2))<|Vx (v:=Ag [I 2,Cx (((0,0):Nat×Nat)),.bool (f.op==2),.slice none 0 0]) (Bp CS F7 Z (.cons Z Z Z (.cons Z Z Z .nil)))<|Vx (v:=Ag [.bool true,.bool false,I 2,Cx (((0,0):Nat×Nat)),.bool (f.op==2),.slice none 0 0,.pointer none,.pointer none,I 0,Sb ([]:Bts),Sb ([]:Bts),I 0,Cx (((0,0):Nat×Nat)),.slice none 0 0,I 0,.pointer none]) (Bp Jg Je Z (.cons Z Z Z (.cons Z Z Z .nil)))<|Ef<|A0 u 23 Z Z fun k5 k6 dt fm cm=>Va (Pt dt 0)<|AA<|AQ ?_
 obtain ⟨fn,cn,fo⟩:=RTh.layDone (hv:=.pointer none) (tv:=.pointer none) (cp:=[I 2,Cx (((0,0):Nat×Nat)),.bool (f.op==2),.slice none 0 0]) (ce:=[I 0,Sb ([]:Bts),Sb ([]:Bts),I 0,Cx (((0,0):Nat×Nat)),.slice none 0 0,I 0]) fm dcd (Al (x:=(AF.mk 2 ((0,0):Nat×Nat) (f.op==2) [])) BK) (AW (x:=(AE.mk 0 ([]:Bts) ([]:Bts) 0 ((0,0):Nat×Nat) [] 0)) BK) RTh.nil RTh.nil
 obtain rfl:=AK a
 refine O1 B ag Z (.tmp Z)<|have fp:=Y3 an l cm cn;have fq:=K2 AI (K4 AI y o p r l) cm cn;⟨fn,Pt dt 0,[Sl ar c.p.funcs au,I c.most,I (Wr (c.cost+1)),I c.why],Z,Ho (Tn (T4 (Mo [1,23] o) p r l cm) cn) af,fo,fp,(Av (x:=(AU.mk (AM.mk c.p.funcs) c.most (Wr (c.cost+1)) c.why)) fq)⟩
 refine Sr<|Vr (.bool (f.op==4))<|Va (.bool (f.op==4))<|AA<|Cn a (fun fr a=>?_) fun fr a=>?_
 refine Sr<|Vx (v:=Ag [I 3,Cx (((0,0):Nat×Nat)),.bool false,.slice none 0 0]) (Bp CS F7 Z (.cons Z Z Z .nil))<|Vx (v:=Ag [.bool true,.bool false,I 3,Cx (((0,0):Nat×Nat)),.bool false,.slice none 0 0,.pointer none,.pointer none,I 0,Sb ([]:Bts),Sb ([]:Bts),I 0,Cx (((0,0):Nat×Nat)),.slice none 0 0,I 0,.pointer none]) (Bp Jg Je Z (.cons Z Z Z (.cons Z Z Z .nil)))<|Ef<|A0 u 24 Z Z fun k7 k8 du fs co=>Va (Pt du 0)<|AA<|AQ ?_
 obtain ⟨ft,cq,fu⟩:=RTh.layDone (hv:=.pointer none) (tv:=.pointer none) (cp:=[I 3,Cx (((0,0):Nat×Nat)),.bool false,.slice none 0 0]) (ce:=[I 0,Sb ([]:Bts),Sb ([]:Bts),I 0,Cx (((0,0):Nat×Nat)),.slice none 0 0,I 0]) fs dcd (Al (x:=(AF.mk 3 ((0,0):Nat×Nat) false [])) BK) (AW (x:=(AE.mk 0 ([]:Bts) ([]:Bts) 0 ((0,0):Nat×Nat) [] 0)) BK) RTh.nil RTh.nil
 obtain rfl:=AK a
 refine O1 B ag Z (.tmp Z)<|have fv:=Y3 an l co cq;have fw:=K2 AI (K4 AI y o p r l) co cq;⟨ft,Pt du 0,[Sl ar c.p.funcs au,I c.most,I (Wr (c.cost+1)),I c.why],Z,Ho (Tn (T4 (Mo [1,24] o) p r l co) cq) af,fu,fv,(Av (x:=(AU.mk (AM.mk c.p.funcs) c.most (Wr (c.cost+1)) c.why)) fw)⟩
 refine Sr<|Vr (.bool (f.op==5))<|Va (.bool (f.op==5))<|AA<|Cn a (fun fx a=>?_) fun fx a=>?_
 refine Sr<|Vm<|have fy:=Bs an l;have fz:=K4 AI y o p r l;Bi a fun bk f0 a=>Ca (Cg [Pt ab 0,I 52] Z) (Kl u a1 f0 dcd dcd fy (Av (x:=(AU.mk (AM.mk c.p.funcs) c.most (Wr (c.cost+1)) c.why)) fz)) ?_
 rintro _ k9 ⟨f1,dv,la,rfl,f2,f3,f4,f5⟩
 obtain ⟨f6,f7,rfl,dw⟩:=E1 (BO f5)
 refine Va dv<|AA<|AQ ?_
 obtain rfl:=AK a
 refine O1 B ag Z (.tmp Z)<|⟨f1,dv,[Sl f6 bk.2.p.funcs f7,I bk.2.most,I bk.2.cost,I bk.2.why],Z,Ho (T4 (Mo [1] o) p r l f2) af,f3,f4,(Av (x:=bk.2) dw)⟩
 refine Sr<|Vr (.bool (f.op==6))<|Va (.bool (f.op==6))<|AA<|Cn a (fun f8 a=>?_) fun f8 a=>?_
 refine Sr<|Vm<|Vm<|Vx (Fd Di Z)<|have f9:=Bs av l;Vx (Ld CG Z (Bc f9 Z))<|have ga:=Rs (Rs (Rs (Rs aq o) p) r) l;Bi a fun lc gb a=>Ca (Cg [w,Sb f.name] Z) (Tu ay u a1 gb ga) ?_
 rintro _ gc ⟨gd,ge,rfl,cr,gf⟩
 refine have gg:=Y2 an l cr;have gh:=Ss AI (K4 AI y o p r l) cr;Bi a fun bl gi a=>Ca (Cg [Pt ab 0,ge] Z) (cc.ref11_Machine_of gd gc gi dcd dcd gg (Av (x:=(AU.mk (AM.mk c.p.funcs) c.most (Wr (c.cost+1)) c.why)) gh) gf) ?_
 rintro _ ld ⟨gj,dx,le,rfl,gk,gl,gm,gn⟩
 obtain ⟨go,gp,rfl,dy⟩:=E1 (BO gn)
 refine Va dx<|AA<|AQ ?_
 obtain rfl:=AK a
 refine O1 B ag Z (.tmp Z)<|⟨gj,dx,[Sl go bl.2.p.funcs gp,I bl.2.most,I bl.2.cost,I bl.2.why],Z,Ho (Tn (T4 (Mo [1] o) p r l cr) gk) af,gl,gm,(Av (x:=bl.2) dy)⟩
 refine Sr<|Vr (.bool (f.op==7))<|Va (.bool (f.op==7))<|AA<|Cn a (fun gq a=>?_) fun gq a=>?_
 refine Am (fun a0 bb=>∃ad a2 b2 dz ao ct cu d0 ah ai aj ak al z bm bn am d1,a0=Env.puts ad [(0,Pt ab 0),(2,w),(4,Pt cf 0),(7,Pt b2 0)]∧JG ap ay c f ac ao ah ai aj ak al z am=some bh∧AS [25] u a1 a2 bb∧Slc Ab a2.F bb (Sl ct ao cu) ao∧Slc AH a2.F bb (Sl bm z bn) z∧Bk a2 bb 25 b2 [Sb dz,Sl ct ao cu,I d0,I ah,Sb ai,Sb aj,I ak,Cx al,Sl bm z bn,I am,I d1] 58) ?_ ?_
 refine BW Cv (qs 0 6 (.two 6 10 (qs 7 3 (.one 10 (.one 11 (.q 12 .nil)))) (.one 6 (qs 7 3 (.one 11 (.q 12 .nil)))))) [] [25] u (by kernel_rfl) fun gr bc=>Qx e Z (v:=Pt ab 0) (fun _ _=>Mv Z)<|Qx e Z (fun _ _=>Nc Z)<|Qx e Z (fun _ _=>Fz YS Z)<|have gs:=Y2 an l bc;Qx e Z (fun _ ⟨_,d⟩=>Lx Gd Z Z (Bk.part (Bs gs d) 0 [Sl ar c.p.funcs au] Z))<|Qx e Z (fun _ _=>Fd Di Z)<|have gt:=Y2 av l bc;Qx e Z (fun _ ⟨_,d⟩=>Ld CG Z (Bc (Bs gt d) Z))<|M7 Z Z ?_ ?_
 refine have gu:=Ss AI (K4 AI y o p r l) bc;Bi a fun m gv a=>A3 Z (.none Z) Z Z (Cg [Ag [Sl ar c.p.funcs au],Sb f.name] Z)<|Calls.mono (Lj ay u gr gv (BQ (x:=(AM.mk c.p.funcs)) gu)) ?_
 rintro _ lg ⟨gw,lh,rfl,b3,gx⟩
 obtain ⟨li,lj,rfl,d2,d3⟩:=Cl gx
 obtain ⟨cv,cw,rfl⟩:=AT d2
 obtain ⟨cx,cy,rfl⟩:=AT d3
 refine ⟨_,Z,⟨_,(Mo [25] b3)⟩,?_⟩
 refine Qx e Z (v:=.tuple #[Ag [Sb m.1.name,Sl cv m.1.params cw,I m.1.type_,I m.1.body.op,Sb m.1.body.name,Sb m.1.body.tail,I m.1.body.type_,Cx m.1.body.num,Sl cx m.1.body.args cy,I m.1.body.at_,I m.1.at_],.bool m.2]) (fun _ _=>Mv Z)<|Qx e Z (v:=Ag [Sb m.1.name,Sl cv m.1.params cw,I m.1.type_,I m.1.body.op,Sb m.1.body.name,Sb m.1.body.tail,I m.1.body.type_,Cx m.1.body.num,Sl cx m.1.body.args cy,I m.1.body.at_,I m.1.at_]) (fun _ _=>Z)<|Qx e Z (v:=.bool m.2) (fun _ _=>Z)<|A1 Z<|Bb Z (.none Z) Z Z<|AY gw 25 KS Z fun gy lk gz g0 bo=>⟨⟨_,(Tn (Mo [25] b3) bo)⟩,?_⟩
 refine A1 Z<|have g1:=Ss Ab d2 bo;have g2:=Ss AH d3 bo;BM Z (.none Z) Z<|St LB g0 Z Z Z Z fun ll g3 b4=>⟨⟨_,(T2 (Mo [25] b3) bo b4)⟩,?_⟩
 refine Qx e Z (v:=.bool m.2) (fun _ _=>Run.assign Z)<|B9<|have g4:=Ss Ab g1 b4;have g5:=Ss AH g2 b4;⟨_,gy,gz,m.1.name,m.1.params,cv,cw,m.1.type_,m.1.body.op,m.1.body.name,m.1.body.tail,m.1.body.type_,m.1.body.num,m.1.body.args,cx,cy,m.1.body.at_,m.1.at_,Pu,a,(T3 (Mo [25] bc) b3 bo b4),g4,g5,g3⟩
 refine Bb Z (.none Z) Z Z<|AY u 25 KS Z fun g6 g7 g8 g9 bp=>⟨⟨_,(Mo [25] bp)⟩,?_⟩
 refine A1 Z<|have ha:=K2 AI (K4 AI y o p r l) bc bp;Bi a fun n hb a=>A3 Z (.none Z) Z Z (Cg [Ag [Sl ar c.p.funcs au],Sb f.name] Z)<|Calls.mono (Lj ay g6 g7 hb (BQ (x:=(AM.mk c.p.funcs)) ha)) ?_
 rintro _ lm ⟨hc,ln,rfl,b5,hd⟩
 obtain ⟨lo,lp,rfl,d4,d5⟩:=Cl hd
 obtain ⟨cz,c0,rfl⟩:=AT d4
 obtain ⟨c1,c2,rfl⟩:=AT d5
 refine ⟨_,Z,⟨_,(Tn (Mo [25] bp) b5)⟩,?_⟩
 refine Qx e Z (v:=.tuple #[Ag [Sb n.1.name,Sl cz n.1.params c0,I n.1.type_,I n.1.body.op,Sb n.1.body.name,Sb n.1.body.tail,I n.1.body.type_,Cx n.1.body.num,Sl c1 n.1.body.args c2,I n.1.body.at_,I n.1.at_],.bool n.2]) (fun _ _=>Mv Z)<|Qx e Z (v:=Ag [Sb n.1.name,Sl cz n.1.params c0,I n.1.type_,I n.1.body.op,Sb n.1.body.name,Sb n.1.body.tail,I n.1.body.type_,Cx n.1.body.num,Sl c1 n.1.body.args c2,I n.1.body.at_,I n.1.at_]) (fun _ _=>Z)<|Qx e Z (v:=.bool n.2) (fun _ _=>Z)<|A1 Z<|have he:=Bs g9 b5;BM Z (.none Z) Z<|St LB he Z Z Z Z fun lq hf b6=>⟨⟨_,(T2 (Mo [25] bp) b5 b6)⟩,?_⟩
 refine Qx e Z (v:=.bool n.2) (fun _ _=>Run.assign Z)<|B9<|have hg:=Ss Ab d4 b6;have hh:=Ss AH d5 b6;⟨_,hc,g8,n.1.name,n.1.params,cz,c0,n.1.type_,n.1.body.op,n.1.body.name,n.1.body.tail,n.1.body.type_,n.1.body.num,n.1.body.args,c1,c2,n.1.body.at_,n.1.at_,Pu,a,(T3 (Mo [25] bc) bp b5 b6),hg,hh,hf⟩
 rintro _ bb ⟨ad,a2,b2,dz,ao,ct,cu,d0,ah,ai,aj,ak,al,z,bm,bn,am,d1,rfl,a,bd,hi,hj,d6⟩
 rw [JG] at a
 refine Sr<|Va (.pointer none)<|AA<|AR<|Sr<|Va (I 0)<|AA<|Af<|Bg (fun aw a0 b7=>∃ad ax bq a3 aa,a0=Env.puts ad [(0,Pt ab 0),(2,w),(4,Pt cf 0),(7,Pt b2 0),(9,a3),(10,I aa)]∧Ex ap c f ac ao ah ai aj ak al z am aw bq aa=some bh∧AS [26,27] a2 bb ax b7∧RNm ax.F b7 a3 bq) ay ?_ ?_
 exact ⟨_,a2,Nm.nil,.pointer none,0,Pu,a,(AS.refl [26,27] _ _),RNm.nil⟩
 rintro aw _ b7 ⟨ad,ax,bq,a3,aa,rfl,a,ae,c3⟩
 rcases aw with _|aw
 exact A5 a
 refine have a:G6 ap c f ac ao ah ai aj ak al z am (Ex ap c f ac ao ah ai aj ak al z am aw) bq aa=some bh:=a; ?_
 obtain ⟨lr,d7⟩:∃s,s=Ex ap c f ac ao ah ai aj ak al z am aw:=⟨_,rfl⟩
 rw [←d7,G6] at a
 refine AR<|Sr<|Vm<|Vx (Fd BS Z)<|have d8:=Y3 av l bd ae;Vx (Ld Cf Z (Bc d8 Z))<|have d9:=K2 AH (K4 AH b1 o p r l) bd ae; ?_
 obtain ⟨ls,lt,hk⟩:=AT d9
 refine Vx (v:=I (f.args.length:Int)) (Ll CH hk)<|Vr (.bool (decide (aa< (f.args.length:Int))))<|AA<|Cn a (fun hl a=>?_) fun hl a=>?_
 refine WC.skip<|AR<|Af<|BW Cv (qs 0 13 (.q 14 (.one 13 (.q 15 (.one 16 (.q 17 .nil)))))) [] [] ax (by kernel_rfl) fun ea a4=>Qx e Z (fun _ _=>Fd EY Z)<|have hm:=Y2 d6 ae a4;Qx e Z (fun _ ⟨_,d⟩=>Ld Ey Z (Bc (Bs hm d) Z))<|Qx e Z (v:=I aa) (fun _ _=>Mv Z)<|Bi a fun c4 hn a=>have ho:=K2 Ab hi ae a4; ?_
 obtain ⟨hp,hq,lu,hr,hs,ht,hu,hw,c5⟩:=A8 (κ:=Ab) ho hn
 replace c5:Ax ax ea hp (hq+aa.toNat*3) hr:=c5
 obtain rfl:=Ez hw
 refine Qx e Z (fun _ _=>Ix D9 hs Z ht hu)<|Qx e Z (fun _ _=>Fz Lh Z)<|Qx e Z (fun _ ⟨_,d⟩=>Ld CG Z (Ax.cell0 (Es c5 d) Z))<|Qx e Z (fun _ _=>Fd BS Z)<|have hx:=Bs d8 a4;Qx e Z (fun _ ⟨_,d⟩=>Ld Cf Z (Bc (Bs hx d) Z))<|Qx e Z (v:=I aa) (fun _ _=>Mv Z)<|Bi a fun q hy a=>have hz:=Ss AH d9 a4; ?_
 obtain ⟨h0,h1,lv,h2,h3,h4,h5,h6,c6⟩:=A8 (κ:=AH) hz hy
 replace c6:Ax ax ea h0 (h1+aa.toNat*7) h2:=c6
 obtain ⟨b8,b9,rfl,eb⟩:=E1 (Ae h6)
 refine Qx e Z (fun _ _=>Ix CH h3 Z h4 h5)<|Qx e Z (fun _ ⟨_,d⟩=>Lx A9 Z Z (Ax.part0 (Es c6 d) [I q.op,Sb q.name,Sb q.tail,I q.type_,Cx q.num,Sl b8 q.args b9,I q.at_] Z))<|Qx e Z (v:=w) (fun _ _=>Mv Z)<|Qx e Z (v:=Ag [.bool false,.bool false,I 0,Cx (((0,0):Nat×Nat)),.bool false,.slice none 0 0,.pointer none,.pointer none,I q.op,Sb q.name,Sb q.tail,I q.type_,Cx q.num,Sl b8 q.args b9,I q.at_,w]) (fun _ _=>B3 (cs:=[.bool false,.bool false,I 0,Cx (((0,0):Nat×Nat)),.bool false,.slice none 0 0,.pointer none,.pointer none,I q.op,Sb q.name,Sb q.tail,I q.type_,Cx q.num,Sl b8 q.args b9,I q.at_,w]) [.bool false,.bool false,I 0,Cx (((0,0):Nat×Nat)),.bool false,.slice none 0 0,.pointer none,.pointer none,I 0,Sb ([]:Bts),Sb ([]:Bts),I 0,Cx (((0,0):Nat×Nat)),.slice none 0 0,I 0,.pointer none] Jg Je Z (.cons Z Z Z (.cons Z (Dk (RNm.one aq)) Z .nil)) Z Z)<|Qx e Z (v:=a3) (fun _ _=>Mv Z)<|A1 Z<|Bb Z (.none Z) Z Z<|A0 ax 26 Z Z fun h7 lx ec h8 be=>⟨⟨_,(Mo [] be)⟩,?_⟩
 refine Qx e Z (v:=Ag [Sb c4.name,Pt ec 0,a3]) (fun _ _=>B3 (cs:=[Sb c4.name,Pt ec 0,a3]) [Sb ([]:Bts),.pointer none,.pointer none] Pj Pi Z (.cons Z Z Z (.cons Z Z Z (.cons Z (Dk (RNm.one c3)) Z .nil))) Z Z)<|A1 Z<|Bb Z (.none Z) Z Z<|A0 h7 27 Z Z fun ly lz ed h9 bf=>⟨⟨_,(Tn (Mo [] be) bf)⟩,?_⟩
 refine Qx e Z (v:=Pt ed 0) (fun _ _=>Run.assign Z)<|B9<|AL<|Vm<|Vr (I (Wr (aa+1)))<|Va (I (Wr (aa+1)))<|AA<|have ia:=K2 AH eb be bf;have ib:=Bs h8 bf;have ic:=Rs (Rs (Rs (Rs (Rs (Rs (Rs (Rs (Rs aq o) p) r) l) bd) ae) a4) be) bf; ?_
 obtain ⟨l0,c7,id⟩:=RTh.layLater (cp:=[I 0,Cx (((0,0):Nat×Nat)),.bool false,.slice none 0 0]) (ce:=[I q.op,Sb q.name,Sb q.tail,I q.type_,Cx q.num,Sl b8 q.args b9,I q.at_]) ib dcd (Al (x:=(AF.mk 0 ((0,0):Nat×Nat) false [])) BK) (AW (x:=q) ia) ic
 refine have ie:=Bs h9 c7;have ig:=Rs (Rs (Rs (Rs c3 a4) be) bf) c7; ?_
 obtain ⟨ih,ii,ij⟩:=RNm.lay ie dcd id ig
 exact ⟨aw,Nat.lt_succ_self aw,_,ih,(Nm.bind c4.name (Th.later q ac) bq),Pt ed 0,(Wr (aa+1)),Pu,(d7▸a),(Tn (T4 (Mo [26,27] ae) a4 be bf c7) ii),ij⟩
 refine Ba<|Sr<|Vm<|Vx (Fd ME Z)<|have ik:=Bs d6 ae;Vx (Lx A9 Z Z (Bk.part ik 3 [I ah,Sb ai,Sb aj,I ak,Cx al,Sl bm z bn,I am] Z))<|Vm<|have il:=Y3 an l bd ae;have im:=K2 AI (K4 AI y o p r l) bd ae;have io:=Ss AH hj ae;Bi a fun br ip a=>Ca (Cg [Pt ab 0,Ag [I ah,Sb ai,Sb aj,I ak,Cx al,Sl bm z bn,I am],a3] Z) (cc.ref11_Machine_look ax b7 ip dcd dcd il (Av (x:=(AU.mk (AM.mk c.p.funcs) c.most (Wr (c.cost+1)) c.why)) im) (AW (x:=(AE.mk ah ai aj ak al z am)) io) c3) ?_
 rintro _ l1 ⟨iq,ee,l2,rfl,ir,it,iu,iv⟩
 obtain ⟨iw,ix,rfl,ef⟩:=E1 (BO iv)
 refine Va ee<|AA<|AQ ?_
 obtain rfl:=AK a
 refine O1 B ag Z (.tmp Z)<|⟨iq,ee,[Sl iw br.2.p.funcs ix,I br.2.most,I br.2.cost,I br.2.why],Z,Ho (T2 (T4 (Mo [1,25,26,27] o) p r l bd) ae ir) af,it,iu,(Av (x:=br.2) ef)⟩
 refine Sr<|Vr (.bool (f.op==18))<|Va (.bool (f.op==18))<|AA<|Cn a (fun iy a=>?_) fun iy a=>?_
 refine Am (fun a0 c8=>∃ad ca c9 cb,a0=Env.puts ad [(6,cb)]∧JH c c9=some bh∧AS [28,29,30] u a1 ca c8∧RTh ca.F c8 cb c9) ?_ ?_
 refine BW Cv (qs 0 6 (qs 7 6 (.two 6 13 (.one 13 (.q 14 (.one 15 (.q 16 .nil)))) (.one 6 (.q 14 (.one 15 (.q 16 .nil))))))) [] [] u (by kernel_rfl) fun eg bg=>Qx e Z (fun _ _=>Fd BS Z)<|have eh:=Y2 av l bg;Qx e Z (fun _ ⟨_,d⟩=>Ld Cf Z (Bc (Bs eh d) Z))<|Bi a fun g iz a=>have ei:=Ss AH (K4 AH b1 o p r l) bg; ?_
 obtain ⟨i0,i1,l4,i2,i3,i4,i5,i6,da⟩:=A8 (κ:=AH) ei iz
 replace da:Ax u eg i0 (i1+(0:Int).toNat*7) i2:=da
 obtain ⟨bt,bu,rfl,db⟩:=E1 (Ae i6)
 refine Qx e Z (fun _ _=>Ix CH i3 Z i4 i5)<|Qx e Z (fun _ ⟨_,d⟩=>Lx A9 Z Z (Ax.part0 (Es da d) [I g.op,Sb g.name,Sb g.tail,I g.type_,Cx g.num,Sl bt g.args bu,I g.at_] Z))<|Qx e Z (v:=w) (fun _ _=>Mv Z)<|Qx e Z (v:=Ag [.bool false,.bool false,I 0,Cx (((0,0):Nat×Nat)),.bool false,.slice none 0 0,.pointer none,.pointer none,I g.op,Sb g.name,Sb g.tail,I g.type_,Cx g.num,Sl bt g.args bu,I g.at_,w]) (fun _ _=>B3 (cs:=[.bool false,.bool false,I 0,Cx (((0,0):Nat×Nat)),.bool false,.slice none 0 0,.pointer none,.pointer none,I g.op,Sb g.name,Sb g.tail,I g.type_,Cx g.num,Sl bt g.args bu,I g.at_,w]) [.bool false,.bool false,I 0,Cx (((0,0):Nat×Nat)),.bool false,.slice none 0 0,.pointer none,.pointer none,I 0,Sb ([]:Bts),Sb ([]:Bts),I 0,Cx (((0,0):Nat×Nat)),.slice none 0 0,I 0,.pointer none] Jg Je Z (.cons Z Z Z (.cons Z (Dk (RNm.one aq)) Z .nil)) Z Z)<|Qx e Z (fun _ _=>Fd BS Z)<|Qx e Z (fun _ ⟨_,d⟩=>Ld Cf Z (Bc (Bs eh d) Z))<|Bi a fun h i7 a=>?_
 obtain ⟨i8,i9,l6,ja,jb,jc,jd,je,dc⟩:=A8 (κ:=AH) ei i7
 replace dc:Ax u eg i8 (i9+(1:Int).toNat*7) ja:=dc
 obtain ⟨bv,bw,rfl,de⟩:=E1 (Ae je)
 refine Qx e Z (fun _ _=>Ix CH jb Z jc jd)<|Qx e Z (fun _ ⟨_,d⟩=>Lx A9 Z Z (Ax.part0 (Es dc d) [I h.op,Sb h.name,Sb h.tail,I h.type_,Cx h.num,Sl bv h.args bw,I h.at_] Z))<|Qx e Z (v:=w) (fun _ _=>Mv Z)<|Qx e Z (v:=Ag [.bool false,.bool false,I 0,Cx (((0,0):Nat×Nat)),.bool false,.slice none 0 0,.pointer none,.pointer none,I h.op,Sb h.name,Sb h.tail,I h.type_,Cx h.num,Sl bv h.args bw,I h.at_,w]) (fun _ _=>B3 (cs:=[.bool false,.bool false,I 0,Cx (((0,0):Nat×Nat)),.bool false,.slice none 0 0,.pointer none,.pointer none,I h.op,Sb h.name,Sb h.tail,I h.type_,Cx h.num,Sl bv h.args bw,I h.at_,w]) [.bool false,.bool false,I 0,Cx (((0,0):Nat×Nat)),.bool false,.slice none 0 0,.pointer none,.pointer none,I 0,Sb ([]:Bts),Sb ([]:Bts),I 0,Cx (((0,0):Nat×Nat)),.slice none 0 0,I 0,.pointer none] Jg Je Z (.cons Z Z Z (.cons Z (Dk (RNm.one aq)) Z .nil)) Z Z)<|M7 Z Z ?_ ?_
 refine Bb Z (.none Z) Z Z<|A0 u 28 Z Z fun jf l8 df jg a5=>⟨⟨_,(Mo [] a5)⟩,?_⟩
 refine A1 Z<|Bb Z (.none Z) Z Z<|A0 jf 29 Z Z fun jh l9 dg ji a6=>⟨⟨_,(Tn (Mo [] a5) a6)⟩,?_⟩
 refine Qx e Z (v:=Ag [.bool true,.bool true,I 0,Cx (((0,0):Nat×Nat)),.bool false,.slice none 0 0,Pt df 0,Pt dg 0,I 0,Sb ([]:Bts),Sb ([]:Bts),I 0,Cx (((0,0):Nat×Nat)),.slice none 0 0,I 0,.pointer none]) (fun _ _=>B3 (cs:=[.bool true,.bool true,I 0,Cx (((0,0):Nat×Nat)),.bool false,.slice none 0 0,Pt df 0,Pt dg 0,I 0,Sb ([]:Bts),Sb ([]:Bts),I 0,Cx (((0,0):Nat×Nat)),.slice none 0 0,I 0,.pointer none]) [.bool false,.bool false,I 0,Cx (((0,0):Nat×Nat)),.bool false,.slice none 0 0,.pointer none,.pointer none,I 0,Sb ([]:Bts),Sb ([]:Bts),I 0,Cx (((0,0):Nat×Nat)),.slice none 0 0,I 0,.pointer none] Jg Je Z (.cons Z Z Z (.cons Z Z Z (.cons Z Z Z (.cons Z Z Z .nil)))) Z Z)<|A1 Z<|Bb Z (.none Z) Z Z<|A0 jh 30 Z Z fun ma mb ej jj a7=>⟨⟨_,(T2 (Mo [] a5) a6 a7)⟩,?_⟩
 refine Qx e Z (v:=Pt ej 0) (fun _ _=>Run.assign Z)<|B9<|have jk:=K3 AH db a5 a6 a7;have jl:=Y2 jg a6 a7;have ek:=Rs (Rs (Rs (Rs (Rs (Rs (Rs (Rs aq o) p) r) l) bg) a5) a6) a7; ?_
 obtain ⟨mc,bx,jm⟩:=RTh.layLater (cp:=[I 0,Cx (((0,0):Nat×Nat)),.bool false,.slice none 0 0]) (ce:=[I g.op,Sb g.name,Sb g.tail,I g.type_,Cx g.num,Sl bt g.args bu,I g.at_]) jl dcd (Al (x:=(AF.mk 0 ((0,0):Nat×Nat) false [])) BK) (AW (x:=g) jk) ek
 refine have jn:=K4 AH de a5 a6 a7 bx;have jo:=Y2 ji a7 bx;have jp:=Rs ek bx; ?_
 obtain ⟨md,dh,jq⟩:=RTh.layLater (cp:=[I 0,Cx (((0,0):Nat×Nat)),.bool false,.slice none 0 0]) (ce:=[I h.op,Sb h.name,Sb h.tail,I h.type_,Cx h.num,Sl bv h.args bw,I h.at_]) jo dcd (Al (x:=(AF.mk 0 ((0,0):Nat×Nat) false [])) BK) (AW (x:=h) jn) jp
 refine have jr:=Y2 jj bx dh;have js:=RTh.step jm dh dcd; ?_
 obtain ⟨jt,ju,jv⟩:=RTh.layDone (hv:=Pt df 0) (tv:=Pt dg 0) (cp:=[I 0,Cx (((0,0):Nat×Nat)),.bool false,.slice none 0 0]) (ce:=[I 0,Sb ([]:Bts),Sb ([]:Bts),I 0,Cx (((0,0):Nat×Nat)),.slice none 0 0,I 0]) jr dcd (Al (x:=(AF.mk 0 ((0,0):Nat×Nat) false [])) BK) (AW (x:=(AE.mk 0 ([]:Bts) ([]:Bts) 0 ((0,0):Nat×Nat) [] 0)) BK) js jq
 exact ⟨_,jt,(Th.done (AF.mk 0 ((0,0):Nat×Nat) false []) (Th.later g ac) (Th.later h ac)),Pt ej 0,Pu,a,(T2 (T4 (Mo [28,29,30] bg) a5 a6 a7 bx) dh ju),jv⟩
 refine Bb Z (.none Z) Z Z<|A0 u 29 Z Z fun jw me di jx a8=>⟨⟨_,(Mo [] a8)⟩,?_⟩
 refine A1 Z<|Bb Z (.none Z) Z Z<|A0 jw 28 Z Z fun jy mf dj jz a9=>⟨⟨_,(Tn (Mo [] a8) a9)⟩,?_⟩
 refine Qx e Z (v:=Ag [.bool true,.bool true,I 0,Cx (((0,0):Nat×Nat)),.bool false,.slice none 0 0,Pt dj 0,Pt di 0,I 0,Sb ([]:Bts),Sb ([]:Bts),I 0,Cx (((0,0):Nat×Nat)),.slice none 0 0,I 0,.pointer none]) (fun _ _=>B3 (cs:=[.bool true,.bool true,I 0,Cx (((0,0):Nat×Nat)),.bool false,.slice none 0 0,Pt dj 0,Pt di 0,I 0,Sb ([]:Bts),Sb ([]:Bts),I 0,Cx (((0,0):Nat×Nat)),.slice none 0 0,I 0,.pointer none]) [.bool false,.bool false,I 0,Cx (((0,0):Nat×Nat)),.bool false,.slice none 0 0,.pointer none,.pointer none,I 0,Sb ([]:Bts),Sb ([]:Bts),I 0,Cx (((0,0):Nat×Nat)),.slice none 0 0,I 0,.pointer none] Jg Je Z (.cons Z Z Z (.cons Z Z Z (.cons Z Z Z (.cons Z Z Z .nil)))) Z Z)<|A1 Z<|Bb Z (.none Z) Z Z<|A0 jy 30 Z Z fun mg mh el j0 ba=>⟨⟨_,(T2 (Mo [] a8) a9 ba)⟩,?_⟩
 refine Qx e Z (v:=Pt el 0) (fun _ _=>Run.assign Z)<|B9<|have j1:=K3 AH db a8 a9 ba;have j2:=Bs jz ba;have em:=Rs (Rs (Rs (Rs (Rs (Rs (Rs (Rs aq o) p) r) l) bg) a8) a9) ba; ?_
 obtain ⟨mi,bz,j3⟩:=RTh.layLater (cp:=[I 0,Cx (((0,0):Nat×Nat)),.bool false,.slice none 0 0]) (ce:=[I g.op,Sb g.name,Sb g.tail,I g.type_,Cx g.num,Sl bt g.args bu,I g.at_]) j2 dcd (Al (x:=(AF.mk 0 ((0,0):Nat×Nat) false [])) BK) (AW (x:=g) j1) em
 refine have j4:=K4 AH de a8 a9 ba bz;have j5:=Y3 jx a9 ba bz;have j6:=Rs em bz; ?_
 obtain ⟨mj,dk,j7⟩:=RTh.layLater (cp:=[I 0,Cx (((0,0):Nat×Nat)),.bool false,.slice none 0 0]) (ce:=[I h.op,Sb h.name,Sb h.tail,I h.type_,Cx h.num,Sl bv h.args bw,I h.at_]) j5 dcd (Al (x:=(AF.mk 0 ((0,0):Nat×Nat) false [])) BK) (AW (x:=h) j4) j6
 refine have j8:=Y2 j0 bz dk;have j9:=RTh.step j3 dk dcd; ?_
 obtain ⟨ka,kb,kc⟩:=RTh.layDone (hv:=Pt dj 0) (tv:=Pt di 0) (cp:=[I 0,Cx (((0,0):Nat×Nat)),.bool false,.slice none 0 0]) (ce:=[I 0,Sb ([]:Bts),Sb ([]:Bts),I 0,Cx (((0,0):Nat×Nat)),.slice none 0 0,I 0]) j8 dcd (Al (x:=(AF.mk 0 ((0,0):Nat×Nat) false [])) BK) (AW (x:=(AE.mk 0 ([]:Bts) ([]:Bts) 0 ((0,0):Nat×Nat) [] 0)) BK) j9 j7
 exact ⟨_,ka,(Th.done (AF.mk 0 ((0,0):Nat×Nat) false []) (Th.later g ac) (Th.later h ac)),Pt el 0,Pu,a,(T2 (T4 (Mo [28,29,30] bg) a8 a9 ba bz) dk kb),kc⟩
 rintro _ c8 ⟨ad,ca,c9,cb,rfl,a,dl,kd⟩
 rw [JH] at a
 refine AQ ?_
 obtain rfl:=AK a
 refine O1 B ag Z (.tmp Z)<|have ke:=Y2 an l dl;have kf:=Ss AI (K4 AI y o p r l) dl;⟨ca,cb,[Sl ar c.p.funcs au,I c.most,I (Wr (c.cost+1)),I c.why],Z,Ho (T4 (Mo [1,28,29,30] o) p r l dl) af,kd,ke,(Av (x:=(AU.mk (AM.mk c.p.funcs) c.most (Wr (c.cost+1)) c.why)) kf)⟩
 refine WC.skip<|Sr<|Vm<|have kg:=Bs av l;Vx (Lx A9 Z Z (Bk.part kg 0 [I f.op,Sb f.name,Sb f.tail,I f.type_,Cx f.num,Sl dm f.args dn,I f.at_] Z))<|Vm<|have kh:=Bs an l;have ki:=K4 AI y o p r l;have kj:=K4 AH b1 o p r l;have kk:=Rs (Rs (Rs (Rs aq o) p) r) l;Bi a fun b0 kl a=>Ca (Cg [Pt ab 0,Ag [I f.op,Sb f.name,Sb f.tail,I f.type_,Cx f.num,Sl dm f.args dn,I f.at_],w] Z) (cc.ref11_Machine_inside u a1 kl dcd dcd kh (Av (x:=(AU.mk (AM.mk c.p.funcs) c.most (Wr (c.cost+1)) c.why)) ki) (AW (x:=f) kj) kk) ?_
 rintro _ mk ⟨km,en,ml,rfl,kn,ko,kp,kq⟩
 obtain ⟨kr,ks,rfl,eo⟩:=E1 (BO kq)
 refine Va en<|AA<|AQ ?_
 obtain rfl:=AK a
 refine O1 B ag Z (.tmp Z)<|⟨km,en,[Sl kr b0.2.p.funcs ks,I b0.2.most,I b0.2.cost,I b0.2.why],Z,Ho (T4 (Mo [1] o) p r l kn) af,ko,kp,(Av (x:=b0.2) eo)⟩
theorem OK(c:AP)(e:Nat)(h:AP.Good c):ref11_Machine_look.Spec (BJ c e):=by
 intro d f a aa ab ac ad ae af ag ah l hnd hnz g m n o
 refine Calls.mono (OJ c e h (recol (see [a]) d) f (Fa (Nat.le_of_ble_eq_true Z) d) l trivial trivial (BU g [a] (BP hnd hnz (i:=0) Z)) (BY CB m [a]) (BY AH n [a]) (RNm.recol o [a])) ?_
 rintro ai aj ⟨p,q,r,s,u,w,y,z⟩
 exact ⟨glue [a] f d p,q,r,s,CA u (Fb Z Z),RTh.glue w,ED g y dcd,Dm CB z⟩
end Fth
namespace Fth
open Go Go.Proofs Sh
set_option maxRecDepth 100000
set_option maxHeartbeats 8000000
theorem PR(s:AP)(aq:Nat)(ar:AP.Good s)(m:Col)(u:World)(af:∀b,m b<10):ref11_Machine_of.At True True m u (Hb s aq) 1:=by
 intro w h b4 au o av c _ _ y aw z
 rw [Hb] at c
 obtain ⟨ax,ay,rfl,aa⟩:=E1 (BO aw)
 refine Ay Tryz.func59 Z Tryz.ntmps59 Z fun B ag g=>Sr<|Va (.pointer none)<|AA<|AR<|Am (fun az ah=>∃ai n ab,az=Env.puts ai [(0,Pt w 0),(1,o),(15,.bool ab)]∧Jx s h au ab=some av∧AS [] m u n ah) ?_ ?_
 refine AL<|Vm<|Vx (Nc Z)<|Vx (Fd Kj Z)<|Vx (Ld BC Z (Bc y Z))<|Vr (.bool (h.why != 0))<|Vm<|Bo c (fun e c=>?_) fun e c=>?_
 refine Pg e<|Pg e<|Pg e<|Pg e<|Vp e<|AA<|⟨_,m,true,Pu,c,Rf⟩
 refine Gm e<|Bi c fun d a0 c=>?_
 obtain ⟨a1,b6,a2,a3,b7,a4,a5,ac,a6,b8,b9,a7,ca⟩:=RTh.el z a0
 obtain ⟨a9,ba,rfl,a8⟩:=E1 (Az a6)
 obtain ⟨bc,bd,rfl,bb⟩:=E1 (Ae a7)
 replace ac:Ax m u a1 0 [.bool d.known,.bool d.pair,I d.value.type_,Cx d.value.num,.bool d.value.bool,Sl a9 d.value.list ba,a2,a3,I d.e.op,Sb d.e.name,Sb d.e.tail,I d.e.type_,Cx d.e.num,Sl bc d.e.args bd,I d.e.at_,a4]:=ac
 refine Gx e (Nc a5)<|Gx e (Fz YY Z)<|Gx e (Ld MF Z (Ax.cell0 ac Z))<|Vp e<|AA<|⟨_,m,d.known,Pu,c,Rf⟩
 rintro _ ah ⟨ai,n,ab,rfl,c,l⟩
 rw [Jx] at c
 refine Cn c (fun be c=>?_) fun be c=>?_
 refine Sr<|Vm<|Va o<|AA<|AQ ?_
 obtain rfl:=AK c
 refine O1 B ag Z (.tmp Z)<|have bf:=RTh.step z l dcd;have bg:=Bs y l;have bh:=Ss AI aa l;⟨n,o,[Sl ax h.p.funcs ay,I h.most,I h.cost,I h.why],Z,Ho (Mo [] l) af,bf,bg,(Av (x:=h) bh)⟩
 refine WC.skip<|AR<|BW Cv (qs 0 9 (.one 9 (.q 10 .nil))) [] [1] n (by kernel_rfl) fun aj q=>Qx g Z (v:=Pt w 0) (fun _ _=>Mv Z)<|Qx g Z (v:=o) (fun _ _=>Mv Z)<|have bi:=RTh.step (RTh.step z l dcd) q dcd;Bi c fun a bj c=>?_
 obtain ⟨bk,cd,bl,bm,cf,ak,al,r,bn,cg,ch,bo,bp⟩:=RTh.el bi bj
 obtain ⟨br,bt,rfl,bq⟩:=E1 (Az bn)
 obtain ⟨ad,ae,rfl,am⟩:=E1 (Ae bo)
 replace r:Ax n aj bk 0 [.bool a.known,.bool a.pair,I a.value.type_,Cx a.value.num,.bool a.value.bool,Sl br a.value.list bt,bl,bm,I a.e.op,Sb a.e.name,Sb a.e.tail,I a.e.type_,Cx a.e.num,Sl ad a.e.args ae,I a.e.at_,ak]:=r
 refine Qx g Z (fun _ _=>Nc al)<|Qx g Z (fun _ _=>Fd YZ Z)<|Qx g Z (fun _ ⟨_,f⟩=>Lx A9 Z Z (Kd.At.part (Ax.at_ (Es r f)) 8 [I a.e.op,Sb a.e.name,Sb a.e.tail,I a.e.type_,Cx a.e.num,Sl ad a.e.args ae,I a.e.at_] Z))<|Qx g Z (v:=o) (fun _ _=>Mv Z)<|Qx g Z (fun _ _=>Nc al)<|Qx g Z (fun _ _=>Fd U9 Z)<|Qx g Z (fun _ ⟨_,f⟩=>Ld Xz Z (Ax.cell (k:=15) (Es r f) Z))<|A1 Z<|have bu:=Y2 y l q;have bv:=K2 AI aa l q;Bi c fun p bw c=>A3 Z (.none Z) Z Z (Cg [Pt w 0,Ag [I a.e.op,Sb a.e.name,Sb a.e.tail,I a.e.type_,Cx a.e.num,Sl ad a.e.args ae,I a.e.at_],ak] Z)<|Calls.mono (ar.ref11_Machine_look n aj bw dcd dcd bu (Av (x:=h) bv) (AW (x:=a.e) am) bp) ?_
 rintro _ ck ⟨bx,an,cl,rfl,ao,bz,b0,b1⟩
 obtain ⟨b2,b3,rfl,ap⟩:=E1 (BO b1)
 refine ⟨_,Z,⟨_,(Mo [1] ao)⟩,?_⟩
 refine Qx g Z (v:=an) (fun _ _=>Run.assign Z)<|B9<|AQ ?_
 obtain rfl:=AK c
 refine O1 B ag Z (.tmp Z)<|⟨bx,an,[Sl b2 p.2.p.funcs b3,I p.2.most,I p.2.cost,I p.2.why],Z,Ho (T2 (Mo [1] l) q ao) af,bz,b0,(Av (x:=p.2) ap)⟩
theorem PS(c:AP)(e:Nat)(h:AP.Good c):ref11_Machine_of.Spec (Hb c e):=by
 intro d f a z aa ab ac ad ae l hnd hnz g m n
 refine Calls.mono (PR c e h (recol (see [a]) d) f (Fa (Nat.le_of_ble_eq_true Z) d) l trivial trivial (BU g [a] (BP hnd hnz (i:=0) Z)) (BY CB m [a]) (RTh.recol n [a])) ?_
 rintro af ag ⟨o,p,q,r,s,u,w,y⟩
 exact ⟨glue [a] f d o,p,q,r,CA s (Fb Z Z),RTh.glue u,ED g w dcd,Dm CB y⟩
theorem Np(a7:AP)(a8:Nat)(al:AP.Good a7)(ct:Col)(f4:World)(aq:∀b,ct b<10):ref11_Machine_inside.At True True ct f4 (BL a7 a8) 1:=by
 intro n ay pi h pj bm m cu a _ _ bn f5 f6 bg
 rw [BL] at a
 obtain ⟨f7,f8,rfl,bh⟩:=E1 (BO f5)
 obtain ⟨pm,pn,rfl,bi⟩:=E1 (Ae f6)
 refine Ay Tryz.func62 Z Tryz.ntmps62 Z fun B ar d=>Sr<|Ef<|A0 ct 20 Z Z fun ai a9 du aj f=>Va (.pointer none)<|AA<|AR<|Sr<|Vx (Fz C8 Z)<|Vx (Ld Ge Z (Bc aj Z))<|AA<|Af<|Sr<|Vr (.bool (h.op==19))<|Va (.bool (h.op==19))<|AA<|Cn a (fun f9 a=>?_) fun f9 a=>?_
 refine Sr<|Vm<|Vx (Fd BS Z)<|Vx (Ld Cf Z (Bc aj Z))<|Bi a fun o ga a=>have cv:=Ss AH bi f; ?_
 obtain ⟨gb,o26,po,gc,gd,ge,gf,gg,cw⟩:=A8 (κ:=AH) cv ga
 replace cw:Ax ai a9 gb (o26+(0:Int).toNat*7) gc:=cw
 obtain ⟨dw,dx,rfl,dv⟩:=E1 (Ae gg)
 refine Vx (Ix CH gd Z ge gf)<|Vx (Lx A9 Z Z (Ax.part0 cw [I o.op,Sb o.name,Sb o.tail,I o.type_,Cx o.num,Sl dw o.args dx,I o.at_] Z))<|Vm<|have gh:=Bs bn f;have gi:=Ss AI bh f;have cx:=Rs bg f;Bi a fun dy gj a=>Ca (Cg [Pt n 0,Ag [I o.op,Sb o.name,Sb o.tail,I o.type_,Cx o.num,Sl dw o.args dx,I o.at_],m] Z) (al.ref11_Machine_look ai a9 gj dcd dcd gh (Av (x:=ay) gi) (AW (x:=o) dv) cx) ?_
 rintro _ bo ⟨bp,gk,pq,rfl,az,gl,dz,gm⟩
 obtain ⟨ps,pt,rfl,cy⟩:=E1 (BO gm)
 refine Va gk<|AA<|AR<|Sr<|Vm<|Bi a fun ad gn a=>?_
 obtain ⟨go,pu,gp,gq,pv,gr,gs,cz,gt,pw,px,gu,py⟩:=RTh.el gl gn
 obtain ⟨gw,gx,rfl,gv⟩:=E1 (Az gt)
 obtain ⟨gz,g0,rfl,gy⟩:=E1 (Ae gu)
 replace cz:Ax bp bo go 0 [.bool ad.known,.bool ad.pair,I ad.value.type_,Cx ad.value.num,.bool ad.value.bool,Sl gw ad.value.list gx,gp,gq,I ad.e.op,Sb ad.e.name,Sb ad.e.tail,I ad.e.type_,Cx ad.e.num,Sl gz ad.e.args g0,I ad.e.at_,gr]:=cz
 refine Vx (Nc gs)<|Vx (Fd Pe Z)<|Vx (Fd Ka Z)<|Vx (Ld MF Z (Ax.cell (k:=4) cz Z))<|AA<|Cn a (fun g1 a=>?_) fun g1 a=>?_
 refine Sr<|Vm<|Vx (Fd BS Z)<|have g2:=Bs aj az;Vx (Ld Cf Z (Bc g2 Z))<|Bi a fun p g3 a=>have g4:=Ss AH cv az; ?_
 obtain ⟨g5,g6,p1,g7,g8,g9,ha,hb,c0⟩:=A8 (κ:=AH) g4 g3
 replace c0:Ax bp bo g5 (g6+(1:Int).toNat*7) g7:=c0
 obtain ⟨d1,d2,rfl,d0⟩:=E1 (Ae hb)
 refine Vx (Ix CH g8 Z g9 ha)<|Vx (Lx A9 Z Z (Ax.part0 c0 [I p.op,Sb p.name,Sb p.tail,I p.type_,Cx p.num,Sl d1 p.args d2,I p.at_] Z))<|Vm<|have hc:=Rs cx az;Bi a fun bq hd a=>Ca (Cg [Pt n 0,Ag [I p.op,Sb p.name,Sb p.tail,I p.type_,Cx p.num,Sl d1 p.args d2,I p.at_],m] Z) (al.ref11_Machine_look bp bo hd dcd dcd dz (Av (x:=dy.2) cy) (AW (x:=p) d0) hc) ?_
 rintro _ p3 ⟨he,d3,p4,rfl,hf,hg,hh,hi⟩
 obtain ⟨hj,hk,rfl,d4⟩:=E1 (BO hi)
 refine Va d3<|AA<|AQ ?_
 obtain rfl:=AK a
 refine O1 B ar Z (.tmp Z)<|⟨he,d3,[Sl hj bq.2.p.funcs hk,I bq.2.most,I bq.2.cost,I bq.2.why],Z,Ho (T2 (Mo [1] f) az hf) aq,hg,hh,(Av (x:=bq.2) d4)⟩
 refine WC.skip<|Sr<|Vm<|Vx (Fd BS Z)<|have hl:=Bs aj az;Vx (Ld Cf Z (Bc hl Z))<|Bi a fun q hm a=>have hn:=Ss AH cv az; ?_
 obtain ⟨ho,hp,p6,hq,hr,hs,ht,hu,c1⟩:=A8 (κ:=AH) hn hm
 replace c1:Ax bp bo ho (hp+(2:Int).toNat*7) hq:=c1
 obtain ⟨d6,d7,rfl,d5⟩:=E1 (Ae hu)
 refine Vx (Ix CH hr Z hs ht)<|Vx (Lx A9 Z Z (Ax.part0 c1 [I q.op,Sb q.name,Sb q.tail,I q.type_,Cx q.num,Sl d6 q.args d7,I q.at_] Z))<|Vm<|have hw:=Rs cx az;Bi a fun br hx a=>Ca (Cg [Pt n 0,Ag [I q.op,Sb q.name,Sb q.tail,I q.type_,Cx q.num,Sl d6 q.args d7,I q.at_],m] Z) (al.ref11_Machine_look bp bo hx dcd dcd dz (Av (x:=dy.2) cy) (AW (x:=q) d5) hw) ?_
 rintro _ p8 ⟨hy,d8,p9,rfl,hz,h0,h1,h2⟩
 obtain ⟨h3,h4,rfl,d9⟩:=E1 (BO h2)
 refine Va d8<|AA<|AQ ?_
 obtain rfl:=AK a
 refine O1 B ar Z (.tmp Z)<|⟨hy,d8,[Sl h3 br.2.p.funcs h4,I br.2.most,I br.2.cost,I br.2.why],Z,Ho (T2 (Mo [1] f) az hz) aq,h0,h1,(Av (x:=br.2) d9)⟩
 refine Sr<|Vr (.bool (h.op==20))<|Va (.bool (h.op==20))<|AA<|Cn a (fun h5 a=>?_) fun h5 a=>?_
 refine Sr<|Vm<|Vx (Fd BS Z)<|Vx (Ld Cf Z (Bc aj Z))<|Bi a fun r h6 a=>have c2:=Ss AH bi f; ?_
 obtain ⟨h7,h8,qb,h9,ia,ib,ic,id,c3⟩:=A8 (κ:=AH) c2 h6
 replace c3:Ax ai a9 h7 (h8+(0:Int).toNat*7) h9:=c3
 obtain ⟨eb,ec,rfl,ea⟩:=E1 (Ae id)
 refine Vx (Ix CH ia Z ib ic)<|Vx (Lx A9 Z Z (Ax.part0 c3 [I r.op,Sb r.name,Sb r.tail,I r.type_,Cx r.num,Sl eb r.args ec,I r.at_] Z))<|Vm<|have ie:=Bs bn f;have ig:=Ss AI bh f;have b8:=Rs bg f;Bi a fun b9 ih a=>Ca (Cg [Pt n 0,Ag [I r.op,Sb r.name,Sb r.tail,I r.type_,Cx r.num,Sl eb r.args ec,I r.at_],m] Z) (al.ref11_Machine_look ai a9 ih dcd dcd ie (Av (x:=ay) ig) (AW (x:=r) ea) b8) ?_
 rintro _ ed ⟨ca,cb,qd,rfl,a0,ee,c4,ii⟩
 obtain ⟨qf,qg,rfl,c5⟩:=E1 (BO ii)
 refine Va cb<|AA<|AR<|Am (fun c6 cc=>∃bt a1 c7,c6=Env.puts bt [(0,Pt n 0),(2,m),(4,Pt du 0),(8,cb),(66,.bool c7)]∧CX a7 h bm b9 c7=some cu∧AS [] ca ed a1 cc) ?_ ?_
 refine AL<|Vm<|Vx (Nc Z)<|Vx (Fd Kj Z)<|Vx (Ld BC Z (Bc c4 Z))<|Vr (.bool (b9.2.why != 0))<|Vm<|Bo a (fun ae a=>?_) fun ae a=>?_
 refine Pg ae<|Pg ae<|Pg ae<|Pg ae<|Pg ae<|Vp ae<|AA<|⟨_,ca,true,Pu,a,Rf⟩
 refine Gm ae<|Bi a fun u ij a=>?_
 obtain ⟨ik,qh,il,im,qi,io,ip,c8,iq,qj,qk,ir,ql⟩:=RTh.el ee ij
 obtain ⟨iu,iv,rfl,it⟩:=E1 (Az iq)
 obtain ⟨ix,iy,rfl,iw⟩:=E1 (Ae ir)
 replace c8:Ax ca ed ik 0 [.bool u.known,.bool u.pair,I u.value.type_,Cx u.value.num,.bool u.value.bool,Sl iu u.value.list iv,il,im,I u.e.op,Sb u.e.name,Sb u.e.tail,I u.e.type_,Cx u.e.num,Sl ix u.e.args iy,I u.e.at_,io]:=c8
 refine Gx ae (Nc ip)<|Gx ae (Fd Q0 Z)<|Gx ae (Ld MF Z (Ax.cell (k:=1) c8 Z))<|Gr ae (.bool (!u.pair))<|Vp ae<|AA<|⟨_,ca,(!u.pair),Pu,a,Rf⟩
 rintro _ cc ⟨bt,a1,c7,rfl,a,af⟩
 rw [CX] at a
 refine Cn a (fun iz a=>?_) fun iz a=>?_
 refine Sr<|Vm<|Vx (Fd BS Z)<|have i0:=Y2 aj a0 af;Vx (Ld Cf Z (Bc i0 Z))<|Bi a fun w i1 a=>have i2:=K2 AH c2 a0 af; ?_
 obtain ⟨i3,i4,qo,i5,i6,i7,i8,i9,c9⟩:=A8 (κ:=AH) i2 i1
 replace c9:Ax a1 cc i3 (i4+(1:Int).toNat*7) i5:=c9
 obtain ⟨eg,eh,rfl,ef⟩:=E1 (Ae i9)
 refine Vx (Ix CH i6 Z i7 i8)<|Vx (Lx A9 Z Z (Ax.part0 c9 [I w.op,Sb w.name,Sb w.tail,I w.type_,Cx w.num,Sl eg w.args eh,I w.at_] Z))<|Vm<|have ja:=Bs c4 af;have jb:=Ss AI c5 af;have jc:=Rs (Rs b8 a0) af;Bi a fun bu jd a=>Ca (Cg [Pt n 0,Ag [I w.op,Sb w.name,Sb w.tail,I w.type_,Cx w.num,Sl eg w.args eh,I w.at_],m] Z) (al.ref11_Machine_look a1 cc jd dcd dcd ja (Av (x:=b9.2) jb) (AW (x:=w) ef) jc) ?_
 rintro _ qq ⟨je,ei,qr,rfl,jf,jg,jh,ji⟩
 obtain ⟨jj,jk,rfl,ej⟩:=E1 (BO ji)
 refine Va ei<|AA<|AQ ?_
 obtain rfl:=AK a
 refine O1 B ar Z (.tmp Z)<|⟨je,ei,[Sl jj bu.2.p.funcs jk,I bu.2.most,I bu.2.cost,I bu.2.why],Z,Ho (T3 (Mo [1] f) a0 af jf) aq,jg,jh,(Av (x:=bu.2) ej)⟩
 refine WC.skip<|AR<|BW Cv (qs 0 19 (.one 19 (.q 20 (.one 21 (.one 22 (.q 23 .nil)))))) [] [1,21,22] a1 (by kernel_rfl) fun ek ba=>Qx d Z (v:=Pt n 0) (fun _ _=>Mv Z)<|Qx d Z (fun _ _=>Fd BS Z)<|have da:=Y3 aj a0 af ba;Qx d Z (fun _ ⟨_,c⟩=>Ld Cf Z (Bc (Bs da c) Z))<|Bi a fun y jl a=>have jm:=K3 AH c2 a0 af ba; ?_
 obtain ⟨jn,jo,qt,jp,jq,jr,js,jt,db⟩:=A8 (κ:=AH) jm jl
 replace db:Ax a1 ek jn (jo+(2:Int).toNat*7) jp:=db
 obtain ⟨em,en,rfl,el⟩:=E1 (Ae jt)
 refine Qx d Z (fun _ _=>Ix CH jq Z jr js)<|Qx d Z (fun _ ⟨_,c⟩=>Lx A9 Z Z (Ax.part0 (Es db c) [I y.op,Sb y.name,Sb y.tail,I y.type_,Cx y.num,Sl em y.args en,I y.at_] Z))<|Qx d Z (fun _ _=>Fd NB Z)<|Qx d Z (fun _ ⟨_,c⟩=>Ld CG Z (Bc (Bs da c) Z))<|Qx d Z (v:=cb) (fun _ _=>Mv Z)<|have ju:=RTh.step (RTh.step ee af dcd) ba dcd;Bi a fun ag jv a=>?_
 obtain ⟨jw,qv,dc,de,qw,jx,eo,cd,jy,ep,eq,jz,qx⟩:=RTh.el ju jv
 obtain ⟨j1,j2,rfl,j0⟩:=E1 (Az jy)
 obtain ⟨j4,j5,rfl,j3⟩:=E1 (Ae jz)
 replace cd:Ax a1 ek jw 0 [.bool ag.known,.bool ag.pair,I ag.value.type_,Cx ag.value.num,.bool ag.value.bool,Sl j1 ag.value.list j2,dc,de,I ag.e.op,Sb ag.e.name,Sb ag.e.tail,I ag.e.type_,Cx ag.e.num,Sl j4 ag.e.args j5,I ag.e.at_,jx]:=cd
 refine Qx d Z (fun _ _=>Nc eo)<|Qx d Z (fun _ _=>Fd U7 Z)<|Qx d Z (fun _ ⟨_,c⟩=>Ld Pf Z (Ax.cell (k:=7) (Es cd c) Z))<|Qx d Z (fun _ _=>Fd Di Z)<|Qx d Z (fun _ ⟨_,c⟩=>Ld CG Z (Bc (Bs da c) Z))<|Qx d Z (v:=cb) (fun _ _=>Mv Z)<|Qx d Z (fun _ _=>Nc eo)<|Qx d Z (fun _ _=>Fd U6 Z)<|Qx d Z (fun _ ⟨_,c⟩=>Ld Pf Z (Ax.cell (k:=6) (Es cd c) Z))<|Qx d Z (v:=m) (fun _ _=>Mv Z)<|Qx d Z (v:=Ag [Sb h.name,dc,m]) (fun _ _=>B3 (cs:=[Sb h.name,dc,m]) [Sb ([]:Bts),.pointer none,.pointer none] Pj Pi Z (.cons Z Z Z (.cons Z (Dk (RTh.one ep)) Z (.cons Z (Dk (RNm.one b8)) Z .nil))) Z Z)<|A1 Z<|Bb Z (.none Z) Z Z<|A0 a1 21 Z Z fun j6 q0 er j7 am=>⟨⟨_,(Mo [1,21,22] am)⟩,?_⟩
 refine Qx d Z (v:=Ag [Sb h.tail,de,Pt er 0]) (fun _ _=>B3 (cs:=[Sb h.tail,de,Pt er 0]) [Sb ([]:Bts),.pointer none,.pointer none] Pj Pi Z (.cons Z Z Z (.cons Z (Dk (RTh.one eq)) Z (.cons Z Z Z .nil))) Z Z)<|A1 Z<|Bb Z (.none Z) Z Z<|A0 j6 22 Z Z fun q1 j8 j9 ka an=>⟨⟨_,(Tn (Mo [1,21,22] am) an)⟩,?_⟩
 refine A1 Z<|have kb:=Bs j7 an;have kc:=RTh.step (RTh.step ep am dcd) an dcd;have kd:=Rs (Rs (Rs (Rs (Rs b8 a0) af) ba) am) an; ?_
 obtain ⟨q2,bb,ke⟩:=RNm.lay kb dcd kc kd
 refine have kf:=Bs ka bb;have kg:=RTh.step (RTh.step (RTh.step eq am dcd) an dcd) bb dcd; ?_
 obtain ⟨kh,bv,ki⟩:=RNm.lay kf dcd kg ke
 refine have kj:=Y2 (Y4 c4 af ba am an) bb bv;have kk:=K2 AI (K4 AI c5 af ba am an) bb bv;have kl:=K4 AH el am an bb bv;Bi a fun bw km a=>A3 Z (.none Z) Z Z (Cg [Pt n 0,Ag [I y.op,Sb y.name,Sb y.tail,I y.type_,Cx y.num,Sl em y.args en,I y.at_],Pt j9 0] Z)<|Calls.mono (al.ref11_Machine_look kh j8 km dcd dcd kj (Av (x:=b9.2) kk) (AW (x:=y) kl) ki) ?_
 rintro _ q3 ⟨kn,es,q4,rfl,et,ko,kp,kq⟩
 obtain ⟨kr,ks,rfl,eu⟩:=E1 (BO kq)
 refine ⟨_,Z,⟨_,(T4 (Mo [1,21,22] am) an bb bv et)⟩,?_⟩
 refine Qx d Z (v:=es) (fun _ _=>Run.assign Z)<|B9<|AQ ?_
 obtain rfl:=AK a
 refine O1 B ar Z (.tmp Z)<|⟨kn,es,[Sl kr bw.2.p.funcs ks,I bw.2.most,I bw.2.cost,I bw.2.why],Z,Ho (T4 (T4 (Mo [1,21,22] f) a0 af ba am) an bb bv et) aq,ko,kp,(Av (x:=bw.2) eu)⟩
 refine Sr<|Vr (.bool (h.op==21))<|Va (.bool (h.op==21))<|AA<|Cn a (fun kt a=>?_) fun kt a=>?_
 refine AR<|BW Cv (qs 0 7 (.q 8 (.one 7 (.q 9 (.one 10 (.q 11 .nil)))))) [] [] ai (by kernel_rfl) fun ku bj=>Qx d Z (fun _ _=>Fd Di Z)<|have df:=Bs aj bj;Qx d Z (fun _ ⟨_,c⟩=>Ld CG Z (Bc (Bs df c) Z))<|Qx d Z (fun _ _=>Fd BS Z)<|Qx d Z (fun _ ⟨_,c⟩=>Ld Cf Z (Bc (Bs df c) Z))<|Bi a fun g kv a=>have ew:=K2 AH bi f bj; ?_
 obtain ⟨kw,kx,q6,ky,kz,k0,k1,k2,dg⟩:=A8 (κ:=AH) ew kv
 replace dg:Ax ai ku kw (kx+(0:Int).toNat*7) ky:=dg
 obtain ⟨cf,cg,rfl,ex⟩:=E1 (Ae k2)
 refine Qx d Z (fun _ _=>Ix CH kz Z k0 k1)<|Qx d Z (fun _ ⟨_,c⟩=>Lx A9 Z Z (Ax.part0 (Es dg c) [I g.op,Sb g.name,Sb g.tail,I g.type_,Cx g.num,Sl cf g.args cg,I g.at_] Z))<|Qx d Z (v:=Ag [.bool false,.bool false,I 0,Cx (((0,0):Nat×Nat)),.bool false,.slice none 0 0,.pointer none,.pointer none,I g.op,Sb g.name,Sb g.tail,I g.type_,Cx g.num,Sl cf g.args cg,I g.at_,.pointer none]) (fun _ _=>B3 (cs:=[.bool false,.bool false,I 0,Cx (((0,0):Nat×Nat)),.bool false,.slice none 0 0,.pointer none,.pointer none,I g.op,Sb g.name,Sb g.tail,I g.type_,Cx g.num,Sl cf g.args cg,I g.at_,.pointer none]) [.bool false,.bool false,I 0,Cx (((0,0):Nat×Nat)),.bool false,.slice none 0 0,.pointer none,.pointer none,I 0,Sb ([]:Bts),Sb ([]:Bts),I 0,Cx (((0,0):Nat×Nat)),.slice none 0 0,I 0,.pointer none] Jg Je Z (.cons Z Z Z .nil) Z Z)<|Qx d Z (v:=m) (fun _ _=>Mv Z)<|A1 Z<|Bb Z (.none Z) Z Z<|A0 ai 23 Z Z fun k3 q8 ey k4 au=>⟨⟨_,(Mo [] au)⟩,?_⟩
 refine Qx d Z (v:=Ag [Sb h.name,Pt ey 0,m]) (fun _ _=>B3 (cs:=[Sb h.name,Pt ey 0,m]) [Sb ([]:Bts),.pointer none,.pointer none] Pj Pi Z (.cons Z Z Z (.cons Z Z Z (.cons Z (Dk (RNm.one bg)) Z .nil))) Z Z)<|A1 Z<|Bb Z (.none Z) Z Z<|A0 k3 24 Z Z fun k5 q9 ez e0 av=>⟨⟨_,(Tn (Mo [] au) av)⟩,?_⟩
 refine Qx d Z (v:=Pt ez 0) (fun _ _=>Run.assign Z)<|B9<|Sr<|Vm<|Vx (Nc Z)<|Vx (Fd U3 Z)<|Vx (Ld Pf Z (Bc e0 Z))<|Vm<|Vx (Nc Z)<|Vx (Fd U9 Z)<|have k6:=Bs k4 av;Eu<|St AAb k6 Z Z Z Z fun e1 k7 a2=>AA<|Sr<|Vm<|Vx (Fd BS Z)<|have k8:=Y3 df au av a2;Vx (Ld Cf Z (Bc k8 Z))<|Bi a fun z k9 a=>have la:=K3 AH ew au av a2; ?_
 obtain ⟨lb,lc,ra,ld,le,lf,lg,lh,dh⟩:=A8 (κ:=AH) la k9
 replace dh:Ax k5 e1 lb (lc+(1:Int).toNat*7) ld:=dh
 obtain ⟨e3,e4,rfl,e2⟩:=E1 (Ae lh)
 refine Vx (Ix CH le Z lf lg)<|Vx (Lx A9 Z Z (Ax.part0 dh [I z.op,Sb z.name,Sb z.tail,I z.type_,Cx z.num,Sl e3 z.args e4,I z.at_] Z))<|Vm<|have li:=K3 AH ex au av a2;have lj:=Bs e0 a2;have lk:=Rs (Rs (Rs (Rs (Rs bg f) bj) au) av) a2; ?_
 obtain ⟨ll,ch,lm⟩:=RNm.layRec (cp:=[I 0,Cx (((0,0):Nat×Nat)),.bool false,.slice none 0 0]) (ce:=[I g.op,Sb g.name,Sb g.tail,I g.type_,Cx g.num,Sl cf g.args cg,I g.at_]) lj k7 dcd (Al (x:=(AF.mk 0 ((0,0):Nat×Nat) false [])) BK) (AW (x:=g) li) lk
 refine have ln:=Y2 (Y4 bn f bj au av) a2 ch;have lo:=K2 AI (K4 AI bh f bj au av) a2 ch;have lp:=Ss AH e2 ch;Bi a fun bx lq a=>Ca (Cg [Pt n 0,Ag [I z.op,Sb z.name,Sb z.tail,I z.type_,Cx z.num,Sl e3 z.args e4,I z.at_],Pt ez 0] Z) (al.ref11_Machine_look ll e1 lq dcd dcd ln (Av (x:=ay) lo) (AW (x:=z) lp) lm) ?_
 rintro _ rc ⟨lr,e5,rd,rfl,ls,lt,lu,lv⟩
 obtain ⟨lw,lx,rfl,e6⟩:=E1 (BO lv)
 refine Va e5<|AA<|AQ ?_
 obtain rfl:=AK a
 refine O1 B ar Z (.tmp Z)<|⟨lr,e5,[Sl lw bx.2.p.funcs lx,I bx.2.most,I bx.2.cost,I bx.2.why],Z,Ho (T2 (T4 (Mo [1,23,24] f) bj au av a2) ch ls) aq,lt,lu,(Av (x:=bx.2) e6)⟩
 refine Sr<|Vr (.bool (h.op==22))<|Va (.bool (h.op==22))<|AA<|Cn a (fun ly a=>?_) fun ly a=>?_
 refine Sr<|Vm<|Vx (Fd BS Z)<|Vx (Ld Cf Z (Bc aj Z))<|Bi a fun aa lz a=>have e7:=Ss AH bi f; ?_
 obtain ⟨l0,l1,rf,l2,l3,l4,l5,l6,di⟩:=A8 (κ:=AH) e7 lz
 replace di:Ax ai a9 l0 (l1+(0:Int).toNat*7) l2:=di
 obtain ⟨e9,fa,rfl,e8⟩:=E1 (Ae l6)
 refine Vx (Ix CH l3 Z l4 l5)<|Vx (Lx A9 Z Z (Ax.part0 di [I aa.op,Sb aa.name,Sb aa.tail,I aa.type_,Cx aa.num,Sl e9 aa.args fa,I aa.at_] Z))<|Vm<|have l7:=Bs bn f;have l8:=Ss AI bh f;have dj:=Rs bg f;Bi a fun l9 ma a=>Ca (Cg [Pt n 0,Ag [I aa.op,Sb aa.name,Sb aa.tail,I aa.type_,Cx aa.num,Sl e9 aa.args fa,I aa.at_],m] Z) (al.ref11_Machine_look ai a9 ma dcd dcd l7 (Av (x:=ay) l8) (AW (x:=aa) e8) dj) ?_
 rintro _ rh ⟨dk,ci,ri,rfl,cj,fb,mb,mc⟩
 obtain ⟨rk,rl,rfl,fc⟩:=E1 (BO mc)
 refine Va ci<|AA<|AR<|BW Cv (qs 0 10 (.one 10 (.one 11 (.q 12 .nil)))) [] [1,25] dk (by kernel_rfl) fun md bc=>Qx d Z (v:=Pt n 0) (fun _ _=>Mv Z)<|Qx d Z (fun _ _=>Fd BS Z)<|have fd:=Y2 aj cj bc;Qx d Z (fun _ ⟨_,c⟩=>Ld Cf Z (Bc (Bs fd c) Z))<|Bi a fun ab me a=>have mf:=K2 AH e7 cj bc; ?_
 obtain ⟨mg,mh,rm,mi,mj,mk,ml,mm,dl⟩:=A8 (κ:=AH) mf me
 replace dl:Ax dk md mg (mh+(1:Int).toNat*7) mi:=dl
 obtain ⟨ff,fg,rfl,fe⟩:=E1 (Ae mm)
 refine Qx d Z (fun _ _=>Ix CH mj Z mk ml)<|Qx d Z (fun _ ⟨_,c⟩=>Lx A9 Z Z (Ax.part0 (Es dl c) [I ab.op,Sb ab.name,Sb ab.tail,I ab.type_,Cx ab.num,Sl ff ab.args fg,I ab.at_] Z))<|Qx d Z (fun _ _=>Fd Di Z)<|Qx d Z (fun _ ⟨_,c⟩=>Ld CG Z (Bc (Bs fd c) Z))<|Qx d Z (v:=ci) (fun _ _=>Mv Z)<|Qx d Z (v:=m) (fun _ _=>Mv Z)<|Qx d Z (v:=Ag [Sb h.name,ci,m]) (fun _ _=>B3 (cs:=[Sb h.name,ci,m]) [Sb ([]:Bts),.pointer none,.pointer none] Pj Pi Z (.cons Z Z Z (.cons Z (Dk (RTh.one fb)) Z (.cons Z (Dk (RNm.one dj)) Z .nil))) Z Z)<|A1 Z<|Bb Z (.none Z) Z Z<|A0 dk 25 Z Z fun ro mn mo mp a3=>⟨⟨_,(Mo [1,25] a3)⟩,?_⟩
 refine A1 Z<|have mq:=RTh.step (RTh.step fb bc dcd) a3 dcd;have mr:=Rs (Rs (Rs dj cj) bc) a3; ?_
 obtain ⟨ms,bz,mt⟩:=RNm.lay mp dcd mq mr
 refine have mu:=Y3 mb bc a3 bz;have mv:=K3 AI fc bc a3 bz;have mw:=K2 AH fe a3 bz;Bi a fun b0 mx a=>A3 Z (.none Z) Z Z (Cg [Pt n 0,Ag [I ab.op,Sb ab.name,Sb ab.tail,I ab.type_,Cx ab.num,Sl ff ab.args fg,I ab.at_],Pt mo 0] Z)<|Calls.mono (al.ref11_Machine_look ms mn mx dcd dcd mu (Av (x:=l9.2) mv) (AW (x:=ab) mw) mt) ?_
 rintro _ rp ⟨my,fh,rq,rfl,fi,mz,m0,m1⟩
 obtain ⟨m2,m3,rfl,fj⟩:=E1 (BO m1)
 refine ⟨_,Z,⟨_,(T2 (Mo [1,25] a3) bz fi)⟩,?_⟩
 refine Qx d Z (v:=fh) (fun _ _=>Run.assign Z)<|B9<|AQ ?_
 obtain rfl:=AK a
 refine O1 B ar Z (.tmp Z)<|⟨my,fh,[Sl m2 b0.2.p.funcs m3,I b0.2.most,I b0.2.cost,I b0.2.why],Z,Ho (Tn (T4 (Mo [1,25] f) cj bc a3 bz) fi) aq,mz,m0,(Av (x:=b0.2) fj)⟩
 refine WC.skip<|Sr<|Va (.slice none 0 0)<|AA<|AR<|Sr<|Va (I 0)<|AA<|Af<|Bg (fun a4 c6 a5=>∃bt a6 aw ck cl ax ah b1 b2 ao ap ak,c6=Env.puts bt [(0,Pt n 0),(2,m),(4,Pt du 0),(11,Sl ck aw cl),(12,I ax)]∧BN a7 a8 h bm a4 aw ax ah ao ap ak=some cu∧AS [1,27] ai a9 a6 a5∧Own Ao 38 a6 a5 27 (Sl ck aw cl) aw∧Slc AI a6.F a5 (Sl b1 ah b2) ah∧Bk a6 a5 1 n [Sl b1 ah b2,I ao,I ap,I ak] 101) a8 ?_ ?_
 refine have m4:=Ss AI bh f;have m5:=Bs bn f;⟨_,ai,([]:List AF),none,0,0,ay.p.funcs,f7,f8,ay.most,ay.cost,ay.why,Pu,a,(AS.refl [1,27] _ _),Own.nil,m4,m5⟩
 rintro a4 _ a5 ⟨bt,a6,aw,ck,cl,ax,ah,b1,b2,ao,ap,ak,rfl,a,bd,fk,cm,b3⟩
 rcases a4 with _|a4
 exact A5 a
 refine have a:Au a7 a8 h bm (BN a7 a8 h bm a4) aw ax ah ao ap ak=some cu:=a; ?_
 obtain ⟨rs,fl⟩:∃s,s=BN a7 a8 h bm a4:=⟨_,rfl⟩
 rw [←fl,Au] at a
 refine AR<|Sr<|Vm<|Vx (Fd BS Z)<|have dm:=Bs aj bd;Vx (Ld Cf Z (Bc dm Z))<|have fm:=K2 AH bi f bd; ?_
 obtain ⟨rt,ru,m6⟩:=AT fm
 refine Vx (v:=I (h.args.length:Int)) (Ll CH m6)<|Vr (.bool (decide (ax< (h.args.length:Int))))<|AA<|Cn a (fun m7 a=>?_) fun m7 a=>?_
 refine WC.skip<|AR<|Af<|Sr<|Vm<|Vx (Fd BS Z)<|Vx (Ld Cf Z (Bc dm Z))<|Vm<|Bi a fun ac m8 a=>?_
 obtain ⟨m9,na,rx,nb,nc,nd,ne,nf,dn⟩:=A8 (κ:=AH) fm m8
 replace dn:Ax a6 a5 m9 (na+ax.toNat*7) nb:=dn
 obtain ⟨fo,fp,rfl,fn⟩:=E1 (Ae nf)
 refine Vx (Ix CH nc Z nd ne)<|Vx (Lx A9 Z Z (Ax.part0 dn [I ac.op,Sb ac.name,Sb ac.tail,I ac.type_,Cx ac.num,Sl fo ac.args fp,I ac.at_] Z))<|Vm<|have ng:=Rs (Rs bg f) bd;Bi a fun cn nh a=>Ca (Cg [Pt n 0,Ag [I ac.op,Sb ac.name,Sb ac.tail,I ac.type_,Cx ac.num,Sl fo ac.args fp,I ac.at_],m] Z) (al.ref11_Machine_look a6 a5 nh dcd dcd b3 (Av (x:=(AU.mk (AM.mk ah) ao ap ak)) cm) (AW (x:=ac) fn) ng) ?_
 rintro _ ni ⟨fq,nj,rz,rfl,fr,nk,nl,nm⟩
 obtain ⟨np,nq,rfl,fs⟩:=E1 (BO nm)
 refine Va nj<|AA<|AL<|Vm<|Vm<|Bi a fun e nr a=>?_
 obtain ⟨ns,r1,nt,nu,r2,nv,nw,dp,nx,r3,r4,ny,r5⟩:=RTh.el nk nr
 obtain ⟨b4,b5,rfl,ft⟩:=E1 (Az nx)
 obtain ⟨n1,n2,rfl,n0⟩:=E1 (Ae ny)
 replace dp:Ax fq ni ns 0 [.bool e.known,.bool e.pair,I e.value.type_,Cx e.value.num,.bool e.value.bool,Sl b4 e.value.list b5,nt,nu,I e.e.op,Sb e.e.name,Sb e.e.tail,I e.e.type_,Cx e.e.num,Sl n1 e.e.args n2,I e.e.at_,nv]:=dp
 refine Vx (Nc nw)<|Vx (Fd Pe Z)<|Vx (Lx B0 Z Z (Kd.At.part (Ax.at_ dp) 2 [I e.value.type_,Cx e.value.num,.bool e.value.bool,Sl b4 e.value.list b5] Z))<|Ef<|Ch (cs:=[I e.value.type_,Cx e.value.num,.bool e.value.bool,Sl b4 e.value.list b5]) fq 26 [[I e.value.type_,Cx e.value.num,.bool e.value.bool,Sl b4 e.value.list b5]] Ic CS Z Z (.cons Z Z Z .nil) Z fun n4 n5 n6 n7 b6=>have n8:=Ss Kd.cpx ft b6;have oa:Own Ao 38 n4 n5 26 (.slice (some ⟨n6,0,none⟩) 1 1) ([e.value]:List AF):=Own.lit (css:=[[I e.value.type_,Cx e.value.num,.bool e.value.bool,Sl b4 e.value.list b5]]) n7 Z Z Z (Aa (Al (x:=e.value) n8) BA) (A4 Z D3) Z;have ob:=Os (Os fk fr) b6;Bi a fun r8 fu a=>Ef<|Bu (κ:=Ao) Z Z ob dcd VZ (CC oa) (Et fu) (E6 fu) fun r9 oc sa fv dq=>?_
 obtain ⟨fw,fx,rfl⟩:=Own.len fv
 refine Va (Sl fw ((aw++([e.value]:List AF))) fx)<|AA<|AL<|Vm<|Vr (I (Wr (ax+1)))<|Va (I (Wr (ax+1)))<|AA<|have od:=K2 AI fs b6 dq;have oe:=Y2 nl b6 dq;⟨a4,Nat.lt_succ_self a4,_,oc,(aw++([e.value]:List AF)),fw,fx,(Wr (ax+1)),cn.2.p.funcs,np,nq,cn.2.most,cn.2.cost,cn.2.why,Pu,(fl▸a),(T3 (Mo [1,27] bd) fr b6 dq),fv,od,oe⟩
 refine Ba<|AR<|Sr<|Vm<|Vx (Nc Z)<|Vx (Fd Kj Z)<|Vx (Ld BC Z (Bc b3 Z))<|Vr (.bool (ak != 0))<|AA<|Cn a (fun og a=>?_) fun og a=>?_
 refine Sr<|Vx (v:=Ag [.bool false,.bool false,I 0,Cx (((0,0):Nat×Nat)),.bool false,.slice none 0 0,.pointer none,.pointer none,I 0,Sb ([]:Bts),Sb ([]:Bts),I 0,Cx (((0,0):Nat×Nat)),.slice none 0 0,I 0,.pointer none]) (Bp Jg Je Z .nil)<|Ef<|A0 a6 28 Z Z fun sb sc fy oh dr=>Va (Pt fy 0)<|AA<|AQ ?_
 obtain ⟨oi,ds,oj⟩:=RTh.layLater (cp:=[I 0,Cx (((0,0):Nat×Nat)),.bool false,.slice none 0 0]) (ce:=[I 0,Sb ([]:Bts),Sb ([]:Bts),I 0,Cx (((0,0):Nat×Nat)),.slice none 0 0,I 0]) oh dcd (Al (x:=(AF.mk 0 ((0,0):Nat×Nat) false [])) BK) (AW (x:=(AE.mk 0 ([]:Bts) ([]:Bts) 0 ((0,0):Nat×Nat) [] 0)) BK) RNm.nil
 obtain rfl:=AK a
 refine O1 B ar Z (.tmp Z)<|have ok:=Y2 b3 dr ds;have ol:=K2 AI cm dr ds;⟨oi,Pt fy 0,[Sl b1 ah b2,I ao,I ap,I ak],Z,Ho (T3 (Mo [1,27,28] f) bd dr ds) aq,oj,ok,(Av (x:=(AU.mk (AM.mk ah) ao ap ak)) ol)⟩
 refine WC.skip<|Sr<|Vx (Fz C8 Z)<|Vx (Ld Ge Z (Bc dm Z))<|Vm ?_
 obtain ⟨om,bk,oo⟩:=Own.freeze (S:=[27]) fk dcd dcd
 refine Bi a fun l op a=>Ca (Cg [I h.op,Sl ck aw cl] Z) (Tx a8 om a5 op oo) ?_
 rintro _ sd ⟨oq,se,rfl,bl,os⟩
 obtain ⟨co,cq,rfl,fz⟩:=E1 (Az os)
 refine Vm<|Vr (Ag [I l.1.type_,Cx l.1.num,.bool l.1.bool,Sl co l.1.list cq])<|Vr (I l.2)<|Ef<|AY oq 29 CS Z fun f0 sg sh ot be=>have ou:=Ss Kd.cpx fz be;Eu<|St Cw ot Z Z Z Z fun ov ow bf=>Va (I l.2)<|AA<|AR<|Sr<|Vm<|Vr (.bool (l.2 != 0))<|AA<|Cn a (fun ox a=>?_) fun ox a=>?_
 refine Sr<|Vm<|Vm<|have oy:=Y4 b3 bk bl be bf;have oz:=K4 AI cm bk bl be bf;Bi a fun b7 o0 a=>Ca (Cg [Pt n 0,I l.2] Z) (Kl f0 ov o0 dcd dcd oy (Av (x:=(AU.mk (AM.mk ah) ao ap ak)) oz)) ?_
 rintro _ si ⟨o1,f1,sj,rfl,o2,o6,o7,o8⟩
 obtain ⟨pa,pb,rfl,f2⟩:=E1 (BO o8)
 refine Va f1<|AA<|AQ ?_
 obtain rfl:=AK a
 refine O1 B ar Z (.tmp Z)<|⟨o1,f1,[Sl pa b7.2.p.funcs pb,I b7.2.most,I b7.2.cost,I b7.2.why],Z,Ho (T2 (T4 (Mo [1,27,29] f) bd bk bl be) bf o2) aq,o6,o7,(Av (x:=b7.2) f2)⟩
 refine WC.skip<|Sr<|Vx (Lx B0 Z Z (Bw ow))<|Vx (v:=Ag [.bool true,.bool false,I l.1.type_,Cx l.1.num,.bool l.1.bool,Sl co l.1.list cq,.pointer none,.pointer none,I 0,Sb ([]:Bts),Sb ([]:Bts),I 0,Cx (((0,0):Nat×Nat)),.slice none 0 0,I 0,.pointer none]) (Bp Jg Je Z (.cons Z Z Z (.cons Z Z Z .nil)))<|Ef<|A0 f0 30 Z Z fun sl sm f3 pc cr=>Va (Pt f3 0)<|AA<|AQ<|have pd:=K2 Kd.cpx ou bf cr; ?_
 obtain ⟨pe,dt,pf⟩:=RTh.layDone (hv:=.pointer none) (tv:=.pointer none) (cp:=[I l.1.type_,Cx l.1.num,.bool l.1.bool,Sl co l.1.list cq]) (ce:=[I 0,Sb ([]:Bts),Sb ([]:Bts),I 0,Cx (((0,0):Nat×Nat)),.slice none 0 0,I 0]) pc dcd (Al (x:=l.1) pd) (AW (x:=(AE.mk 0 ([]:Bts) ([]:Bts) 0 ((0,0):Nat×Nat) [] 0)) BK) RTh.nil RTh.nil
 obtain rfl:=AK a
 refine O1 B ar Z (.tmp Z)<|have pg:=Y2 (Y4 b3 bk bl be bf) cr dt;have ph:=K2 AI (K4 AI cm bk bl be bf) cr dt;⟨pe,Pt f3 0,[Sl b1 ah b2,I ao,I ap,I ak],Z,Ho (T3 (T4 (Mo [1,27,29,30] f) bd bk bl be) bf cr dt) aq,pf,pg,(Av (x:=(AU.mk (AM.mk ah) ao ap ak)) ph)⟩
theorem Nq(c:AP)(e:Nat)(h:AP.Good c):ref11_Machine_inside.Spec (BL c e):=by
 intro d f a aa ab ac ad ae af ag ah l hnd hnz g m n o
 refine Calls.mono (Np c e h (recol (see [a]) d) f (Fa (Nat.le_of_ble_eq_true Z) d) l trivial trivial (BU g [a] (BP hnd hnz (i:=0) Z)) (BY CB m [a]) (BY AH n [a]) (RNm.recol o [a])) ?_
 rintro ai aj ⟨p,q,r,s,u,w,y,z⟩
 exact ⟨glue [a] f d p,q,r,s,CA u (Fb Z Z),RTh.glue w,ED g y dcd,Dm CB z⟩
theorem AP.good:∀d,AP.Good (AP.at d)
 |0=>⟨by intro a c;intros;(try intro _);intros;exact A5 (by assumption),by intro a c;intros;(try intro _);intros;exact A5 (by assumption),by intro a c;intros;(try intro _);intros;exact A5 (by assumption)⟩
 |n+1=>⟨OK _ n (AP.good n),PS _ n (AP.good n),Nq _ n (AP.good n)⟩
theorem Ou(a:Nat):ref11_Machine_look.Spec (ref11_Machine_look a):=(AP.good a).ref11_Machine_look
theorem Mx(a:Nat):ref11_Machine_of.Spec (ref11_Machine_of a):=(AP.good a).ref11_Machine_of
def CQ.At(G1 G2:Prop)(c:Col)(a:World)(f:AU→Th→Option (AF×AU))(g:Nat):Prop:=
 ∀{h m n o p l},f m o=some l→G1→G2→Bk c a g h n 101→CB.rep c.F a n m→RTh c.F a p o→
  Calls PG 36 #[Pt h 0,p] a fun s d=>∃e q r,s=.returned (Ag q)∧AS [g] c a e d∧Ao.rep e.F d q l.1∧Bk e d g h r 101∧CB.rep e.F d r l.2
def CQ.Spec(f:AU→Th→Option (AF×AU)):Prop:=
 ∀c d {a},CQ.At ([a].Nodup) (0∉[a]) c d f a
theorem Ny(q:Nat)(a9:Col)(cl:World)(bu:∀b,a9 b<10):CQ.At True True a9 cl (CQ q) 1:=by
 intro al n f9 bv bw aw a _ _ ba cm bb
 rw [CQ] at a
 obtain ⟨bx,bz,rfl,bc⟩:=E1 (BO cm)
 refine Ay Tryz.func36 Z Tryz.ntmps36 Z fun B b0 ac=>Sr<|Ef<|AY a9 20 CS Z fun ax b1 bd b2 r=>AA<|AR<|Am (fun an be=>∃ad ao bf,an=Env.puts ad [(0,Pt al 0),(1,bw),(4,Pt bd 0),(18,.bool bf)]∧Ec q n bv bf=some aw∧AS [] ax b1 ao be) ?_ ?_
 refine AL<|Vm<|Vx (Nc Z)<|Vx (Fd Kj Z)<|have cn:=Bs ba r;Vx (Ld BC Z (Bc cn Z))<|Vr (.bool (n.why==0))<|Vm<|Bo a (fun h a=>?_) fun h a=>?_
 refine Gm h<|have co:=RTh.step bb r dcd;Bi a fun f cq a=>?_
 obtain ⟨cr,gb,ct,cu,gc,cv,cw,bg,cx,gd,ge,cy,gf⟩:=RTh.el co cq
 obtain ⟨c0,c1,rfl,cz⟩:=E1 (Az cx)
 obtain ⟨c3,c4,rfl,c2⟩:=E1 (Ae cy)
 replace bg:Ax ax b1 cr 0 [.bool f.known,.bool f.pair,I f.value.type_,Cx f.value.num,.bool f.value.bool,Sl c0 f.value.list c1,ct,cu,I f.e.op,Sb f.e.name,Sb f.e.tail,I f.e.type_,Cx f.e.num,Sl c3 f.e.args c4,I f.e.at_,cv]:=bg
 refine Gx h (Nc cw)<|Gx h (Fd Q0 Z)<|Gx h (Ld MF Z (Ax.cell (k:=1) bg Z))<|Gr h (.bool (!f.pair))<|Vp h<|AA<|⟨_,ax,(!f.pair),Pu,a,Rf⟩
 refine Pg h<|Pg h<|Pg h<|Pg h<|Pg h<|Vp h<|AA<|⟨_,ax,false,Pu,a,Rf⟩
 rintro _ be ⟨ad,ao,bf,rfl,a,u⟩
 rw [Ec] at a
 refine Cn a (fun c5 a=>?_) fun c5 a=>?_
 refine Sr<|Vm<|have c6:=RTh.step (RTh.step bb r dcd) u dcd;Bi a fun c c7 a=>?_
 obtain ⟨c8,gi,c9,da,gj,db,dc,bh,de,gk,gl,df,gm⟩:=RTh.el c6 c7
 obtain ⟨ay,az,rfl,b3⟩:=E1 (Az de)
 obtain ⟨dh,di,rfl,dg⟩:=E1 (Ae df)
 replace bh:Ax ao be c8 0 [.bool c.known,.bool c.pair,I c.value.type_,Cx c.value.num,.bool c.value.bool,Sl ay c.value.list az,c9,da,I c.e.op,Sb c.e.name,Sb c.e.tail,I c.e.type_,Cx c.e.num,Sl dh c.e.args di,I c.e.at_,db]:=bh
 refine Vx (Nc dc)<|Vx (Fd Pe Z)<|Vx (Lx B0 Z Z (Kd.At.part (Ax.at_ bh) 2 [I c.value.type_,Cx c.value.num,.bool c.value.bool,Sl ay c.value.list az] Z))<|have dj:=Bs b2 u;Eu<|St Cw dj Z Z Z Z fun gp dk a0=>AA<|AQ ?_
 obtain rfl:=AK a
 refine O1 B b0 Z (.agg B0 Z Z (Bw dk))<|have dl:=Ss Kd.cpx b3 a0;have dm:=Y3 ba r u a0;have dn:=K3 AI bc r u a0;⟨ao,[I c.value.type_,Cx c.value.num,.bool c.value.bool,Sl ay c.value.list az],[Sl bx n.p.funcs bz,I n.most,I n.cost,I n.why],Z,Ho (T2 (Mo [20] r) u a0) bu,(Al (x:=c.value) dl),dm,(Av (x:=n) dn)⟩
 refine WC.skip<|Sr<|Vx (v:=Ag [I 3,Cx (((0,0):Nat×Nat)),.bool false,.slice none 0 0]) (Bp CS F7 Z (.cons Z Z Z .nil))<|Ef<|AY ao 21 CS Z fun b4 gq bi dp ap=>Eu<|St Cw dp Z Z Z Z fun dq dr aq=>AA<|AR<|Af<|Bg (fun ae an y=>∃ad o ar a1 w a2 a3 af ag z e ah ai,an=Env.puts ad [(0,Pt al 0),(1,a1),(4,Pt bd 0),(5,Pt bi 0)]∧Bq q ae ar w af ag z e=some aw∧AS [1,21,23] b4 dq o y∧Slc AI o.F y (Sl a2 w a3) w∧Own Kd.cpx 35 o y 23 (Sl ah e ai) e∧RTh o.F y a1 ar∧Bk o y 1 al [Sl a2 w a3,I af,I ag,I z] 101∧Bk o y 21 bi [I 3,Cx (((0,0):Nat×Nat)),.bool false,Sl ah e ai] 38) q ?_ ?_
 refine have ds:=K4 AI bc r u ap aq;have dt:=RTh.step (RTh.step (RTh.step (RTh.step bb r dcd) u dcd) ap dcd) aq dcd;have du:=Y4 ba r u ap aq;⟨_,b4,bv,bw,n.p.funcs,bx,bz,n.most,n.cost,n.why,([]:List (Nat×Nat)),none,0,Pu,a,(AS.refl [1,21,23] _ _),ds,Own.nil,dt,du,dr⟩
 rintro ae _ y ⟨ad,o,ar,a1,w,a2,a3,af,ag,z,e,ah,ai,rfl,a,bj,b5,b6,b7,bk,b8⟩
 rcases ae with _|ae
 exact A5 a
 refine have a:C7 q (Bq q ae) ar w af ag z e=some aw:=a; ?_
 obtain ⟨dv,b9⟩:∃s,s=Bq q ae:=⟨_,rfl⟩
 rw [←b9,C7] at a
 refine AR<|Am (fun an a4=>∃ad a5 bl,an=Env.puts ad [(0,Pt al 0),(1,a1),(4,Pt bd 0),(5,Pt bi 0),(34,.bool bl)]∧Bn q ar w af ag z e dv bl=some aw∧AS [] o y a5 a4) ?_ ?_
 refine AL<|Vm<|Vx (Nc Z)<|Vx (Fd Kj Z)<|Vx (Ld BC Z (Bc bk Z))<|Vr (.bool (z==0))<|Vm<|Bo a (fun p a=>?_) fun p a=>?_
 refine Gm p<|Bi a fun g dw a=>?_
 obtain ⟨dx,gr,dy,dz,gs,d0,d1,bm,d2,gt,gu,d3,gv⟩:=RTh.el b7 dw
 obtain ⟨d5,d6,rfl,d4⟩:=E1 (Az d2)
 obtain ⟨d8,d9,rfl,d7⟩:=E1 (Ae d3)
 replace bm:Ax o y dx 0 [.bool g.known,.bool g.pair,I g.value.type_,Cx g.value.num,.bool g.value.bool,Sl d5 g.value.list d6,dy,dz,I g.e.op,Sb g.e.name,Sb g.e.tail,I g.e.type_,Cx g.e.num,Sl d8 g.e.args d9,I g.e.at_,d0]:=bm
 refine Gx p (Nc d1)<|Gx p (Fd Q0 Z)<|Gx p (Ld MF Z (Ax.cell (k:=1) bm Z))<|Vp p<|AA<|⟨_,o,g.pair,Pu,a,Rf⟩
 refine Pg p<|Pg p<|Pg p<|Pg p<|Vp p<|AA<|⟨_,o,false,Pu,a,Rf⟩
 rintro _ a4 ⟨ad,a5,bl,rfl,a,m⟩
 rw [Bn] at a
 refine Cn a (fun ea a=>?_) fun ea a=>?_
 refine WC.skip<|Af<|Sr<|Vm<|Vm<|have eb:=RTh.step b7 m dcd;Bi a fun l ec a=>?_
 obtain ⟨ed,gy,ca,cb,gz,ee,cc,a6,ef,eg,eh,ei,g0⟩:=RTh.el eb ec
 obtain ⟨ek,el,rfl,ej⟩:=E1 (Az ef)
 obtain ⟨en,eo,rfl,em⟩:=E1 (Ae ei)
 replace a6:Ax a5 a4 ed 0 [.bool l.known,.bool l.pair,I l.value.type_,Cx l.value.num,.bool l.value.bool,Sl ek l.value.list el,ca,cb,I l.e.op,Sb l.e.name,Sb l.e.tail,I l.e.type_,Cx l.e.num,Sl en l.e.args eo,I l.e.at_,ee]:=a6
 refine Vx (Nc cc)<|Vx (Fd U6 Z)<|Vx (Ld Pf Z (Ax.cell (k:=6) a6 Z))<|have ep:=Bs bk m;have eq:=Ss AI b5 m;Bi a fun er es a=>Ca (Cg [Pt al 0,ca] Z) (Mx q a5 a4 es dcd dcd ep (Av (x:=(AU.mk (AM.mk w) af ag z)) eq) eg) ?_
 rintro _ g3 ⟨bn,cd,g4,rfl,au,et,eu,ew⟩
 obtain ⟨g6,g7,rfl,cf⟩:=E1 (BO ew)
 refine Va cd<|AA<|AR<|BW Cv (qs 0 7 (.one 7 (.one 8 (.q 9 (.one 10 .nil))))) [10] [23] bn (by kernel_rfl) fun ex aj=>Qx ac Z (fun _ _=>Fd D8 Z)<|have cg:=Y3 b8 m au aj;Qx ac Z (fun _ ⟨_,aa⟩=>Ld Ib Z (Bc (Bs cg aa) Z))<|Qx ac Z (v:=cd) (fun _ _=>Mv Z)<|have ey:=RTh.step et aj dcd;Bi a fun d ez a=>?_
 obtain ⟨e0,g8,e1,e2,g9,e3,e4,bo,e5,ha,hb,e6,hc⟩:=RTh.el ey ez
 obtain ⟨e8,e9,rfl,e7⟩:=E1 (Az e5)
 obtain ⟨fb,fc,rfl,fa⟩:=E1 (Ae e6)
 replace bo:Ax bn ex e0 0 [.bool d.known,.bool d.pair,I d.value.type_,Cx d.value.num,.bool d.value.bool,Sl e8 d.value.list e9,e1,e2,I d.e.op,Sb d.e.name,Sb d.e.tail,I d.e.type_,Cx d.e.num,Sl fb d.e.args fc,I d.e.at_,e3]:=bo
 refine Qx ac Z (fun _ _=>Nc e4)<|Qx ac Z (fun _ _=>Fd Pe Z)<|Qx ac Z (fun _ _=>Fd HT Z)<|Qx ac Z (fun _ ⟨_,aa⟩=>Ld HL Z (Ax.cell (k:=3) (Es bo aa) Z))<|A1 Z<|Bb Z (.none Z) Z Z<|Ch (cs:=[Cx d.value.num]) bn 22 [[Cx d.value.num]] IQ Vj Z Z (.cons Z Z Z .nil) Z fun fd fe ff fg ab=>have fh:Own Kd.cpx 35 fd fe 22 (.slice (some ⟨ff,0,none⟩) 1 1) ([d.value.num]:List (Nat×Nat)):=Own.lit (css:=[[Cx d.value.num]]) fg Z Z Z (Aa Z BA) (A4 Z D3) Z;⟨⟨_,(Mo [23] ab)⟩,?_⟩
 refine A1 Z<|have fi:=Os (Os (Os (Os b6 m) au) aj) ab;Bi a fun hf ch a=>Bb Z (.none Z) Z Z<|Bu (κ:=Kd.cpx) Z Z fi dcd Vb (CC fh) (Et ch) (E6 ch) fun hg fj hh bp ak=>?_
 obtain ⟨bq,br,rfl⟩:=Own.len bp
 refine ⟨⟨_,(Tn (Mo [23] ab) ak)⟩,?_⟩
 refine Qx ac Z (fun _ _=>Fd D8 Z)<|ES dcd<|WY.one<|have fk:=Y2 cg ab ak;BM Z (.none Z) Z<|Bv (vs:=[Sl bq ((e++([d.value.num]:List (Nat×Nat)))) br]) (cs':=[I 3,Cx (((0,0):Nat×Nat)),.bool false,Sl bq ((e++([d.value.num]:List (Nat×Nat)))) br]) Vf Z Z Z Z (AX (Own.one bp) CJ) fk dcd Z Z fun fl fm am=>WY.nil<|AL<|Vm<|Vm<|Vx (Nc cc)<|Vx (Fd U7 Z)<|have fn:=Es (Es (Es (Es (Es a6 au) aj) ab) ak) am;Vx (Ld Pf Z (Ax.cell (k:=7) fn Z))<|have fo:=Y4 eu aj ab ak am;have fp:=K4 AI cf aj ab ak am;have fq:=RTh.step (RTh.step (RTh.step (RTh.step (RTh.step eh au dcd) aj dcd) ab dcd) ak dcd) am dcd;Bi a fun av fr a=>Ca (Cg [Pt al 0,cb] Z) (Mx q fj fl fr dcd dcd fo (Av (x:=er.2) fp) fq) ?_
 rintro _ hi ⟨fs,ci,hj,rfl,bt,ft,fu,fv⟩
 obtain ⟨fw,fx,rfl,cj⟩:=E1 (BO fv)
 refine Va ci<|AA<|have fy:=Os (Os bp am) bt;have fz:=Bs fm bt;⟨ae,Nat.lt_succ_self ae,_,fs,av.1,ci,av.2.p.funcs,fw,fx,av.2.most,av.2.cost,av.2.why,(e++([d.value.num]:List (Nat×Nat))),bq,br,Pu,(b9▸a),(T3 (T4 (Mo [1,21,23] bj) m au aj ab) ak am bt),cj,fy,ft,fu,fz⟩
 refine Ba<|Sr<|have f0:=Bs b8 m;Vx (Lx B0 Z Z (Bw f0))<|have f1:=Bs (Y4 b2 u ap aq bj) m;have ck:=Os b6 m;Eu<|Bv (vs:=[I 3,Cx (((0,0):Nat×Nat)),.bool false,Sl ah e ai]) (cs':=[I 3,Cx (((0,0):Nat×Nat)),.bool false,Sl ah e ai]) Cw Z Z Z Z (AX Z (AX Z (AX Z (AX (Own.one ck) CJ)))) f1 dcd Z Z fun hl f2 a7=>AA<|AQ<|have f3:=Os ck a7; ?_
 obtain ⟨f4,a8,f5⟩:=Own.freeze (S:=[23]) f3 dcd dcd
 obtain rfl:=AK a
 refine have f6:=Bs f2 a8;O1 B b0 Z (.agg B0 Z Z (Bw f6))<|have f7:=Y3 bk m a7 a8;have f8:=K3 AI b5 m a7 a8;⟨f4,[I 3,Cx (((0,0):Nat×Nat)),.bool false,Sl ah e ai],[Sl a2 w a3,I af,I ag,I z],Z,Ho (T3 (T4 (Mo [1,20,21,23] r) u ap aq bj) m a7 a8) bu,(Al (x:=(AF.mk 3 ((0,0):Nat×Nat) false e)) f5),f7,(Av (x:=(AU.mk (AM.mk w) af ag z)) f8)⟩
theorem OM(d:Nat):CQ.Spec (CQ d):=by
 intro c e a w y z aa ab ac g hnd hnz f h l
 refine Calls.mono (Ny d (recol (see [a]) c) e (Fa (Nat.le_of_ble_eq_true Z) c) g trivial trivial (BU f [a] (BP hnd hnz (i:=0) Z)) (BY CB h [a]) (RTh.recol l [a])) ?_
 rintro ad ae ⟨m,n,o,p,q,r,s,u⟩
 exact ⟨glue [a] e c m,n,o,p,CA q (Fb Z Z),Dm Ao r,ED f s dcd,Dm CB u⟩
def GH.At(c:Col)(a:World)(f:AM→Bts→(List AF)→Int→Option BE):Prop:=
 ∀{d e g h l m n},f d g h m=some n→CK.rep c.F a e d→Slc Ao c.F a l h→
  Calls PG 14 #[Ag e,Sb g,l,I m] a fun r o=>∃p q,r=.returned (Ag q)∧AS [] c a p o∧MS.rep p.F o q n
def GH.Spec(f:AM→Bts→(List AF)→Int→Option BE):Prop:=
 ∀a c,GH.At a c f
theorem Ty(p:Nat)(a3:Col)(cb:World)(ak:∀b,a3 b<10):GH.At a3 cb (GH p):=by
 intro h e7 cc y e8 g bg c cd bh
 rw [GH] at c
 obtain ⟨ag,ah,rfl,bi⟩:=E1 (BV cd)
 obtain ⟨a4,a5,rfl⟩:=AT bh
 refine Ay Tryz.func14 Z Tryz.ntmps14 Z fun B al f=>Sr<|Ef<|A0 a3 20 Z Z fun cf fa fb cg ad=>Ef<|AY cf 21 Lp Z fun ch ci cj am aa=>AA<|AR<|Sr<|have bj:=Bs cg aa;Vx (Lx Gd Z Z (Bw bj))<|have bk:=K2 AI bi ad aa;Bi c fun aw ck c=>Ca (Cg [Ag [Sl ag h.funcs ah]] Z) (Tq p ch ci ck (BQ (x:=h) bk)) ?_
 rintro _ cl ⟨bl,fc,rfl,l,cm⟩
 obtain rfl:=As cm
 refine Vx (v:=I aw.why) (Kr (cs:=[I aw.why,I aw.at_]) W4 Z Z)<|Vr (.bool (aw.why != 0))<|AA<|Cn c (fun cn c=>?_) fun cn c=>?_
 refine Sr<|Vx (v:=Ag [I 3,I 0,Cx (((0,0):Nat×Nat)),.bool false,.slice none 0 0,I 0,I 0,I 0,I 0]) (Bp Lp NG Z (.cons Z Z Z .nil))<|have co:=Bs am l;Eu<|St MU co Z Z Z Z fun fd cq cr=>AA<|AQ ?_
 obtain rfl:=AK c
 refine O1 B al Z (.agg Mr Z Z (Bw cq))<|⟨bl,[I 3,I 0,Cx (((0,0):Nat×Nat)),.bool false,.slice none 0 0,I 0,I 0,I 0,I 0],Z,Ho (T3 (Mo [21] ad) aa l cr) ak,(EU (x:=(BE.mk 3 (AF.mk 0 ((0,0):Nat×Nat) false []) 0 0 0 0)) BK)⟩
 refine WC.skip<|Sr<|have bm:=Bs bj l;Vx (Lx Gd Z Z (Bw bm))<|Vm<|have bn:=Ss AI bk l;Bi c fun a ct c=>Ca (Cg [Ag [Sl ag h.funcs ah],Sb cc] Z) (Lj p bl cl ct (BQ (x:=h) bn)) ?_
 rintro _ fe ⟨cu,ff,rfl,u,cv⟩
 obtain ⟨fg,fh,rfl,bo,bp⟩:=Cl cv
 obtain ⟨a6,a7,rfl⟩:=AT bo
 obtain ⟨an,ao,rfl⟩:=AT bp
 refine Vm<|Vr (Ag [Sb a.1.name,Sl a6 a.1.params a7,I a.1.type_,I a.1.body.op,Sb a.1.body.name,Sb a.1.body.tail,I a.1.body.type_,Cx a.1.body.num,Sl an a.1.body.args ao,I a.1.body.at_,I a.1.at_])<|Vr (.bool a.2)<|Ef<|AY cu 22 KS Z fun bq fi cw cx m=>have cy:=Ss Ab bo m;have cz:=Ss AH bp m;Eu<|St LB cx Z Z Z Z fun c0 a8 n=>Va (.bool a.2)<|AA<|AR<|Sr<|Vm<|Vr (.bool (!a.2))<|AA<|Cn c (fun c1 c=>?_) fun c1 c=>?_
 refine Sr<|Vx (v:=Ag [I 32,I 0,Cx (((0,0):Nat×Nat)),.bool false,.slice none 0 0,I 0,I 0,I 0,I 0]) (Bp Lp NG Z (.cons Z Z Z .nil))<|have c2:=Y4 am l u m n;Eu<|St MU c2 Z Z Z Z fun fj c3 c4=>AA<|AQ ?_
 obtain rfl:=AK c
 refine O1 B al Z (.agg Mr Z Z (Bw c3))<|⟨bq,[I 32,I 0,Cx (((0,0):Nat×Nat)),.bool false,.slice none 0 0,I 0,I 0,I 0,I 0],Z,Ho (T2 (T4 (Mo [21,22] ad) aa l u m) n c4) ak,(EU (x:=(BE.mk 32 (AF.mk 0 ((0,0):Nat×Nat) false []) 0 0 0 0)) BK)⟩
 refine WC.skip<|AR<|Sr<|Vx (Lx MD Z Z (Bw a8))<|Vm<|have br:=Ss Ab cy n;have bt:=Ss AH cz n;have bu:=K2 Ao (K4 Ao bh ad aa l u) m n;Bi c fun c5 c6 c=>Ca (Cg [Ag [Sb a.1.name,Sl a6 a.1.params a7,I a.1.type_,I a.1.body.op,Sb a.1.body.name,Sb a.1.body.tail,I a.1.body.type_,Cx a.1.body.num,Sl an a.1.body.args ao,I a.1.body.at_,I a.1.at_],Sl a4 y a5] Z) (Un p bq c0 c6 (Mg (x:=a.1) br bt) bu) ?_
 rintro _ fk ⟨bv,rfl,o⟩
 refine Vr (.bool (!c5))<|AA<|Cn c (fun c7 c=>?_) fun c7 c=>?_
 refine Sr<|Vx (v:=Ag [I 40,I 0,Cx (((0,0):Nat×Nat)),.bool false,.slice none 0 0,I 0,I 0,I 0,I 0]) (Bp Lp NG Z (.cons Z Z Z .nil))<|have c8:=Bs (Y4 am l u m n) o;Eu<|St MU c8 Z Z Z Z fun fl c9 da=>AA<|AQ ?_
 obtain rfl:=AK c
 refine O1 B al Z (.agg Mr Z Z (Bw c9))<|⟨bv,[I 40,I 0,Cx (((0,0):Nat×Nat)),.bool false,.slice none 0 0,I 0,I 0,I 0,I 0],Z,Ho (T3 (T4 (Mo [21,22] ad) aa l u m) n o da) ak,(EU (x:=(BE.mk 40 (AF.mk 0 ((0,0):Nat×Nat) false []) 0 0 0 0)) BK)⟩
 refine WC.skip<|Sr<|have db:=Y4 bm u m n o;Vx (Lx Gd Z Z (Bw db))<|Vm<|Vx (v:=I (if g<0 then 0 else g)) (Run.max Z Z)<|Vx (v:=I (if 16384< (if g<0 then 0 else g) then 16384 else (if g<0 then 0 else g))) (Run.min Z Z)<|Vx (v:=Ag [Sl ag h.funcs ah,I (if 16384< (if g<0 then 0 else g) then 16384 else (if g<0 then 0 else g)),I 0,I 0]) (Bp AAk AAf Z (.cons Z Z Z (.cons Z Z Z .nil)))<|Ef<|A0 bv 23 Z Z fun bw dc ae de w=>Va (Pt ae 0)<|AA<|Sr<|Va (.pointer none)<|AA<|AR<|Sr<|Va (I 0)<|AA<|Af<|Bg (fun ab df ax=>∃bx ac ap af q,df=Env.puts bx [(2,Sl a4 y a5),(8,Pt cj 0),(9,Pt cw 0),(11,Pt ae 0),(12,af),(13,I q)]∧Gi p h y g a ab ap q=some bg∧AS [24] bw dc ac ax∧RNm ac.F ax af ap) p ?_ ?_
 exact ⟨_,bw,Nm.nil,.pointer none,0,Pu,c,(AS.refl [24] _ _),RNm.nil⟩
 rintro ab _ ax ⟨bx,ac,ap,af,q,rfl,c,r,a9⟩
 rcases ab with _|ab
 exact A5 c
 refine have c:FL p h y g a (Gi p h y g a ab) ap q=some bg:=c; ?_
 obtain ⟨fm,bz⟩:∃s,s=Gi p h y g a ab:=⟨_,rfl⟩
 rw [←bz,FL] at c
 refine AR<|Sr<|Vm<|Vm<|have b0:=K3 Ao bu o w r; ?_
 obtain ⟨fn,fo,dg⟩:=AT b0
 refine Vx (v:=I (y.length:Int)) (Ll Ic dg)<|Vr (.bool (decide (q< (y.length:Int))))<|AA<|Cn c (fun dh c=>?_) fun dh c=>?_
 refine WC.skip<|AR<|Af<|BW Cv (qs 0 10 (.q 11 (.one 10 (.q 12 (.one 13 (.q 14 .nil)))))) [] [] ac (by kernel_rfl) fun ba aq=>Qx f Z (fun _ _=>Fd EY Z)<|have di:=Y4 a8 o w r aq;Qx f Z (fun _ ⟨_,e⟩=>Ld Ey Z (Bc (Bs di e) Z))<|Qx f Z (v:=I q) (fun _ _=>Mv Z)<|Bi c fun bb dj c=>have dk:=K4 Ab br o w r aq; ?_
 obtain ⟨dl,dm,fp,dn,dp,dq,dr,ds,bc⟩:=A8 (κ:=Ab) dk dj
 replace bc:Ax ac ba dl (dm+q.toNat*3) dn:=bc
 obtain rfl:=Ez ds
 refine Qx f Z (fun _ _=>Ix D9 dp Z dq dr)<|Qx f Z (fun _ _=>Fz Lh Z)<|Qx f Z (fun _ ⟨_,e⟩=>Ld CG Z (Ax.cell0 (Es bc e) Z))<|Qx f Z (v:=Sl a4 y a5) (fun _ _=>Mv Z)<|Qx f Z (v:=I q) (fun _ _=>Mv Z)<|Bi c fun z dt c=>have du:=Ss Ao b0 aq; ?_
 obtain ⟨dv,dw,fq,dx,dy,dz,d0,d1,bd⟩:=A8 (κ:=Ao) du dt
 replace bd:Ax ac ba dv (dw+q.toNat*4) dx:=bd
 obtain ⟨b2,b3,rfl,b1⟩:=E1 (Az d1)
 refine Qx f Z (fun _ _=>Ix Ic dy Z dz d0)<|Qx f Z (fun _ ⟨_,e⟩=>Lx B0 Z Z (Ax.part0 (Es bd e) [I z.type_,Cx z.num,.bool z.bool,Sl b2 z.list b3] Z))<|Qx f Z (v:=af) (fun _ _=>Mv Z)<|A1 Z<|Bi c fun d2 d3 c=>A3 Z (.none Z) Z Z (Cg [Ag [I z.type_,Cx z.num,.bool z.bool,Sl b2 z.list b3]] Z)<|Calls.mono (Tt p ac ba d3 (Al (x:=z) b1)) ?_
 rintro _ fs ⟨d4,b4,rfl,ay,b5⟩
 refine ⟨_,Z,⟨_,(Mo [] ay)⟩,?_⟩
 refine Qx f Z (v:=Ag [Sb bb.name,b4,af]) (fun _ _=>B3 (cs:=[Sb bb.name,b4,af]) [Sb ([]:Bts),.pointer none,.pointer none] Pj Pi Z (.cons Z Z Z (.cons Z (Dk (RTh.one b5)) Z (.cons Z (Dk (RNm.one a9)) Z .nil))) Z Z)<|A1 Z<|Bb Z (.none Z) Z Z<|A0 d4 24 Z Z fun ft fu b6 d5 az=>⟨⟨_,(Tn (Mo [] ay) az)⟩,?_⟩
 refine Qx f Z (v:=Pt b6 0) (fun _ _=>Run.assign Z)<|B9<|AL<|Vm<|Vr (I (Wr (q+1)))<|Va (I (Wr (q+1)))<|AA<|have d6:=RTh.step b5 az dcd;have d7:=Rs (Rs (Rs a9 aq) ay) az; ?_
 obtain ⟨d8,d9,ea⟩:=RNm.lay d5 dcd d6 d7
 exact ⟨ab,Nat.lt_succ_self ab,_,d8,(Nm.bind bb.name d2 ap),Pt b6 0,(Wr (q+1)),Pu,(bz▸c),(T4 (Mo [24] r) aq ay az d9),ea⟩
 refine Ba<|Sr<|Vm<|Vm<|Vx (Fd ME Z)<|have eb:=Y3 a8 o w r;Vx (Lx A9 Z Z (Bk.part eb 3 [I a.1.body.op,Sb a.1.body.name,Sb a.1.body.tail,I a.1.body.type_,Cx a.1.body.num,Sl an a.1.body.args ao,I a.1.body.at_] Z))<|Vm<|have ec:=Bs de r;have ed:=K2 AI (K4 AI bn u m n o) w r;have ee:=K3 AH bt o w r;Bi c fun ef eg c=>Ca (Cg [Pt ae 0,Ag [I a.1.body.op,Sb a.1.body.name,Sb a.1.body.tail,I a.1.body.type_,Cx a.1.body.num,Sl an a.1.body.args ao,I a.1.body.at_],af] Z) (Ou p ac ax eg dcd dcd ec (Av (x:=(AU.mk h (if 16384< (if g<0 then 0 else g) then 16384 else (if g<0 then 0 else g)) 0 0)) ed) (AW (x:=(AE.mk a.1.body.op a.1.body.name a.1.body.tail a.1.body.type_ a.1.body.num a.1.body.args a.1.body.at_)) ee) a9) ?_
 rintro _ eh ⟨ei,ej,fv,rfl,a0,ek,el,em⟩
 obtain ⟨fx,fy,rfl,b7⟩:=E1 (BO em)
 refine Bi c fun d en c=>Ca (Cg [Pt ae 0,ej] Z) (OM p ei eh en dcd dcd el (Av (x:=ef.2) b7) ek) ?_
 rintro _ fz ⟨eo,f0,f1,rfl,a1,ep,eq,er⟩
 obtain ⟨ar,au,rfl,b8⟩:=E1 (Az ep)
 obtain ⟨f4,f5,rfl,es⟩:=E1 (BO er)
 refine Ef<|AY eo 25 CS Z fun a2 f6 f7 et ai=>have eu:=Ss Kd.cpx b8 ai;Eu<|St Cw et Z Z Z Z fun f8 ew aj=>AA<|AR<|Sr<|Vm<|Vx (Nc Z)<|Vx (Fd Kj Z)<|have be:=Y2 eq ai aj;Vx (Ld BC Z (Bc be Z))<|Vr (.bool (d.2.why != 0))<|AA<|Cn c (fun ex c=>?_) fun ex c=>?_
 refine AR<|BW Cv (qs 0 9 (.one 9 .nil)) [9] [] a2 (by kernel_rfl) fun f9 bf=>Qx f Z (v:=Pt ae 0) (fun _ _=>Mv Z)<|Qx f Z (fun _ _=>Nc Z)<|Qx f Z (fun _ _=>Fd Kj Z)<|have b9:=Bs be bf;Qx f Z (fun _ ⟨_,e⟩=>Ld BC Z (Bc (Bs b9 e) Z))<|Qx f Z (v:=Pt ae 0) (fun _ _=>Mv Z)<|Qx f Z (fun _ _=>Nc Z)<|Qx f Z (fun _ _=>Fd Nu Z)<|Qx f Z (fun _ ⟨_,e⟩=>Ld BC Z (Bc (Bs b9 e) Z))<|Qx f Z (v:=Ag [I d.2.why,I 0,Cx (((0,0):Nat×Nat)),.bool false,.slice none 0 0,I d.2.cost,I 0,I 0,I 0]) (fun _ _=>B3 (cs:=[I d.2.why,I 0,Cx (((0,0):Nat×Nat)),.bool false,.slice none 0 0,I d.2.cost,I 0,I 0,I 0]) [I 0,I 0,Cx (((0,0):Nat×Nat)),.bool false,.slice none 0 0,I 0,I 0,I 0,I 0] Lp NG Z (.cons Z Z Z (.cons Z Z Z .nil)) Z Z)<|ES dcd<|WY.one<|have ey:=Y4 (Y4 (Y4 am l u m n) o w r a0) a1 ai aj bf;BM Z (.none Z) Z<|St MU ey Z Z Z Z fun ga ez e0=>WY.nil<|AQ ?_
 obtain rfl:=AK c
 refine O1 B al Z (.agg Mr Z Z (Bw ez))<|⟨a2,[I d.2.why,I 0,Cx (((0,0):Nat×Nat)),.bool false,.slice none 0 0,I d.2.cost,I 0,I 0,I 0],Z,Ho (T2 (T4 (T4 (T4 (Mo [21,22,23,24,25] ad) aa l u m) n o w r) a0 a1 ai aj) bf e0) ak,(EU (x:=(BE.mk d.2.why (AF.mk 0 ((0,0):Nat×Nat) false []) d.2.cost 0 0 0)) BK)⟩
 refine WC.skip<|AR<|BW Cv (qs 0 6 (.one 6 .nil)) [6] [] a2 (by kernel_rfl) fun gb av=>have e1:=Bs ew av;Qx f Z (fun _ ⟨_,e⟩=>Lx B0 Z Z (Bw (Bs e1 e)))<|Qx f Z (v:=Pt ae 0) (fun _ _=>Mv Z)<|Qx f Z (fun _ _=>Nc Z)<|Qx f Z (fun _ _=>Fd Nu Z)<|have e2:=Bs be av;Qx f Z (fun _ ⟨_,e⟩=>Ld BC Z (Bc (Bs e2 e) Z))<|Qx f Z (v:=Ag [I 0,I d.1.type_,Cx d.1.num,.bool d.1.bool,Sl ar d.1.list au,I d.2.cost,I 0,I 0,I 0]) (fun _ _=>B3 (cs:=[I 0,I d.1.type_,Cx d.1.num,.bool d.1.bool,Sl ar d.1.list au,I d.2.cost,I 0,I 0,I 0]) [I 0,I 0,Cx (((0,0):Nat×Nat)),.bool false,.slice none 0 0,I 0,I 0,I 0,I 0] Lp NG Z (.cons Z Z Z (.cons Z Z Z .nil)) Z Z)<|ES dcd<|WY.one<|have e3:=Y4 (Y4 (Y4 am l u m n) o w r a0) a1 ai aj av;have e4:=K2 Kd.cpx eu aj av;BM Z (.none Z) Z<|St MU e3 Z Z Z Z fun gc e5 ca=>WY.nil<|AQ ?_
 obtain rfl:=AK c
 refine O1 B al Z (.agg Mr Z Z (Bw e5))<|have e6:=Ss Kd.cpx e4 ca;⟨a2,[I 0,I d.1.type_,Cx d.1.num,.bool d.1.bool,Sl ar d.1.list au,I d.2.cost,I 0,I 0,I 0],Z,Ho (T2 (T4 (T4 (T4 (Mo [21,22,23,24,25] ad) aa l u m) n o w r) a0 a1 ai aj) av ca) ak,(EU (x:=(BE.mk 0 d.1 d.2.cost 0 0 0)) e6)⟩
theorem Uu(c:Nat):GH.Spec (GH c):=lk0 (Ty c)
def Jr.At(c:Col)(a:World)(f:AF→AF→Option Bool):Prop:=
 ∀{d e g h l},f d g=some l→Ao.rep c.F a e d→Ao.rep c.F a h g→
  Calls PG 23 #[Ag e,Ag h] a fun m n=>∃o,m=.returned (.bool l)∧AS [] c a o n
def Jr.Spec(f:AF→AF→Option Bool):Prop:=
 ∀a c,Jr.At a c f
theorem Tz(ac:Nat)(ai:Col)(bj:World)(aj:∀b,ai b<10):Jr.At ai bj (Jr ac):=by
 intro c cl d cm ak a bk bl
 rw [Jr] at a
 obtain ⟨av,aw,rfl,al⟩:=E1 (Az bk)
 obtain ⟨ax,ay,rfl,am⟩:=E1 (Az bl)
 refine Ay Tryz.func23 Z Tryz.ntmps23 Z fun B an n=>Sr<|Ef<|A0 ai 20 Z Z fun bm cq az a0 y=>Ef<|A0 bm 21 Z Z fun a1 a2 a3 a4 p=>Va (.bool false)<|AA<|AR<|Am (fun ao ap=>∃ad ae aq,ao=Env.puts ad [(2,Pt az 0),(3,Pt a3 0),(43,.bool aq)]∧Hg ac c d aq=some ak∧AS [] a1 a2 ae ap) ?_ ?_
 refine AL<|have a5:=Bs a0 p;Vx (Lx B0 Z Z (Bw a5))<|have a6:=K2 Kd.cpx al y p;Bi a fun bn bo a=>Ca (Cg [Ag [I c.type_,Cx c.num,.bool c.bool,Sl av c.list aw]] Z) (LD ac a1 a2 bo (Al (x:=c) a6)) ?_
 rintro _ bp ⟨a7,rfl,o⟩
 refine Vr (.bool (!bn))<|Vm<|Bo a (fun q a=>?_) fun q a=>?_
 refine Pg q<|Pg q<|Pg q<|Vp q<|Vm<|Pg Z<|Pg Z<|Pg Z<|Pg Z<|Pg Z<|Vr (.bool true)<|Vm<|Pg Z<|Pg Z<|Pg Z<|Pg Z<|Pg Z<|Vr (.bool true)<|Vm<|Pg Z<|Pg Z<|Pg Z<|Pg Z<|Pg Z<|Vr (.bool true)<|Vm<|Pg Z<|Pg Z<|Pg Z<|Pg Z<|Pg Z<|Pg Z<|Pg Z<|Vr (.bool true)<|AA<|⟨_,a7,true,Pu,a,(Mo [] o)⟩
 refine have a8:=Bs a4 o;Gx q (Lx B0 Z Z (Bw a8))<|have a9:=K3 Kd.cpx am y p o;Bi a fun bq br a=>CT (.guard (t:=false) (b:=false) Z Z Z Z (Cb q)) Z Z (Cg [Ag [I d.type_,Cx d.num,.bool d.bool,Sl ax d.list ay]] Z)<|Calls.mono (LD ac a7 bp br (Al (x:=d) a9)) ?_
 rintro _ cr ⟨af,rfl,r⟩
 refine ⟨_,Z,?_⟩
 refine Gr q (.bool (!bq))<|Vp q<|Vm<|Bo a (fun g a=>?_) fun g a=>?_
 refine Pg g<|Pg g<|Pg g<|Pg g<|Pg g<|Vp g<|Vm<|Pg Z<|Pg Z<|Pg Z<|Pg Z<|Pg Z<|Vr (.bool true)<|Vm<|Pg Z<|Pg Z<|Pg Z<|Pg Z<|Pg Z<|Vr (.bool true)<|Vm<|Pg Z<|Pg Z<|Pg Z<|Pg Z<|Pg Z<|Pg Z<|Pg Z<|Vr (.bool true)<|AA<|⟨_,af,true,Pu,a,(Tn (Mo [] o) r)⟩
 refine Gx g (Fz Jd Z)<|have ag:=Y2 a5 o r;Gx g (Ld Ed Z (Bc ag Z))<|Gx g (Fz Jd Z)<|have ah:=Bs a8 r;Gx g (Ld Ed Z (Bc ah Z))<|Gr g (.bool (c.type_ != d.type_))<|Vp g<|Vm<|Bo a (fun h a=>?_) fun h a=>?_
 refine Pg h<|Pg h<|Pg h<|Pg h<|Pg h<|Vp h<|Vm<|Pg Z<|Pg Z<|Pg Z<|Pg Z<|Pg Z<|Vr (.bool true)<|Vm<|Pg Z<|Pg Z<|Pg Z<|Pg Z<|Pg Z<|Pg Z<|Pg Z<|Vr (.bool true)<|AA<|⟨_,af,true,Pu,a,(Tn (Mo [] o) r)⟩
 refine Gx h (Fd HT Z)<|Gx h (Ld HL Z (Bc ag Z))<|Gx h (Fd HT Z)<|Gx h (Ld HL Z (Bc ah Z))<|Gx h (v:=.bool (cne c.num d.num)) (Run.cne Z Z)<|Vp h<|Vm<|Bo a (fun l a=>?_) fun l a=>?_
 refine Pg l<|Pg l<|Pg l<|Pg l<|Pg l<|Vp l<|Vm<|Pg Z<|Pg Z<|Pg Z<|Pg Z<|Pg Z<|Pg Z<|Pg Z<|Vr (.bool true)<|AA<|⟨_,af,true,Pu,a,(Tn (Mo [] o) r)⟩
 refine Gx l (Fd Ka Z)<|Gx l (Ld MF Z (Bc ag Z))<|Gx l (Fd Ka Z)<|Gx l (Ld MF Z (Bc ah Z))<|Gx l (v:=.bool (!(c.bool==d.bool))) (Run.boolNe ABu Z Z)<|Vp l<|Vm<|Bo a (fun e a=>?_) fun e a=>?_
 refine Pg e<|Pg e<|Pg e<|Pg e<|Pg e<|Pg e<|Pg e<|Vp e<|AA<|⟨_,af,true,Pu,a,(Tn (Mo [] o) r)⟩
 refine Gx e (Fd D8 Z)<|Gx e (Ld Ib Z (Bc ag Z))<|have bt:=K2 Kd.cpx a6 o r; ?_
 obtain ⟨ct,cu,bu⟩:=AT bt
 refine Gx e (v:=I (c.list.length:Int)) (Ll IQ bu)<|Gx e (Fd D8 Z)<|Gx e (Ld Ib Z (Bc ah Z))<|have bv:=Ss Kd.cpx a9 r; ?_
 obtain ⟨cv,cw,bw⟩:=AT bv
 refine Gx e (v:=I (d.list.length:Int)) (Ll IQ bw)<|Gr e (.bool ((c.list.length:Int) != (d.list.length:Int)))<|Vp e<|AA<|⟨_,af,((c.list.length:Int) != (d.list.length:Int)),Pu,a,(Tn (Mo [] o) r)⟩
 rintro _ ap ⟨ad,ae,aq,rfl,a,z⟩
 rw [Hg] at a
 refine Cn a (fun bx a=>?_) fun bx a=>?_
 refine Sr<|Va (.bool false)<|AA<|AQ ?_
 obtain rfl:=AK a
 refine O1 B an Z (.tmp Z)<|⟨ae,Z,Ho (T2 (Mo [] y) p z) aj⟩
 refine WC.skip<|AR<|Sr<|Va (I 0)<|AA<|Af<|Bg (fun u ao ba=>∃ad w m,ao=Env.puts ad [(2,Pt az 0),(3,Pt a3 0),(5,I m)]∧Jq c d u m=some ak∧AS [] ae ap w ba) ac ?_ ?_
 exact ⟨_,ae,0,Pu,a,Rf⟩
 rintro u _ ba ⟨ad,w,m,rfl,a,aa⟩
 rcases u with _|u
 exact A5 a
 refine have a:K8 c d (Jq c d u) m=some ak:=a; ?_
 obtain ⟨cx,bb⟩:∃s,s=Jq c d u:=⟨_,rfl⟩
 rw [←bb,K8] at a
 refine AR<|Sr<|Vm<|Vx (Fd D8 Z)<|have bc:=Y3 a0 p z aa;Vx (Ld Ib Z (Bc bc Z))<|have bd:=K4 Kd.cpx al y p z aa; ?_
 obtain ⟨cy,cz,bz⟩:=AT bd
 refine Vx (v:=I (c.list.length:Int)) (Ll IQ bz)<|Vr (.bool (decide (m< (c.list.length:Int))))<|AA<|Cn a (fun b0 a=>?_) fun b0 a=>?_
 refine WC.skip<|AR<|Af<|AR<|BW Cv (qs 0 11 .nil) [] [] w (by kernel_rfl) fun be ab=>Qx n Z (fun _ _=>Fd D8 Z)<|have b1:=Bs bc ab;Qx n Z (fun _ ⟨_,f⟩=>Ld Ib Z (Bc (Bs b1 f) Z))<|Qx n Z (v:=I m) (fun _ _=>Mv Z)<|Bi a fun bf b2 a=>have b3:=Ss Kd.cpx bd ab; ?_
 obtain ⟨b4,b5,c0,bg,b6,b7,b8,b9,ar⟩:=A8 (κ:=Kd.cpx) b3 b2
 replace ar:Ax w be b4 (b5+m.toNat*1) bg:=ar
 obtain rfl:=(show bg=[Cx bf] from b9)
 refine Qx n Z (fun _ _=>Ix IQ b6 Z b7 b8)<|Qx n Z (fun _ ⟨_,f⟩=>Ld HL Z (Ax.cell0 (Es ar f) Z))<|Qx n Z (fun _ _=>Fd D8 Z)<|have ca:=Y3 a4 z aa ab;Qx n Z (fun _ ⟨_,f⟩=>Ld Ib Z (Bc (Bs ca f) Z))<|Qx n Z (v:=I m) (fun _ _=>Mv Z)<|Bi a fun bh cb a=>have cc:=Ss Kd.cpx (K4 Kd.cpx am y p z aa) ab; ?_
 obtain ⟨cd,cf,c1,bi,cg,ch,ci,cj,au⟩:=A8 (κ:=Kd.cpx) cc cb
 replace au:Ax w be cd (cf+m.toNat*1) bi:=au
 obtain rfl:=(show bi=[Cx bh] from cj)
 refine Qx n Z (fun _ _=>Ix IQ cg Z ch ci)<|Qx n Z (fun _ ⟨_,f⟩=>Ld HL Z (Ax.cell0 (Es au f) Z))<|Qx n Z (v:=.bool (cne bf bh)) (fun _ _=>(Run.cne Z Z))<|B9<|Cn a (fun ck a=>?_) fun ck a=>?_
 refine Sr<|Va (.bool false)<|AA<|AQ ?_
 obtain rfl:=AK a
 refine O1 B an Z (.tmp Z)<|⟨w,Z,Ho (T4 (Mo [] y) p z aa ab) aj⟩
 refine WC.skip<|AL<|Vm<|Vr (I (Wr (m+1)))<|Va (I (Wr (m+1)))<|AA<|⟨u,Nat.lt_succ_self u,_,w,(Wr (m+1)),Pu,(bb▸a),(Tn (Mo [] aa) ab)⟩
 refine Ba<|Sr<|Va (.bool true)<|AA<|AQ ?_
 obtain rfl:=AK a
 refine O1 B an Z (.tmp Z)<|⟨w,Z,Ho (T3 (Mo [] y) p z aa) aj⟩
theorem Uv(c:Nat):Jr.Spec (Jr c):=lk0 (Tz c)
def GY.At(c:Col)(a:World)(f:AF→AF→Option Bool):Prop:=
 ∀{d e g h l},f d g=some l→Ao.rep c.F a e d→Ao.rep c.F a h g→
  Calls PG 22 #[Ag e,Ag h] a fun m n=>∃o,m=.returned (.bool l)∧AS [] c a o n
def GY.Spec(f:AF→AF→Option Bool):Prop:=
 ∀a c,GY.At a c f
theorem SR(u:Nat)(w:Col)(ar:World)(aj:∀b,w b<10):GY.At w ar (GY u):=by
 intro d bf c bg ak a au av
 rw [GY] at a
 obtain ⟨al,am,rfl,y⟩:=E1 (Az au)
 obtain ⟨an,ao,rfl,z⟩:=E1 (Az av)
 refine Ay Tryz.func22 Z Tryz.ntmps22 Z fun B ap bj=>Sr<|Ef<|A0 w 20 Z Z fun aw bk ax aa q=>Ef<|A0 aw 21 Z Z fun ab ay az ac l=>Va (.bool false)<|AA<|AR<|Am (fun ad s=>∃r g ae,ad=Env.puts r [(2,Pt ax 0),(3,Pt az 0),(12,.bool ae)]∧KE u d c ae=some ak∧AS [] ab ay g s) ?_ ?_
 refine AL<|Vx (Fz Jd Z)<|have a0:=Bs aa l;Vx (Ld Ed Z (Bc a0 Z))<|Vr (.bool (d.type_==0))<|Vm<|Bo a (fun m a=>?_) fun m a=>?_
 refine Gx m (Fz Jd Z)<|Gx m (Ld Ed Z (Bc ac Z))<|Gr m (.bool (c.type_==0))<|Vp m<|AA<|⟨_,ab,(c.type_==0),Pu,a,Rf⟩
 refine Pg m<|Pg m<|Pg m<|Vp m<|AA<|⟨_,ab,false,Pu,a,Rf⟩
 rintro _ s ⟨r,g,ae,rfl,a,h⟩
 rw [KE] at a
 refine Cn a (fun a1 a=>?_) fun a1 a=>?_
 refine Am (fun ad aq=>∃r af ag,ad=Env.puts r [(4,.bool ag)]∧H6 ag=some ak∧AS [] g s af aq) ?_ ?_
 refine AL<|Vx (Fd HT Z)<|have ah:=Y2 aa l h;Vx (Ld HL Z (Bc ah Z))<|Vx (v:=.bool (ceq d.num ((0,0):Nat×Nat))) (Run.ceq Z Z)<|Vm<|Bo a (fun n a=>?_) fun n a=>?_
 refine Gx n (Fd HT Z)<|have ai:=Bs ac h;Gx n (Ld HL Z (Bc ai Z))<|Gx n (v:=.bool (ceq c.num ((0,0):Nat×Nat))) (Run.ceq Z Z)<|Vp n<|Vm<|Bo a (fun o a=>?_) fun o a=>?_
 refine Gx o (Fd Ka Z)<|Gx o (Ld MF Z (Bc ah Z))<|Gr o (.bool (!d.bool))<|Vp o<|Vm<|Bo a (fun p a=>?_) fun p a=>?_
 refine Gx p (Fd Ka Z)<|Gx p (Ld MF Z (Bc ai Z))<|Gr p (.bool (!c.bool))<|Vp p<|Vm<|Bo a (fun e a=>?_) fun e a=>?_
 refine Gx e (Fd D8 Z)<|Gx e (Ld Ib Z (Bc ah Z))<|have a2:=K3 Kd.cpx y q l h; ?_
 obtain ⟨bl,bm,a3⟩:=AT a2
 refine Gx e (v:=I (d.list.length:Int)) (Ll IQ a3)<|Gr e (.bool ((d.list.length:Int)==0))<|Vp e<|Vm<|Bo a (fun f a=>?_) fun f a=>?_
 refine Gx f (Fd D8 Z)<|Gx f (Ld Ib Z (Bc ai Z))<|have a4:=K3 Kd.cpx z q l h; ?_
 obtain ⟨bn,bo,a5⟩:=AT a4
 refine Gx f (v:=I (c.list.length:Int)) (Ll IQ a5)<|Gr f (.bool ((c.list.length:Int)==0))<|Vp f<|Va (.bool ((c.list.length:Int)==0))<|AA<|⟨_,g,((c.list.length:Int)==0),Pu,a,Rf⟩
 refine Pg f<|Pg f<|Pg f<|Pg f<|Vp f<|Va (.bool false)<|AA<|⟨_,g,false,Pu,a,Rf⟩
 refine Pg e<|Pg e<|Pg e<|Pg e<|Vp e<|Vm<|Pg Z<|Pg Z<|Pg Z<|Pg Z<|Vr (.bool false)<|Va (.bool false)<|AA<|⟨_,g,false,Pu,a,Rf⟩
 refine Pg p<|Pg p<|Pg p<|Vp p<|Vm<|Pg Z<|Pg Z<|Pg Z<|Pg Z<|Vr (.bool false)<|Vm<|Pg Z<|Pg Z<|Pg Z<|Pg Z<|Vr (.bool false)<|Va (.bool false)<|AA<|⟨_,g,false,Pu,a,Rf⟩
 refine Pg o<|Pg o<|Pg o<|Vp o<|Vm<|Pg Z<|Pg Z<|Pg Z<|Vr (.bool false)<|Vm<|Pg Z<|Pg Z<|Pg Z<|Pg Z<|Vr (.bool false)<|Vm<|Pg Z<|Pg Z<|Pg Z<|Pg Z<|Vr (.bool false)<|Va (.bool false)<|AA<|⟨_,g,false,Pu,a,Rf⟩
 refine Pg n<|Pg n<|Pg n<|Vp n<|Vm<|Pg Z<|Pg Z<|Pg Z<|Vr (.bool false)<|Vm<|Pg Z<|Pg Z<|Pg Z<|Vr (.bool false)<|Vm<|Pg Z<|Pg Z<|Pg Z<|Pg Z<|Vr (.bool false)<|Vm<|Pg Z<|Pg Z<|Pg Z<|Pg Z<|Vr (.bool false)<|Va (.bool false)<|AA<|⟨_,g,false,Pu,a,Rf⟩
 rintro _ aq ⟨r,af,ag,rfl,a,a6⟩
 rw [H6] at a
 refine AQ ?_
 obtain rfl:=AK a
 refine O1 B ap Z (.tmp Z)<|⟨af,Z,Ho (T3 (Mo [] q) l h a6) aj⟩
 refine WC.skip<|Sr<|have a7:=Y2 aa l h;Vx (Lx B0 Z Z (Bw a7))<|have a8:=Bs ac h;Vx (Lx B0 Z Z (Bw a8))<|have a9:=K3 Kd.cpx y q l h;have ba:=K3 Kd.cpx z q l h;Bi a fun bb bc a=>Ca (Cg [Ag [I d.type_,Cx d.num,.bool d.bool,Sl al d.list am],Ag [I c.type_,Cx c.num,.bool c.bool,Sl an c.list ao]] Z) (Uv u g s bc (Al (x:=d) a9) (Al (x:=c) ba)) ?_
 rintro _ bp ⟨bd,rfl,be⟩
 refine Va (.bool bb)<|AA<|AQ ?_
 obtain rfl:=AK a
 refine O1 B ap Z (.tmp Z)<|⟨bd,Z,Ho (T3 (Mo [] q) l h be) aj⟩
theorem T0(c:Nat):GY.Spec (GY c):=lk0 (SR c)
def JD.At(c:Col)(a:World)(f:BE→BE→Option Bool):Prop:=
 ∀{d e g h l},f d g=some l→MS.rep c.F a e d→MS.rep c.F a h g→
  Calls PG 12 #[Ag e,Ag h] a fun m n=>∃o,m=.returned (.bool l)∧AS [] c a o n
def JD.Spec(f:BE→BE→Option Bool):Prop:=
 ∀a c,JD.At a c f
theorem T5(ab:Nat)(r:Col)(al:World)(am:∀b,r b<10):JD.At r al (JD ab):=by
 intro c a0 d a1 an a ao ap
 rw [JD] at a
 obtain ⟨ad,ae,rfl,ac⟩:=E1 (Ke ao)
 obtain ⟨ag,ah,rfl,af⟩:=E1 (Ke ap)
 refine Ay Tryz.func12 Z Tryz.ntmps12 Z fun B aq a4=>Sr<|Ef<|A0 r 20 Z Z fun ar a5 a6 au s=>Ef<|A0 ar 21 Z Z fun u ai a7 w o=>Va (.bool false)<|AA<|Am (fun av aj=>∃ak y z,av=Env.puts ak [(4,.bool z)]∧Hh z=some an∧AS [] u ai y aj) ?_ ?_
 refine AL<|Vx (Fz QT Z)<|have aa:=Bs au o;Vx (Ld NE Z (Bc aa Z))<|Vx (Fz QT Z)<|Vx (Ld NE Z (Bc w Z))<|Vr (.bool (c.why==d.why))<|Vm<|Bo a (fun e a=>?_) fun e a=>?_
 refine Gx e (Fd QU Z)<|Gx e (Lx B0 Z Z (Bk.part aa 1 [I c.value.type_,Cx c.value.num,.bool c.value.bool,Sl ad c.value.list ae] Z))<|Gx e (Fd QU Z)<|Gx e (Lx B0 Z Z (Bk.part w 1 [I d.value.type_,Cx d.value.num,.bool d.value.bool,Sl ag d.value.list ah] Z))<|have aw:=K2 Kd.cpx ac s o;have ax:=K2 Kd.cpx af s o;Bi a fun a8 ay a=>CT (.guard (t:=true) (b:=true) Z Z Z Z (Cb e)) Z Z (Cg [Ag [I c.value.type_,Cx c.value.num,.bool c.value.bool,Sl ad c.value.list ae],Ag [I d.value.type_,Cx d.value.num,.bool d.value.bool,Sl ag d.value.list ah]] Z)<|Calls.mono (T0 ab u ai ay (Al (x:=(AF.mk c.value.type_ c.value.num c.value.bool c.value.list)) aw) (Al (x:=(AF.mk d.value.type_ d.value.num d.value.bool d.value.list)) ax)) ?_
 rintro _ a9 ⟨n,rfl,m⟩
 refine ⟨_,Z,?_⟩
 refine Vp e<|Vm<|Bo a (fun f a=>?_) fun f a=>?_
 refine Gx f (Fd QV Z)<|have p:=Bs aa m;Gx f (Ld BC Z (Bc p Z))<|Gx f (Fd QV Z)<|have q:=Bs w m;Gx f (Ld BC Z (Bc q Z))<|Gr f (.bool (c.moves==d.moves))<|Vp f<|Vm<|Bo a (fun g a=>?_) fun g a=>?_
 refine Gx g (Fd Ws Z)<|Gx g (Ld BC Z (Bc p Z))<|Gx g (Fd Ws Z)<|Gx g (Ld BC Z (Bc q Z))<|Gr g (.bool (c.thunks==d.thunks))<|Vp g<|Vm<|Bo a (fun h a=>?_) fun h a=>?_
 refine Gx h (Fd Wt Z)<|Gx h (Ld BC Z (Bc p Z))<|Gx h (Fd Wt Z)<|Gx h (Ld BC Z (Bc q Z))<|Gr h (.bool (c.updates==d.updates))<|Vp h<|Vm<|Bo a (fun l a=>?_) fun l a=>?_
 refine Gx l (Fd Wu Z)<|Gx l (Ld BC Z (Bc p Z))<|Gx l (Fd Wu Z)<|Gx l (Ld BC Z (Bc q Z))<|Gr l (.bool (c.calls==d.calls))<|Vp l<|Va (.bool (c.calls==d.calls))<|AA<|⟨_,n,(c.calls==d.calls),Pu,a,(Mo [] m)⟩
 refine Pg l<|Pg l<|Pg l<|Pg l<|Pg l<|Vp l<|Va (.bool false)<|AA<|⟨_,n,false,Pu,a,(Mo [] m)⟩
 refine Pg h<|Pg h<|Pg h<|Pg h<|Pg h<|Vp h<|Vm<|Pg Z<|Pg Z<|Pg Z<|Pg Z<|Pg Z<|Vr (.bool false)<|Va (.bool false)<|AA<|⟨_,n,false,Pu,a,(Mo [] m)⟩
 refine Pg g<|Pg g<|Pg g<|Pg g<|Pg g<|Vp g<|Vm<|Pg Z<|Pg Z<|Pg Z<|Pg Z<|Pg Z<|Vr (.bool false)<|Vm<|Pg Z<|Pg Z<|Pg Z<|Pg Z<|Pg Z<|Vr (.bool false)<|Va (.bool false)<|AA<|⟨_,n,false,Pu,a,(Mo [] m)⟩
 refine Pg f<|Pg f<|Pg f<|Pg f<|Pg f<|Vp f<|Vm<|Pg Z<|Pg Z<|Pg Z<|Pg Z<|Pg Z<|Vr (.bool false)<|Vm<|Pg Z<|Pg Z<|Pg Z<|Pg Z<|Pg Z<|Vr (.bool false)<|Vm<|Pg Z<|Pg Z<|Pg Z<|Pg Z<|Pg Z<|Vr (.bool false)<|Va (.bool false)<|AA<|⟨_,n,false,Pu,a,(Mo [] m)⟩
 refine Pg e<|Pg e<|Pg e<|Pg e<|Pg e<|Vp e<|Vm<|Pg Z<|Pg Z<|Pg Z<|Pg Z<|Pg Z<|Vr (.bool false)<|Vm<|Pg Z<|Pg Z<|Pg Z<|Pg Z<|Pg Z<|Vr (.bool false)<|Vm<|Pg Z<|Pg Z<|Pg Z<|Pg Z<|Pg Z<|Vr (.bool false)<|Vm<|Pg Z<|Pg Z<|Pg Z<|Pg Z<|Pg Z<|Vr (.bool false)<|Va (.bool false)<|AA<|⟨_,u,false,Pu,a,Rf⟩
 rintro _ aj ⟨ak,y,z,rfl,a,az⟩
 rw [Hh] at a
 refine AQ ?_
 obtain rfl:=AK a
 refine O1 B aq Z (.tmp Z)<|⟨y,Z,Ho (T2 (Mo [] s) o az) am⟩
theorem Uw(c:Nat):JD.Spec (JD c):=lk0 (T5 c)
def GZ.At(c:Col)(a:World)(f:HP→Option (Nat×Nat)):Prop:=
 ∀{d e g},f d=some g→In.rep c.F a e d→
  Calls PG 38 #[Ag e] a fun h l=>∃m,h=.returned (Cx g)∧AS [] c a m l
def GZ.Spec(f:HP→Option (Nat×Nat)):Prop:=
 ∀a c,GZ.At a c f
theorem SS(g:Col)(q:World)(l:∀b,g b<10):GZ.At g q GZ:=by
 intro a u w e r
 rw [GZ] at e
 obtain rfl:=QQ r
 refine Ay Tryz.func38 Z Tryz.ntmps38 Z fun B m d=>Sr<|Ef<|A0 g 20 Z Z fun h y z f n=>Va (Cx (((0,0):Nat×Nat)))<|AA<|AR<|Sr<|Vx (Fd ZD Z)<|Vx (Ld MF Z (Bc f Z))<|AA<|Cn e (fun s e=>?_) fun s e=>?_
 refine AR<|BW Cv (qs 0 10 .nil) [] [] h (by kernel_rfl) fun aa o=>Qx d Z (fun _ _=>Fz Wv Z)<|have p:=Bs f o;Qx d Z (fun _ ⟨_,c⟩=>Ld BC Z (Bc (Bs p c) Z))<|Qx d Z (v:=.int .u64 (IntKind.u64.wrap a.re)) (fun _ _=>Z)<|Qx d Z (v:=Fl (((IntKind.u64.wrap a.re)).toNat)) (fun _ _=>O9 (vs:=[.int .u64 (IntKind.u64.wrap a.re)]) Z Z)<|Qx d Z (fun _ _=>Fd Ww Z)<|Qx d Z (fun _ ⟨_,c⟩=>Ld BC Z (Bc (Bs p c) Z))<|Qx d Z (v:=.int .u64 (IntKind.u64.wrap a.im)) (fun _ _=>Z)<|Qx d Z (v:=Fl (((IntKind.u64.wrap a.im)).toNat)) (fun _ _=>O9 (vs:=[.int .u64 (IntKind.u64.wrap a.im)]) Z Z)<|Qx d Z (v:=Cx ((((IntKind.u64.wrap a.re)).toNat,((IntKind.u64.wrap a.im)).toNat))) (fun _ _=>Run.complex Z Z)<|Qx d Z (v:=Cx ((((IntKind.u64.wrap a.re)).toNat,((IntKind.u64.wrap a.im)).toNat))) (fun _ _=>Run.assign Z)<|B9<|AQ ?_
 obtain rfl:=AK e
 refine O1 B m Z (.tmp Z)<|⟨h,Z,Ho (Tn (Mo [] n) o) l⟩
 refine WC.skip<|Sr<|Vx (Fz Wv Z)<|Vx (Ld BC Z (Bc f Z))<|Vr (Fl (FloatKind.f64.nearest a.re))<|Vx (Fd Ww Z)<|Vx (Ld BC Z (Bc f Z))<|Vr (Fl (FloatKind.f64.nearest a.im))<|Vx (v:=Cx (((FloatKind.f64.nearest a.re),(FloatKind.f64.nearest a.im)))) (Run.complex Z Z)<|Va (Cx (((FloatKind.f64.nearest a.re),(FloatKind.f64.nearest a.im))))<|AA<|AQ ?_
 obtain rfl:=AK e
 refine O1 B m Z (.tmp Z)<|⟨h,Z,Ho (Mo [] n) l⟩
theorem NJ:GZ.Spec GZ:=lk0 (SS)
def HJ.At(c:Col)(a:World)(f:FA→Option AF):Prop:=
 ∀{d e g},f d=some g→J0.rep c.F a e d→
  Calls PG 15 #[Ag e] a fun n h=>∃l m,n=.returned (Ag m)∧AS [] c a l h∧Ao.rep l.F h m g
def HJ.Spec(f:FA→Option AF):Prop:=
 ∀a c,HJ.At a c f
theorem ST(aj:Nat)(ak:Col)(bi:World)(bj:∀b,ak b<10):HJ.At ak bi (HJ aj):=by
 intro a c6 al c bk
 rw [HJ] at c
 obtain ⟨c8,c9,rfl,a2⟩:=E1 (QR bk)
 refine Ay Tryz.func15 Z Tryz.ntmps15 Z fun B bl e=>Sr<|Ef<|A0 ak 20 Z Z fun bm da a3 a4 a5=>Ef<|AY bm 21 CS Z fun ae bn a6 bo af=>AA<|Am (fun am ag=>∃y z aa f g h,am=Env.puts y [(1,Pt a3 0),(2,Pt a6 0),(3,Pt aa 0)]∧MC aj a f g h=some al∧AS [22] ae bn z ag∧Bk z ag 22 aa [I f,Cx g,.bool h,.slice none 0 0] 38) ?_ ?_
 refine BW Cv (qs 0 4 (.q 5 (.q 6 (.two 4 8 (.q 7 (.one 8 (.one 9 .nil))) (.one 4 (.q 7 (.one 9 .nil))))))) [9] [] ae (by kernel_rfl) fun bp an=>Qx e Z (fun _ _=>Fz ZE Z)<|have ao:=Y2 a4 af an;Qx e Z (fun _ ⟨_,d⟩=>Ld BC Z (Bc (Bs ao d) Z))<|Qx e Z (fun _ _=>Fd ZF Z)<|Qx e Z (fun _ ⟨_,d⟩=>Lx Y7 Z Z (Bk.part (Bs ao d) 1 [I a.num.re,I a.num.im,.bool a.num.raw] Z))<|Qx e Z (fun _ _=>Fd ZG Z)<|Qx e Z (fun _ ⟨_,d⟩=>Ld MF Z (Bc (Bs ao d) Z))<|M7 Z Z ?_ ?_
 refine Bi c fun ap bq c=>A3 Z (.none Z) Z Z (Cg [Ag [I a.num.re,I a.num.im,.bool a.num.raw]] Z)<|Calls.mono (NJ ae bp bq (N2 (x:=(HP.mk a.num.re a.num.im a.num.raw)))) ?_
 rintro _ db ⟨br,rfl,aq⟩
 refine ⟨_,Z,⟨_,(Mo [] aq)⟩,?_⟩
 refine Qx e Z (v:=Ag [I a.type_,Cx ap,.bool a.bool,.slice none 0 0]) (fun _ _=>B3 (cs:=[I a.type_,Cx ap,.bool a.bool,.slice none 0 0]) [I 0,Cx (((0,0):Nat×Nat)),.bool false,.slice none 0 0] CS F7 Z (.cons Z Z Z (.cons Z Z Z (.cons Z Z Z .nil))) Z Z)<|A1 Z<|Bb Z (.none Z) Z Z<|AY br 22 CS Z fun bt dc bu bv a7=>⟨⟨_,(Tn (Mo [] aq) a7)⟩,?_⟩
 refine ES dcd<|WY.one<|BM Z (.none Z) Z<|St Cw bv Z Z Z Z fun de bw bx=>WY.nil<|⟨_,bt,bu,a.type_,ap,a.bool,Pu,c,(T3 (Mo [22] an) aq a7 bx),bw⟩
 refine Bb Z (.none Z) Z Z<|AY ae 22 CS Z fun bz b0 b1 b2 ar=>⟨⟨_,(Mo [] ar)⟩,?_⟩
 refine A1 Z<|Bi c fun au b3 c=>A3 Z (.none Z) Z Z (Cg [Ag [I a.num.re,I a.num.im,.bool a.num.raw]] Z)<|Calls.mono (NJ bz b0 b3 (N2 (x:=(HP.mk a.num.re a.num.im a.num.raw)))) ?_
 rintro _ df ⟨b4,rfl,av⟩
 refine ⟨_,Z,⟨_,(Tn (Mo [] ar) av)⟩,?_⟩
 refine Qx e Z (v:=Ag [I a.type_,Cx au,.bool a.bool,.slice none 0 0]) (fun _ _=>B3 (cs:=[I a.type_,Cx au,.bool a.bool,.slice none 0 0]) [I 0,Cx (((0,0):Nat×Nat)),.bool false,.slice none 0 0] CS F7 Z (.cons Z Z Z (.cons Z Z Z (.cons Z Z Z .nil))) Z Z)<|ES dcd<|WY.one<|have b5:=Bs b2 av;BM Z (.none Z) Z<|St Cw b5 Z Z Z Z fun dg b6 b7=>WY.nil<|⟨_,b4,b1,a.type_,au,a.bool,Pu,c,(T3 (Mo [22] an) ar av b7),b6⟩
 rintro _ ag ⟨y,z,aa,f,g,h,rfl,c,ah,b8⟩
 rw [MC] at c
 refine AR<|Sr<|Va (I 0)<|AA<|Af<|Bg (fun n am ai=>∃y q m l o p,am=Env.puts y [(1,Pt a3 0),(2,Pt a6 0),(3,Pt aa 0),(4,I m)]∧H7 a f g h n m l=some al∧AS [22,24] z ag q ai∧Own Kd.cpx 35 q ai 24 (Sl o l p) l∧Bk q ai 22 aa [I f,Cx g,.bool h,Sl o l p] 38) aj ?_ ?_
 exact ⟨_,z,0,([]:List (Nat×Nat)),none,0,Pu,c,(AS.refl [22,24] _ _),Own.nil,b8⟩
 rintro n _ ai ⟨y,q,m,l,o,p,rfl,c,ab,aw,a8⟩
 rcases n with _|n
 exact A5 c
 refine have c:IP a f g h (H7 a f g h n) m l=some al:=c; ?_
 obtain ⟨dh,a9⟩:∃s,s=H7 a f g h n:=⟨_,rfl⟩
 rw [←a9,IP] at c
 refine AR<|Sr<|Vm<|Vx (Fd Wx Z)<|have ba:=Y3 a4 af ah ab;Vx (Ld ZR Z (Bc ba Z))<|have bb:=K4 In a2 a5 af ah ab; ?_
 obtain ⟨di,dj,b9⟩:=AT bb
 refine Vx (v:=I (a.list.length:Int)) (Ll ZV b9)<|Vr (.bool (decide (m< (a.list.length:Int))))<|AA<|Cn c (fun ca c=>?_) fun ca c=>?_
 refine WC.skip<|AR<|Af<|BW Cv (qs 0 7 (.one 7 (.one 8 (.one 9 (.q 10 (.one 11 .nil)))))) [11] [24] q (by kernel_rfl) fun bc ac=>Qx e Z (fun _ _=>Fd D8 Z)<|have bd:=Bs a8 ac;Qx e Z (fun _ ⟨_,d⟩=>Ld Ib Z (Bc (Bs bd d) Z))<|Qx e Z (fun _ _=>Fd Wx Z)<|have cb:=Bs ba ac;Qx e Z (fun _ ⟨_,d⟩=>Ld ZR Z (Bc (Bs cb d) Z))<|Qx e Z (v:=I m) (fun _ _=>Mv Z)<|Bi c fun r cc c=>have cd:=Ss In bb ac; ?_
 obtain ⟨cf,cg,dk,ch,ci,cj,ck,cl,ax⟩:=A8 (κ:=In) cd cc
 replace ax:Ax q bc cf (cg+m.toNat*3) ch:=ax
 obtain rfl:=QQ cl
 refine Qx e Z (fun _ _=>Ix ZV ci Z cj ck)<|Qx e Z (fun _ ⟨_,d⟩=>Lx Y7 Z Z (Ax.part0 (Es ax d) [I r.re,I r.im,.bool r.raw] Z))<|A1 Z<|Bi c fun u cm c=>A3 Z (.none Z) Z Z (Cg [Ag [I r.re,I r.im,.bool r.raw]] Z)<|Calls.mono (NJ q bc cm (N2 (x:=r))) ?_
 rintro _ dl ⟨cn,rfl,w⟩
 refine ⟨_,Z,⟨_,(Mo [24] w)⟩,?_⟩
 refine A1 Z<|Bb Z (.none Z) Z Z<|Ch (cs:=[Cx u]) cn 23 [[Cx u]] IQ Vj Z Z (.cons Z Z Z .nil) Z fun co cq cr ct ad=>have cu:Own Kd.cpx 35 co cq 23 (.slice (some ⟨cr,0,none⟩) 1 1) ([u]:List (Nat×Nat)):=Own.lit (css:=[[Cx u]]) ct Z Z Z (Aa Z BA) (A4 Z D3) Z;⟨⟨_,(Tn (Mo [24] w) ad)⟩,?_⟩
 refine A1 Z<|have cv:=Os (Os (Os aw ac) w) ad;Bi c fun dm be c=>Bb Z (.none Z) Z Z<|Bu (κ:=Kd.cpx) Z Z cv dcd Vb (CC cu) (Et be) (E6 be) fun dn cw dp ay az=>?_
 obtain ⟨a0,a1,rfl⟩:=Own.len ay
 refine ⟨⟨_,(T2 (Mo [24] w) ad az)⟩,?_⟩
 refine Qx e Z (fun _ _=>Fd D8 Z)<|ES dcd<|WY.one<|have cx:=Y3 bd w ad az;BM Z (.none Z) Z<|Bv (vs:=[Sl a0 ((l++([u]:List (Nat×Nat)))) a1]) (cs':=[I f,Cx g,.bool h,Sl a0 ((l++([u]:List (Nat×Nat)))) a1]) Vf Z Z Z Z (AX (Own.one ay) CJ) cx dcd Z Z fun dq cy bf=>WY.nil<|AL<|Vm<|Vr (I (Wr (m+1)))<|Va (I (Wr (m+1)))<|AA<|have cz:=Os ay bf;⟨n,Nat.lt_succ_self n,_,cw,(Wr (m+1)),(l++([u]:List (Nat×Nat))),a0,a1,Pu,(a9▸c),(Tn (T4 (Mo [22,24] ab) ac w ad az) bf),cz,cy⟩
 refine Ba<|Sr<|Vx (Lx B0 Z Z (Bw a8))<|have c0:=Y2 bo ah ab;Eu<|Bv (vs:=[I f,Cx g,.bool h,Sl o l p]) (cs':=[I f,Cx g,.bool h,Sl o l p]) Cw Z Z Z Z (AX Z (AX Z (AX Z (AX (Own.one aw) CJ)))) c0 dcd Z Z fun dr c1 bg=>AA<|AQ<|have c2:=Os aw bg; ?_
 obtain ⟨c3,bh,c4⟩:=Own.freeze (S:=[24]) c2 dcd dcd
 obtain rfl:=AK c
 refine have c5:=Bs c1 bh;O1 B bl Z (.agg B0 Z Z (Bw c5))<|⟨c3,[I f,Cx g,.bool h,Sl o l p],Z,Ho (Tn (T4 (Mo [21,22,24] a5) af ah ab bg) bh) bj,(Al (x:=(AF.mk f g h l)) c4)⟩
theorem T6(c:Nat):HJ.Spec (HJ c):=lk0 (ST c)
def F6.At(c:Col)(a:World)(f:Ft→(List FA)→Int→Option Bool):Prop:=
 ∀{d e g h l m},f d g l=some m→MR.rep c.F a e d→Slc J0 c.F a h g→
  Calls PG 4 #[Ag e,h,I l] a fun n o=>∃p,n=.returned (.bool m)∧AS [] c a p o
def F6.Spec(f:Ft→(List FA)→Int→Option Bool):Prop:=
 ∀a c,F6.At a c f
end Fth
namespace Fth
open Go Go.Proofs Sh
set_option maxRecDepth 100000
set_option maxHeartbeats 8000000
theorem Qj(m:Nat)(ao:Col)(b1:World)(a4:∀b,ao b<10):F6.At ao b1 (F6 m):=by
 intro h dy w dz q ap a b2 a5
 rw [F6] at a
 obtain ⟨a7,a8,rfl,a6⟩:=E1 (QP b2)
 obtain ⟨b3,b4,rfl⟩:=AT a5
 refine Ay Tryz.func4 Z Tryz.ntmps4 Z fun B a9 d=>Sr<|Ef<|A0 ao 20 Z Z fun b5 b6 b7 b8 am=>Va (.bool false)<|AA<|AR<|Sr<|Bi a fun b9 ca a=>Ca (Cg [] Z) (Te m b5 b6 ca) ?_
 rintro _ cb ⟨ba,rfl,af⟩
 refine Vr (.bool (!b9))<|AA<|Cn a (fun cc a=>?_) fun cc a=>?_
 refine Sr<|Va (.bool false)<|AA<|AQ ?_
 obtain rfl:=AK a
 refine O1 B a9 Z (.tmp Z)<|⟨ba,Z,Ho (Tn (Mo [] am) af) a4⟩
 refine WC.skip<|Sr<|have bb:=Bs b8 af;Vx (Lx ABb Z Z (Bw bb))<|have cd:=K2 Kd.u8 a6 am af;Bi a fun e cf a=>Ca (Cg [Ag [Sl a7 h.text a8,Sb h.name,Sb h.args]] Z) (NW m ba cb (kw1:=21) cf dcd dcd (QO (x:=h) cd)) ?_
 rintro _ d1 ⟨cg,d2,d3,rfl,aq,ch,bc⟩
 obtain ⟨ag,ah,rfl,bd⟩:=E1 (BV ch)
 obtain ⟨ar,au,rfl⟩:=Own.len bc
 refine Vm<|Vr (Ag [Sl ag e.1.funcs ah])<|Vr (Sl ar e.2.1 au)<|Vr (.bool e.2.2)<|Ef<|AY cg 22 KR Z fun be d5 ci cj ai=>have ck:=Ss AI bd ai;Eu<|St JJ cj Z Z Z Z fun cl cm aj=>Va (Sl ar e.2.1 au)<|Va (.bool e.2.2)<|AA<|AR<|Sr<|Va (I 0)<|AA<|Af<|Bg (fun u av aa=>∃ak ab n y z r,av=Env.puts ak [(1,Sl b3 w b4),(2,I q),(3,Pt b7 0),(7,Pt ci 0),(8,Sl y n z),(9,.bool e.2.2),(10,I r)]∧Ga m h w q e u n r=some ap∧AS [21] be cl ab aa∧Own Ao 38 ab aa 21 (Sl y n z) n) m ?_ ?_
 refine have cn:=Os (Os bc ai) aj;⟨_,be,e.2.1,ar,au,0,Pu,a,(AS.refl [21] _ _),cn⟩
 rintro u _ aa ⟨ak,ab,n,y,z,r,rfl,a,ac,bf⟩
 rcases u with _|u
 exact A5 a
 refine have a:G7 m h w q e (Ga m h w q e u) n r=some ap:=a; ?_
 obtain ⟨d6,bg⟩:∃s,s=Ga m h w q e u:=⟨_,rfl⟩
 rw [←bg,G7] at a
 refine AR<|Sr<|Vm<|Vm<|have bh:=K2 J0 (K4 J0 a5 am af aq ai) aj ac; ?_
 obtain ⟨d7,d8,co⟩:=AT bh
 refine Vx (v:=I (w.length:Int)) (Ll ZU co)<|Vr (.bool (decide (r< (w.length:Int))))<|AA<|Cn a (fun cq a=>?_) fun cq a=>?_
 refine WC.skip<|AR<|Af<|AL<|Vm<|Vm<|Vm<|Bi a fun l cr a=>?_
 obtain ⟨ct,cu,d9,cv,cw,cx,cy,cz,aw⟩:=A8 (κ:=J0) bh cr
 replace aw:Ax ab aa ct (cu+r.toNat*6) cv:=aw
 obtain ⟨bj,bk,rfl,bi⟩:=E1 (QR cz)
 refine Vx (Ix ZU cw Z cx cy)<|Vx (Lx ABc Z Z (Ax.part0 aw [I l.type_,I l.num.re,I l.num.im,.bool l.num.raw,.bool l.bool,Sl bj l.list bk] Z))<|Bi a fun g c0 a=>Ca (Cg [Ag [I l.type_,I l.num.re,I l.num.im,.bool l.num.raw,.bool l.bool,Sl bj l.list bk]] Z) (T6 m ab aa c0 (VS (x:=l) bi)) ?_
 rintro _ eb ⟨c1,ec,rfl,bl,c2⟩
 obtain ⟨ax,ay,rfl,bm⟩:=E1 (Az c2)
 refine Ef<|Ch (cs:=[I g.type_,Cx g.num,.bool g.bool,Sl ax g.list ay]) c1 23 [[I g.type_,Cx g.num,.bool g.bool,Sl ax g.list ay]] Ic CS Z Z (.cons Z Z Z .nil) Z fun c3 c4 c5 c6 az=>have c7:=Ss Kd.cpx bm az;have c8:Own Ao 38 c3 c4 23 (.slice (some ⟨c5,0,none⟩) 1 1) ([g]:List AF):=Own.lit (css:=[[I g.type_,Cx g.num,.bool g.bool,Sl ax g.list ay]]) c6 Z Z Z (Aa (Al (x:=g) c7) BA) (A4 Z D3) Z;have c9:=Os (Os bf bl) az;Bi a fun ee bn a=>Ef<|Bu (κ:=Ao) Z Z c9 dcd VZ (CC c8) (Et bn) (E6 bn) fun ef da eg bo db=>?_
 obtain ⟨bp,bq,rfl⟩:=Own.len bo
 refine Va (Sl bp ((n++([g]:List AF))) bq)<|AA<|AL<|Vm<|Vr (I (Wr (r+1)))<|Va (I (Wr (r+1)))<|AA<|⟨u,Nat.lt_succ_self u,_,da,(n++([g]:List AF)),bp,bq,(Wr (r+1)),Pu,(bg▸a),(T3 (Mo [21] ac) bl az db),bo⟩
 refine Ba<|Am (fun av br=>∃ak a0 a1,av=Env.puts ak [(6,.bool a1)]∧LM a1=some ap∧AS [21] ab aa a0 br) ?_ ?_
 obtain ⟨a2,al,dc⟩:=Own.freeze (S:=[21]) bf dcd dcd
 refine BW Cv (qs 0 8 (qs 9 5 (.one 8 (.one 14 (.one 15 (.q 16 (.q 17 .nil))))))) [] [] a2 (by kernel_rfl) fun de ad=>Qx d Z (v:=.bool e.2.2) (fun _ _=>Mv Z)<|Qx d Z (v:=.bool (!e.2.2)) (fun _ _=>Z)<|Qx d Z (v:=.bool (!e.2.2)) (fun _ _=>Mv Z)<|Bo a (fun c a=>?_) fun c a=>?_
 refine Qp d Z c<|Qp d Z c<|Qp d Z c<|Qp d Z c<|Qp d Z c<|Qp d Z c<|Qp d Z c<|Qp d Z c<|Qp d Z c<|Qp d Z c<|A1 Z<|MP Z (.guard (t:=true) (b:=false) Z Z Z Z (Cb c)) Z Z<|⟨⟨_,Rf⟩,?_⟩
 refine A1 Z<|MP Z (.guard (t:=true) (b:=false) Z Z Z Z (Cb c)) Z Z<|⟨⟨_,Rf⟩,?_⟩
 refine A1 Z<|MP Z (.guard (t:=true) (b:=false) Z Z Z Z (Cb c)) Z Z<|⟨⟨_,Rf⟩,?_⟩
 refine Qx d Z (v:=.bool true) (fun _ _=>(Pk c))<|Qx d Z (v:=.bool true) (fun _ _=>Run.assign Z)<|B9<|⟨_,a2,true,Pu,a,(Tn (Mo [21] al) ad)⟩
 refine have bt:=Y3 cm ac al ad;Qg d Z c (fun _ ⟨_,f⟩=>Lx Gd Z Z (Bw (Bs bt f)))<|Qg d Z c (fun _ _=>Fd Wq Z)<|have bu:=Y2 (Y4 bb aq ai aj ac) al ad;Qg d Z c (fun _ ⟨_,f⟩=>Ld CG Z (Bc (Bs bu f) Z))<|Qg d Z c (v:=Sl y n z) (fun _ _=>Mv Z)<|Qg d Z c (v:=I q) (fun _ _=>Mv Z)<|Qg d Z c (fun _ ⟨_,f⟩=>Lx Gd Z Z (Bw (Bs bt f)))<|Qg d Z c (fun _ _=>Fd Wq Z)<|Qg d Z c (fun _ ⟨_,f⟩=>Ld CG Z (Bc (Bs bu f) Z))<|Qg d Z c (v:=Sl y n z) (fun _ _=>Mv Z)<|Qg d Z c (v:=I q) (fun _ _=>Mv Z)<|A1 Z<|have bv:=K4 AI ck aj ac al ad;have bw:=Ss Ao dc ad;Bi a fun o df a=>A3 Z (.guard (t:=false) (b:=false) Z Z Z Z (Cb c)) Z Z (Cg [Ag [Sl ag e.1.funcs ah],Sb h.name,Sl y n z,I q] Z)<|Calls.mono (OH m a2 de df (BQ (x:=e.1) bv) bw) ?_
 rintro _ dg ⟨dh,eh,rfl,ae,di⟩
 obtain ⟨dj,dk,rfl,bx⟩:=E1 (Ke di)
 refine ⟨_,Z,⟨_,(Mo [] ae)⟩,?_⟩
 refine A1 Z<|have dl:=Ss AI bv ae;have dm:=Ss Ao bw ae;Bi a fun p dn a=>A3 Z (.guard (t:=false) (b:=false) Z Z Z Z (Cb c)) Z Z (Cg [Ag [Sl ag e.1.funcs ah],Sb h.name,Sl y n z,I q] Z)<|Calls.mono (Uu m dh dg dn (BQ (x:=e.1) dl) dm) ?_
 rintro _ dp ⟨dq,ej,rfl,an,dr⟩
 obtain ⟨ds,dt,rfl,bz⟩:=E1 (Ke dr)
 refine ⟨_,Z,⟨_,(Tn (Mo [] ae) an)⟩,?_⟩
 refine A1 Z<|have du:=Ss Kd.cpx bx an;Bi a fun a3 dv a=>A3 Z (.guard (t:=false) (b:=false) Z Z Z Z (Cb c)) Z Z (Cg [Ag [I o.why,I o.value.type_,Cx o.value.num,.bool o.value.bool,Sl dj o.value.list dk,I o.moves,I o.thunks,I o.updates,I o.calls],Ag [I p.why,I p.value.type_,Cx p.value.num,.bool p.value.bool,Sl ds p.value.list dt,I p.moves,I p.thunks,I p.updates,I p.calls]] Z)<|Calls.mono (Uw m dq dp dv (EU (x:=o) du) (EU (x:=p) bz)) ?_
 rintro _ el ⟨dw,rfl,b0⟩
 refine ⟨_,Z,⟨_,(T2 (Mo [] ae) an b0)⟩,?_⟩
 refine Qx d Z (v:=.bool a3) (fun _ _=>(Pk c))<|Qx d Z (v:=.bool a3) (fun _ _=>Run.assign Z)<|B9<|⟨_,dw,a3,Pu,a,(T4 (Mo [21] al) ad ae an b0)⟩
 rintro _ br ⟨ak,a0,a1,rfl,a,dx⟩
 rw [LM] at a
 refine AQ ?_
 obtain rfl:=AK a
 refine O1 B a9 Z (.tmp Z)<|⟨a0,Z,Ho (T2 (T4 (Mo [21,22] am) af aq ai aj) ac dx) a4⟩
theorem RL(c:Nat):F6.Spec (F6 c):=lk0 (Qj c)
end Fth
namespace Fth
open Go
def T{α:Type}(x:Option α)(Q:α→Prop):Prop:=∃a,x=some a∧Q a
section
variable{α β:Type}{x:Option α}{f:α→Option β}{P:α→Prop}{Q:β→Prop}
theorem T.some{a:α}(h:P a):T (.some a) P:=⟨a,rfl,h⟩
theorem T.bind(h:T x P)(k: ∀a,P a→T (f a) Q):T (x.bind f) Q:=by
 obtain ⟨a,rfl,ha⟩:=h
 exact k a ha
theorem T.eq{a:α}(h:x= .some a)(k:T (f a) Q):T (x.bind f) Q:=by subst h;exact k
theorem T.mono{P':α→Prop}(h:T x P)(k: ∀a,P a→P' a):T x P':=by obtain ⟨a,e,ha⟩:=h;exact ⟨a,e,k a ha⟩
theorem T.cond{c:Bool}{x y:Option α}(h1:c=true→T x P)(h2:c=false→T y P):T (bif c then x else y) P:=by
 cases c
 ·exact h2 rfl
 ·exact h1 rfl
end
def Ev(p:Nat→Prop):Prop:=∃n,∀N,n≤N→p N
theorem Ev.and{p q:Nat→Prop}(hp:Ev p)(hq:Ev q):Ev fun N=>p N∧q N:=by
 obtain ⟨n,hn⟩:=hp;obtain ⟨m,hm⟩:=hq
 exact ⟨n+m,fun N h=>⟨hn N om,hm N om⟩⟩
theorem Ev.mono{p q:Nat→Prop}(hp:Ev p)(h: ∀N,p N→q N):Ev q:=let ⟨n,hn⟩:=hp;⟨n,fun N hN=>h N (hn N hN)⟩
theorem Ev.all{p:Nat→Prop}(h: ∀N,p N):Ev p:=⟨0,fun N _=>h N⟩
theorem Ev.get{p:Nat→Prop}(hp:Ev p): ∃N,p N:=let ⟨n,hn⟩:=hp;⟨n,hn n (Nat.le_refl n)⟩
theorem NK(n:Nat):Ev fun N=>n≤N:=⟨n,fun _ h=>h⟩
theorem wr{x:Int}(h1: -9223372036854775808≤x)(h2:x≤9223372036854775807):IntKind.i64.wrap x=x:=by
 simp only [IntKind.wrap,IntKind.signed,IntKind.bits]
 simp
 omega
theorem E7{α:Type}{xs:List α}{i:Int}(h0:0≤i)(h1:i<xs.length):T (idx xs i) fun x=>xs[i.toNat]?= .some x:=by
 refine ⟨xs[i.toNat]'om,?_,?_⟩
 ·rw [idx,if_pos h0];exact List.getElem?_eq_getElem _
 ·exact List.getElem?_eq_getElem _
theorem CI{α:Type}{xs:List α}{i:Nat}{x:α}(h:xs[i]?= .some x):idx xs (i:Int)= .some x:=by
 rw [idx,if_pos om];exact h
theorem Nr{α:Type}{xs:List α}{lo hi:Int}(h0:0≤lo)(h1:lo≤hi)(h2:hi≤xs.length):T (sub xs lo hi) fun ys=>ys=(xs.drop lo.toNat).take (hi.toNat - lo.toNat):=by
 rw [sub,if_pos ⟨h0,h1,h2⟩];exact .some rfl
theorem GC{α:Type}{b:Nat}{xs ys:List α}(hb:b≤4096)(h:xs.length+ys.length≤34359738368):T (HB b xs ys) fun _=>True:=by
 rw [HB,if_pos]
 ·exact .some trivial
 ·refine ⟨?_,om⟩
  calc (xs.length+ys.length)*b≤34359738368*4096:=Nat.mul_le_mul h hb
   _≤140737488355328:=by decide
theorem Mc{xs ys:List UInt8}(h:xs.length+ys.length≤34359738368):T (P3 xs ys) fun zs=>zs=xs++ys:=by
 rw [P3,if_pos om];exact .some rfl
theorem ZZ{n:Int}(h:n≠0):T (nz n) fun _=>True:=by rw [nz,if_neg h];exact .some trivial
theorem CR{p:Prop}[Decidable p](h:decide p=true):p:=of_decide_eq_true h
theorem Dj{p:Prop}[Decidable p](h:decide p=false): ¬p:=of_decide_eq_false h
theorem CN{x y:Int}(h:(x==y)=true):x=y:=by simpa using h
theorem B1{x y:Int}(h:(x==y)=false):x≠y:=by simpa using h
theorem MJ{x y:Int}(h:(x != y)=true):x≠y:=by simpa using h
theorem KH{x y:Int}(h:(x != y)=false):x=y:=by simpa using h
end Fth
namespace Fth
open Go
def Gf(x:Nat)(n:Int):Prop:=x=FloatKind.f64.nearest n∧ -16777216≤n∧n≤16777216
def Gn(z:Nat×Nat):Prop:=∃a b,Gf z.1 a∧Gf z.2 b
theorem Za(c:UInt8):T (Hl c) fun _=>True:=by
 unfold Hl Ir
 repeat (first|exact T.some trivial|refine T.cond (fun _=>?_) (fun _=>?_))
theorem Ye(c:UInt8):T (Gk c) fun _=>True:=by
 unfold Gk HC
 repeat (first|exact T.some trivial|refine T.cond (fun _=>?_) (fun _=>?_))
theorem W8(c:UInt8):T (HD c) fun _=>True:=by
 unfold HD Ks
 repeat (first|exact T.some trivial|refine T.cond (fun _=>?_) (fun _=>?_))
theorem AB0{N:Nat}{t:List UInt8}{at_:Int}(h0:0≤at_)(h1:at_≤t.length)(hl:t.length≤34359738368)(hN:t.length+2≤N):
  T (Io N t at_) fun n=>0≤n∧at_+n≤t.length:=by
 have key: ∀(k:Nat) (n:Int),0≤n→at_+n≤t.length→(t.length:Int) - (at_+n)<k→T (E3 t at_ k n) fun n=>0≤n∧at_+n≤t.length:=by
  intro k
  induction k with
  |zero=>intro n h2 h3 h4;omega
  |succ k ih=>
   intro n h2 h3 h4
   show T (Gh t at_ (E3 t at_ k) n) _
   unfold Gh
   have fin:T (Gl n (E3 t at_ k) false) fun n=>0≤n∧at_+n≤t.length:= .some ⟨h2,h3⟩
   rw [wr (x:=at_+n) om om]
   refine T.cond (fun h=>?_) (fun _=>fin)
   have h:=CR h
   have go: ∀b,T (Gl n (E3 t at_ k) b) fun n=>0≤n∧at_+n≤t.length:=by
    intro b
    cases b
    ·exact fin
    ·show T (E3 t at_ k (IntKind.i64.wrap (n+1))) _
     rw [wr om om]
     exact ih _ om om om
   refine T.bind (E7 om h) fun c _=>T.bind (Ye c) fun b _=>?_
   refine T.cond (fun _=>go _) fun _=>T.bind (W8 c) fun b _=>T.cond (fun _=>go _) fun _=>go _
 exact key N 0 om om om
theorem AB1(e:Int):((u8c e).toNat:Int)≤255:=by have:=(u8c e).toNat_lt;omega
theorem W9{N:Nat}{t:List UInt8}(hl:t.length≤34359738368)(hN:t.length+2≤N):
  T (FC N t) fun x=> -16777217≤x.1∧x.1≤16777217∧0≤x.2∧x.2≤t.length:=by
 have key: ∀(i:Int),0≤i→∀(k:Nat) (n p:Int),0≤n→n≤16777217→0≤p→p≤t.length→(t.length:Int) - p<k→T (Eg t i k n p) fun x=> -16777217≤x.1∧x.1≤16777217∧0≤x.2∧x.2≤t.length:=by
  intro i hi k
  induction k with
  |zero=>intro n p _ _ _ _ _;omega
  |succ k ih=>
   intro n p h1 h2 h3 h4 h5
   show T (FS t i (Eg t i k) n p) _
   unfold FS
   have fin:T (FB t i n p (Eg t i k) false) fun x=> -16777217≤x.1∧x.1≤16777217∧0≤x.2∧x.2≤t.length:=by
    unfold FB
    refine T.cond (fun h=>by cases h) fun _=>T.cond (fun _=> .some ⟨om,om,om,om⟩) fun _=>T.cond (fun _=>?_) fun _=>?_
    ·refine .some ⟨?_,?_,h3,h4⟩<;>simp only<;>rw [wr om om]<;>omega
    ·exact .some ⟨by simp only;omega,by simp only;omega,h3,h4⟩
   refine T.cond (fun h=>?_) fun _=>fin
   have h:=CR h
   refine T.bind (E7 h3 h) fun c _=>T.cond (fun _=>?_) fun _=>fin
   refine T.bind (E7 h3 h) fun c' _=>?_
   generalize decide (((c').toNat:Int)≤(((57:UInt8)).toNat:Int))=b
   cases b
   ·exact fin
   ·unfold FB
    refine T.cond (fun _=>?_) fun h=>by cases h
    refine T.bind (E7 h3 h) fun c'' _=>?_
    generalize hc:(((c'').toNat:Int) - (((48:UInt8)).toNat:Int))=e
    have:=AB1 e
    have hu:(0:Int)≤((u8c e).toNat:Int):=om
    rw [wr (x:=p+1) om om,wr (x:=10*n) om om,wr (x:=((u8c e).toNat:Int)) om om,wr (x:=10*n+((u8c e).toNat:Int)) om om]
    split
    ·exact ih _ _ om om om om om
    ·exact ih _ _ om om om om om
 unfold FC
 have j5: ∀b,(b=true→1≤t.length)→T (Hm N t b) fun x=> -16777217≤x.1∧x.1≤16777217∧0≤x.2∧x.2≤t.length:=by
  intro b hb
  refine T.cond (fun h=>?_) fun _=>?_
  ·have:=hb h
   exact key 1 om N 0 1 om om om om om
  ·exact key 0 om N 0 0 om om om om om
 refine T.cond (fun h=>?_) fun _=>j5 _ fun h=>by cases h
 have h:=CR h
 exact T.bind (E7 om om) fun c _=>j5 _ fun _=>om
theorem ACb(n:Ad):T (Hn n) fun x=>x.2=0→ -16777216≤n.re∧n.re≤16777216∧ -16777216≤n.im∧n.im≤16777216:=by
 unfold Hn
 have bad:T (KI n true) fun x=>x.2=0→ -16777216≤n.re∧n.re≤16777216∧ -16777216≤n.im∧n.im≤16777216:= .some fun h=>by cases h
 refine T.cond (fun _=>bad) fun h1=>T.cond (fun _=>bad) fun h2=>T.cond (fun _=>bad) fun h3=>?_
 have h1:=Dj h1;have h2:=Dj h2;have h3:=Dj h3
 cases h4:decide (n.im>16777216)
 ·have h4:=Dj h4
  exact .some fun _=>⟨om,om,om,om⟩
 ·exact bad
theorem T7: ∀(n N:Nat) (a:Int),n<N→0≤a→a<10^n*10→n≤40→a≤1000000000000→T (ref01_digits N a) fun s=>s.length≤n+1:=by
 intro n
 induction n with
 |zero=>
  intro N a hN h0 h1 _ _
  obtain ⟨N,rfl⟩: ∃m,N=m+1:=⟨N - 1,om⟩
  show T (DW _ N a) _
  unfold DW
  refine T.cond (fun h=>?_) fun _=>?_
  ·have:=CR h;omega
  refine T.bind (ZZ om) fun _ _=>T.cond (fun h=>?_) fun _=> .some (by simp)
  have:=CR h;omega
 |succ n ih=>
  intro N a hN h0 h1 h2 h3
  obtain ⟨N,rfl⟩: ∃m,N=m+1:=⟨N - 1,om⟩
  show T (DW _ N a) _
  unfold DW
  refine T.cond (fun h=>?_) fun _=>?_
  ·have:=CR h;omega
  refine T.bind (ZZ om) fun _ _=>T.cond (fun h=>?_) fun _=> .some (by simp)
  have h:=CR h
  have hd:a.tdiv 10=a / 10:=Int.tdiv_eq_ediv_of_nonneg h0
  refine T.bind (ZZ om) fun _ _=>?_
  rw [hd,wr (x:=a / 10) om om]
  have hlt:a / 10<10^n*10:=by
   rw [Int.pow_succ] at h1
   omega
  refine T.bind (ih N (a / 10) om om hlt om om) fun s hs=>T.bind (Mc (by simp;omega)) fun z hz=> .some ?_
  subst hz;simp;omega
theorem VB{N:Nat}{a:Int}(hN:40≤N)(h0: -1000000000000≤a)(h1:a≤1000000000000):T (ref01_digits N a) fun s=>s.length≤40:=by
 rcases Int.lt_or_le a 0 with h|h
 ·obtain ⟨N,rfl⟩: ∃m,N=m+1:=⟨N - 1,om⟩
  show T (DW _ N a) _
  unfold DW
  refine T.cond (fun _=>?_) fun h'=>?_
  ·rw [wr (x:=0 - a) om om]
   refine T.bind (T7 13 N (0 - a) om om om om om) fun s hs=>T.bind (Mc (by simp;omega)) fun z hz=> .some ?_
   subst hz;simp;omega
  ·have:=Dj h';omega
 ·exact (T7 13 N a om h om om om).mono fun s hs=>om
theorem X1{N:Nat}{n:Ad}(hN:40≤N)(h1: -16777216≤n.re)(h2:n.re≤16777216)(h3: -16777216≤n.im)(h4:n.im≤16777216):T (GG N n) fun s=>s.length≤100:=by
 have hr:=VB (N:=N) (a:=n.re) hN om om
 have hi:=VB (N:=N) (a:=n.im) hN om om
 unfold GG
 refine T.cond (fun _=>T.bind hr fun s hs=> .some om) fun _=>T.cond (fun _=>T.bind hi fun s hs=>T.bind (Mc (by simp;omega)) fun z hz=> .some (by subst hz;simp;omega)) fun _=>T.cond (fun _=>?_) fun _=>?_
 ·refine T.bind hr fun s hs=>T.bind (Mc (by simp;omega)) fun z hz=>T.bind hi fun s' hs'=>?_
  subst hz
  refine T.bind (Mc (by simp;omega)) fun z hz=>T.bind (Mc (by subst hz;simp;omega)) fun z' hz'=> .some ?_
  subst hz;subst hz';simp;omega
 ·refine T.bind hr fun s hs=>T.bind hi fun s' hs'=>T.bind (Mc om) fun z hz=>T.bind (Mc (by subst hz;simp;omega)) fun z' hz'=> .some ?_
  subst hz;subst hz';simp;omega
theorem RM{N:Nat}{t:List UInt8}(hl:t.length≤34359738368)(hN:t.length+40≤N):
  T (Ep N t) fun x=>x.2=0→ -16777216≤x.1.re∧x.1.re≤16777216∧ -16777216≤x.1.im∧x.1.im≤16777216:=by
 have j1: ∀(a b:Int),T (Fv N t a b) fun x=>x.2=0→ -16777216≤x.1.re∧x.1.re≤16777216∧ -16777216≤x.1.im∧x.1.im≤16777216:=by
  intro a b
  unfold Fv
  refine T.bind (ACb _) fun x hx=>T.cond (fun _=> .some fun h=>by cases h) fun h=>?_
  have h:=hx (KH h)
  refine T.bind (X1 om h.1 h.2.1 h.2.2.1 h.2.2.2) fun s _=>T.cond (fun _=> .some fun h=>by cases h) fun _=> .some fun _=>h
 unfold Ep
 refine T.bind (W9 hl om) fun x hx=>T.cond (fun _=> .some fun h=>by cases h) fun _=>?_
 refine T.bind (Nr hx.2.2.1 hx.2.2.2 om) fun s hs=>T.cond (fun _=>j1 _ _) fun _=>T.cond (fun h=>?_) fun _=>j1 _ _
 have hsl:s.length≤t.length:=by subst hs;simp
 have hs0:s≠[]:=by intro e;subst e;simp at h
 have hpos:0<s.length:=List.length_pos_iff.2 hs0
 have j3: ∀(u:List UInt8),u.length≤s.length→T (Hp N t x u) fun x=>x.2=0→ -16777216≤x.1.re∧x.1.re≤16777216∧ -16777216≤x.1.im∧x.1.im≤16777216:=
  fun u hu=>T.bind (W9 om om) fun y _=>j1 _ _
 refine T.bind (E7 om om) fun c _=>T.cond (fun _=>?_) fun _=>j3 _ om
 refine T.bind (Nr om om om) fun u hu=>j3 _ ?_
 subst hu;simp
theorem XA{N:Nat}{s:List UInt8}(hN:20≤N):T (Do N s) fun _=>True:=by
 obtain ⟨N,rfl⟩: ∃m,N=m+20:=⟨N - 20,om⟩
 unfold Do
 refine T.bind (P:=fun l=>l.length=19) (.some rfl) fun l hl=>?_
 have key: ∀(k:Nat) (i:Int),0≤i→(19:Int) - i<k→i≤19→T (Dn s l k i) fun _=>True:=by
  intro k
  induction k with
  |zero=>intro i _ _ _;omega
  |succ k ih=>
   intro i h1 h2 h3
   show T (D4 s l (Dn s l k) i) _
   unfold D4
   refine T.cond (fun h=>?_) fun _=> .some trivial
   have h:=CR h
   refine T.bind (E7 h1 h) fun c _=>T.cond (fun _=> .some trivial) fun _=>?_
   rw [wr om om]
   exact ih _ om om om
 exact key _ 0 om om om
theorem AAo{t:List UInt8}{p:Int}(hl:t.length≤34359738368)(h0:0≤p)(h1:p<t.length):T (It t p) fun n=>0≤n∧p+n≤t.length:=by
 have one: ∀b,T (D5 b) fun n=>0≤n∧p+n≤t.length:=fun b=>T.cond (fun _=> .some ⟨om,om⟩) fun _=> .some ⟨om,om⟩
 have j1f:T (Fw t p false) fun n=>0≤n∧p+n≤t.length:=by
  unfold Fw
  refine T.cond (fun h=>by cases h) fun _=>T.bind (E7 h0 h1) fun c _=>?_
  repeat (first|exact one _|refine T.cond (fun _=>?_) (fun _=>?_))
 have j1: ∀b,(b=true→p+1<t.length)→T (Fw t p b) fun n=>0≤n∧p+n≤t.length:=by
  intro b hb
  cases b
  ·exact j1f
  ·have:=hb rfl
   exact .some ⟨om,om⟩
 unfold It
 rw [wr om om]
 refine T.cond (fun h=>?_) fun _=>j1f
 have h:=CR h
 refine T.bind (E7 h0 h1) fun c _=>T.cond (fun _=>?_) fun _=>?_
 ·refine T.bind (E7 om h) fun d _=>T.cond (fun _=>j1 _ fun _=>h) fun _=>T.cond (fun _=>j1 _ fun _=>h) fun _=>j1f
 ·exact T.cond (fun _=>T.bind (E7 om h) fun d _=>j1 _ fun _=>h) fun _=>j1f
def Gm(m:Aj):Prop:=m.kind≠4∧(m.kind=2→Gn m.num)
theorem ACq{n:Ad}(h: -16777216≤n.re∧n.re≤16777216∧ -16777216≤n.im∧n.im≤16777216):T (GJ n) Gn:= .some ⟨n.re,n.im,⟨rfl,h.1,h.2.1⟩,⟨rfl,h.2.2.1,h.2.2.2⟩⟩
theorem AB2{N:Nat}{t:List UInt8}{p:Int}(hl:t.length≤34359738368)(hN:t.length+40≤N)(h0:0≤p)(h1:p<t.length):
  T (IA N t p) fun x=>x.2=true→Gm x.1∧0<x.1.text.length∧p+x.1.text.length≤t.length:=by
 unfold IA
 refine T.bind (AB0 h0 om hl om) fun n hn=>?_
 rw [wr (x:=p+n) om om]
 refine T.bind (Nr h0 om om) fun s hs=>?_
 have hsl:(s.length:Int)=n:=by subst hs;simp;omega
 have j2: ∀b,T (IW N t p n s b) fun x=>x.2=true→Gm x.1∧0<x.1.text.length∧p+x.1.text.length≤t.length:=by
  intro b
  unfold IW
  refine T.cond (fun _=> .some fun h=>by cases h) fun _=>T.cond (fun h=>?_) fun _=>?_
  ·have h:=CR h
   refine T.bind (XA om) fun b _=>T.cond (fun _=> .some fun _=>⟨⟨by simp,by simp⟩,by simp only;omega,by simp only;omega⟩) fun _=> .some fun _=>⟨⟨by simp,by simp⟩,by simp only;omega,by simp only;omega⟩
  ·refine T.bind (AAo hl h0 h1) fun k hk=>?_
   rw [wr (x:=p+k) om om]
   refine T.bind (Nr h0 om om) fun u hu=> .some fun h=>?_
   have h:=CR h
   have hul:(u.length:Int)=k:=by subst hu;simp;omega
   exact ⟨⟨by simp,by simp⟩,by simp only;omega,by simp only;omega⟩
 have j1: ∀b,(b=true→0<n)→T (IX N t p n s b) fun x=>x.2=true→Gm x.1∧0<x.1.text.length∧p+x.1.text.length≤t.length:=by
  intro b hb
  unfold IX
  refine T.cond (fun h=>?_) fun _=>T.cond (fun _=>T.bind (E7 h0 h1) fun c _=>j2 _) fun _=>j2 _
  have hp:=hb h
  refine T.bind (RM om om) fun x hx=>?_
  refine .some (a:=_) fun h=>?_
  have hz:=hx (CN h)
  exact ⟨⟨by simp,fun _=>⟨x.1.re,x.1.im,⟨rfl,hz.1,hz.2.1⟩,⟨rfl,hz.2.2.1,hz.2.2.2⟩⟩⟩,by simp only;omega,by simp only;omega⟩
 refine T.cond (fun h=>?_) fun _=>j1 _ fun h=>by cases h
 have h:=CR h
 exact T.bind (E7 h0 h1) fun c _=>T.bind (W8 c) fun b _=>j1 _ fun _=>h
def GM(ms:List Aj):Prop:=∃l e,ms=l++[e]∧e.kind=4∧∀m∈l,Gm m
theorem Zb{N:Nat}{t:List UInt8}(hl:t.length≤1000000000)(hN:t.length+50≤N):
  T (GK N t) fun x=>x.2<0→GM x.1∧x.1.length≤t.length+1:=by
 have key: ∀(k:Nat) (ms:List Aj) (p:Int),0≤p→p≤t.length→(t.length:Int) - p<k→(∀m∈ms,Gm m)→ms.length≤p→T (Dp N t k ms p) fun x=>x.2<0→GM x.1∧x.1.length≤t.length+1:=by
  intro k
  induction k with
  |zero=>intro ms p _ _ _ _ _;omega
  |succ k ih=>
   intro ms p h0 h1 h2 hm hml
   show T (FU N t (Dp N t k) ms p) _
   unfold FU
   refine T.cond (fun h=>?_) fun _=>?_
   ·have h:=CR h
    refine T.bind (E7 h0 h) fun c hc=>T.bind (Za c) fun b _=>T.cond (fun _=>?_) fun _=>T.cond (fun hsharp=>?_) fun _=>?_
    ·rw [wr om om]
     exact ih _ _ om om om hm om
    ·
     have inner: ∀(j:Nat) (q:Int),p≤q→q≤t.length→(t.length:Int) - q<j→(q=p∨p<q)→T (FD t ms (Dp N t k) j q) fun x=>x.2<0→GM x.1∧x.1.length≤t.length+1:=by
      intro j
      induction j with
      |zero=>intro q _ _ _ _;omega
      |succ j ihj=>
       intro q hq1 hq2 hq3 hq4
       show T (FT t ms (Dp N t k) (FD t ms (Dp N t k) j) q) _
       unfold FT
       refine T.cond (fun hq=>?_) fun hq=>?_
       ·have hq:=CR hq
        refine T.bind (E7 om hq) fun d hd=>?_
        unfold Hq
        refine T.cond (fun _=>?_) fun hnl=>?_
        ·rw [wr om om]
         exact ihj _ om om om om
        ·have hnl:=KH hnl
         have hsharp:=CN hsharp
         rcases hq4 with rfl|hq4
         ·rw [hd] at hc;cases hc
          rw [hsharp] at hnl
          exact absurd hnl (by decide)
         ·exact ih _ _ om om om hm om
       ·have hq:=Dj hq
        have hpq:p<q:=om
        exact ih _ _ om om om hm om
     exact inner N p om om om (.inl rfl)
    ·refine T.bind (AB2 om om h0 h) fun x hx=>T.cond (fun _=> .some fun h=>by simp only at h;omega) fun hb=>?_
     have hx:=hx (by simpa using hb)
     refine T.bind (GC om (by simp;omega)) fun _ _=>?_
     rw [wr om om]
     refine ih _ _ om om om (fun m hm'=>?_) (by simp;omega)
     rcases List.mem_append.1 hm' with h'|h'
     ·exact hm m h'
     ·simp at h';subst h';exact hx.1
   ·refine T.bind (GC om (by simp;omega)) fun _ _=> .some fun _=>⟨⟨ms,_,rfl,rfl,hm⟩,by simp;omega⟩
 exact key N [] 0 om om om (fun m h=>by cases h) (by simp)
end Fth
