/- Part 4 of the proof: what it says holds of the given program; no condition. -/
import Derived.Test.YtiodboehkcmdnaaGreatProg
import Derived.KernelRfl
import Derived.Test.YtiodboehkcmdnaaGreatTC
set_option linter.all false
set_option exponentiation.threshold 3000
namespace Fth
open Go Go.Proofs Sh
set_option maxRecDepth 100000
set_option maxHeartbeats 8000000
theorem Nu(a6:AC)(bl:Nat)(b8:AC.Good a6)(b9:Col)(dv:World)(av:∀b,b9 b<10):ref04_reader_unit.At True True b9 dv (Cr a6 bl) 1:=by
 intro p c ip bm a _ _ dw dx
 rw [Cr] at a
 obtain ⟨iq,rfl,cx⟩:=AS dx
 obtain ⟨cy,cz,rfl⟩:=AG cx
 refine A0 Tryz.func157 rfl Tryz.ntmps157 rfl fun B aw ax=>Sr<|Ef (Aa b9 20 DN rfl fun dy dz bn ay ah=>?_)
 refine AA<|Sr<|Vm<|have c0:=Bs dw ah;have a7:=Ss Ab cx ah;Bi a fun f d0 a=>Ca (Lp [Pt p 0] rfl) (CG dy dz d0 dcd dcd c0 (AN (x:=c) a7)) ?_
 rintro _ ir ⟨d1,it,rfl,m,d2⟩
 obtain rfl:=Cy d2
 refine ⟨_,rfl,?_⟩
 refine Ef (Aa d1 21 GR rfl fun bo iu d3 d4 n=>?_)
 refine Eu (St Gc d4 rfl rfl rfl rfl fun d5 az o=>?_)
 refine AA<|AZ<|Sr<|Vm<|Vx (Run.nilCheck rfl)<|Vx (Run.fieldAddr Ia rfl)<|have an:=Y3 c0 m n o;Vx (Run.load1 B5 rfl (Bk.cell an rfl))<|Vr (.bool (c.why != 0))<|AA<|Cn a (fun d6 a=>?_) fun d6 a=>?_
 refine Sr<|Vx (v:=.agg [I 0,Sb ([]:List UInt8),Sb ([]:List UInt8),I 0,Cx (((0,0):Nat×Nat)),.slice none 0 0,I 0].toArray) (Bp DN Mf rfl .nil)<|have d7:=Y3 ay m n o;Eu (St Dj d7 rfl rfl rfl rfl fun iv d8 ca=>?_)
 refine AA<|AT ?_
 obtain rfl:=AP a
 refine Ax (B:=B) aw (BG rfl (.agg BF rfl rfl (Bk.part d8 0 [I 0,Sb ([]:List UInt8),Sb ([]:List UInt8),I 0,Cx (((0,0):Nat×Nat)),.slice none 0 0,I 0] rfl)) ?_)
 refine have d9:=Bs an ca;have ea:=K4 Ab a7 m n o ca;⟨bo,[I 0,Sb ([]:List UInt8),Sb ([]:List UInt8),I 0,Cx (((0,0):Nat×Nat)),.slice none 0 0,I 0],[Sl cy c.marks cz,I c.at_,I c.why,I c.where_,I c.l.text,I c.l.funcs,I c.l.arity,I c.l.nest,I c.nest],rfl,Ho (T4 (Mo [20,21] ah) m n o ca) av,(Ae (x:=(AE.mk 0 ([]:List UInt8) ([]:List UInt8) 0 ((0,0):Nat×Nat) [] 0)) CT),d9,(AN (x:=c) ea)⟩
 refine WC.skip<|AZ<|Aj<|Sr<|Vx (Run.fieldAddr0 KJ rfl)<|Vx (Run.load1 Oj rfl (Bk.cell az rfl))<|Vr (.bool (f.kind==2))<|Va (.bool (f.kind==2))<|AA<|Cn a (fun eb a=>?_) fun eb a=>?_
 refine Sr<|Vm<|Vx (Run.nilCheck rfl)<|Vx (Run.fieldAddr F5 rfl)<|Vx (Run.load1 B5 rfl (Bk.cell an rfl))<|Vr (I (Wr (c.at_+1)))<|Vx (Run.nilCheck rfl)<|Vx (Run.fieldAddr F5 rfl)<|Eu (St MB an rfl rfl rfl rfl fun iw ec bp=>?_)
 refine AA<|Sr<|Vx (Run.fieldAddr Tf rfl)<|have c1:=Bs az bp;Vx (Run.load1 Jo rfl (Bk.cell c1 rfl))<|Vx (Run.fieldAddr Kn rfl)<|Vx (Run.load1 B5 rfl (Bk.cell c1 rfl))<|Vx (v:=.agg [I 1,Sb ([]:List UInt8),Sb ([]:List UInt8),I 0,Cx f.num,.slice none 0 0,I f.at_].toArray) (Bp DN Mf rfl (.cons rfl rfl rfl (.cons rfl rfl rfl (.cons rfl rfl rfl .nil))))<|have ed:=Y4 ay m n o bp;Eu (St Dj ed rfl rfl rfl rfl fun ix ee cb=>?_)
 refine AA<|AT ?_
 obtain rfl:=AP a
 refine Ax (B:=B) aw (BG rfl (.agg BF rfl rfl (Bk.part ee 0 [I 1,Sb ([]:List UInt8),Sb ([]:List UInt8),I 0,Cx f.num,.slice none 0 0,I f.at_] rfl)) ?_)
 refine have ef:=Bs ec cb;have eg:=Ss Ab (K4 Ab a7 m n o bp) cb;⟨bo,[I 1,Sb ([]:List UInt8),Sb ([]:List UInt8),I 0,Cx f.num,.slice none 0 0,I f.at_],[Sl cy c.marks cz,I (Wr (c.at_+1)),I c.why,I c.where_,I c.l.text,I c.l.funcs,I c.l.arity,I c.l.nest,I c.nest],rfl,Ho (Tn (T4 (Mo [1,20,21] ah) m n o bp) cb) av,(Ae (x:=(AE.mk 1 ([]:List UInt8) ([]:List UInt8) 0 f.num [] f.at_)) CT),ef,(AN (x:=(AB.mk c.marks (Wr (c.at_+1)) c.why c.where_ (Af.mk c.l.text c.l.funcs c.l.arity c.l.nest) c.nest)) eg)⟩
 refine Sr<|Vx (Run.fieldAddr0 KJ rfl)<|Vx (Run.load1 Oj rfl (Bk.cell az rfl))<|Vr (.bool (f.kind==0))<|Va (.bool (f.kind==0))<|AA<|Cn a (fun eh a=>?_) fun eh a=>?_
 refine Sr<|Vm<|Vx (Run.nilCheck rfl)<|Vx (Run.fieldAddr F5 rfl)<|Vx (Run.load1 B5 rfl (Bk.cell an rfl))<|Vr (I (Wr (c.at_+1)))<|Vx (Run.nilCheck rfl)<|Vx (Run.fieldAddr F5 rfl)<|Eu (St MB an rfl rfl rfl rfl fun ei ej bq=>?_)
 refine AA<|Sr<|Vm<|have ek:=Bs az bq;Vx (Run.loadN Hs rfl rfl (Bk.part ek 0 [I f.kind,Sb f.text,Cx f.num,I f.at_] rfl))<|have el:=K4 Ab a7 m n o bq;Bi a fun h em a=>Ca (ZS [Pt p 0,.agg [I f.kind,Sb f.text,Cx f.num,I f.at_].toArray] rfl) (b8.ref04_reader_named bo ei em dcd dcd ej (AN (x:=(AB.mk c.marks (Wr (c.at_+1)) c.why c.where_ (Af.mk c.l.text c.l.funcs c.l.arity c.l.nest) c.nest)) el) (FR (x:=f))) ?_
 rintro _ iy ⟨en,iz,i0,rfl,c2,eo,ep,eq⟩
 obtain ⟨i1,rfl,c3⟩:=Am eo
 obtain ⟨c4,c5,rfl⟩:=AG c3
 obtain ⟨i2,rfl,c6⟩:=AS eq
 obtain ⟨er,es,rfl⟩:=AG c6
 refine ⟨_,rfl,?_⟩
 refine have et:=Bs (Y4 ay m n o bq) c2;Eu (St Dj et rfl rfl rfl rfl fun i3 eu br=>?_)
 refine AA<|AT ?_
 obtain rfl:=AP a
 refine Ax (B:=B) aw (BG rfl (.agg BF rfl rfl (Bk.part eu 0 [I h.1.op,Sb h.1.name,Sb h.1.tail,I h.1.type_,Cx h.1.num,Sl c4 h.1.args c5,I h.1.at_] rfl)) ?_)
 refine have ew:=Ss AJ c3 br;have ex:=Bs ep br;have ey:=Ss Ab c6 br;⟨en,[I h.1.op,Sb h.1.name,Sb h.1.tail,I h.1.type_,Cx h.1.num,Sl c4 h.1.args c5,I h.1.at_],[Sl er h.2.marks es,I h.2.at_,I h.2.why,I h.2.where_,I h.2.l.text,I h.2.l.funcs,I h.2.l.arity,I h.2.l.nest,I h.2.nest],rfl,Ho (T2 (T4 (Mo [1,20,21] ah) m n o bq) c2 br) av,(Ae (x:=h.1) ew),ex,(AN (x:=h.2) ey)⟩
 refine Sr<|Vm<|have ez:=K3 Ab a7 m n o;Bi a fun d e0 a=>Ca (NG [Pt p 0,Sb ([40]:List UInt8)] rfl) (Et bo d5 e0 dcd dcd an (AN (x:=c) ez)) ?_
 rintro _ cc ⟨bt,i4,rfl,ai,cd,e1⟩
 obtain ⟨i5,rfl,a0⟩:=AS e1
 obtain ⟨e2,e3,rfl⟩:=AG a0
 refine ⟨_,rfl,?_⟩
 refine Va (.bool d.1)<|AA<|Cn a (fun e4 a=>?_) fun e4 a=>?_
 refine Sr<|Vm<|Bi a fun l e5 a=>Ca (MV [Pt p 0] rfl) (b8.ref04_reader_expr bt cc e5 dcd dcd cd (AN (x:=d.2) a0)) ?_
 rintro _ i6 ⟨e6,i7,i8,rfl,c7,e7,e8,e9⟩
 obtain ⟨i9,rfl,c8⟩:=Am e7
 obtain ⟨cf,cg,rfl⟩:=AG c8
 obtain ⟨ja,rfl,c9⟩:=AS e9
 obtain ⟨jb,jc,rfl⟩:=AG c9
 refine ⟨_,rfl,?_⟩
 refine Ef (Aa e6 22 DN rfl fun fa jd je fb a8=>?_)
 refine have fc:=Ss AJ c8 a8;Eu (St Dj fb rfl rfl rfl rfl fun fd fe a9=>?_)
 refine AA<|Sr<|Vm<|have ff:=Y2 e8 a8 a9;have fg:=K2 Ab c9 a8 a9;Bi a fun ab fh a=>Ca (IQ [Pt p 0,Sb ([41]:List UInt8)] rfl) (BO fa fd fh dcd dcd ff (AN (x:=l.2) fg)) ?_
 rintro _ jf ⟨fi,jg,rfl,bu,fj,fk⟩
 obtain ⟨jh,rfl,da⟩:=AS fk
 obtain ⟨fl,fm,rfl⟩:=AG da
 refine ⟨_,rfl,?_⟩
 refine AA<|Sr<|have fn:=Bs fe bu;Vx (Run.loadN BF rfl rfl (Bk.part fn 0 [I l.1.op,Sb l.1.name,Sb l.1.tail,I l.1.type_,Cx l.1.num,Sl cf l.1.args cg,I l.1.at_] rfl))<|have fo:=Y4 (Y4 ay m n o ai) c7 a8 a9 bu;have fp:=K2 AJ fc a9 bu;Eu (St Dj fo rfl rfl rfl rfl fun ji fq bv=>?_)
 refine AA<|AT ?_
 obtain rfl:=AP a
 refine Ax (B:=B) aw (BG rfl (.agg BF rfl rfl (Bk.part fq 0 [I l.1.op,Sb l.1.name,Sb l.1.tail,I l.1.type_,Cx l.1.num,Sl cf l.1.args cg,I l.1.at_] rfl)) ?_)
 refine have fr:=Ss AJ fp bv;have fs:=Bs fj bv;have ft:=Ss Ab da bv;⟨fi,[I l.1.op,Sb l.1.name,Sb l.1.tail,I l.1.type_,Cx l.1.num,Sl cf l.1.args cg,I l.1.at_],[Sl fl ab.marks fm,I ab.at_,I ab.why,I ab.where_,I ab.l.text,I ab.l.funcs,I ab.l.arity,I ab.l.nest,I ab.nest],rfl,Ho (Tn (T4 (T4 (Mo [1,20,21,22] ah) m n o ai) c7 a8 a9 bu) bv) av,(Ae (x:=l.1) fr),fs,(AN (x:=ab) ft)⟩
 refine Ao (fun ao ch=>∃(w:Env) (ap:Col) (ci:Bool),ao=w.puts [(0,.pointer (some ⟨p,0,none⟩)),(2,.pointer (some ⟨bn,0,none⟩)),(3,.pointer (some ⟨d3,0,none⟩)),(53,.bool ci)]∧C9 a6 bl f d ci=some bm∧AQ [] bt cc ap ch) ?_ ?_
 refine AO<|Vx (Run.fieldAddr0 KJ rfl)<|have db:=Bs az ai;Vx (Run.load1 Oj rfl (Bk.cell db rfl))<|Vr (.bool (f.kind != 1))<|Vm<|Bo a (fun y a=>?_) fun y a=>?_
 refine Pg y<|Pg y<|Pg y<|Pg y<|Vp y<|Va (.bool true)<|AA<|⟨_,bt,true,Pu,a,(AQ.refl [] _ _)⟩
 refine Gx y (Run.fieldAddr FH rfl)<|Gx y (Run.load1 CS rfl (Bk.cell db rfl))<|Bi a fun cj fu a=>CI (.guard (t:=false) (b:=false) rfl rfl rfl rfl (Cb y)) rfl rfl (UB [Sb f.text] rfl)<|Calls.mono (Mi bt cc fu) ?_
 rintro _ jj ⟨fv,rfl,fw⟩
 refine ⟨_,rfl,?_⟩
 refine Gr y (.bool (cj==0))<|Vp y<|Va (.bool (cj==0))<|AA<|⟨_,fv,(cj==0),Pu,a,(Mo [] fw)⟩
 rintro _ ch ⟨w,ap,ci,rfl,a,z⟩
 rw [C9] at a
 refine Cn a (fun fx a=>?_) fun fx a=>?_
 refine Sr<|Vm<|have fy:=Bs cd z;have fz:=Ss Ab a0 z;Bi a fun ac f0 a=>Ca (NE [Pt p 0,I 21] rfl) (Er ap ch f0 dcd dcd fy (AN (x:=d.2) fz)) ?_
 rintro _ jk ⟨f1,jl,rfl,dc,f2,f3⟩
 obtain ⟨jm,rfl,de⟩:=AS f3
 obtain ⟨f4,f5,rfl⟩:=AG de
 refine ⟨_,rfl,?_⟩
 refine AA<|Sr<|Vx (v:=.agg [I 0,Sb ([]:List UInt8),Sb ([]:List UInt8),I 0,Cx (((0,0):Nat×Nat)),.slice none 0 0,I 0].toArray) (Bp DN Mf rfl .nil)<|have f6:=Y2 (Y4 ay m n o ai) z dc;Eu (St Dj f6 rfl rfl rfl rfl fun jn f7 ck=>?_)
 refine AA<|AT ?_
 obtain rfl:=AP a
 refine Ax (B:=B) aw (BG rfl (.agg BF rfl rfl (Bk.part f7 0 [I 0,Sb ([]:List UInt8),Sb ([]:List UInt8),I 0,Cx (((0,0):Nat×Nat)),.slice none 0 0,I 0] rfl)) ?_)
 refine have f8:=Bs f2 ck;have f9:=Ss Ab de ck;⟨f1,[I 0,Sb ([]:List UInt8),Sb ([]:List UInt8),I 0,Cx (((0,0):Nat×Nat)),.slice none 0 0,I 0],[Sl f4 ac.marks f5,I ac.at_,I ac.why,I ac.where_,I ac.l.text,I ac.l.funcs,I ac.l.arity,I ac.l.nest,I ac.nest],rfl,Ho (T3 (T4 (Mo [1,20,21] ah) m n o ai) z dc ck) av,(Ae (x:=(AE.mk 0 ([]:List UInt8) ([]:List UInt8) 0 ((0,0):Nat×Nat) [] 0)) CT),f8,(AN (x:=ac) f9)⟩
 refine WC.skip<|Sr<|Vm<|Vx (Run.nilCheck rfl)<|Vx (Run.fieldAddr F5 rfl)<|have df:=Bs cd z;Vx (Run.load1 B5 rfl (Bk.cell df rfl))<|Vr (I (Wr (d.2.at_+1)))<|Vx (Run.nilCheck rfl)<|Vx (Run.fieldAddr F5 rfl)<|Eu (St MB df rfl rfl rfl rfl fun ga cl a1=>?_)
 refine AA<|Ao (fun ao a2=>∃(w:Env) (ad:Col) (a3:Nat) (g:Int) (q:Bts) (r:Bts) (aq:Int) (s:(Nat×Nat)) (u:Int),ao=w.puts [(0,.pointer (some ⟨p,0,none⟩)),(2,.pointer (some ⟨bn,0,none⟩)),(5,.pointer (some ⟨a3,0,none⟩))]∧Ee a6 bl d g q r aq s u=some bm∧AQ [23] ap ga ad a2∧Bk ad a2 23 a3 [I g,Sb q,Sb r,I aq,Cx s,.slice none 0 0,I u] 56) ?_ ?_
 refine CJ FL (.q 0 (.q 1 (.q 3 (.q 4 (.two 2 6 (.q 5 (.one 6 (.one 7 .nil))) (.one 2 (.q 5 (.one 7 .nil)))))))) [7] [] ap (by kernel_rfl) fun gb cm=>Qx ax rfl (fun _ ⟨_,ar⟩=>Run.fieldAddr FH rfl)<|have dg:=Y4 az ai z a1 cm;Qx ax rfl (fun _ ⟨_,ar⟩=>Run.load1 CS rfl (Bk.cell (Bs dg ar) rfl))<|Qx ax rfl (fun _ ⟨_,ar⟩=>Run.fieldAddr Kn rfl)<|Qx ax rfl (fun _ ⟨_,ar⟩=>Run.load1 B5 rfl (Bk.cell (Bs dg ar) rfl))<|N4 rfl rfl ?_ ?_
 refine Bi a fun cn gc a=>BR rfl (.none rfl) rfl rfl (UB [Sb f.text] rfl)<|Calls.mono (Mi ap gb gc) ?_
 rintro _ jo ⟨gd,rfl,co⟩
 refine ⟨_,rfl,⟨_,(Mo [] co)⟩,?_⟩
 refine Qx ax rfl (v:=.agg [I cn,Sb ([]:List UInt8),Sb ([]:List UInt8),I 0,Cx (((0,0):Nat×Nat)),.slice none 0 0,I f.at_].toArray) (fun _ ⟨_,ar⟩=>Fm (cs:=[I cn,Sb ([]:List UInt8),Sb ([]:List UInt8),I 0,Cx (((0,0):Nat×Nat)),.slice none 0 0,I f.at_]) [I 0,Sb ([]:List UInt8),Sb ([]:List UInt8),I 0,Cx (((0,0):Nat×Nat)),.slice none 0 0,I 0] DN Mf rfl (.cons rfl rfl rfl (.cons rfl rfl rfl .nil)) rfl rfl)<|BX rfl<|Cl rfl (.none rfl) rfl rfl (Aa gd 23 DN rfl fun ge jp gf gg dh=>?_)
 refine ⟨⟨_,(Tn (Mo [] co) dh)⟩,?_⟩
 refine FP dcd<|WY.one<|Be rfl (.none rfl) rfl (St Dj gg rfl rfl rfl rfl fun jq gh gi=>?_)
 refine WY.nil<|⟨_,ge,gf,cn,([]:List UInt8),([]:List UInt8),0,((0,0):Nat×Nat),f.at_,Pu,a,(T3 (Mo [23] cm) co dh gi),gh⟩
 refine Cl rfl (.none rfl) rfl rfl (Aa ap 23 DN rfl fun gj gk gl gm cq=>?_)
 refine ⟨⟨_,(Mo [] cq)⟩,?_⟩
 refine BX rfl<|Bi a fun cr gn a=>BR rfl (.none rfl) rfl rfl (UB [Sb f.text] rfl)<|Calls.mono (Mi gj gk gn) ?_
 rintro _ jr ⟨go,rfl,ct⟩
 refine ⟨_,rfl,⟨_,(Tn (Mo [] cq) ct)⟩,?_⟩
 refine Qx ax rfl (v:=.agg [I cr,Sb ([]:List UInt8),Sb ([]:List UInt8),I 0,Cx (((0,0):Nat×Nat)),.slice none 0 0,I f.at_].toArray) (fun _ ⟨_,ar⟩=>Fm (cs:=[I cr,Sb ([]:List UInt8),Sb ([]:List UInt8),I 0,Cx (((0,0):Nat×Nat)),.slice none 0 0,I f.at_]) [I 0,Sb ([]:List UInt8),Sb ([]:List UInt8),I 0,Cx (((0,0):Nat×Nat)),.slice none 0 0,I 0] DN Mf rfl (.cons rfl rfl rfl (.cons rfl rfl rfl .nil)) rfl rfl)<|FP dcd<|WY.one<|have gp:=Bs gm ct;Be rfl (.none rfl) rfl (St Dj gp rfl rfl rfl rfl fun js gq gr=>?_)
 refine WY.nil<|⟨_,go,gl,cr,([]:List UInt8),([]:List UInt8),0,((0,0):Nat×Nat),f.at_,Pu,a,(T3 (Mo [23] cm) cq ct gr),gq⟩
 rintro _ a2 ⟨w,ad,a3,g,q,r,aq,s,u,rfl,a,aj,bw⟩
 rw [Ee] at a
 refine Ao (fun ao a4=>∃(w:Env) (a5:Col) (au:(List Ac)) (bx:Option Addr) (bz:Nat) (ba:Int) (bb:Int) (bc:Int) (bd:Int) (be:Int) (bf:Int) (bg:Int) (bh:Int) (af:Int) (aa:(List AE)) (ak:Option Addr) (al:Nat),ao=w.puts [(2,.pointer (some ⟨bn,0,none⟩)),(5,.pointer (some ⟨a3,0,none⟩))]∧Ft g q r s u au ba bb bc bd be bf bg bh af aa=some bm∧AQ [1,23,24] ad a2 a5 a4∧Slc Ab a5.F a4 (Sl bx au bz) au∧Own AJ 56 a5 a4 25 (Sl ak aa al) aa∧Bk a5 a4 1 p [Sl bx au bz,I ba,I bb,I bc,I bd,I be,I bf,I bg,I bh] 126∧Bk a5 a4 23 a3 [I g,Sb q,Sb r,I af,Cx s,Sl ak aa al,I u] 56) ?_ ?_
 refine Sr<|Vx (Run.fieldAddr0 DR rfl)<|Vx (Run.load1 HS rfl (Bk.cell bw rfl))<|AA<|Aj<|Sr<|Vr (.bool (g==5))<|Va (.bool (g==5))<|AA<|Cn a (fun gs a=>?_) fun gs a=>?_
 refine AO<|Vm<|have gt:=Bs cl aj;have gu:=K3 Ab a0 z a1 aj;Bi a fun ae gv a=>Ca (RJ [Pt p 0] rfl) (Iy bl ad a2 gv dcd dcd gt (AN (x:=(AB.mk d.2.marks (Wr (d.2.at_+1)) d.2.why d.2.where_ (Af.mk d.2.l.text d.2.l.funcs d.2.l.arity d.2.l.nest) d.2.nest)) gu)) ?_
 rintro _ jt ⟨gw,ju,rfl,di,gx,gy⟩
 obtain ⟨jv,rfl,dj⟩:=AS gy
 obtain ⟨gz,g0,rfl⟩:=AG dj
 refine ⟨_,rfl,?_⟩
 refine Vx (Run.fieldAddr KY rfl)<|have g1:=Bs bw di;Eu (St Vw g1 rfl rfl rfl rfl fun jw g2 cu=>?_)
 refine AA<|have g3:=Ss Ab dj cu;have g4:=Bs gx cu;⟨_,gw,ae.2.marks,gz,g0,ae.2.at_,ae.2.why,ae.2.where_,ae.2.l.text,ae.2.l.funcs,ae.2.l.arity,ae.2.l.nest,ae.2.nest,ae.1,([]:List AE),none,0,Pu,a,(Tn (Mo [1,23,24] di) cu),g3,Own.nil,g4,g2⟩
 refine Ao (fun ao cv=>∃(w:Env) (b0:Col) (cw:Bool),ao=w.puts [(0,.pointer (some ⟨p,0,none⟩)),(2,.pointer (some ⟨bn,0,none⟩)),(5,.pointer (some ⟨a3,0,none⟩)),(86,.bool cw)]∧CF a6 d g q r aq s u cw=some bm∧AQ [] ad a2 b0 cv) ?_ ?_
 refine Sr<|Vr (.bool (g==14))<|Va (.bool (g==14))<|AA<|Cn a (fun g5 a=>?_) fun g5 a=>?_
 refine WC.skip<|⟨_,ad,(g==14),Pu,a,(AQ.refl [] _ _)⟩
 refine Sr<|Vr (.bool (g==15))<|Va (.bool (g==15))<|AA<|Cn a (fun g6 a=>?_) fun g6 a=>?_
 refine WC.skip<|⟨_,ad,(g==15),Pu,a,(AQ.refl [] _ _)⟩
 refine Sr<|Vr (.bool (g==16))<|Va (.bool (g==16))<|AA<|Cn a (fun g7 a=>?_) fun g7 a=>?_
 refine WC.skip<|⟨_,ad,(g==16),Pu,a,(AQ.refl [] _ _)⟩
 refine AO<|Vr (.bool (g==17))<|Va (.bool (g==17))<|AA<|⟨_,ad,(g==17),Pu,a,(AQ.refl [] _ _)⟩
 rintro _ cv ⟨w,b0,cw,rfl,a,am⟩
 rw [CF] at a
 refine Cn a (fun g8 a=>?_) fun g8 a=>?_
 refine Sr<|Vm<|have g9:=Y2 cl aj am;have ha:=K4 Ab a0 z a1 aj am;Bi a fun hb hc a=>Ca (IQ [Pt p 0,Sb ([40]:List UInt8)] rfl) (BO b0 cv hc dcd dcd g9 (AN (x:=(AB.mk d.2.marks (Wr (d.2.at_+1)) d.2.why d.2.where_ (Af.mk d.2.l.text d.2.l.funcs d.2.l.arity d.2.l.nest) d.2.nest)) ha)) ?_
 rintro _ hd ⟨he,jx,rfl,dk,hf,hg⟩
 obtain ⟨jy,rfl,dl⟩:=AS hg
 obtain ⟨jz,j0,rfl⟩:=AG dl
 refine ⟨_,rfl,?_⟩
 refine AA<|Sr<|Vm<|Bi a fun e hh a=>Ca (MV [Pt p 0] rfl) (b8.ref04_reader_expr he hd hh dcd dcd hf (AN (x:=hb) dl)) ?_
 rintro _ j1 ⟨hi,j2,j3,rfl,dm,hj,hk,hl⟩
 obtain ⟨j4,rfl,dn⟩:=Am hj
 obtain ⟨b1,b2,rfl⟩:=AG dn
 obtain ⟨j5,rfl,dp⟩:=AS hl
 obtain ⟨j6,j7,rfl⟩:=AG dp
 refine ⟨_,rfl,?_⟩
 refine Ef (Aa hi 24 DN rfl fun hm j8 j9 hn bi=>?_)
 refine have ho:=Ss AJ dn bi;Eu (St Dj hn rfl rfl rfl rfl fun hp hq bj=>?_)
 refine AA<|Sr<|Vm<|have hr:=Y2 hk bi bj;have hs:=K2 Ab dp bi bj;Bi a fun ag ht a=>Ca (IQ [Pt p 0,Sb ([41]:List UInt8)] rfl) (BO hm hp ht dcd dcd hr (AN (x:=e.2) hs)) ?_
 rintro _ ka ⟨hu,kb,rfl,b3,hw,hx⟩
 obtain ⟨kc,rfl,dq⟩:=AS hx
 obtain ⟨hy,hz,rfl⟩:=AG dq
 refine ⟨_,rfl,?_⟩
 refine AA<|AO<|have h0:=Bs hq b3;Vx (Run.loadN BF rfl rfl (Bk.part h0 0 [I e.1.op,Sb e.1.name,Sb e.1.tail,I e.1.type_,Cx e.1.num,Sl b1 e.1.args b2,I e.1.at_] rfl))<|Ef (DC (cs:=[I e.1.op,Sb e.1.name,Sb e.1.tail,I e.1.type_,Cx e.1.num,Sl b1 e.1.args b2,I e.1.at_]) hu 25 [[I e.1.op,Sb e.1.name,Sb e.1.tail,I e.1.type_,Cx e.1.num,Sl b1 e.1.args b2,I e.1.at_]] DT DN rfl rfl (.cons rfl rfl rfl .nil) rfl fun dr h1 b4 h2 bk=>?_)
 refine have h3:=K3 AJ ho bj b3 bk;have ds:Own AJ 56 dr h1 25 (.slice (some ⟨b4,0,none⟩) 1 1) ([e.1]:List AE):=Own.lit (css:=[[I e.1.op,Sb e.1.name,Sb e.1.tail,I e.1.type_,Cx e.1.num,Sl b1 e.1.args b2,I e.1.at_]]) h2 rfl rfl rfl (AW (Ae (x:=e.1) h3) BE) (A2 rfl ED) rfl;Vx (Run.fieldAddr Bq rfl)<|have h4:=Y3 (Y4 bw am dk dm bi) bj b3 bk;Eu (Br (vs:=[Sl (some ⟨b4,0,none⟩) (([e.1]:List AE)) 1]) (cs':=[I g,Sb q,Sb r,I aq,Cx s,Sl (some ⟨b4,0,none⟩) (([e.1]:List AE)) 1,I u]) Rq rfl rfl rfl rfl (AX (Own.one ds) CQ) h4 dcd rfl rfl fun kd h5 b5=>?_)
 refine AA<|have h6:=K2 Ab dq bk b5;have h7:=Os ds b5;have h8:=Y2 hw bk b5;⟨_,dr,ag.marks,hy,hz,ag.at_,ag.why,ag.where_,ag.l.text,ag.l.funcs,ag.l.arity,ag.l.nest,ag.nest,aq,([e.1]:List AE),(some ⟨b4,0,none⟩),1,Pu,a,(T3 (T4 (Mo [1,23,24] am) dk dm bi bj) b3 bk b5),h6,h7,h8,h5⟩
 refine WC.skip<|have h9:=K4 Ab a0 z a1 aj am;have ia:=Y2 cl aj am;have ib:=Bs bw am;⟨_,b0,d.2.marks,e2,e3,(Wr (d.2.at_+1)),d.2.why,d.2.where_,d.2.l.text,d.2.l.funcs,d.2.l.arity,d.2.l.nest,d.2.nest,aq,([]:List AE),none,0,Pu,a,(Mo [1,23,24] am),h9,Own.nil,ia,ib⟩
 rintro _ a4 ⟨w,a5,au,bx,bz,ba,bb,bc,bd,be,bf,bg,bh,af,aa,ak,al,rfl,a,dt,ic,du,id,ie⟩
 rw [Ft] at a
 refine Sr<|Vx (Run.loadN BF rfl rfl (Bk.part ie 0 [I g,Sb q,Sb r,I af,Cx s,Sl ak aa al,I u] rfl))<|have ig:=Y4 (Y4 ay m n o ai) z a1 aj dt;Eu (Br (vs:=[I g,Sb q,Sb r,I af,Cx s,Sl ak aa al,I u]) (cs':=[I g,Sb q,Sb r,I af,Cx s,Sl ak aa al,I u]) Dj rfl rfl rfl rfl (AX rfl (AX rfl (AX rfl (AX rfl (AX rfl (AX (Own.one du) (AX rfl CQ))))))) ig dcd rfl rfl fun ke ih b6=>?_)
 refine AA<|AT<|have ii:=Os du b6; ?_
 obtain ⟨ij,b7,ik⟩:=Own.freeze (S:=[25]) ii dcd dcd
 obtain rfl:=AP a
 refine have il:=Bs ih b7;Ax (B:=B) aw (BG rfl (.agg BF rfl rfl (Bk.part il 0 [I g,Sb q,Sb r,I af,Cx s,Sl ak aa al,I u] rfl)) ?_)
 refine have im:=Y2 id b6 b7;have io:=K2 Ab ic b6 b7;⟨ij,[I g,Sb q,Sb r,I af,Cx s,Sl ak aa al,I u],[Sl bx au bz,I ba,I bb,I bc,I bd,I be,I bf,I bg,I bh],rfl,Ho (T2 (T4 (T4 (Mo [1,20,21,23,24,25] ah) m n o ai) z a1 aj dt) b6 b7) av,(Ae (x:=(AE.mk g q r af s aa u)) ik),im,(AN (x:=(AB.mk au ba bb bc (Af.mk bd be bf bg) bh)) io)⟩
theorem Nv(c:AC)(e:Nat)(h:AC.Good c):ref04_reader_unit.Spec (Cr c e):=by
 intro d f a y z aa ab l hnd hnz g m
 refine Calls.mono (Nu c e h (recol (see [a]) d) f (Az lbr d) l trivial trivial (A6 g [a] (BD hnd hnz (i:=0) rfl)) (Au An m [a])) ?_
 rintro ac ad ⟨n,o,p,q,r,s,u,w⟩
 exact ⟨glue [a] f d n,o,p,q,Ad r (DS rfl rfl),BB AJ s,CK g u dcd,BB An w⟩
theorem NL(ac:AC)(b0:Nat)(co:AC.Good ac)(bj:Col)(cq:World)(b1:∀b,bj b<10):ref04_reader_named.At True True bj cq (CZ ac b0) 1:=by
 intro l cr e5 d e6 aw a _ _ ct cu cv
 rw [CZ] at a
 obtain ⟨e7,rfl,b2⟩:=AS cu
 obtain ⟨e8,e9,rfl⟩:=AG b2
 obtain rfl:=Cy cv
 refine A0 Tryz.func162 rfl Tryz.ntmps162 rfl fun B b3 fa=>Sr<|Ef (Bf bj 20 rfl rfl fun cw fb fc b4 ax=>?_)
 refine Ef (Aa cw 21 DN rfl fun cx cy bk b5 ai=>?_)
 refine AA<|AZ<|Sr<|Vm<|have cz:=Y2 ct ax ai;have c0:=K2 Ab b2 ax ai;Bi a fun e c1 a=>Ca (NG [Pt l 0,Sb ([40]:List UInt8)] rfl) (Et cx cy c1 dcd dcd cz (AN (x:=cr) c0)) ?_
 rintro _ fd ⟨b6,fe,rfl,aj,b7,c2⟩
 obtain ⟨ff,rfl,bl⟩:=AS c2
 obtain ⟨b8,b9,rfl⟩:=AG bl
 refine ⟨_,rfl,?_⟩
 refine Vr (.bool (!e.1))<|AA<|Cn a (fun c3 a=>?_) fun c3 a=>?_
 refine Sr<|Vx (Run.fieldAddr FH rfl)<|have ca:=Y2 b4 ai aj;Vx (Run.load1 CS rfl (Bk.cell ca rfl))<|Vx (Run.fieldAddr Kn rfl)<|Vx (Run.load1 B5 rfl (Bk.cell ca rfl))<|Vx (v:=.agg [I 6,Sb d.text,Sb ([]:List UInt8),I 0,Cx (((0,0):Nat×Nat)),.slice none 0 0,I d.at_].toArray) (Bp DN Mf rfl (.cons rfl rfl rfl (.cons rfl rfl rfl (.cons rfl rfl rfl .nil))))<|have c4:=Bs b5 aj;Eu (St Dj c4 rfl rfl rfl rfl fun fg c5 bm=>?_)
 refine AA<|AT ?_
 obtain rfl:=AP a
 refine Ax (B:=B) b3 (BG rfl (.agg BF rfl rfl (Bk.part c5 0 [I 6,Sb d.text,Sb ([]:List UInt8),I 0,Cx (((0,0):Nat×Nat)),.slice none 0 0,I d.at_] rfl)) ?_)
 refine have c6:=Bs b7 bm;have c7:=Ss Ab bl bm;⟨b6,[I 6,Sb d.text,Sb ([]:List UInt8),I 0,Cx (((0,0):Nat×Nat)),.slice none 0 0,I d.at_],[Sl b8 e.2.marks b9,I e.2.at_,I e.2.why,I e.2.where_,I e.2.l.text,I e.2.l.funcs,I e.2.l.arity,I e.2.l.nest,I e.2.nest],rfl,Ho (T3 (Mo [1,21] ax) ai aj bm) b1,(Ae (x:=(AE.mk 6 d.text ([]:List UInt8) 0 ((0,0):Nat×Nat) [] d.at_)) CT),c6,(AN (x:=e.2) c7)⟩
 refine WC.skip<|Sr<|Vx (Run.fieldAddr FH rfl)<|have cb:=Y2 b4 ai aj;Vx (Run.load1 CS rfl (Bk.cell cb rfl))<|Vx (Run.fieldAddr Kn rfl)<|Vx (Run.load1 B5 rfl (Bk.cell cb rfl))<|Vx (v:=.agg [I 7,Sb d.text,Sb ([]:List UInt8),I 0,Cx (((0,0):Nat×Nat)),.slice none 0 0,I d.at_].toArray) (Bp DN Mf rfl (.cons rfl rfl rfl (.cons rfl rfl rfl (.cons rfl rfl rfl .nil))))<|Ef (Aa b6 22 DN rfl fun cc fh ay c8 az=>?_)
 refine Eu (St Dj c8 rfl rfl rfl rfl fun c9 da a0=>?_)
 refine AA<|AZ<|Aj<|Bt (fun ad ap ae=>∃(af:Env) (o:Col) (h:(List Ac)) (a1:Option Addr) (a2:Nat) (p:Int) (m:Int) (q:Int) (r:Int) (u:Int) (w:Int) (y:Int) (z:Int) (f:(List AE)) (ag:Option Addr) (ah:Nat),ap=af.puts [(0,.pointer (some ⟨l,0,none⟩)),(4,.pointer (some ⟨bk,0,none⟩)),(5,.pointer (some ⟨ay,0,none⟩))]∧BZ ac d ad h p m q r u w y z f=some aw∧AQ [1,22,23,25] cc c9 o ae∧Slc Ab o.F ae (Sl a1 h a2) h∧Own AJ 56 o ae 25 (Sl ag f ah) f∧Bk o ae 1 l [Sl a1 h a2,I p,I m,I q,I r,I u,I w,I y,I z] 126∧Bk o ae 22 ay [I 7,Sb d.text,Sb ([]:List UInt8),I 0,Cx (((0,0):Nat×Nat)),Sl ag f ah,I d.at_] 56) b0 ?_ ?_
 refine have db:=K2 Ab bl az a0;have dc:=Y2 b7 az a0;⟨_,cc,e.2.marks,b8,b9,e.2.at_,e.2.why,e.2.where_,e.2.l.text,e.2.l.funcs,e.2.l.arity,e.2.l.nest,e.2.nest,([]:List AE),none,0,Pu,a,(AQ.refl [1,22,23,25] _ _),db,Own.nil,dc,da⟩
 rintro ad _ ae ⟨af,o,h,a1,a2,p,m,q,r,u,w,y,z,f,ag,ah,rfl,a,bn,a3,bo,aq,bp⟩
 rcases ad with _|ad
 exact BC a
 refine have a:CW ac d (BZ ac d ad) h p m q r u w y z f=some aw:=a; ?_
 obtain ⟨cd,cf⟩:∃s,s=BZ ac d ad:=⟨_,rfl⟩
 rw [←cf,CW] at a
 refine AZ<|Ao (fun ap ar=>∃(af:Env) (ak:Col) (bq:Bool),ap=af.puts [(0,.pointer (some ⟨l,0,none⟩)),(4,.pointer (some ⟨bk,0,none⟩)),(5,.pointer (some ⟨ay,0,none⟩)),(29,.bool bq)]∧DK ac d h p m q r u w y z f cd bq=some aw∧AQ [] o ae ak ar) ?_ ?_
 refine AO<|Vm<|Vx (Run.nilCheck rfl)<|Vx (Run.fieldAddr Ia rfl)<|Vx (Run.load1 B5 rfl (Bk.cell aq rfl))<|Vr (.bool (m==0))<|Vm<|Bo a (fun aa a=>?_) fun aa a=>?_
 refine Gm aa<|Bi a fun cg de a=>CI (.guard (t:=true) (b:=true) rfl rfl rfl rfl (Cb aa)) rfl rfl (Kb [Pt l 0,Sb ([41]:List UInt8)] rfl)<|Calls.mono (Ci o ae de dcd dcd aq (AN (x:=(AB.mk h p m q (Af.mk r u w y) z)) a3)) ?_
 rintro _ fi ⟨df,rfl,dg⟩
 refine ⟨_,rfl,?_⟩
 refine Gr aa (.bool (!cg))<|Vp aa<|AA<|⟨_,df,(!cg),Pu,a,(Mo [] dg)⟩
 refine Pg aa<|Pg aa<|Pg aa<|Vp aa<|AA<|⟨_,o,false,Pu,a,(AQ.refl [] _ _)⟩
 rintro _ ar ⟨af,ak,bq,rfl,a,g⟩
 rw [DK] at a
 refine Cn a (fun dh a=>?_) fun dh a=>?_
 refine WC.skip<|Aj<|Ao (fun ap au=>∃(af:Env) (av:Col) (al:(List Ac)) (br:Option Addr) (bt:Nat) (a4:Int) (a5:Int) (a6:Int) (a7:Int) (a8:Int) (a9:Int) (ba:Int) (bb:Int),ap=af.puts [(0,.pointer (some ⟨l,0,none⟩)),(4,.pointer (some ⟨bk,0,none⟩)),(5,.pointer (some ⟨ay,0,none⟩))]∧DJ ac f cd al a4 a5 a6 a7 a8 a9 ba bb=some aw∧AQ [1] ak ar av au∧Slc Ab av.F au (Sl br al bt) al∧Bk av au 1 l [Sl br al bt,I a4,I a5,I a6,I a7,I a8,I a9,I ba,I bb] 126) ?_ ?_
 refine Sr<|Vx (Run.fieldAddr Bq rfl)<|have di:=Bs bp g;Vx (Run.load1 EB rfl (Bk.cell di rfl))<|have dj:=Os bo g; ?_
 obtain ⟨fj,fk,dk⟩:=Own.len dj
 refine Vx (v:=I (f.length:Int)) (Run.lenSlc DT dk)<|Vr (.bool (decide ((f.length:Int)>0)))<|AA<|Cn a (fun dl a=>?_) fun dl a=>?_
 refine AO<|Vm<|have dm:=Bs aq g;have dn:=Ss Ab a3 g;Bi a fun ab dp a=>Ca (IQ [Pt l 0,Sb ([44]:List UInt8)] rfl) (BO ak ar dp dcd dcd dm (AN (x:=(AB.mk h p m q (Af.mk r u w y) z)) dn)) ?_
 rintro _ fl ⟨dq,fm,rfl,dr,ds,dt⟩
 obtain ⟨fn,rfl,ch⟩:=AS dt
 obtain ⟨du,dv,rfl⟩:=AG ch
 refine ⟨_,rfl,?_⟩
 refine AA<|⟨_,dq,ab.marks,du,dv,ab.at_,ab.why,ab.where_,ab.l.text,ab.l.funcs,ab.l.arity,ab.l.nest,ab.nest,Pu,a,(Mo [1] dr),ch,ds⟩
 refine WC.skip<|have dw:=Ss Ab a3 g;have dx:=Bs aq g;⟨_,ak,h,a1,a2,p,m,q,r,u,w,y,z,Pu,a,(AQ.refl [1] _ _),dw,dx⟩
 rintro _ au ⟨af,av,al,br,bt,a4,a5,a6,a7,a8,a9,ba,bb,rfl,a,bu,dy,dz⟩
 rw [DJ] at a
 refine Sr<|Vm<|Bi a fun c d0 a=>Ca (MV [Pt l 0] rfl) (co.ref04_reader_expr av au d0 dcd dcd dz (AN (x:=(AB.mk al a4 a5 a6 (Af.mk a7 a8 a9 ba) bb)) dy)) ?_
 rintro _ fo ⟨d1,fp,fq,rfl,bv,d2,d3,d4⟩
 obtain ⟨fr,rfl,ci⟩:=Am d2
 obtain ⟨bc,bd,rfl⟩:=AG ci
 obtain ⟨fs,rfl,cj⟩:=AS d4
 obtain ⟨d5,d6,rfl⟩:=AG cj
 refine ⟨_,rfl,?_⟩
 refine Ef (Aa d1 23 DN rfl fun d7 ft fu d8 am=>?_)
 refine have d9:=Ss AJ ci am;Eu (St Dj d8 rfl rfl rfl rfl fun fv ea an=>?_)
 refine AA<|AO<|Vx (Run.fieldAddr Bq rfl)<|have ck:=Bs (Y4 bp g bu bv am) an;Vx (Run.load1 EB rfl (Bk.cell ck rfl))<|Vx (Run.loadN BF rfl rfl (Bk.part ea 0 [I c.1.op,Sb c.1.name,Sb c.1.tail,I c.1.type_,Cx c.1.num,Sl bc c.1.args bd,I c.1.at_] rfl))<|Ef (DC (cs:=[I c.1.op,Sb c.1.name,Sb c.1.tail,I c.1.type_,Cx c.1.num,Sl bc c.1.args bd,I c.1.at_]) d7 24 [[I c.1.op,Sb c.1.name,Sb c.1.tail,I c.1.type_,Cx c.1.num,Sl bc c.1.args bd,I c.1.at_]] DT DN rfl rfl (.cons rfl rfl rfl .nil) rfl fun eb ec ed ee ao=>?_)
 refine have ef:=K2 AJ d9 an ao;have eg:Own AJ 56 eb ec 24 (.slice (some ⟨ed,0,none⟩) 1 1) ([c.1]:List AE):=Own.lit (css:=[[I c.1.op,Sb c.1.name,Sb c.1.tail,I c.1.type_,Cx c.1.num,Sl bc c.1.args bd,I c.1.at_]]) ee rfl rfl rfl (AW (Ae (x:=c.1) ef) BE) (A2 rfl ED) rfl;have eh:=Os (Os (Os (Os (Os (Os bo g) bu) bv) am) an) ao;Bi a fun fw cl a=>Ef (Bx (κ:=AJ) rfl rfl eh dcd Xp (Cj eg) (FW cl) (Fk cl) fun fx ei fy bw be=>?_)
 obtain ⟨bx,bz,rfl⟩:=Own.len bw
 refine Vx (Run.fieldAddr Bq rfl)<|have ej:=Y2 ck ao be;Eu (Br (vs:=[Sl bx ((f++([c.1]:List AE))) bz]) (cs':=[I 7,Sb d.text,Sb ([]:List UInt8),I 0,Cx (((0,0):Nat×Nat)),Sl bx ((f++([c.1]:List AE))) bz,I d.at_]) Rq rfl rfl rfl rfl (AX (Own.one bw) CQ) ej dcd rfl rfl fun fz ek bf=>?_)
 refine AA<|have el:=Ss Ab (K4 Ab cj am an ao be) bf;have em:=Os bw bf;have en:=Bs (Y4 d3 am an ao be) bf;⟨ad,Nat.lt_succ_self ad,_,ei,c.2.marks,d5,d6,c.2.at_,c.2.why,c.2.where_,c.2.l.text,c.2.l.funcs,c.2.l.arity,c.2.l.nest,c.2.nest,(f++([c.1]:List AE)),bx,bz,Pu,(cf▸a),(T4 (T4 (Mo [1,22,23,25] bn) g bu bv am) an ao be bf),el,em,en,ek⟩
 refine Bc<|Sr<|Vm<|have eo:=Bs aq g;have ep:=Ss Ab a3 g;Bi a fun n eq a=>Ca (IQ [Pt l 0,Sb ([41]:List UInt8)] rfl) (BO ak ar eq dcd dcd eo (AN (x:=(AB.mk h p m q (Af.mk r u w y) z)) ep)) ?_
 rintro _ f0 ⟨f1,f2,rfl,bg,er,es⟩
 obtain ⟨f3,rfl,cm⟩:=AS es
 obtain ⟨et,eu,rfl⟩:=AG cm
 refine ⟨_,rfl,?_⟩
 refine AA<|Sr<|have ew:=Y2 bp g bg;Vx (Run.loadN BF rfl rfl (Bk.part ew 0 [I 7,Sb d.text,Sb ([]:List UInt8),I 0,Cx (((0,0):Nat×Nat)),Sl ag f ah,I d.at_] rfl))<|have ex:=Y2 (Y4 b5 aj az a0 bn) g bg;have cn:=Os (Os bo g) bg;Eu (Br (vs:=[I 7,Sb d.text,Sb ([]:List UInt8),I 0,Cx (((0,0):Nat×Nat)),Sl ag f ah,I d.at_]) (cs':=[I 7,Sb d.text,Sb ([]:List UInt8),I 0,Cx (((0,0):Nat×Nat)),Sl ag f ah,I d.at_]) Dj rfl rfl rfl rfl (AX rfl (AX rfl (AX rfl (AX rfl (AX rfl (AX (Own.one cn) (AX rfl CQ))))))) ex dcd rfl rfl fun f4 ey bh=>?_)
 refine AA<|AT<|have ez:=Os cn bh; ?_
 obtain ⟨e0,bi,e1⟩:=Own.freeze (S:=[25]) ez dcd dcd
 obtain rfl:=AP a
 refine have e2:=Bs ey bi;Ax (B:=B) b3 (BG rfl (.agg BF rfl rfl (Bk.part e2 0 [I 7,Sb d.text,Sb ([]:List UInt8),I 0,Cx (((0,0):Nat×Nat)),Sl ag f ah,I d.at_] rfl)) ?_)
 refine have e3:=Y2 er bh bi;have e4:=K2 Ab cm bh bi;⟨e0,[I 7,Sb d.text,Sb ([]:List UInt8),I 0,Cx (((0,0):Nat×Nat)),Sl ag f ah,I d.at_],[Sl et n.marks eu,I n.at_,I n.why,I n.where_,I n.l.text,I n.l.funcs,I n.l.arity,I n.l.nest,I n.nest],rfl,Ho (Tn (T4 (T4 (Mo [1,21,22,23,25] ax) ai aj az a0) bn g bg bh) bi) b1,(Ae (x:=(AE.mk 7 d.text ([]:List UInt8) 0 ((0,0):Nat×Nat) f d.at_)) e1),e3,(AN (x:=n) e4)⟩
theorem NM(c:AC)(e:Nat)(h:AC.Good c):ref04_reader_named.Spec (CZ c e):=by
 intro d f a z aa ab ac ad ae l hnd hnz g m n
 refine Calls.mono (NL c e h (recol (see [a]) d) f (Az lbr d) l trivial trivial (A6 g [a] (BD hnd hnz (i:=0) rfl)) (Au An m [a]) (Au Ab n [a])) ?_
 rintro af ag ⟨o,p,q,r,s,u,w,y⟩
 exact ⟨glue [a] f d o,p,q,r,Ad s (DS rfl rfl),BB AJ u,CK g w dcd,BB An y⟩
theorem AC.good:∀d,AC.Good (AC.at d)
 |0=>⟨by intro a c;intros;(try intro _);intros;exact BC (by assumption),by intro a c;intros;(try intro _);intros;exact BC (by assumption),by intro a c;intros;(try intro _);intros;exact BC (by assumption),by intro a c;intros;(try intro _);intros;exact BC (by assumption),by intro a c;intros;(try intro _);intros;exact BC (by assumption),by intro a c;intros;(try intro _);intros;exact BC (by assumption),by intro a c;intros;(try intro _);intros;exact BC (by assumption),by intro a c;intros;(try intro _);intros;exact BC (by assumption),by intro a c;intros;(try intro _);intros;exact BC (by assumption)⟩
 |n+1=>⟨Nn _ n (AC.good n),Np _ n (AC.good n),NK _ n (AC.good n),MK _ n (AC.good n),Nr _ n (AC.good n),OK _ n (AC.good n),Nt _ n (AC.good n),Nv _ n (AC.good n),NM _ n (AC.good n)⟩
theorem OM(a:Nat):ref04_reader_expr.Spec (ref04_reader_expr a):=(AC.good a).ref04_reader_expr
def Cf.At(G1 G2:Prop)(e:Col)(a:World)(f:AB→Int→Option (AK×AB))(g:Nat):Prop:=
 ∀{h:Nat} {m:AB} {n:List Value} {o:Int} {l:AK×AB},f m o=some l→G1→G2→Bk e a g h n 126→An.rep e.F a n m→
  Calls Tryz.prog 74 #[Pt h 0,I o] a fun r c=>∃(d:Col) (p:List Value) (q:List Value),r=.returned (.agg p.toArray)∧AQ [g] e a d c∧AL.rep d.F c p l.1∧Bk d c g h q 126∧An.rep d.F c q l.2
def Cf.Spec(f:AB→Int→Option (AK×AB)):Prop:=
 ∀(c:Col) (d:World) {a:Nat},Cf.At ([a].Nodup) (0∉[a]) c d f a
theorem ON(u:Nat)(c8:Col)(es:World)(et:∀b,c8 b<10):Cf.At True True c8 es (Cf u) 1:=by
 intro e w jj dz ay a _ _ c9 eu
 rw [Cf] at a
 obtain ⟨jk,rfl,b3⟩:=AS eu
 obtain ⟨ew,ex,rfl⟩:=AG b3
 refine A0 Tryz.func74 rfl Tryz.ntmps74 rfl fun B ey c=>Sr<|Ef (Aa c8 20 J8 rfl fun da db a2 ez a3=>?_)
 refine AA<|Ao (fun y bl=>∃(n:Env) (bm:Col) (bd:(List Ac)) (dc:Option Addr) (de:Nat) (b4:Int) (x63:Int) (b5:Int) (b6:Int) (b7:Int) (b8:Int) (b9:Int) (ca:Int),y=n.puts [(0,.pointer (some ⟨e,0,none⟩)),(4,.pointer (some ⟨a2,0,none⟩))]∧Dv u bd b4 x63 b5 b6 b7 b8 b9 ca=some ay∧AQ [1] da db bm bl∧Slc Ab bm.F bl (Sl dc bd de) bd∧Bk bm bl 1 e [Sl dc bd de,I b4,I x63,I b5,I b6,I b7,I b8,I b9,I ca] 126) ?_ ?_
 refine Ao (fun y df=>∃(n:Env) (cb:Col) (dg:Bool),y=n.puts [(0,.pointer (some ⟨e,0,none⟩)),(4,.pointer (some ⟨a2,0,none⟩)),(21,.bool dg)]∧Dw u w dg=some ay∧AQ [] da db cb df) ?_ ?_
 refine AO<|Vm<|have d0:=Bs c9 a3;have e0:=Ss Ab b3 a3;Bi a fun be e1 a=>Ca (Lp [Pt e 0] rfl) (CG da db e1 dcd dcd d0 (AN (x:=w) e0)) ?_
 rintro _ jl ⟨d1,jm,rfl,dh,e2⟩
 obtain rfl:=Cy e2
 refine ⟨_,rfl,?_⟩
 refine Vx (v:=I be.kind) (Js (cs:=[I be.kind,Sb be.text,Cx be.num,I be.at_]) P1 rfl rfl)<|Vr (.bool (be.kind==0))<|Vm<|Bo a (fun q a=>?_) fun q a=>?_
 refine Gm q<|Gm q<|Gx q (Run.nilCheck rfl)<|Gx q (Run.fieldAddr Pz rfl)<|Gx q (Run.fieldAddr Xw rfl)<|have e3:=Bs d0 dh;Gx q (Run.load1 B5 rfl (Bk.cell e3 rfl))<|Gr q (.bool (decide (dz≥w.l.funcs)))<|Vp q<|AA<|⟨_,d1,(decide (dz≥w.l.funcs)),Pu,a,(Mo [] dh)⟩
 refine Pg q<|Pg q<|Pg q<|Pg q<|Pg q<|Pg q<|Pg q<|Vp q<|AA<|⟨_,d1,false,Pu,a,(Mo [] dh)⟩
 rintro _ df ⟨n,cb,dg,rfl,a,bf⟩
 rw [Dw] at a
 refine Cn a (fun e4 a=>?_) fun e4 a=>?_
 refine AO<|Vm<|have e5:=Y2 c9 a3 bf;have e6:=K2 Ab b3 a3 bf;Bi a fun ae e7 a=>Ca (NE [Pt e 0,I 22] rfl) (Er cb df e7 dcd dcd e5 (AN (x:=w) e6)) ?_
 rintro _ jn ⟨e8,jo,rfl,e9,fa,fb⟩
 obtain ⟨jp,rfl,d2⟩:=AS fb
 obtain ⟨fc,fd,rfl⟩:=AG d2
 refine ⟨_,rfl,?_⟩
 refine AA<|⟨_,e8,ae.marks,fc,fd,ae.at_,ae.why,ae.where_,ae.l.text,ae.l.funcs,ae.l.arity,ae.l.nest,ae.nest,Pu,a,(Tn (Mo [1] bf) e9),d2,fa⟩
 refine WC.skip<|have fe:=K2 Ab b3 a3 bf;have ff:=Y2 c9 a3 bf;⟨_,cb,w.marks,ew,ex,w.at_,w.why,w.where_,w.l.text,w.l.funcs,w.l.arity,w.l.nest,w.nest,Pu,a,(Mo [1] bf),fe,ff⟩
 rintro _ bl ⟨n,bm,bd,dc,de,b4,x63,b5,b6,b7,b8,b9,ca,rfl,a,d3,fg,fh⟩
 rw [Dv] at a
 refine Sr<|Vm<|Bi a fun l fi a=>Ca (PQ [Pt e 0] rfl) (HU bm bl fi dcd dcd fh (AN (x:=(AB.mk bd b4 x63 b5 (Af.mk b6 b7 b8 b9) ca)) fg)) ?_
 rintro _ jq ⟨fj,jr,js,rfl,d4,fk,fl,fm⟩
 obtain rfl:=Cy fk
 obtain ⟨jt,rfl,d5⟩:=AS fm
 obtain ⟨ju,jv,rfl⟩:=AG d5
 refine ⟨_,rfl,?_⟩
 refine Ef (Aa fj 21 GR rfl fun fn jw jx fo cc=>?_)
 refine Eu (St Gc fo rfl rfl rfl rfl fun jy d6 cd=>?_)
 refine AA<|Sr<|Vx (Run.fieldAddr FH rfl)<|Vx (Run.load1 CS rfl (Bk.cell d6 rfl))<|Vx (Run.fieldAddr Kn rfl)<|Vx (Run.load1 B5 rfl (Bk.cell d6 rfl))<|Vx (v:=.agg [Sb l.1.text,.slice none 0 0,I 0,I 0,Sb ([]:List UInt8),Sb ([]:List UInt8),I 0,Cx (((0,0):Nat×Nat)),.slice none 0 0,I 0,I l.1.at_].toArray) (Bp J8 X8 rfl (.cons rfl rfl rfl (.cons rfl rfl rfl .nil)))<|Ef (Aa fn 22 J8 rfl fun fp jz a4 fq cf=>?_)
 refine Eu (St Kj fq rfl rfl rfl rfl fun fr fs cg=>?_)
 refine AA<|Sr<|Vm<|have ft:=Y4 fl cc cd cf cg;have fu:=K4 Ab d5 cc cd cf cg;Bi a fun af fv a=>Ca (IQ [Pt e 0,Sb ([40]:List UInt8)] rfl) (BO fp fr fv dcd dcd ft (AN (x:=l.2) fu)) ?_
 rintro _ fw ⟨d7,j0,rfl,di,fx,fy⟩
 obtain ⟨j1,rfl,d8⟩:=AS fy
 obtain ⟨fz,f0,rfl⟩:=AG d8
 refine ⟨_,rfl,?_⟩
 refine AA<|AZ<|Aj<|Bt (fun az y a0=>∃(n:Env) (ag:Col) (z:(List Ac)) (ch:Option Addr) (ci:Nat) (ah:Int) (ac:Int) (ai:Int) (aj:Int) (ak:Int) (al:Int) (am:Int) (an:Int) (g:(List AH)) (ao:Option Addr) (ap:Nat),y=n.puts [(0,.pointer (some ⟨e,0,none⟩)),(4,.pointer (some ⟨a2,0,none⟩)),(6,.pointer (some ⟨a4,0,none⟩))]∧BY u l az z ah ac ai aj ak al am an g=some ay∧AQ [1,22,23,25] d7 fw ag a0∧Slc Ab ag.F a0 (Sl ch z ci) z∧Own AY 87 ag a0 25 (Sl ao g ap) g∧Bk ag a0 1 e [Sl ch z ci,I ah,I ac,I ai,I aj,I ak,I al,I am,I an] 126∧Bk ag a0 22 a4 [Sb l.1.text,Sl ao g ap,I 0,I 0,Sb ([]:List UInt8),Sb ([]:List UInt8),I 0,Cx (((0,0):Nat×Nat)),.slice none 0 0,I 0,I l.1.at_] 58) u ?_ ?_
 refine have f1:=Bs fs di;⟨_,d7,af.marks,fz,f0,af.at_,af.why,af.where_,af.l.text,af.l.funcs,af.l.arity,af.l.nest,af.nest,([]:List AH),none,0,Pu,a,(AQ.refl [1,22,23,25] _ _),d8,Own.nil,fx,f1⟩
 rintro az _ a0 ⟨n,ag,z,ch,ci,ah,ac,ai,aj,ak,al,am,an,g,ao,ap,rfl,a,dj,cj,ck,bn,cl⟩
 rcases az with _|az
 exact BC a
 refine have a:DA u l (BY u l az) z ah ac ai aj ak al am an g=some ay:=a; ?_
 obtain ⟨cm,d9⟩:∃s,s=BY u l az:=⟨_,rfl⟩
 rw [←d9,DA] at a
 refine AZ<|Ao (fun y bo=>∃(n:Env) (bg:Col) (dk:Bool),y=n.puts [(0,.pointer (some ⟨e,0,none⟩)),(4,.pointer (some ⟨a2,0,none⟩)),(6,.pointer (some ⟨a4,0,none⟩)),(42,.bool dk)]∧DP u l z ah ac ai aj ak al am an g cm dk=some ay∧AQ [] ag a0 bg bo) ?_ ?_
 refine AO<|Vm<|Vx (Run.nilCheck rfl)<|Vx (Run.fieldAddr Ia rfl)<|Vx (Run.load1 B5 rfl (Bk.cell bn rfl))<|Vr (.bool (ac==0))<|Vm<|Bo a (fun aq a=>?_) fun aq a=>?_
 refine Gm aq<|Bi a fun ea f2 a=>CI (.guard (t:=true) (b:=true) rfl rfl rfl rfl (Cb aq)) rfl rfl (Kb [Pt e 0,Sb ([41]:List UInt8)] rfl)<|Calls.mono (Ci ag a0 f2 dcd dcd bn (AN (x:=(AB.mk z ah ac ai (Af.mk aj ak al am) an)) cj)) ?_
 rintro _ j2 ⟨f3,rfl,f4⟩
 refine ⟨_,rfl,?_⟩
 refine Gr aq (.bool (!ea))<|Vp aq<|AA<|⟨_,f3,(!ea),Pu,a,(Mo [] f4)⟩
 refine Pg aq<|Pg aq<|Pg aq<|Vp aq<|AA<|⟨_,ag,false,Pu,a,(AQ.refl [] _ _)⟩
 rintro _ bo ⟨n,bg,dk,rfl,a,r⟩
 rw [DP] at a
 refine Cn a (fun f5 a=>?_) fun f5 a=>?_
 refine WC.skip<|Aj<|Ao (fun y bh=>∃(n:Env) (ar:Col) (au:(List Ac)) (cn:Option Addr) (co:Nat) (a5:Int) (av:Int) (a6:Int) (a7:Int) (a8:Int) (aa:Int) (a9:Int) (ba:Int),y=n.puts [(0,.pointer (some ⟨e,0,none⟩)),(4,.pointer (some ⟨a2,0,none⟩)),(6,.pointer (some ⟨a4,0,none⟩))]∧Du u g cm au a5 av a6 a7 a8 aa a9 ba=some ay∧AQ [1] bg bo ar bh∧Slc Ab ar.F bh (Sl cn au co) au∧Bk ar bh 1 e [Sl cn au co,I a5,I av,I a6,I a7,I a8,I aa,I a9,I ba] 126) ?_ ?_
 refine Sr<|Vx (Run.fieldAddr EX rfl)<|have f6:=Bs cl r;Vx (Run.load1 Eo rfl (Bk.cell f6 rfl))<|have f7:=Os ck r; ?_
 obtain ⟨j3,j4,f8⟩:=Own.len f7
 refine Vx (v:=I (g.length:Int)) (Run.lenSlc D3 f8)<|Vr (.bool (decide ((g.length:Int)>0)))<|AA<|Cn a (fun f9 a=>?_) fun f9 a=>?_
 refine AO<|Vm<|have ga:=Bs bn r;have gb:=Ss Ab cj r;Bi a fun aw gc a=>Ca (IQ [Pt e 0,Sb ([44]:List UInt8)] rfl) (BO bg bo gc dcd dcd ga (AN (x:=(AB.mk z ah ac ai (Af.mk aj ak al am) an)) gb)) ?_
 rintro _ j5 ⟨gd,j6,rfl,ge,gf,gg⟩
 obtain ⟨j7,rfl,eb⟩:=AS gg
 obtain ⟨gh,gi,rfl⟩:=AG eb
 refine ⟨_,rfl,?_⟩
 refine AA<|⟨_,gd,aw.marks,gh,gi,aw.at_,aw.why,aw.where_,aw.l.text,aw.l.funcs,aw.l.arity,aw.l.nest,aw.nest,Pu,a,(Mo [1] ge),eb,gf⟩
 refine WC.skip<|have gj:=Ss Ab cj r;have gk:=Bs bn r;⟨_,bg,z,ch,ci,ah,ac,ai,aj,ak,al,am,an,Pu,a,(AQ.refl [1] _ _),gj,gk⟩
 rintro _ bh ⟨n,ar,au,cn,co,a5,av,a6,a7,a8,aa,a9,ba,rfl,a,bp,dl,dm⟩
 rw [Du] at a
 refine Ao (fun y bq=>∃(n:Env) (br:Col) (bi:(List Ac)) (dn:Option Addr) (dp:Nat) (cq:Int) (cr:Int) (ct:Int) (cu:Int) (cv:Int) (cw:Int) (cx:Int) (cy:Int),y=n.puts [(0,.pointer (some ⟨e,0,none⟩)),(4,.pointer (some ⟨a2,0,none⟩)),(6,.pointer (some ⟨a4,0,none⟩))]∧Dt u g cm bi cq cr ct cu cv cw cx cy=some ay∧AQ [1] ar bh br bq∧Slc Ab br.F bq (Sl dn bi dp) bi∧Bk br bq 1 e [Sl dn bi dp,I cq,I cr,I ct,I cu,I cv,I cw,I cx,I cy] 126) ?_ ?_
 refine Ao (fun y dq=>∃(n:Env) (cz:Col) (dr:Bool),y=n.puts [(0,.pointer (some ⟨e,0,none⟩)),(4,.pointer (some ⟨a2,0,none⟩)),(6,.pointer (some ⟨a4,0,none⟩)),(70,.bool dr)]∧DO u g cm au a5 av a6 a7 a8 aa a9 ba dr=some ay∧AQ [] ar bh cz dq) ?_ ?_
 refine CJ FL (.q 0 (.q 1 (.q 2 (.q 3 (.q 4 (.q 5 (.q 6 (.one 7 (.q 8 (.q 9 (.q 10 (.q 11 (.q 12 (.q 13 (.q 14 (.q 15 (.q 16 (.q 17 (.q 18 (.q 19 (.q 20 (.q 21 .nil)))))))))))))))))))))) [] [] ar (by kernel_rfl) fun gl bb=>Qx c rfl (v:=Pt e 0) (fun _ ⟨_,f⟩=>Run.move rfl)<|Qx c rfl (fun _ ⟨_,f⟩=>Run.nilCheck rfl)<|Qx c rfl (fun _ ⟨_,f⟩=>Run.fieldAddr Ia rfl)<|have ds:=Bs dm bb;Qx c rfl (fun _ ⟨_,f⟩=>Run.load1 B5 rfl (Bk.cell (Bs ds f) rfl))<|Qx c rfl (v:=.bool (av==0)) (fun _ ⟨_,f⟩=>rfl)<|Qx c rfl (v:=.bool (av==0)) (fun _ ⟨_,f⟩=>Run.move rfl)<|Bo a (fun ab a=>?_) fun ab a=>?_
 refine A4 (fun _ _ _ _ h=>c _ _ _ _ h) rfl rfl (.guard (t:=true) (b:=true) rfl rfl rfl rfl (Cb ab)) rfl rfl (v:=Pt e 0) (fun _ ⟨_,f⟩=>Run.move rfl)<|BX rfl<|have gm:=Ss Ab dl bb;Bi a fun a1 gn a=>BR rfl (.guard (t:=true) (b:=true) rfl rfl rfl rfl (Cb ab)) rfl rfl (Lp [Pt e 0] rfl)<|Calls.mono (CG ar gl gn dcd dcd ds (AN (x:=(AB.mk au a5 av a6 (Af.mk a7 a8 aa a9) ba)) gm)) ?_
 rintro _ j8 ⟨ec,j9,rfl,dt,go⟩
 obtain rfl:=Cy go
 refine ⟨_,rfl,⟨_,(Mo [] dt)⟩,?_⟩
 refine A4 (fun _ _ _ _ h=>c _ _ _ _ h) rfl rfl (.guard (t:=true) (b:=true) rfl rfl rfl rfl (Cb ab)) rfl rfl (v:=I a1.kind) (fun _ ⟨_,f⟩=>Js (cs:=[I a1.kind,Sb a1.text,Cx a1.num,I a1.at_]) P1 rfl rfl)<|A4 (fun _ _ _ _ h=>c _ _ _ _ h) rfl rfl (.guard (t:=true) (b:=true) rfl rfl rfl rfl (Cb ab)) rfl rfl (v:=.bool (a1.kind==0)) (fun _ ⟨_,f⟩=>rfl)<|Qx c rfl (v:=.bool (a1.kind==0)) (fun _ ⟨_,f⟩=>(Pk ab))<|Qx c rfl (v:=.bool (a1.kind==0)) (fun _ ⟨_,f⟩=>Run.move rfl)<|Bo a (fun m a=>?_) fun m a=>?_
 refine A4 (fun _ _ _ _ h=>c _ _ _ _ h) rfl rfl (.guard (t:=true) (b:=true) rfl rfl rfl rfl (Cb m)) rfl rfl (v:=Pt a4 1) (fun _ ⟨_,f⟩=>Run.fieldAddr EX rfl)<|A4 (fun _ _ _ _ h=>c _ _ _ _ h) rfl rfl (.guard (t:=true) (b:=true) rfl rfl rfl rfl (Cb m)) rfl rfl (v:=Sl ao g ap) (fun _ ⟨_,f⟩=>Run.load1 Eo rfl (Bk.cell (Y4 cl r bp bb f) rfl)) ?_
 obtain ⟨ka,kb,gp⟩:=Own.len (Os (Os (Os ck r) bp) bb)
 refine A4 (fun _ _ _ _ h=>c _ _ _ _ h) rfl rfl (.guard (t:=true) (b:=true) rfl rfl rfl rfl (Cb m)) rfl rfl (v:=I (g.length:Int)) (fun _ ⟨_,f⟩=>Run.lenSlc D3 gp)<|A4 (fun _ _ _ _ h=>c _ _ _ _ h) rfl rfl (.guard (t:=true) (b:=true) rfl rfl rfl rfl (Cb m)) rfl rfl (v:=Pt e 0) (fun _ ⟨_,f⟩=>Run.move rfl)<|A4 (fun _ _ _ _ h=>c _ _ _ _ h) rfl rfl (.guard (t:=true) (b:=true) rfl rfl rfl rfl (Cb m)) rfl rfl (v:=Pt e 0) (fun _ ⟨_,f⟩=>Run.nilCheck rfl)<|A4 (fun _ _ _ _ h=>c _ _ _ _ h) rfl rfl (.guard (t:=true) (b:=true) rfl rfl rfl rfl (Cb m)) rfl rfl (v:=Pt e 4) (fun _ ⟨_,f⟩=>Run.fieldAddr Pz rfl)<|A4 (fun _ _ _ _ h=>c _ _ _ _ h) rfl rfl (.guard (t:=true) (b:=true) rfl rfl rfl rfl (Cb m)) rfl rfl (v:=Pt e 6) (fun _ ⟨_,f⟩=>Run.fieldAddr Xx rfl)<|A4 (fun _ _ _ _ h=>c _ _ _ _ h) rfl rfl (.guard (t:=true) (b:=true) rfl rfl rfl rfl (Cb m)) rfl rfl (v:=I aa) (fun _ ⟨_,f⟩=>Run.load1 B5 rfl (Bk.cell (Bs ds f) rfl))<|A4 (fun _ _ _ _ h=>c _ _ _ _ h) rfl rfl (.guard (t:=true) (b:=true) rfl rfl rfl rfl (Cb m)) rfl rfl (v:=.bool (decide ((g.length:Int)≥aa))) (fun _ ⟨_,f⟩=>rfl)<|Qx c rfl (v:=.bool (decide ((g.length:Int)≥aa))) (fun _ ⟨_,f⟩=>(Pk m))<|Dy<|⟨_,ec,(decide ((g.length:Int)≥aa)),Pu,a,(Tn (Mo [] bb) dt)⟩
 refine Qp c rfl m<|Qp c rfl m<|Qp c rfl m<|Qp c rfl m<|Qp c rfl m<|Qp c rfl m<|Qp c rfl m<|Qp c rfl m<|Qp c rfl m<|Qx c rfl (v:=.bool false) (fun _ ⟨_,f⟩=>(Pk m))<|Dy<|⟨_,ec,false,Pu,a,(Tn (Mo [] bb) dt)⟩
 refine Qp c rfl ab<|BX rfl<|Ob rfl (.guard (t:=false) (b:=true) rfl rfl rfl rfl (Cb ab)) rfl rfl<|⟨⟨_,(AQ.refl [] _ _)⟩,?_⟩
 refine Qp c rfl ab<|Qp c rfl ab<|Qx c rfl (v:=.bool false) (fun _ ⟨_,f⟩=>(Pk ab))<|Qx c rfl (v:=.bool false) (fun _ ⟨_,f⟩=>Run.move rfl)<|Qp c rfl rfl<|Qp c rfl rfl<|Qp c rfl rfl<|Qp c rfl rfl<|Qp c rfl rfl<|Qp c rfl rfl<|Qp c rfl rfl<|Qp c rfl rfl<|Qp c rfl rfl<|Qx c rfl (v:=.bool false) (fun _ ⟨_,f⟩=>rfl)<|Dy<|⟨_,ar,false,Pu,a,(Mo [] bb)⟩
 rintro _ dq ⟨n,cz,dr,rfl,a,bj⟩
 rw [DO] at a
 refine Cn a (fun gq a=>?_) fun gq a=>?_
 refine AO<|Vm<|have gr:=Bs dm bj;have gs:=Ss Ab dl bj;Bi a fun ax gt a=>Ca (NE [Pt e 0,I 22] rfl) (Er cz dq gt dcd dcd gr (AN (x:=(AB.mk au a5 av a6 (Af.mk a7 a8 aa a9) ba)) gs)) ?_
 rintro _ kc ⟨gu,kd,rfl,gv,gw,gx⟩
 obtain ⟨ke,rfl,ed⟩:=AS gx
 obtain ⟨gy,gz,rfl⟩:=AG ed
 refine ⟨_,rfl,?_⟩
 refine AA<|⟨_,gu,ax.marks,gy,gz,ax.at_,ax.why,ax.where_,ax.l.text,ax.l.funcs,ax.l.arity,ax.l.nest,ax.nest,Pu,a,(Tn (Mo [1] bj) gv),ed,gw⟩
 refine WC.skip<|have g0:=Ss Ab dl bj;have g1:=Bs dm bj;⟨_,cz,au,cn,co,a5,av,a6,a7,a8,aa,a9,ba,Pu,a,(Mo [1] bj),g0,g1⟩
 rintro _ bq ⟨n,br,bi,dn,dp,cq,cr,ct,cu,cv,cw,cx,cy,rfl,a,du,g2,g3⟩
 rw [Dt] at a
 refine Sr<|Vm<|Bi a fun o g4 a=>Ca (PQ [Pt e 0] rfl) (HU br bq g4 dcd dcd g3 (AN (x:=(AB.mk bi cq cr ct (Af.mk cu cv cw cx) cy)) g2)) ?_
 rintro _ kf ⟨g5,kg,kh,rfl,dv,g6,g7,g8⟩
 obtain rfl:=Cy g6
 obtain ⟨ki,rfl,ee⟩:=AS g8
 obtain ⟨kj,kk,rfl⟩:=AG ee
 refine ⟨_,rfl,?_⟩
 refine Ef (Aa g5 23 GR rfl fun g9 kl km ha bt=>?_)
 refine Eu (St Gc ha rfl rfl rfl rfl fun hb hc bu=>?_)
 refine AA<|Sr<|Vm<|have hd:=Y2 g7 bt bu;have he:=K2 Ab ee bt bu;Bi a fun p hf a=>Ca (RJ [Pt e 0] rfl) (Iy u g9 hb hf dcd dcd hd (AN (x:=o.2) he)) ?_
 rintro _ kn ⟨hg,ko,rfl,c0,hh,hi⟩
 obtain ⟨kp,rfl,ef⟩:=AS hi
 obtain ⟨hj,hk,rfl⟩:=AG ef
 refine ⟨_,rfl,?_⟩
 refine Va (I p.1)<|AA<|AO<|Vx (Run.fieldAddr EX rfl)<|have eg:=Y3 (Y4 cl r bp du dv) bt bu c0;Vx (Run.load1 Eo rfl (Bk.cell eg rfl))<|Vx (Run.fieldAddr FH rfl)<|have eh:=Bs hc c0;Vx (Run.load1 CS rfl (Bk.cell eh rfl))<|Vm<|Vx (Run.fieldAddr Kn rfl)<|Vx (Run.load1 B5 rfl (Bk.cell eh rfl))<|Vx (v:=.agg [Sb o.1.text,I p.1,I o.1.at_].toArray) (Bp LC P4 rfl (.cons rfl rfl rfl (.cons rfl rfl rfl (.cons rfl rfl rfl .nil))))<|Ef (DC (cs:=[Sb o.1.text,I p.1,I o.1.at_]) hg 24 [[Sb o.1.text,I p.1,I o.1.at_]] D3 LC rfl rfl (.cons rfl rfl rfl .nil) rfl fun hl hm hn ho bv=>?_)
 refine have hp:Own AY 87 hl hm 24 (.slice (some ⟨hn,0,none⟩) 1 1) ([(AH.mk o.1.text p.1 o.1.at_)]:List AH):=Own.lit (css:=[[Sb o.1.text,I p.1,I o.1.at_]]) ho rfl rfl rfl (AW (KD (x:=(AH.mk o.1.text p.1 o.1.at_))) BE) (A2 rfl ED) rfl;have hq:=Os (Os (Os (Os (Os (Os (Os (Os ck r) bp) du) dv) bt) bu) c0) bv;Bi a fun kq ei a=>Ef (Bx (κ:=AY) rfl rfl hq dcd O8 (Cj hp) (FW ei) (Fk ei) fun kr hr ks dw c1=>?_)
 obtain ⟨dx,dy,rfl⟩:=Own.len dw
 refine Vx (Run.fieldAddr EX rfl)<|have hs:=Y2 eg bv c1;Eu (Br (vs:=[Sl dx ((g++([(AH.mk o.1.text p.1 o.1.at_)]:List AH))) dy]) (cs':=[Sb l.1.text,Sl dx ((g++([(AH.mk o.1.text p.1 o.1.at_)]:List AH))) dy,I 0,I 0,Sb ([]:List UInt8),Sb ([]:List UInt8),I 0,Cx (((0,0):Nat×Nat)),.slice none 0 0,I 0,I l.1.at_]) OC rfl rfl rfl rfl (AX (Own.one dw) CQ) hs dcd rfl rfl fun kt ht c2=>?_)
 refine AA<|have hu:=K3 Ab ef bv c1 c2;have hw:=Os dw c2;have hx:=Y3 hh bv c1 c2;⟨az,Nat.lt_succ_self az,_,hr,p.2.marks,hj,hk,p.2.at_,p.2.why,p.2.where_,p.2.l.text,p.2.l.funcs,p.2.l.arity,p.2.l.nest,p.2.nest,(g++([(AH.mk o.1.text p.1 o.1.at_)]:List AH)),dx,dy,Pu,(d9▸a),(T2 (T4 (T4 (Mo [1,22,23,25] dj) r bp du dv) bt bu c0 bv) c1 c2),hu,hw,hx,ht⟩
 refine Bc<|Sr<|Vm<|have hy:=Bs bn r;have hz:=Ss Ab cj r;Bi a fun h0 h1 a=>Ca (IQ [Pt e 0,Sb ([41]:List UInt8)] rfl) (BO bg bo h1 dcd dcd hy (AN (x:=(AB.mk z ah ac ai (Af.mk aj ak al am) an)) hz)) ?_
 rintro _ h2 ⟨h3,ku,rfl,c3,h4,h5⟩
 obtain ⟨kv,rfl,ej⟩:=AS h5
 obtain ⟨kw,kx,rfl⟩:=AG ej
 refine ⟨_,rfl,?_⟩
 refine AA<|Sr<|Vm<|Bi a fun h6 h7 a=>Ca (IQ [Pt e 0,Sb ([58]:List UInt8)] rfl) (BO h3 h2 h7 dcd dcd h4 (AN (x:=h0) ej)) ?_
 rintro _ h8 ⟨h9,ky,rfl,c4,ia,ib⟩
 obtain ⟨kz,rfl,ek⟩:=AS ib
 obtain ⟨k0,k1,rfl⟩:=AG ek
 refine ⟨_,rfl,?_⟩
 refine AA<|Sr<|Vm<|Bi a fun bc ic a=>Ca (RJ [Pt e 0] rfl) (Iy u h9 h8 ic dcd dcd ia (AN (x:=h6) ek)) ?_
 rintro _ k2 ⟨id,k3,rfl,c5,ie,ig⟩
 obtain ⟨k4,rfl,el⟩:=AS ig
 obtain ⟨k5,k6,rfl⟩:=AG el
 refine ⟨_,rfl,?_⟩
 refine Vx (Run.fieldAddr M4 rfl)<|have ih:=Y4 cl r c3 c4 c5;Eu (St Vw ih rfl rfl rfl rfl fun ii ij bw=>?_)
 refine AA<|Sr<|Vm<|have ik:=Bs ie bw;have il:=Ss Ab el bw;Bi a fun im io a=>Ca (IQ [Pt e 0,Sb ([61]:List UInt8)] rfl) (BO id ii io dcd dcd ik (AN (x:=bc.2) il)) ?_
 rintro _ ip ⟨iq,k7,rfl,c6,ir,it⟩
 obtain ⟨k8,rfl,em⟩:=AS it
 obtain ⟨k9,la,rfl⟩:=AG em
 refine ⟨_,rfl,?_⟩
 refine AA<|Sr<|Vm<|Bi a fun d iu a=>Ca (MV [Pt e 0] rfl) (OM u iq ip iu dcd dcd ir (AN (x:=im) em)) ?_
 rintro _ lb ⟨iv,lc,ld,rfl,c7,iw,ix,iy⟩
 obtain ⟨le,rfl,en⟩:=Am iw
 obtain ⟨bx,bz,rfl⟩:=AG en
 obtain ⟨lf,rfl,eo⟩:=AS iy
 obtain ⟨lg,lh,rfl⟩:=AG eo
 refine ⟨_,rfl,?_⟩
 refine Vx (Run.fieldAddr L9 rfl)<|have iz:=Y2 ij c6 c7;Eu (St Dj iz rfl rfl rfl rfl fun i0 i1 bk=>?_)
 refine AA<|Sr<|Vm<|have i2:=Bs ix bk;have i3:=Ss Ab eo bk;Bi a fun ad i4 a=>Ca (IQ [Pt e 0,Sb ([59]:List UInt8)] rfl) (BO iv i0 i4 dcd dcd i2 (AN (x:=d.2) i3)) ?_
 rintro _ li ⟨lj,lk,rfl,b0,i5,i6⟩
 obtain ⟨ll,rfl,ep⟩:=AS i6
 obtain ⟨i7,i8,rfl⟩:=AG ep
 refine ⟨_,rfl,?_⟩
 refine AA<|Sr<|have i9:=Bs i1 b0;Vx (Run.loadN K9 rfl rfl (Bk.part i9 0 [Sb l.1.text,Sl ao g ap,I bc.1,I d.1.op,Sb d.1.name,Sb d.1.tail,I d.1.type_,Cx d.1.num,Sl bx d.1.args bz,I d.1.at_,I l.1.at_] rfl))<|have ja:=Bs (Y4 (Y4 (Y4 (Y4 ez d3 d4 cc cd) cf cg di dj) r c3 c4 c5) bw c6 c7 bk) b0;have eq:=Os (Os (Os (Os (Os (Os (Os (Os (Os ck r) c3) c4) c5) bw) c6) c7) bk) b0;have er:=K2 AJ en bk b0;Eu (Br (vs:=[Sb l.1.text,Sl ao g ap,I bc.1,I d.1.op,Sb d.1.name,Sb d.1.tail,I d.1.type_,Cx d.1.num,Sl bx d.1.args bz,I d.1.at_,I l.1.at_]) (cs':=[Sb l.1.text,Sl ao g ap,I bc.1,I d.1.op,Sb d.1.name,Sb d.1.tail,I d.1.type_,Cx d.1.num,Sl bx d.1.args bz,I d.1.at_,I l.1.at_]) Kj rfl rfl rfl rfl (AX rfl (AX (Own.one eq) (AX rfl (AX rfl (AX rfl (AX rfl (AX rfl (AX rfl (AX (FQ er) (AX rfl (AX rfl CQ))))))))))) ja dcd rfl rfl fun lm jb b1=>?_)
 refine AA<|AT<|have jc:=Os eq b1; ?_
 obtain ⟨jd,b2,je⟩:=Own.freeze (S:=[25]) jc dcd dcd
 obtain rfl:=AP a
 refine have jf:=Bs jb b2;Ax (B:=B) ey (BG rfl (.agg K9 rfl rfl (Bk.part jf 0 [Sb l.1.text,Sl ao g ap,I bc.1,I d.1.op,Sb d.1.name,Sb d.1.tail,I d.1.type_,Cx d.1.num,Sl bx d.1.args bz,I d.1.at_,I l.1.at_] rfl)) ?_)
 refine have jg:=K2 AJ er b1 b2;have jh:=Y2 i5 b1 b2;have ji:=K2 Ab ep b1 b2;⟨jd,[Sb l.1.text,Sl ao g ap,I bc.1,I d.1.op,Sb d.1.name,Sb d.1.tail,I d.1.type_,Cx d.1.num,Sl bx d.1.args bz,I d.1.at_,I l.1.at_],[Sl i7 ad.marks i8,I ad.at_,I ad.why,I ad.where_,I ad.l.text,I ad.l.funcs,I ad.l.arity,I ad.l.nest,I ad.nest],rfl,Ho (T3 (T4 (T4 (T4 (T4 (Mo [1,20,21,22,23,25] a3) d3 d4 cc cd) cf cg di dj) r c3 c4 c5) bw c6 c7 bk) b0 b1 b2) et,(Lf (x:=(AK.mk l.1.text g bc.1 d.1 l.1.at_)) je jg),jh,(AN (x:=ad) ji)⟩
theorem Om(d:Nat):Cf.Spec (Cf d):=by
 intro c e a u w y z aa g hnd hnz f h
 refine Calls.mono (ON d (recol (see [a]) c) e (Az lbr c) g trivial trivial (A6 f [a] (BD hnd hnz (i:=0) rfl)) (Au An h [a])) ?_
 rintro ab ac ⟨l,m,n,o,p,q,r,s⟩
 exact ⟨glue [a] e c l,m,n,o,Ad p (DS rfl rfl),BB AL q,CK f r dcd,BB An s⟩
def Bn.At(G1 G2:Prop)(e:Col)(a:World)(f:AB→Option (AM×AB))(g:Nat):Prop:=
 ∀{h:Nat} {m:AB} {n:List Value} {l:AM×AB},f m=some l→G1→G2→Bk e a g h n 126→An.rep e.F a n m→
  Calls Tryz.prog 48 #[Pt h 0] a fun q c=>∃(d:Col) (o:List Value) (p:List Value),q=.returned (.agg o.toArray)∧AQ [g] e a d c∧BN.rep d.F c o l.1∧Bk d c g h p 126∧An.rep d.F c p l.2
def Bn.Spec(f:AB→Option (AM×AB)):Prop:=
 ∀(c:Col) (d:World) {a:Nat},Bn.At ([a].Nodup) (0∉[a]) c d f a
theorem Mj(z:Nat)(ay:Col)(bq:World)(br:∀b,ay b<10):Bn.At True True ay bq (Bn z) 1:=by
 intro ai n di az c _ _ bt bu
 rw [Bn] at c
 obtain ⟨dj,rfl,be⟩:=AS bu
 obtain ⟨bv,bw,rfl⟩:=AG be
 refine A0 Tryz.func48 rfl Tryz.ntmps48 rfl fun B bx dk=>Sr<|Ef (Aa ay 20 JW rfl fun bz dl bf b0 a0=>?_)
 refine AA<|Sr<|Ef (Aa bz 21 JW rfl fun bg b1 a1 b2 ak=>?_)
 refine AA<|AZ<|Aj<|Bt (fun aa a2 ab=>∃(aj:Env) (l:Col) (f:(List Ac)) (al:Option Addr) (am:Nat) (o:Int) (m:Int) (p:Int) (q:Int) (r:Int) (u:Int) (w:Int) (y:Int) (d:(List AK)) (ac:Option Addr) (ad:Nat),a2=aj.puts [(0,.pointer (some ⟨ai,0,none⟩)),(2,.pointer (some ⟨bf,0,none⟩)),(3,.pointer (some ⟨a1,0,none⟩))]∧BT z aa f o m p q r u w y d=some az∧AQ [1,21,22,24] bg b1 l ab∧Slc Ab l.F ab (Sl al f am) f∧Own AL 58 l ab 24 (Sl ac d ad) d∧Bk l ab 1 ai [Sl al f am,I o,I m,I p,I q,I r,I u,I w,I y] 126∧Bk l ab 21 a1 [Sl ac d ad] 28) z ?_ ?_
 refine have b3:=K2 Ab be a0 ak;have b4:=Y2 bt a0 ak;⟨_,bg,n.marks,bv,bw,n.at_,n.why,n.where_,n.l.text,n.l.funcs,n.l.arity,n.l.nest,n.nest,([]:List AK),none,0,Pu,c,(AQ.refl [1,21,22,24] _ _),b3,Own.nil,b4,b2⟩
 rintro aa _ ab ⟨aj,l,f,al,am,o,m,p,q,r,u,w,y,d,ac,ad,rfl,c,a3,a4,a5,an,a6⟩
 rcases aa with _|aa
 exact BC c
 refine have c:B8 z (BT z aa) f o m p q r u w y d=some az:=c; ?_
 obtain ⟨b5,bh⟩:∃s,s=BT z aa:=⟨_,rfl⟩
 rw [←bh,B8] at c
 refine AZ<|Ao (fun a2 a7=>∃(aj:Env) (a8:Col) (a9:Bool),a2=aj.puts [(0,.pointer (some ⟨ai,0,none⟩)),(2,.pointer (some ⟨bf,0,none⟩)),(3,.pointer (some ⟨a1,0,none⟩)),(21,.bool a9)]∧B0 z f o m p q r u w y d b5 a9=some az∧AQ [] l ab a8 a7) ?_ ?_
 refine AO<|Vm<|Vx (Run.nilCheck rfl)<|Vx (Run.fieldAddr Ia rfl)<|Vx (Run.load1 B5 rfl (Bk.cell an rfl))<|Vr (.bool (m==0))<|Vm<|Bo c (fun e c=>?_) fun e c=>?_
 refine Gx e (Run.fieldAddr0 D5 rfl)<|Gx e (Run.load1 GQ rfl (Bk.cell a6 rfl)) ?_
 obtain ⟨dm,dn,b6⟩:=Own.len a5
 refine Gx e (v:=I (d.length:Int)) (Run.lenSlc Fp b6)<|Gr e (.bool ((d.length:Int)==0))<|Gm e<|Bo c (fun g c=>?_) fun g c=>?_
 refine Pg g<|Pg g<|Pg g<|Pg g<|Gp e g<|Vp e<|AA<|⟨_,l,true,Pu,c,(AQ.refl [] _ _)⟩
 refine Gm g<|Bi c fun ae b7 c=>CI (.guard (t:=false) (b:=false) rfl rfl rfl rfl (Cb g)) rfl rfl (Lp [Pt ai 0] rfl)<|Calls.mono (CG l ab b7 dcd dcd an (AN (x:=(AB.mk f o m p (Af.mk q r u w) y)) a4)) ?_
 rintro _ dp ⟨b8,dq,rfl,b9,ca⟩
 obtain rfl:=Cy ca
 refine ⟨_,rfl,?_⟩
 refine Gx g (v:=I ae.kind) (Js (cs:=[I ae.kind,Sb ae.text,Cx ae.num,I ae.at_]) P1 rfl rfl)<|Gr g (.bool (ae.kind != 4))<|Gp e g<|Vp e<|AA<|⟨_,b8,(ae.kind != 4),Pu,c,(Mo [] b9)⟩
 refine Pg e<|Pg e<|Pg e<|Pg e<|Pg e<|Po<|Po<|Po<|Po<|Pg e<|Vp e<|AA<|⟨_,l,false,Pu,c,(AQ.refl [] _ _)⟩
 rintro _ a7 ⟨aj,a8,a9,rfl,c,h⟩
 rw [B0] at c
 refine Cn c (fun cb c=>?_) fun cb c=>?_
 refine WC.skip<|Aj<|Sr<|Vm<|Vx (Run.fieldAddr0 D5 rfl)<|have bi:=Bs a6 h;Vx (Run.load1 GQ rfl (Bk.cell bi rfl))<|have bj:=Os a5 h; ?_
 obtain ⟨dr,ds,cc⟩:=Own.len bj
 refine Vx (v:=I (d.length:Int)) (Run.lenSlc Fp cc)<|have cd:=Bs an h;have cf:=Ss Ab a4 h;Bi c fun a cg c=>Ca (AAj [Pt ai 0,I (d.length:Int)] rfl) (Om z a8 a7 cg dcd dcd cd (AN (x:=(AB.mk f o m p (Af.mk q r u w) y)) cf)) ?_
 rintro _ dt ⟨ch,du,dv,rfl,ba,ci,cj,ck⟩
 obtain ⟨dw,dx,rfl,bk,bl⟩:=Cw ci
 obtain ⟨ao,ap,rfl⟩:=AG bk
 obtain ⟨aq,ar,rfl⟩:=AG bl
 obtain ⟨dy,rfl,bm⟩:=AS ck
 obtain ⟨cl,cm,rfl⟩:=AG bm
 refine ⟨_,rfl,?_⟩
 refine Ef (Aa ch 22 J8 rfl fun cn dz d0 co af=>?_)
 refine have cq:=Ss AY bk af;have cr:=Ss AJ bl af;Eu (St Kj co rfl rfl rfl rfl fun d1 ct ag=>?_)
 refine AA<|AO<|Vx (Run.fieldAddr0 D5 rfl)<|have bn:=Y3 bi ba af ag;Vx (Run.load1 GQ rfl (Bk.cell bn rfl))<|Vx (Run.loadN K9 rfl rfl (Bk.part ct 0 [Sb a.1.name,Sl ao a.1.params ap,I a.1.type_,I a.1.body.op,Sb a.1.body.name,Sb a.1.body.tail,I a.1.body.type_,Cx a.1.body.num,Sl aq a.1.body.args ar,I a.1.body.at_,I a.1.at_] rfl))<|Ef (DC (cs:=[Sb a.1.name,Sl ao a.1.params ap,I a.1.type_,I a.1.body.op,Sb a.1.body.name,Sb a.1.body.tail,I a.1.body.type_,Cx a.1.body.num,Sl aq a.1.body.args ar,I a.1.body.at_,I a.1.at_]) cn 23 [[Sb a.1.name,Sl ao a.1.params ap,I a.1.type_,I a.1.body.op,Sb a.1.body.name,Sb a.1.body.tail,I a.1.body.type_,Cx a.1.body.num,Sl aq a.1.body.args ar,I a.1.body.at_,I a.1.at_]] Fp J8 rfl rfl (.cons rfl rfl rfl .nil) rfl fun cu cv cw cx ah=>?_)
 refine have cy:=K2 AY cq ag ah;have cz:=K2 AJ cr ag ah;have c0:Own AL 58 cu cv 23 (.slice (some ⟨cw,0,none⟩) 1 1) ([a.1]:List AK):=Own.lit (css:=[[Sb a.1.name,Sl ao a.1.params ap,I a.1.type_,I a.1.body.op,Sb a.1.body.name,Sb a.1.body.tail,I a.1.body.type_,Cx a.1.body.num,Sl aq a.1.body.args ar,I a.1.body.at_,I a.1.at_]]) cx rfl rfl rfl (AW (Lf (x:=a.1) cy cz) BE) (A2 rfl ED) rfl;have c1:=Os (Os (Os (Os bj ba) af) ag) ah;Bi c fun d2 bo c=>Ef (Bx (κ:=AL) rfl rfl c1 dcd AAx (Cj c0) (FW bo) (Fk bo) fun d3 c2 d4 bb au=>?_)
 obtain ⟨bc,bd,rfl⟩:=Own.len bb
 refine Vx (Run.fieldAddr0 D5 rfl)<|have c3:=Y2 bn ah au;Eu (Br (vs:=[Sl bc ((d++([a.1]:List AK))) bd]) (cs':=[Sl bc ((d++([a.1]:List AK))) bd]) AAy rfl rfl rfl rfl (AX (Own.one bb) CQ) c3 dcd rfl rfl fun d5 c4 av=>?_)
 refine AA<|have c5:=Ss Ab (K4 Ab bm af ag ah au) av;have c6:=Os bb av;have c7:=Bs (Y4 cj af ag ah au) av;⟨aa,Nat.lt_succ_self aa,_,c2,a.2.marks,cl,cm,a.2.at_,a.2.why,a.2.where_,a.2.l.text,a.2.l.funcs,a.2.l.arity,a.2.l.nest,a.2.nest,(d++([a.1]:List AK)),bc,bd,Pu,(bh▸c),(T3 (T4 (Mo [1,21,22,24] a3) h ba af ag) ah au av),c5,c6,c7,c4⟩
 refine Bc<|Sr<|have c8:=Bs a6 h;Vx (Run.loadN Gw rfl rfl (Bk.part c8 0 [Sl ac d ad] rfl))<|have c9:=Y3 b0 ak a3 h;have bp:=Os a5 h;Eu (Br (vs:=[Sl ac d ad]) (cs':=[Sl ac d ad]) IS rfl rfl rfl rfl (AX (Own.one bp) CQ) c9 dcd rfl rfl fun d6 da aw=>?_)
 refine AA<|AT<|have db:=Os bp aw; ?_
 obtain ⟨dc,ax,de⟩:=Own.freeze (S:=[24]) db dcd dcd
 obtain rfl:=AP c
 refine have df:=Bs da ax;Ax (B:=B) bx (BG rfl (.agg Gw rfl rfl (Bk.part df 0 [Sl ac d ad] rfl)) ?_)
 refine have dg:=Y3 an h aw ax;have dh:=K3 Ab a4 h aw ax;⟨dc,[Sl ac d ad],[Sl al f am,I o,I m,I p,I q,I r,I u,I w,I y],rfl,Ho (Tn (T4 (Mo [1,20,21,22,24] a0) ak a3 h aw) ax) br,(BS (x:=(AM.mk d)) de),dg,(AN (x:=(AB.mk f o m p (Af.mk q r u w) y)) dh)⟩
theorem M6(d:Nat):Bn.Spec (Bn d):=by
 intro c e a u w y z g hnd hnz f h
 refine Calls.mono (Mj d (recol (see [a]) c) e (Az lbr c) g trivial trivial (A6 f [a] (BD hnd hnz (i:=0) rfl)) (Au An h [a])) ?_
 rintro aa ab ⟨l,m,n,o,p,q,r,s⟩
 exact ⟨glue [a] e c l,m,n,o,Ad p (DS rfl rfl),BB BN q,CK f r dcd,BB An s⟩
def FS.At(c:Col)(a:World)(f:Bts→Af→Option (AM×AD)):Prop:=
 ∀{h:Bts} {v0:Value} {l:Af} {m:List Value} {d:AM×AD},f h l=some d→Slc Kd.u8 c.F a v0 h→LN.rep c.F a m l→
  Calls Tryz.prog 26 #[v0,.agg m.toArray] a fun o e=>∃(g:Col) (n:List Value) (u1:List Value),o=.returned (.tuple #[.agg n.toArray,.agg u1.toArray])∧AQ [] c a g e∧BN.rep g.F e n d.1∧Ag.rep g.F e u1 d.2
def FS.Spec(f:Bts→Af→Option (AM×AD)):Prop:=
 ∀(a:Col) (c:World),FS.At a c f
theorem Qq(ad:Nat)(ae:Col)(a5:World)(u:∀b,ae b<10):FS.At ae a5 (FS ad):=by
 intro af v0 a cm cn c ar a6
 rw [FS] at c
 obtain ⟨a7,a8,rfl⟩:=AG ar
 obtain rfl:=Jj a6
 refine A0 Tryz.func26 rfl Tryz.ntmps26 rfl fun B w f=>Sr<|Ef (Bf ae 20 rfl rfl fun a9 co cq ba s=>?_)
 refine Ef (Aa a9 21 JW rfl fun bb cr ct y q=>?_)
 refine Ef (Aa bb 22 Ep rfl fun ag cu cv z l=>?_)
 refine AA<|Sr<|Vx (Run.fieldAddr0 PT rfl)<|have au:=Y2 ba q l;Vx (Run.load1 B5 rfl (Bk.cell au rfl))<|Vx (v:=I (if a.text<0 then 0 else a.text)) (Run.max rfl rfl)<|Vx (v:=I (if 32768< (if a.text<0 then 0 else a.text) then 32768 else (if a.text<0 then 0 else a.text))) (Run.min rfl rfl)<|Vx (Run.fieldAddr0 PT rfl)<|Eu (St MB au rfl rfl rfl rfl fun bc ah g=>?_)
 refine AA<|AZ<|Sr<|Vm<|have av:=K4 Kd.u8 ar s q l g; ?_
 obtain ⟨cw,cx,bd⟩:=AG av
 refine Vx (v:=I (af.length:Int)) (Run.lenSlc HT bd)<|Vx (Run.fieldAddr0 PT rfl)<|Vx (Run.load1 B5 rfl (Bk.cell ah rfl))<|Vr (.bool (decide ((af.length:Int)>(if 32768< (if a.text<0 then 0 else a.text) then 32768 else (if a.text<0 then 0 else a.text)))))<|AA<|Cn c (fun be c=>?_) fun be c=>?_
 refine AZ<|CJ FL (.q 0 (.q 1 (.q 2 (.q 3 (.one 4 (.one 5 .nil)))))) [5] [21] ag (by kernel_rfl) fun cy aa=>Qx f rfl (v:=.agg [.slice none 0 0].toArray) (fun _ ⟨_,d⟩=>Fm (cs:=[.slice none 0 0]) [.slice none 0 0] JW Vz rfl .nil rfl rfl)<|Qx f rfl (fun _ ⟨_,d⟩=>Run.fieldAddr0 PT rfl)<|have bf:=Bs ah aa;Qx f rfl (fun _ ⟨_,d⟩=>Run.load1 B5 rfl (Bk.cell (Bs bf d) rfl))<|Qx f rfl (v:=.agg [I 22,I (if 32768< (if a.text<0 then 0 else a.text) then 32768 else (if a.text<0 then 0 else a.text))].toArray) (fun _ ⟨_,d⟩=>Fm (cs:=[I 22,I (if 32768< (if a.text<0 then 0 else a.text) then 32768 else (if a.text<0 then 0 else a.text))]) [I 0,I 0] Ep Lq rfl (.cons rfl rfl rfl (.cons rfl rfl rfl .nil)) rfl rfl)<|BX rfl<|have bg:=Y3 y l g aa;Be rfl (.none rfl) rfl (St IS bg rfl rfl rfl rfl fun cz bh ai=>?_)
 refine ⟨⟨_,(Mo [21] ai)⟩,?_⟩
 refine FP dcd<|WY.one<|have bi:=Y3 z g aa ai;Be rfl (.none rfl) rfl (St Gb bi rfl rfl rfl rfl fun c0 bj aw=>?_)
 refine WY.nil<|AT ?_
 obtain rfl:=AP c
 refine have bk:=Bs bh aw;Ax (B:=B) w (EC rfl (.agg Gw rfl rfl (Bk.part bk 0 [.slice none 0 0] rfl)) (.agg J7 rfl rfl (Bk.part bj 0 [I 22,I (if 32768< (if a.text<0 then 0 else a.text) then 32768 else (if a.text<0 then 0 else a.text))] rfl)) ?_)
 exact ⟨ag,[.slice none 0 0],[I 22,I (if 32768< (if a.text<0 then 0 else a.text) then 32768 else (if a.text<0 then 0 else a.text))],rfl,Ho (T2 (T4 (Mo [20,21,22] s) q l g aa) ai aw) u,(BS (x:=(AM.mk [])) CT),(Ah (x:=(AD.mk 22 (if 32768< (if a.text<0 then 0 else a.text) then 32768 else (if a.text<0 then 0 else a.text)))))⟩
 refine WC.skip<|Sr<|Vm<|Bi c fun h bl c=>Ca (AAW [Sl a7 af a8] rfl) (Rz ad ag bc bl av) ?_
 rintro _ c1 ⟨ax,c2,rfl,m,ay⟩
 obtain ⟨aj,ak,rfl⟩:=AG ay
 refine ⟨_,rfl,?_⟩
 refine Vm<|Vr (Sl aj h.1 ak)<|Vr (I h.2)<|Va (Sl aj h.1 ak)<|Va (I h.2)<|AA<|AZ<|Sr<|Vm<|Vr (.bool (decide (h.2≥0)))<|AA<|Cn c (fun bm c=>?_) fun bm c=>?_
 refine Sr<|Vx (v:=.agg [.slice none 0 0].toArray) (Bp JW Vz rfl .nil)<|Vm<|Vx (v:=.agg [I 20,I h.2].toArray) (Bp Ep Lq rfl (.cons rfl rfl rfl (.cons rfl rfl rfl .nil)))<|have bn:=Y3 y l g m;Eu (St IS bn rfl rfl rfl rfl fun c3 bo az=>?_)
 refine have bp:=Y3 z g m az;Eu (St Gb bp rfl rfl rfl rfl fun c4 bq a0=>?_)
 refine AA<|AT ?_
 obtain rfl:=AP c
 refine have br:=Bs bo a0;Ax (B:=B) w (EC rfl (.agg Gw rfl rfl (Bk.part br 0 [.slice none 0 0] rfl)) (.agg J7 rfl rfl (Bk.part bq 0 [I 20,I h.2] rfl)) ?_)
 exact ⟨ax,[.slice none 0 0],[I 20,I h.2],rfl,Ho (T2 (T4 (Mo [20,21,22] s) q l g m) az a0) u,(BS (x:=(AM.mk [])) CT),(Ah (x:=(AD.mk 20 h.2)))⟩
 refine WC.skip<|Sr<|Vm<|have bt:=Bs ah m;Vx (Run.loadN Xb rfl rfl (Bk.part bt 0 [I (if 32768< (if a.text<0 then 0 else a.text) then 32768 else (if a.text<0 then 0 else a.text)),I a.funcs,I a.arity,I a.nest] rfl))<|Vx (v:=.agg [Sl aj h.1 ak,I 0,I 0,I 0,I (if 32768< (if a.text<0 then 0 else a.text) then 32768 else (if a.text<0 then 0 else a.text)),I a.funcs,I a.arity,I a.nest,I 0].toArray) (Bp Zb ZY rfl (.cons rfl rfl rfl (.cons rfl rfl rfl .nil)))<|Ef (Bf ax 23 rfl rfl fun bu bv ab bw p=>?_)
 refine Va (Pt ab 0)<|AA<|Sr<|Vm<|have bx:=Ss Ab ay p;Bi c fun e bz c=>Ca (AAX [Pt ab 0] rfl) (M6 ad bu bv bz dcd dcd bw (AN (x:=(AB.mk h.1 0 0 0 (Af.mk (if 32768< (if a.text<0 then 0 else a.text) then 32768 else (if a.text<0 then 0 else a.text)) a.funcs a.arity a.nest) 0)) bx)) ?_
 rintro _ c5 ⟨b0,c6,c7,rfl,r,b1,b2,b3⟩
 obtain ⟨c8,rfl,a1⟩:=BK b1
 obtain ⟨al,am,rfl⟩:=AG a1
 obtain ⟨c9,rfl,b4⟩:=AS b3
 obtain ⟨da,db,rfl⟩:=AG b4
 refine ⟨_,rfl,?_⟩
 refine Ef (Aa b0 24 JW rfl fun an dc de b5 n=>?_)
 refine have b6:=Ss AL a1 n;Eu (St IS b5 rfl rfl rfl rfl fun df b7 o=>?_)
 refine AA<|AZ<|Sr<|Vm<|Vx (Run.nilCheck rfl)<|Vx (Run.fieldAddr Ia rfl)<|have a2:=Y2 b2 n o;Vx (Run.load1 B5 rfl (Bk.cell a2 rfl))<|Vr (.bool (e.2.why != 0))<|AA<|Cn c (fun b8 c=>?_) fun b8 c=>?_
 refine AZ<|CJ FL (.q 0 (.q 1 (.q 2 (.q 3 (.q 4 (.q 5 (.q 6 (.q 7 (.q 8 (.q 9 (.one 10 (.one 11 .nil)))))))))))) [11] [21] an (by kernel_rfl) fun dg ac=>Qx f rfl (v:=.agg [.slice none 0 0].toArray) (fun _ ⟨_,d⟩=>Fm (cs:=[.slice none 0 0]) [.slice none 0 0] JW Vz rfl .nil rfl rfl)<|Qx f rfl (v:=Pt ab 0) (fun _ ⟨_,d⟩=>Run.move rfl)<|Qx f rfl (fun _ ⟨_,d⟩=>Run.nilCheck rfl)<|Qx f rfl (fun _ ⟨_,d⟩=>Run.fieldAddr Ia rfl)<|have a3:=Bs a2 ac;Qx f rfl (fun _ ⟨_,d⟩=>Run.load1 B5 rfl (Bk.cell (Bs a3 d) rfl))<|Qx f rfl (v:=Pt ab 0) (fun _ ⟨_,d⟩=>Run.move rfl)<|Qx f rfl (fun _ ⟨_,d⟩=>Run.nilCheck rfl)<|Qx f rfl (fun _ ⟨_,d⟩=>Run.fieldAddr Td rfl)<|Qx f rfl (fun _ ⟨_,d⟩=>Run.load1 B5 rfl (Bk.cell (Bs a3 d) rfl))<|Qx f rfl (v:=.agg [I e.2.why,I e.2.where_].toArray) (fun _ ⟨_,d⟩=>Fm (cs:=[I e.2.why,I e.2.where_]) [I 0,I 0] Ep Lq rfl (.cons rfl rfl rfl (.cons rfl rfl rfl .nil)) rfl rfl)<|BX rfl<|have b9:=Y4 (Y4 y l g m p) r n o ac;Be rfl (.none rfl) rfl (St IS b9 rfl rfl rfl rfl fun dh ca ao=>?_)
 refine ⟨⟨_,(Mo [21] ao)⟩,?_⟩
 refine FP dcd<|WY.one<|have cb:=Y4 (Y4 z g m p r) n o ac ao;Be rfl (.none rfl) rfl (St Gb cb rfl rfl rfl rfl fun di cc a4=>?_)
 refine WY.nil<|AT ?_
 obtain rfl:=AP c
 refine have cd:=Bs ca a4;Ax (B:=B) w (EC rfl (.agg Gw rfl rfl (Bk.part cd 0 [.slice none 0 0] rfl)) (.agg J7 rfl rfl (Bk.part cc 0 [I e.2.why,I e.2.where_] rfl)) ?_)
 exact ⟨an,[.slice none 0 0],[I e.2.why,I e.2.where_],rfl,Ho (T3 (T4 (T4 (Mo [20,21,22,23,24] s) q l g m) p r n o) ac ao a4) u,(BS (x:=(AM.mk [])) CT),(Ah (x:=(AD.mk e.2.why e.2.where_)))⟩
 refine WC.skip<|Sr<|Vx (Run.loadN Gw rfl rfl (Bk.part b7 0 [Sl al e.1.funcs am] rfl))<|Vx (v:=.agg [I 0,I 0].toArray) (Bp Ep Lq rfl .nil)<|have cf:=Y3 (Y4 y l g m p) r n o;have cg:=Ss AL b6 o;Eu (St IS cf rfl rfl rfl rfl fun dj ch ap=>?_)
 refine have ci:=Y3 (Y4 z g m p r) n o ap;Eu (St Gb ci rfl rfl rfl rfl fun dk cj aq=>?_)
 refine AA<|AT ?_
 obtain rfl:=AP c
 refine have ck:=Bs ch aq;Ax (B:=B) w (EC rfl (.agg Gw rfl rfl (Bk.part ck 0 [Sl al e.1.funcs am] rfl)) (.agg J7 rfl rfl (Bk.part cj 0 [I 0,I 0] rfl)) ?_)
 refine have cl:=K2 AL cg ap aq;⟨an,[Sl al e.1.funcs am],[I 0,I 0],rfl,Ho (T2 (T4 (T4 (Mo [20,21,22,23,24] s) q l g m) p r n o) ap aq) u,(BS (x:=e.1) cl),(Ah (x:=(AD.mk 0 0)))⟩
theorem Ew(c:Nat):FS.Spec (FS c):=by
 intro a d q v0 r s u e f g
 refine Calls.mono (Qq c (recol (see []) a) d (Az lbr a) e (By Kd.u8 f []) (Au LN g [])) ?_
 rintro w y ⟨h,l,u1,m,n,o,p⟩
 exact ⟨glue [] d a h,l,u1,m,Ad n Ay,BB BN o,BB Ag p⟩
def Fv.At(l:Col)(a:World)(f:Bts→Option (List Bts)):Prop:=
 ∀{c:Bts} {d:(List Bts)},f c=some d→
  Calls Tryz.prog 77 #[Sb c] a fun m e=>∃(g:Col) (h:Value),m=.returned h∧AQ [] l a g e∧Slc CH g.F e h d
def Fv.Spec(f:Bts→Option (List Bts)):Prop:=
 ∀(a:Col) (c:World),Fv.At a c f
theorem Qr(aq:Nat)(ab:Col)(ar:World)(a1:∀b,ab b<10):Fv.At ab ar (Fv aq):=by
 intro e y a
 rw [Fv] at a
 refine A0 Tryz.func77 rfl Tryz.ntmps77 rfl fun B a2 bp=>Sr<|Va (.slice none 0 0)<|AA<|Sr<|Va (.slice none 0 0)<|AA<|Sr<|Va (I 0)<|AA<|AZ<|Sr<|Va (I 0)<|AA<|Aj<|Bt (fun h o z=>∃(f:Env) (p:Col) (d:(List Bts)) (l:Option Addr) (m:Nat) (n:Int) (c:Int),o=f.puts [(0,.string (bs e)),(3,.slice l d.length m),(4,.int .i64 n),(5,.int .i64 c)]∧EF e h d n c=some y∧AQ [21] ab ar p z∧Own CH 9 p z 21 (Sl l d m) d) aq ?_ ?_
 exact ⟨_,ab,([]:List Bts),none,0,0,0,Pu,a,(AQ.refl [21] _ _),Own.nil⟩
 rintro h _ z ⟨f,p,d,l,m,n,c,rfl,a,au,ac⟩
 rcases h with _|h
 exact BC a
 refine have a:E1 e (EF e h) d n c=some y:=a; ?_
 obtain ⟨ak,av⟩:∃s,s=EF e h:=⟨_,rfl⟩
 rw [←av,E1] at a
 refine AZ<|Sr<|Vm<|Vm<|Vx (v:=I (e.length:Int)) (Run.lenStr Iv rfl)<|Vr (.bool (decide (c≤(e.length:Int))))<|AA<|Cn a (fun a3 a=>?_) fun a3 a=>?_
 refine WC.skip<|Ao (fun o al=>∃(f:Env) (ad:Col) (r:(List Bts)) (ae:Option Addr) (af:Nat) (ag:Int),o=f.puts [(0,.string (bs e)),(3,.slice ae r.length af),(4,.int .i64 ag),(5,.int .i64 c)]∧HF c ak r ag=some y∧AQ [21] p z ad al∧Own CH 9 ad al 21 (Sl ae r af) r) ?_ ?_
 refine Aj<|AZ<|Ao (fun o am=>∃(f:Env) (u:Col) (an:Bool),o=f.puts [(0,.string (bs e)),(3,.slice l d.length m),(4,.int .i64 n),(5,.int .i64 c),(21,.bool an)]∧GE e d n c ak an=some y∧AQ [] p z u am) ?_ ?_
 refine AO<|Vm<|Vm<|Vx (v:=I (e.length:Int)) (Run.lenStr Iv rfl)<|Vr (.bool (decide (c< (e.length:Int))))<|Vm<|Bo a (fun g a=>?_) fun g a=>?_
 refine Gm g<|Gm g<|Bi a fun ao a4 a=>Gx g (v:=.int .u8 (ao.toNat:Int)) (Run.indexBs Iv rfl rfl a4)<|Gr g (.bool ((ao.toNat:Int) != ((32:UInt8).toNat:Int)))<|Vp g<|AA<|⟨_,p,((ao.toNat:Int) != ((32:UInt8).toNat:Int)),Pu,a,(AQ.refl [] _ _)⟩
 refine Pg g<|Pg g<|Pg g<|Pg g<|Vp g<|AA<|⟨_,p,false,Pu,a,(AQ.refl [] _ _)⟩
 rintro _ am ⟨f,u,an,rfl,a,aa⟩
 rw [GE] at a
 refine Cn a (fun a5 a=>?_) fun a5 a=>?_
 refine Bc<|have a6:=Os ac aa;⟨_,u,d,l,m,n,Pu,a,(Mo [21] aa),a6⟩
 refine WC.skip<|Ao (fun o ap=>∃(f:Env) (ah:Col) (w:(List Bts)) (ai:Option Addr) (aj:Nat),o=f.puts [(0,.string (bs e)),(3,.slice ai w.length aj),(5,.int .i64 c)]∧HG c ak w=some y∧AQ [21] u am ah ap∧Own CH 9 ah ap 21 (Sl ai w aj) w) ?_ ?_
 refine Sr<|Vm<|Vm<|Vr (.bool (decide (c>n)))<|AA<|Cn a (fun a7 a=>?_) fun a7 a=>?_
 refine AO<|Vm<|Vm<|Vm<|Vm<|Bi a fun q a8 a=>Vx (v:=Sb q) (Run.sliceStr Iv rfl ⟨_,rfl⟩ ⟨_,rfl⟩ a8)<|Ef (DC (cs:=[Sb q]) u 20 [[Sb q]] Hi Oz rfl rfl (.cons rfl rfl rfl .nil) rfl fun a9 ba bb bc aw=>?_)
 refine have bd:Own CH 9 a9 ba 20 (.slice (some ⟨bb,0,none⟩) 1 1) ([q]:List Bts):=Own.lit (css:=[[Sb q]]) bc rfl rfl rfl (AW rfl BE) (A2 rfl ED) rfl;have be:=Os (Os ac aa) aw;Bi a fun bq ax a=>Ef (Bx (κ:=CH) rfl rfl be dcd UE (Cj bd) (FW ax) (Fk ax) fun br bf bt ay bg=>?_)
 obtain ⟨az,a0,rfl⟩:=Own.len ay
 refine Va (Sl az ((d++([q]:List Bts))) a0)<|AA<|⟨_,bf,(d++([q]:List Bts)),az,a0,Pu,a,(Tn (Mo [21] aw) bg),ay⟩
 refine WC.skip<|have bh:=Os ac aa;⟨_,u,d,l,m,Pu,a,(AQ.refl [21] _ _),bh⟩
 rintro _ ap ⟨f,ah,w,ai,aj,rfl,a,bi,bj⟩
 rw [HG] at a
 refine AO<|Vm<|Vr (I (Wr (c+1)))<|Va (I (Wr (c+1)))<|AA<|⟨_,ah,w,ai,aj,(Wr (c+1)),Pu,a,(Tn (Mo [21] aa) bi),bj⟩
 rintro _ al ⟨f,ad,r,ae,af,ag,rfl,a,bk,bl⟩
 rw [HF] at a
 refine AO<|Vm<|Vr (I (Wr (c+1)))<|Va (I (Wr (c+1)))<|AA<|⟨h,Nat.lt_succ_self h,_,ad,r,ae,af,ag,(Wr (c+1)),Pu,(av▸a),(Tn (Mo [21] au) bk),bl⟩
 refine Bc<|Sr<|Vm<|Va (Sl l d m)<|AA<|AT ?_
 obtain ⟨bm,bn,bo⟩:=Own.freeze (S:=[21]) ac dcd dcd
 obtain rfl:=AP a
 refine Ax (B:=B) a2 (BG rfl (.tmp rfl) ?_)
 exact ⟨bm,Sl l d m,rfl,Ho (Tn (Mo [21] au) bn) a1,bo⟩
theorem R1(c:Nat):Fv.Spec (Fv c):=by
 intro a d n o e
 refine Calls.mono (Qr c (recol (see []) a) d (Az lbr a) e) ?_
 rintro p q ⟨f,g,h,l,m⟩
 exact ⟨glue [] d a f,g,h,Ad l Ay,DV CH m⟩
def HY.At(e:Col)(c:World)(f:Nat→Option (Int×Bool)):Prop:=
 ∀{d:Nat} {a:Int×Bool},f d=some a→
  Calls Tryz.prog 64 #[Fl d] c fun g h=>∃(l:Col),g=.returned (.tuple #[I a.1,.bool a.2])∧AQ [] e c l h
def HY.Spec(f:Nat→Option (Int×Bool)):Prop:=
 ∀(a:Col) (c:World),HY.At a c f
theorem R2(f:Col)(p:World)(q:∀b,f b<10):HY.At f p HY:=by
 intro c y a
 rw [HY] at a
 refine A0 Tryz.func64 rfl Tryz.ntmps64 rfl fun B r ac=>Sr<|Va (I 0)<|Va (.bool false)<|AA<|AZ<|Ao (fun z s=>∃(u:Env) (n:Col) (o:Bool),z=u.puts [(0,.float .f64 c),(20,.bool o)]∧G0 c o=some y∧AQ [] f p n s) ?_ ?_
 refine AO<|Vm<|Vr (.bool (fge c (13938640846711685120:Nat)))<|Vm<|Bo a (fun l a=>?_) fun l a=>?_
 refine Gm l<|Gr l (.bool (fle c (4715268809856909312:Nat)))<|Vp l<|Vr (.bool (!(fle c (4715268809856909312:Nat))))<|Vm<|Bo a (fun d a=>?_) fun d a=>?_
 refine Pg d<|Pg d<|Pg d<|Po<|Po<|Po<|Pg d<|Vp d<|AA<|⟨_,f,true,Pu,a,(AQ.refl [] _ _)⟩
 refine Gm d<|Gr d (.bool (feq c (0:Nat)))<|Gm d<|Bo a (fun g a=>?_) fun g a=>?_
 refine Gm g<|Gx g (v:=.int .u64 ((c:Nat):Int)) (OF (vs:=[Fl c]) rfl rfl)<|Gr g (.bool (((c:Nat):Int) != 0))<|Gp d g<|Vp d<|AA<|⟨_,f,(((c:Nat):Int) != 0),Pu,a,(AQ.refl [] _ _)⟩
 refine Pg g<|Pg g<|Pg g<|Gp d g<|Vp d<|AA<|⟨_,f,false,Pu,a,(AQ.refl [] _ _)⟩
 refine Pg l<|Pg l<|Vp l<|Vr (.bool (!false))<|Vm<|Bo a (fun e a=>?_) fun e a=>?_
 refine Pg e<|Pg e<|Pg e<|Po<|Po<|Po<|Pg e<|Vp e<|AA<|⟨_,f,true,Pu,a,(AQ.refl [] _ _)⟩
 refine Gm e<|Gr e (.bool (feq c (0:Nat)))<|Gm e<|Bo a (fun h a=>?_) fun h a=>?_
 refine Gm h<|Gx h (v:=.int .u64 ((c:Nat):Int)) (OF (vs:=[Fl c]) rfl rfl)<|Gr h (.bool (((c:Nat):Int) != 0))<|Gp e h<|Vp e<|AA<|⟨_,f,(((c:Nat):Int) != 0),Pu,a,(AQ.refl [] _ _)⟩
 refine Pg h<|Pg h<|Pg h<|Gp e h<|Vp e<|AA<|⟨_,f,false,Pu,a,(AQ.refl [] _ _)⟩
 rintro _ s ⟨u,n,o,rfl,a,w⟩
 rw [G0] at a
 refine Cn a (fun aa a=>?_) fun aa a=>?_
 refine Sr<|Va (I 0)<|Va (.bool false)<|AA<|AT ?_
 obtain rfl:=AP a
 refine Ax (B:=B) r (EC rfl (.tmp rfl) (.tmp rfl) ?_)
 exact ⟨n,rfl,Ho (Mo [] w) q⟩
 refine WC.skip<|Sr<|Vm<|Bi a fun m ab a=>Vx (v:=I m) (Run.f2i rfl Vv ab)<|Va (I m)<|AA<|Sr<|Vm<|Vm<|Vr (Fl (FloatKind.f64.nearest m))<|Vm<|Vr (.bool (feq (FloatKind.f64.nearest m) c))<|Va (I m)<|Va (.bool (feq (FloatKind.f64.nearest m) c))<|AA<|AT ?_
 obtain rfl:=AP a
 refine Ax (B:=B) r (EC rfl (.tmp rfl) (.tmp rfl) ?_)
 exact ⟨n,rfl,Ho (Mo [] w) q⟩
theorem O1:HY.Spec HY:=by
 intro a c h l d
 refine Calls.mono (R2 (recol (see []) a) c (Az lbr a) d) ?_
 rintro m n ⟨e,f,g⟩
 exact ⟨glue [] c a e,f,Ad g Ay⟩
def EU.At(l:Col)(c:World)(f:(Nat×Nat)→Option (Ai×Bool)):Prop:=
 ∀{d:(Nat×Nat)} {a:Ai×Bool},f d=some a→
  Calls Tryz.prog 39 #[Cx d] c fun m e=>∃(g:Col) (h:List Value),m=.returned (.tuple #[.agg h.toArray,.bool a.2])∧AQ [] l c g e∧HV.rep g.F e h a.1
def EU.Spec(f:(Nat×Nat)→Option (Ai×Bool)):Prop:=
 ∀(a:Col) (c:World),EU.At a c f
theorem UN(n:Col)(z:World)(q:∀b,n b<10):EU.At n z EU:=by
 intro f aa a
 rw [EU] at a
 refine A0 Tryz.func39 rfl Tryz.ntmps39 rfl fun B r ar=>Sr<|Ef (Aa n 20 Ih rfl fun ab ac ad s u=>?_)
 refine Va (.bool false)<|AA<|Sr<|Vm<|Vx (v:=Fl f.1) (Run.real rfl)<|Bi a fun d ae a=>Ca (Xg [Fl f.1] rfl) (O1 ab ac ae) ?_
 rintro _ af ⟨ag,rfl,g⟩
 refine ⟨_,rfl,?_⟩
 refine Vm<|Vr (I d.1)<|Vr (.bool d.2)<|Va (I d.1)<|Va (.bool d.2)<|AA<|Sr<|Vm<|Vx (v:=Fl f.2) (Run.imag rfl)<|Bi a fun c ah a=>Ca (Xg [Fl f.2] rfl) (O1 ag af ah) ?_
 rintro _ ai ⟨o,rfl,h⟩
 refine ⟨_,rfl,?_⟩
 refine Vm<|Vr (I c.1)<|Vr (.bool c.2)<|Va (I c.1)<|Va (.bool c.2)<|AA<|AZ<|Ao (fun aj w=>∃(y:Env) (l:Col) (p:Bool),aj=y.puts [(2,.pointer (some ⟨ad,0,none⟩)),(4,.int .i64 d.1),(6,.int .i64 c.1),(25,.bool p)]∧MQ d c p=some aa∧AQ [] o ai l w) ?_ ?_
 refine AO<|Vm<|Vr (.bool (!d.2))<|Vm<|Bo a (fun e a=>?_) fun e a=>?_
 refine Pg e<|Pg e<|Vp e<|AA<|⟨_,o,true,Pu,a,(AQ.refl [] _ _)⟩
 refine Gm e<|Gr e (.bool (!c.2))<|Vp e<|AA<|⟨_,o,(!c.2),Pu,a,(AQ.refl [] _ _)⟩
 rintro _ w ⟨y,l,p,rfl,a,m⟩
 rw [MQ] at a
 refine Cn a (fun ak a=>?_) fun ak a=>?_
 refine Sr<|Vx (v:=.agg [I 0,I 0].toArray) (Bp Ih NI rfl .nil)<|have al:=Y3 s g h m;Eu (St Ix al rfl rfl rfl rfl fun au am an=>?_)
 refine Va (.bool false)<|AA<|AT ?_
 obtain rfl:=AP a
 refine Ax (B:=B) r (EC rfl (.agg JV rfl rfl (Bk.part am 0 [I 0,I 0] rfl)) (.tmp rfl) ?_)
 exact ⟨l,[I 0,I 0],rfl,Ho (T4 (Mo [20] u) g h m an) q,(E8 (x:=(Ai.mk 0 0)))⟩
 refine WC.skip<|Sr<|Vm<|Vm<|Vx (v:=.agg [I d.1,I c.1].toArray) (Bp Ih NI rfl (.cons rfl rfl rfl (.cons rfl rfl rfl .nil)))<|have ao:=Y3 s g h m;Eu (St Ix ao rfl rfl rfl rfl fun av ap aq=>?_)
 refine Va (.bool true)<|AA<|AT ?_
 obtain rfl:=AP a
 refine Ax (B:=B) r (EC rfl (.agg JV rfl rfl (Bk.part ap 0 [I d.1,I c.1] rfl)) (.tmp rfl) ?_)
 exact ⟨l,[I d.1,I c.1],rfl,Ho (T4 (Mo [20] u) g h m aq) q,(E8 (x:=(Ai.mk d.1 c.1)))⟩
theorem OO:EU.Spec EU:=by
 intro a c m n d
 refine Calls.mono (UN (recol (see []) a) c (Az lbr a) d) ?_
 rintro o p ⟨e,f,g,h,l⟩
 exact ⟨glue [] c a e,f,g,Ad h Ay,BB HV l⟩
def B1.At(c:Col)(a:World)(f:AI→Option Bool):Prop:=
 ∀{d:AI} {e:List Value} {g:Bool},f d=some g→A1.rep c.F a e d→
  Calls Tryz.prog 17 #[.agg e.toArray] a fun h l=>∃(m:Col),h=.returned (.bool g)∧AQ [] c a m l
def B1.Spec(f:AI→Option Bool):Prop:=
 ∀(a:Col) (c:World),B1.At a c f
theorem Qs(aw:Nat)(al:Col)(bc:World)(ag:∀b,al b<10):B1.At al bc (B1 aw):=by
 intro c ca y a bd
 rw [B1] at a
 obtain ⟨cb,rfl,ax⟩:=CU bd
 obtain ⟨cc,cd,rfl⟩:=AG ax
 refine A0 Tryz.func17 rfl Tryz.ntmps17 rfl fun B ah cf=>Sr<|Ef (Bf al 20 rfl rfl fun be bf ay az ad=>?_)
 refine Va (.bool false)<|AA<|Sr<|Vx (Run.fieldAddr Jf rfl)<|Vx (Run.load1 Jo rfl (Bk.cell az rfl))<|Bi a fun ae bg a=>Ca (Vn [Cx c.num] rfl) (OO be bf bg) ?_
 rintro _ cg ⟨bh,ch,rfl,z,bi⟩
 obtain rfl:=Gz bi
 refine ⟨_,rfl,?_⟩
 refine Vm<|Vr (.agg [I ae.1.re,I ae.1.im].toArray)<|Vr (.bool ae.2)<|Ef (Aa bh 21 Ih rfl fun a0 ci cj bj aa=>?_)
 refine Eu (St Ix bj rfl rfl rfl rfl fun bk ck ab=>?_)
 refine Va (.bool ae.2)<|AA<|AZ<|Sr<|Va (I 0)<|AA<|Aj<|Bt (fun r l u=>∃(e:Env) (d:Col) (ai:Bool) (f:Int),l=e.puts [(1,.pointer (some ⟨ay,0,none⟩)),(4,.bool ai),(5,.int .i64 f)]∧Eg c r ai f=some y∧AQ [22] a0 bk d u) aw ?_ ?_
 exact ⟨_,a0,ae.2,0,Pu,a,(AQ.refl [22] _ _)⟩
 rintro r _ u ⟨e,d,ai,f,rfl,a,w⟩
 rcases r with _|r
 exact BC a
 refine have a:E3 c (Eg c r) ai f=some y:=a; ?_
 obtain ⟨bl,a1⟩:∃s,s=Eg c r:=⟨_,rfl⟩
 rw [←a1,E3] at a
 refine AZ<|Sr<|Vm<|Vx (Run.fieldAddr IM rfl)<|have m:=Y4 az z aa ab w;Vx (Run.load1 LT rfl (Bk.cell m rfl))<|have aj:=Ss Kd.cpx (K4 Kd.cpx ax ad z aa ab) w; ?_
 obtain ⟨cl,cm,bm⟩:=AG aj
 refine Vx (v:=I (c.list.length:Int)) (Run.lenSlc LB bm)<|Vr (.bool (decide (f< (c.list.length:Int))))<|AA<|Cn a (fun bn a=>?_) fun bn a=>?_
 refine WC.skip<|Ao (fun l a2=>∃(e:Env) (am:Col) (ak:Bool),l=e.puts [(1,.pointer (some ⟨ay,0,none⟩)),(4,.bool ak),(5,.int .i64 f)]∧HH f bl ak=some y∧AQ [22] d u am a2) ?_ ?_
 refine Aj<|Sr<|Vx (Run.fieldAddr IM rfl)<|Vx (Run.load1 LT rfl (Bk.cell m rfl))<|Vm<|Bi a fun a3 bo a=>?_
 obtain ⟨bp,bq,cn,a4,br,bt,bu,bv,an⟩:=BL (κ:=Kd.cpx) aj bo
 replace an:A8 d u bp (bq+f.toNat*1) a4:=an
 obtain rfl:=(show a4=[Cx a3] from bv)
 refine Vx (Run.indexAddr LB br rfl bt bu)<|Vx (Run.load1 Jo rfl (A8.cell0 an rfl))<|Bi a fun ac bw a=>Ca (Vn [Cx a3] rfl) (OO d u bw) ?_
 rintro _ co ⟨bx,cq,rfl,a5,bz⟩
 obtain rfl:=Gz bz
 refine ⟨_,rfl,?_⟩
 refine Vm<|Vr (.agg [I ac.1.re,I ac.1.im].toArray)<|Vr (.bool ac.2)<|Ef (Aa bx 22 Ih rfl fun a6 cr ct b0 a7=>?_)
 refine Eu (St Ix b0 rfl rfl rfl rfl fun cu cv a8=>?_)
 refine Va (.bool ac.2)<|AA<|AO<|Vm<|Vm<|Bo a (fun af a=>?_) fun af a=>?_
 refine Gm af<|Vp af<|Va (.bool ac.2)<|AA<|⟨_,a6,ac.2,Pu,a,(T2 (Mo [22] a5) a7 a8)⟩
 refine Pg af<|Vp af<|Va (.bool false)<|AA<|⟨_,a6,false,Pu,a,(T2 (Mo [22] a5) a7 a8)⟩
 rintro _ a2 ⟨e,am,ak,rfl,a,b1⟩
 rw [HH] at a
 refine AO<|Vm<|Vr (I (Wr (f+1)))<|Va (I (Wr (f+1)))<|AA<|⟨r,Nat.lt_succ_self r,_,am,ak,(Wr (f+1)),Pu,(a1▸a),(Tn (Mo [22] w) b1)⟩
 refine Bc<|AZ<|Sr<|Vx (Run.fieldAddr0 JH rfl)<|Vx (Run.load1 EA rfl (Bk.cell m rfl))<|AA<|Aj<|Sr<|Vr (.bool (c.type_==1))<|Va (.bool (c.type_==1))<|AA<|Cn a (fun b2 a=>?_) fun b2 a=>?_
 refine Ao (fun l a9=>∃(e:Env) (ao:Col) (ap:Bool),l=e.puts [(2,.bool ap)]∧Iz ap=some y∧AQ [] d u ao a9) ?_ ?_
 refine AO<|Vm<|Vm<|Bo a (fun n a=>?_) fun n a=>?_
 refine Gx n (Run.fieldAddr M2 rfl)<|Gx n (Run.load1 Rr rfl (Bk.cell m rfl))<|Gr n (.bool (!c.bool))<|Vp n<|Vm<|Bo a (fun g a=>?_) fun g a=>?_
 refine Gx g (Run.fieldAddr IM rfl)<|Gx g (Run.load1 LT rfl (Bk.cell m rfl)) ?_
 obtain ⟨cw,cx,b3⟩:=AG aj
 refine Gx g (v:=I (c.list.length:Int)) (Run.lenSlc LB b3)<|Gr g (.bool ((c.list.length:Int)==0))<|Vp g<|Va (.bool ((c.list.length:Int)==0))<|AA<|⟨_,d,((c.list.length:Int)==0),Pu,a,(AQ.refl [] _ _)⟩
 refine Pg g<|Pg g<|Pg g<|Pg g<|Vp g<|Va (.bool false)<|AA<|⟨_,d,false,Pu,a,(AQ.refl [] _ _)⟩
 refine Pg n<|Pg n<|Pg n<|Vp n<|Vm<|Pg rfl<|Pg rfl<|Pg rfl<|Pg rfl<|Vr (.bool false)<|Va (.bool false)<|AA<|⟨_,d,false,Pu,a,(AQ.refl [] _ _)⟩
 rintro _ a9 ⟨e,ao,ap,rfl,a,b4⟩
 rw [Iz] at a
 refine AT ?_
 obtain rfl:=AP a
 refine Ax (B:=B) ah (BG rfl (.tmp rfl) ?_)
 exact ⟨ao,rfl,Ho (Tn (T4 (Mo [21,22] ad) z aa ab w) b4) ag⟩
 refine Sr<|Vr (.bool (c.type_==2))<|Va (.bool (c.type_==2))<|AA<|Cn a (fun b5 a=>?_) fun b5 a=>?_
 refine Ao (fun l ba=>∃(e:Env) (aq:Col) (ar:Bool),l=e.puts [(2,.bool ar)]∧I0 ar=some y∧AQ [] d u aq ba) ?_ ?_
 refine AO<|Vm<|Vm<|Bo a (fun o a=>?_) fun o a=>?_
 refine Gx o (Run.fieldAddr Jf rfl)<|Gx o (Run.load1 Jo rfl (Bk.cell m rfl))<|Gx o (v:=.bool (ceq c.num ((0,0):Nat×Nat))) (Run.ceq rfl rfl)<|Vp o<|Vm<|Bo a (fun h a=>?_) fun h a=>?_
 refine Gx h (Run.fieldAddr IM rfl)<|Gx h (Run.load1 LT rfl (Bk.cell m rfl)) ?_
 obtain ⟨cy,cz,b6⟩:=AG aj
 refine Gx h (v:=I (c.list.length:Int)) (Run.lenSlc LB b6)<|Gr h (.bool ((c.list.length:Int)==0))<|Vp h<|Va (.bool ((c.list.length:Int)==0))<|AA<|⟨_,d,((c.list.length:Int)==0),Pu,a,(AQ.refl [] _ _)⟩
 refine Pg h<|Pg h<|Pg h<|Pg h<|Vp h<|Va (.bool false)<|AA<|⟨_,d,false,Pu,a,(AQ.refl [] _ _)⟩
 refine Pg o<|Pg o<|Pg o<|Vp o<|Vm<|Pg rfl<|Pg rfl<|Pg rfl<|Pg rfl<|Vr (.bool false)<|Va (.bool false)<|AA<|⟨_,d,false,Pu,a,(AQ.refl [] _ _)⟩
 rintro _ ba ⟨e,aq,ar,rfl,a,b7⟩
 rw [I0] at a
 refine AT ?_
 obtain rfl:=AP a
 refine Ax (B:=B) ah (BG rfl (.tmp rfl) ?_)
 exact ⟨aq,rfl,Ho (Tn (T4 (Mo [21,22] ad) z aa ab w) b7) ag⟩
 refine Sr<|Vr (.bool (c.type_==3))<|Va (.bool (c.type_==3))<|AA<|Cn a (fun b8 a=>?_) fun b8 a=>?_
 refine Ao (fun l bb=>∃(e:Env) (au:Col) (av:Bool),l=e.puts [(2,.bool av)]∧I1 av=some y∧AQ [] d u au bb) ?_ ?_
 refine AO<|Vm<|Vm<|Bo a (fun p a=>?_) fun p a=>?_
 refine Gx p (Run.fieldAddr Jf rfl)<|Gx p (Run.load1 Jo rfl (Bk.cell m rfl))<|Gx p (v:=.bool (ceq c.num ((0,0):Nat×Nat))) (Run.ceq rfl rfl)<|Vp p<|Vm<|Bo a (fun q a=>?_) fun q a=>?_
 refine Gx q (Run.fieldAddr M2 rfl)<|Gx q (Run.load1 Rr rfl (Bk.cell m rfl))<|Gr q (.bool (!c.bool))<|Vp q<|Va (.bool (!c.bool))<|AA<|⟨_,d,(!c.bool),Pu,a,(AQ.refl [] _ _)⟩
 refine Pg q<|Pg q<|Pg q<|Vp q<|Va (.bool false)<|AA<|⟨_,d,false,Pu,a,(AQ.refl [] _ _)⟩
 refine Pg p<|Pg p<|Pg p<|Vp p<|Vm<|Pg rfl<|Pg rfl<|Pg rfl<|Vr (.bool false)<|Va (.bool false)<|AA<|⟨_,d,false,Pu,a,(AQ.refl [] _ _)⟩
 rintro _ bb ⟨e,au,av,rfl,a,b9⟩
 rw [I1] at a
 refine AT ?_
 obtain rfl:=AP a
 refine Ax (B:=B) ah (BG rfl (.tmp rfl) ?_)
 exact ⟨au,rfl,Ho (Tn (T4 (Mo [21,22] ad) z aa ab w) b9) ag⟩
 refine WC.skip<|Sr<|Va (.bool false)<|AA<|AT ?_
 obtain rfl:=AP a
 refine Ax (B:=B) ah (BG rfl (.tmp rfl) ?_)
 exact ⟨d,rfl,Ho (T4 (Mo [21,22] ad) z aa ab w) ag⟩
theorem MF(c:Nat):B1.Spec (B1 c):=by
 intro a d m n o e f
 refine Calls.mono (Qs c (recol (see []) a) d (Az lbr a) e (Au A1 f [])) ?_
 rintro p q ⟨g,h,l⟩
 exact ⟨glue [] d a g,h,Ad l Ay⟩
def D6.At(e:Col)(a:World)(f:(Nat×Nat)→Option Bts):Prop:=
 ∀{c:(Nat×Nat)} {d:Bts},f c=some d→
  Calls Tryz.prog 110 #[Cx c] a fun g h=>∃(l:Col),g=.returned (Sb d)∧AQ [] e a l h
def D6.Spec(f:(Nat×Nat)→Option Bts):Prop:=
 ∀(a:Col) (c:World),D6.At a c f
theorem QB(e:Nat)(d:Col)(f:World)(g:∀b,d b<10):D6.At d f (D6 e):=by
 intro h ad c
 rw [D6] at c
 refine A0 Tryz.func110 rfl Tryz.ntmps110 rfl fun B l ae=>Sr<|Va (Sb ([]:List UInt8))<|AA<|Sr<|Vm<|Bi c fun a m c=>Ca (Vn [Cx h] rfl) (OO d f m) ?_
 rintro _ af ⟨n,ag,rfl,o,p⟩
 obtain rfl:=Gz p
 refine ⟨_,rfl,?_⟩
 refine Vm<|Vr (.agg [I a.1.re,I a.1.im].toArray)<|Vr (.bool a.2)<|Ef (Aa n 20 Ih rfl fun q ah ai r s=>?_)
 refine Eu (St Ix r rfl rfl rfl rfl fun u w y=>?_)
 refine Va (.bool a.2)<|AA<|Sr<|Vx (Run.loadN JV rfl rfl (Bk.part w 0 [I a.1.re,I a.1.im] rfl))<|Bi c fun z aa c=>Ca (WI [.agg [I a.1.re,I a.1.im].toArray] rfl) (O0 e q u aa (E8 (x:=a.1))) ?_
 rintro _ aj ⟨ab,rfl,ac⟩
 refine ⟨_,rfl,?_⟩
 refine Va (Sb z)<|AA<|AT ?_
 obtain rfl:=AP c
 refine Ax (B:=B) l (BG rfl (.tmp rfl) ?_)
 exact ⟨ab,rfl,Ho (T3 (Mo [20] o) s y ac) g⟩
theorem Nc(c:Nat):D6.Spec (D6 c):=by
 intro a d l m e
 refine Calls.mono (QB c (recol (see []) a) d (Az lbr a) e) ?_
 rintro n o ⟨f,g,h⟩
 exact ⟨glue [] d a f,g,Ad h Ay⟩
def GG.At(d:Col)(a:World)(f:AI→Option (Bts×Int)):Prop:=
 ∀{e:AI} {g:List Value} {c:Bts×Int},f e=some c→A1.rep d.F a g e→
  Calls Tryz.prog 78 #[.agg g.toArray] a fun h l=>∃(m:Col),h=.returned (.tuple #[Sb c.1,I c.2])∧AQ [] d a m l
def GG.Spec(f:AI→Option (Bts×Int)):Prop:=
 ∀(a:Col) (c:World),GG.At a c f
theorem R3(e:Nat)(ad:Col)(ba:World)(p:∀b,ad b<10):GG.At ad ba (GG e):=by
 intro c co ae a bb
 rw [GG] at a
 obtain ⟨cq,rfl,al⟩:=CU bb
 obtain ⟨am,an,rfl⟩:=AG al
 refine A0 Tryz.func78 rfl Tryz.ntmps78 rfl fun B q cr=>Sr<|Ef (Bf ad 20 rfl rfl fun bc bd ao ap m=>?_)
 refine Va (Sb ([]:List UInt8))<|Va (I 0)<|AA<|AZ<|Sr<|Vx (Run.loadN D9 rfl rfl (Bk.part ap 0 [I c.type_,Cx c.num,.bool c.bool,Sl am c.list an] rfl))<|have aq:=Ss Kd.cpx al m;Bi a fun be bf a=>Ca (Vl [.agg [I c.type_,Cx c.num,.bool c.bool,Sl am c.list an].toArray] rfl) (MF e bc bd bf (BP (x:=c) aq)) ?_
 rintro _ ar ⟨n,rfl,h⟩
 refine ⟨_,rfl,?_⟩
 refine Vr (.bool (!be))<|AA<|Cn a (fun bg a=>?_) fun bg a=>?_
 refine Sr<|Va (Sb ([]:List UInt8))<|Va (I 3)<|AA<|AT ?_
 obtain rfl:=AP a
 refine Ax (B:=B) q (EC rfl (.tmp rfl) (.tmp rfl) ?_)
 exact ⟨n,rfl,Ho (Tn (Mo [] m) h) p⟩
 refine WC.skip<|AZ<|Sr<|Vx (Run.fieldAddr0 JH rfl)<|have y:=Bs ap h;Vx (Run.load1 EA rfl (Bk.cell y rfl))<|AA<|Aj<|Sr<|Vr (.bool (c.type_==1))<|Va (.bool (c.type_==1))<|AA<|Cn a (fun bh a=>?_) fun bh a=>?_
 refine Sr<|Vx (Run.fieldAddr Jf rfl)<|Vx (Run.load1 Jo rfl (Bk.cell y rfl))<|Bi a fun bi bj a=>Ca (WJ [Cx c.num] rfl) (Nc e n ar bj) ?_
 rintro _ ct ⟨bk,rfl,bl⟩
 refine ⟨_,rfl,?_⟩
 refine Va (Sb bi)<|Va (I 0)<|AA<|AT ?_
 obtain rfl:=AP a
 refine Ax (B:=B) q (EC rfl (.tmp rfl) (.tmp rfl) ?_)
 exact ⟨bk,rfl,Ho (T2 (Mo [] m) h bl) p⟩
 refine Sr<|Vr (.bool (c.type_==2))<|Va (.bool (c.type_==2))<|AA<|Cn a (fun bm a=>?_) fun bm a=>?_
 refine AZ<|Sr<|Vx (Run.fieldAddr M2 rfl)<|Vx (Run.load1 Rr rfl (Bk.cell y rfl))<|AA<|Cn a (fun bn a=>?_) fun bn a=>?_
 refine Sr<|Va (Sb ([116,114,117,101]:List UInt8))<|Va (I 0)<|AA<|AT ?_
 obtain rfl:=AP a
 refine Ax (B:=B) q (EC rfl (.tmp rfl) (.tmp rfl) ?_)
 exact ⟨n,rfl,Ho (Tn (Mo [] m) h) p⟩
 refine WC.skip<|Sr<|Va (Sb ([102,97,108,115,101]:List UInt8))<|Va (I 0)<|AA<|AT ?_
 obtain rfl:=AP a
 refine Ax (B:=B) q (EC rfl (.tmp rfl) (.tmp rfl) ?_)
 exact ⟨n,rfl,Ho (Tn (Mo [] m) h) p⟩
 refine WC.skip<|Sr<|Va (.slice none 0 0)<|AA<|AZ<|Sr<|Va (I 0)<|AA<|Aj<|Bt (fun g af z=>∃(r:Env) (o:Col) (f:Bts) (aa:Option Addr) (ab:Nat) (d:Int),af=r.puts [(1,.pointer (some ⟨ao,0,none⟩)),(4,.slice aa f.length ab),(5,.int .i64 d)]∧E4 e c g f d=some ae∧AQ [22] n ar o z∧Own Kd.u8 5 o z 22 (Sl aa f ab) f) e ?_ ?_
 exact ⟨_,n,([]:List UInt8),none,0,0,Pu,a,(AQ.refl [22] _ _),Own.nil⟩
 rintro g _ z ⟨r,o,f,aa,ab,d,rfl,a,ac,ag⟩
 rcases g with _|g
 exact BC a
 refine have a:FZ e c (E4 e c g) f d=some ae:=a; ?_
 obtain ⟨bo,au⟩:∃s,s=E4 e c g:=⟨_,rfl⟩
 rw [←au,FZ] at a
 refine AZ<|Sr<|Vm<|Vx (Run.fieldAddr IM rfl)<|have av:=Bs y ac;Vx (Run.load1 LT rfl (Bk.cell av rfl))<|have aw:=K2 Kd.cpx aq h ac; ?_
 obtain ⟨cu,cv,bp⟩:=AG aw
 refine Vx (v:=I (c.list.length:Int)) (Run.lenSlc LB bp)<|Vr (.bool (decide (d< (c.list.length:Int))))<|AA<|Cn a (fun bq a=>?_) fun bq a=>?_
 refine WC.skip<|AZ<|Aj<|Ao (fun af u=>∃(r:Env) (w:Col) (l:Bts) (ah:Option Addr) (ai:Nat),af=r.puts [(1,.pointer (some ⟨ao,0,none⟩)),(4,.slice ah l.length ai),(5,.int .i64 d)]∧G3 e c d bo l=some ae∧AQ [22] o z w u∧Own Kd.u8 5 w u 22 (Sl ah l ai) l) ?_ ?_
 refine Sr<|Vm<|Vr (.bool (decide (d>0)))<|AA<|Cn a (fun br a=>?_) fun br a=>?_
 refine AO<|Vm<|Ef (DC (cs:=[.int .u8 ((32:UInt8).toNat:Int)]) o 21 [[.int .u8 ((32:UInt8).toNat:Int)]] HT YB rfl rfl (.cons rfl rfl rfl .nil) rfl fun bt bu bv bw ax=>?_)
 refine have bx:Own Kd.u8 5 bt bu 21 (.slice (some ⟨bv,0,none⟩) 1 1) ([(32:UInt8)]:List UInt8):=Own.lit (css:=[[.int .u8 ((32:UInt8).toNat:Int)]]) bw rfl rfl rfl (AW rfl BE) (A2 rfl ED) rfl;have bz:=Os ag ax;Bi a fun cw ay a=>Ef (Bx (κ:=Kd.u8) rfl rfl bz dcd Xm (Cj bx) (FW ay) (Fk ay) fun cx b0 cy az b1=>?_)
 obtain ⟨a0,a1,rfl⟩:=Own.len az
 refine Va (Sl a0 ((f++([(32:UInt8)]:List UInt8))) a1)<|AA<|⟨_,b0,(f++([(32:UInt8)]:List UInt8)),a0,a1,Pu,a,(Tn (Mo [22] ax) b1),az⟩
 refine WC.skip<|⟨_,o,f,aa,ab,Pu,a,(AQ.refl [22] _ _),ag⟩
 rintro _ u ⟨r,w,l,ah,ai,rfl,a,aj,b2⟩
 rw [G3] at a
 refine AO<|Vm<|Vx (Run.fieldAddr IM rfl)<|have b3:=Bs av aj;Vx (Run.load1 LT rfl (Bk.cell b3 rfl))<|Vm<|Bi a fun a2 b4 a=>have b5:=Ss Kd.cpx aw aj; ?_
 obtain ⟨b6,b7,cz,a3,b8,b9,ca,cb,ak⟩:=BL (κ:=Kd.cpx) b5 b4
 replace ak:A8 w u b6 (b7+d.toNat*1) a3:=ak
 obtain rfl:=(show a3=[Cx a2] from cb)
 refine Vx (Run.indexAddr LB b8 rfl b9 ca)<|Vx (Run.load1 Jo rfl (A8.cell0 ak rfl))<|Bi a fun a4 cc a=>Ca (WJ [Cx a2] rfl) (Nc e w u cc) ?_
 rintro _ c0 ⟨c1,rfl,a5⟩
 refine ⟨_,rfl,?_⟩
 refine have cd:=Os b2 a5;Bi a fun c2 cf a=>Ef (Sw rfl rfl cd dcd Xm ABB Iv (FW cf) fun c3 cg c4 a6 ch=>?_)
 obtain ⟨a7,a8,rfl⟩:=Own.len a6
 refine Va (Sl a7 ((l++a4)) a8)<|AA<|AO<|Vm<|Vr (I (Wr (d+1)))<|Va (I (Wr (d+1)))<|AA<|⟨g,Nat.lt_succ_self g,_,cg,(l++a4),a7,a8,(Wr (d+1)),Pu,(au▸a),(T3 (Mo [22] ac) aj a5 ch),a6⟩
 refine Bc<|Sr<|Vm ?_
 obtain ⟨ci,cj,ck⟩:=Own.freeze (S:=[22]) ag dcd dcd
 refine Vx (v:=Sb f) (Run.bytesStr Oi rfl ck)<|Bi a fun cl cm a=>Vx (v:=Sb cl) (Run.strAdd rfl rfl cm)<|Bi a fun a9 cn a=>Vx (v:=Sb a9) (Run.strAdd rfl rfl cn)<|Va (Sb a9)<|Va (I 0)<|AA<|AT ?_
 obtain rfl:=AP a
 refine Ax (B:=B) q (EC rfl (.tmp rfl) (.tmp rfl) ?_)
 exact ⟨ci,rfl,Ho (T3 (Mo [22] m) h ac cj) p⟩
theorem S9(c:Nat):GG.Spec (GG c):=by
 intro a d m n o e f
 refine Calls.mono (R3 c (recol (see []) a) d (Az lbr a) e (Au A1 f [])) ?_
 rintro p q ⟨g,h,l⟩
 exact ⟨glue [] d a g,h,Ad l Ay⟩
def FT.At(l:Col)(c:World)(f:Bts→Option (AI×Int)):Prop:=
 ∀{d:Bts} {a:AI×Int},f d=some a→
  Calls Tryz.prog 49 #[Sb d] c fun m e=>∃(g:Col) (h:List Value),m=.returned (.tuple #[.agg h.toArray,I a.2])∧AQ [] l c g e∧A1.rep g.F e h a.1
def FT.Spec(f:Bts→Option (AI×Int)):Prop:=
 ∀(a:Col) (c:World),FT.At a c f
theorem Qt(g:Nat)(a7:Col)(ca:World)(ak:∀b,a7 b<10):FT.At a7 ca (FT g):=by
 intro c ay a
 rw [FT] at a
 refine A0 Tryz.func49 rfl Tryz.ntmps49 rfl fun B al az=>Sr<|Ef (Aa a7 20 FI rfl fun a8 cb a9 am an=>?_)
 refine Va (I 0)<|AA<|AZ<|Ao (fun ar ba=>∃(y:Env) (a0:Col) (bb:Bool),ar=y.puts [(0,.string (bs c)),(2,.pointer (some ⟨a9,0,none⟩)),(16,.bool bb)]∧GH g c bb=some ay∧AQ [] a8 cb a0 ba) ?_ ?_
 refine AO<|Vm<|Vx (v:=.bool (c==([116,114,117,101]:List UInt8))) (Run.strEq rfl rfl)<|Vm<|Bo a (fun ae a=>?_) fun ae a=>?_
 refine Pg ae<|Pg ae<|Vp ae<|AA<|⟨_,a8,true,Pu,a,(AQ.refl [] _ _)⟩
 refine Gm ae<|Gx ae (v:=.bool (c==([102,97,108,115,101]:List UInt8))) (Run.strEq rfl rfl)<|Vp ae<|AA<|⟨_,a8,(c==([102,97,108,115,101]:List UInt8)),Pu,a,(AQ.refl [] _ _)⟩
 rintro _ ba ⟨y,a0,bb,rfl,a,h⟩
 rw [GH] at a
 refine Cn a (fun cc a=>?_) fun cc a=>?_
 refine Sr<|Vm<|Vx (v:=.bool (c==([116,114,117,101]:List UInt8))) (Run.strEq rfl rfl)<|Vx (v:=.agg [I 2,Cx (((0,0):Nat×Nat)),.bool (c==([116,114,117,101]:List UInt8)),.slice none 0 0].toArray) (Bp FI JI rfl (.cons rfl rfl rfl (.cons rfl rfl rfl .nil)))<|have cd:=Bs am h;Eu (St F6 cd rfl rfl rfl rfl fun en cf cg=>?_)
 refine Va (I 0)<|AA<|AT ?_
 obtain rfl:=AP a
 refine Ax (B:=B) al (EC rfl (.agg D9 rfl rfl (Bk.part cf 0 [I 2,Cx (((0,0):Nat×Nat)),.bool (c==([116,114,117,101]:List UInt8)),.slice none 0 0] rfl)) (.tmp rfl) ?_)
 exact ⟨a0,[I 2,Cx (((0,0):Nat×Nat)),.bool (c==([116,114,117,101]:List UInt8)),.slice none 0 0],rfl,Ho (T2 (Mo [20] an) h cg) ak,(BP (x:=(AI.mk 2 ((0,0):Nat×Nat) (c==([116,114,117,101]:List UInt8)) [])) CT)⟩
 refine WC.skip<|Sr<|Vm<|Bi a fun f ch a=>Ca (Vo [Sb c] rfl) (MD g a0 ba ch) ?_
 rintro _ eo ⟨ci,ep,rfl,m,cj⟩
 obtain rfl:=Gz cj
 refine ⟨_,rfl,?_⟩
 refine Vm<|Vr (.agg [I f.1.re,I f.1.im].toArray)<|Vr (I f.2)<|Ef (Aa ci 21 Ih rfl fun au eq bc ck n=>?_)
 refine Eu (St Ix ck rfl rfl rfl rfl fun bn bo o=>?_)
 refine Va (I f.2)<|AA<|AZ<|Sr<|Vm<|Vr (.bool (f.2==0))<|AA<|Cn a (fun cl a=>?_) fun cl a=>?_
 refine Sr<|Vx (Run.loadN JV rfl rfl (Bk.part bo 0 [I f.1.re,I f.1.im] rfl))<|Bi a fun a1 cm a=>Ca (Vq [.agg [I f.1.re,I f.1.im].toArray] rfl) (ME au bn cm (E8 (x:=f.1))) ?_
 rintro _ er ⟨cn,rfl,bp⟩
 refine ⟨_,rfl,?_⟩
 refine Vx (v:=.agg [I 1,Cx a1,.bool false,.slice none 0 0].toArray) (Bp FI JI rfl (.cons rfl rfl rfl (.cons rfl rfl rfl .nil)))<|have co:=Bs (Y4 am h m n o) bp;Eu (St F6 co rfl rfl rfl rfl fun es cq cr=>?_)
 refine Va (I 0)<|AA<|AT ?_
 obtain rfl:=AP a
 refine Ax (B:=B) al (EC rfl (.agg D9 rfl rfl (Bk.part cq 0 [I 1,Cx a1,.bool false,.slice none 0 0] rfl)) (.tmp rfl) ?_)
 exact ⟨cn,[I 1,Cx a1,.bool false,.slice none 0 0],rfl,Ho (T2 (T4 (Mo [20,21] an) h m n o) bp cr) ak,(BP (x:=(AI.mk 1 a1 false [])) CT)⟩
 refine WC.skip<|AZ<|Ao (fun ar bq=>∃(y:Env) (a2:Col) (bd:Bool),ar=y.puts [(0,.string (bs c)),(2,.pointer (some ⟨a9,0,none⟩)),(4,.pointer (some ⟨bc,0,none⟩)),(45,.bool bd)]∧Fa g c f bd=some ay∧AQ [] au bn a2 bq) ?_ ?_
 refine AO<|Vm<|Vx (v:=I (c.length:Int)) (Run.lenStr Iv rfl)<|Vr (.bool (decide ((c.length:Int)<2)))<|Vm<|Bo a (fun r a=>?_) fun r a=>?_
 refine Pg r<|Pg r<|Pg r<|Vp r<|Vm<|Pg rfl<|Pg rfl<|Pg rfl<|Pg rfl<|Pg rfl<|Pg rfl<|Vr (.bool true)<|AA<|⟨_,au,true,Pu,a,(AQ.refl [] _ _)⟩
 refine Gm r<|Bi a fun br ct a=>Gx r (v:=.int .u8 (br.toNat:Int)) (Run.indexBs Iv rfl rfl ct)<|Gr r (.bool ((br.toNat:Int) != ((91:UInt8).toNat:Int)))<|Vp r<|Vm<|Bo a (fun e a=>?_) fun e a=>?_
 refine Pg e<|Pg e<|Pg e<|Pg e<|Pg e<|Pg e<|Vp e<|AA<|⟨_,au,true,Pu,a,(AQ.refl [] _ _)⟩
 refine Gm e<|Gm e<|Gx e (v:=I (c.length:Int)) (Run.lenStr Iv rfl)<|Gr e (I (Wr ((c.length:Int) - 1)))<|Bi a fun be cu a=>Gx e (v:=.int .u8 (be.toNat:Int)) (Run.indexBs Iv rfl rfl cu)<|Gr e (.bool ((be.toNat:Int) != ((93:UInt8).toNat:Int)))<|Vp e<|AA<|⟨_,au,((be.toNat:Int) != ((93:UInt8).toNat:Int)),Pu,a,(AQ.refl [] _ _)⟩
 rintro _ bq ⟨y,a2,bd,rfl,a,u⟩
 rw [Fa] at a
 refine Cn a (fun cv a=>?_) fun cv a=>?_
 refine Sr<|Vx (v:=.agg [I 0,Cx (((0,0):Nat×Nat)),.bool false,.slice none 0 0].toArray) (Bp FI JI rfl .nil)<|have cw:=Bs (Y4 am h m n o) u;Eu (St F6 cw rfl rfl rfl rfl fun et cx cy=>?_)
 refine Va (I 11)<|AA<|AT ?_
 obtain rfl:=AP a
 refine Ax (B:=B) al (EC rfl (.agg D9 rfl rfl (Bk.part cx 0 [I 0,Cx (((0,0):Nat×Nat)),.bool false,.slice none 0 0] rfl)) (.tmp rfl) ?_)
 exact ⟨a2,[I 0,Cx (((0,0):Nat×Nat)),.bool false,.slice none 0 0],rfl,Ho (T2 (T4 (Mo [20,21] an) h m n o) u cy) ak,(BP (x:=(AI.mk 0 ((0,0):Nat×Nat) false [])) CT)⟩
 refine WC.skip<|Sr<|Vx (v:=.agg [I 3,Cx (((0,0):Nat×Nat)),.bool false,.slice none 0 0].toArray) (Bp FI JI rfl (.cons rfl rfl rfl .nil))<|Ef (Aa a2 22 FI rfl fun cz eu bt c0 af=>?_)
 refine Eu (St F6 c0 rfl rfl rfl rfl fun c1 c2 ag=>?_)
 refine AA<|Sr<|Vm<|Vm<|Vx (v:=I (c.length:Int)) (Run.lenStr Iv rfl)<|Vr (I (Wr ((c.length:Int) - 1)))<|Bi a fun bu c3 a=>Vx (v:=Sb bu) (Run.sliceStr Iv rfl ⟨_,rfl⟩ ⟨_,rfl⟩ c3)<|Bi a fun z c4 a=>Ca (AAk [Sb bu] rfl) (R1 g cz c1 c4) ?_
 rintro _ c5 ⟨bv,ew,rfl,aa,bw⟩
 obtain ⟨bx,bz,rfl⟩:=AG bw
 refine ⟨_,rfl,?_⟩
 refine Va (Sl bx z bz)<|AA<|AZ<|Sr<|Va (I 0)<|AA<|Aj<|Bt (fun ab ar ac=>∃(y:Env) (ah:Col) (w:Int) (a3:Int) (a4:Int) (d:(List (Nat×Nat))) (p:Option Addr) (q:Nat),ar=y.puts [(0,.string (bs c)),(2,.pointer (some ⟨a9,0,none⟩)),(4,.pointer (some ⟨bc,0,none⟩)),(6,.pointer (some ⟨bt,0,none⟩)),(7,.slice bx z.length bz),(8,.int .i64 w)]∧Eh g c z ab w a3 a4 d=some ay∧AQ [21,22,24] bv c5 ah ac∧Own Kd.cpx 35 ah ac 24 (Sl p d q) d∧Bk ah ac 21 bc [I a3,I a4] 111∧Bk ah ac 22 bt [I 3,Cx (((0,0):Nat×Nat)),.bool false,Sl p d q] 38) g ?_ ?_
 refine have c6:=Y4 bo u af ag aa;have c7:=Bs c2 aa;⟨_,bv,0,f.1.re,f.1.im,([]:List (Nat×Nat)),none,0,Pu,a,(AQ.refl [21,22,24] _ _),Own.nil,c6,c7⟩
 rintro ab _ ac ⟨y,ah,w,a3,a4,d,p,q,rfl,a,ad,bf,c8,bg⟩
 rcases ab with _|ab
 exact BC a
 refine have a:E5 g c z (Eh g c z ab) w a3 a4 d=some ay:=a; ?_
 obtain ⟨ex,b0⟩:∃s,s=Eh g c z ab:=⟨_,rfl⟩
 rw [←b0,E5] at a
 refine AZ<|Sr<|Vm<|Vm<|have b1:=Ss CH bw ad; ?_
 obtain ⟨ey,ez,c9⟩:=AG b1
 refine Vx (v:=I (z.length:Int)) (Run.lenSlc Hi c9)<|Vr (.bool (decide (w< (z.length:Int))))<|AA<|Cn a (fun da a=>?_) fun da a=>?_
 refine WC.skip<|AZ<|Aj<|Sr<|Vm<|Vm<|Bi a fun b2 db a=>?_
 obtain ⟨dc,de,e0,b3,df,dg,dh,di,bh⟩:=BL (κ:=CH) b1 db
 replace bh:A8 ah ac dc (de+w.toNat*1) b3:=bh
 obtain rfl:=(show b3=[Sb b2] from di)
 refine Vx (Run.indexAddr Hi df rfl dg dh)<|Vx (Run.load1 CS rfl (A8.cell0 bh rfl))<|Bi a fun l dj a=>Ca (Vo [Sb b2] rfl) (MD g ah ac dj) ?_
 rintro _ e1 ⟨bi,e2,rfl,ao,dk⟩
 obtain rfl:=Gz dk
 refine ⟨_,rfl,?_⟩
 refine Vm<|Vr (.agg [I l.1.re,I l.1.im].toArray)<|Vr (I l.2)<|have dl:=Bs c8 ao;Eu (St Ix dl rfl rfl rfl rfl fun e3 dm av=>?_)
 refine Va (I l.2)<|AA<|AZ<|Sr<|Vm<|Vr (.bool (l.2 != 0))<|AA<|Cn a (fun dn a=>?_) fun dn a=>?_
 refine Sr<|Vx (v:=.agg [I 0,Cx (((0,0):Nat×Nat)),.bool false,.slice none 0 0].toArray) (Bp FI JI rfl .nil)<|have dp:=Y3 (Y4 (Y4 am h m n o) u af ag aa) ad ao av;Eu (St F6 dp rfl rfl rfl rfl fun e4 dq dr=>?_)
 refine Va (I 11)<|AA<|AT ?_
 obtain rfl:=AP a
 refine Ax (B:=B) al (EC rfl (.agg D9 rfl rfl (Bk.part dq 0 [I 0,Cx (((0,0):Nat×Nat)),.bool false,.slice none 0 0] rfl)) (.tmp rfl) ?_)
 exact ⟨bi,[I 0,Cx (((0,0):Nat×Nat)),.bool false,.slice none 0 0],rfl,Ho (T4 (T4 (T4 (Mo [20,21,22,24] an) h m n o) u af ag aa) ad ao av dr) ak,(BP (x:=(AI.mk 0 ((0,0):Nat×Nat) false [])) CT)⟩
 refine WC.skip<|CJ FL (.q 0 (.q 1 (.q 2 (.one 3 (.one 4 (.one 5 (.q 6 (.one 7 .nil)))))))) [7] [24] bi (by kernel_rfl) fun ds a5=>Qx az rfl (fun _ ⟨_,aw⟩=>Run.fieldAddr IM rfl)<|have b4:=Y3 bg ao av a5;Qx az rfl (fun _ ⟨_,aw⟩=>Run.load1 LT rfl (Bk.cell (Bs b4 aw) rfl))<|have b5:=Bs dm a5;Qx az rfl (fun _ ⟨_,aw⟩=>Run.loadN JV rfl rfl (Bk.part (Bs b5 aw) 0 [I l.1.re,I l.1.im] rfl))<|BX rfl<|Bi a fun ai dt a=>BR rfl (.none rfl) rfl rfl (Vq [.agg [I l.1.re,I l.1.im].toArray] rfl)<|Calls.mono (ME bi ds dt (E8 (x:=l.1))) ?_
 rintro _ e5 ⟨du,rfl,aj⟩
 refine ⟨_,rfl,⟨_,(Mo [24] aj)⟩,?_⟩
 refine BX rfl<|Cl rfl (.none rfl) rfl rfl (DC (cs:=[Cx ai]) du 23 [[Cx ai]] LB YA rfl rfl (.cons rfl rfl rfl .nil) rfl fun dv dw dx dy ap=>?_)
 refine have dz:Own Kd.cpx 35 dv dw 23 (.slice (some ⟨dx,0,none⟩) 1 1) ([ai]:List (Nat×Nat)):=Own.lit (css:=[[Cx ai]]) dy rfl rfl rfl (AW rfl BE) (A2 rfl ED) rfl;⟨⟨_,(Tn (Mo [24] aj) ap)⟩,?_⟩
 refine BX rfl<|have d0:=Os (Os (Os (Os (Os bf ao) av) a5) aj) ap;Bi a fun e6 b6 a=>Cl rfl (.none rfl) rfl rfl (Bx (κ:=Kd.cpx) rfl rfl d0 dcd Xo (Cj dz) (FW b6) (Fk b6) fun e7 d1 e8 bj a6=>?_)
 obtain ⟨bk,bl,rfl⟩:=Own.len bj
 refine ⟨⟨_,(T2 (Mo [24] aj) ap a6)⟩,?_⟩
 refine Qx az rfl (fun _ ⟨_,aw⟩=>Run.fieldAddr IM rfl)<|FP dcd<|WY.one<|have d2:=Y3 b4 aj ap a6;Be rfl (.none rfl) rfl (Br (vs:=[Sl bk ((d++([ai]:List (Nat×Nat)))) bl]) (cs':=[I 3,Cx (((0,0):Nat×Nat)),.bool false,Sl bk ((d++([ai]:List (Nat×Nat)))) bl]) X6 rfl rfl rfl rfl (AX (Own.one bj) CQ) d2 dcd rfl rfl fun e9 d3 bm=>?_)
 refine WY.nil<|AO<|Vm<|Vr (I (Wr (w+1)))<|Va (I (Wr (w+1)))<|AA<|have d4:=Os bj bm;have d5:=Y4 b5 aj ap a6 bm;⟨ab,Nat.lt_succ_self ab,_,d1,(Wr (w+1)),l.1.re,l.1.im,(d++([ai]:List (Nat×Nat))),bk,bl,Pu,(b0▸a),(T3 (T4 (Mo [21,22,24] ad) ao av a5 aj) ap a6 bm),d4,d5,d3⟩
 refine Bc<|Sr<|Vx (Run.loadN D9 rfl rfl (Bk.part bg 0 [I 3,Cx (((0,0):Nat×Nat)),.bool false,Sl p d q] rfl)) ?_
 obtain ⟨d6,fa,d7,d8⟩:=Own.lend bf dcd
 refine Bi a fun ax d9 a=>Ca (AAl [.agg [I 3,Cx (((0,0):Nat×Nat)),.bool false,Sl p d q].toArray] rfl) (S9 g d6 ac d9 (BP (x:=(AI.mk 3 ((0,0):Nat×Nat) false d)) d7)) ?_
 rintro _ fb ⟨fc,rfl,ea⟩
 obtain ⟨eb,aq⟩:=d8 [] _ _ ea dcd
 refine ⟨_,rfl,?_⟩
 refine Vm<|Vr (Sb ax.1)<|Vr (I ax.2)<|Va (Sb ax.1)<|Va (I ax.2)<|AA<|AZ<|Sr<|Vm<|Vm<|Vx (v:=.bool (!(ax.1==c))) (Run.strNe rfl rfl)<|AA<|Cn a (fun ec a=>?_) fun ec a=>?_
 refine Sr<|Vx (v:=.agg [I 0,Cx (((0,0):Nat×Nat)),.bool false,.slice none 0 0].toArray) (Bp FI JI rfl .nil)<|have ed:=Y2 (Y4 (Y4 am h m n o) u af ag aa) ad aq;Eu (St F6 ed rfl rfl rfl rfl fun fd ee ef=>?_)
 refine Va (I 11)<|AA<|AT ?_
 obtain rfl:=AP a
 refine Ax (B:=B) al (EC rfl (.agg D9 rfl rfl (Bk.part ee 0 [I 0,Cx (((0,0):Nat×Nat)),.bool false,.slice none 0 0] rfl)) (.tmp rfl) ?_)
 exact ⟨eb,[I 0,Cx (((0,0):Nat×Nat)),.bool false,.slice none 0 0],rfl,Ho (T3 (T4 (T4 (Mo [20,21,22,24] an) h m n o) u af ag aa) ad aq ef) ak,(BP (x:=(AI.mk 0 ((0,0):Nat×Nat) false [])) CT)⟩
 refine WC.skip<|Sr<|have eg:=Bs bg aq;Vx (Run.loadN D9 rfl rfl (Bk.part eg 0 [I 3,Cx (((0,0):Nat×Nat)),.bool false,Sl p d q] rfl))<|have eh:=Y2 (Y4 (Y4 am h m n o) u af ag aa) ad aq;have b7:=Os bf aq;Eu (Br (vs:=[I 3,Cx (((0,0):Nat×Nat)),.bool false,Sl p d q]) (cs':=[I 3,Cx (((0,0):Nat×Nat)),.bool false,Sl p d q]) F6 rfl rfl rfl rfl (AX rfl (AX rfl (AX rfl (AX (Own.one b7) CQ)))) eh dcd rfl rfl fun fe ei b8=>?_)
 refine Va (I 0)<|AA<|AT<|have ej:=Os b7 b8; ?_
 obtain ⟨ek,b9,el⟩:=Own.freeze (S:=[24]) ej dcd dcd
 obtain rfl:=AP a
 refine have em:=Bs ei b9;Ax (B:=B) al (EC rfl (.agg D9 rfl rfl (Bk.part em 0 [I 3,Cx (((0,0):Nat×Nat)),.bool false,Sl p d q] rfl)) (.tmp rfl) ?_)
 exact ⟨ek,[I 3,Cx (((0,0):Nat×Nat)),.bool false,Sl p d q],rfl,Ho (T4 (T4 (T4 (Mo [20,21,22,24] an) h m n o) u af ag aa) ad aq b8 b9) ak,(BP (x:=(AI.mk 3 ((0,0):Nat×Nat) false d)) el)⟩
theorem R4(c:Nat):FT.Spec (FT c):=by
 intro a d n o e
 refine Calls.mono (Qt c (recol (see []) a) d (Az lbr a) e) ?_
 rintro p q ⟨f,g,h,l,m⟩
 exact ⟨glue [] d a f,g,h,Ad l Ay,BB A1 m⟩
def Fw.At(l:Col)(c:World)(f:Bts→Option ((List AI)×Int)):Prop:=
 ∀{d:Bts} {a:(List AI)×Int},f d=some a→
  Calls Tryz.prog 28 #[Sb d] c fun m e=>∃(g:Col) (h:Value),m=.returned (.tuple #[h,I a.2])∧AQ [] l c g e∧Slc A1 g.F e h a.1
def Fw.Spec(f:Bts→Option ((List AI)×Int)):Prop:=
 ∀(a:Col) (c:World),Fw.At a c f
theorem Qu(g:Nat)(af:Col)(az:World)(a0:∀b,af b<10):Fw.At af az (Fw g):=by
 intro f y a
 rw [Fw] at a
 refine A0 Tryz.func28 rfl Tryz.ntmps28 rfl fun B a1 b9=>Sr<|Va (.slice none 0 0)<|Va (I 0)<|AA<|Sr<|Va (.slice none 0 0)<|AA<|Sr<|Va (I 0)<|AA<|AZ<|Aj<|Bt (fun o u ag=>∃(l:Env) (z:Col) (d:(List AI)) (p:Option Addr) (q:Nat) (e:Int),u=l.puts [(0,.string (bs f)),(4,.slice p d.length q),(5,.int .i64 e)]∧CL g f o d e=some y∧AQ [20,22] af az z ag∧Own A1 38 z ag 22 (Sl p d q) d) g ?_ ?_
 exact ⟨_,af,([]:List AI),none,0,0,Pu,a,(AQ.refl [20,22] _ _),Own.nil⟩
 rintro o _ ag ⟨l,z,d,p,q,e,rfl,a,ah,ap⟩
 rcases o with _|o
 exact BC a
 refine have a:E7 g f (CL g f o) d e=some y:=a; ?_
 obtain ⟨ac,aq⟩:∃s,s=CL g f o:=⟨_,rfl⟩
 rw [←aq,E7] at a
 refine AZ<|Sr<|Vm<|Vm<|Vx (v:=I (f.length:Int)) (Run.lenStr Iv rfl)<|Vr (.bool (decide (e< (f.length:Int))))<|AA<|Cn a (fun be a=>?_) fun be a=>?_
 refine WC.skip<|Aj<|AZ<|Sr<|Vm<|Vm<|Bi a fun a2 bf a=>Vx (v:=.int .u8 (a2.toNat:Int)) (Run.indexBs Iv rfl rfl bf)<|Vr (.bool ((a2.toNat:Int)==((32:UInt8).toNat:Int)))<|AA<|Cn a (fun bg a=>?_) fun bg a=>?_
 refine Sr<|Vm<|Vr (I (Wr (e+1)))<|Va (I (Wr (e+1)))<|AA<|Bc<|⟨o,Nat.lt_succ_self o,_,z,d,p,q,(Wr (e+1)),Pu,(aq▸a),(Mo [20,22] ah),ap⟩
 refine WC.skip<|Sr<|Vm<|Va (I e)<|AA<|Sr<|Vm<|Vm<|Bi a fun ai bh a=>Vx (v:=.int .u8 (ai.toNat:Int)) (Run.indexBs Iv rfl rfl bh)<|Vr (.bool ((ai.toNat:Int)==((91:UInt8).toNat:Int)))<|Va (.bool ((ai.toNat:Int)==((91:UInt8).toNat:Int)))<|AA<|AZ<|Aj<|Bt (fun r u ar=>∃(l:Env) (aa:Col) (h:Int) (w:Bool),u=l.puts [(0,.string (bs f)),(4,.slice p d.length q),(5,.int .i64 h),(6,.int .i64 e),(7,.bool w)]∧Dz g f d e ac r h w=some y∧AQ [] z ag aa ar) g ?_ ?_
 exact ⟨_,z,e,((ai.toNat:Int)==((91:UInt8).toNat:Int)),Pu,a,(AQ.refl [] _ _)⟩
 rintro r _ ar ⟨l,aa,h,w,rfl,a,aj⟩
 rcases r with _|r
 exact BC a
 refine have a:E6 g f d e ac (Dz g f d e ac r) h w=some y:=a; ?_
 obtain ⟨a3,a4⟩:∃s,s=Dz g f d e ac r:=⟨_,rfl⟩
 rw [←a4,E6] at a
 refine AZ<|Ao (fun u ak=>∃(l:Env) (ab:Col) (au:Bool),u=l.puts [(0,.string (bs f)),(4,.slice p d.length q),(5,.int .i64 h),(6,.int .i64 e),(7,.bool w),(37,.bool au)]∧EG g f d e ac h w a3 au=some y∧AQ [] aa ar ab ak) ?_ ?_
 refine AO<|Vm<|Vm<|Vx (v:=I (f.length:Int)) (Run.lenStr Iv rfl)<|Vr (.bool (decide (h< (f.length:Int))))<|Vm<|Bo a (fun m a=>?_) fun m a=>?_
 refine Gm m<|Gm m<|Bo a (fun n a=>?_) fun n a=>?_
 refine Pg n<|Pg n<|Pg n<|Pg n<|Gp m n<|Vp m<|AA<|⟨_,aa,true,Pu,a,(AQ.refl [] _ _)⟩
 refine Gm n<|Gm n<|Bi a fun av bi a=>Gx n (v:=.int .u8 (av.toNat:Int)) (Run.indexBs Iv rfl rfl bi)<|Gr n (.bool ((av.toNat:Int) != ((32:UInt8).toNat:Int)))<|Gp m n<|Vp m<|AA<|⟨_,aa,((av.toNat:Int) != ((32:UInt8).toNat:Int)),Pu,a,(AQ.refl [] _ _)⟩
 refine Pg m<|Pg m<|Po<|Po<|Po<|Po<|Pg m<|Vp m<|AA<|⟨_,aa,false,Pu,a,(AQ.refl [] _ _)⟩
 rintro _ ak ⟨l,ab,au,rfl,a,al⟩
 rw [EG] at a
 refine Cn a (fun bj a=>?_) fun bj a=>?_
 refine WC.skip<|Aj<|Ao (fun u a5=>∃(l:Env) (aw:Col) (am:Bool),u=l.puts [(0,.string (bs f)),(4,.slice p d.length q),(5,.int .i64 h),(6,.int .i64 e),(7,.bool am)]∧HI h a3 am=some y∧AQ [] ab ak aw a5) ?_ ?_
 refine Sr<|Vm<|Vm<|Bi a fun a6 bk a=>Vx (v:=.int .u8 (a6.toNat:Int)) (Run.indexBs Iv rfl rfl bk)<|Vr (.bool ((a6.toNat:Int)==((93:UInt8).toNat:Int)))<|AA<|Cn a (fun bl a=>?_) fun bl a=>?_
 refine AO<|Va (.bool false)<|AA<|⟨_,ab,false,Pu,a,(AQ.refl [] _ _)⟩
 refine WC.skip<|⟨_,ab,w,Pu,a,(AQ.refl [] _ _)⟩
 rintro _ a5 ⟨l,aw,am,rfl,a,bm⟩
 rw [HI] at a
 refine AO<|Vm<|Vr (I (Wr (h+1)))<|Va (I (Wr (h+1)))<|AA<|⟨r,Nat.lt_succ_self r,_,aw,(Wr (h+1)),am,Pu,(a4▸a),(T2 (Mo [] aj) al bm)⟩
 refine Bc<|Sr<|Vm<|Vm<|Vm<|Bi a fun a7 bn a=>Vx (v:=Sb a7) (Run.sliceStr Iv rfl ⟨_,rfl⟩ ⟨_,rfl⟩ bn)<|Bi a fun c bo a=>Ca (AAY [Sb a7] rfl) (R4 g ab ak bo) ?_
 rintro _ ca ⟨bp,cb,rfl,ax,bq⟩
 obtain ⟨cc,rfl,a8⟩:=CU bq
 obtain ⟨ad,ae,rfl⟩:=AG a8
 refine ⟨_,rfl,?_⟩
 refine Vm<|Vr (.agg [I c.1.type_,Cx c.1.num,.bool c.1.bool,Sl ad c.1.list ae].toArray)<|Vr (I c.2)<|Ef (Aa bp 20 FI rfl fun a9 cd cf br an=>?_)
 refine have bt:=Ss Kd.cpx a8 an;Eu (St F6 br rfl rfl rfl rfl fun cg bu ao=>?_)
 refine Va (I c.2)<|AA<|AZ<|Sr<|Vm<|Vr (.bool (c.2 != 0))<|AA<|Cn a (fun bv a=>?_) fun bv a=>?_
 refine Sr<|Va (.slice none 0 0)<|Va (I 11)<|AA<|AT ?_
 obtain rfl:=AP a
 refine Ax (B:=B) a1 (EC rfl (.tmp rfl) (.tmp rfl) ?_)
 exact ⟨a9,.slice none 0 0,rfl,Ho (Tn (T4 (Mo [20,22] ah) aj al ax an) ao) a0,CT⟩
 refine WC.skip<|AO<|Vm<|Vx (Run.loadN D9 rfl rfl (Bk.part bu 0 [I c.1.type_,Cx c.1.num,.bool c.1.bool,Sl ad c.1.list ae] rfl))<|Ef (DC (cs:=[I c.1.type_,Cx c.1.num,.bool c.1.bool,Sl ad c.1.list ae]) a9 21 [[I c.1.type_,Cx c.1.num,.bool c.1.bool,Sl ad c.1.list ae]] Kk FI rfl rfl (.cons rfl rfl rfl .nil) rfl fun bw bx bz b0 ay=>?_)
 refine have b1:=K2 Kd.cpx bt ao ay;have b2:Own A1 38 bw bx 21 (.slice (some ⟨bz,0,none⟩) 1 1) ([c.1]:List AI):=Own.lit (css:=[[I c.1.type_,Cx c.1.num,.bool c.1.bool,Sl ad c.1.list ae]]) b0 rfl rfl rfl (AW (BP (x:=c.1) b1) BE) (A2 rfl ED) rfl;have b3:=Os (Os (Os (Os (Os (Os ap aj) al) ax) an) ao) ay;Bi a fun ch ba a=>Ef (Bx (κ:=A1) rfl rfl b3 dcd Xn (Cj b2) (FW ba) (Fk ba) fun ci b4 cj bb b5=>?_)
 obtain ⟨bc,bd,rfl⟩:=Own.len bb
 refine Va (Sl bc ((d++([c.1]:List AI))) bd)<|AA<|⟨o,Nat.lt_succ_self o,_,b4,(d++([c.1]:List AI)),bc,bd,h,Pu,(aq▸a),(T3 (T4 (Mo [20,22] ah) aj al ax an) ao ay b5),bb⟩
 refine Bc<|Sr<|Vm<|Va (Sl p d q)<|Va (I 0)<|AA<|AT ?_
 obtain ⟨b6,b7,b8⟩:=Own.freeze (S:=[22]) ap dcd dcd
 obtain rfl:=AP a
 refine Ax (B:=B) a1 (EC rfl (.tmp rfl) (.tmp rfl) ?_)
 exact ⟨b6,Sl p d q,rfl,Ho (Tn (Mo [20,22] ah) b7) a0,b8⟩
theorem R5(c:Nat):Fw.Spec (Fw c):=by
 intro a d n o e
 refine Calls.mono (Qu c (recol (see []) a) d (Az lbr a) e) ?_
 rintro p q ⟨f,g,h,l,m⟩
 exact ⟨glue [] d a f,g,h,Ad l Ay,DV A1 m⟩
def B3.At(g:Col)(c:World)(f:FK→Option (AM×(List AI)×Bool)):Prop:=
 ∀{h:FK} {l:List Value} {a:AM×(List AI)×Bool},f h=some a→LM.rep g.F c l h→
  Calls Tryz.prog 11 #[.agg l.toArray] c fun n d=>∃(e:Col) (m:List Value) (u1:Value),n=.returned (.tuple #[.agg m.toArray,u1,.bool a.2.2])∧AQ [] g c e d∧BN.rep e.F d m a.1∧Slc A1 e.F d u1 a.2.1
def B3.Spec(f:FK→Option (AM×(List AI)×Bool)):Prop:=
 ∀(a:Col) (c:World),B3.At a c f
theorem PA(m:Nat)(cl:Col)(er:World)(es:∀b,cl b<10):B3.At cl er (B3 m):=by
 intro o k8 d1 a et
 rw [B3] at a
 obtain ⟨k9,rfl,r⟩:=PP et
 obtain ⟨w,y,rfl⟩:=AG r
 refine A0 Tryz.func11 rfl Tryz.ntmps11 rfl fun B eu c=>Sr<|Ef (Bf cl 20 rfl rfl fun ew la ex d2 s=>?_)
 refine Ef (Aa ew 21 JW rfl fun bb ey cm d3 n=>?_)
 refine Va (.slice none 0 0)<|Va (.bool false)<|AA<|Ao (fun cn az=>∃(bc:Env) (a0:Col) (co:Nat) (cq:Nat) (ap:(List AK)) (a1:Option Addr) (a2:Nat) (b2:Int) (d4:Int),cn=bc.puts [(1,.pointer (some ⟨ex,0,none⟩)),(2,.pointer (some ⟨cm,0,none⟩)),(5,.pointer (some ⟨co,0,none⟩)),(6,.pointer (some ⟨cq,0,none⟩))]∧GI m o ap b2=some d1∧AQ [22,23] bb ey a0 az∧Slc AL a0.F az (Sl a1 ap a2) ap∧Bk a0 az 22 co [Sl a1 ap a2] 28∧Bk a0 az 23 cq [I b2,I d4] 63) ?_ ?_
 refine CJ FL (.q 0 (.q 1 (.three 2 7 8 (.three 3 7 8 (.q 4 (.q 5 (.q 6 (.two 7 8 (.one 8 (.one 9 (.one 10 .nil))) (.one 7 (.one 9 (.one 10 .nil))))))) (.two 3 8 (.q 4 (.q 5 (.q 6 (.one 8 (.one 9 (.one 10 .nil)))))) (.one 3 (.q 4 (.q 5 (.q 6 (.one 9 (.one 10 .nil))))))) (.two 3 7 (.q 4 (.q 5 (.q 6 (.one 7 (.one 9 (.one 10 .nil)))))) (.one 3 (.q 4 (.q 5 (.q 6 (.one 9 (.one 10 .nil)))))))) (.two 2 8 (.two 3 8 (.q 4 (.q 5 (.q 6 (.one 8 (.one 9 (.one 10 .nil)))))) (.one 3 (.q 4 (.q 5 (.q 6 (.one 9 (.one 10 .nil))))))) (.one 2 (.one 3 (.q 4 (.q 5 (.q 6 (.one 9 (.one 10 .nil)))))))) (.two 2 7 (.two 3 7 (.q 4 (.q 5 (.q 6 (.one 7 (.one 9 (.one 10 .nil)))))) (.one 3 (.q 4 (.q 5 (.q 6 (.one 9 (.one 10 .nil))))))) (.one 2 (.one 3 (.q 4 (.q 5 (.q 6 (.one 9 (.one 10 .nil))))))))))) [10] [22] bb (by kernel_rfl) fun ez g=>Qx c rfl (fun _ ⟨_,d⟩=>Run.fieldAddr0 Xq rfl)<|have e0:=Y2 d2 n g;Qx c rfl (fun _ ⟨_,d⟩=>Run.load1 AA4 rfl (Bk.cell (Bs e0 d) rfl))<|Un rfl rfl rfl ?_ ?_ ?_
 refine Bi a fun f e1 a=>BR rfl (.none rfl) rfl rfl (Ri [] rfl)<|Calls.mono (KZ bb ez e1) ?_
 rintro _ e2 ⟨cr,lb,rfl,e,e3⟩
 obtain rfl:=Jj e3
 refine ⟨_,rfl,⟨_,(Mo [22] e)⟩,?_⟩
 refine Un rfl rfl rfl ?_ ?_ ?_
 refine have e4:=K4 Kd.u8 r s n g e;Bi a fun u e5 a=>BR rfl (.none rfl) rfl rfl (L7 [Sl w o.text y,.agg [I f.text,I f.funcs,I f.arity,I f.nest].toArray] rfl)<|Calls.mono (Ew m cr e2 e5 e4 (Ex (x:=f))) ?_
 rintro _ lc ⟨d5,ld,le,rfl,ae,e6,e7⟩
 obtain ⟨lf,rfl,ct⟩:=BK e6
 obtain ⟨b3,b4,rfl⟩:=AG ct
 obtain rfl:=As e7
 refine ⟨_,rfl,⟨_,(Tn (Mo [22] e) ae)⟩,?_⟩
 refine Qx c rfl (v:=.tuple #[.agg [Sl b3 u.1.funcs b4].toArray,.agg [I u.2.why,I u.2.at_].toArray]) (fun _ ⟨_,d⟩=>Run.move rfl)<|Qx c rfl (v:=.agg [Sl b3 u.1.funcs b4].toArray) (fun _ ⟨_,d⟩=>rfl)<|Qx c rfl (v:=.agg [I u.2.why,I u.2.at_].toArray) (fun _ ⟨_,d⟩=>rfl)<|N4 rfl rfl ?_ ?_
 refine Cl rfl (.none rfl) rfl rfl (Aa d5 22 JW rfl fun e8 lg e9 fa bd=>?_)
 refine ⟨⟨_,(T2 (Mo [22] e) ae bd)⟩,?_⟩
 refine BX rfl<|Cl rfl (.none rfl) rfl rfl (Aa e8 23 Ep rfl fun fb lh fc fd be=>?_)
 refine ⟨⟨_,(T3 (Mo [22] e) ae bd be)⟩,?_⟩
 refine BX rfl<|have fe:=Bs fa be;have ff:=K2 AL ct bd be;Be rfl (.none rfl) rfl (St IS fe rfl rfl rfl rfl fun li fg b5=>?_)
 refine ⟨⟨_,(T4 (Mo [22] e) ae bd be b5)⟩,?_⟩
 refine FP dcd<|WY.one<|have fh:=Bs fd b5;Be rfl (.none rfl) rfl (St Gb fh rfl rfl rfl rfl fun lj fi cu=>?_)
 refine WY.nil<|have fj:=K2 AL ff b5 cu;have fk:=Bs fg cu;⟨_,fb,e9,fc,u.1.funcs,b3,b4,u.2.why,u.2.at_,Pu,a,(T2 (T4 (Mo [22,23] g) e ae bd be) b5 cu),fj,fk,fi⟩
 refine Cl rfl (.none rfl) rfl rfl (Aa d5 23 Ep rfl fun fl lk fm fn bf=>?_)
 refine ⟨⟨_,(T2 (Mo [22] e) ae bf)⟩,?_⟩
 refine BX rfl<|Cl rfl (.none rfl) rfl rfl (Aa fl 22 JW rfl fun fo ll fp fq bg=>?_)
 refine ⟨⟨_,(T3 (Mo [22] e) ae bf bg)⟩,?_⟩
 refine BX rfl<|have fr:=K2 AL ct bf bg;Be rfl (.none rfl) rfl (St IS fq rfl rfl rfl rfl fun lm fs b6=>?_)
 refine ⟨⟨_,(T4 (Mo [22] e) ae bf bg b6)⟩,?_⟩
 refine FP dcd<|WY.one<|have ft:=Y2 fn bg b6;Be rfl (.none rfl) rfl (St Gb ft rfl rfl rfl rfl fun ln fu cv=>?_)
 refine WY.nil<|have fv:=K2 AL fr b6 cv;have fw:=Bs fs cv;⟨_,fo,fp,fm,u.1.funcs,b3,b4,u.2.why,u.2.at_,Pu,a,(T2 (T4 (Mo [22,23] g) e ae bf bg) b6 cv),fv,fw,fu⟩
 refine Cl rfl (.none rfl) rfl rfl (Aa cr 22 JW rfl fun d6 fx d7 d8 z=>?_)
 refine ⟨⟨_,(Tn (Mo [22] e) z)⟩,?_⟩
 refine N4 rfl rfl ?_ ?_
 refine have fy:=Ss Kd.u8 (K4 Kd.u8 r s n g e) z;Bi a fun af fz a=>BR rfl (.none rfl) rfl rfl (L7 [Sl w o.text y,.agg [I f.text,I f.funcs,I f.arity,I f.nest].toArray] rfl)<|Calls.mono (Ew m d6 fx fz fy (Ex (x:=f))) ?_
 rintro _ lo ⟨f0,lp,lq,rfl,bh,f1,f2⟩
 obtain ⟨lr,rfl,d9⟩:=BK f1
 obtain ⟨cw,cx,rfl⟩:=AG d9
 obtain rfl:=As f2
 refine ⟨_,rfl,⟨_,(T2 (Mo [22] e) z bh)⟩,?_⟩
 refine Qx c rfl (v:=.tuple #[.agg [Sl cw af.1.funcs cx].toArray,.agg [I af.2.why,I af.2.at_].toArray]) (fun _ ⟨_,d⟩=>Run.move rfl)<|Qx c rfl (v:=.agg [Sl cw af.1.funcs cx].toArray) (fun _ ⟨_,d⟩=>rfl)<|Qx c rfl (v:=.agg [I af.2.why,I af.2.at_].toArray) (fun _ ⟨_,d⟩=>rfl)<|BX rfl<|Cl rfl (.none rfl) rfl rfl (Aa f0 23 Ep rfl fun f3 ls f4 f5 bi=>?_)
 refine ⟨⟨_,(T3 (Mo [22] e) z bh bi)⟩,?_⟩
 refine BX rfl<|have f6:=Y2 d8 bh bi;have f7:=Ss AL d9 bi;Be rfl (.none rfl) rfl (St IS f6 rfl rfl rfl rfl fun lt f8 b7=>?_)
 refine ⟨⟨_,(T4 (Mo [22] e) z bh bi b7)⟩,?_⟩
 refine FP dcd<|WY.one<|have f9:=Bs f5 b7;Be rfl (.none rfl) rfl (St Gb f9 rfl rfl rfl rfl fun lu ga cy=>?_)
 refine WY.nil<|have gb:=K2 AL f7 b7 cy;have gc:=Bs f8 cy;⟨_,f3,d7,f4,af.1.funcs,cw,cx,af.2.why,af.2.at_,Pu,a,(T2 (T4 (Mo [22,23] g) e z bh bi) b7 cy),gb,gc,ga⟩
 refine Cl rfl (.none rfl) rfl rfl (Aa d6 23 Ep rfl fun gd ge gf gg a3=>?_)
 refine ⟨⟨_,(T2 (Mo [22] e) z a3)⟩,?_⟩
 refine BX rfl<|have gh:=K2 Kd.u8 (K4 Kd.u8 r s n g e) z a3;Bi a fun ag gi a=>BR rfl (.none rfl) rfl rfl (L7 [Sl w o.text y,.agg [I f.text,I f.funcs,I f.arity,I f.nest].toArray] rfl)<|Calls.mono (Ew m gd ge gi gh (Ex (x:=f))) ?_
 rintro _ lv ⟨gj,lw,lx,rfl,bj,gk,gl⟩
 obtain ⟨ly,rfl,ea⟩:=BK gk
 obtain ⟨cz,c0,rfl⟩:=AG ea
 obtain rfl:=As gl
 refine ⟨_,rfl,⟨_,(T3 (Mo [22] e) z a3 bj)⟩,?_⟩
 refine Qx c rfl (v:=.tuple #[.agg [Sl cz ag.1.funcs c0].toArray,.agg [I ag.2.why,I ag.2.at_].toArray]) (fun _ ⟨_,d⟩=>Run.move rfl)<|Qx c rfl (v:=.agg [Sl cz ag.1.funcs c0].toArray) (fun _ ⟨_,d⟩=>rfl)<|Qx c rfl (v:=.agg [I ag.2.why,I ag.2.at_].toArray) (fun _ ⟨_,d⟩=>rfl)<|BX rfl<|have gm:=Y2 d8 a3 bj;Be rfl (.none rfl) rfl (St IS gm rfl rfl rfl rfl fun lz gn b8=>?_)
 refine ⟨⟨_,(T4 (Mo [22] e) z a3 bj b8)⟩,?_⟩
 refine FP dcd<|WY.one<|have go:=Y2 gg bj b8;Be rfl (.none rfl) rfl (St Gb go rfl rfl rfl rfl fun l0 gp c1=>?_)
 refine WY.nil<|have gq:=K2 AL ea b8 c1;have gr:=Bs gn c1;⟨_,gj,d7,gf,ag.1.funcs,cz,c0,ag.2.why,ag.2.at_,Pu,a,(T2 (T4 (Mo [22,23] g) e z a3 bj) b8 c1),gq,gr,gp⟩
 refine Cl rfl (.none rfl) rfl rfl (Aa cr 23 Ep rfl fun eb gs ec ed aa=>?_)
 refine ⟨⟨_,(Tn (Mo [22] e) aa)⟩,?_⟩
 refine N4 rfl rfl ?_ ?_
 refine have gt:=Ss Kd.u8 (K4 Kd.u8 r s n g e) aa;Bi a fun ah gu a=>BR rfl (.none rfl) rfl rfl (L7 [Sl w o.text y,.agg [I f.text,I f.funcs,I f.arity,I f.nest].toArray] rfl)<|Calls.mono (Ew m eb gs gu gt (Ex (x:=f))) ?_
 rintro _ l1 ⟨gv,l2,l3,rfl,bk,gw,gx⟩
 obtain ⟨l4,rfl,ee⟩:=BK gw
 obtain ⟨c2,c3,rfl⟩:=AG ee
 obtain rfl:=As gx
 refine ⟨_,rfl,⟨_,(T2 (Mo [22] e) aa bk)⟩,?_⟩
 refine Qx c rfl (v:=.tuple #[.agg [Sl c2 ah.1.funcs c3].toArray,.agg [I ah.2.why,I ah.2.at_].toArray]) (fun _ ⟨_,d⟩=>Run.move rfl)<|Qx c rfl (v:=.agg [Sl c2 ah.1.funcs c3].toArray) (fun _ ⟨_,d⟩=>rfl)<|Qx c rfl (v:=.agg [I ah.2.why,I ah.2.at_].toArray) (fun _ ⟨_,d⟩=>rfl)<|BX rfl<|Cl rfl (.none rfl) rfl rfl (Aa gv 22 JW rfl fun gy l5 gz g0 bl=>?_)
 refine ⟨⟨_,(T3 (Mo [22] e) aa bk bl)⟩,?_⟩
 refine BX rfl<|have g1:=Ss AL ee bl;Be rfl (.none rfl) rfl (St IS g0 rfl rfl rfl rfl fun l6 g2 b9=>?_)
 refine ⟨⟨_,(T4 (Mo [22] e) aa bk bl b9)⟩,?_⟩
 refine FP dcd<|WY.one<|have g3:=Y3 ed bk bl b9;Be rfl (.none rfl) rfl (St Gb g3 rfl rfl rfl rfl fun l7 g4 c4=>?_)
 refine WY.nil<|have g5:=K2 AL g1 b9 c4;have g6:=Bs g2 c4;⟨_,gy,gz,ec,ah.1.funcs,c2,c3,ah.2.why,ah.2.at_,Pu,a,(T2 (T4 (Mo [22,23] g) e aa bk bl) b9 c4),g5,g6,g4⟩
 refine Cl rfl (.none rfl) rfl rfl (Aa eb 22 JW rfl fun g7 g8 g9 ha a4=>?_)
 refine ⟨⟨_,(T2 (Mo [22] e) aa a4)⟩,?_⟩
 refine BX rfl<|have hb:=K2 Kd.u8 (K4 Kd.u8 r s n g e) aa a4;Bi a fun ai hc a=>BR rfl (.none rfl) rfl rfl (L7 [Sl w o.text y,.agg [I f.text,I f.funcs,I f.arity,I f.nest].toArray] rfl)<|Calls.mono (Ew m g7 g8 hc hb (Ex (x:=f))) ?_
 rintro _ l8 ⟨hd,l9,ma,rfl,bm,he,hf⟩
 obtain ⟨mb,rfl,ef⟩:=BK he
 obtain ⟨c5,c6,rfl⟩:=AG ef
 obtain rfl:=As hf
 refine ⟨_,rfl,⟨_,(T3 (Mo [22] e) aa a4 bm)⟩,?_⟩
 refine Qx c rfl (v:=.tuple #[.agg [Sl c5 ai.1.funcs c6].toArray,.agg [I ai.2.why,I ai.2.at_].toArray]) (fun _ ⟨_,d⟩=>Run.move rfl)<|Qx c rfl (v:=.agg [Sl c5 ai.1.funcs c6].toArray) (fun _ ⟨_,d⟩=>rfl)<|Qx c rfl (v:=.agg [I ai.2.why,I ai.2.at_].toArray) (fun _ ⟨_,d⟩=>rfl)<|BX rfl<|have hg:=Bs ha bm;Be rfl (.none rfl) rfl (St IS hg rfl rfl rfl rfl fun mc hh ca=>?_)
 refine ⟨⟨_,(T4 (Mo [22] e) aa a4 bm ca)⟩,?_⟩
 refine FP dcd<|WY.one<|have hi:=Y3 ed a4 bm ca;Be rfl (.none rfl) rfl (St Gb hi rfl rfl rfl rfl fun md hj c7=>?_)
 refine WY.nil<|have hk:=K2 AL ef ca c7;have hl:=Bs hh c7;⟨_,hd,g9,ec,ai.1.funcs,c5,c6,ai.2.why,ai.2.at_,Pu,a,(T2 (T4 (Mo [22,23] g) e aa a4 bm) ca c7),hk,hl,hj⟩
 refine Cl rfl (.none rfl) rfl rfl (Aa bb 22 JW rfl fun eg hm c8 c9 h=>?_)
 refine ⟨⟨_,(Mo [22] h)⟩,?_⟩
 refine N4 rfl rfl ?_ ?_
 refine Bi a fun ac hn a=>BR rfl (.none rfl) rfl rfl (Ri [] rfl)<|Calls.mono (KZ eg hm hn) ?_
 rintro _ ho ⟨eh,me,rfl,p,hp⟩
 obtain rfl:=Jj hp
 refine ⟨_,rfl,⟨_,(Tn (Mo [22] h) p)⟩,?_⟩
 refine N4 rfl rfl ?_ ?_
 refine have hq:=Ss Kd.u8 (K4 Kd.u8 r s n g h) p;Bi a fun aj hr a=>BR rfl (.none rfl) rfl rfl (L7 [Sl w o.text y,.agg [I ac.text,I ac.funcs,I ac.arity,I ac.nest].toArray] rfl)<|Calls.mono (Ew m eh ho hr hq (Ex (x:=ac))) ?_
 rintro _ mf ⟨hs,mg,mh,rfl,bn,ht,hu⟩
 obtain ⟨mi,rfl,ei⟩:=BK ht
 obtain ⟨da,db,rfl⟩:=AG ei
 obtain rfl:=As hu
 refine ⟨_,rfl,⟨_,(T2 (Mo [22] h) p bn)⟩,?_⟩
 refine Qx c rfl (v:=.tuple #[.agg [Sl da aj.1.funcs db].toArray,.agg [I aj.2.why,I aj.2.at_].toArray]) (fun _ ⟨_,d⟩=>Run.move rfl)<|Qx c rfl (v:=.agg [Sl da aj.1.funcs db].toArray) (fun _ ⟨_,d⟩=>rfl)<|Qx c rfl (v:=.agg [I aj.2.why,I aj.2.at_].toArray) (fun _ ⟨_,d⟩=>rfl)<|BX rfl<|Cl rfl (.none rfl) rfl rfl (Aa hs 23 Ep rfl fun hw mj hx hy bo=>?_)
 refine ⟨⟨_,(T3 (Mo [22] h) p bn bo)⟩,?_⟩
 refine BX rfl<|have hz:=Y3 c9 p bn bo;have h0:=Ss AL ei bo;Be rfl (.none rfl) rfl (St IS hz rfl rfl rfl rfl fun mk h1 cb=>?_)
 refine ⟨⟨_,(T4 (Mo [22] h) p bn bo cb)⟩,?_⟩
 refine FP dcd<|WY.one<|have h2:=Bs hy cb;Be rfl (.none rfl) rfl (St Gb h2 rfl rfl rfl rfl fun ml h3 dc=>?_)
 refine WY.nil<|have h4:=K2 AL h0 cb dc;have h5:=Bs h1 dc;⟨_,hw,c8,hx,aj.1.funcs,da,db,aj.2.why,aj.2.at_,Pu,a,(T2 (T4 (Mo [22,23] g) h p bn bo) cb dc),h4,h5,h3⟩
 refine Cl rfl (.none rfl) rfl rfl (Aa eh 23 Ep rfl fun h6 h7 h8 h9 a5=>?_)
 refine ⟨⟨_,(T2 (Mo [22] h) p a5)⟩,?_⟩
 refine BX rfl<|have ia:=K2 Kd.u8 (K4 Kd.u8 r s n g h) p a5;Bi a fun ak ib a=>BR rfl (.none rfl) rfl rfl (L7 [Sl w o.text y,.agg [I ac.text,I ac.funcs,I ac.arity,I ac.nest].toArray] rfl)<|Calls.mono (Ew m h6 h7 ib ia (Ex (x:=ac))) ?_
 rintro _ mm ⟨ic,mn,mo,rfl,bp,id,ie⟩
 obtain ⟨mp,rfl,ej⟩:=BK id
 obtain ⟨de,df,rfl⟩:=AG ej
 obtain rfl:=As ie
 refine ⟨_,rfl,⟨_,(T3 (Mo [22] h) p a5 bp)⟩,?_⟩
 refine Qx c rfl (v:=.tuple #[.agg [Sl de ak.1.funcs df].toArray,.agg [I ak.2.why,I ak.2.at_].toArray]) (fun _ ⟨_,d⟩=>Run.move rfl)<|Qx c rfl (v:=.agg [Sl de ak.1.funcs df].toArray) (fun _ ⟨_,d⟩=>rfl)<|Qx c rfl (v:=.agg [I ak.2.why,I ak.2.at_].toArray) (fun _ ⟨_,d⟩=>rfl)<|BX rfl<|have ig:=Y3 c9 p a5 bp;Be rfl (.none rfl) rfl (St IS ig rfl rfl rfl rfl fun mq ih cc=>?_)
 refine ⟨⟨_,(T4 (Mo [22] h) p a5 bp cc)⟩,?_⟩
 refine FP dcd<|WY.one<|have ii:=Y2 h9 bp cc;Be rfl (.none rfl) rfl (St Gb ii rfl rfl rfl rfl fun mr ij dg=>?_)
 refine WY.nil<|have ik:=K2 AL ej cc dg;have il:=Bs ih dg;⟨_,ic,c8,h8,ak.1.funcs,de,df,ak.2.why,ak.2.at_,Pu,a,(T2 (T4 (Mo [22,23] g) h p a5 bp) cc dg),ik,il,ij⟩
 refine Cl rfl (.none rfl) rfl rfl (Aa eg 23 Ep rfl fun im io ip iq ar=>?_)
 refine ⟨⟨_,(Tn (Mo [22] h) ar)⟩,?_⟩
 refine BX rfl<|Bi a fun bq ir a=>BR rfl (.none rfl) rfl rfl (Ri [] rfl)<|Calls.mono (KZ im io ir) ?_
 rintro _ it ⟨iu,ms,rfl,au,iv⟩
 obtain rfl:=Jj iv
 refine ⟨_,rfl,⟨_,(T2 (Mo [22] h) ar au)⟩,?_⟩
 refine BX rfl<|have iw:=K2 Kd.u8 (K4 Kd.u8 r s n g h) ar au;Bi a fun al ix a=>BR rfl (.none rfl) rfl rfl (L7 [Sl w o.text y,.agg [I bq.text,I bq.funcs,I bq.arity,I bq.nest].toArray] rfl)<|Calls.mono (Ew m iu it ix iw (Ex (x:=bq))) ?_
 rintro _ mt ⟨iy,mu,mv,rfl,br,iz,i0⟩
 obtain ⟨mw,rfl,ek⟩:=BK iz
 obtain ⟨dh,di,rfl⟩:=AG ek
 obtain rfl:=As i0
 refine ⟨_,rfl,⟨_,(T3 (Mo [22] h) ar au br)⟩,?_⟩
 refine Qx c rfl (v:=.tuple #[.agg [Sl dh al.1.funcs di].toArray,.agg [I al.2.why,I al.2.at_].toArray]) (fun _ ⟨_,d⟩=>Run.move rfl)<|Qx c rfl (v:=.agg [Sl dh al.1.funcs di].toArray) (fun _ ⟨_,d⟩=>rfl)<|Qx c rfl (v:=.agg [I al.2.why,I al.2.at_].toArray) (fun _ ⟨_,d⟩=>rfl)<|BX rfl<|have i1:=Y3 c9 ar au br;Be rfl (.none rfl) rfl (St IS i1 rfl rfl rfl rfl fun mx i2 cd=>?_)
 refine ⟨⟨_,(T4 (Mo [22] h) ar au br cd)⟩,?_⟩
 refine FP dcd<|WY.one<|have i3:=Y3 iq au br cd;Be rfl (.none rfl) rfl (St Gb i3 rfl rfl rfl rfl fun my i4 dj=>?_)
 refine WY.nil<|have i5:=K2 AL ek cd dj;have i6:=Bs i2 dj;⟨_,iy,c8,ip,al.1.funcs,dh,di,al.2.why,al.2.at_,Pu,a,(T2 (T4 (Mo [22,23] g) h ar au br) cd dj),i5,i6,i4⟩
 refine Cl rfl (.none rfl) rfl rfl (Aa bb 23 Ep rfl fun el i7 dk dl l=>?_)
 refine ⟨⟨_,(Mo [22] l)⟩,?_⟩
 refine N4 rfl rfl ?_ ?_
 refine Bi a fun ad i8 a=>BR rfl (.none rfl) rfl rfl (Ri [] rfl)<|Calls.mono (KZ el i7 i8) ?_
 rintro _ i9 ⟨em,mz,rfl,q,ja⟩
 obtain rfl:=Jj ja
 refine ⟨_,rfl,⟨_,(Tn (Mo [22] l) q)⟩,?_⟩
 refine N4 rfl rfl ?_ ?_
 refine have jb:=Ss Kd.u8 (K4 Kd.u8 r s n g l) q;Bi a fun am jc a=>BR rfl (.none rfl) rfl rfl (L7 [Sl w o.text y,.agg [I ad.text,I ad.funcs,I ad.arity,I ad.nest].toArray] rfl)<|Calls.mono (Ew m em i9 jc jb (Ex (x:=ad))) ?_
 rintro _ m0 ⟨jd,m1,m2,rfl,bt,je,jf⟩
 obtain ⟨m3,rfl,en⟩:=BK je
 obtain ⟨dm,dn,rfl⟩:=AG en
 obtain rfl:=As jf
 refine ⟨_,rfl,⟨_,(T2 (Mo [22] l) q bt)⟩,?_⟩
 refine Qx c rfl (v:=.tuple #[.agg [Sl dm am.1.funcs dn].toArray,.agg [I am.2.why,I am.2.at_].toArray]) (fun _ ⟨_,d⟩=>Run.move rfl)<|Qx c rfl (v:=.agg [Sl dm am.1.funcs dn].toArray) (fun _ ⟨_,d⟩=>rfl)<|Qx c rfl (v:=.agg [I am.2.why,I am.2.at_].toArray) (fun _ ⟨_,d⟩=>rfl)<|BX rfl<|Cl rfl (.none rfl) rfl rfl (Aa jd 22 JW rfl fun jg m4 jh ji bu=>?_)
 refine ⟨⟨_,(T3 (Mo [22] l) q bt bu)⟩,?_⟩
 refine BX rfl<|have jj:=Ss AL en bu;Be rfl (.none rfl) rfl (St IS ji rfl rfl rfl rfl fun m5 jk cf=>?_)
 refine ⟨⟨_,(T4 (Mo [22] l) q bt bu cf)⟩,?_⟩
 refine FP dcd<|WY.one<|have jl:=Y4 dl q bt bu cf;Be rfl (.none rfl) rfl (St Gb jl rfl rfl rfl rfl fun m6 jm dp=>?_)
 refine WY.nil<|have jn:=K2 AL jj cf dp;have jo:=Bs jk dp;⟨_,jg,jh,dk,am.1.funcs,dm,dn,am.2.why,am.2.at_,Pu,a,(T2 (T4 (Mo [22,23] g) l q bt bu) cf dp),jn,jo,jm⟩
 refine Cl rfl (.none rfl) rfl rfl (Aa em 22 JW rfl fun jp jq jr js a6=>?_)
 refine ⟨⟨_,(T2 (Mo [22] l) q a6)⟩,?_⟩
 refine BX rfl<|have jt:=K2 Kd.u8 (K4 Kd.u8 r s n g l) q a6;Bi a fun an ju a=>BR rfl (.none rfl) rfl rfl (L7 [Sl w o.text y,.agg [I ad.text,I ad.funcs,I ad.arity,I ad.nest].toArray] rfl)<|Calls.mono (Ew m jp jq ju jt (Ex (x:=ad))) ?_
 rintro _ m7 ⟨jv,m8,m9,rfl,bv,jw,jx⟩
 obtain ⟨na,rfl,eo⟩:=BK jw
 obtain ⟨dq,dr,rfl⟩:=AG eo
 obtain rfl:=As jx
 refine ⟨_,rfl,⟨_,(T3 (Mo [22] l) q a6 bv)⟩,?_⟩
 refine Qx c rfl (v:=.tuple #[.agg [Sl dq an.1.funcs dr].toArray,.agg [I an.2.why,I an.2.at_].toArray]) (fun _ ⟨_,d⟩=>Run.move rfl)<|Qx c rfl (v:=.agg [Sl dq an.1.funcs dr].toArray) (fun _ ⟨_,d⟩=>rfl)<|Qx c rfl (v:=.agg [I an.2.why,I an.2.at_].toArray) (fun _ ⟨_,d⟩=>rfl)<|BX rfl<|have jy:=Bs js bv;Be rfl (.none rfl) rfl (St IS jy rfl rfl rfl rfl fun nb jz cg=>?_)
 refine ⟨⟨_,(T4 (Mo [22] l) q a6 bv cg)⟩,?_⟩
 refine FP dcd<|WY.one<|have j0:=Y4 dl q a6 bv cg;Be rfl (.none rfl) rfl (St Gb j0 rfl rfl rfl rfl fun nc j1 ds=>?_)
 refine WY.nil<|have j2:=K2 AL eo cg ds;have j3:=Bs jz ds;⟨_,jv,jr,dk,an.1.funcs,dq,dr,an.2.why,an.2.at_,Pu,a,(T2 (T4 (Mo [22,23] g) l q a6 bv) cg ds),j2,j3,j1⟩
 refine Cl rfl (.none rfl) rfl rfl (Aa el 22 JW rfl fun j4 j5 j6 j7 av=>?_)
 refine ⟨⟨_,(Tn (Mo [22] l) av)⟩,?_⟩
 refine BX rfl<|Bi a fun bw j8 a=>BR rfl (.none rfl) rfl rfl (Ri [] rfl)<|Calls.mono (KZ j4 j5 j8) ?_
 rintro _ j9 ⟨ka,nd,rfl,aw,kb⟩
 obtain rfl:=Jj kb
 refine ⟨_,rfl,⟨_,(T2 (Mo [22] l) av aw)⟩,?_⟩
 refine BX rfl<|have kc:=K2 Kd.u8 (K4 Kd.u8 r s n g l) av aw;Bi a fun ao kd a=>BR rfl (.none rfl) rfl rfl (L7 [Sl w o.text y,.agg [I bw.text,I bw.funcs,I bw.arity,I bw.nest].toArray] rfl)<|Calls.mono (Ew m ka j9 kd kc (Ex (x:=bw))) ?_
 rintro _ ne ⟨ke,nf,ng,rfl,bx,kf,kg⟩
 obtain ⟨nh,rfl,ep⟩:=BK kf
 obtain ⟨dt,du,rfl⟩:=AG ep
 obtain rfl:=As kg
 refine ⟨_,rfl,⟨_,(T3 (Mo [22] l) av aw bx)⟩,?_⟩
 refine Qx c rfl (v:=.tuple #[.agg [Sl dt ao.1.funcs du].toArray,.agg [I ao.2.why,I ao.2.at_].toArray]) (fun _ ⟨_,d⟩=>Run.move rfl)<|Qx c rfl (v:=.agg [Sl dt ao.1.funcs du].toArray) (fun _ ⟨_,d⟩=>rfl)<|Qx c rfl (v:=.agg [I ao.2.why,I ao.2.at_].toArray) (fun _ ⟨_,d⟩=>rfl)<|BX rfl<|have kh:=Y2 j7 aw bx;Be rfl (.none rfl) rfl (St IS kh rfl rfl rfl rfl fun ni ki ch=>?_)
 refine ⟨⟨_,(T4 (Mo [22] l) av aw bx ch)⟩,?_⟩
 refine FP dcd<|WY.one<|have kj:=Y4 dl av aw bx ch;Be rfl (.none rfl) rfl (St Gb kj rfl rfl rfl rfl fun nj kk dv=>?_)
 refine WY.nil<|have kl:=K2 AL ep ch dv;have km:=Bs ki dv;⟨_,ke,j6,dk,ao.1.funcs,dt,du,ao.2.why,ao.2.at_,Pu,a,(T2 (T4 (Mo [22,23] g) l av aw bx) ch dv),kl,km,kk⟩
 rintro _ az ⟨bc,a0,co,cq,ap,a1,a2,b2,d4,rfl,a,ci,eq,kn,ko⟩
 rw [GI] at a
 refine Sr<|Vx (Run.fieldAddr Xr rfl)<|have kp:=Y2 d2 n ci;Vx (Run.load1 CS rfl (Bk.cell kp rfl))<|Bi a fun ab kq a=>Ca (AAQ [Sb o.args] rfl) (R5 m a0 az kq) ?_
 rintro _ kr ⟨dw,nk,rfl,ax,dx⟩
 obtain ⟨a7,a8,rfl⟩:=AG dx
 refine ⟨_,rfl,?_⟩
 refine Vm<|Vr (Sl a7 ab.1 a8)<|Vr (I ab.2)<|Va (Sl a7 ab.1 a8)<|Va (I ab.2)<|AA<|Ao (fun cn bz=>∃(bc:Env) (a9:Col) (ba:(List AI)) (cj:Option Addr) (ck:Nat) (dy:Bool) (aq:(List AK)) (b0:Option Addr) (b1:Nat),cn=bc.puts [(2,.pointer (some ⟨cm,0,none⟩)),(3,.slice cj ba.length ck),(4,.bool dy)]∧Id ba dy aq=some d1∧AQ [21] dw kr a9 bz∧Slc A1 a9.F bz (Sl cj ba ck) ba∧Slc AL a9.F bz (Sl b0 aq b1) aq∧Bk a9 bz 21 cm [Sl b0 aq b1] 28) ?_ ?_
 refine AO<|have ks:=Bs kn ax;Vx (Run.loadN Gw rfl rfl (Bk.part ks 0 [Sl a1 ap a2] rfl))<|Vm<|Vx (Run.fieldAddr0 MA rfl)<|have kt:=Bs ko ax;Vx (Run.load1 Md rfl (Bk.cell kt rfl))<|Vr (.bool (b2==0))<|Vm<|Bo a (fun ay a=>?_) fun ay a=>?_
 refine Gm ay<|Gr ay (.bool (ab.2==0))<|Vp ay<|have ku:=Y2 d3 ci ax;have kv:=Ss AL eq ax;Eu (St IS ku rfl rfl rfl rfl fun nl kw dz=>?_)
 refine Va (Sl a7 ab.1 a8)<|Va (.bool (ab.2==0))<|AA<|have kx:=Ss A1 dx dz;have ky:=Ss AL kv dz;⟨_,dw,ab.1,a7,a8,(ab.2==0),ap,a1,a2,Pu,a,(Mo [21] dz),kx,ky,kw⟩
 refine Pg ay<|Pg ay<|Vp ay<|have kz:=Y2 d3 ci ax;have k0:=Ss AL eq ax;Eu (St IS kz rfl rfl rfl rfl fun nm k1 d0=>?_)
 refine Va (Sl a7 ab.1 a8)<|Va (.bool false)<|AA<|have k2:=Ss A1 dx d0;have k3:=Ss AL k0 d0;⟨_,dw,ab.1,a7,a8,false,ap,a1,a2,Pu,a,(Mo [21] d0),k2,k3,k1⟩
 rintro _ bz ⟨bc,a9,ba,cj,ck,dy,aq,b0,b1,rfl,a,k4,k5,k6,k7⟩
 rw [Id] at a
 refine AT ?_
 obtain rfl:=AP a
 refine Ax (B:=B) eu (ABy rfl (.agg Gw rfl rfl (Bk.part k7 0 [Sl b0 aq b1] rfl)) (.tmp rfl) (.tmp rfl) ?_)
 exact ⟨a9,[Sl b0 aq b1],Sl cj ba ck,rfl,Ho (T4 (Mo [21,22,23] s) n ci ax k4) es,(BS (x:=(AM.mk aq)) k6),k5⟩
theorem MY(c:Nat):B3.Spec (B3 c):=by
 intro a d p q r e f
 refine Calls.mono (PA c (recol (see []) a) d (Az lbr a) e (Au LM f [])) ?_
 rintro s u ⟨g,h,u1,l,m,n,o⟩
 exact ⟨glue [] d a g,h,u1,l,Ad m Ay,BB BN n,DV A1 o⟩
def Dm.At(G1 G2:Prop)(c:Col)(a:World)(f:Int→Int→AD→Option AD)(d:Nat):Prop:=
 ∀{l:Int} {m:Int} {e:Nat} {n:AD} {o:List Value} {p:AD},f l m n=some p→G1→G2→Bk c a d e o 63→Ag.rep c.F a o n→
  Calls Tryz.prog 79 #[I l,I m,Pt e 0] a fun r g=>∃(h:Col) (q:List Value),r=.returned (.tuple #[])∧AQ [d] c a h g∧Bk h g d e q 63∧Ag.rep h.F g q p
def Dm.Spec(f:Int→Int→AD→Option AD):Prop:=
 ∀(c:Col) (d:World) {a:Nat},Dm.At ([a].Nodup) (0∉[a]) c d f a
theorem PX(f:Col)(o:World)(p:∀b,f b<10):Dm.At True True f o Dm 1:=by
 intro g d u e af w a _ _ h y
 rw [Dm] at a
 obtain rfl:=As y
 refine A0 Tryz.func79 rfl Tryz.ntmps79 rfl fun B q ag=>Ao (fun z r=>∃(s:Env) (l:Col) (n:Bool),z=s.puts [(0,.int .i64 g),(1,.int .i64 d),(2,.pointer (some ⟨u,0,none⟩)),(13,.bool n)]∧I2 g d e n=some w∧AQ [] f o l r) ?_ ?_
 refine AO<|Vx (Run.fieldAddr0 MA rfl)<|Vx (Run.load1 Md rfl (Bk.cell h rfl))<|Vr (.bool (e.why==0))<|Vm<|Bo a (fun c a=>?_) fun c a=>?_
 refine Pg c<|Pg c<|Pg c<|Pg c<|Vp c<|AA<|⟨_,f,true,Pu,a,(AQ.refl [] _ _)⟩
 refine Gm c<|Gx c (Run.fieldAddr N9 rfl)<|Gx c (Run.load1 B5 rfl (Bk.cell h rfl))<|Gr c (.bool (decide (d<e.at_)))<|Vp c<|AA<|⟨_,f,(decide (d<e.at_)),Pu,a,(AQ.refl [] _ _)⟩
 rintro _ r ⟨s,l,n,rfl,a,m⟩
 rw [I2] at a
 refine Cn a (fun aa a=>?_) fun aa a=>?_
 refine AO<|Vm<|Vm<|Vx (v:=.agg [I g,I d].toArray) (Bp Ep Lq rfl (.cons rfl rfl rfl (.cons rfl rfl rfl .nil)))<|have ab:=Bs h m;Eu (St Gb ab rfl rfl rfl rfl fun ah ac ad=>?_)
 refine AA ?_
 obtain rfl:=AP a
 refine L3 (B:=B) q (L2 rfl ?_)
 exact ⟨l,[I g,I d],rfl,Ho (Tn (Mo [1] m) ad) p,ac,(Ah (x:=(AD.mk g d)))⟩
 refine WC.skip ?_
 obtain rfl:=AP a
 refine L3 (B:=B) q (L2 rfl ?_)
 refine have ae:=Bs h m;⟨l,[I e.why,I e.at_],rfl,Ho (Mo [] m) p,ae,(Ah (x:=e))⟩
theorem JJ:Dm.Spec Dm:=by
 intro c d a q r s u w y f hnd hnz e g
 refine Calls.mono (PX (recol (see [a]) c) d (Az lbr c) f trivial trivial (A6 e [a] (BD hnd hnz (i:=0) rfl)) (Au Ag g [a])) ?_
 rintro z aa ⟨h,l,m,n,o,p⟩
 exact ⟨glue [a] d c h,l,m,Ad n (DS rfl rfl),CK e o dcd,BB Ag p⟩
def Fb.At(G1 G2:Prop)(c:Col)(a:World)(f:AE→Ak→Ak→AD→AM→Option AD)(ad:Nat)(ae:Nat)(af:Nat)(ag:Nat)(d:Nat)(ah:Nat):Prop:=
 ∀{l:AE} {m:List Value} {n:Nat} {o:Ak} {p:Nat} {q:Nat} {r:Ak} {s:Nat} {e:Nat} {u:AD} {w:List Value} {y:Nat} {z:AM} {aa:List Value} {ab:AD},f l o r u z=some ab→G1→G2→AJ.rep c.F a m l→Mp c a ad n o→Bk c a ae p [.map (some q)] 81→Mp c a af q r→Bk c a ag s [.func (.func 79) #[] [Pt e 0].toArray] 169→Bk c a d e w 63→Ag.rep c.F a w u→Bk c a ah y aa 28→BN.rep c.F a aa z→
  Calls Tryz.prog 81 #[.agg m.toArray,.map (some n),Pt p 0,Pt s 0,Pt y 0] a fun ai g=>∃(h:Col) (ac:List Value),ai=.returned (.tuple #[])∧AQ [d] c a h g∧Bk h g d e ac 63∧Ag.rep h.F g ac ab
def Fb.Spec(f:AE→Ak→Ak→AD→AM→Option AD):Prop:=
 ∀(l:Col) (m:World) {a:Nat} {c:Nat} {d:Nat} {e:Nat} {g:Nat} {h:Nat},Fb.At ([a,c,d,e,g,h].Nodup) (0∉[a,c,d,e,g,h]) l m f a c d e g h
theorem PY(ak:Col)(a8:World)(ac:∀b,ak b<10):Fb.At True True ak a8 Fb 1 2 3 4 5 6:=by
 intro c c1 c2 ad c3 c4 m al am p c5 an ao c6 ap a _ _ a9 ba bb bc aq ae bd be bf
 rw [Fb] at a
 obtain ⟨c7,rfl,a4⟩:=Am a9
 obtain ⟨bg,bh,rfl⟩:=AG a4
 obtain rfl:=As bd
 obtain ⟨c8,rfl,a5⟩:=BK bf
 obtain ⟨bi,bj,rfl⟩:=AG a5
 refine A0 Tryz.func81 rfl Tryz.ntmps81 rfl fun B af d=>Sr<|Ef (Bf ak 20 rfl rfl fun ar bk ag q l=>?_)
 refine AA<|Sr<|have bl:=Bs bb l;Vx (Run.load1 OD rfl (Bk.cell bl rfl))<|Vx (Run.fieldAddr EN rfl)<|Vx (Run.load1 CS rfl (Bk.cell q rfl))<|have bm:=Ms bc l;Vx (v:=I (CR m c.name)) (JN KM rfl rfl bm)<|Va (I (CR m c.name))<|AA<|Aj<|Ao (fun ab ah=>∃(r:Env) (w:Col) (au:Bool),ab=r.puts [(3,.pointer (some ⟨al,0,none⟩)),(4,.pointer (some ⟨an,0,none⟩)),(5,.pointer (some ⟨ag,0,none⟩)),(7,.int .i64 (CR m c.name)),(12,.bool au)]∧Gl c m p ao au=some ap∧AQ [] ar bk w ah) ?_ ?_
 refine AO<|Vx (Run.fieldAddr0 DR rfl)<|Vx (Run.load1 HS rfl (Bk.cell q rfl))<|Vr (.bool (c.op==6))<|Vm<|Bo a (fun o a=>?_) fun o a=>?_
 refine Gm o<|Gx o (Run.fieldAddr EN rfl)<|Gx o (Run.load1 CS rfl (Bk.cell q rfl))<|have bn:=Ms ba l;Gx o (v:=I (CR ad c.name)) (JN KM rfl rfl bn)<|Gr o (.bool ((CR ad c.name)==0))<|Vp o<|Va (.bool ((CR ad c.name)==0))<|AA<|⟨_,ar,((CR ad c.name)==0),Pu,a,(AQ.refl [] _ _)⟩
 refine Pg o<|Pg o<|Pg o<|Pg o<|Pg o<|Vp o<|Va (.bool false)<|AA<|⟨_,ar,false,Pu,a,(AQ.refl [] _ _)⟩
 rintro _ ah ⟨r,w,au,rfl,a,g⟩
 rw [Gl] at a
 refine Cn a (fun bo a=>?_) fun bo a=>?_
 refine AO<|have bp:=Y2 aq l g;Vx (Run.load1 PU rfl (Bk.cell bp rfl))<|Vx (Run.fieldAddr Li rfl)<|have bq:=Bs q g;Vx (Run.load1 B5 rfl (Bk.cell bq rfl))<|have br:=Y2 ae l g;Bi a fun av bt a=>Ca (Rk (vs:=[I 31,I c.at_]) (caps:=[Pt am 0]) rfl rfl) (JJ w ah bt dcd dcd br (Ah (x:=p))) ?_
 rintro _ c9 ⟨bu,da,rfl,bv,bw,bx⟩
 obtain rfl:=As bx
 refine ⟨_,rfl,?_⟩
 refine AA ?_
 obtain rfl:=AP a
 refine L3 (B:=B) af (L2 rfl ?_)
 exact ⟨bu,[I av.why,I av.at_],rfl,Ho (T2 (Mo [5] l) g bv) ac,bw,(Ah (x:=av))⟩
 refine Ao (fun ab ai=>∃(r:Env) (s:Col) (aw:Bool),ab=r.puts [(3,.pointer (some ⟨al,0,none⟩)),(4,.pointer (some ⟨an,0,none⟩)),(5,.pointer (some ⟨ag,0,none⟩)),(7,.int .i64 (CR m c.name)),(27,.bool aw)]∧Fx c m p ao aw=some ap∧AQ [] w ah s ai) ?_ ?_
 refine AO<|Vx (Run.fieldAddr0 DR rfl)<|have bz:=Bs q g;Vx (Run.load1 HS rfl (Bk.cell bz rfl))<|Vr (.bool (c.op==7))<|Vm<|Bo a (fun u a=>?_) fun u a=>?_
 refine Gm u<|Gr u (.bool ((CR m c.name)==0))<|Vp u<|Va (.bool ((CR m c.name)==0))<|AA<|⟨_,w,((CR m c.name)==0),Pu,a,(AQ.refl [] _ _)⟩
 refine Pg u<|Pg u<|Vp u<|Va (.bool false)<|AA<|⟨_,w,false,Pu,a,(AQ.refl [] _ _)⟩
 rintro _ ai ⟨r,s,aw,rfl,a,n⟩
 rw [Fx] at a
 refine Cn a (fun b0 a=>?_) fun b0 a=>?_
 refine AO<|have b1:=Y3 aq l g n;Vx (Run.load1 PU rfl (Bk.cell b1 rfl))<|Vx (Run.fieldAddr Li rfl)<|have b2:=Y2 q g n;Vx (Run.load1 B5 rfl (Bk.cell b2 rfl))<|have b3:=Y3 ae l g n;Bi a fun ax b4 a=>Ca (Rk (vs:=[I 32,I c.at_]) (caps:=[Pt am 0]) rfl rfl) (JJ s ai b4 dcd dcd b3 (Ah (x:=p))) ?_
 rintro _ db ⟨b5,dc,rfl,b6,b7,b8⟩
 obtain rfl:=As b8
 refine ⟨_,rfl,?_⟩
 refine AA ?_
 obtain rfl:=AP a
 refine L3 (B:=B) af (L2 rfl ?_)
 exact ⟨b5,[I ax.why,I ax.at_],rfl,Ho (T3 (Mo [5] l) g n b6) ac,b7,(Ah (x:=ax))⟩
 refine Ao (fun ab ay=>∃(r:Env) (aj:Col) (az:Bool),ab=r.puts [(3,.pointer (some ⟨al,0,none⟩)),(5,.pointer (some ⟨ag,0,none⟩)),(39,.bool az)]∧Gk c p az=some ap∧AQ [] s ai aj ay) ?_ ?_
 refine CJ FL (.q 0 (.q 1 (.q 2 (.q 3 (.q 4 (.q 5 (.q 6 (.q 7 (.q 8 (.q 9 (.q 10 (.q 11 (.q 12 (.q 13 (.q 14 (.q 15 (.q 16 (.q 17 .nil)))))))))))))))))) [] [] s (by kernel_rfl) fun b9 y=>Qx d rfl (fun _ ⟨_,f⟩=>Run.fieldAddr0 DR rfl)<|have a6:=Y3 q g n y;Qx d rfl (fun _ ⟨_,f⟩=>Run.load1 HS rfl (Bk.cell (Bs a6 f) rfl))<|Qx d rfl (v:=.bool (c.op==7)) (fun _ ⟨_,f⟩=>rfl)<|Qx d rfl (v:=.bool (c.op==7)) (fun _ ⟨_,f⟩=>Run.move rfl)<|Bo a (fun e a=>?_) fun e a=>?_
 refine A4 (fun _ _ _ _ h=>d _ _ _ _ h) rfl rfl (.guard (t:=true) (b:=true) rfl rfl rfl rfl (Cb e)) rfl rfl (v:=Pt an 0) (fun _ ⟨_,f⟩=>Run.fieldAddr0 D5 rfl)<|have ca:=Y4 be l g n y;A4 (fun _ _ _ _ h=>d _ _ _ _ h) rfl rfl (.guard (t:=true) (b:=true) rfl rfl rfl rfl (Cb e)) rfl rfl (v:=Sl bi ao.funcs bj) (fun _ ⟨_,f⟩=>Run.load1 GQ rfl (Bk.cell (Bs ca f) rfl))<|A4 (fun _ _ _ _ h=>d _ _ _ _ h) rfl rfl (.guard (t:=true) (b:=true) rfl rfl rfl rfl (Cb e)) rfl rfl (v:=I (CR m c.name)) (fun _ ⟨_,f⟩=>Run.move rfl)<|A4 (fun _ _ _ _ h=>d _ _ _ _ h) rfl rfl (.guard (t:=true) (b:=true) rfl rfl rfl rfl (Cb e)) rfl rfl (v:=I (Wr ((CR m c.name) - 1))) (fun _ ⟨_,f⟩=>rfl)<|Bi a fun z cb a=>have cc:=K4 AL a5 l g n y; ?_
 obtain ⟨a0,a1,de,cd,cf,cg,ch,ci,a2⟩:=BL (κ:=AL) cc cb
 replace a2:A8 s b9 a0 (a1+((Wr ((CR m c.name) - 1))).toNat*11) cd:=a2
 obtain ⟨df,dg,rfl,a7,cj⟩:=Cw ci
 obtain ⟨ck,cl,rfl⟩:=AG a7
 obtain ⟨dh,di,rfl⟩:=AG cj
 refine A4 (fun _ _ _ _ h=>d _ _ _ _ h) rfl rfl (.guard (t:=true) (b:=true) rfl rfl rfl rfl (Cb e)) rfl rfl (v:=.pointer (some ⟨a0,a1+((Wr ((CR m c.name) - 1))).toNat*11,none⟩)) (fun _ ⟨_,f⟩=>Run.indexAddr Fp cf rfl cg ch)<|A4 (fun _ _ _ _ h=>d _ _ _ _ h) rfl rfl (.guard (t:=true) (b:=true) rfl rfl rfl rfl (Cb e)) rfl rfl (v:=.pointer (some ⟨a0,a1+((Wr ((CR m c.name) - 1))).toNat*11+1,none⟩)) (fun _ ⟨_,f⟩=>Run.fieldAddr EX rfl)<|A4 (fun _ _ _ _ h=>d _ _ _ _ h) rfl rfl (.guard (t:=true) (b:=true) rfl rfl rfl rfl (Cb e)) rfl rfl (v:=Sl ck z.params cl) (fun _ ⟨_,f⟩=>Run.load1 Eo rfl (A8.cell (k:=1) (Es a2 f) rfl)) ?_
 obtain ⟨dj,dk,cm⟩:=AG a7
 refine A4 (fun _ _ _ _ h=>d _ _ _ _ h) rfl rfl (.guard (t:=true) (b:=true) rfl rfl rfl rfl (Cb e)) rfl rfl (v:=I (z.params.length:Int)) (fun _ ⟨_,f⟩=>Run.lenSlc D3 cm)<|A4 (fun _ _ _ _ h=>d _ _ _ _ h) rfl rfl (.guard (t:=true) (b:=true) rfl rfl rfl rfl (Cb e)) rfl rfl (v:=Pt ag 5) (fun _ ⟨_,f⟩=>Run.fieldAddr Bq rfl)<|A4 (fun _ _ _ _ h=>d _ _ _ _ h) rfl rfl (.guard (t:=true) (b:=true) rfl rfl rfl rfl (Cb e)) rfl rfl (v:=Sl bg c.args bh) (fun _ ⟨_,f⟩=>Run.load1 EB rfl (Bk.cell (Bs a6 f) rfl))<|have cn:=K4 AJ a4 l g n y; ?_
 obtain ⟨dl,dm,co⟩:=AG cn
 refine A4 (fun _ _ _ _ h=>d _ _ _ _ h) rfl rfl (.guard (t:=true) (b:=true) rfl rfl rfl rfl (Cb e)) rfl rfl (v:=I (c.args.length:Int)) (fun _ ⟨_,f⟩=>Run.lenSlc DT co)<|A4 (fun _ _ _ _ h=>d _ _ _ _ h) rfl rfl (.guard (t:=true) (b:=true) rfl rfl rfl rfl (Cb e)) rfl rfl (v:=.bool ((z.params.length:Int) != (c.args.length:Int))) (fun _ ⟨_,f⟩=>rfl)<|Qx d rfl (v:=.bool ((z.params.length:Int) != (c.args.length:Int))) (fun _ ⟨_,f⟩=>(Pk e))<|Qx d rfl (v:=.bool ((z.params.length:Int) != (c.args.length:Int))) (fun _ ⟨_,f⟩=>Run.assign rfl)<|Dy<|⟨_,s,((z.params.length:Int) != (c.args.length:Int)),Pu,a,(Mo [] y)⟩
 refine Qp d rfl e<|Qp d rfl e<|Qp d rfl e<|Qp d rfl e<|Qp d rfl e<|Qp d rfl e<|Qp d rfl e<|Qp d rfl e<|Qp d rfl e<|Qp d rfl e<|Qp d rfl e<|Qp d rfl e<|Qx d rfl (v:=.bool false) (fun _ ⟨_,f⟩=>(Pk e))<|Qx d rfl (v:=.bool false) (fun _ ⟨_,f⟩=>Run.assign rfl)<|Dy<|⟨_,s,false,Pu,a,(Mo [] y)⟩
 rintro _ ay ⟨r,aj,az,rfl,a,aa⟩
 rw [Gk] at a
 refine Cn a (fun cq a=>?_) fun cq a=>?_
 refine AO<|have cr:=Y4 aq l g n aa;Vx (Run.load1 PU rfl (Bk.cell cr rfl))<|Vx (Run.fieldAddr Li rfl)<|have ct:=Y3 q g n aa;Vx (Run.load1 B5 rfl (Bk.cell ct rfl))<|have cu:=Y4 ae l g n aa;Bi a fun a3 cv a=>Ca (Rk (vs:=[I 33,I c.at_]) (caps:=[Pt am 0]) rfl rfl) (JJ aj ay cv dcd dcd cu (Ah (x:=p))) ?_
 rintro _ dn ⟨cw,dp,rfl,cx,cy,cz⟩
 obtain rfl:=As cz
 refine ⟨_,rfl,?_⟩
 refine AA ?_
 obtain rfl:=AP a
 refine L3 (B:=B) af (L2 rfl ?_)
 exact ⟨cw,[I a3.why,I a3.at_],rfl,Ho (T4 (Mo [5] l) g n aa cx) ac,cy,(Ah (x:=a3))⟩
 refine WC.skip ?_
 obtain rfl:=AP a
 refine L3 (B:=B) af (L2 rfl ?_)
 refine have c0:=Y4 ae l g n aa;⟨aj,[I p.why,I p.at_],rfl,Ho (T3 (Mo [] l) g n aa) ac,c0,(Ah (x:=p))⟩
theorem QC:Fb.Spec Fb:=by
 intro h l a c d e f g af ag ah ai aj ak al am an ao ap aq ar au av n hnd hnz o p q r s m u w y
 refine Calls.mono (PY (recol (see [a,c,d,e,f,g]) h) l (Az lbr h) n trivial trivial (Au AJ o [a,c,d,e,f,g]) (Ge p [a,c,d,e,f,g] (BD hnd hnz (i:=0) rfl)) (A6 q [a,c,d,e,f,g] (BD hnd hnz (i:=1) rfl)) (Ge r [a,c,d,e,f,g] (BD hnd hnz (i:=2) rfl)) (A6 s [a,c,d,e,f,g] (BD hnd hnz (i:=3) rfl)) (A6 m [a,c,d,e,f,g] (BD hnd hnz (i:=4) rfl)) (Au Ag u [a,c,d,e,f,g]) (A6 w [a,c,d,e,f,g] (BD hnd hnz (i:=5) rfl)) (Au BN y [a,c,d,e,f,g])) ?_
 rintro aw ax ⟨z,aa,ab,ac,ad,ae⟩
 exact ⟨glue [a,c,d,e,f,g] l h z,aa,ab,Ad ac (DS rfl rfl),CK m ad dcd,BB Ag ae⟩
def HJ.At(c:Col)(a:World)(f:AE→Int→Option (List Bts)):Prop:=
 ∀{d:AE} {e:List Value} {g:Int} {h:(List Bts)},f d g=some h→AJ.rep c.F a e d→
  Calls Tryz.prog 111 #[.agg e.toArray,I g] a fun o l=>∃(m:Col) (n:Value),o=.returned n∧AQ [] c a m l∧Slc CH m.F l n h
def HJ.Spec(f:AE→Int→Option (List Bts)):Prop:=
 ∀(a:Col) (c:World),HJ.At a c f
theorem Qv(p:Col)(ah:World)(q:∀b,p b<10):HJ.At p ah HJ:=by
 intro c a8 d ad a ai
 rw [HJ] at a
 obtain ⟨a9,rfl,aj⟩:=Am ai
 obtain ⟨ba,bb,rfl⟩:=AG aj
 refine A0 Tryz.func111 rfl Tryz.ntmps111 rfl fun B r bc=>Sr<|Ef (Bf p 20 rfl rfl fun n ak ae l s=>?_)
 refine Va (.slice none 0 0)<|AA<|AZ<|Aj<|Ao (fun u w=>∃(m:Env) (g:Col) (y:Bool),u=m.puts [(1,.int .i64 d),(2,.pointer (some ⟨ae,0,none⟩)),(5,.bool y)]∧I3 c d y=some ad∧AQ [] n ak g w) ?_ ?_
 refine Sr<|Vx (Run.fieldAddr0 DR rfl)<|Vx (Run.load1 HS rfl (Bk.cell l rfl))<|Vr (.bool (c.op==21))<|Va (.bool (c.op==21))<|AA<|Cn a (fun al a=>?_) fun al a=>?_
 refine WC.skip<|⟨_,n,(c.op==21),Pu,a,(AQ.refl [] _ _)⟩
 refine AO<|Vx (Run.fieldAddr0 DR rfl)<|Vx (Run.load1 HS rfl (Bk.cell l rfl))<|Vr (.bool (c.op==22))<|Vm<|Bo a (fun e a=>?_) fun e a=>?_
 refine Gm e<|Gr e (.bool (d==1))<|Vp e<|Va (.bool (d==1))<|AA<|⟨_,n,(d==1),Pu,a,(AQ.refl [] _ _)⟩
 refine Pg e<|Pg e<|Vp e<|Va (.bool false)<|AA<|⟨_,n,false,Pu,a,(AQ.refl [] _ _)⟩
 rintro _ w ⟨m,g,y,rfl,a,h⟩
 rw [I3] at a
 refine Cn a (fun am a=>?_) fun am a=>?_
 refine Sr<|Vx (Run.fieldAddr EN rfl)<|have an:=Bs l h;Vx (Run.load1 CS rfl (Bk.cell an rfl))<|Ef (DC (cs:=[Sb c.name]) g 21 [[Sb c.name]] Hi Oz rfl rfl (.cons rfl rfl rfl .nil) rfl fun ao ap z aq ar=>?_)
 refine have au:Own CH 9 ao ap 21 (.slice (some ⟨z,0,none⟩) 1 1) ([c.name]:List Bts):=Own.lit (css:=[[Sb c.name]]) aq rfl rfl rfl (AW rfl BE) (A2 rfl ED) rfl;Va (Sl (some ⟨z,0,none⟩) (([c.name]:List Bts)) 1)<|AA<|AT ?_
 obtain ⟨av,aw,ax⟩:=Own.freeze (S:=[21]) au dcd dcd
 obtain rfl:=AP a
 refine Ax (B:=B) r (BG rfl (.tmp rfl) ?_)
 exact ⟨av,Sl (some ⟨z,0,none⟩) (([c.name]:List Bts)) 1,rfl,Ho (T3 (Mo [21] s) h ar aw) q,ax⟩
 refine Ao (fun u af=>∃(m:Env) (o:Col) (aa:Bool),u=m.puts [(2,.pointer (some ⟨ae,0,none⟩)),(19,.bool aa)]∧Jv c aa=some ad∧AQ [] g w o af) ?_ ?_
 refine AO<|Vx (Run.fieldAddr0 DR rfl)<|have ay:=Bs l h;Vx (Run.load1 HS rfl (Bk.cell ay rfl))<|Vr (.bool (c.op==20))<|Vm<|Bo a (fun f a=>?_) fun f a=>?_
 refine Gm f<|Gr f (.bool (d==2))<|Vp f<|Va (.bool (d==2))<|AA<|⟨_,g,(d==2),Pu,a,(AQ.refl [] _ _)⟩
 refine Pg f<|Pg f<|Vp f<|Va (.bool false)<|AA<|⟨_,g,false,Pu,a,(AQ.refl [] _ _)⟩
 rintro _ af ⟨m,o,aa,rfl,a,ab⟩
 rw [Jv] at a
 refine Cn a (fun az a=>?_) fun az a=>?_
 refine Sr<|Vx (Run.fieldAddr EN rfl)<|have ag:=Y2 l h ab;Vx (Run.load1 CS rfl (Bk.cell ag rfl))<|Vx (Run.fieldAddr M3 rfl)<|Vx (Run.load1 CS rfl (Bk.cell ag rfl))<|Ef (DC (cs:=[Sb c.name,Sb c.tail]) o 22 [[Sb c.name],[Sb c.tail]] Hi Oz rfl rfl (.cons rfl rfl rfl (.cons rfl rfl rfl .nil)) rfl fun a0 a1 ac a2 a3=>?_)
 refine have a4:Own CH 9 a0 a1 22 (.slice (some ⟨ac,0,none⟩) 2 2) ([c.name,c.tail]:List Bts):=Own.lit (css:=[[Sb c.name],[Sb c.tail]]) a2 rfl rfl rfl (AW rfl (AW rfl BE)) (A2 rfl (A2 rfl ED)) rfl;Va (Sl (some ⟨ac,0,none⟩) (([c.name,c.tail]:List Bts)) 2)<|AA<|AT ?_
 obtain ⟨a5,a6,a7⟩:=Own.freeze (S:=[22]) a4 dcd dcd
 obtain rfl:=AP a
 refine Ax (B:=B) r (BG rfl (.tmp rfl) ?_)
 exact ⟨a5,Sl (some ⟨ac,0,none⟩) (([c.name,c.tail]:List Bts)) 2,rfl,Ho (T4 (Mo [22] s) h ab a3 a6) q,a7⟩
 refine WC.skip<|Sr<|Va (.slice none 0 0)<|AA<|AT ?_
 obtain rfl:=AP a
 refine Ax (B:=B) r (BG rfl (.tmp rfl) ?_)
 exact ⟨o,.slice none 0 0,rfl,Ho (T2 (Mo [] s) h ab) q,CT⟩
theorem R6:HJ.Spec HJ:=by
 intro a c n o p q d e
 refine Calls.mono (Qv (recol (see []) a) c (Az lbr a) d (Au AJ e [])) ?_
 rintro r s ⟨f,g,h,l,m⟩
 exact ⟨glue [] c a f,g,h,Ad l Ay,DV CH m⟩
def scope_walk.At(G1 G2:Prop)(c:Col)(a:World)(f:AE→Ak→Ak→AD→AM→Option (Ak×AD))(g:Nat)(ae:Nat)(af:Nat)(ag:Nat)(h:Nat)(ah:Nat):Prop:=
 ∀{o:AE} {p:List Value} {l:Nat} {q:Ak} {r:Nat} {s:Nat} {u:Ak} {w:Nat} {m:Nat} {y:AD} {z:List Value} {aa:Nat} {ab:AM} {ac:List Value} {n:Ak×AD},f o q u y ab=some n→G1→G2→AJ.rep c.F a p o→Mp c a g l q→Bk c a ae r [.map (some s)] 81→Mp c a af s u→Bk c a ag w [.func (.func 79) #[] [Pt m 0].toArray] 169→Bk c a h m z 63→Ag.rep c.F a z y→Bk c a ah aa ac 28→BN.rep c.F a ac ab→
  Calls Tryz.prog 80 #[.agg p.toArray,.map (some l),.func (.func 81) #[] [Pt r 0,Pt w 0,Pt aa 0].toArray] a fun ai d=>∃(e:Col) (ad:List Value),ai=.returned (.tuple #[])∧AQ [g,h] c a e d∧Mp e d g l n.1∧Bk e d h m ad 63∧Ag.rep e.F d ad n.2
def scope_walk.Spec(f:AE→Ak→Ak→AD→AM→Option (Ak×AD)):Prop:=
 ∀(l:Col) (m:World) {a:Nat} {c:Nat} {d:Nat} {e:Nat} {g:Nat} {h:Nat},scope_walk.At ([a,c,d,e,g,h].Nodup) (0∉[a,c,d,e,g,h]) l m f a c d e g h
structure Aw.Good(a:Aw):Prop where
 scope_walk:scope_walk.Spec a.scope_walk
theorem R7(q:Aw)(g:Nat)(cg:Aw.Good q)(ba:Col)(ch:World)(ci:∀b,ba b<10):scope_walk.At True True ba ch (KE q g) 1 2 3 4 5 6:=by
 intro a ep h cj ao eq af ap ck cl er aq r es ax d _ _ cm cn co cq cr ct cu cv cw
 rw [KE] at d
 obtain ⟨et,rfl,bg⟩:=Am cm
 obtain ⟨u,w,rfl⟩:=AG bg
 obtain rfl:=As cu
 obtain ⟨eu,rfl,bh⟩:=BK cw
 obtain ⟨ew,ex,rfl⟩:=AG bh
 refine A0 Tryz.func80 rfl Tryz.ntmps80 rfl fun B cx ey=>?_
 refine Sr ?_
 refine Ef (Bf ba 20 rfl rfl fun cy cz a6 bi ab=>?_)
 refine AA ?_
 refine Sr ?_
 refine Vx (v:=.func (.func 81) #[] [Pt ao 0,Pt ap 0,Pt aq 0].toArray) (Run.move rfl) ?_
 refine Vx (v:=.agg [I a.op,Sb a.name,Sb a.tail,I a.type_,Cx a.num,Sl u a.args w,I a.at_].toArray) (Run.loadN BF rfl rfl (Bk.part bi 0 [I a.op,Sb a.name,Sb a.tail,I a.type_,Cx a.num,Sl u a.args w,I a.at_] rfl)) ?_
 refine Vx (v:=.map (some h)) (Run.move rfl) ?_
 have bj:=(Ss AJ bg ab)
 have bk:=(Ms cn ab)
 have bl:=(Bs co ab)
 have bm:=(Ms cq ab)
 have bn:=(Bs cr ab)
 have c0:=(Bs ct ab)
 have bo:=(Bs cv ab)
 have bp:=(Ss AL bh ab)
 obtain ⟨bq,c1,d⟩:=bnd_sm d
 refine CI (.none rfl) rfl rfl (AAr (vs:=[.agg [I a.op,Sb a.name,Sb a.tail,I a.type_,Cx a.num,Sl u a.args w,I a.at_].toArray,.map (some h)]) (caps:=[Pt ao 0,Pt ap 0,Pt aq 0]) rfl rfl) ?_
 refine Calls.mono (QC cy cz c1 dcd dcd (Ae (x:=a) bj) bk bl bm bn c0 (Ah (x:=cl)) bo (BS (x:=r) bp)) ?_
 rintro _ c2 ⟨br,ez,rfl,ac,c3,c4⟩
 obtain rfl:=As c4
 refine ⟨_,rfl,?_⟩
 refine AA ?_
 refine Sr ?_
 refine Vx (v:=Pt a6 5) (Run.fieldAddr Bq rfl) ?_
 have bt:=(Bs bi ac)
 refine Vx (v:=Sl u a.args w) (Run.load1 EB rfl (Bk.cell bt rfl)) ?_
 have bu:=(Ss AJ bj ac)
 obtain ⟨e0,e1,c5⟩:=AG bu
 refine Vx (v:=I (a.args.length:Int)) (Run.lenSlc DT c5) ?_
 refine Vx (v:=I 0) (Run.move rfl) ?_
 refine AA ?_
 refine Aj ?_
 refine Bt (fun ag a2 a3=>∃(ah:Env) (ar:Col) (e:Int) (a4:Ak) (m:Int) (n:Int),a2=ah.puts [(1,.map (some h)),(2,.func (.func 81) #[] [Pt ao 0,Pt ap 0,Pt aq 0].toArray),(3,.pointer (some ⟨a6,0,none⟩)),(18,.slice u a.args.length w),(19,.int .i64 (a.args.length:Int)),(20,.int .i64 e)]∧CX q g a af r ag e a4 m n=some ax∧AQ [1,5,21] br c2 ar a3∧Mp ar a3 1 h a4∧Bk ar a3 5 ck [I m,I n] 63) g ?_ ?_
 have c6:=(Ms bk ac)
 exact ⟨_,br,0,cj,bq.why,bq.at_,Pu,d,(AQ.refl [1,5,21] _ _),c6,c3⟩
 rintro ag _ a3 ⟨ah,ar,e,a4,m,n,rfl,d,ad,bv,bw⟩
 rcases ag with _|ag
 exact BC d
 have d:H9 q g a af r (CX q g a af r ag) e a4 m n=some ax:=d
 obtain ⟨ai,bx⟩:∃s,s=CX q g a af r ag:=⟨_,rfl⟩
 rw [←bx,H9] at d
 refine Sr ?_
 refine Vr (.bool (decide (e< (a.args.length:Int)))) ?_
 refine AA ?_
 refine AZ ?_
 refine Cn d (fun c7 d=>?_) fun c7 d=>?_
 refine WC.skip ?_
 refine AZ ?_
 refine Aj ?_
 refine Sr ?_
 refine Vx (v:=I e) (Run.move rfl) ?_
 obtain ⟨c,c8,d⟩:=bnd_sm d
 have bz:=(Ss AJ bu ad)
 obtain ⟨b0,b1,e2,c9,da,db,dc,de,bb⟩:=BL (κ:=AJ) bz c8
 replace bb:A8 ar a3 b0 (b1+e.toNat*7) c9:=bb
 obtain ⟨e3,rfl,b2⟩:=Am de
 obtain ⟨au,av,rfl⟩:=AG b2
 refine Vx (v:=.pointer (some ⟨b0,b1+e.toNat*7,none⟩)) (Run.indexAddr DT da rfl db dc) ?_
 refine Vx (v:=.agg [I c.op,Sb c.name,Sb c.tail,I c.type_,Cx c.num,Sl au c.args av,I c.at_].toArray) (Run.loadN BF rfl rfl (A8.part0 bb [I c.op,Sb c.name,Sb c.tail,I c.type_,Cx c.num,Sl au c.args av,I c.at_] rfl)) ?_
 refine Ef (Aa ar 21 DN rfl fun df e4 dg dh o=>?_)
 refine Va (I e) ?_
 have di:=(Ss AJ b2 o)
 refine Eu (St (vs:=[I c.op,Sb c.name,Sb c.tail,I c.type_,Cx c.num,Sl au c.args av,I c.at_]) (cs':=[I c.op,Sb c.name,Sb c.tail,I c.type_,Cx c.num,Sl au c.args av,I c.at_]) Dj dh rfl rfl rfl rfl fun dj dk p=>?_)
 refine AA ?_
 refine Sr ?_
 have dl:=(Y3 bt ad o p)
 refine Vx (v:=.agg [I a.op,Sb a.name,Sb a.tail,I a.type_,Cx a.num,Sl u a.args w,I a.at_].toArray) (Run.loadN BF rfl rfl (Bk.part dl 0 [I a.op,Sb a.name,Sb a.tail,I a.type_,Cx a.num,Sl u a.args w,I a.at_] rfl)) ?_
 refine Vx (v:=I e) (Run.move rfl) ?_
 have dm:=(K2 AJ bz o p)
 obtain ⟨f,dn,d⟩:=bnd_sm d
 refine CI (.none rfl) rfl rfl (Y5 [.agg [I a.op,Sb a.name,Sb a.tail,I a.type_,Cx a.num,Sl u a.args w,I a.at_].toArray,I e] rfl) ?_
 refine Calls.mono (R6 df dj dn (Ae (x:=a) dm)) ?_
 rintro _ dp ⟨b3,e5,rfl,y,a7⟩
 obtain ⟨ay,az,rfl⟩:=AG a7
 refine ⟨_,rfl,?_⟩
 refine Va (Sl ay f az) ?_
 refine AA ?_
 refine AZ ?_
 refine Sr ?_
 refine Vx (v:=Sl ay f az) (Run.move rfl) ?_
 obtain ⟨e6,e7,dq⟩:=AG a7
 refine Vx (v:=I (f.length:Int)) (Run.lenSlc Hi dq) ?_
 refine Vx (v:=I 0) (Run.move rfl) ?_
 refine AA ?_
 refine Aj ?_
 refine Bt (fun aj a2 a5=>∃(ah:Env) (a0:Col) (z:Int) (ak:Ak),a2=ah.puts [(1,.map (some h)),(2,.func (.func 81) #[] [Pt ao 0,Pt ap 0,Pt aq 0].toArray),(3,.pointer (some ⟨a6,0,none⟩)),(7,.pointer (some ⟨dg,0,none⟩)),(8,.slice ay f.length az),(18,.slice u a.args.length w),(19,.int .i64 (a.args.length:Int)),(20,.int .i64 e),(28,.slice ay f.length az),(29,.int .i64 (f.length:Int)),(30,.int .i64 z)]∧Hu q g af r e m n ai c f aj z ak=some ax∧AQ [1] b3 dp a0 a5∧Mp a0 a5 1 h ak) g ?_ ?_
 have dr:=(Ms (Ms (Ms bv o) p) y)
 exact ⟨_,b3,0,a4,Pu,d,(AQ.refl [1] _ _),dr⟩
 rintro aj _ a5 ⟨ah,a0,z,ak,rfl,d,l,bc⟩
 rcases aj with _|aj
 exact BC d
 have d:H8 q g af r e m n ai c f (Hu q g af r e m n ai c f aj) z ak=some ax:=d
 obtain ⟨e8,b4⟩:∃s,s=Hu q g af r e m n ai c f aj:=⟨_,rfl⟩
 rw [←b4,H8] at d
 refine Sr ?_
 refine Vr (.bool (decide (z< (f.length:Int)))) ?_
 refine AA ?_
 refine AZ ?_
 refine Cn d (fun ds d=>?_) fun ds d=>?_
 refine WC.skip ?_
 refine AZ ?_
 refine Aj ?_
 refine Sr ?_
 obtain ⟨al,dt,d⟩:=bnd_sm d
 have du:=(Ss CH a7 l)
 obtain ⟨b5,b6,e9,b7,dv,dw,dx,dy,bd⟩:=BL (κ:=CH) du dt
 replace bd:A8 a0 a5 b5 (b6+z.toNat*1) b7:=bd
 obtain rfl:=(show b7=[Sb al] from dy)
 refine Vx (v:=.pointer (some ⟨b5,b6+z.toNat*1,none⟩)) (Run.indexAddr Hi dv rfl dw dx) ?_
 refine Vx (v:=Sb al) (Run.load1 CS rfl (A8.cell0 bd rfl)) ?_
 refine Va (Sb al) ?_
 refine AA ?_
 refine AO ?_
 refine Vx (v:=.map (some h)) (Run.move rfl) ?_
 refine Vx (v:=Sb al) (Run.move rfl) ?_
 refine Vx (v:=I (CR ak al)) (JN KM rfl rfl bc) ?_
 refine Vr (I (Wr ((CR ak al)+1))) ?_
 refine Eu (Jh KM rfl rfl rfl bc fun fa dz d0=>?_)
 refine AA ?_
 refine AO ?_
 refine Vr (I (Wr (z+1))) ?_
 refine Vx (v:=I (Wr (z+1))) (Run.move rfl) ?_
 refine AA ?_
 exact ⟨aj,Nat.lt_succ_self aj,_,a0,(Wr (z+1)),(LF al (Wr ((CR ak al)+1)) ak),Pu,(b4▸d),(Tn (Mo [1] l) d0),dz⟩
 refine Bc ?_
 refine Sr ?_
 have d1:=(Y2 dk y l)
 refine Vx (v:=.agg [I c.op,Sb c.name,Sb c.tail,I c.type_,Cx c.num,Sl au c.args av,I c.at_].toArray) (Run.loadN BF rfl rfl (Bk.part d1 0 [I c.op,Sb c.name,Sb c.tail,I c.type_,Cx c.num,Sl au c.args av,I c.at_] rfl)) ?_
 refine Vx (v:=.map (some h)) (Run.move rfl) ?_
 refine Vx (v:=.func (.func 81) #[] [Pt ao 0,Pt ap 0,Pt aq 0].toArray) (Run.move rfl) ?_
 have d2:=(K3 AJ di p y l)
 have d3:=(Y2 (Y4 bl ac ad o p) y l)
 have d4:=(Ms (Ms (Ms (Ms (Ms (Ms bm ac) ad) o) p) y) l)
 have d5:=(Y2 (Y4 bn ac ad o p) y l)
 have d6:=(Y4 bw o p y l)
 have d7:=(Y2 (Y4 bo ac ad o p) y l)
 have d8:=(K2 AL (K4 AL bp ac ad o p) y l)
 obtain ⟨aw,d9,d⟩:=bnd_sm d
 refine CI (.none rfl) rfl rfl (Xh [.agg [I c.op,Sb c.name,Sb c.tail,I c.type_,Cx c.num,Sl au c.args av,I c.at_].toArray,.map (some h),.func (.func 81) #[] [Pt ao 0,Pt ap 0,Pt aq 0].toArray] rfl) ?_
 refine Calls.mono (cg.scope_walk a0 a5 d9 dcd dcd (Ae (x:=c) d2) bc d3 d4 d5 d6 (Ah (x:=(AD.mk m n))) d7 (BS (x:=r) d8)) ?_
 rintro _ ea ⟨b8,fb,rfl,b9,eb,ec,ed⟩
 obtain rfl:=As ed
 refine ⟨_,rfl,?_⟩
 refine AA ?_
 refine Sr ?_
 refine Vx (v:=Sl ay f az) (Run.move rfl) ?_
 have ca:=(K2 CH a7 l b9)
 obtain ⟨fc,fd,ee⟩:=AG ca
 refine Vx (v:=I (f.length:Int)) (Run.lenSlc Hi ee) ?_
 refine Vx (v:=I 0) (Run.move rfl) ?_
 refine AA ?_
 refine Aj ?_
 refine Bt (fun am a2 a8=>∃(ah:Env) (a1:Col) (aa:Int) (ae:Ak),a2=ah.puts [(1,.map (some h)),(2,.func (.func 81) #[] [Pt ao 0,Pt ap 0,Pt aq 0].toArray),(3,.pointer (some ⟨a6,0,none⟩)),(18,.slice u a.args.length w),(19,.int .i64 (a.args.length:Int)),(20,.int .i64 e),(43,.slice ay f.length az),(44,.int .i64 (f.length:Int)),(45,.int .i64 aa)]∧Ht e ai f aw am aa ae=some ax∧AQ [1] b8 ea a1 a8∧Mp a1 a8 1 h ae) g ?_ ?_
 exact ⟨_,b8,0,aw.1,Pu,d,(AQ.refl [1] _ _),eb⟩
 rintro am _ a8 ⟨ah,a1,aa,ae,rfl,d,a9,be⟩
 rcases am with _|am
 exact BC d
 have d:H7 e ai f aw (Ht e ai f aw am) aa ae=some ax:=d
 obtain ⟨fe,cb⟩:∃s,s=Ht e ai f aw am:=⟨_,rfl⟩
 rw [←cb,H7] at d
 refine Sr ?_
 refine Vr (.bool (decide (aa< (f.length:Int)))) ?_
 refine AA ?_
 refine AZ ?_
 refine Cn d (fun ef d=>?_) fun ef d=>?_
 refine WC.skip ?_
 refine AZ ?_
 refine Aj ?_
 refine Sr ?_
 obtain ⟨an,eg,d⟩:=bnd_sm d
 have eh:=(Ss CH ca a9)
 obtain ⟨cc,cd,ff,cf,ei,ej,ek,el,bf⟩:=BL (κ:=CH) eh eg
 replace bf:A8 a1 a8 cc (cd+aa.toNat*1) cf:=bf
 obtain rfl:=(show cf=[Sb an] from el)
 refine Vx (v:=.pointer (some ⟨cc,cd+aa.toNat*1,none⟩)) (Run.indexAddr Hi ei rfl ej ek) ?_
 refine Vx (v:=Sb an) (Run.load1 CS rfl (A8.cell0 bf rfl)) ?_
 refine Va (Sb an) ?_
 refine AA ?_
 refine AO ?_
 refine Vx (v:=.map (some h)) (Run.move rfl) ?_
 refine Vx (v:=Sb an) (Run.move rfl) ?_
 refine Vx (v:=I (CR ae an)) (JN KM rfl rfl be) ?_
 refine Vr (I (Wr ((CR ae an) - 1))) ?_
 refine Eu (Jh KM rfl rfl rfl be fun fg em en=>?_)
 refine AA ?_
 refine AO ?_
 refine Vr (I (Wr (aa+1))) ?_
 refine Vx (v:=I (Wr (aa+1))) (Run.move rfl) ?_
 refine AA ?_
 exact ⟨am,Nat.lt_succ_self am,_,a1,(Wr (aa+1)),(LF an (Wr ((CR ae an) - 1)) ae),Pu,(cb▸d),(Tn (Mo [1] a9) en),em⟩
 refine Bc ?_
 refine AO ?_
 refine Vr (I (Wr (e+1))) ?_
 refine Vx (v:=I (Wr (e+1))) (Run.move rfl) ?_
 refine AA ?_
 have eo:=(Bs ec a9)
 exact ⟨ag,Nat.lt_succ_self ag,_,a1,(Wr (e+1)),ae,aw.2.why,aw.2.at_,Pu,(bx▸d),(T2 (T4 (Mo [1,5,21] ad) o p y l) b9 a9),be,eo⟩
 refine Bc ?_
 obtain rfl:=AP d
 refine L3 (B:=B) cx (L2 rfl ?_)
 exact ⟨ar,[I m,I n],rfl,Ho (T2 (Mo [1,5,21] ab) ac ad) ci,bv,bw,(Ah (x:=(AD.mk m n)))⟩
theorem R8(h:Aw)(m:Nat)(q:Aw.Good h):scope_walk.Spec (KE h m):=by
 intro l n a c d e f g aj ak al am an ao ap aq ar au av aw ax ay az r hnd hnz s o u w y p z aa ab
 refine Calls.mono (R7 h m q (recol (see [a,c,d,e,f,g]) l) n (Az lbr l) r trivial trivial (Au AJ s [a,c,d,e,f,g]) (Ge o [a,c,d,e,f,g] (BD hnd hnz (i:=0) rfl)) (A6 u [a,c,d,e,f,g] (BD hnd hnz (i:=1) rfl)) (Ge w [a,c,d,e,f,g] (BD hnd hnz (i:=2) rfl)) (A6 y [a,c,d,e,f,g] (BD hnd hnz (i:=3) rfl)) (A6 p [a,c,d,e,f,g] (BD hnd hnz (i:=4) rfl)) (Au Ag z [a,c,d,e,f,g]) (A6 aa [a,c,d,e,f,g] (BD hnd hnz (i:=5) rfl)) (Au BN ab [a,c,d,e,f,g])) ?_
 rintro a0 a1 ⟨ac,ad,ae,af,ag,ah,ai⟩
 exact ⟨glue [a,c,d,e,f,g] n l ac,ad,ae,Ad af (DS rfl rfl),Yx o ag dcd,CK p ah dcd,BB Ag ai⟩
theorem Aw.good:∀a,Aw.Good (Aw.at a)
 |0=>⟨by intro c d;intros;(try intro _);intros;exact BC (by assumption)⟩
 |n+1=>⟨R8 _ n (Aw.good n)⟩
theorem TA(a:Nat):scope_walk.Spec (scope_walk a):=(Aw.good a).scope_walk
def Hv.At(c:Col)(a:World)(f:AM→Option AD):Prop:=
 ∀{d:AM} {e:List Value} {g:AD},f d=some g→BN.rep c.F a e d→
  Calls Tryz.prog 50 #[.agg e.toArray] a fun n h=>∃(l:Col) (m:List Value),n=.returned (.agg m.toArray)∧AQ [] c a l h∧Ag.rep l.F h m g
def Hv.Spec(f:AM→Option AD):Prop:=
 ∀(a:Col) (c:World),Hv.At a c f
theorem Qw(h:Nat)(bw:Col)(di:World)(dj:∀b,bw b<10):Hv.At bw di (Hv h):=by
 intro e gb aj c dk
 rw [Hv] at c
 obtain ⟨gc,rfl,cf⟩:=BK dk
 obtain ⟨ar,au,rfl⟩:=AG cf
 refine A0 Tryz.func50 rfl Tryz.ntmps50 rfl fun B dl gd=>?_
 refine Sr ?_
 refine Ef (Bf bw 20 rfl rfl fun dm ge aa dn cg=>?_)
 refine Ef (Aa dm 21 Ep rfl fun dp gf bb dq bx=>?_)
 refine AA ?_
 refine Sr ?_
 refine Ef (Aa dp 22 Ep rfl fun dr gg g ds bf=>?_)
 refine AA ?_
 refine Sr ?_
 refine Vx (v:=.func (.func 79) #[] [Pt g 0].toArray) (Hm (vs:=[Pt g 0]) rfl) ?_
 refine Ef (Aa dr 23 Zd rfl fun dt gh ak du bc=>?_)
 refine Eu (St (vs:=[.func (.func 79) #[] [Pt g 0].toArray]) (cs':=[.func (.func 79) #[] [Pt g 0].toArray]) ZV du rfl rfl rfl rfl fun gi bz bd=>?_)
 refine AA ?_
 refine Sr ?_
 refine Ef (MP dt 24 fun dv gj a6 dw al=>?_)
 refine Ef (Aa dv 25 AA9 rfl fun ch gk am dx ad=>?_)
 refine Eu (St (vs:=[.map (some a6)]) (cs':=[.map (some a6)]) AA2 dx rfl rfl rfl rfl fun dy ci ae=>?_)
 refine AA ?_
 refine AZ ?_
 refine Sr ?_
 refine Vx (v:=Pt aa 0) (Run.fieldAddr0 D5 rfl) ?_
 have cj:=(Y3 (Y4 dn bx bf bc bd) al ad ae)
 refine Vx (v:=Sl ar e.funcs au) (Run.load1 GQ rfl (Bk.cell cj rfl)) ?_
 have b0:=(K4 AL (K4 AL cf cg bx bf bc) bd al ad ae)
 obtain ⟨gl,gm,dz⟩:=AG b0
 refine Vx (v:=I (e.funcs.length:Int)) (Run.lenSlc Fp dz) ?_
 refine Vx (v:=I 0) (Run.move rfl) ?_
 refine AA ?_
 refine Aj ?_
 refine Bt (fun an af av=>∃(o:Env) (ag:Col) (l:Int) (aw:Int) (ax:Int) (m:Ak),af=o.puts [(1,.pointer (some ⟨aa,0,none⟩)),(2,.pointer (some ⟨bb,0,none⟩)),(3,.pointer (some ⟨g,0,none⟩)),(4,.pointer (some ⟨ak,0,none⟩)),(5,.pointer (some ⟨am,0,none⟩)),(16,.slice ar e.funcs.length au),(17,.int .i64 (e.funcs.length:Int)),(18,.int .i64 l)]∧HK h e an l aw ax m=some aj∧AQ [22,24,26] ch dy ag av∧Bk ag av 22 g [I aw,I ax] 63∧Mp ag av 24 a6 m) h ?_ ?_
 have d0:=(Bs (Y4 ds bc bd al ad) ae)
 have d1:=(Ms (Ms dw ad) ae)
 exact ⟨_,ch,0,0,0,([]:Ak),Pu,c,(AQ.refl [22,24,26] _ _),d0,d1⟩
 rintro an _ av ⟨o,ag,l,aw,ax,m,rfl,c,u,b1,ck⟩
 rcases an with _|an
 exact BC c
 have c:Ha h e (HK h e an) l aw ax m=some aj:=c
 obtain ⟨d2,cl⟩:∃s,s=HK h e an:=⟨_,rfl⟩
 rw [←cl,Ha] at c
 refine Sr ?_
 refine Vr (.bool (decide (l< (e.funcs.length:Int)))) ?_
 refine AA ?_
 refine AZ ?_
 refine Cn c (fun d3 c=>?_) fun d3 c=>?_
 refine WC.skip ?_
 refine Ao (fun af bg=>∃(o:Env) (be:Col) (bh:Int) (bi:Int) (bj:Ak),af=o.puts [(1,.pointer (some ⟨aa,0,none⟩)),(2,.pointer (some ⟨bb,0,none⟩)),(3,.pointer (some ⟨g,0,none⟩)),(4,.pointer (some ⟨ak,0,none⟩)),(5,.pointer (some ⟨am,0,none⟩)),(16,.slice ar e.funcs.length au),(17,.int .i64 (e.funcs.length:Int)),(18,.int .i64 l)]∧I4 l d2 bh bi bj=some aj∧AQ [22,24,26] ag av be bg∧Bk be bg 22 g [I bh,I bi] 63∧Mp be bg 24 a6 bj) ?_ ?_
 refine Aj ?_
 refine Sr ?_
 refine Vx (v:=I l) (Run.move rfl) ?_
 obtain ⟨d,d4,c⟩:=bnd_sm c
 have d5:=(Ss AL b0 u)
 obtain ⟨cm,cn,gn,d6,d7,d8,d9,ea,b2⟩:=BL (κ:=AL) d5 d4
 replace b2:A8 ag av cm (cn+l.toNat*11) d6:=b2
 obtain ⟨go,gp,rfl,co,cq⟩:=Cw ea
 obtain ⟨bk,bl,rfl⟩:=AG co
 obtain ⟨bm,bn,rfl⟩:=AG cq
 refine Vx (v:=.pointer (some ⟨cm,cn+l.toNat*11,none⟩)) (Run.indexAddr Fp d7 rfl d8 d9) ?_
 refine Vx (v:=.agg [Sb d.name,Sl bk d.params bl,I d.type_,I d.body.op,Sb d.body.name,Sb d.body.tail,I d.body.type_,Cx d.body.num,Sl bm d.body.args bn,I d.body.at_,I d.at_].toArray) (Run.loadN K9 rfl rfl (A8.part0 b2 [Sb d.name,Sl bk d.params bl,I d.type_,I d.body.op,Sb d.body.name,Sb d.body.tail,I d.body.type_,Cx d.body.num,Sl bm d.body.args bn,I d.body.at_,I d.at_] rfl)) ?_
 refine Ef (Aa ag 26 J8 rfl fun cr gq b3 eb ah=>?_)
 refine Va (I l) ?_
 have gr:=(Ss AY co ah)
 have gs:=(Ss AJ cq ah)
 refine Eu (St (vs:=[Sb d.name,Sl bk d.params bl,I d.type_,I d.body.op,Sb d.body.name,Sb d.body.tail,I d.body.type_,Cx d.body.num,Sl bm d.body.args bn,I d.body.at_,I d.at_]) (cs':=[Sb d.name,Sl bk d.params bl,I d.type_,I d.body.op,Sb d.body.name,Sb d.body.tail,I d.body.type_,Cx d.body.num,Sl bm d.body.args bn,I d.body.at_,I d.at_]) Kj eb rfl rfl rfl rfl fun ec b4 ay=>?_)
 refine AA ?_
 refine Sr ?_
 have ct:=(Y3 ci u ah ay)
 refine Vx (v:=.map (some a6)) (Run.load1 OD rfl (Bk.cell ct rfl)) ?_
 refine Vx (v:=Pt b3 0) (Run.fieldAddr0 L8 rfl) ?_
 refine Vx (v:=Sb d.name) (Run.load1 CS rfl (Bk.cell b4 rfl)) ?_
 have b5:=(Ms (Ms ck ah) ay)
 refine Vx (v:=I (CR m d.name)) (JN KM rfl rfl b5) ?_
 refine Vr (.bool (decide ((CR m d.name)>0))) ?_
 refine AA ?_
 refine Cn c (fun ed c=>?_) fun ed c=>?_
 refine AO ?_
 have ee:=(Y2 (Y4 bz al ad ae u) ah ay)
 refine Vx (v:=.func (.func 79) #[] [Pt g 0].toArray) (Run.load1 PU rfl (Bk.cell ee rfl)) ?_
 refine Vx (v:=Pt b3 10) (Run.fieldAddr U2 rfl) ?_
 refine Vx (v:=I d.at_) (Run.load1 B5 rfl (Bk.cell b4 rfl)) ?_
 have ef:=(Y2 b1 ah ay)
 obtain ⟨cu,eg,c⟩:=bnd_sm c
 refine CI (.none rfl) rfl rfl (Rk (vs:=[I 30,I d.at_]) (caps:=[Pt g 0]) rfl rfl) ?_
 refine Calls.mono (JJ cr ec eg dcd dcd ef (Ah (x:=(AD.mk aw ax)))) ?_
 rintro _ gt ⟨eh,gu,rfl,cv,ei,ej⟩
 obtain rfl:=As ej
 refine ⟨_,rfl,?_⟩
 refine AA ?_
 have ek:=(Ms b5 cv)
 exact ⟨_,eh,cu.why,cu.at_,m,Pu,c,(T2 (Mo [22,24,26] ah) ay cv),ei,ek⟩
 refine AO ?_
 refine Vx (v:=.map (some a6)) (Run.load1 OD rfl (Bk.cell ct rfl)) ?_
 refine Vx (v:=Pt b3 0) (Run.fieldAddr0 L8 rfl) ?_
 refine Vx (v:=Sb d.name) (Run.load1 CS rfl (Bk.cell b4 rfl)) ?_
 refine Vx (v:=I l) (Run.move rfl) ?_
 refine Vr (I (Wr (l+1))) ?_
 refine Eu (Jh KM rfl rfl rfl b5 fun gv el cw=>?_)
 refine AA ?_
 have em:=(Y3 b1 ah ay cw)
 exact ⟨_,cr,aw,ax,(LF d.name (Wr (l+1)) m),Pu,c,(T2 (Mo [22,24,26] ah) ay cw),em,el⟩
 rintro _ bg ⟨o,be,bh,bi,bj,rfl,c,en,eo,ep⟩
 rw [I4] at c
 refine AO ?_
 refine Vr (I (Wr (l+1))) ?_
 refine Vx (v:=I (Wr (l+1))) (Run.move rfl) ?_
 refine AA ?_
 exact ⟨an,Nat.lt_succ_self an,_,be,(Wr (l+1)),bh,bi,bj,Pu,(cl▸c),(Tn (Mo [22,24,26] u) en),eo,ep⟩
 refine Bc ?_
 refine AZ ?_
 refine Sr ?_
 refine Vx (v:=Pt aa 0) (Run.fieldAddr0 D5 rfl) ?_
 have cx:=(Bs cj u)
 refine Vx (v:=Sl ar e.funcs au) (Run.load1 GQ rfl (Bk.cell cx rfl)) ?_
 have cy:=(Ss AL b0 u)
 obtain ⟨gw,gx,eq⟩:=AG cy
 refine Vx (v:=I (e.funcs.length:Int)) (Run.lenSlc Fp eq) ?_
 refine Vx (v:=I 0) (Run.move rfl) ?_
 refine AA ?_
 refine Aj ?_
 refine Bt (fun ao af bo=>∃(o:Env) (a7:Col) (n:Int) (p:Int) (q:Int),af=o.puts [(1,.pointer (some ⟨aa,0,none⟩)),(2,.pointer (some ⟨bb,0,none⟩)),(3,.pointer (some ⟨g,0,none⟩)),(4,.pointer (some ⟨ak,0,none⟩)),(5,.pointer (some ⟨am,0,none⟩)),(39,.slice ar e.funcs.length au),(40,.int .i64 (e.funcs.length:Int)),(41,.int .i64 n)]∧Cs h e m ao n p q=some aj∧AQ [22,27,28,29] ag av a7 bo∧Bk a7 bo 22 g [I p,I q] 63) h ?_ ?_
 exact ⟨_,ag,0,aw,ax,Pu,c,(AQ.refl [22,27,28,29] _ _),b1⟩
 rintro ao _ bo ⟨o,a7,n,p,q,rfl,c,ai,cz⟩
 rcases ao with _|ao
 exact BC c
 have c:HZ h e m (Cs h e m ao) n p q=some aj:=c
 obtain ⟨bp,c0⟩:∃s,s=Cs h e m ao:=⟨_,rfl⟩
 rw [←c0,HZ] at c
 refine Sr ?_
 refine Vr (.bool (decide (n< (e.funcs.length:Int)))) ?_
 refine AA ?_
 refine AZ ?_
 refine Cn c (fun er c=>?_) fun er c=>?_
 refine WC.skip ?_
 refine AZ ?_
 refine Aj ?_
 refine Sr ?_
 obtain ⟨a,es,c⟩:=bnd_sm c
 have c1:=(Ss AL cy ai)
 obtain ⟨c2,c3,gy,et,eu,ew,ex,ey,b6⟩:=BL (κ:=AL) c1 es
 replace b6:A8 a7 bo c2 (c3+n.toNat*11) et:=b6
 obtain ⟨gz,g0,rfl,c4,c5⟩:=Cw ey
 obtain ⟨az,a0,rfl⟩:=AG c4
 obtain ⟨a1,a2,rfl⟩:=AG c5
 refine Vx (v:=.pointer (some ⟨c2,c3+n.toNat*11,none⟩)) (Run.indexAddr Fp eu rfl ew ex) ?_
 refine Vx (v:=.agg [Sb a.name,Sl az a.params a0,I a.type_,I a.body.op,Sb a.body.name,Sb a.body.tail,I a.body.type_,Cx a.body.num,Sl a1 a.body.args a2,I a.body.at_,I a.at_].toArray) (Run.loadN K9 rfl rfl (A8.part0 b6 [Sb a.name,Sl az a.params a0,I a.type_,I a.body.op,Sb a.body.name,Sb a.body.tail,I a.body.type_,Cx a.body.num,Sl a1 a.body.args a2,I a.body.at_,I a.at_] rfl)) ?_
 refine Ef (Aa a7 27 J8 rfl fun ez g1 bq e0 ab=>?_)
 have e1:=(Ss AY c4 ab)
 have e2:=(Ss AJ c5 ab)
 refine Eu (St (vs:=[Sb a.name,Sl az a.params a0,I a.type_,I a.body.op,Sb a.body.name,Sb a.body.tail,I a.body.type_,Cx a.body.num,Sl a1 a.body.args a2,I a.body.at_,I a.at_]) (cs':=[Sb a.name,Sl az a.params a0,I a.type_,I a.body.op,Sb a.body.name,Sb a.body.tail,I a.body.type_,Cx a.body.num,Sl a1 a.body.args a2,I a.body.at_,I a.at_]) Kj e0 rfl rfl rfl rfl fun g2 e3 ac=>?_)
 refine AA ?_
 refine Sr ?_
 refine Ef (MP ez 28 fun c6 e4 ap e5 w=>?_)
 refine Va (.map (some ap)) ?_
 refine AA ?_
 refine AZ ?_
 refine Sr ?_
 refine Vx (v:=Pt bq 1) (Run.fieldAddr EX rfl) ?_
 have c7:=(Bs e3 w)
 refine Vx (v:=Sl az a.params a0) (Run.load1 Eo rfl (Bk.cell c7 rfl)) ?_
 have c8:=(K2 AY e1 ac w)
 obtain ⟨g3,g4,e6⟩:=AG c8
 refine Vx (v:=I (a.params.length:Int)) (Run.lenSlc D3 e6) ?_
 refine Vx (v:=I 0) (Run.move rfl) ?_
 refine AA ?_
 refine Aj ?_
 refine Bt (fun aq af a8=>∃(o:Env) (a3:Col) (r:Int) (a4:Int) (a5:Int) (y:Ak),af=o.puts [(1,.pointer (some ⟨aa,0,none⟩)),(2,.pointer (some ⟨bb,0,none⟩)),(3,.pointer (some ⟨g,0,none⟩)),(4,.pointer (some ⟨ak,0,none⟩)),(5,.pointer (some ⟨am,0,none⟩)),(9,.pointer (some ⟨bq,0,none⟩)),(10,.map (some ap)),(39,.slice ar e.funcs.length au),(40,.int .i64 (e.funcs.length:Int)),(41,.int .i64 n),(47,.slice az a.params.length a0),(48,.int .i64 (a.params.length:Int)),(49,.int .i64 r)]∧Fc h e m n bp a aq r a4 a5 y=some aj∧AQ [22,28,29] c6 e4 a3 a8∧Bk a3 a8 22 g [I a4,I a5] 63∧Mp a3 a8 28 ap y) h ?_ ?_
 have e7:=(Y3 cz ab ac w)
 exact ⟨_,c6,0,p,q,([]:Ak),Pu,c,(AQ.refl [22,28,29] _ _),e7,e5⟩
 rintro aq _ a8 ⟨o,a3,r,a4,a5,y,rfl,c,z,b7,b8⟩
 rcases aq with _|aq
 exact BC c
 have c:Fh h e m n bp a (Fc h e m n bp a aq) r a4 a5 y=some aj:=c
 obtain ⟨e8,c9⟩:∃s,s=Fc h e m n bp a aq:=⟨_,rfl⟩
 rw [←c9,Fh] at c
 refine Sr ?_
 refine Vr (.bool (decide (r< (a.params.length:Int)))) ?_
 refine AA ?_
 refine AZ ?_
 refine Cn c (fun e9 c=>?_) fun e9 c=>?_
 refine WC.skip ?_
 refine AZ ?_
 refine Aj ?_
 refine Sr ?_
 obtain ⟨f,fa,c⟩:=bnd_sm c
 have fb:=(Ss AY c8 z)
 obtain ⟨da,db,g5,fc,fd,fe,ff,fg,b9⟩:=BL (κ:=AY) fb fa
 replace b9:A8 a3 a8 da (db+r.toNat*3) fc:=b9
 obtain rfl:=Fg fg
 refine Vx (v:=.pointer (some ⟨da,db+r.toNat*3,none⟩)) (Run.indexAddr D3 fd rfl fe ff) ?_
 refine Vx (v:=.agg [Sb f.name,I f.type_,I f.at_].toArray) (Run.loadN Vi rfl rfl (A8.part0 b9 [Sb f.name,I f.type_,I f.at_] rfl)) ?_
 refine Ef (Aa a3 29 LC rfl fun ca g6 br fh a9=>?_)
 refine Eu (St (vs:=[Sb f.name,I f.type_,I f.at_]) (cs':=[Sb f.name,I f.type_,I f.at_]) Vy fh rfl rfl rfl rfl fun dc cb ba=>?_)
 refine AA ?_
 refine Ao (fun af cc=>∃(o:Env) (bt:Col) (bu:Int) (bv:Int),af=o.puts [(1,.pointer (some ⟨aa,0,none⟩)),(2,.pointer (some ⟨bb,0,none⟩)),(3,.pointer (some ⟨g,0,none⟩)),(4,.pointer (some ⟨ak,0,none⟩)),(5,.pointer (some ⟨am,0,none⟩)),(9,.pointer (some ⟨bq,0,none⟩)),(10,.map (some ap)),(12,.pointer (some ⟨br,0,none⟩)),(39,.slice ar e.funcs.length au),(40,.int .i64 (e.funcs.length:Int)),(41,.int .i64 n),(47,.slice az a.params.length a0),(48,.int .i64 (a.params.length:Int)),(49,.int .i64 r)]∧I5 r y e8 f bu bv=some aj∧AQ [22] ca dc bt cc∧Bk bt cc 22 g [I bu,I bv] 63) ?_ ?_
 refine Sr ?_
 refine Vx (v:=.map (some ap)) (Run.move rfl) ?_
 refine Vx (v:=Pt br 0) (Run.fieldAddr0 Lj rfl) ?_
 refine Vx (v:=Sb f.name) (Run.load1 CS rfl (Bk.cell cb rfl)) ?_
 have fi:=(Ms (Ms b8 a9) ba)
 refine Vx (v:=I (CR y f.name)) (JN KM rfl rfl fi) ?_
 refine Vr (.bool (decide ((CR y f.name)>0))) ?_
 refine AA ?_
 refine Cn c (fun fj c=>?_) fun fj c=>?_
 refine AO ?_
 have fk:=(Y3 (Y4 (Y4 bz al ad ae u) ai ab ac w) z a9 ba)
 refine Vx (v:=.func (.func 79) #[] [Pt g 0].toArray) (Run.load1 PU rfl (Bk.cell fk rfl)) ?_
 refine Vx (v:=Pt br 2) (Run.fieldAddr U3 rfl) ?_
 refine Vx (v:=I f.at_) (Run.load1 B5 rfl (Bk.cell cb rfl)) ?_
 have fl:=(Y2 b7 a9 ba)
 obtain ⟨de,fm,c⟩:=bnd_sm c
 refine CI (.none rfl) rfl rfl (Rk (vs:=[I 30,I f.at_]) (caps:=[Pt g 0]) rfl rfl) ?_
 refine Calls.mono (JJ ca dc fm dcd dcd fl (Ah (x:=(AD.mk a4 a5)))) ?_
 rintro _ g7 ⟨fn,g8,rfl,fo,fp,fq⟩
 obtain rfl:=As fq
 refine ⟨_,rfl,?_⟩
 refine AA ?_
 exact ⟨_,fn,de.why,de.at_,Pu,c,(Mo [22] fo),fp⟩
 refine WC.skip ?_
 have fr:=(Y2 b7 a9 ba)
 exact ⟨_,ca,a4,a5,Pu,c,(AQ.refl [22] _ _),fr⟩
 rintro _ cc ⟨o,bt,bu,bv,rfl,c,cd,fs⟩
 rw [I5] at c
 refine AO ?_
 refine Vx (v:=.map (some ap)) (Run.move rfl) ?_
 refine Vx (v:=Pt br 0) (Run.fieldAddr0 Lj rfl) ?_
 have ft:=(Bs cb cd)
 refine Vx (v:=Sb f.name) (Run.load1 CS rfl (Bk.cell ft rfl)) ?_
 have df:=(Ms (Ms (Ms b8 a9) ba) cd)
 refine Vx (v:=I (CR y f.name)) (JN KM rfl rfl df) ?_
 refine Vr (I (Wr ((CR y f.name)+1))) ?_
 refine Eu (Jh KM rfl rfl rfl df fun g9 fu dg=>?_)
 refine AA ?_
 refine AO ?_
 refine Vr (I (Wr (r+1))) ?_
 refine Vx (v:=I (Wr (r+1))) (Run.move rfl) ?_
 refine AA ?_
 have fv:=(Bs fs dg)
 exact ⟨aq,Nat.lt_succ_self aq,_,bt,(Wr (r+1)),bu,bv,(LF f.name (Wr ((CR y f.name)+1)) y),Pu,(c9▸c),(T4 (Mo [22,28,29] z) a9 ba cd dg),fv,fu⟩
 refine Bc ?_
 refine AO ?_
 refine Vx (v:=Pt bq 3) (Run.fieldAddr L9 rfl) ?_
 have fw:=(Bs c7 z)
 refine Vx (v:=.agg [I a.body.op,Sb a.body.name,Sb a.body.tail,I a.body.type_,Cx a.body.num,Sl a1 a.body.args a2,I a.body.at_].toArray) (Run.loadN BF rfl rfl (Bk.part fw 3 [I a.body.op,Sb a.body.name,Sb a.body.tail,I a.body.type_,Cx a.body.num,Sl a1 a.body.args a2,I a.body.at_] rfl)) ?_
 refine Vx (v:=.map (some ap)) (Run.move rfl) ?_
 refine Vx (v:=.func (.func 81) #[] [Pt am 0,Pt ak 0,Pt aa 0].toArray) (Hm (vs:=[Pt am 0,Pt ak 0,Pt aa 0]) rfl) ?_
 have fx:=(K3 AJ e2 ac w z)
 have fy:=(Y2 (Y4 ci u ai ab ac) w z)
 have fz:=(Ms (Ms (Ms (Ms (Ms ck ai) ab) ac) w) z)
 have f0:=(Bs (Y4 (Y4 bz al ad ae u) ai ab ac w) z)
 have f1:=(Bs (Y4 cx ai ab ac w) z)
 have f2:=(K4 AL c1 ab ac w z)
 obtain ⟨dh,f3,c⟩:=bnd_sm c
 refine CI (.none rfl) rfl rfl (Xh [.agg [I a.body.op,Sb a.body.name,Sb a.body.tail,I a.body.type_,Cx a.body.num,Sl a1 a.body.args a2,I a.body.at_].toArray,.map (some ap),.func (.func 81) #[] [Pt am 0,Pt ak 0,Pt aa 0].toArray] rfl) ?_
 refine Calls.mono (TA h a3 a8 f3 dcd dcd (Ae (x:=(AE.mk a.body.op a.body.name a.body.tail a.body.type_ a.body.num a.body.args a.body.at_)) fx) b8 fy fz f0 b7 (Ah (x:=(AD.mk a4 a5))) f1 (BS (x:=e) f2)) ?_
 rintro _ ha ⟨f4,hb,rfl,f5,hc,f6,f7⟩
 obtain rfl:=As f7
 refine ⟨_,rfl,?_⟩
 refine AA ?_
 refine AO ?_
 refine Vr (I (Wr (n+1))) ?_
 refine Vx (v:=I (Wr (n+1))) (Run.move rfl) ?_
 refine AA ?_
 exact ⟨ao,Nat.lt_succ_self ao,_,f4,(Wr (n+1)),dh.2.why,dh.2.at_,Pu,(c0▸c),(Tn (T4 (Mo [22,27,28,29] ai) ab ac w z) f5),f6⟩
 refine Bc ?_
 refine Sr ?_
 refine Vx (v:=.agg [I p,I q].toArray) (Run.loadN J7 rfl rfl (Bk.part cz 0 [I p,I q] rfl)) ?_
 have f8:=(Y4 (Y4 dq bf bc bd al) ad ae u ai)
 refine Eu (St (vs:=[I p,I q]) (cs':=[I p,I q]) Gb f8 rfl rfl rfl rfl fun hd f9 ga=>?_)
 refine AA ?_
 refine AT ?_
 obtain rfl:=AP c
 refine Ax (B:=B) dl (BG rfl (.agg J7 rfl rfl (Bk.part f9 0 [I p,I q] rfl)) ?_)
 exact ⟨a7,[I p,I q],rfl,Ho (T2 (T4 (T4 (Mo [21,22,23,24,25,26,27,28,29] cg) bx bf bc bd) al ad ae u) ai ga) dj,(Ah (x:=(AD.mk p q)))⟩
theorem R9(c:Nat):Hv.Spec (Hv c):=by
 intro a d o p q e f
 refine Calls.mono (Qw c (recol (see []) a) d (Az lbr a) e (Au BN f [])) ?_
 rintro r s ⟨g,h,l,m,n⟩
 exact ⟨glue [] d a g,h,l,Ad m Ay,BB Ag n⟩
def Jw.Spec(f:AM→AD→Option (Ak×(List AK)×(List AH)×Ak)):Prop:=
 ∀(g:Col) (d:World) {n:AM} {o:List Value} {h:Nat} {l:Nat} {p:AD} {q:List Value} {kn1:Nat} {kn2:Nat} {ko1_2:Nat} {e:Ak×(List AK)×(List AH)×Ak},f n p=some e→[l,kn1,kn2,ko1_2].Nodup→0∉[l,kn1,kn2,ko1_2]→BN.rep g.F d o n→Bk g d l h q 63→Ag.rep g.F d q p→
  Calls Tryz.prog 51 #[.agg o.toArray,.func (.func 52) #[] [Pt h 0].toArray] d fun w a=>∃(c:Col) (r:Nat) (m:Nat) (s:Value) (u:Value),w=.returned (Pt r 0)∧AQ [kn1,kn2,ko1_2] g d c a∧Mp c a kn2 m e.1∧Bk c a kn1 r [.map (some m),s,u,.func (.func 52) #[] [Pt h 0].toArray] 134∧Slc AL c.F a s e.2.1∧Own AY 87 c a ko1_2 u e.2.2.1∧Mp c a kn2 m e.2.2.2
theorem SA(ah:Nat)(n:Col)(q:World)(a0:∀b,n b<10){e:AM}{ai:List Value}{y:Nat}{aj:AD}{ak:List Value}{h:Ak×(List AK)×(List AH)×Ak}(a1:BN.rep n.F q ai e)(_ho0:Bk n q 1 y ak 63)(a2:Ag.rep n.F q ak aj)(a:Jw ah e aj=some h):
  Calls Tryz.prog 51 #[.agg ai.toArray,.func (.func 52) #[] [Pt y 0].toArray] q fun a3 o=>∃(p:Col) (al:Nat) (aa:Nat) (am:Value) (an:Value),a3=.returned (Pt al 0)∧AQ [2,3,4] n q p o∧Mp p o 3 aa h.1∧Bk p o 2 al [.map (some aa),am,an,.func (.func 52) #[] [Pt y 0].toArray] 134∧Slc AL p.F o am h.2.1∧Own AY 87 p o 4 an h.2.2.1∧Mp p o 3 aa h.2.2.2:=by
 rw [Jw] at a
 obtain ⟨b1,rfl,ao⟩:=BK a1
 obtain ⟨ap,aq,rfl⟩:=AG ao
 obtain rfl:=As a2
 refine A0 Tryz.func51 rfl Tryz.ntmps51 rfl fun B a4 f=>Sr<|Ef (Bf n 20 rfl rfl fun a5 b2 a6 a7 ar=>?_)
 refine Va (.pointer none)<|AA<|Sr<|Ef (MP a5 3 fun a8 b3 ab a9 ac=>?_)
 refine Vx (Run.fieldAddr0 D5 rfl)<|have au:=Bs a7 ac;Vx (Run.load1 GQ rfl (Bk.cell au rfl))<|Vm<|Vx (v:=.agg [.map (some ab),Sl ap e.funcs aq,.slice none 0 0,.func (.func 52) #[] [Pt y 0].toArray].toArray) (Bp Zc ZZ rfl (.cons rfl rfl rfl (.cons rfl rfl rfl (.cons rfl rfl rfl .nil))))<|Ef (Bf a8 2 rfl rfl fun av ba r aw z=>?_)
 refine Va (Pt r 0)<|AA<|AZ<|Sr<|Vx (Run.fieldAddr0 D5 rfl)<|have ax:=Bs au z;Vx (Run.load1 GQ rfl (Bk.cell ax rfl))<|have ad:=K3 AL ao ar ac z; ?_
 obtain ⟨b4,b5,bb⟩:=AG ad
 refine Vx (v:=I (e.funcs.length:Int)) (Run.lenSlc Fp bb)<|Vr (I (Wr ((e.funcs.length:Int) - 1)))<|Va (I (Wr ((e.funcs.length:Int) - 1)))<|AA<|Aj<|Bt (fun g bc ae=>∃(ay:Env) (l:Col) (d:Int) (u:Ak),bc=ay.puts [(2,.pointer (some ⟨a6,0,none⟩)),(5,.pointer (some ⟨r,0,none⟩)),(6,.int .i64 d)]∧Hw e g d u=some h∧AQ [3] av ba l ae∧Mp l ae 3 ab u) ah ?_ ?_
 refine have bd:=Ms a9 z;⟨_,av,(Wr ((e.funcs.length:Int) - 1)),([]:Ak),Pu,a,(AQ.refl [3] _ _),bd⟩
 rintro g _ ae ⟨ay,l,d,u,rfl,a,m,af⟩
 rcases g with _|g
 exact BC a
 refine have a:IA e (Hw e g) d u=some h:=a; ?_
 obtain ⟨b6,az⟩:∃s,s=Hw e g:=⟨_,rfl⟩
 rw [←az,IA] at a
 refine AZ<|Sr<|Vm<|Vr (.bool (decide (d≥0)))<|AA<|Cn a (fun be a=>?_) fun be a=>?_
 refine WC.skip<|AZ<|Aj<|CJ FL (.q 0 (.q 1 (.q 2 (.q 3 (.q 4 (.q 5 (.q 6 (.q 7 (.q 8 (.q 9 (.q 10 (.q 11 (.one 12 .nil))))))))))))) [12] [] l (by kernel_rfl) fun bf w=>Qx f rfl (v:=Pt r 0) (fun _ ⟨_,c⟩=>Run.move rfl)<|Qx f rfl (fun _ ⟨_,c⟩=>Run.nilCheck rfl)<|Qx f rfl (fun _ ⟨_,c⟩=>Run.fieldAddr0 Te rfl)<|have bg:=Y2 aw m w;Qx f rfl (fun _ ⟨_,c⟩=>Run.load1 OD rfl (Bk.cell (Bs bg c) rfl))<|Qx f rfl (fun _ ⟨_,c⟩=>Run.fieldAddr0 D5 rfl)<|have bh:=Y2 ax m w;Qx f rfl (fun _ ⟨_,c⟩=>Run.load1 GQ rfl (Bk.cell (Bs bh c) rfl))<|Qx f rfl (v:=I d) (fun _ ⟨_,c⟩=>Run.move rfl)<|Bi a fun bi bj a=>have bk:=K2 AL ad m w; ?_
 obtain ⟨bl,bm,b7,bn,bo,bp,bq,br,ag⟩:=BL (κ:=AL) bk bj
 replace ag:A8 l bf bl (bm+d.toNat*11) bn:=ag
 obtain ⟨b8,b9,rfl,bt,bu⟩:=Cw br
 obtain ⟨ca,cb,rfl⟩:=AG bt
 obtain ⟨cc,cd,rfl⟩:=AG bu
 refine Qx f rfl (fun _ ⟨_,c⟩=>Run.indexAddr Fp bo rfl bp bq)<|Qx f rfl (fun _ ⟨_,c⟩=>Run.fieldAddr0 L8 rfl)<|Qx f rfl (fun _ ⟨_,c⟩=>Run.load1 CS rfl (A8.cell0 (Es ag c) rfl))<|Qx f rfl (v:=I d) (fun _ ⟨_,c⟩=>Run.move rfl)<|Qx f rfl (v:=I (Wr (d+1))) (fun _ ⟨_,c⟩=>rfl)<|FP dcd<|WY.one<|have bv:=Ms af w;Be rfl (.none rfl) rfl (Jh KM rfl rfl rfl bv fun cf bw bx=>?_)
 refine WY.nil<|AO<|Vm<|Vr (I (Wr (d - 1)))<|Va (I (Wr (d - 1)))<|AA<|⟨g,Nat.lt_succ_self g,_,l,(Wr (d - 1)),(LF bi.name (Wr (d+1)) u),Pu,(az▸a),(T2 (Mo [3] m) w bx),bw⟩
 refine Bc<|Sr<|Vm<|Va (Pt r 0)<|AA<|AT ?_
 obtain rfl:=AP a
 refine Ax (B:=B) a4 (BG rfl (.tmp rfl) ?_)
 refine have bz:=Bs aw m;have b0:=Ss AL ad m;⟨l,r,ab,Sl ap e.funcs aq,.slice none 0 0,rfl,Ho (T3 (Mo [3] ar) ac z m) a0,af,bz,b0,Own.nil,af⟩
theorem TB(e:Nat):Jw.Spec (Jw e):=by
 intro d f ab ac ad a ae af kn1 kn2 ko1_2 ag g hnd hnz h l m
 refine Calls.mono (SA e (recol (see [a,kn1,kn2,ko1_2]) d) f (Az lbr d) (Au BN h [a,kn1,kn2,ko1_2]) (A6 l [a,kn1,kn2,ko1_2] (BD hnd hnz (i:=0) rfl)) (Au Ag m [a,kn1,kn2,ko1_2]) g) ?_
 rintro ah ai ⟨n,o,p,q,r,s,c,u,w,y,z,aa⟩
 exact ⟨glue [a,kn1,kn2,ko1_2] f d n,o,p,q,r,s,Ad c (DS rfl rfl),WG (j:=2) u rfl rfl c,T0 (j:=1) w rfl rfl c,DV AL y,Jt (j:=3) z rfl rfl c,WG (j:=2) aa rfl rfl c⟩
def Fd.At(G1 G2:Prop)(c:Col)(a:World)(f:Int→AD→Option AD)(d:Nat):Prop:=
 ∀{l:Int} {e:Nat} {m:AD} {n:List Value} {o:AD},f l m=some o→G1→G2→Bk c a d e n 63→Ag.rep c.F a n m→
  Calls Tryz.prog 52 #[I l,Pt e 0] a fun q g=>∃(h:Col) (p:List Value),q=.returned (.tuple #[])∧AQ [d] c a h g∧Bk h g d e p 63∧Ag.rep h.F g p o
def Fd.Spec(f:Int→AD→Option AD):Prop:=
 ∀(c:Col) (d:World) {a:Nat},Fd.At ([a].Nodup) (0∉[a]) c d f a
theorem PZ(f:Col)(n:World)(o:∀b,f b<10):Fd.At True True f n Fd 1:=by
 intro d s e ae u a _ _ g w
 rw [Fd] at a
 obtain rfl:=As w
 refine A0 Tryz.func52 rfl Tryz.ntmps52 rfl fun B p af=>Ao (fun y q=>∃(r:Env) (h:Col) (m:Bool),y=r.puts [(0,.int .i64 d),(1,.pointer (some ⟨s,0,none⟩)),(11,.bool m)]∧I6 d e m=some u∧AQ [] f n h q) ?_ ?_
 refine AO<|Vx (Run.fieldAddr0 MA rfl)<|Vx (Run.load1 Md rfl (Bk.cell g rfl))<|Vr (.bool (e.why==0))<|Vm<|Bo a (fun c a=>?_) fun c a=>?_
 refine Pg c<|Pg c<|Pg c<|Pg c<|Vp c<|AA<|⟨_,f,true,Pu,a,(AQ.refl [] _ _)⟩
 refine Gm c<|Gx c (Run.fieldAddr N9 rfl)<|Gx c (Run.load1 B5 rfl (Bk.cell g rfl))<|Gr c (.bool (decide (d<e.at_)))<|Vp c<|AA<|⟨_,f,(decide (d<e.at_)),Pu,a,(AQ.refl [] _ _)⟩
 rintro _ q ⟨r,h,m,rfl,a,l⟩
 rw [I6] at a
 refine Cn a (fun z a=>?_) fun z a=>?_
 refine AO<|Vm<|Vx (v:=.agg [I 34,I d].toArray) (Bp Ep Lq rfl (.cons rfl rfl rfl (.cons rfl rfl rfl .nil)))<|have aa:=Bs g l;Eu (St Gb aa rfl rfl rfl rfl fun ag ab ac=>?_)
 refine AA ?_
 obtain rfl:=AP a
 refine L3 (B:=B) p (L2 rfl ?_)
 exact ⟨h,[I 34,I d],rfl,Ho (Tn (Mo [1] l) ac) o,ab,(Ah (x:=(AD.mk 34 d)))⟩
 refine WC.skip ?_
 obtain rfl:=AP a
 refine L3 (B:=B) p (L2 rfl ?_)
 refine have ad:=Bs g l;⟨h,[I e.why,I e.at_],rfl,Ho (Mo [] l) o,ad,(Ah (x:=e))⟩
theorem QD:Fd.Spec Fd:=by
 intro c d a q r s u w f hnd hnz e g
 refine Calls.mono (PZ (recol (see [a]) c) d (Az lbr c) f trivial trivial (A6 e [a] (BD hnd hnz (i:=0) rfl)) (Au Ag g [a])) ?_
 rintro y z ⟨h,l,m,n,o,p⟩
 exact ⟨glue [a] d c h,l,m,Ad n (DS rfl rfl),CK e o dcd,BB Ag p⟩
def types_checker_want.Spec(f:(List AK)→(List AH)→Ak→AD→AE→Int→Option ((List AK)×(List AH)×AD)):Prop:=
 ∀(c:Col) (a:World) {n:Nat} {g:Nat} {q:(List AK)} {r:Value} {s:(List AH)} {u:Value} {ko0_2:Nat} {o:Nat} {p:Nat} {w:Ak} {l:Nat} {h:Nat} {y:AD} {z:List Value} {aa:AE} {ab:List Value} {ac:Int} {m:(List AK)×(List AH)×AD},f q s w y aa ac=some m→[g,p,h,ko0_2].Nodup→0∉[g,p,h,ko0_2]→Bk c a g n [.map (some o),r,u,.func (.func 52) #[] [Pt l 0].toArray] 134→Slc AL c.F a r q→Own AY 87 c a ko0_2 u s→Mp c a p o w→Bk c a h l z 63→Ag.rep c.F a z y→AJ.rep c.F a ab aa→
  Calls Tryz.prog 53 #[Pt n 0,.agg ab.toArray,I ac] a fun ag d=>∃(e:Col) (ad:Value) (ae:Value) (af:List Value),ag=.returned (.tuple #[])∧AQ [g,h,ko0_2] c a e d∧Bk e d g n [.map (some o),ad,ae,.func (.func 52) #[] [Pt l 0].toArray] 134∧Slc AL e.F d ad m.1∧Own AY 87 e d ko0_2 ae m.2.1∧Bk e d h l af 63∧Ag.rep e.F d af m.2.2
def types_checker_all.Spec(f:(List AK)→(List AH)→Ak→AD→Int→(List AE)→Option ((List AK)×(List AH)×AD)):Prop:=
 ∀(c:Col) (a:World) {n:Nat} {g:Nat} {q:(List AK)} {r:Value} {s:(List AH)} {u:Value} {ko0_2:Nat} {o:Nat} {p:Nat} {w:Ak} {l:Nat} {h:Nat} {y:AD} {z:List Value} {aa:Int} {ab:(List AE)} {ac:Value} {m:(List AK)×(List AH)×AD},f q s w y aa ab=some m→[g,p,h,ko0_2].Nodup→0∉[g,p,h,ko0_2]→Bk c a g n [.map (some o),r,u,.func (.func 52) #[] [Pt l 0].toArray] 134→Slc AL c.F a r q→Own AY 87 c a ko0_2 u s→Mp c a p o w→Bk c a h l z 63→Ag.rep c.F a z y→Slc AJ c.F a ac ab→
  Calls Tryz.prog 82 #[Pt n 0,I aa,ac] a fun ag d=>∃(e:Col) (ad:Value) (ae:Value) (af:List Value),ag=.returned (.tuple #[])∧AQ [g,h,ko0_2] c a e d∧Bk e d g n [.map (some o),ad,ae,.func (.func 52) #[] [Pt l 0].toArray] 134∧Slc AL e.F d ad m.1∧Own AY 87 e d ko0_2 ae m.2.1∧Bk e d h l af 63∧Ag.rep e.F d af m.2.2
def types_checker_in.Spec(f:(List AK)→(List AH)→Ak→AD→AE→Int→(List AH)→Option ((List AK)×(List AH)×AD)):Prop:=
 ∀(c:Col) (a:World) {l:Nat} {g:Nat} {u:(List AK)} {w:Value} {y:(List AH)} {z:Value} {ko0_2:Nat} {o:Nat} {p:Nat} {aa:Ak} {m:Nat} {h:Nat} {ab:AD} {ac:List Value} {ad:Nat} {q:Nat} {ae:Nat} {r:Nat} {af:AE} {ag:List Value} {ah:Nat} {s:Nat} {ai:Int} {aj:(List AH)} {ak:Value} {n:(List AK)×(List AH)×AD},f u y aa ab af ai aj=some n→[g,p,h,q,r,s,ko0_2].Nodup→0∉[g,p,h,q,r,s,ko0_2]→Bk c a g l [.map (some o),w,z,.func (.func 52) #[] [Pt m 0].toArray] 134→Slc AL c.F a w u→Own AY 87 c a ko0_2 z y→Mp c a p o aa→Bk c a h m ac 63→Ag.rep c.F a ac ab→Bk c a q ad [Pt l 0] 130→Bk c a r ae ag 56→AJ.rep c.F a ag af→Bk c a s ah [I ai] 34→Slc AY c.F a ak aj→
  Calls Tryz.prog 83 #[Pt l 0,.func (.func 84) #[] [Pt ad 0,Pt ae 0,Pt ah 0].toArray,ak] a fun ao d=>∃(e:Col) (al:Value) (am:Value) (an:List Value),ao=.returned (.tuple #[])∧AQ [g,h,ko0_2] c a e d∧Bk e d g l [.map (some o),al,am,.func (.func 52) #[] [Pt m 0].toArray] 134∧Slc AL e.F d al n.1∧Own AY 87 e d ko0_2 am n.2.1∧Bk e d h m an 63∧Ag.rep e.F d an n.2.2
def types_checker_in_2.Spec(f:(List AK)→(List AH)→Ak→AD→AE→Int→(List AH)→Option ((List AK)×(List AH)×AD)):Prop:=
 ∀(c:Col) (a:World) {l:Nat} {g:Nat} {u:(List AK)} {w:Value} {y:(List AH)} {z:Value} {ko0_2:Nat} {o:Nat} {p:Nat} {aa:Ak} {m:Nat} {h:Nat} {ab:AD} {ac:List Value} {ad:Nat} {q:Nat} {ae:Nat} {r:Nat} {af:AE} {ag:List Value} {ah:Nat} {s:Nat} {ai:Int} {aj:(List AH)} {ak:Value} {n:(List AK)×(List AH)×AD},f u y aa ab af ai aj=some n→[g,p,h,q,r,s,ko0_2].Nodup→0∉[g,p,h,q,r,s,ko0_2]→Bk c a g l [.map (some o),w,z,.func (.func 52) #[] [Pt m 0].toArray] 134→Slc AL c.F a w u→Own AY 87 c a ko0_2 z y→Mp c a p o aa→Bk c a h m ac 63→Ag.rep c.F a ac ab→Bk c a q ad [Pt l 0] 130→Bk c a r ae ag 56→AJ.rep c.F a ag af→Bk c a s ah [I ai] 34→Slc AY c.F a ak aj→
  Calls Tryz.prog 83 #[Pt l 0,.func (.func 85) #[] [Pt ad 0,Pt ae 0,Pt ah 0].toArray,ak] a fun ao d=>∃(e:Col) (al:Value) (am:Value) (an:List Value),ao=.returned (.tuple #[])∧AQ [g,h,ko0_2] c a e d∧Bk e d g l [.map (some o),al,am,.func (.func 52) #[] [Pt m 0].toArray] 134∧Slc AL e.F d al n.1∧Own AY 87 e d ko0_2 am n.2.1∧Bk e d h m an 63∧Ag.rep e.F d an n.2.2
def types_checker_in_3.Spec(f:(List AK)→(List AH)→Ak→AD→AE→Int→(List AH)→Option ((List AK)×(List AH)×AD)):Prop:=
 ∀(c:Col) (a:World) {l:Nat} {g:Nat} {u:(List AK)} {w:Value} {y:(List AH)} {z:Value} {ko0_2:Nat} {o:Nat} {p:Nat} {aa:Ak} {m:Nat} {h:Nat} {ab:AD} {ac:List Value} {ad:Nat} {q:Nat} {ae:Nat} {r:Nat} {af:AE} {ag:List Value} {ah:Nat} {s:Nat} {ai:Int} {aj:(List AH)} {ak:Value} {n:(List AK)×(List AH)×AD},f u y aa ab af ai aj=some n→[g,p,h,q,r,s,ko0_2].Nodup→0∉[g,p,h,q,r,s,ko0_2]→Bk c a g l [.map (some o),w,z,.func (.func 52) #[] [Pt m 0].toArray] 134→Slc AL c.F a w u→Own AY 87 c a ko0_2 z y→Mp c a p o aa→Bk c a h m ac 63→Ag.rep c.F a ac ab→Bk c a q ad [Pt l 0] 130→Bk c a r ae ag 56→AJ.rep c.F a ag af→Bk c a s ah [I ai] 34→Slc AY c.F a ak aj→
  Calls Tryz.prog 83 #[Pt l 0,.func (.func 86) #[] [Pt ad 0,Pt ae 0,Pt ah 0].toArray,ak] a fun ao d=>∃(e:Col) (al:Value) (am:Value) (an:List Value),ao=.returned (.tuple #[])∧AQ [g,h,ko0_2] c a e d∧Bk e d g l [.map (some o),al,am,.func (.func 52) #[] [Pt m 0].toArray] 134∧Slc AL e.F d al n.1∧Own AY 87 e d ko0_2 am n.2.1∧Bk e d h m an 63∧Ag.rep e.F d an n.2.2
def types_checker_own.Spec(f:(List AK)→(List AH)→Ak→AD→AE→Option (Int×(List AK)×(List AH)×AD)):Prop:=
 ∀(c:Col) (a:World) {n:Nat} {g:Nat} {q:(List AK)} {r:Value} {s:(List AH)} {u:Value} {ko0_2:Nat} {o:Nat} {p:Nat} {w:Ak} {m:Nat} {h:Nat} {y:AD} {z:List Value} {aa:AE} {ab:List Value} {l:Int×(List AK)×(List AH)×AD},f q s w y aa=some l→[g,p,h,ko0_2].Nodup→0∉[g,p,h,ko0_2]→Bk c a g n [.map (some o),r,u,.func (.func 52) #[] [Pt m 0].toArray] 134→Slc AL c.F a r q→Own AY 87 c a ko0_2 u s→Mp c a p o w→Bk c a h m z 63→Ag.rep c.F a z y→AJ.rep c.F a ab aa→
  Calls Tryz.prog 87 #[Pt n 0,.agg ab.toArray] a fun af d=>∃(e:Col) (ac:Value) (ad:Value) (ae:List Value),af=.returned (I l.1)∧AQ [g,h,ko0_2] c a e d∧Bk e d g n [.map (some o),ac,ad,.func (.func 52) #[] [Pt m 0].toArray] 134∧Slc AL e.F d ac l.2.1∧Own AY 87 e d ko0_2 ad l.2.2.1∧Bk e d h m ae 63∧Ag.rep e.F d ae l.2.2.2
def types_checker_want_1.Spec(f:(List AK)→(List AH)→Ak→AD→AE→Int→Option ((List AK)×(List AH)×AD)):Prop:=
 ∀(c:Col) (a:World) {u:Nat} {n:Nat} {o:Nat} {g:Nat} {w:(List AK)} {y:Value} {z:(List AH)} {aa:Value} {ko1_2:Nat} {p:Nat} {q:Nat} {ab:Ak} {l:Nat} {h:Nat} {ac:AD} {ad:List Value} {ae:Nat} {r:Nat} {af:AE} {ag:List Value} {ah:Nat} {s:Nat} {ai:Int} {m:(List AK)×(List AH)×AD},f w z ab ac af ai=some m→[n,g,q,h,r,s,ko1_2].Nodup→0∉[n,g,q,h,r,s,ko1_2]→Bk c a n u [Pt o 0] 130→Bk c a g o [.map (some p),y,aa,.func (.func 52) #[] [Pt l 0].toArray] 134→Slc AL c.F a y w→Own AY 87 c a ko1_2 aa z→Mp c a q p ab→Bk c a h l ad 63→Ag.rep c.F a ad ac→Bk c a r ae ag 56→AJ.rep c.F a ag af→Bk c a s ah [I ai] 34→
  Calls Tryz.prog 84 #[Pt u 0,Pt ae 0,Pt ah 0] a fun am d=>∃(e:Col) (aj:Value) (ak:Value) (al:List Value),am=.returned (.tuple #[])∧AQ [g,h,ko1_2] c a e d∧Bk e d g o [.map (some p),aj,ak,.func (.func 52) #[] [Pt l 0].toArray] 134∧Slc AL e.F d aj m.1∧Own AY 87 e d ko1_2 ak m.2.1∧Bk e d h l al 63∧Ag.rep e.F d al m.2.2
def types_checker_want_2.Spec(f:(List AK)→(List AH)→Ak→AD→AE→Int→Option ((List AK)×(List AH)×AD)):Prop:=
 ∀(c:Col) (a:World) {u:Nat} {n:Nat} {o:Nat} {g:Nat} {w:(List AK)} {y:Value} {z:(List AH)} {aa:Value} {ko1_2:Nat} {p:Nat} {q:Nat} {ab:Ak} {l:Nat} {h:Nat} {ac:AD} {ad:List Value} {ae:Nat} {r:Nat} {af:AE} {ag:List Value} {ah:Nat} {s:Nat} {ai:Int} {m:(List AK)×(List AH)×AD},f w z ab ac af ai=some m→[n,g,q,h,r,s,ko1_2].Nodup→0∉[n,g,q,h,r,s,ko1_2]→Bk c a n u [Pt o 0] 130→Bk c a g o [.map (some p),y,aa,.func (.func 52) #[] [Pt l 0].toArray] 134→Slc AL c.F a y w→Own AY 87 c a ko1_2 aa z→Mp c a q p ab→Bk c a h l ad 63→Ag.rep c.F a ad ac→Bk c a r ae ag 56→AJ.rep c.F a ag af→Bk c a s ah [I ai] 34→
  Calls Tryz.prog 85 #[Pt u 0,Pt ae 0,Pt ah 0] a fun am d=>∃(e:Col) (aj:Value) (ak:Value) (al:List Value),am=.returned (.tuple #[])∧AQ [g,h,ko1_2] c a e d∧Bk e d g o [.map (some p),aj,ak,.func (.func 52) #[] [Pt l 0].toArray] 134∧Slc AL e.F d aj m.1∧Own AY 87 e d ko1_2 ak m.2.1∧Bk e d h l al 63∧Ag.rep e.F d al m.2.2
def types_checker_want_3.Spec(f:(List AK)→(List AH)→Ak→AD→AE→Int→Option ((List AK)×(List AH)×AD)):Prop:=
 ∀(c:Col) (a:World) {u:Nat} {n:Nat} {o:Nat} {g:Nat} {w:(List AK)} {y:Value} {z:(List AH)} {aa:Value} {ko1_2:Nat} {p:Nat} {q:Nat} {ab:Ak} {l:Nat} {h:Nat} {ac:AD} {ad:List Value} {ae:Nat} {r:Nat} {af:AE} {ag:List Value} {ah:Nat} {s:Nat} {ai:Int} {m:(List AK)×(List AH)×AD},f w z ab ac af ai=some m→[n,g,q,h,r,s,ko1_2].Nodup→0∉[n,g,q,h,r,s,ko1_2]→Bk c a n u [Pt o 0] 130→Bk c a g o [.map (some p),y,aa,.func (.func 52) #[] [Pt l 0].toArray] 134→Slc AL c.F a y w→Own AY 87 c a ko1_2 aa z→Mp c a q p ab→Bk c a h l ad 63→Ag.rep c.F a ad ac→Bk c a r ae ag 56→AJ.rep c.F a ag af→Bk c a s ah [I ai] 34→
  Calls Tryz.prog 86 #[Pt u 0,Pt ae 0,Pt ah 0] a fun am d=>∃(e:Col) (aj:Value) (ak:Value) (al:List Value),am=.returned (.tuple #[])∧AQ [g,h,ko1_2] c a e d∧Bk e d g o [.map (some p),aj,ak,.func (.func 52) #[] [Pt l 0].toArray] 134∧Slc AL e.F d aj m.1∧Own AY 87 e d ko1_2 ak m.2.1∧Bk e d h l al 63∧Ag.rep e.F d al m.2.2
def types_checker_call.Spec(f:(List AK)→(List AH)→Ak→AD→AE→Option (Int×(List AK)×(List AH)×AD)):Prop:=
 ∀(c:Col) (a:World) {n:Nat} {g:Nat} {q:(List AK)} {r:Value} {s:(List AH)} {u:Value} {ko0_2:Nat} {o:Nat} {p:Nat} {w:Ak} {m:Nat} {h:Nat} {y:AD} {z:List Value} {aa:AE} {ab:List Value} {l:Int×(List AK)×(List AH)×AD},f q s w y aa=some l→[g,p,h,ko0_2].Nodup→0∉[g,p,h,ko0_2]→Bk c a g n [.map (some o),r,u,.func (.func 52) #[] [Pt m 0].toArray] 134→Slc AL c.F a r q→Own AY 87 c a ko0_2 u s→Mp c a p o w→Bk c a h m z 63→Ag.rep c.F a z y→AJ.rep c.F a ab aa→
  Calls Tryz.prog 112 #[Pt n 0,.agg ab.toArray] a fun af d=>∃(e:Col) (ac:Value) (ad:Value) (ae:List Value),af=.returned (I l.1)∧AQ [g,h,ko0_2] c a e d∧Bk e d g n [.map (some o),ac,ad,.func (.func 52) #[] [Pt m 0].toArray] 134∧Slc AL e.F d ac l.2.1∧Own AY 87 e d ko0_2 ad l.2.2.1∧Bk e d h m ae 63∧Ag.rep e.F d ae l.2.2.2
structure AF.Good(a:AF):Prop where
 types_checker_want:types_checker_want.Spec a.types_checker_want
 types_checker_all:types_checker_all.Spec a.types_checker_all
 types_checker_in:types_checker_in.Spec a.types_checker_in
 types_checker_in_2:types_checker_in_2.Spec a.types_checker_in_2
 types_checker_in_3:types_checker_in_3.Spec a.types_checker_in_3
 types_checker_own:types_checker_own.Spec a.types_checker_own
 types_checker_want_1:types_checker_want_1.Spec a.types_checker_want_1
 types_checker_want_2:types_checker_want_2.Spec a.types_checker_want_2
 types_checker_want_3:types_checker_want_3.Spec a.types_checker_want_3
 types_checker_call:types_checker_call.Spec a.types_checker_call
end Fth
