/- Part 4 of the proof: what it says holds of the given program; no condition. -/
import Derived.Test.YtiodboehkcmdnaaGreatProg
import Derived.KernelRfl
import Derived.Test.YtiodboehkcmdnaaGreatMC
set_option linter.all false
set_option exponentiation.threshold 3000
namespace Fth
open Go Go.Proofs Sh
set_option maxRecDepth 100000
set_option maxHeartbeats 8000000
theorem Nq(a6:AC)(bl:Nat)(b8:AC.Good a6)(b9:Col)(dv:World)(av:∀b,b9 b<10):ref04_reader_unit.At True True b9 dv (Ci a6 bl) 1:=by
 intro p c ip bm a _ _ dw dx
 rw [Ci] at a
 obtain ⟨iq,rfl,cx⟩:=AS dx
 obtain ⟨cy,cz,rfl⟩:=AI cx
 refine A5 Tryz.func157 rfl Tryz.ntmps157 rfl fun B aw ax=>Sr<|Ef (AY b9 20 DJ rfl fun dy dz bn ay ah=>?_)
 refine AA<|Sr<|Vm<|have c0:=Bs dw ah;have a7:=Ss AW cx ah;Bi a fun f d0 a=>Ca (LR [Pt p 0] rfl) (B7 dy dz d0 dcd dcd c0 (AM (x:=c) a7)) ?_
 rintro _ ir ⟨d1,it,rfl,m,d2⟩
 obtain rfl:=Cq d2
 refine ⟨_,rfl,?_⟩
 refine Ef (AY d1 21 F0 rfl fun bo iu d3 d4 n=>?_)
 refine Eu (St GC d4 rfl rfl rfl rfl fun d5 az o=>?_)
 refine AA<|Ac<|Sr<|Vm<|Vx (Run.nilCheck rfl)<|Vx (Run.fieldAddr H3 rfl)<|have an:=Y3 c0 m n o;Vx (Run.load1 Be rfl (Bk.cell an rfl))<|Vr (.bool (c.why != 0))<|AA<|Cn a (fun d6 a=>?_) fun d6 a=>?_
 refine Sr<|Vx (v:=.agg [I 0,Sb ([]:List UInt8),Sb ([]:List UInt8),I 0,Cx (((0,0):Nat×Nat)),.slice none 0 0,I 0].toArray) (Bp DJ Mc rfl .nil)<|have d7:=Y3 ay m n o;Eu (St Dd d7 rfl rfl rfl rfl fun iv d8 ca=>?_)
 refine AA<|AZ ?_
 obtain rfl:=AP a
 refine A0 (B:=B) aw (BQ rfl (.agg BL rfl rfl (Bk.part d8 0 [I 0,Sb ([]:List UInt8),Sb ([]:List UInt8),I 0,Cx (((0,0):Nat×Nat)),.slice none 0 0,I 0] rfl)) ?_)
 refine have d9:=Bs an ca;have ea:=K4 AW a7 m n o ca;⟨bo,[I 0,Sb ([]:List UInt8),Sb ([]:List UInt8),I 0,Cx (((0,0):Nat×Nat)),.slice none 0 0,I 0],[Sl cy c.marks cz,I c.at_,I c.why,I c.where_,I c.l.text,I c.l.funcs,I c.l.arity,I c.l.nest,I c.nest],rfl,Ho (T4 (Mo [20,21] ah) m n o ca) av,(Ag (x:=(AD.mk 0 ([]:List UInt8) ([]:List UInt8) 0 ((0,0):Nat×Nat) [] 0)) Cd),d9,(AM (x:=c) ea)⟩
 refine WC.skip<|Ac<|Ao<|Sr<|Vx (Run.fieldAddr0 Jq rfl)<|Vx (Run.load1 Ol rfl (Bk.cell az rfl))<|Vr (.bool (f.kind==2))<|Va (.bool (f.kind==2))<|AA<|Cn a (fun eb a=>?_) fun eb a=>?_
 refine Sr<|Vm<|Vx (Run.nilCheck rfl)<|Vx (Run.fieldAddr Fd rfl)<|Vx (Run.load1 Be rfl (Bk.cell an rfl))<|Vr (I (Wr (c.at_+1)))<|Vx (Run.nilCheck rfl)<|Vx (Run.fieldAddr Fd rfl)<|Eu (St Lz an rfl rfl rfl rfl fun iw ec bp=>?_)
 refine AA<|Sr<|Vx (Run.fieldAddr TT rfl)<|have c1:=Bs az bp;Vx (Run.load1 HX rfl (Bk.cell c1 rfl))<|Vx (Run.fieldAddr KR rfl)<|Vx (Run.load1 Be rfl (Bk.cell c1 rfl))<|Vx (v:=.agg [I 1,Sb ([]:List UInt8),Sb ([]:List UInt8),I 0,Cx f.num,.slice none 0 0,I f.at_].toArray) (Bp DJ Mc rfl (.cons rfl rfl rfl (.cons rfl rfl rfl (.cons rfl rfl rfl .nil))))<|have ed:=Y4 ay m n o bp;Eu (St Dd ed rfl rfl rfl rfl fun ix ee cb=>?_)
 refine AA<|AZ ?_
 obtain rfl:=AP a
 refine A0 (B:=B) aw (BQ rfl (.agg BL rfl rfl (Bk.part ee 0 [I 1,Sb ([]:List UInt8),Sb ([]:List UInt8),I 0,Cx f.num,.slice none 0 0,I f.at_] rfl)) ?_)
 refine have ef:=Bs ec cb;have eg:=Ss AW (K4 AW a7 m n o bp) cb;⟨bo,[I 1,Sb ([]:List UInt8),Sb ([]:List UInt8),I 0,Cx f.num,.slice none 0 0,I f.at_],[Sl cy c.marks cz,I (Wr (c.at_+1)),I c.why,I c.where_,I c.l.text,I c.l.funcs,I c.l.arity,I c.l.nest,I c.nest],rfl,Ho (Tn (T4 (Mo [1,20,21] ah) m n o bp) cb) av,(Ag (x:=(AD.mk 1 ([]:List UInt8) ([]:List UInt8) 0 f.num [] f.at_)) Cd),ef,(AM (x:=(AB.mk c.marks (Wr (c.at_+1)) c.why c.where_ (Ab.mk c.l.text c.l.funcs c.l.arity c.l.nest) c.nest)) eg)⟩
 refine Sr<|Vx (Run.fieldAddr0 Jq rfl)<|Vx (Run.load1 Ol rfl (Bk.cell az rfl))<|Vr (.bool (f.kind==0))<|Va (.bool (f.kind==0))<|AA<|Cn a (fun eh a=>?_) fun eh a=>?_
 refine Sr<|Vm<|Vx (Run.nilCheck rfl)<|Vx (Run.fieldAddr Fd rfl)<|Vx (Run.load1 Be rfl (Bk.cell an rfl))<|Vr (I (Wr (c.at_+1)))<|Vx (Run.nilCheck rfl)<|Vx (Run.fieldAddr Fd rfl)<|Eu (St Lz an rfl rfl rfl rfl fun ei ej bq=>?_)
 refine AA<|Sr<|Vm<|have ek:=Bs az bq;Vx (Run.loadN HW rfl rfl (Bk.part ek 0 [I f.kind,Sb f.text,Cx f.num,I f.at_] rfl))<|have el:=K4 AW a7 m n o bq;Bi a fun h em a=>Ca (Y6 [Pt p 0,.agg [I f.kind,Sb f.text,Cx f.num,I f.at_].toArray] rfl) (b8.ref04_reader_named bo ei em dcd dcd ej (AM (x:=(AB.mk c.marks (Wr (c.at_+1)) c.why c.where_ (Ab.mk c.l.text c.l.funcs c.l.arity c.l.nest) c.nest)) el) (E3 (x:=f))) ?_
 rintro _ iy ⟨en,iz,i0,rfl,c2,eo,ep,eq⟩
 obtain ⟨i1,rfl,c3⟩:=Am eo
 obtain ⟨c4,c5,rfl⟩:=AI c3
 obtain ⟨i2,rfl,c6⟩:=AS eq
 obtain ⟨er,es,rfl⟩:=AI c6
 refine ⟨_,rfl,?_⟩
 refine have et:=Bs (Y4 ay m n o bq) c2;Eu (St Dd et rfl rfl rfl rfl fun i3 eu br=>?_)
 refine AA<|AZ ?_
 obtain rfl:=AP a
 refine A0 (B:=B) aw (BQ rfl (.agg BL rfl rfl (Bk.part eu 0 [I h.1.op,Sb h.1.name,Sb h.1.tail,I h.1.type_,Cx h.1.num,Sl c4 h.1.args c5,I h.1.at_] rfl)) ?_)
 refine have ew:=Ss AJ c3 br;have ex:=Bs ep br;have ey:=Ss AW c6 br;⟨en,[I h.1.op,Sb h.1.name,Sb h.1.tail,I h.1.type_,Cx h.1.num,Sl c4 h.1.args c5,I h.1.at_],[Sl er h.2.marks es,I h.2.at_,I h.2.why,I h.2.where_,I h.2.l.text,I h.2.l.funcs,I h.2.l.arity,I h.2.l.nest,I h.2.nest],rfl,Ho (T2 (T4 (Mo [1,20,21] ah) m n o bq) c2 br) av,(Ag (x:=h.1) ew),ex,(AM (x:=h.2) ey)⟩
 refine Sr<|Vm<|have ez:=K3 AW a7 m n o;Bi a fun d e0 a=>Ca (NC [Pt p 0,Sb ([40]:List UInt8)] rfl) (EV bo d5 e0 dcd dcd an (AM (x:=c) ez)) ?_
 rintro _ cc ⟨bt,i4,rfl,ai,cd,e1⟩
 obtain ⟨i5,rfl,a0⟩:=AS e1
 obtain ⟨e2,e3,rfl⟩:=AI a0
 refine ⟨_,rfl,?_⟩
 refine Va (.bool d.1)<|AA<|Cn a (fun e4 a=>?_) fun e4 a=>?_
 refine Sr<|Vm<|Bi a fun l e5 a=>Ca (MQ [Pt p 0] rfl) (b8.ref04_reader_expr bt cc e5 dcd dcd cd (AM (x:=d.2) a0)) ?_
 rintro _ i6 ⟨e6,i7,i8,rfl,c7,e7,e8,e9⟩
 obtain ⟨i9,rfl,c8⟩:=Am e7
 obtain ⟨cf,cg,rfl⟩:=AI c8
 obtain ⟨ja,rfl,c9⟩:=AS e9
 obtain ⟨jb,jc,rfl⟩:=AI c9
 refine ⟨_,rfl,?_⟩
 refine Ef (AY e6 22 DJ rfl fun fa jd je fb a8=>?_)
 refine have fc:=Ss AJ c8 a8;Eu (St Dd fb rfl rfl rfl rfl fun fd fe a9=>?_)
 refine AA<|Sr<|Vm<|have ff:=Y2 e8 a8 a9;have fg:=K2 AW c9 a8 a9;Bi a fun ab fh a=>Ca (Hx [Pt p 0,Sb ([41]:List UInt8)] rfl) (BF fa fd fh dcd dcd ff (AM (x:=l.2) fg)) ?_
 rintro _ jf ⟨fi,jg,rfl,bu,fj,fk⟩
 obtain ⟨jh,rfl,da⟩:=AS fk
 obtain ⟨fl,fm,rfl⟩:=AI da
 refine ⟨_,rfl,?_⟩
 refine AA<|Sr<|have fn:=Bs fe bu;Vx (Run.loadN BL rfl rfl (Bk.part fn 0 [I l.1.op,Sb l.1.name,Sb l.1.tail,I l.1.type_,Cx l.1.num,Sl cf l.1.args cg,I l.1.at_] rfl))<|have fo:=Y4 (Y4 ay m n o ai) c7 a8 a9 bu;have fp:=K2 AJ fc a9 bu;Eu (St Dd fo rfl rfl rfl rfl fun ji fq bv=>?_)
 refine AA<|AZ ?_
 obtain rfl:=AP a
 refine A0 (B:=B) aw (BQ rfl (.agg BL rfl rfl (Bk.part fq 0 [I l.1.op,Sb l.1.name,Sb l.1.tail,I l.1.type_,Cx l.1.num,Sl cf l.1.args cg,I l.1.at_] rfl)) ?_)
 refine have fr:=Ss AJ fp bv;have fs:=Bs fj bv;have ft:=Ss AW da bv;⟨fi,[I l.1.op,Sb l.1.name,Sb l.1.tail,I l.1.type_,Cx l.1.num,Sl cf l.1.args cg,I l.1.at_],[Sl fl ab.marks fm,I ab.at_,I ab.why,I ab.where_,I ab.l.text,I ab.l.funcs,I ab.l.arity,I ab.l.nest,I ab.nest],rfl,Ho (Tn (T4 (T4 (Mo [1,20,21,22] ah) m n o ai) c7 a8 a9 bu) bv) av,(Ag (x:=l.1) fr),fs,(AM (x:=ab) ft)⟩
 refine Au (fun ao ch=>∃(w:Env) (ap:Col) (ci:Bool),ao=w.puts [(0,.pointer (some ⟨p,0,none⟩)),(2,.pointer (some ⟨bn,0,none⟩)),(3,.pointer (some ⟨d3,0,none⟩)),(53,.bool ci)]∧Cu a6 bl f d ci=some bm∧AO [] bt cc ap ch) ?_ ?_
 refine AQ<|Vx (Run.fieldAddr0 Jq rfl)<|have db:=Bs az ai;Vx (Run.load1 Ol rfl (Bk.cell db rfl))<|Vr (.bool (f.kind != 1))<|Vm<|Bo a (fun y a=>?_) fun y a=>?_
 refine Pg y<|Pg y<|Pg y<|Pg y<|Vp y<|Va (.bool true)<|AA<|⟨_,bt,true,Pu,a,(AO.refl [] _ _)⟩
 refine Gx y (Run.fieldAddr Eo rfl)<|Gx y (Run.load1 De rfl (Bk.cell db rfl))<|Bi a fun cj fu a=>Bx (.guard (t:=false) (b:=false) rfl rfl rfl rfl (Cb y)) rfl rfl (Tv [Sb f.text] rfl)<|Calls.mono (Mf bt cc fu) ?_
 rintro _ jj ⟨fv,rfl,fw⟩
 refine ⟨_,rfl,?_⟩
 refine Gr y (.bool (cj==0))<|Vp y<|Va (.bool (cj==0))<|AA<|⟨_,fv,(cj==0),Pu,a,(Mo [] fw)⟩
 rintro _ ch ⟨w,ap,ci,rfl,a,z⟩
 rw [Cu] at a
 refine Cn a (fun fx a=>?_) fun fx a=>?_
 refine Sr<|Vm<|have fy:=Bs cd z;have fz:=Ss AW a0 z;Bi a fun ac f0 a=>Ca (NA [Pt p 0,I 21] rfl) (EU ap ch f0 dcd dcd fy (AM (x:=d.2) fz)) ?_
 rintro _ jk ⟨f1,jl,rfl,dc,f2,f3⟩
 obtain ⟨jm,rfl,de⟩:=AS f3
 obtain ⟨f4,f5,rfl⟩:=AI de
 refine ⟨_,rfl,?_⟩
 refine AA<|Sr<|Vx (v:=.agg [I 0,Sb ([]:List UInt8),Sb ([]:List UInt8),I 0,Cx (((0,0):Nat×Nat)),.slice none 0 0,I 0].toArray) (Bp DJ Mc rfl .nil)<|have f6:=Y2 (Y4 ay m n o ai) z dc;Eu (St Dd f6 rfl rfl rfl rfl fun jn f7 ck=>?_)
 refine AA<|AZ ?_
 obtain rfl:=AP a
 refine A0 (B:=B) aw (BQ rfl (.agg BL rfl rfl (Bk.part f7 0 [I 0,Sb ([]:List UInt8),Sb ([]:List UInt8),I 0,Cx (((0,0):Nat×Nat)),.slice none 0 0,I 0] rfl)) ?_)
 refine have f8:=Bs f2 ck;have f9:=Ss AW de ck;⟨f1,[I 0,Sb ([]:List UInt8),Sb ([]:List UInt8),I 0,Cx (((0,0):Nat×Nat)),.slice none 0 0,I 0],[Sl f4 ac.marks f5,I ac.at_,I ac.why,I ac.where_,I ac.l.text,I ac.l.funcs,I ac.l.arity,I ac.l.nest,I ac.nest],rfl,Ho (T3 (T4 (Mo [1,20,21] ah) m n o ai) z dc ck) av,(Ag (x:=(AD.mk 0 ([]:List UInt8) ([]:List UInt8) 0 ((0,0):Nat×Nat) [] 0)) Cd),f8,(AM (x:=ac) f9)⟩
 refine WC.skip<|Sr<|Vm<|Vx (Run.nilCheck rfl)<|Vx (Run.fieldAddr Fd rfl)<|have df:=Bs cd z;Vx (Run.load1 Be rfl (Bk.cell df rfl))<|Vr (I (Wr (d.2.at_+1)))<|Vx (Run.nilCheck rfl)<|Vx (Run.fieldAddr Fd rfl)<|Eu (St Lz df rfl rfl rfl rfl fun ga cl a1=>?_)
 refine AA<|Au (fun ao a2=>∃(w:Env) (ad:Col) (a3:Nat) (g:Int) (q:Bts) (r:Bts) (aq:Int) (s:(Nat×Nat)) (u:Int),ao=w.puts [(0,.pointer (some ⟨p,0,none⟩)),(2,.pointer (some ⟨bn,0,none⟩)),(5,.pointer (some ⟨a3,0,none⟩))]∧EM a6 bl d g q r aq s u=some bm∧AO [23] ap ga ad a2∧Bk ad a2 23 a3 [I g,Sb q,Sb r,I aq,Cx s,.slice none 0 0,I u] 56) ?_ ?_
 refine Cc Ff (.q 0 (.q 1 (.q 3 (.q 4 (.two 2 6 (.q 5 (.one 6 (.one 7 .nil))) (.one 2 (.q 5 (.one 7 .nil)))))))) [7] [] ap (by kernel_rfl) fun gb cm=>Qx ax rfl (fun _ ⟨_,ar⟩=>Run.fieldAddr Eo rfl)<|have dg:=Y4 az ai z a1 cm;Qx ax rfl (fun _ ⟨_,ar⟩=>Run.load1 De rfl (Bk.cell (Bs dg ar) rfl))<|Qx ax rfl (fun _ ⟨_,ar⟩=>Run.fieldAddr KR rfl)<|Qx ax rfl (fun _ ⟨_,ar⟩=>Run.load1 Be rfl (Bk.cell (Bs dg ar) rfl))<|N2 rfl rfl ?_ ?_
 refine Bi a fun cn gc a=>BN rfl (.none rfl) rfl rfl (Tv [Sb f.text] rfl)<|Calls.mono (Mf ap gb gc) ?_
 rintro _ jo ⟨gd,rfl,co⟩
 refine ⟨_,rfl,⟨_,(Mo [] co)⟩,?_⟩
 refine Qx ax rfl (v:=.agg [I cn,Sb ([]:List UInt8),Sb ([]:List UInt8),I 0,Cx (((0,0):Nat×Nat)),.slice none 0 0,I f.at_].toArray) (fun _ ⟨_,ar⟩=>GK (cs:=[I cn,Sb ([]:List UInt8),Sb ([]:List UInt8),I 0,Cx (((0,0):Nat×Nat)),.slice none 0 0,I f.at_]) [I 0,Sb ([]:List UInt8),Sb ([]:List UInt8),I 0,Cx (((0,0):Nat×Nat)),.slice none 0 0,I 0] DJ Mc rfl (.cons rfl rfl rfl (.cons rfl rfl rfl .nil)) rfl rfl)<|BW rfl<|DL rfl (.none rfl) rfl rfl (AY gd 23 DJ rfl fun ge jp gf gg dh=>?_)
 refine ⟨⟨_,(Tn (Mo [] co) dh)⟩,?_⟩
 refine E0 dcd<|WY.one<|BT rfl (.none rfl) rfl (St Dd gg rfl rfl rfl rfl fun jq gh gi=>?_)
 refine WY.nil<|⟨_,ge,gf,cn,([]:List UInt8),([]:List UInt8),0,((0,0):Nat×Nat),f.at_,Pu,a,(T3 (Mo [23] cm) co dh gi),gh⟩
 refine DL rfl (.none rfl) rfl rfl (AY ap 23 DJ rfl fun gj gk gl gm cq=>?_)
 refine ⟨⟨_,(Mo [] cq)⟩,?_⟩
 refine BW rfl<|Bi a fun cr gn a=>BN rfl (.none rfl) rfl rfl (Tv [Sb f.text] rfl)<|Calls.mono (Mf gj gk gn) ?_
 rintro _ jr ⟨go,rfl,ct⟩
 refine ⟨_,rfl,⟨_,(Tn (Mo [] cq) ct)⟩,?_⟩
 refine Qx ax rfl (v:=.agg [I cr,Sb ([]:List UInt8),Sb ([]:List UInt8),I 0,Cx (((0,0):Nat×Nat)),.slice none 0 0,I f.at_].toArray) (fun _ ⟨_,ar⟩=>GK (cs:=[I cr,Sb ([]:List UInt8),Sb ([]:List UInt8),I 0,Cx (((0,0):Nat×Nat)),.slice none 0 0,I f.at_]) [I 0,Sb ([]:List UInt8),Sb ([]:List UInt8),I 0,Cx (((0,0):Nat×Nat)),.slice none 0 0,I 0] DJ Mc rfl (.cons rfl rfl rfl (.cons rfl rfl rfl .nil)) rfl rfl)<|E0 dcd<|WY.one<|have gp:=Bs gm ct;BT rfl (.none rfl) rfl (St Dd gp rfl rfl rfl rfl fun js gq gr=>?_)
 refine WY.nil<|⟨_,go,gl,cr,([]:List UInt8),([]:List UInt8),0,((0,0):Nat×Nat),f.at_,Pu,a,(T3 (Mo [23] cm) cq ct gr),gq⟩
 rintro _ a2 ⟨w,ad,a3,g,q,r,aq,s,u,rfl,a,aj,bw⟩
 rw [EM] at a
 refine Au (fun ao a4=>∃(w:Env) (a5:Col) (au:(List AX)) (bx:Option Addr) (bz:Nat) (ba:Int) (bb:Int) (bc:Int) (bd:Int) (be:Int) (bf:Int) (bg:Int) (bh:Int) (af:Int) (aa:(List AD)) (ak:Option Addr) (al:Nat),ao=w.puts [(2,.pointer (some ⟨bn,0,none⟩)),(5,.pointer (some ⟨a3,0,none⟩))]∧FT g q r s u au ba bb bc bd be bf bg bh af aa=some bm∧AO [1,23,24] ad a2 a5 a4∧Slc AW a5.F a4 (Sl bx au bz) au∧Own AJ 56 a5 a4 25 (Sl ak aa al) aa∧Bk a5 a4 1 p [Sl bx au bz,I ba,I bb,I bc,I bd,I be,I bf,I bg,I bh] 126∧Bk a5 a4 23 a3 [I g,Sb q,Sb r,I af,Cx s,Sl ak aa al,I u] 56) ?_ ?_
 refine Sr<|Vx (Run.fieldAddr0 GJ rfl)<|Vx (Run.load1 Kl rfl (Bk.cell bw rfl))<|AA<|Ao<|Sr<|Vr (.bool (g==5))<|Va (.bool (g==5))<|AA<|Cn a (fun gs a=>?_) fun gs a=>?_
 refine AQ<|Vm<|have gt:=Bs cl aj;have gu:=K3 AW a0 z a1 aj;Bi a fun ae gv a=>Ca (RK [Pt p 0] rfl) (IV bl ad a2 gv dcd dcd gt (AM (x:=(AB.mk d.2.marks (Wr (d.2.at_+1)) d.2.why d.2.where_ (Ab.mk d.2.l.text d.2.l.funcs d.2.l.arity d.2.l.nest) d.2.nest)) gu)) ?_
 rintro _ jt ⟨gw,ju,rfl,di,gx,gy⟩
 obtain ⟨jv,rfl,dj⟩:=AS gy
 obtain ⟨gz,g0,rfl⟩:=AI dj
 refine ⟨_,rfl,?_⟩
 refine Vx (Run.fieldAddr Ly rfl)<|have g1:=Bs bw di;Eu (St Vd g1 rfl rfl rfl rfl fun jw g2 cu=>?_)
 refine AA<|have g3:=Ss AW dj cu;have g4:=Bs gx cu;⟨_,gw,ae.2.marks,gz,g0,ae.2.at_,ae.2.why,ae.2.where_,ae.2.l.text,ae.2.l.funcs,ae.2.l.arity,ae.2.l.nest,ae.2.nest,ae.1,([]:List AD),none,0,Pu,a,(Tn (Mo [1,23,24] di) cu),g3,Own.nil,g4,g2⟩
 refine Au (fun ao cv=>∃(w:Env) (b0:Col) (cw:Bool),ao=w.puts [(0,.pointer (some ⟨p,0,none⟩)),(2,.pointer (some ⟨bn,0,none⟩)),(5,.pointer (some ⟨a3,0,none⟩)),(86,.bool cw)]∧B5 a6 d g q r aq s u cw=some bm∧AO [] ad a2 b0 cv) ?_ ?_
 refine Sr<|Vr (.bool (g==14))<|Va (.bool (g==14))<|AA<|Cn a (fun g5 a=>?_) fun g5 a=>?_
 refine WC.skip<|⟨_,ad,(g==14),Pu,a,(AO.refl [] _ _)⟩
 refine Sr<|Vr (.bool (g==15))<|Va (.bool (g==15))<|AA<|Cn a (fun g6 a=>?_) fun g6 a=>?_
 refine WC.skip<|⟨_,ad,(g==15),Pu,a,(AO.refl [] _ _)⟩
 refine Sr<|Vr (.bool (g==16))<|Va (.bool (g==16))<|AA<|Cn a (fun g7 a=>?_) fun g7 a=>?_
 refine WC.skip<|⟨_,ad,(g==16),Pu,a,(AO.refl [] _ _)⟩
 refine AQ<|Vr (.bool (g==17))<|Va (.bool (g==17))<|AA<|⟨_,ad,(g==17),Pu,a,(AO.refl [] _ _)⟩
 rintro _ cv ⟨w,b0,cw,rfl,a,am⟩
 rw [B5] at a
 refine Cn a (fun g8 a=>?_) fun g8 a=>?_
 refine Sr<|Vm<|have g9:=Y2 cl aj am;have ha:=K4 AW a0 z a1 aj am;Bi a fun hb hc a=>Ca (Hx [Pt p 0,Sb ([40]:List UInt8)] rfl) (BF b0 cv hc dcd dcd g9 (AM (x:=(AB.mk d.2.marks (Wr (d.2.at_+1)) d.2.why d.2.where_ (Ab.mk d.2.l.text d.2.l.funcs d.2.l.arity d.2.l.nest) d.2.nest)) ha)) ?_
 rintro _ hd ⟨he,jx,rfl,dk,hf,hg⟩
 obtain ⟨jy,rfl,dl⟩:=AS hg
 obtain ⟨jz,j0,rfl⟩:=AI dl
 refine ⟨_,rfl,?_⟩
 refine AA<|Sr<|Vm<|Bi a fun e hh a=>Ca (MQ [Pt p 0] rfl) (b8.ref04_reader_expr he hd hh dcd dcd hf (AM (x:=hb) dl)) ?_
 rintro _ j1 ⟨hi,j2,j3,rfl,dm,hj,hk,hl⟩
 obtain ⟨j4,rfl,dn⟩:=Am hj
 obtain ⟨b1,b2,rfl⟩:=AI dn
 obtain ⟨j5,rfl,dp⟩:=AS hl
 obtain ⟨j6,j7,rfl⟩:=AI dp
 refine ⟨_,rfl,?_⟩
 refine Ef (AY hi 24 DJ rfl fun hm j8 j9 hn bi=>?_)
 refine have ho:=Ss AJ dn bi;Eu (St Dd hn rfl rfl rfl rfl fun hp hq bj=>?_)
 refine AA<|Sr<|Vm<|have hr:=Y2 hk bi bj;have hs:=K2 AW dp bi bj;Bi a fun ag ht a=>Ca (Hx [Pt p 0,Sb ([41]:List UInt8)] rfl) (BF hm hp ht dcd dcd hr (AM (x:=e.2) hs)) ?_
 rintro _ ka ⟨hu,kb,rfl,b3,hw,hx⟩
 obtain ⟨kc,rfl,dq⟩:=AS hx
 obtain ⟨hy,hz,rfl⟩:=AI dq
 refine ⟨_,rfl,?_⟩
 refine AA<|AQ<|have h0:=Bs hq b3;Vx (Run.loadN BL rfl rfl (Bk.part h0 0 [I e.1.op,Sb e.1.name,Sb e.1.tail,I e.1.type_,Cx e.1.num,Sl b1 e.1.args b2,I e.1.at_] rfl))<|Ef (E1 (cs:=[I e.1.op,Sb e.1.name,Sb e.1.tail,I e.1.type_,Cx e.1.num,Sl b1 e.1.args b2,I e.1.at_]) hu 25 [[I e.1.op,Sb e.1.name,Sb e.1.tail,I e.1.type_,Cx e.1.num,Sl b1 e.1.args b2,I e.1.at_]] Dx DJ rfl rfl (.cons rfl rfl rfl .nil) rfl fun dr h1 b4 h2 bk=>?_)
 refine have h3:=K3 AJ ho bj b3 bk;have ds:Own AJ 56 dr h1 25 (.slice (some ⟨b4,0,none⟩) 1 1) ([e.1]:List AD):=Own.lit (css:=[[I e.1.op,Sb e.1.name,Sb e.1.tail,I e.1.type_,Cx e.1.num,Sl b1 e.1.args b2,I e.1.at_]]) h2 rfl rfl rfl (Aa (Ag (x:=e.1) h3) Ba) (A9 rfl Gg) rfl;Vx (Run.fieldAddr B6 rfl)<|have h4:=Y3 (Y4 bw am dk dm bi) bj b3 bk;Eu (Bf (vs:=[Sl (some ⟨b4,0,none⟩) (([e.1]:List AD)) 1]) (cs':=[I g,Sb q,Sb r,I aq,Cx s,Sl (some ⟨b4,0,none⟩) (([e.1]:List AD)) 1,I u]) Rs rfl rfl rfl rfl (AU (Own.one ds) CI) h4 dcd rfl rfl fun kd h5 b5=>?_)
 refine AA<|have h6:=K2 AW dq bk b5;have h7:=Os ds b5;have h8:=Y2 hw bk b5;⟨_,dr,ag.marks,hy,hz,ag.at_,ag.why,ag.where_,ag.l.text,ag.l.funcs,ag.l.arity,ag.l.nest,ag.nest,aq,([e.1]:List AD),(some ⟨b4,0,none⟩),1,Pu,a,(T3 (T4 (Mo [1,23,24] am) dk dm bi bj) b3 bk b5),h6,h7,h8,h5⟩
 refine WC.skip<|have h9:=K4 AW a0 z a1 aj am;have ia:=Y2 cl aj am;have ib:=Bs bw am;⟨_,b0,d.2.marks,e2,e3,(Wr (d.2.at_+1)),d.2.why,d.2.where_,d.2.l.text,d.2.l.funcs,d.2.l.arity,d.2.l.nest,d.2.nest,aq,([]:List AD),none,0,Pu,a,(Mo [1,23,24] am),h9,Own.nil,ia,ib⟩
 rintro _ a4 ⟨w,a5,au,bx,bz,ba,bb,bc,bd,be,bf,bg,bh,af,aa,ak,al,rfl,a,dt,ic,du,id,ie⟩
 rw [FT] at a
 refine Sr<|Vx (Run.loadN BL rfl rfl (Bk.part ie 0 [I g,Sb q,Sb r,I af,Cx s,Sl ak aa al,I u] rfl))<|have ig:=Y4 (Y4 ay m n o ai) z a1 aj dt;Eu (Bf (vs:=[I g,Sb q,Sb r,I af,Cx s,Sl ak aa al,I u]) (cs':=[I g,Sb q,Sb r,I af,Cx s,Sl ak aa al,I u]) Dd rfl rfl rfl rfl (AU rfl (AU rfl (AU rfl (AU rfl (AU rfl (AU (Own.one du) (AU rfl CI))))))) ig dcd rfl rfl fun ke ih b6=>?_)
 refine AA<|AZ<|have ii:=Os du b6; ?_
 obtain ⟨ij,b7,ik⟩:=Own.freeze (S:=[25]) ii dcd dcd
 obtain rfl:=AP a
 refine have il:=Bs ih b7;A0 (B:=B) aw (BQ rfl (.agg BL rfl rfl (Bk.part il 0 [I g,Sb q,Sb r,I af,Cx s,Sl ak aa al,I u] rfl)) ?_)
 refine have im:=Y2 id b6 b7;have io:=K2 AW ic b6 b7;⟨ij,[I g,Sb q,Sb r,I af,Cx s,Sl ak aa al,I u],[Sl bx au bz,I ba,I bb,I bc,I bd,I be,I bf,I bg,I bh],rfl,Ho (T2 (T4 (T4 (Mo [1,20,21,23,24,25] ah) m n o ai) z a1 aj dt) b6 b7) av,(Ag (x:=(AD.mk g q r af s aa u)) ik),im,(AM (x:=(AB.mk au ba bb bc (Ab.mk bd be bf bg) bh)) io)⟩
theorem Nr(c:AC)(e:Nat)(h:AC.Good c):ref04_reader_unit.Spec (Ci c e):=by
 intro d f a y z aa ab l hnd hnz g m
 refine Calls.mono (Nq c e h (recol (see [a]) d) f (A3 lbr d) l trivial trivial (A1 g [a] (A8 hnd hnz (i:=0) rfl)) (Av Al m [a])) ?_
 rintro ac ad ⟨n,o,p,q,r,s,u,w⟩
 exact ⟨glue [a] f d n,o,p,q,Ah r (DI rfl rfl),BA AJ s,B9 g u dcd,BA Al w⟩
theorem NH(ac:AC)(b0:Nat)(co:AC.Good ac)(bj:Col)(cq:World)(b1:∀b,bj b<10):ref04_reader_named.At True True bj cq (CP ac b0) 1:=by
 intro l cr e5 d e6 aw a _ _ ct cu cv
 rw [CP] at a
 obtain ⟨e7,rfl,b2⟩:=AS cu
 obtain ⟨e8,e9,rfl⟩:=AI b2
 obtain rfl:=Cq cv
 refine A5 Tryz.func162 rfl Tryz.ntmps162 rfl fun B b3 fa=>Sr<|Ef (By bj 20 rfl rfl fun cw fb fc b4 ax=>?_)
 refine Ef (AY cw 21 DJ rfl fun cx cy bk b5 ai=>?_)
 refine AA<|Ac<|Sr<|Vm<|have cz:=Y2 ct ax ai;have c0:=K2 AW b2 ax ai;Bi a fun e c1 a=>Ca (NC [Pt l 0,Sb ([40]:List UInt8)] rfl) (EV cx cy c1 dcd dcd cz (AM (x:=cr) c0)) ?_
 rintro _ fd ⟨b6,fe,rfl,aj,b7,c2⟩
 obtain ⟨ff,rfl,bl⟩:=AS c2
 obtain ⟨b8,b9,rfl⟩:=AI bl
 refine ⟨_,rfl,?_⟩
 refine Vr (.bool (!e.1))<|AA<|Cn a (fun c3 a=>?_) fun c3 a=>?_
 refine Sr<|Vx (Run.fieldAddr Eo rfl)<|have ca:=Y2 b4 ai aj;Vx (Run.load1 De rfl (Bk.cell ca rfl))<|Vx (Run.fieldAddr KR rfl)<|Vx (Run.load1 Be rfl (Bk.cell ca rfl))<|Vx (v:=.agg [I 6,Sb d.text,Sb ([]:List UInt8),I 0,Cx (((0,0):Nat×Nat)),.slice none 0 0,I d.at_].toArray) (Bp DJ Mc rfl (.cons rfl rfl rfl (.cons rfl rfl rfl (.cons rfl rfl rfl .nil))))<|have c4:=Bs b5 aj;Eu (St Dd c4 rfl rfl rfl rfl fun fg c5 bm=>?_)
 refine AA<|AZ ?_
 obtain rfl:=AP a
 refine A0 (B:=B) b3 (BQ rfl (.agg BL rfl rfl (Bk.part c5 0 [I 6,Sb d.text,Sb ([]:List UInt8),I 0,Cx (((0,0):Nat×Nat)),.slice none 0 0,I d.at_] rfl)) ?_)
 refine have c6:=Bs b7 bm;have c7:=Ss AW bl bm;⟨b6,[I 6,Sb d.text,Sb ([]:List UInt8),I 0,Cx (((0,0):Nat×Nat)),.slice none 0 0,I d.at_],[Sl b8 e.2.marks b9,I e.2.at_,I e.2.why,I e.2.where_,I e.2.l.text,I e.2.l.funcs,I e.2.l.arity,I e.2.l.nest,I e.2.nest],rfl,Ho (T3 (Mo [1,21] ax) ai aj bm) b1,(Ag (x:=(AD.mk 6 d.text ([]:List UInt8) 0 ((0,0):Nat×Nat) [] d.at_)) Cd),c6,(AM (x:=e.2) c7)⟩
 refine WC.skip<|Sr<|Vx (Run.fieldAddr Eo rfl)<|have cb:=Y2 b4 ai aj;Vx (Run.load1 De rfl (Bk.cell cb rfl))<|Vx (Run.fieldAddr KR rfl)<|Vx (Run.load1 Be rfl (Bk.cell cb rfl))<|Vx (v:=.agg [I 7,Sb d.text,Sb ([]:List UInt8),I 0,Cx (((0,0):Nat×Nat)),.slice none 0 0,I d.at_].toArray) (Bp DJ Mc rfl (.cons rfl rfl rfl (.cons rfl rfl rfl (.cons rfl rfl rfl .nil))))<|Ef (AY b6 22 DJ rfl fun cc fh ay c8 az=>?_)
 refine Eu (St Dd c8 rfl rfl rfl rfl fun c9 da a0=>?_)
 refine AA<|Ac<|Ao<|CZ (fun ad ap ae=>∃(af:Env) (o:Col) (h:(List AX)) (a1:Option Addr) (a2:Nat) (p:Int) (m:Int) (q:Int) (r:Int) (u:Int) (w:Int) (y:Int) (z:Int) (f:(List AD)) (ag:Option Addr) (ah:Nat),ap=af.puts [(0,.pointer (some ⟨l,0,none⟩)),(4,.pointer (some ⟨bk,0,none⟩)),(5,.pointer (some ⟨ay,0,none⟩))]∧BP ac d ad h p m q r u w y z f=some aw∧AO [1,22,23,25] cc c9 o ae∧Slc AW o.F ae (Sl a1 h a2) h∧Own AJ 56 o ae 25 (Sl ag f ah) f∧Bk o ae 1 l [Sl a1 h a2,I p,I m,I q,I r,I u,I w,I y,I z] 126∧Bk o ae 22 ay [I 7,Sb d.text,Sb ([]:List UInt8),I 0,Cx (((0,0):Nat×Nat)),Sl ag f ah,I d.at_] 56) b0 ?_ ?_
 refine have db:=K2 AW bl az a0;have dc:=Y2 b7 az a0;⟨_,cc,e.2.marks,b8,b9,e.2.at_,e.2.why,e.2.where_,e.2.l.text,e.2.l.funcs,e.2.l.arity,e.2.l.nest,e.2.nest,([]:List AD),none,0,Pu,a,(AO.refl [1,22,23,25] _ _),db,Own.nil,dc,da⟩
 rintro ad _ ae ⟨af,o,h,a1,a2,p,m,q,r,u,w,y,z,f,ag,ah,rfl,a,bn,a3,bo,aq,bp⟩
 rcases ad with _|ad
 exact BK a
 refine have a:CM ac d (BP ac d ad) h p m q r u w y z f=some aw:=a; ?_
 obtain ⟨cd,cf⟩:∃s,s=BP ac d ad:=⟨_,rfl⟩
 rw [←cf,CM] at a
 refine Ac<|Au (fun ap ar=>∃(af:Env) (ak:Col) (bq:Bool),ap=af.puts [(0,.pointer (some ⟨l,0,none⟩)),(4,.pointer (some ⟨bk,0,none⟩)),(5,.pointer (some ⟨ay,0,none⟩)),(29,.bool bq)]∧DB ac d h p m q r u w y z f cd bq=some aw∧AO [] o ae ak ar) ?_ ?_
 refine AQ<|Vm<|Vx (Run.nilCheck rfl)<|Vx (Run.fieldAddr H3 rfl)<|Vx (Run.load1 Be rfl (Bk.cell aq rfl))<|Vr (.bool (m==0))<|Vm<|Bo a (fun aa a=>?_) fun aa a=>?_
 refine Gm aa<|Bi a fun cg de a=>Bx (.guard (t:=true) (b:=true) rfl rfl rfl rfl (Cb aa)) rfl rfl (KE [Pt l 0,Sb ([41]:List UInt8)] rfl)<|Calls.mono (CX o ae de dcd dcd aq (AM (x:=(AB.mk h p m q (Ab.mk r u w y) z)) a3)) ?_
 rintro _ fi ⟨df,rfl,dg⟩
 refine ⟨_,rfl,?_⟩
 refine Gr aa (.bool (!cg))<|Vp aa<|AA<|⟨_,df,(!cg),Pu,a,(Mo [] dg)⟩
 refine Pg aa<|Pg aa<|Pg aa<|Vp aa<|AA<|⟨_,o,false,Pu,a,(AO.refl [] _ _)⟩
 rintro _ ar ⟨af,ak,bq,rfl,a,g⟩
 rw [DB] at a
 refine Cn a (fun dh a=>?_) fun dh a=>?_
 refine WC.skip<|Ao<|Au (fun ap au=>∃(af:Env) (av:Col) (al:(List AX)) (br:Option Addr) (bt:Nat) (a4:Int) (a5:Int) (a6:Int) (a7:Int) (a8:Int) (a9:Int) (ba:Int) (bb:Int),ap=af.puts [(0,.pointer (some ⟨l,0,none⟩)),(4,.pointer (some ⟨bk,0,none⟩)),(5,.pointer (some ⟨ay,0,none⟩))]∧DA ac f cd al a4 a5 a6 a7 a8 a9 ba bb=some aw∧AO [1] ak ar av au∧Slc AW av.F au (Sl br al bt) al∧Bk av au 1 l [Sl br al bt,I a4,I a5,I a6,I a7,I a8,I a9,I ba,I bb] 126) ?_ ?_
 refine Sr<|Vx (Run.fieldAddr B6 rfl)<|have di:=Bs bp g;Vx (Run.load1 Ez rfl (Bk.cell di rfl))<|have dj:=Os bo g; ?_
 obtain ⟨fj,fk,dk⟩:=Own.len dj
 refine Vx (v:=I (f.length:Int)) (Run.lenSlc Dx dk)<|Vr (.bool (decide ((f.length:Int)>0)))<|AA<|Cn a (fun dl a=>?_) fun dl a=>?_
 refine AQ<|Vm<|have dm:=Bs aq g;have dn:=Ss AW a3 g;Bi a fun ab dp a=>Ca (Hx [Pt l 0,Sb ([44]:List UInt8)] rfl) (BF ak ar dp dcd dcd dm (AM (x:=(AB.mk h p m q (Ab.mk r u w y) z)) dn)) ?_
 rintro _ fl ⟨dq,fm,rfl,dr,ds,dt⟩
 obtain ⟨fn,rfl,ch⟩:=AS dt
 obtain ⟨du,dv,rfl⟩:=AI ch
 refine ⟨_,rfl,?_⟩
 refine AA<|⟨_,dq,ab.marks,du,dv,ab.at_,ab.why,ab.where_,ab.l.text,ab.l.funcs,ab.l.arity,ab.l.nest,ab.nest,Pu,a,(Mo [1] dr),ch,ds⟩
 refine WC.skip<|have dw:=Ss AW a3 g;have dx:=Bs aq g;⟨_,ak,h,a1,a2,p,m,q,r,u,w,y,z,Pu,a,(AO.refl [1] _ _),dw,dx⟩
 rintro _ au ⟨af,av,al,br,bt,a4,a5,a6,a7,a8,a9,ba,bb,rfl,a,bu,dy,dz⟩
 rw [DA] at a
 refine Sr<|Vm<|Bi a fun c d0 a=>Ca (MQ [Pt l 0] rfl) (co.ref04_reader_expr av au d0 dcd dcd dz (AM (x:=(AB.mk al a4 a5 a6 (Ab.mk a7 a8 a9 ba) bb)) dy)) ?_
 rintro _ fo ⟨d1,fp,fq,rfl,bv,d2,d3,d4⟩
 obtain ⟨fr,rfl,ci⟩:=Am d2
 obtain ⟨bc,bd,rfl⟩:=AI ci
 obtain ⟨fs,rfl,cj⟩:=AS d4
 obtain ⟨d5,d6,rfl⟩:=AI cj
 refine ⟨_,rfl,?_⟩
 refine Ef (AY d1 23 DJ rfl fun d7 ft fu d8 am=>?_)
 refine have d9:=Ss AJ ci am;Eu (St Dd d8 rfl rfl rfl rfl fun fv ea an=>?_)
 refine AA<|AQ<|Vx (Run.fieldAddr B6 rfl)<|have ck:=Bs (Y4 bp g bu bv am) an;Vx (Run.load1 Ez rfl (Bk.cell ck rfl))<|Vx (Run.loadN BL rfl rfl (Bk.part ea 0 [I c.1.op,Sb c.1.name,Sb c.1.tail,I c.1.type_,Cx c.1.num,Sl bc c.1.args bd,I c.1.at_] rfl))<|Ef (E1 (cs:=[I c.1.op,Sb c.1.name,Sb c.1.tail,I c.1.type_,Cx c.1.num,Sl bc c.1.args bd,I c.1.at_]) d7 24 [[I c.1.op,Sb c.1.name,Sb c.1.tail,I c.1.type_,Cx c.1.num,Sl bc c.1.args bd,I c.1.at_]] Dx DJ rfl rfl (.cons rfl rfl rfl .nil) rfl fun eb ec ed ee ao=>?_)
 refine have ef:=K2 AJ d9 an ao;have eg:Own AJ 56 eb ec 24 (.slice (some ⟨ed,0,none⟩) 1 1) ([c.1]:List AD):=Own.lit (css:=[[I c.1.op,Sb c.1.name,Sb c.1.tail,I c.1.type_,Cx c.1.num,Sl bc c.1.args bd,I c.1.at_]]) ee rfl rfl rfl (Aa (Ag (x:=c.1) ef) Ba) (A9 rfl Gg) rfl;have eh:=Os (Os (Os (Os (Os (Os bo g) bu) bv) am) an) ao;Bi a fun fw cl a=>Ef (Ey (κ:=AJ) rfl rfl eh dcd XR (F3 eg) (JP cl) (Js cl) fun fx ei fy bw be=>?_)
 obtain ⟨bx,bz,rfl⟩:=Own.len bw
 refine Vx (Run.fieldAddr B6 rfl)<|have ej:=Y2 ck ao be;Eu (Bf (vs:=[Sl bx ((f++([c.1]:List AD))) bz]) (cs':=[I 7,Sb d.text,Sb ([]:List UInt8),I 0,Cx (((0,0):Nat×Nat)),Sl bx ((f++([c.1]:List AD))) bz,I d.at_]) Rs rfl rfl rfl rfl (AU (Own.one bw) CI) ej dcd rfl rfl fun fz ek bf=>?_)
 refine AA<|have el:=Ss AW (K4 AW cj am an ao be) bf;have em:=Os bw bf;have en:=Bs (Y4 d3 am an ao be) bf;⟨ad,Nat.lt_succ_self ad,_,ei,c.2.marks,d5,d6,c.2.at_,c.2.why,c.2.where_,c.2.l.text,c.2.l.funcs,c.2.l.arity,c.2.l.nest,c.2.nest,(f++([c.1]:List AD)),bx,bz,Pu,(cf▸a),(T4 (T4 (Mo [1,22,23,25] bn) g bu bv am) an ao be bf),el,em,en,ek⟩
 refine CF<|Sr<|Vm<|have eo:=Bs aq g;have ep:=Ss AW a3 g;Bi a fun n eq a=>Ca (Hx [Pt l 0,Sb ([41]:List UInt8)] rfl) (BF ak ar eq dcd dcd eo (AM (x:=(AB.mk h p m q (Ab.mk r u w y) z)) ep)) ?_
 rintro _ f0 ⟨f1,f2,rfl,bg,er,es⟩
 obtain ⟨f3,rfl,cm⟩:=AS es
 obtain ⟨et,eu,rfl⟩:=AI cm
 refine ⟨_,rfl,?_⟩
 refine AA<|Sr<|have ew:=Y2 bp g bg;Vx (Run.loadN BL rfl rfl (Bk.part ew 0 [I 7,Sb d.text,Sb ([]:List UInt8),I 0,Cx (((0,0):Nat×Nat)),Sl ag f ah,I d.at_] rfl))<|have ex:=Y2 (Y4 b5 aj az a0 bn) g bg;have cn:=Os (Os bo g) bg;Eu (Bf (vs:=[I 7,Sb d.text,Sb ([]:List UInt8),I 0,Cx (((0,0):Nat×Nat)),Sl ag f ah,I d.at_]) (cs':=[I 7,Sb d.text,Sb ([]:List UInt8),I 0,Cx (((0,0):Nat×Nat)),Sl ag f ah,I d.at_]) Dd rfl rfl rfl rfl (AU rfl (AU rfl (AU rfl (AU rfl (AU rfl (AU (Own.one cn) (AU rfl CI))))))) ex dcd rfl rfl fun f4 ey bh=>?_)
 refine AA<|AZ<|have ez:=Os cn bh; ?_
 obtain ⟨e0,bi,e1⟩:=Own.freeze (S:=[25]) ez dcd dcd
 obtain rfl:=AP a
 refine have e2:=Bs ey bi;A0 (B:=B) b3 (BQ rfl (.agg BL rfl rfl (Bk.part e2 0 [I 7,Sb d.text,Sb ([]:List UInt8),I 0,Cx (((0,0):Nat×Nat)),Sl ag f ah,I d.at_] rfl)) ?_)
 refine have e3:=Y2 er bh bi;have e4:=K2 AW cm bh bi;⟨e0,[I 7,Sb d.text,Sb ([]:List UInt8),I 0,Cx (((0,0):Nat×Nat)),Sl ag f ah,I d.at_],[Sl et n.marks eu,I n.at_,I n.why,I n.where_,I n.l.text,I n.l.funcs,I n.l.arity,I n.l.nest,I n.nest],rfl,Ho (Tn (T4 (T4 (Mo [1,21,22,23,25] ax) ai aj az a0) bn g bg bh) bi) b1,(Ag (x:=(AD.mk 7 d.text ([]:List UInt8) 0 ((0,0):Nat×Nat) f d.at_)) e1),e3,(AM (x:=n) e4)⟩
theorem NI(c:AC)(e:Nat)(h:AC.Good c):ref04_reader_named.Spec (CP c e):=by
 intro d f a z aa ab ac ad ae l hnd hnz g m n
 refine Calls.mono (NH c e h (recol (see [a]) d) f (A3 lbr d) l trivial trivial (A1 g [a] (A8 hnd hnz (i:=0) rfl)) (Av Al m [a]) (Av AW n [a])) ?_
 rintro af ag ⟨o,p,q,r,s,u,w,y⟩
 exact ⟨glue [a] f d o,p,q,r,Ah s (DI rfl rfl),BA AJ u,B9 g w dcd,BA Al y⟩
theorem AC.good:∀d,AC.Good (AC.at d)
 |0=>⟨by intro a c;intros;(try intro _);intros;exact BK (by assumption),by intro a c;intros;(try intro _);intros;exact BK (by assumption),by intro a c;intros;(try intro _);intros;exact BK (by assumption),by intro a c;intros;(try intro _);intros;exact BK (by assumption),by intro a c;intros;(try intro _);intros;exact BK (by assumption),by intro a c;intros;(try intro _);intros;exact BK (by assumption),by intro a c;intros;(try intro _);intros;exact BK (by assumption),by intro a c;intros;(try intro _);intros;exact BK (by assumption),by intro a c;intros;(try intro _);intros;exact BK (by assumption)⟩
 |n+1=>⟨Ni _ n (AC.good n),Nk _ n (AC.good n),NG _ n (AC.good n),MD _ n (AC.good n),Nn _ n (AC.good n),ON _ n (AC.good n),Np _ n (AC.good n),Nr _ n (AC.good n),NI _ n (AC.good n)⟩
theorem OO(a:Nat):ref04_reader_expr.Spec (ref04_reader_expr a):=(AC.good a).ref04_reader_expr
def CU.At(G1 G2:Prop)(e:Col)(a:World)(f:AB→Int→Option (AK×AB))(g:Nat):Prop:=
 ∀{h:Nat} {m:AB} {n:List Value} {o:Int} {l:AK×AB},f m o=some l→G1→G2→Bk e a g h n 126→Al.rep e.F a n m→
  Calls Tryz.prog 74 #[Pt h 0,I o] a fun r c=>∃(d:Col) (p:List Value) (q:List Value),r=.returned (.agg p.toArray)∧AO [g] e a d c∧AL.rep d.F c p l.1∧Bk d c g h q 126∧Al.rep d.F c q l.2
def CU.Spec(f:AB→Int→Option (AK×AB)):Prop:=
 ∀(c:Col) (d:World) {a:Nat},CU.At ([a].Nodup) (0∉[a]) c d f a
theorem OP(u:Nat)(c8:Col)(es:World)(et:∀b,c8 b<10):CU.At True True c8 es (CU u) 1:=by
 intro e w jj dz ay a _ _ c9 eu
 rw [CU] at a
 obtain ⟨jk,rfl,b3⟩:=AS eu
 obtain ⟨ew,ex,rfl⟩:=AI b3
 refine A5 Tryz.func74 rfl Tryz.ntmps74 rfl fun B ey c=>Sr<|Ef (AY c8 20 L3 rfl fun da db a2 ez a3=>?_)
 refine AA<|Au (fun y bl=>∃(n:Env) (bm:Col) (bd:(List AX)) (dc:Option Addr) (de:Nat) (b4:Int) (x63:Int) (b5:Int) (b6:Int) (b7:Int) (b8:Int) (b9:Int) (ca:Int),y=n.puts [(0,.pointer (some ⟨e,0,none⟩)),(4,.pointer (some ⟨a2,0,none⟩))]∧Dn u bd b4 x63 b5 b6 b7 b8 b9 ca=some ay∧AO [1] da db bm bl∧Slc AW bm.F bl (Sl dc bd de) bd∧Bk bm bl 1 e [Sl dc bd de,I b4,I x63,I b5,I b6,I b7,I b8,I b9,I ca] 126) ?_ ?_
 refine Au (fun y df=>∃(n:Env) (cb:Col) (dg:Bool),y=n.puts [(0,.pointer (some ⟨e,0,none⟩)),(4,.pointer (some ⟨a2,0,none⟩)),(21,.bool dg)]∧Do u w dg=some ay∧AO [] da db cb df) ?_ ?_
 refine AQ<|Vm<|have d0:=Bs c9 a3;have e0:=Ss AW b3 a3;Bi a fun be e1 a=>Ca (LR [Pt e 0] rfl) (B7 da db e1 dcd dcd d0 (AM (x:=w) e0)) ?_
 rintro _ jl ⟨d1,jm,rfl,dh,e2⟩
 obtain rfl:=Cq e2
 refine ⟨_,rfl,?_⟩
 refine Vx (v:=I be.kind) (KK (cs:=[I be.kind,Sb be.text,Cx be.num,I be.at_]) P9 rfl rfl)<|Vr (.bool (be.kind==0))<|Vm<|Bo a (fun q a=>?_) fun q a=>?_
 refine Gm q<|Gm q<|Gx q (Run.nilCheck rfl)<|Gx q (Run.fieldAddr P7 rfl)<|Gx q (Run.fieldAddr XW rfl)<|have e3:=Bs d0 dh;Gx q (Run.load1 Be rfl (Bk.cell e3 rfl))<|Gr q (.bool (decide (dz≥w.l.funcs)))<|Vp q<|AA<|⟨_,d1,(decide (dz≥w.l.funcs)),Pu,a,(Mo [] dh)⟩
 refine Pg q<|Pg q<|Pg q<|Pg q<|Pg q<|Pg q<|Pg q<|Vp q<|AA<|⟨_,d1,false,Pu,a,(Mo [] dh)⟩
 rintro _ df ⟨n,cb,dg,rfl,a,bf⟩
 rw [Do] at a
 refine Cn a (fun e4 a=>?_) fun e4 a=>?_
 refine AQ<|Vm<|have e5:=Y2 c9 a3 bf;have e6:=K2 AW b3 a3 bf;Bi a fun ae e7 a=>Ca (NA [Pt e 0,I 22] rfl) (EU cb df e7 dcd dcd e5 (AM (x:=w) e6)) ?_
 rintro _ jn ⟨e8,jo,rfl,e9,fa,fb⟩
 obtain ⟨jp,rfl,d2⟩:=AS fb
 obtain ⟨fc,fd,rfl⟩:=AI d2
 refine ⟨_,rfl,?_⟩
 refine AA<|⟨_,e8,ae.marks,fc,fd,ae.at_,ae.why,ae.where_,ae.l.text,ae.l.funcs,ae.l.arity,ae.l.nest,ae.nest,Pu,a,(Tn (Mo [1] bf) e9),d2,fa⟩
 refine WC.skip<|have fe:=K2 AW b3 a3 bf;have ff:=Y2 c9 a3 bf;⟨_,cb,w.marks,ew,ex,w.at_,w.why,w.where_,w.l.text,w.l.funcs,w.l.arity,w.l.nest,w.nest,Pu,a,(Mo [1] bf),fe,ff⟩
 rintro _ bl ⟨n,bm,bd,dc,de,b4,x63,b5,b6,b7,b8,b9,ca,rfl,a,d3,fg,fh⟩
 rw [Dn] at a
 refine Sr<|Vm<|Bi a fun l fi a=>Ca (PR [Pt e 0] rfl) (HA bm bl fi dcd dcd fh (AM (x:=(AB.mk bd b4 x63 b5 (Ab.mk b6 b7 b8 b9) ca)) fg)) ?_
 rintro _ jq ⟨fj,jr,js,rfl,d4,fk,fl,fm⟩
 obtain rfl:=Cq fk
 obtain ⟨jt,rfl,d5⟩:=AS fm
 obtain ⟨ju,jv,rfl⟩:=AI d5
 refine ⟨_,rfl,?_⟩
 refine Ef (AY fj 21 F0 rfl fun fn jw jx fo cc=>?_)
 refine Eu (St GC fo rfl rfl rfl rfl fun jy d6 cd=>?_)
 refine AA<|Sr<|Vx (Run.fieldAddr Eo rfl)<|Vx (Run.load1 De rfl (Bk.cell d6 rfl))<|Vx (Run.fieldAddr KR rfl)<|Vx (Run.load1 Be rfl (Bk.cell d6 rfl))<|Vx (v:=.agg [Sb l.1.text,.slice none 0 0,I 0,I 0,Sb ([]:List UInt8),Sb ([]:List UInt8),I 0,Cx (((0,0):Nat×Nat)),.slice none 0 0,I 0,I l.1.at_].toArray) (Bp L3 AAi rfl (.cons rfl rfl rfl (.cons rfl rfl rfl .nil)))<|Ef (AY fn 22 L3 rfl fun fp jz a4 fq cf=>?_)
 refine Eu (St ND fq rfl rfl rfl rfl fun fr fs cg=>?_)
 refine AA<|Sr<|Vm<|have ft:=Y4 fl cc cd cf cg;have fu:=K4 AW d5 cc cd cf cg;Bi a fun af fv a=>Ca (Hx [Pt e 0,Sb ([40]:List UInt8)] rfl) (BF fp fr fv dcd dcd ft (AM (x:=l.2) fu)) ?_
 rintro _ fw ⟨d7,j0,rfl,di,fx,fy⟩
 obtain ⟨j1,rfl,d8⟩:=AS fy
 obtain ⟨fz,f0,rfl⟩:=AI d8
 refine ⟨_,rfl,?_⟩
 refine AA<|Ac<|Ao<|CZ (fun az y a0=>∃(n:Env) (ag:Col) (z:(List AX)) (ch:Option Addr) (ci:Nat) (ah:Int) (ac:Int) (ai:Int) (aj:Int) (ak:Int) (al:Int) (am:Int) (an:Int) (g:(List AH)) (ao:Option Addr) (ap:Nat),y=n.puts [(0,.pointer (some ⟨e,0,none⟩)),(4,.pointer (some ⟨a2,0,none⟩)),(6,.pointer (some ⟨a4,0,none⟩))]∧BO u l az z ah ac ai aj ak al am an g=some ay∧AO [1,22,23,25] d7 fw ag a0∧Slc AW ag.F a0 (Sl ch z ci) z∧Own Ai 87 ag a0 25 (Sl ao g ap) g∧Bk ag a0 1 e [Sl ch z ci,I ah,I ac,I ai,I aj,I ak,I al,I am,I an] 126∧Bk ag a0 22 a4 [Sb l.1.text,Sl ao g ap,I 0,I 0,Sb ([]:List UInt8),Sb ([]:List UInt8),I 0,Cx (((0,0):Nat×Nat)),.slice none 0 0,I 0,I l.1.at_] 58) u ?_ ?_
 refine have f1:=Bs fs di;⟨_,d7,af.marks,fz,f0,af.at_,af.why,af.where_,af.l.text,af.l.funcs,af.l.arity,af.l.nest,af.nest,([]:List AH),none,0,Pu,a,(AO.refl [1,22,23,25] _ _),d8,Own.nil,fx,f1⟩
 rintro az _ a0 ⟨n,ag,z,ch,ci,ah,ac,ai,aj,ak,al,am,an,g,ao,ap,rfl,a,dj,cj,ck,bn,cl⟩
 rcases az with _|az
 exact BK a
 refine have a:Cv u l (BO u l az) z ah ac ai aj ak al am an g=some ay:=a; ?_
 obtain ⟨cm,d9⟩:∃s,s=BO u l az:=⟨_,rfl⟩
 rw [←d9,Cv] at a
 refine Ac<|Au (fun y bo=>∃(n:Env) (bg:Col) (dk:Bool),y=n.puts [(0,.pointer (some ⟨e,0,none⟩)),(4,.pointer (some ⟨a2,0,none⟩)),(6,.pointer (some ⟨a4,0,none⟩)),(42,.bool dk)]∧DG u l z ah ac ai aj ak al am an g cm dk=some ay∧AO [] ag a0 bg bo) ?_ ?_
 refine AQ<|Vm<|Vx (Run.nilCheck rfl)<|Vx (Run.fieldAddr H3 rfl)<|Vx (Run.load1 Be rfl (Bk.cell bn rfl))<|Vr (.bool (ac==0))<|Vm<|Bo a (fun aq a=>?_) fun aq a=>?_
 refine Gm aq<|Bi a fun ea f2 a=>Bx (.guard (t:=true) (b:=true) rfl rfl rfl rfl (Cb aq)) rfl rfl (KE [Pt e 0,Sb ([41]:List UInt8)] rfl)<|Calls.mono (CX ag a0 f2 dcd dcd bn (AM (x:=(AB.mk z ah ac ai (Ab.mk aj ak al am) an)) cj)) ?_
 rintro _ j2 ⟨f3,rfl,f4⟩
 refine ⟨_,rfl,?_⟩
 refine Gr aq (.bool (!ea))<|Vp aq<|AA<|⟨_,f3,(!ea),Pu,a,(Mo [] f4)⟩
 refine Pg aq<|Pg aq<|Pg aq<|Vp aq<|AA<|⟨_,ag,false,Pu,a,(AO.refl [] _ _)⟩
 rintro _ bo ⟨n,bg,dk,rfl,a,r⟩
 rw [DG] at a
 refine Cn a (fun f5 a=>?_) fun f5 a=>?_
 refine WC.skip<|Ao<|Au (fun y bh=>∃(n:Env) (ar:Col) (au:(List AX)) (cn:Option Addr) (co:Nat) (a5:Int) (av:Int) (a6:Int) (a7:Int) (a8:Int) (aa:Int) (a9:Int) (ba:Int),y=n.puts [(0,.pointer (some ⟨e,0,none⟩)),(4,.pointer (some ⟨a2,0,none⟩)),(6,.pointer (some ⟨a4,0,none⟩))]∧Dm u g cm au a5 av a6 a7 a8 aa a9 ba=some ay∧AO [1] bg bo ar bh∧Slc AW ar.F bh (Sl cn au co) au∧Bk ar bh 1 e [Sl cn au co,I a5,I av,I a6,I a7,I a8,I aa,I a9,I ba] 126) ?_ ?_
 refine Sr<|Vx (Run.fieldAddr Io rfl)<|have f6:=Bs cl r;Vx (Run.load1 HY rfl (Bk.cell f6 rfl))<|have f7:=Os ck r; ?_
 obtain ⟨j3,j4,f8⟩:=Own.len f7
 refine Vx (v:=I (g.length:Int)) (Run.lenSlc G9 f8)<|Vr (.bool (decide ((g.length:Int)>0)))<|AA<|Cn a (fun f9 a=>?_) fun f9 a=>?_
 refine AQ<|Vm<|have ga:=Bs bn r;have gb:=Ss AW cj r;Bi a fun aw gc a=>Ca (Hx [Pt e 0,Sb ([44]:List UInt8)] rfl) (BF bg bo gc dcd dcd ga (AM (x:=(AB.mk z ah ac ai (Ab.mk aj ak al am) an)) gb)) ?_
 rintro _ j5 ⟨gd,j6,rfl,ge,gf,gg⟩
 obtain ⟨j7,rfl,eb⟩:=AS gg
 obtain ⟨gh,gi,rfl⟩:=AI eb
 refine ⟨_,rfl,?_⟩
 refine AA<|⟨_,gd,aw.marks,gh,gi,aw.at_,aw.why,aw.where_,aw.l.text,aw.l.funcs,aw.l.arity,aw.l.nest,aw.nest,Pu,a,(Mo [1] ge),eb,gf⟩
 refine WC.skip<|have gj:=Ss AW cj r;have gk:=Bs bn r;⟨_,bg,z,ch,ci,ah,ac,ai,aj,ak,al,am,an,Pu,a,(AO.refl [1] _ _),gj,gk⟩
 rintro _ bh ⟨n,ar,au,cn,co,a5,av,a6,a7,a8,aa,a9,ba,rfl,a,bp,dl,dm⟩
 rw [Dm] at a
 refine Au (fun y bq=>∃(n:Env) (br:Col) (bi:(List AX)) (dn:Option Addr) (dp:Nat) (cq:Int) (cr:Int) (ct:Int) (cu:Int) (cv:Int) (cw:Int) (cx:Int) (cy:Int),y=n.puts [(0,.pointer (some ⟨e,0,none⟩)),(4,.pointer (some ⟨a2,0,none⟩)),(6,.pointer (some ⟨a4,0,none⟩))]∧Dl u g cm bi cq cr ct cu cv cw cx cy=some ay∧AO [1] ar bh br bq∧Slc AW br.F bq (Sl dn bi dp) bi∧Bk br bq 1 e [Sl dn bi dp,I cq,I cr,I ct,I cu,I cv,I cw,I cx,I cy] 126) ?_ ?_
 refine Au (fun y dq=>∃(n:Env) (cz:Col) (dr:Bool),y=n.puts [(0,.pointer (some ⟨e,0,none⟩)),(4,.pointer (some ⟨a2,0,none⟩)),(6,.pointer (some ⟨a4,0,none⟩)),(70,.bool dr)]∧DF u g cm au a5 av a6 a7 a8 aa a9 ba dr=some ay∧AO [] ar bh cz dq) ?_ ?_
 refine Cc Ff (.q 0 (.q 1 (.q 2 (.q 3 (.q 4 (.q 5 (.q 6 (.one 7 (.q 8 (.q 9 (.q 10 (.q 11 (.q 12 (.q 13 (.q 14 (.q 15 (.q 16 (.q 17 (.q 18 (.q 19 (.q 20 (.q 21 .nil)))))))))))))))))))))) [] [] ar (by kernel_rfl) fun gl bb=>Qx c rfl (v:=Pt e 0) (fun _ ⟨_,f⟩=>Run.move rfl)<|Qx c rfl (fun _ ⟨_,f⟩=>Run.nilCheck rfl)<|Qx c rfl (fun _ ⟨_,f⟩=>Run.fieldAddr H3 rfl)<|have ds:=Bs dm bb;Qx c rfl (fun _ ⟨_,f⟩=>Run.load1 Be rfl (Bk.cell (Bs ds f) rfl))<|Qx c rfl (v:=.bool (av==0)) (fun _ ⟨_,f⟩=>rfl)<|Qx c rfl (v:=.bool (av==0)) (fun _ ⟨_,f⟩=>Run.move rfl)<|Bo a (fun ab a=>?_) fun ab a=>?_
 refine BC (fun _ _ _ _ h=>c _ _ _ _ h) rfl rfl (.guard (t:=true) (b:=true) rfl rfl rfl rfl (Cb ab)) rfl rfl (v:=Pt e 0) (fun _ ⟨_,f⟩=>Run.move rfl)<|BW rfl<|have gm:=Ss AW dl bb;Bi a fun a1 gn a=>BN rfl (.guard (t:=true) (b:=true) rfl rfl rfl rfl (Cb ab)) rfl rfl (LR [Pt e 0] rfl)<|Calls.mono (B7 ar gl gn dcd dcd ds (AM (x:=(AB.mk au a5 av a6 (Ab.mk a7 a8 aa a9) ba)) gm)) ?_
 rintro _ j8 ⟨ec,j9,rfl,dt,go⟩
 obtain rfl:=Cq go
 refine ⟨_,rfl,⟨_,(Mo [] dt)⟩,?_⟩
 refine BC (fun _ _ _ _ h=>c _ _ _ _ h) rfl rfl (.guard (t:=true) (b:=true) rfl rfl rfl rfl (Cb ab)) rfl rfl (v:=I a1.kind) (fun _ ⟨_,f⟩=>KK (cs:=[I a1.kind,Sb a1.text,Cx a1.num,I a1.at_]) P9 rfl rfl)<|BC (fun _ _ _ _ h=>c _ _ _ _ h) rfl rfl (.guard (t:=true) (b:=true) rfl rfl rfl rfl (Cb ab)) rfl rfl (v:=.bool (a1.kind==0)) (fun _ ⟨_,f⟩=>rfl)<|Qx c rfl (v:=.bool (a1.kind==0)) (fun _ ⟨_,f⟩=>(Pk ab))<|Qx c rfl (v:=.bool (a1.kind==0)) (fun _ ⟨_,f⟩=>Run.move rfl)<|Bo a (fun m a=>?_) fun m a=>?_
 refine BC (fun _ _ _ _ h=>c _ _ _ _ h) rfl rfl (.guard (t:=true) (b:=true) rfl rfl rfl rfl (Cb m)) rfl rfl (v:=Pt a4 1) (fun _ ⟨_,f⟩=>Run.fieldAddr Io rfl)<|BC (fun _ _ _ _ h=>c _ _ _ _ h) rfl rfl (.guard (t:=true) (b:=true) rfl rfl rfl rfl (Cb m)) rfl rfl (v:=Sl ao g ap) (fun _ ⟨_,f⟩=>Run.load1 HY rfl (Bk.cell (Y4 cl r bp bb f) rfl)) ?_
 obtain ⟨ka,kb,gp⟩:=Own.len (Os (Os (Os ck r) bp) bb)
 refine BC (fun _ _ _ _ h=>c _ _ _ _ h) rfl rfl (.guard (t:=true) (b:=true) rfl rfl rfl rfl (Cb m)) rfl rfl (v:=I (g.length:Int)) (fun _ ⟨_,f⟩=>Run.lenSlc G9 gp)<|BC (fun _ _ _ _ h=>c _ _ _ _ h) rfl rfl (.guard (t:=true) (b:=true) rfl rfl rfl rfl (Cb m)) rfl rfl (v:=Pt e 0) (fun _ ⟨_,f⟩=>Run.move rfl)<|BC (fun _ _ _ _ h=>c _ _ _ _ h) rfl rfl (.guard (t:=true) (b:=true) rfl rfl rfl rfl (Cb m)) rfl rfl (v:=Pt e 0) (fun _ ⟨_,f⟩=>Run.nilCheck rfl)<|BC (fun _ _ _ _ h=>c _ _ _ _ h) rfl rfl (.guard (t:=true) (b:=true) rfl rfl rfl rfl (Cb m)) rfl rfl (v:=Pt e 4) (fun _ ⟨_,f⟩=>Run.fieldAddr P7 rfl)<|BC (fun _ _ _ _ h=>c _ _ _ _ h) rfl rfl (.guard (t:=true) (b:=true) rfl rfl rfl rfl (Cb m)) rfl rfl (v:=Pt e 6) (fun _ ⟨_,f⟩=>Run.fieldAddr XX rfl)<|BC (fun _ _ _ _ h=>c _ _ _ _ h) rfl rfl (.guard (t:=true) (b:=true) rfl rfl rfl rfl (Cb m)) rfl rfl (v:=I aa) (fun _ ⟨_,f⟩=>Run.load1 Be rfl (Bk.cell (Bs ds f) rfl))<|BC (fun _ _ _ _ h=>c _ _ _ _ h) rfl rfl (.guard (t:=true) (b:=true) rfl rfl rfl rfl (Cb m)) rfl rfl (v:=.bool (decide ((g.length:Int)≥aa))) (fun _ ⟨_,f⟩=>rfl)<|Qx c rfl (v:=.bool (decide ((g.length:Int)≥aa))) (fun _ ⟨_,f⟩=>(Pk m))<|Ex<|⟨_,ec,(decide ((g.length:Int)≥aa)),Pu,a,(Tn (Mo [] bb) dt)⟩
 refine Qp c rfl m<|Qp c rfl m<|Qp c rfl m<|Qp c rfl m<|Qp c rfl m<|Qp c rfl m<|Qp c rfl m<|Qp c rfl m<|Qp c rfl m<|Qx c rfl (v:=.bool false) (fun _ ⟨_,f⟩=>(Pk m))<|Ex<|⟨_,ec,false,Pu,a,(Tn (Mo [] bb) dt)⟩
 refine Qp c rfl ab<|BW rfl<|Oc rfl (.guard (t:=false) (b:=true) rfl rfl rfl rfl (Cb ab)) rfl rfl<|⟨⟨_,(AO.refl [] _ _)⟩,?_⟩
 refine Qp c rfl ab<|Qp c rfl ab<|Qx c rfl (v:=.bool false) (fun _ ⟨_,f⟩=>(Pk ab))<|Qx c rfl (v:=.bool false) (fun _ ⟨_,f⟩=>Run.move rfl)<|Qp c rfl rfl<|Qp c rfl rfl<|Qp c rfl rfl<|Qp c rfl rfl<|Qp c rfl rfl<|Qp c rfl rfl<|Qp c rfl rfl<|Qp c rfl rfl<|Qp c rfl rfl<|Qx c rfl (v:=.bool false) (fun _ ⟨_,f⟩=>rfl)<|Ex<|⟨_,ar,false,Pu,a,(Mo [] bb)⟩
 rintro _ dq ⟨n,cz,dr,rfl,a,bj⟩
 rw [DF] at a
 refine Cn a (fun gq a=>?_) fun gq a=>?_
 refine AQ<|Vm<|have gr:=Bs dm bj;have gs:=Ss AW dl bj;Bi a fun ax gt a=>Ca (NA [Pt e 0,I 22] rfl) (EU cz dq gt dcd dcd gr (AM (x:=(AB.mk au a5 av a6 (Ab.mk a7 a8 aa a9) ba)) gs)) ?_
 rintro _ kc ⟨gu,kd,rfl,gv,gw,gx⟩
 obtain ⟨ke,rfl,ed⟩:=AS gx
 obtain ⟨gy,gz,rfl⟩:=AI ed
 refine ⟨_,rfl,?_⟩
 refine AA<|⟨_,gu,ax.marks,gy,gz,ax.at_,ax.why,ax.where_,ax.l.text,ax.l.funcs,ax.l.arity,ax.l.nest,ax.nest,Pu,a,(Tn (Mo [1] bj) gv),ed,gw⟩
 refine WC.skip<|have g0:=Ss AW dl bj;have g1:=Bs dm bj;⟨_,cz,au,cn,co,a5,av,a6,a7,a8,aa,a9,ba,Pu,a,(Mo [1] bj),g0,g1⟩
 rintro _ bq ⟨n,br,bi,dn,dp,cq,cr,ct,cu,cv,cw,cx,cy,rfl,a,du,g2,g3⟩
 rw [Dl] at a
 refine Sr<|Vm<|Bi a fun o g4 a=>Ca (PR [Pt e 0] rfl) (HA br bq g4 dcd dcd g3 (AM (x:=(AB.mk bi cq cr ct (Ab.mk cu cv cw cx) cy)) g2)) ?_
 rintro _ kf ⟨g5,kg,kh,rfl,dv,g6,g7,g8⟩
 obtain rfl:=Cq g6
 obtain ⟨ki,rfl,ee⟩:=AS g8
 obtain ⟨kj,kk,rfl⟩:=AI ee
 refine ⟨_,rfl,?_⟩
 refine Ef (AY g5 23 F0 rfl fun g9 kl km ha bt=>?_)
 refine Eu (St GC ha rfl rfl rfl rfl fun hb hc bu=>?_)
 refine AA<|Sr<|Vm<|have hd:=Y2 g7 bt bu;have he:=K2 AW ee bt bu;Bi a fun p hf a=>Ca (RK [Pt e 0] rfl) (IV u g9 hb hf dcd dcd hd (AM (x:=o.2) he)) ?_
 rintro _ kn ⟨hg,ko,rfl,c0,hh,hi⟩
 obtain ⟨kp,rfl,ef⟩:=AS hi
 obtain ⟨hj,hk,rfl⟩:=AI ef
 refine ⟨_,rfl,?_⟩
 refine Va (I p.1)<|AA<|AQ<|Vx (Run.fieldAddr Io rfl)<|have eg:=Y3 (Y4 cl r bp du dv) bt bu c0;Vx (Run.load1 HY rfl (Bk.cell eg rfl))<|Vx (Run.fieldAddr Eo rfl)<|have eh:=Bs hc c0;Vx (Run.load1 De rfl (Bk.cell eh rfl))<|Vm<|Vx (Run.fieldAddr KR rfl)<|Vx (Run.load1 Be rfl (Bk.cell eh rfl))<|Vx (v:=.agg [Sb o.1.text,I p.1,I o.1.at_].toArray) (Bp LU Ru rfl (.cons rfl rfl rfl (.cons rfl rfl rfl (.cons rfl rfl rfl .nil))))<|Ef (E1 (cs:=[Sb o.1.text,I p.1,I o.1.at_]) hg 24 [[Sb o.1.text,I p.1,I o.1.at_]] G9 LU rfl rfl (.cons rfl rfl rfl .nil) rfl fun hl hm hn ho bv=>?_)
 refine have hp:Own Ai 87 hl hm 24 (.slice (some ⟨hn,0,none⟩) 1 1) ([(AH.mk o.1.text p.1 o.1.at_)]:List AH):=Own.lit (css:=[[Sb o.1.text,I p.1,I o.1.at_]]) ho rfl rfl rfl (Aa (KU (x:=(AH.mk o.1.text p.1 o.1.at_))) Ba) (A9 rfl Gg) rfl;have hq:=Os (Os (Os (Os (Os (Os (Os (Os ck r) bp) du) dv) bt) bu) c0) bv;Bi a fun kq ei a=>Ef (Ey (κ:=Ai) rfl rfl hq dcd Rm (F3 hp) (JP ei) (Js ei) fun kr hr ks dw c1=>?_)
 obtain ⟨dx,dy,rfl⟩:=Own.len dw
 refine Vx (Run.fieldAddr Io rfl)<|have hs:=Y2 eg bv c1;Eu (Bf (vs:=[Sl dx ((g++([(AH.mk o.1.text p.1 o.1.at_)]:List AH))) dy]) (cs':=[Sb l.1.text,Sl dx ((g++([(AH.mk o.1.text p.1 o.1.at_)]:List AH))) dy,I 0,I 0,Sb ([]:List UInt8),Sb ([]:List UInt8),I 0,Cx (((0,0):Nat×Nat)),.slice none 0 0,I 0,I l.1.at_]) OE rfl rfl rfl rfl (AU (Own.one dw) CI) hs dcd rfl rfl fun kt ht c2=>?_)
 refine AA<|have hu:=K3 AW ef bv c1 c2;have hw:=Os dw c2;have hx:=Y3 hh bv c1 c2;⟨az,Nat.lt_succ_self az,_,hr,p.2.marks,hj,hk,p.2.at_,p.2.why,p.2.where_,p.2.l.text,p.2.l.funcs,p.2.l.arity,p.2.l.nest,p.2.nest,(g++([(AH.mk o.1.text p.1 o.1.at_)]:List AH)),dx,dy,Pu,(d9▸a),(T2 (T4 (T4 (Mo [1,22,23,25] dj) r bp du dv) bt bu c0 bv) c1 c2),hu,hw,hx,ht⟩
 refine CF<|Sr<|Vm<|have hy:=Bs bn r;have hz:=Ss AW cj r;Bi a fun h0 h1 a=>Ca (Hx [Pt e 0,Sb ([41]:List UInt8)] rfl) (BF bg bo h1 dcd dcd hy (AM (x:=(AB.mk z ah ac ai (Ab.mk aj ak al am) an)) hz)) ?_
 rintro _ h2 ⟨h3,ku,rfl,c3,h4,h5⟩
 obtain ⟨kv,rfl,ej⟩:=AS h5
 obtain ⟨kw,kx,rfl⟩:=AI ej
 refine ⟨_,rfl,?_⟩
 refine AA<|Sr<|Vm<|Bi a fun h6 h7 a=>Ca (Hx [Pt e 0,Sb ([58]:List UInt8)] rfl) (BF h3 h2 h7 dcd dcd h4 (AM (x:=h0) ej)) ?_
 rintro _ h8 ⟨h9,ky,rfl,c4,ia,ib⟩
 obtain ⟨kz,rfl,ek⟩:=AS ib
 obtain ⟨k0,k1,rfl⟩:=AI ek
 refine ⟨_,rfl,?_⟩
 refine AA<|Sr<|Vm<|Bi a fun bc ic a=>Ca (RK [Pt e 0] rfl) (IV u h9 h8 ic dcd dcd ia (AM (x:=h6) ek)) ?_
 rintro _ k2 ⟨id,k3,rfl,c5,ie,ig⟩
 obtain ⟨k4,rfl,el⟩:=AS ig
 obtain ⟨k5,k6,rfl⟩:=AI el
 refine ⟨_,rfl,?_⟩
 refine Vx (Run.fieldAddr Ro rfl)<|have ih:=Y4 cl r c3 c4 c5;Eu (St Vd ih rfl rfl rfl rfl fun ii ij bw=>?_)
 refine AA<|Sr<|Vm<|have ik:=Bs ie bw;have il:=Ss AW el bw;Bi a fun im io a=>Ca (Hx [Pt e 0,Sb ([61]:List UInt8)] rfl) (BF id ii io dcd dcd ik (AM (x:=bc.2) il)) ?_
 rintro _ ip ⟨iq,k7,rfl,c6,ir,it⟩
 obtain ⟨k8,rfl,em⟩:=AS it
 obtain ⟨k9,la,rfl⟩:=AI em
 refine ⟨_,rfl,?_⟩
 refine AA<|Sr<|Vm<|Bi a fun d iu a=>Ca (MQ [Pt e 0] rfl) (OO u iq ip iu dcd dcd ir (AM (x:=im) em)) ?_
 rintro _ lb ⟨iv,lc,ld,rfl,c7,iw,ix,iy⟩
 obtain ⟨le,rfl,en⟩:=Am iw
 obtain ⟨bx,bz,rfl⟩:=AI en
 obtain ⟨lf,rfl,eo⟩:=AS iy
 obtain ⟨lg,lh,rfl⟩:=AI eo
 refine ⟨_,rfl,?_⟩
 refine Vx (Run.fieldAddr OA rfl)<|have iz:=Y2 ij c6 c7;Eu (St Dd iz rfl rfl rfl rfl fun i0 i1 bk=>?_)
 refine AA<|Sr<|Vm<|have i2:=Bs ix bk;have i3:=Ss AW eo bk;Bi a fun ad i4 a=>Ca (Hx [Pt e 0,Sb ([59]:List UInt8)] rfl) (BF iv i0 i4 dcd dcd i2 (AM (x:=d.2) i3)) ?_
 rintro _ li ⟨lj,lk,rfl,b0,i5,i6⟩
 obtain ⟨ll,rfl,ep⟩:=AS i6
 obtain ⟨i7,i8,rfl⟩:=AI ep
 refine ⟨_,rfl,?_⟩
 refine AA<|Sr<|have i9:=Bs i1 b0;Vx (Run.loadN M9 rfl rfl (Bk.part i9 0 [Sb l.1.text,Sl ao g ap,I bc.1,I d.1.op,Sb d.1.name,Sb d.1.tail,I d.1.type_,Cx d.1.num,Sl bx d.1.args bz,I d.1.at_,I l.1.at_] rfl))<|have ja:=Bs (Y4 (Y4 (Y4 (Y4 ez d3 d4 cc cd) cf cg di dj) r c3 c4 c5) bw c6 c7 bk) b0;have eq:=Os (Os (Os (Os (Os (Os (Os (Os (Os ck r) c3) c4) c5) bw) c6) c7) bk) b0;have er:=K2 AJ en bk b0;Eu (Bf (vs:=[Sb l.1.text,Sl ao g ap,I bc.1,I d.1.op,Sb d.1.name,Sb d.1.tail,I d.1.type_,Cx d.1.num,Sl bx d.1.args bz,I d.1.at_,I l.1.at_]) (cs':=[Sb l.1.text,Sl ao g ap,I bc.1,I d.1.op,Sb d.1.name,Sb d.1.tail,I d.1.type_,Cx d.1.num,Sl bx d.1.args bz,I d.1.at_,I l.1.at_]) ND rfl rfl rfl rfl (AU rfl (AU (Own.one eq) (AU rfl (AU rfl (AU rfl (AU rfl (AU rfl (AU rfl (AU (FK er) (AU rfl (AU rfl CI))))))))))) ja dcd rfl rfl fun lm jb b1=>?_)
 refine AA<|AZ<|have jc:=Os eq b1; ?_
 obtain ⟨jd,b2,je⟩:=Own.freeze (S:=[25]) jc dcd dcd
 obtain rfl:=AP a
 refine have jf:=Bs jb b2;A0 (B:=B) ey (BQ rfl (.agg M9 rfl rfl (Bk.part jf 0 [Sb l.1.text,Sl ao g ap,I bc.1,I d.1.op,Sb d.1.name,Sb d.1.tail,I d.1.type_,Cx d.1.num,Sl bx d.1.args bz,I d.1.at_,I l.1.at_] rfl)) ?_)
 refine have jg:=K2 AJ er b1 b2;have jh:=Y2 i5 b1 b2;have ji:=K2 AW ep b1 b2;⟨jd,[Sb l.1.text,Sl ao g ap,I bc.1,I d.1.op,Sb d.1.name,Sb d.1.tail,I d.1.type_,Cx d.1.num,Sl bx d.1.args bz,I d.1.at_,I l.1.at_],[Sl i7 ad.marks i8,I ad.at_,I ad.why,I ad.where_,I ad.l.text,I ad.l.funcs,I ad.l.arity,I ad.l.nest,I ad.nest],rfl,Ho (T3 (T4 (T4 (T4 (T4 (Mo [1,20,21,22,23,25] a3) d3 d4 cc cd) cf cg di dj) r c3 c4 c5) bw c6 c7 bk) b0 b1 b2) et,(Qa (x:=(AK.mk l.1.text g bc.1 d.1 l.1.at_)) je jg),jh,(AM (x:=ad) ji)⟩
theorem Oq(d:Nat):CU.Spec (CU d):=by
 intro c e a u w y z aa g hnd hnz f h
 refine Calls.mono (OP d (recol (see [a]) c) e (A3 lbr c) g trivial trivial (A1 f [a] (A8 hnd hnz (i:=0) rfl)) (Av Al h [a])) ?_
 rintro ab ac ⟨l,m,n,o,p,q,r,s⟩
 exact ⟨glue [a] e c l,m,n,o,Ah p (DI rfl rfl),BA AL q,B9 f r dcd,BA Al s⟩
def Bd.At(G1 G2:Prop)(e:Col)(a:World)(f:AB→Option (AN×AB))(g:Nat):Prop:=
 ∀{h:Nat} {m:AB} {n:List Value} {l:AN×AB},f m=some l→G1→G2→Bk e a g h n 126→Al.rep e.F a n m→
  Calls Tryz.prog 48 #[Pt h 0] a fun q c=>∃(d:Col) (o:List Value) (p:List Value),q=.returned (.agg o.toArray)∧AO [g] e a d c∧Cp.rep d.F c o l.1∧Bk d c g h p 126∧Al.rep d.F c p l.2
def Bd.Spec(f:AB→Option (AN×AB)):Prop:=
 ∀(c:Col) (d:World) {a:Nat},Bd.At ([a].Nodup) (0∉[a]) c d f a
theorem Mg(z:Nat)(ay:Col)(bq:World)(br:∀b,ay b<10):Bd.At True True ay bq (Bd z) 1:=by
 intro ai n di az c _ _ bt bu
 rw [Bd] at c
 obtain ⟨dj,rfl,be⟩:=AS bu
 obtain ⟨bv,bw,rfl⟩:=AI be
 refine A5 Tryz.func48 rfl Tryz.ntmps48 rfl fun B bx dk=>Sr<|Ef (AY ay 20 I4 rfl fun bz dl bf b0 a0=>?_)
 refine AA<|Sr<|Ef (AY bz 21 I4 rfl fun bg b1 a1 b2 ak=>?_)
 refine AA<|Ac<|Ao<|CZ (fun aa a2 ab=>∃(aj:Env) (l:Col) (f:(List AX)) (al:Option Addr) (am:Nat) (o:Int) (m:Int) (p:Int) (q:Int) (r:Int) (u:Int) (w:Int) (y:Int) (d:(List AK)) (ac:Option Addr) (ad:Nat),a2=aj.puts [(0,.pointer (some ⟨ai,0,none⟩)),(2,.pointer (some ⟨bf,0,none⟩)),(3,.pointer (some ⟨a1,0,none⟩))]∧BI z aa f o m p q r u w y d=some az∧AO [1,21,22,24] bg b1 l ab∧Slc AW l.F ab (Sl al f am) f∧Own AL 58 l ab 24 (Sl ac d ad) d∧Bk l ab 1 ai [Sl al f am,I o,I m,I p,I q,I r,I u,I w,I y] 126∧Bk l ab 21 a1 [Sl ac d ad] 28) z ?_ ?_
 refine have b3:=K2 AW be a0 ak;have b4:=Y2 bt a0 ak;⟨_,bg,n.marks,bv,bw,n.at_,n.why,n.where_,n.l.text,n.l.funcs,n.l.arity,n.l.nest,n.nest,([]:List AK),none,0,Pu,c,(AO.refl [1,21,22,24] _ _),b3,Own.nil,b4,b2⟩
 rintro aa _ ab ⟨aj,l,f,al,am,o,m,p,q,r,u,w,y,d,ac,ad,rfl,c,a3,a4,a5,an,a6⟩
 rcases aa with _|aa
 exact BK c
 refine have c:Bw z (BI z aa) f o m p q r u w y d=some az:=c; ?_
 obtain ⟨b5,bh⟩:∃s,s=BI z aa:=⟨_,rfl⟩
 rw [←bh,Bw] at c
 refine Ac<|Au (fun a2 a7=>∃(aj:Env) (a8:Col) (a9:Bool),a2=aj.puts [(0,.pointer (some ⟨ai,0,none⟩)),(2,.pointer (some ⟨bf,0,none⟩)),(3,.pointer (some ⟨a1,0,none⟩)),(21,.bool a9)]∧Bn z f o m p q r u w y d b5 a9=some az∧AO [] l ab a8 a7) ?_ ?_
 refine AQ<|Vm<|Vx (Run.nilCheck rfl)<|Vx (Run.fieldAddr H3 rfl)<|Vx (Run.load1 Be rfl (Bk.cell an rfl))<|Vr (.bool (m==0))<|Vm<|Bo c (fun e c=>?_) fun e c=>?_
 refine Gx e (Run.fieldAddr0 IC rfl)<|Gx e (Run.load1 Ji rfl (Bk.cell a6 rfl)) ?_
 obtain ⟨dm,dn,b6⟩:=Own.len a5
 refine Gx e (v:=I (d.length:Int)) (Run.lenSlc I3 b6)<|Gr e (.bool ((d.length:Int)==0))<|Gm e<|Bo c (fun g c=>?_) fun g c=>?_
 refine Pg g<|Pg g<|Pg g<|Pg g<|Gp e g<|Vp e<|AA<|⟨_,l,true,Pu,c,(AO.refl [] _ _)⟩
 refine Gm g<|Bi c fun ae b7 c=>Bx (.guard (t:=false) (b:=false) rfl rfl rfl rfl (Cb g)) rfl rfl (LR [Pt ai 0] rfl)<|Calls.mono (B7 l ab b7 dcd dcd an (AM (x:=(AB.mk f o m p (Ab.mk q r u w) y)) a4)) ?_
 rintro _ dp ⟨b8,dq,rfl,b9,ca⟩
 obtain rfl:=Cq ca
 refine ⟨_,rfl,?_⟩
 refine Gx g (v:=I ae.kind) (KK (cs:=[I ae.kind,Sb ae.text,Cx ae.num,I ae.at_]) P9 rfl rfl)<|Gr g (.bool (ae.kind != 4))<|Gp e g<|Vp e<|AA<|⟨_,b8,(ae.kind != 4),Pu,c,(Mo [] b9)⟩
 refine Pg e<|Pg e<|Pg e<|Pg e<|Pg e<|Po<|Po<|Po<|Po<|Pg e<|Vp e<|AA<|⟨_,l,false,Pu,c,(AO.refl [] _ _)⟩
 rintro _ a7 ⟨aj,a8,a9,rfl,c,h⟩
 rw [Bn] at c
 refine Cn c (fun cb c=>?_) fun cb c=>?_
 refine WC.skip<|Ao<|Sr<|Vm<|Vx (Run.fieldAddr0 IC rfl)<|have bi:=Bs a6 h;Vx (Run.load1 Ji rfl (Bk.cell bi rfl))<|have bj:=Os a5 h; ?_
 obtain ⟨dr,ds,cc⟩:=Own.len bj
 refine Vx (v:=I (d.length:Int)) (Run.lenSlc I3 cc)<|have cd:=Bs an h;have cf:=Ss AW a4 h;Bi c fun a cg c=>Ca (AAL [Pt ai 0,I (d.length:Int)] rfl) (Oq z a8 a7 cg dcd dcd cd (AM (x:=(AB.mk f o m p (Ab.mk q r u w) y)) cf)) ?_
 rintro _ dt ⟨ch,du,dv,rfl,ba,ci,cj,ck⟩
 obtain ⟨dw,dx,rfl,bk,bl⟩:=F4 ci
 obtain ⟨ao,ap,rfl⟩:=AI bk
 obtain ⟨aq,ar,rfl⟩:=AI bl
 obtain ⟨dy,rfl,bm⟩:=AS ck
 obtain ⟨cl,cm,rfl⟩:=AI bm
 refine ⟨_,rfl,?_⟩
 refine Ef (AY ch 22 L3 rfl fun cn dz d0 co af=>?_)
 refine have cq:=Ss Ai bk af;have cr:=Ss AJ bl af;Eu (St ND co rfl rfl rfl rfl fun d1 ct ag=>?_)
 refine AA<|AQ<|Vx (Run.fieldAddr0 IC rfl)<|have bn:=Y3 bi ba af ag;Vx (Run.load1 Ji rfl (Bk.cell bn rfl))<|Vx (Run.loadN M9 rfl rfl (Bk.part ct 0 [Sb a.1.name,Sl ao a.1.params ap,I a.1.type_,I a.1.body.op,Sb a.1.body.name,Sb a.1.body.tail,I a.1.body.type_,Cx a.1.body.num,Sl aq a.1.body.args ar,I a.1.body.at_,I a.1.at_] rfl))<|Ef (E1 (cs:=[Sb a.1.name,Sl ao a.1.params ap,I a.1.type_,I a.1.body.op,Sb a.1.body.name,Sb a.1.body.tail,I a.1.body.type_,Cx a.1.body.num,Sl aq a.1.body.args ar,I a.1.body.at_,I a.1.at_]) cn 23 [[Sb a.1.name,Sl ao a.1.params ap,I a.1.type_,I a.1.body.op,Sb a.1.body.name,Sb a.1.body.tail,I a.1.body.type_,Cx a.1.body.num,Sl aq a.1.body.args ar,I a.1.body.at_,I a.1.at_]] I3 L3 rfl rfl (.cons rfl rfl rfl .nil) rfl fun cu cv cw cx ah=>?_)
 refine have cy:=K2 Ai cq ag ah;have cz:=K2 AJ cr ag ah;have c0:Own AL 58 cu cv 23 (.slice (some ⟨cw,0,none⟩) 1 1) ([a.1]:List AK):=Own.lit (css:=[[Sb a.1.name,Sl ao a.1.params ap,I a.1.type_,I a.1.body.op,Sb a.1.body.name,Sb a.1.body.tail,I a.1.body.type_,Cx a.1.body.num,Sl aq a.1.body.args ar,I a.1.body.at_,I a.1.at_]]) cx rfl rfl rfl (Aa (Qa (x:=a.1) cy cz) Ba) (A9 rfl Gg) rfl;have c1:=Os (Os (Os (Os bj ba) af) ag) ah;Bi c fun d2 bo c=>Ef (Ey (κ:=AL) rfl rfl c1 dcd AAZ (F3 c0) (JP bo) (Js bo) fun d3 c2 d4 bb au=>?_)
 obtain ⟨bc,bd,rfl⟩:=Own.len bb
 refine Vx (Run.fieldAddr0 IC rfl)<|have c3:=Y2 bn ah au;Eu (Bf (vs:=[Sl bc ((d++([a.1]:List AK))) bd]) (cs':=[Sl bc ((d++([a.1]:List AK))) bd]) AAb rfl rfl rfl rfl (AU (Own.one bb) CI) c3 dcd rfl rfl fun d5 c4 av=>?_)
 refine AA<|have c5:=Ss AW (K4 AW bm af ag ah au) av;have c6:=Os bb av;have c7:=Bs (Y4 cj af ag ah au) av;⟨aa,Nat.lt_succ_self aa,_,c2,a.2.marks,cl,cm,a.2.at_,a.2.why,a.2.where_,a.2.l.text,a.2.l.funcs,a.2.l.arity,a.2.l.nest,a.2.nest,(d++([a.1]:List AK)),bc,bd,Pu,(bh▸c),(T3 (T4 (Mo [1,21,22,24] a3) h ba af ag) ah au av),c5,c6,c7,c4⟩
 refine CF<|Sr<|have c8:=Bs a6 h;Vx (Run.loadN JI rfl rfl (Bk.part c8 0 [Sl ac d ad] rfl))<|have c9:=Y3 b0 ak a3 h;have bp:=Os a5 h;Eu (Bf (vs:=[Sl ac d ad]) (cs':=[Sl ac d ad]) Hz rfl rfl rfl rfl (AU (Own.one bp) CI) c9 dcd rfl rfl fun d6 da aw=>?_)
 refine AA<|AZ<|have db:=Os bp aw; ?_
 obtain ⟨dc,ax,de⟩:=Own.freeze (S:=[24]) db dcd dcd
 obtain rfl:=AP c
 refine have df:=Bs da ax;A0 (B:=B) bx (BQ rfl (.agg JI rfl rfl (Bk.part df 0 [Sl ac d ad] rfl)) ?_)
 refine have dg:=Y3 an h aw ax;have dh:=K3 AW a4 h aw ax;⟨dc,[Sl ac d ad],[Sl al f am,I o,I m,I p,I q,I r,I u,I w,I y],rfl,Ho (Tn (T4 (Mo [1,20,21,22,24] a0) ak a3 h aw) ax) br,(CA (x:=(AN.mk d)) de),dg,(AM (x:=(AB.mk f o m p (Ab.mk q r u w) y)) dh)⟩
theorem Mx(d:Nat):Bd.Spec (Bd d):=by
 intro c e a u w y z g hnd hnz f h
 refine Calls.mono (Mg d (recol (see [a]) c) e (A3 lbr c) g trivial trivial (A1 f [a] (A8 hnd hnz (i:=0) rfl)) (Av Al h [a])) ?_
 rintro aa ab ⟨l,m,n,o,p,q,r,s⟩
 exact ⟨glue [a] e c l,m,n,o,Ah p (DI rfl rfl),BA Cp q,B9 f r dcd,BA Al s⟩
def E4.At(c:Col)(a:World)(f:Bts→Ab→Option (AN×AE)):Prop:=
 ∀{h:Bts} {v0:Value} {l:Ab} {m:List Value} {d:AN×AE},f h l=some d→Slc Kd.u8 c.F a v0 h→Kw.rep c.F a m l→
  Calls Tryz.prog 26 #[v0,.agg m.toArray] a fun o e=>∃(g:Col) (n:List Value) (u1:List Value),o=.returned (.tuple #[.agg n.toArray,.agg u1.toArray])∧AO [] c a g e∧Cp.rep g.F e n d.1∧Aq.rep g.F e u1 d.2
def E4.Spec(f:Bts→Ab→Option (AN×AE)):Prop:=
 ∀(a:Col) (c:World),E4.At a c f
theorem Q0(ad:Nat)(ae:Col)(a5:World)(u:∀b,ae b<10):E4.At ae a5 (E4 ad):=by
 intro af v0 a cm cn c ar a6
 rw [E4] at c
 obtain ⟨a7,a8,rfl⟩:=AI ar
 obtain rfl:=JF a6
 refine A5 Tryz.func26 rfl Tryz.ntmps26 rfl fun B w f=>Sr<|Ef (By ae 20 rfl rfl fun a9 co cq ba s=>?_)
 refine Ef (AY a9 21 I4 rfl fun bb cr ct y q=>?_)
 refine Ef (AY bb 22 Is rfl fun ag cu cv z l=>?_)
 refine AA<|Sr<|Vx (Run.fieldAddr0 PY rfl)<|have au:=Y2 ba q l;Vx (Run.load1 Be rfl (Bk.cell au rfl))<|Vx (v:=I (if a.text<0 then 0 else a.text)) (Run.max rfl rfl)<|Vx (v:=I (if 32768< (if a.text<0 then 0 else a.text) then 32768 else (if a.text<0 then 0 else a.text))) (Run.min rfl rfl)<|Vx (Run.fieldAddr0 PY rfl)<|Eu (St Lz au rfl rfl rfl rfl fun bc ah g=>?_)
 refine AA<|Ac<|Sr<|Vm<|have av:=K4 Kd.u8 ar s q l g; ?_
 obtain ⟨cw,cx,bd⟩:=AI av
 refine Vx (v:=I (af.length:Int)) (Run.lenSlc G8 bd)<|Vx (Run.fieldAddr0 PY rfl)<|Vx (Run.load1 Be rfl (Bk.cell ah rfl))<|Vr (.bool (decide ((af.length:Int)>(if 32768< (if a.text<0 then 0 else a.text) then 32768 else (if a.text<0 then 0 else a.text)))))<|AA<|Cn c (fun be c=>?_) fun be c=>?_
 refine Ac<|Cc Ff (.q 0 (.q 1 (.q 2 (.q 3 (.one 4 (.one 5 .nil)))))) [5] [21] ag (by kernel_rfl) fun cy aa=>Qx f rfl (v:=.agg [.slice none 0 0].toArray) (fun _ ⟨_,d⟩=>GK (cs:=[.slice none 0 0]) [.slice none 0 0] I4 Vf rfl .nil rfl rfl)<|Qx f rfl (fun _ ⟨_,d⟩=>Run.fieldAddr0 PY rfl)<|have bf:=Bs ah aa;Qx f rfl (fun _ ⟨_,d⟩=>Run.load1 Be rfl (Bk.cell (Bs bf d) rfl))<|Qx f rfl (v:=.agg [I 22,I (if 32768< (if a.text<0 then 0 else a.text) then 32768 else (if a.text<0 then 0 else a.text))].toArray) (fun _ ⟨_,d⟩=>GK (cs:=[I 22,I (if 32768< (if a.text<0 then 0 else a.text) then 32768 else (if a.text<0 then 0 else a.text))]) [I 0,I 0] Is QC rfl (.cons rfl rfl rfl (.cons rfl rfl rfl .nil)) rfl rfl)<|BW rfl<|have bg:=Y3 y l g aa;BT rfl (.none rfl) rfl (St Hz bg rfl rfl rfl rfl fun cz bh ai=>?_)
 refine ⟨⟨_,(Mo [21] ai)⟩,?_⟩
 refine E0 dcd<|WY.one<|have bi:=Y3 z g aa ai;BT rfl (.none rfl) rfl (St H0 bi rfl rfl rfl rfl fun c0 bj aw=>?_)
 refine WY.nil<|AZ ?_
 obtain rfl:=AP c
 refine have bk:=Bs bh aw;A0 (B:=B) w (D4 rfl (.agg JI rfl rfl (Bk.part bk 0 [.slice none 0 0] rfl)) (.agg Mb rfl rfl (Bk.part bj 0 [I 22,I (if 32768< (if a.text<0 then 0 else a.text) then 32768 else (if a.text<0 then 0 else a.text))] rfl)) ?_)
 exact ⟨ag,[.slice none 0 0],[I 22,I (if 32768< (if a.text<0 then 0 else a.text) then 32768 else (if a.text<0 then 0 else a.text))],rfl,Ho (T2 (T4 (Mo [20,21,22] s) q l g aa) ai aw) u,(CA (x:=(AN.mk [])) Cd),(Aj (x:=(AE.mk 22 (if 32768< (if a.text<0 then 0 else a.text) then 32768 else (if a.text<0 then 0 else a.text)))))⟩
 refine WC.skip<|Sr<|Vm<|Bi c fun h bl c=>Ca (AAC [Sl a7 af a8] rfl) (R2 ad ag bc bl av) ?_
 rintro _ c1 ⟨ax,c2,rfl,m,ay⟩
 obtain ⟨aj,ak,rfl⟩:=AI ay
 refine ⟨_,rfl,?_⟩
 refine Vm<|Vr (Sl aj h.1 ak)<|Vr (I h.2)<|Va (Sl aj h.1 ak)<|Va (I h.2)<|AA<|Ac<|Sr<|Vm<|Vr (.bool (decide (h.2≥0)))<|AA<|Cn c (fun bm c=>?_) fun bm c=>?_
 refine Sr<|Vx (v:=.agg [.slice none 0 0].toArray) (Bp I4 Vf rfl .nil)<|Vm<|Vx (v:=.agg [I 20,I h.2].toArray) (Bp Is QC rfl (.cons rfl rfl rfl (.cons rfl rfl rfl .nil)))<|have bn:=Y3 y l g m;Eu (St Hz bn rfl rfl rfl rfl fun c3 bo az=>?_)
 refine have bp:=Y3 z g m az;Eu (St H0 bp rfl rfl rfl rfl fun c4 bq a0=>?_)
 refine AA<|AZ ?_
 obtain rfl:=AP c
 refine have br:=Bs bo a0;A0 (B:=B) w (D4 rfl (.agg JI rfl rfl (Bk.part br 0 [.slice none 0 0] rfl)) (.agg Mb rfl rfl (Bk.part bq 0 [I 20,I h.2] rfl)) ?_)
 exact ⟨ax,[.slice none 0 0],[I 20,I h.2],rfl,Ho (T2 (T4 (Mo [20,21,22] s) q l g m) az a0) u,(CA (x:=(AN.mk [])) Cd),(Aj (x:=(AE.mk 20 h.2)))⟩
 refine WC.skip<|Sr<|Vm<|have bt:=Bs ah m;Vx (Run.loadN XH rfl rfl (Bk.part bt 0 [I (if 32768< (if a.text<0 then 0 else a.text) then 32768 else (if a.text<0 then 0 else a.text)),I a.funcs,I a.arity,I a.nest] rfl))<|Vx (v:=.agg [Sl aj h.1 ak,I 0,I 0,I 0,I (if 32768< (if a.text<0 then 0 else a.text) then 32768 else (if a.text<0 then 0 else a.text)),I a.funcs,I a.arity,I a.nest,I 0].toArray) (Bp ZF ZC rfl (.cons rfl rfl rfl (.cons rfl rfl rfl .nil)))<|Ef (By ax 23 rfl rfl fun bu bv ab bw p=>?_)
 refine Va (Pt ab 0)<|AA<|Sr<|Vm<|have bx:=Ss AW ay p;Bi c fun e bz c=>Ca (AAD [Pt ab 0] rfl) (Mx ad bu bv bz dcd dcd bw (AM (x:=(AB.mk h.1 0 0 0 (Ab.mk (if 32768< (if a.text<0 then 0 else a.text) then 32768 else (if a.text<0 then 0 else a.text)) a.funcs a.arity a.nest) 0)) bx)) ?_
 rintro _ c5 ⟨b0,c6,c7,rfl,r,b1,b2,b3⟩
 obtain ⟨c8,rfl,a1⟩:=Bl b1
 obtain ⟨al,am,rfl⟩:=AI a1
 obtain ⟨c9,rfl,b4⟩:=AS b3
 obtain ⟨da,db,rfl⟩:=AI b4
 refine ⟨_,rfl,?_⟩
 refine Ef (AY b0 24 I4 rfl fun an dc de b5 n=>?_)
 refine have b6:=Ss AL a1 n;Eu (St Hz b5 rfl rfl rfl rfl fun df b7 o=>?_)
 refine AA<|Ac<|Sr<|Vm<|Vx (Run.nilCheck rfl)<|Vx (Run.fieldAddr H3 rfl)<|have a2:=Y2 b2 n o;Vx (Run.load1 Be rfl (Bk.cell a2 rfl))<|Vr (.bool (e.2.why != 0))<|AA<|Cn c (fun b8 c=>?_) fun b8 c=>?_
 refine Ac<|Cc Ff (.q 0 (.q 1 (.q 2 (.q 3 (.q 4 (.q 5 (.q 6 (.q 7 (.q 8 (.q 9 (.one 10 (.one 11 .nil)))))))))))) [11] [21] an (by kernel_rfl) fun dg ac=>Qx f rfl (v:=.agg [.slice none 0 0].toArray) (fun _ ⟨_,d⟩=>GK (cs:=[.slice none 0 0]) [.slice none 0 0] I4 Vf rfl .nil rfl rfl)<|Qx f rfl (v:=Pt ab 0) (fun _ ⟨_,d⟩=>Run.move rfl)<|Qx f rfl (fun _ ⟨_,d⟩=>Run.nilCheck rfl)<|Qx f rfl (fun _ ⟨_,d⟩=>Run.fieldAddr H3 rfl)<|have a3:=Bs a2 ac;Qx f rfl (fun _ ⟨_,d⟩=>Run.load1 Be rfl (Bk.cell (Bs a3 d) rfl))<|Qx f rfl (v:=Pt ab 0) (fun _ ⟨_,d⟩=>Run.move rfl)<|Qx f rfl (fun _ ⟨_,d⟩=>Run.nilCheck rfl)<|Qx f rfl (fun _ ⟨_,d⟩=>Run.fieldAddr TR rfl)<|Qx f rfl (fun _ ⟨_,d⟩=>Run.load1 Be rfl (Bk.cell (Bs a3 d) rfl))<|Qx f rfl (v:=.agg [I e.2.why,I e.2.where_].toArray) (fun _ ⟨_,d⟩=>GK (cs:=[I e.2.why,I e.2.where_]) [I 0,I 0] Is QC rfl (.cons rfl rfl rfl (.cons rfl rfl rfl .nil)) rfl rfl)<|BW rfl<|have b9:=Y4 (Y4 y l g m p) r n o ac;BT rfl (.none rfl) rfl (St Hz b9 rfl rfl rfl rfl fun dh ca ao=>?_)
 refine ⟨⟨_,(Mo [21] ao)⟩,?_⟩
 refine E0 dcd<|WY.one<|have cb:=Y4 (Y4 z g m p r) n o ac ao;BT rfl (.none rfl) rfl (St H0 cb rfl rfl rfl rfl fun di cc a4=>?_)
 refine WY.nil<|AZ ?_
 obtain rfl:=AP c
 refine have cd:=Bs ca a4;A0 (B:=B) w (D4 rfl (.agg JI rfl rfl (Bk.part cd 0 [.slice none 0 0] rfl)) (.agg Mb rfl rfl (Bk.part cc 0 [I e.2.why,I e.2.where_] rfl)) ?_)
 exact ⟨an,[.slice none 0 0],[I e.2.why,I e.2.where_],rfl,Ho (T3 (T4 (T4 (Mo [20,21,22,23,24] s) q l g m) p r n o) ac ao a4) u,(CA (x:=(AN.mk [])) Cd),(Aj (x:=(AE.mk e.2.why e.2.where_)))⟩
 refine WC.skip<|Sr<|Vx (Run.loadN JI rfl rfl (Bk.part b7 0 [Sl al e.1.funcs am] rfl))<|Vx (v:=.agg [I 0,I 0].toArray) (Bp Is QC rfl .nil)<|have cf:=Y3 (Y4 y l g m p) r n o;have cg:=Ss AL b6 o;Eu (St Hz cf rfl rfl rfl rfl fun dj ch ap=>?_)
 refine have ci:=Y3 (Y4 z g m p r) n o ap;Eu (St H0 ci rfl rfl rfl rfl fun dk cj aq=>?_)
 refine AA<|AZ ?_
 obtain rfl:=AP c
 refine have ck:=Bs ch aq;A0 (B:=B) w (D4 rfl (.agg JI rfl rfl (Bk.part ck 0 [Sl al e.1.funcs am] rfl)) (.agg Mb rfl rfl (Bk.part cj 0 [I 0,I 0] rfl)) ?_)
 refine have cl:=K2 AL cg ap aq;⟨an,[Sl al e.1.funcs am],[I 0,I 0],rfl,Ho (T2 (T4 (T4 (Mo [20,21,22,23,24] s) q l g m) p r n o) ap aq) u,(CA (x:=e.1) cl),(Aj (x:=(AE.mk 0 0)))⟩
theorem EW(c:Nat):E4.Spec (E4 c):=by
 intro a d q v0 r s u e f g
 refine Calls.mono (Q0 c (recol (see []) a) d (A3 lbr a) e (DC Kd.u8 f []) (Av Kw g [])) ?_
 rintro w y ⟨h,l,u1,m,n,o,p⟩
 exact ⟨glue [] d a h,l,u1,m,Ah n A2,BA Cp o,BA Aq p⟩
def FU.At(l:Col)(a:World)(f:Bts→Option (List Bts)):Prop:=
 ∀{c:Bts} {d:(List Bts)},f c=some d→
  Calls Tryz.prog 77 #[Sb c] a fun m e=>∃(g:Col) (h:Value),m=.returned h∧AO [] l a g e∧Slc E9 g.F e h d
def FU.Spec(f:Bts→Option (List Bts)):Prop:=
 ∀(a:Col) (c:World),FU.At a c f
theorem Q1(aq:Nat)(ab:Col)(ar:World)(a1:∀b,ab b<10):FU.At ab ar (FU aq):=by
 intro e y a
 rw [FU] at a
 refine A5 Tryz.func77 rfl Tryz.ntmps77 rfl fun B a2 bp=>Sr<|Va (.slice none 0 0)<|AA<|Sr<|Va (.slice none 0 0)<|AA<|Sr<|Va (I 0)<|AA<|Ac<|Sr<|Va (I 0)<|AA<|Ao<|CZ (fun h o z=>∃(f:Env) (p:Col) (d:(List Bts)) (l:Option Addr) (m:Nat) (n:Int) (c:Int),o=f.puts [(0,.string (bs e)),(3,.slice l d.length m),(4,.int .i64 n),(5,.int .i64 c)]∧D0 e h d n c=some y∧AO [21] ab ar p z∧Own E9 9 p z 21 (Sl l d m) d) aq ?_ ?_
 exact ⟨_,ab,([]:List Bts),none,0,0,0,Pu,a,(AO.refl [21] _ _),Own.nil⟩
 rintro h _ z ⟨f,p,d,l,m,n,c,rfl,a,au,ac⟩
 rcases h with _|h
 exact BK a
 refine have a:Eb e (D0 e h) d n c=some y:=a; ?_
 obtain ⟨ak,av⟩:∃s,s=D0 e h:=⟨_,rfl⟩
 rw [←av,Eb] at a
 refine Ac<|Sr<|Vm<|Vm<|Vx (v:=I (e.length:Int)) (Run.lenStr IS rfl)<|Vr (.bool (decide (c≤(e.length:Int))))<|AA<|Cn a (fun a3 a=>?_) fun a3 a=>?_
 refine WC.skip<|Au (fun o al=>∃(f:Env) (ad:Col) (r:(List Bts)) (ae:Option Addr) (af:Nat) (ag:Int),o=f.puts [(0,.string (bs e)),(3,.slice ae r.length af),(4,.int .i64 ag),(5,.int .i64 c)]∧Gs c ak r ag=some y∧AO [21] p z ad al∧Own E9 9 ad al 21 (Sl ae r af) r) ?_ ?_
 refine Ao<|Ac<|Au (fun o am=>∃(f:Env) (u:Col) (an:Bool),o=f.puts [(0,.string (bs e)),(3,.slice l d.length m),(4,.int .i64 n),(5,.int .i64 c),(21,.bool an)]∧Fo e d n c ak an=some y∧AO [] p z u am) ?_ ?_
 refine AQ<|Vm<|Vm<|Vx (v:=I (e.length:Int)) (Run.lenStr IS rfl)<|Vr (.bool (decide (c< (e.length:Int))))<|Vm<|Bo a (fun g a=>?_) fun g a=>?_
 refine Gm g<|Gm g<|Bi a fun ao a4 a=>Gx g (v:=.int .u8 (ao.toNat:Int)) (Run.indexBs IS rfl rfl a4)<|Gr g (.bool ((ao.toNat:Int) != ((32:UInt8).toNat:Int)))<|Vp g<|AA<|⟨_,p,((ao.toNat:Int) != ((32:UInt8).toNat:Int)),Pu,a,(AO.refl [] _ _)⟩
 refine Pg g<|Pg g<|Pg g<|Pg g<|Vp g<|AA<|⟨_,p,false,Pu,a,(AO.refl [] _ _)⟩
 rintro _ am ⟨f,u,an,rfl,a,aa⟩
 rw [Fo] at a
 refine Cn a (fun a5 a=>?_) fun a5 a=>?_
 refine CF<|have a6:=Os ac aa;⟨_,u,d,l,m,n,Pu,a,(Mo [21] aa),a6⟩
 refine WC.skip<|Au (fun o ap=>∃(f:Env) (ah:Col) (w:(List Bts)) (ai:Option Addr) (aj:Nat),o=f.puts [(0,.string (bs e)),(3,.slice ai w.length aj),(5,.int .i64 c)]∧Gt c ak w=some y∧AO [21] u am ah ap∧Own E9 9 ah ap 21 (Sl ai w aj) w) ?_ ?_
 refine Sr<|Vm<|Vm<|Vr (.bool (decide (c>n)))<|AA<|Cn a (fun a7 a=>?_) fun a7 a=>?_
 refine AQ<|Vm<|Vm<|Vm<|Vm<|Bi a fun q a8 a=>Vx (v:=Sb q) (Run.sliceStr IS rfl ⟨_,rfl⟩ ⟨_,rfl⟩ a8)<|Ef (E1 (cs:=[Sb q]) u 20 [[Sb q]] Ir Rw rfl rfl (.cons rfl rfl rfl .nil) rfl fun a9 ba bb bc aw=>?_)
 refine have bd:Own E9 9 a9 ba 20 (.slice (some ⟨bb,0,none⟩) 1 1) ([q]:List Bts):=Own.lit (css:=[[Sb q]]) bc rfl rfl rfl (Aa rfl Ba) (A9 rfl Gg) rfl;have be:=Os (Os ac aa) aw;Bi a fun bq ax a=>Ef (Ey (κ:=E9) rfl rfl be dcd AAa (F3 bd) (JP ax) (Js ax) fun br bf bt ay bg=>?_)
 obtain ⟨az,a0,rfl⟩:=Own.len ay
 refine Va (Sl az ((d++([q]:List Bts))) a0)<|AA<|⟨_,bf,(d++([q]:List Bts)),az,a0,Pu,a,(Tn (Mo [21] aw) bg),ay⟩
 refine WC.skip<|have bh:=Os ac aa;⟨_,u,d,l,m,Pu,a,(AO.refl [21] _ _),bh⟩
 rintro _ ap ⟨f,ah,w,ai,aj,rfl,a,bi,bj⟩
 rw [Gt] at a
 refine AQ<|Vm<|Vr (I (Wr (c+1)))<|Va (I (Wr (c+1)))<|AA<|⟨_,ah,w,ai,aj,(Wr (c+1)),Pu,a,(Tn (Mo [21] aa) bi),bj⟩
 rintro _ al ⟨f,ad,r,ae,af,ag,rfl,a,bk,bl⟩
 rw [Gs] at a
 refine AQ<|Vm<|Vr (I (Wr (c+1)))<|Va (I (Wr (c+1)))<|AA<|⟨h,Nat.lt_succ_self h,_,ad,r,ae,af,ag,(Wr (c+1)),Pu,(av▸a),(Tn (Mo [21] au) bk),bl⟩
 refine CF<|Sr<|Vm<|Va (Sl l d m)<|AA<|AZ ?_
 obtain ⟨bm,bn,bo⟩:=Own.freeze (S:=[21]) ac dcd dcd
 obtain rfl:=AP a
 refine A0 (B:=B) a2 (BQ rfl (.tmp rfl) ?_)
 exact ⟨bm,Sl l d m,rfl,Ho (Tn (Mo [21] au) bn) a1,bo⟩
theorem R4(c:Nat):FU.Spec (FU c):=by
 intro a d n o e
 refine Calls.mono (Q1 c (recol (see []) a) d (A3 lbr a) e) ?_
 rintro p q ⟨f,g,h,l,m⟩
 exact ⟨glue [] d a f,g,h,Ah l A2,Et E9 m⟩
def HF.At(e:Col)(c:World)(f:Nat→Option (Int×Bool)):Prop:=
 ∀{d:Nat} {a:Int×Bool},f d=some a→
  Calls Tryz.prog 64 #[Fl d] c fun g h=>∃(l:Col),g=.returned (.tuple #[I a.1,.bool a.2])∧AO [] e c l h
def HF.Spec(f:Nat→Option (Int×Bool)):Prop:=
 ∀(a:Col) (c:World),HF.At a c f
theorem R5(f:Col)(p:World)(q:∀b,f b<10):HF.At f p HF:=by
 intro c y a
 rw [HF] at a
 refine A5 Tryz.func64 rfl Tryz.ntmps64 rfl fun B r ac=>Sr<|Va (I 0)<|Va (.bool false)<|AA<|Ac<|Au (fun z s=>∃(u:Env) (n:Col) (o:Bool),z=u.puts [(0,.float .f64 c),(20,.bool o)]∧GX c o=some y∧AO [] f p n s) ?_ ?_
 refine AQ<|Vm<|Vr (.bool (fge c (13938640846711685120:Nat)))<|Vm<|Bo a (fun l a=>?_) fun l a=>?_
 refine Gm l<|Gr l (.bool (fle c (4715268809856909312:Nat)))<|Vp l<|Vr (.bool (!(fle c (4715268809856909312:Nat))))<|Vm<|Bo a (fun d a=>?_) fun d a=>?_
 refine Pg d<|Pg d<|Pg d<|Po<|Po<|Po<|Pg d<|Vp d<|AA<|⟨_,f,true,Pu,a,(AO.refl [] _ _)⟩
 refine Gm d<|Gr d (.bool (feq c (0:Nat)))<|Gm d<|Bo a (fun g a=>?_) fun g a=>?_
 refine Gm g<|Gx g (v:=.int .u64 ((c:Nat):Int)) (OH (vs:=[Fl c]) rfl rfl)<|Gr g (.bool (((c:Nat):Int) != 0))<|Gp d g<|Vp d<|AA<|⟨_,f,(((c:Nat):Int) != 0),Pu,a,(AO.refl [] _ _)⟩
 refine Pg g<|Pg g<|Pg g<|Gp d g<|Vp d<|AA<|⟨_,f,false,Pu,a,(AO.refl [] _ _)⟩
 refine Pg l<|Pg l<|Vp l<|Vr (.bool (!false))<|Vm<|Bo a (fun e a=>?_) fun e a=>?_
 refine Pg e<|Pg e<|Pg e<|Po<|Po<|Po<|Pg e<|Vp e<|AA<|⟨_,f,true,Pu,a,(AO.refl [] _ _)⟩
 refine Gm e<|Gr e (.bool (feq c (0:Nat)))<|Gm e<|Bo a (fun h a=>?_) fun h a=>?_
 refine Gm h<|Gx h (v:=.int .u64 ((c:Nat):Int)) (OH (vs:=[Fl c]) rfl rfl)<|Gr h (.bool (((c:Nat):Int) != 0))<|Gp e h<|Vp e<|AA<|⟨_,f,(((c:Nat):Int) != 0),Pu,a,(AO.refl [] _ _)⟩
 refine Pg h<|Pg h<|Pg h<|Gp e h<|Vp e<|AA<|⟨_,f,false,Pu,a,(AO.refl [] _ _)⟩
 rintro _ s ⟨u,n,o,rfl,a,w⟩
 rw [GX] at a
 refine Cn a (fun aa a=>?_) fun aa a=>?_
 refine Sr<|Va (I 0)<|Va (.bool false)<|AA<|AZ ?_
 obtain rfl:=AP a
 refine A0 (B:=B) r (D4 rfl (.tmp rfl) (.tmp rfl) ?_)
 exact ⟨n,rfl,Ho (Mo [] w) q⟩
 refine WC.skip<|Sr<|Vm<|Bi a fun m ab a=>Vx (v:=I m) (Run.f2i rfl Vc ab)<|Va (I m)<|AA<|Sr<|Vm<|Vm<|Vr (Fl (FloatKind.f64.nearest m))<|Vm<|Vr (.bool (feq (FloatKind.f64.nearest m) c))<|Va (I m)<|Va (.bool (feq (FloatKind.f64.nearest m) c))<|AA<|AZ ?_
 obtain rfl:=AP a
 refine A0 (B:=B) r (D4 rfl (.tmp rfl) (.tmp rfl) ?_)
 exact ⟨n,rfl,Ho (Mo [] w) q⟩
theorem O1:HF.Spec HF:=by
 intro a c h l d
 refine Calls.mono (R5 (recol (see []) a) c (A3 lbr a) d) ?_
 rintro m n ⟨e,f,g⟩
 exact ⟨glue [] c a e,f,Ah g A2⟩
def EA.At(l:Col)(c:World)(f:(Nat×Nat)→Option (Ad×Bool)):Prop:=
 ∀{d:(Nat×Nat)} {a:Ad×Bool},f d=some a→
  Calls Tryz.prog 39 #[Cx d] c fun m e=>∃(g:Col) (h:List Value),m=.returned (.tuple #[.agg h.toArray,.bool a.2])∧AO [] l c g e∧HB.rep g.F e h a.1
def EA.Spec(f:(Nat×Nat)→Option (Ad×Bool)):Prop:=
 ∀(a:Col) (c:World),EA.At a c f
theorem T9(n:Col)(z:World)(q:∀b,n b<10):EA.At n z EA:=by
 intro f aa a
 rw [EA] at a
 refine A5 Tryz.func39 rfl Tryz.ntmps39 rfl fun B r ar=>Sr<|Ef (AY n 20 ID rfl fun ab ac ad s u=>?_)
 refine Va (.bool false)<|AA<|Sr<|Vm<|Vx (v:=Fl f.1) (Run.real rfl)<|Bi a fun d ae a=>Ca (XK [Fl f.1] rfl) (O1 ab ac ae) ?_
 rintro _ af ⟨ag,rfl,g⟩
 refine ⟨_,rfl,?_⟩
 refine Vm<|Vr (I d.1)<|Vr (.bool d.2)<|Va (I d.1)<|Va (.bool d.2)<|AA<|Sr<|Vm<|Vx (v:=Fl f.2) (Run.imag rfl)<|Bi a fun c ah a=>Ca (XK [Fl f.2] rfl) (O1 ag af ah) ?_
 rintro _ ai ⟨o,rfl,h⟩
 refine ⟨_,rfl,?_⟩
 refine Vm<|Vr (I c.1)<|Vr (.bool c.2)<|Va (I c.1)<|Va (.bool c.2)<|AA<|Ac<|Au (fun aj w=>∃(y:Env) (l:Col) (p:Bool),aj=y.puts [(2,.pointer (some ⟨ad,0,none⟩)),(4,.int .i64 d.1),(6,.int .i64 c.1),(25,.bool p)]∧MJ d c p=some aa∧AO [] o ai l w) ?_ ?_
 refine AQ<|Vm<|Vr (.bool (!d.2))<|Vm<|Bo a (fun e a=>?_) fun e a=>?_
 refine Pg e<|Pg e<|Vp e<|AA<|⟨_,o,true,Pu,a,(AO.refl [] _ _)⟩
 refine Gm e<|Gr e (.bool (!c.2))<|Vp e<|AA<|⟨_,o,(!c.2),Pu,a,(AO.refl [] _ _)⟩
 rintro _ w ⟨y,l,p,rfl,a,m⟩
 rw [MJ] at a
 refine Cn a (fun ak a=>?_) fun ak a=>?_
 refine Sr<|Vx (v:=.agg [I 0,I 0].toArray) (Bp ID NE rfl .nil)<|have al:=Y3 s g h m;Eu (St IU al rfl rfl rfl rfl fun au am an=>?_)
 refine Va (.bool false)<|AA<|AZ ?_
 obtain rfl:=AP a
 refine A0 (B:=B) r (D4 rfl (.agg I2 rfl rfl (Bk.part am 0 [I 0,I 0] rfl)) (.tmp rfl) ?_)
 exact ⟨l,[I 0,I 0],rfl,Ho (T4 (Mo [20] u) g h m an) q,(Ei (x:=(Ad.mk 0 0)))⟩
 refine WC.skip<|Sr<|Vm<|Vm<|Vx (v:=.agg [I d.1,I c.1].toArray) (Bp ID NE rfl (.cons rfl rfl rfl (.cons rfl rfl rfl .nil)))<|have ao:=Y3 s g h m;Eu (St IU ao rfl rfl rfl rfl fun av ap aq=>?_)
 refine Va (.bool true)<|AA<|AZ ?_
 obtain rfl:=AP a
 refine A0 (B:=B) r (D4 rfl (.agg I2 rfl rfl (Bk.part ap 0 [I d.1,I c.1] rfl)) (.tmp rfl) ?_)
 exact ⟨l,[I d.1,I c.1],rfl,Ho (T4 (Mo [20] u) g h m aq) q,(Ei (x:=(Ad.mk d.1 c.1)))⟩
theorem OQ:EA.Spec EA:=by
 intro a c m n d
 refine Calls.mono (T9 (recol (see []) a) c (A3 lbr a) d) ?_
 rintro o p ⟨e,f,g,h,l⟩
 exact ⟨glue [] c a e,f,g,Ah h A2,BA HB l⟩
def Bq.At(c:Col)(a:World)(f:AG→Option Bool):Prop:=
 ∀{d:AG} {e:List Value} {g:Bool},f d=some g→Ax.rep c.F a e d→
  Calls Tryz.prog 17 #[.agg e.toArray] a fun h l=>∃(m:Col),h=.returned (.bool g)∧AO [] c a m l
def Bq.Spec(f:AG→Option Bool):Prop:=
 ∀(a:Col) (c:World),Bq.At a c f
theorem Q2(aw:Nat)(al:Col)(bc:World)(ag:∀b,al b<10):Bq.At al bc (Bq aw):=by
 intro c ca y a bd
 rw [Bq] at a
 obtain ⟨cb,rfl,ax⟩:=Bt bd
 obtain ⟨cc,cd,rfl⟩:=AI ax
 refine A5 Tryz.func17 rfl Tryz.ntmps17 rfl fun B ah cf=>Sr<|Ef (By al 20 rfl rfl fun be bf ay az ad=>?_)
 refine Va (.bool false)<|AA<|Sr<|Vx (Run.fieldAddr HQ rfl)<|Vx (Run.load1 HX rfl (Bk.cell az rfl))<|Bi a fun ae bg a=>Ca (VW [Cx c.num] rfl) (OQ be bf bg) ?_
 rintro _ cg ⟨bh,ch,rfl,z,bi⟩
 obtain rfl:=GW bi
 refine ⟨_,rfl,?_⟩
 refine Vm<|Vr (.agg [I ae.1.re,I ae.1.im].toArray)<|Vr (.bool ae.2)<|Ef (AY bh 21 ID rfl fun a0 ci cj bj aa=>?_)
 refine Eu (St IU bj rfl rfl rfl rfl fun bk ck ab=>?_)
 refine Va (.bool ae.2)<|AA<|Ac<|Sr<|Va (I 0)<|AA<|Ao<|CZ (fun r l u=>∃(e:Env) (d:Col) (ai:Bool) (f:Int),l=e.puts [(1,.pointer (some ⟨ay,0,none⟩)),(4,.bool ai),(5,.int .i64 f)]∧EN c r ai f=some y∧AO [22] a0 bk d u) aw ?_ ?_
 exact ⟨_,a0,ae.2,0,Pu,a,(AO.refl [22] _ _)⟩
 rintro r _ u ⟨e,d,ai,f,rfl,a,w⟩
 rcases r with _|r
 exact BK a
 refine have a:Ec c (EN c r) ai f=some y:=a; ?_
 obtain ⟨bl,a1⟩:∃s,s=EN c r:=⟨_,rfl⟩
 rw [←a1,Ec] at a
 refine Ac<|Sr<|Vm<|Vx (Run.fieldAddr Ew rfl)<|have m:=Y4 az z aa ab w;Vx (Run.load1 Ip rfl (Bk.cell m rfl))<|have aj:=Ss Kd.cpx (K4 Kd.cpx ax ad z aa ab) w; ?_
 obtain ⟨cl,cm,bm⟩:=AI aj
 refine Vx (v:=I (c.list.length:Int)) (Run.lenSlc IQ bm)<|Vr (.bool (decide (f< (c.list.length:Int))))<|AA<|Cn a (fun bn a=>?_) fun bn a=>?_
 refine WC.skip<|Au (fun l a2=>∃(e:Env) (am:Col) (ak:Bool),l=e.puts [(1,.pointer (some ⟨ay,0,none⟩)),(4,.bool ak),(5,.int .i64 f)]∧Gu f bl ak=some y∧AO [22] d u am a2) ?_ ?_
 refine Ao<|Sr<|Vx (Run.fieldAddr Ew rfl)<|Vx (Run.load1 Ip rfl (Bk.cell m rfl))<|Vm<|Bi a fun a3 bo a=>?_
 obtain ⟨bp,bq,cn,a4,br,bt,bu,bv,an⟩:=BX (κ:=Kd.cpx) aj bo
 replace an:BG d u bp (bq+f.toNat*1) a4:=an
 obtain rfl:=(show a4=[Cx a3] from bv)
 refine Vx (Run.indexAddr IQ br rfl bt bu)<|Vx (Run.load1 HX rfl (BG.cell0 an rfl))<|Bi a fun ac bw a=>Ca (VW [Cx a3] rfl) (OQ d u bw) ?_
 rintro _ co ⟨bx,cq,rfl,a5,bz⟩
 obtain rfl:=GW bz
 refine ⟨_,rfl,?_⟩
 refine Vm<|Vr (.agg [I ac.1.re,I ac.1.im].toArray)<|Vr (.bool ac.2)<|Ef (AY bx 22 ID rfl fun a6 cr ct b0 a7=>?_)
 refine Eu (St IU b0 rfl rfl rfl rfl fun cu cv a8=>?_)
 refine Va (.bool ac.2)<|AA<|AQ<|Vm<|Vm<|Bo a (fun af a=>?_) fun af a=>?_
 refine Gm af<|Vp af<|Va (.bool ac.2)<|AA<|⟨_,a6,ac.2,Pu,a,(T2 (Mo [22] a5) a7 a8)⟩
 refine Pg af<|Vp af<|Va (.bool false)<|AA<|⟨_,a6,false,Pu,a,(T2 (Mo [22] a5) a7 a8)⟩
 rintro _ a2 ⟨e,am,ak,rfl,a,b1⟩
 rw [Gu] at a
 refine AQ<|Vm<|Vr (I (Wr (f+1)))<|Va (I (Wr (f+1)))<|AA<|⟨r,Nat.lt_succ_self r,_,am,ak,(Wr (f+1)),Pu,(a1▸a),(Tn (Mo [22] w) b1)⟩
 refine CF<|Ac<|Sr<|Vx (Run.fieldAddr0 JB rfl)<|Vx (Run.load1 Fy rfl (Bk.cell m rfl))<|AA<|Ao<|Sr<|Vr (.bool (c.type_==1))<|Va (.bool (c.type_==1))<|AA<|Cn a (fun b2 a=>?_) fun b2 a=>?_
 refine Au (fun l a9=>∃(e:Env) (ao:Col) (ap:Bool),l=e.puts [(2,.bool ap)]∧IW ap=some y∧AO [] d u ao a9) ?_ ?_
 refine AQ<|Vm<|Vm<|Bo a (fun n a=>?_) fun n a=>?_
 refine Gx n (Run.fieldAddr J6 rfl)<|Gx n (Run.load1 Oz rfl (Bk.cell m rfl))<|Gr n (.bool (!c.bool))<|Vp n<|Vm<|Bo a (fun g a=>?_) fun g a=>?_
 refine Gx g (Run.fieldAddr Ew rfl)<|Gx g (Run.load1 Ip rfl (Bk.cell m rfl)) ?_
 obtain ⟨cw,cx,b3⟩:=AI aj
 refine Gx g (v:=I (c.list.length:Int)) (Run.lenSlc IQ b3)<|Gr g (.bool ((c.list.length:Int)==0))<|Vp g<|Va (.bool ((c.list.length:Int)==0))<|AA<|⟨_,d,((c.list.length:Int)==0),Pu,a,(AO.refl [] _ _)⟩
 refine Pg g<|Pg g<|Pg g<|Pg g<|Vp g<|Va (.bool false)<|AA<|⟨_,d,false,Pu,a,(AO.refl [] _ _)⟩
 refine Pg n<|Pg n<|Pg n<|Vp n<|Vm<|Pg rfl<|Pg rfl<|Pg rfl<|Pg rfl<|Vr (.bool false)<|Va (.bool false)<|AA<|⟨_,d,false,Pu,a,(AO.refl [] _ _)⟩
 rintro _ a9 ⟨e,ao,ap,rfl,a,b4⟩
 rw [IW] at a
 refine AZ ?_
 obtain rfl:=AP a
 refine A0 (B:=B) ah (BQ rfl (.tmp rfl) ?_)
 exact ⟨ao,rfl,Ho (Tn (T4 (Mo [21,22] ad) z aa ab w) b4) ag⟩
 refine Sr<|Vr (.bool (c.type_==2))<|Va (.bool (c.type_==2))<|AA<|Cn a (fun b5 a=>?_) fun b5 a=>?_
 refine Au (fun l ba=>∃(e:Env) (aq:Col) (ar:Bool),l=e.puts [(2,.bool ar)]∧IX ar=some y∧AO [] d u aq ba) ?_ ?_
 refine AQ<|Vm<|Vm<|Bo a (fun o a=>?_) fun o a=>?_
 refine Gx o (Run.fieldAddr HQ rfl)<|Gx o (Run.load1 HX rfl (Bk.cell m rfl))<|Gx o (v:=.bool (ceq c.num ((0,0):Nat×Nat))) (Run.ceq rfl rfl)<|Vp o<|Vm<|Bo a (fun h a=>?_) fun h a=>?_
 refine Gx h (Run.fieldAddr Ew rfl)<|Gx h (Run.load1 Ip rfl (Bk.cell m rfl)) ?_
 obtain ⟨cy,cz,b6⟩:=AI aj
 refine Gx h (v:=I (c.list.length:Int)) (Run.lenSlc IQ b6)<|Gr h (.bool ((c.list.length:Int)==0))<|Vp h<|Va (.bool ((c.list.length:Int)==0))<|AA<|⟨_,d,((c.list.length:Int)==0),Pu,a,(AO.refl [] _ _)⟩
 refine Pg h<|Pg h<|Pg h<|Pg h<|Vp h<|Va (.bool false)<|AA<|⟨_,d,false,Pu,a,(AO.refl [] _ _)⟩
 refine Pg o<|Pg o<|Pg o<|Vp o<|Vm<|Pg rfl<|Pg rfl<|Pg rfl<|Pg rfl<|Vr (.bool false)<|Va (.bool false)<|AA<|⟨_,d,false,Pu,a,(AO.refl [] _ _)⟩
 rintro _ ba ⟨e,aq,ar,rfl,a,b7⟩
 rw [IX] at a
 refine AZ ?_
 obtain rfl:=AP a
 refine A0 (B:=B) ah (BQ rfl (.tmp rfl) ?_)
 exact ⟨aq,rfl,Ho (Tn (T4 (Mo [21,22] ad) z aa ab w) b7) ag⟩
 refine Sr<|Vr (.bool (c.type_==3))<|Va (.bool (c.type_==3))<|AA<|Cn a (fun b8 a=>?_) fun b8 a=>?_
 refine Au (fun l bb=>∃(e:Env) (au:Col) (av:Bool),l=e.puts [(2,.bool av)]∧IY av=some y∧AO [] d u au bb) ?_ ?_
 refine AQ<|Vm<|Vm<|Bo a (fun p a=>?_) fun p a=>?_
 refine Gx p (Run.fieldAddr HQ rfl)<|Gx p (Run.load1 HX rfl (Bk.cell m rfl))<|Gx p (v:=.bool (ceq c.num ((0,0):Nat×Nat))) (Run.ceq rfl rfl)<|Vp p<|Vm<|Bo a (fun q a=>?_) fun q a=>?_
 refine Gx q (Run.fieldAddr J6 rfl)<|Gx q (Run.load1 Oz rfl (Bk.cell m rfl))<|Gr q (.bool (!c.bool))<|Vp q<|Va (.bool (!c.bool))<|AA<|⟨_,d,(!c.bool),Pu,a,(AO.refl [] _ _)⟩
 refine Pg q<|Pg q<|Pg q<|Vp q<|Va (.bool false)<|AA<|⟨_,d,false,Pu,a,(AO.refl [] _ _)⟩
 refine Pg p<|Pg p<|Pg p<|Vp p<|Vm<|Pg rfl<|Pg rfl<|Pg rfl<|Vr (.bool false)<|Va (.bool false)<|AA<|⟨_,d,false,Pu,a,(AO.refl [] _ _)⟩
 rintro _ bb ⟨e,au,av,rfl,a,b9⟩
 rw [IY] at a
 refine AZ ?_
 obtain rfl:=AP a
 refine A0 (B:=B) ah (BQ rfl (.tmp rfl) ?_)
 exact ⟨au,rfl,Ho (Tn (T4 (Mo [21,22] ad) z aa ab w) b9) ag⟩
 refine WC.skip<|Sr<|Va (.bool false)<|AA<|AZ ?_
 obtain rfl:=AP a
 refine A0 (B:=B) ah (BQ rfl (.tmp rfl) ?_)
 exact ⟨d,rfl,Ho (T4 (Mo [21,22] ad) z aa ab w) ag⟩
theorem L6(c:Nat):Bq.Spec (Bq c):=by
 intro a d m n o e f
 refine Calls.mono (Q2 c (recol (see []) a) d (A3 lbr a) e (Av Ax f [])) ?_
 rintro p q ⟨g,h,l⟩
 exact ⟨glue [] d a g,h,Ah l A2⟩
def Du.At(e:Col)(a:World)(f:(Nat×Nat)→Option Bts):Prop:=
 ∀{c:(Nat×Nat)} {d:Bts},f c=some d→
  Calls Tryz.prog 110 #[Cx c] a fun g h=>∃(l:Col),g=.returned (Sb d)∧AO [] e a l h
def Du.Spec(f:(Nat×Nat)→Option Bts):Prop:=
 ∀(a:Col) (c:World),Du.At a c f
theorem QJ(e:Nat)(d:Col)(f:World)(g:∀b,d b<10):Du.At d f (Du e):=by
 intro h ad c
 rw [Du] at c
 refine A5 Tryz.func110 rfl Tryz.ntmps110 rfl fun B l ae=>Sr<|Va (Sb ([]:List UInt8))<|AA<|Sr<|Vm<|Bi c fun a m c=>Ca (VW [Cx h] rfl) (OQ d f m) ?_
 rintro _ af ⟨n,ag,rfl,o,p⟩
 obtain rfl:=GW p
 refine ⟨_,rfl,?_⟩
 refine Vm<|Vr (.agg [I a.1.re,I a.1.im].toArray)<|Vr (.bool a.2)<|Ef (AY n 20 ID rfl fun q ah ai r s=>?_)
 refine Eu (St IU r rfl rfl rfl rfl fun u w y=>?_)
 refine Va (.bool a.2)<|AA<|Sr<|Vx (Run.loadN I2 rfl rfl (Bk.part w 0 [I a.1.re,I a.1.im] rfl))<|Bi c fun z aa c=>Ca (Vy [.agg [I a.1.re,I a.1.im].toArray] rfl) (O0 e q u aa (Ei (x:=a.1))) ?_
 rintro _ aj ⟨ab,rfl,ac⟩
 refine ⟨_,rfl,?_⟩
 refine Va (Sb z)<|AA<|AZ ?_
 obtain rfl:=AP c
 refine A0 (B:=B) l (BQ rfl (.tmp rfl) ?_)
 exact ⟨ab,rfl,Ho (T3 (Mo [20] o) s y ac) g⟩
theorem NY(c:Nat):Du.Spec (Du c):=by
 intro a d l m e
 refine Calls.mono (QJ c (recol (see []) a) d (A3 lbr a) e) ?_
 rintro n o ⟨f,g,h⟩
 exact ⟨glue [] d a f,g,Ah h A2⟩
def Fp.At(d:Col)(a:World)(f:AG→Option (Bts×Int)):Prop:=
 ∀{e:AG} {g:List Value} {c:Bts×Int},f e=some c→Ax.rep d.F a g e→
  Calls Tryz.prog 78 #[.agg g.toArray] a fun h l=>∃(m:Col),h=.returned (.tuple #[Sb c.1,I c.2])∧AO [] d a m l
def Fp.Spec(f:AG→Option (Bts×Int)):Prop:=
 ∀(a:Col) (c:World),Fp.At a c f
theorem R6(e:Nat)(ad:Col)(ba:World)(p:∀b,ad b<10):Fp.At ad ba (Fp e):=by
 intro c co ae a bb
 rw [Fp] at a
 obtain ⟨cq,rfl,al⟩:=Bt bb
 obtain ⟨am,an,rfl⟩:=AI al
 refine A5 Tryz.func78 rfl Tryz.ntmps78 rfl fun B q cr=>Sr<|Ef (By ad 20 rfl rfl fun bc bd ao ap m=>?_)
 refine Va (Sb ([]:List UInt8))<|Va (I 0)<|AA<|Ac<|Sr<|Vx (Run.loadN Dc rfl rfl (Bk.part ap 0 [I c.type_,Cx c.num,.bool c.bool,Sl am c.list an] rfl))<|have aq:=Ss Kd.cpx al m;Bi a fun be bf a=>Ca (VU [.agg [I c.type_,Cx c.num,.bool c.bool,Sl am c.list an].toArray] rfl) (L6 e bc bd bf (BB (x:=c) aq)) ?_
 rintro _ ar ⟨n,rfl,h⟩
 refine ⟨_,rfl,?_⟩
 refine Vr (.bool (!be))<|AA<|Cn a (fun bg a=>?_) fun bg a=>?_
 refine Sr<|Va (Sb ([]:List UInt8))<|Va (I 3)<|AA<|AZ ?_
 obtain rfl:=AP a
 refine A0 (B:=B) q (D4 rfl (.tmp rfl) (.tmp rfl) ?_)
 exact ⟨n,rfl,Ho (Tn (Mo [] m) h) p⟩
 refine WC.skip<|Ac<|Sr<|Vx (Run.fieldAddr0 JB rfl)<|have y:=Bs ap h;Vx (Run.load1 Fy rfl (Bk.cell y rfl))<|AA<|Ao<|Sr<|Vr (.bool (c.type_==1))<|Va (.bool (c.type_==1))<|AA<|Cn a (fun bh a=>?_) fun bh a=>?_
 refine Sr<|Vx (Run.fieldAddr HQ rfl)<|Vx (Run.load1 HX rfl (Bk.cell y rfl))<|Bi a fun bi bj a=>Ca (Vz [Cx c.num] rfl) (NY e n ar bj) ?_
 rintro _ ct ⟨bk,rfl,bl⟩
 refine ⟨_,rfl,?_⟩
 refine Va (Sb bi)<|Va (I 0)<|AA<|AZ ?_
 obtain rfl:=AP a
 refine A0 (B:=B) q (D4 rfl (.tmp rfl) (.tmp rfl) ?_)
 exact ⟨bk,rfl,Ho (T2 (Mo [] m) h bl) p⟩
 refine Sr<|Vr (.bool (c.type_==2))<|Va (.bool (c.type_==2))<|AA<|Cn a (fun bm a=>?_) fun bm a=>?_
 refine Ac<|Sr<|Vx (Run.fieldAddr J6 rfl)<|Vx (Run.load1 Oz rfl (Bk.cell y rfl))<|AA<|Cn a (fun bn a=>?_) fun bn a=>?_
 refine Sr<|Va (Sb ([116,114,117,101]:List UInt8))<|Va (I 0)<|AA<|AZ ?_
 obtain rfl:=AP a
 refine A0 (B:=B) q (D4 rfl (.tmp rfl) (.tmp rfl) ?_)
 exact ⟨n,rfl,Ho (Tn (Mo [] m) h) p⟩
 refine WC.skip<|Sr<|Va (Sb ([102,97,108,115,101]:List UInt8))<|Va (I 0)<|AA<|AZ ?_
 obtain rfl:=AP a
 refine A0 (B:=B) q (D4 rfl (.tmp rfl) (.tmp rfl) ?_)
 exact ⟨n,rfl,Ho (Tn (Mo [] m) h) p⟩
 refine WC.skip<|Sr<|Va (.slice none 0 0)<|AA<|Ac<|Sr<|Va (I 0)<|AA<|Ao<|CZ (fun g af z=>∃(r:Env) (o:Col) (f:Bts) (aa:Option Addr) (ab:Nat) (d:Int),af=r.puts [(1,.pointer (some ⟨ao,0,none⟩)),(4,.slice aa f.length ab),(5,.int .i64 d)]∧Ed e c g f d=some ae∧AO [22] n ar o z∧Own Kd.u8 5 o z 22 (Sl aa f ab) f) e ?_ ?_
 exact ⟨_,n,([]:List UInt8),none,0,0,Pu,a,(AO.refl [22] _ _),Own.nil⟩
 rintro g _ z ⟨r,o,f,aa,ab,d,rfl,a,ac,ag⟩
 rcases g with _|g
 exact BK a
 refine have a:FC e c (Ed e c g) f d=some ae:=a; ?_
 obtain ⟨bo,au⟩:∃s,s=Ed e c g:=⟨_,rfl⟩
 rw [←au,FC] at a
 refine Ac<|Sr<|Vm<|Vx (Run.fieldAddr Ew rfl)<|have av:=Bs y ac;Vx (Run.load1 Ip rfl (Bk.cell av rfl))<|have aw:=K2 Kd.cpx aq h ac; ?_
 obtain ⟨cu,cv,bp⟩:=AI aw
 refine Vx (v:=I (c.list.length:Int)) (Run.lenSlc IQ bp)<|Vr (.bool (decide (d< (c.list.length:Int))))<|AA<|Cn a (fun bq a=>?_) fun bq a=>?_
 refine WC.skip<|Ac<|Ao<|Au (fun af u=>∃(r:Env) (w:Col) (l:Bts) (ah:Option Addr) (ai:Nat),af=r.puts [(1,.pointer (some ⟨ao,0,none⟩)),(4,.slice ah l.length ai),(5,.int .i64 d)]∧GY e c d bo l=some ae∧AO [22] o z w u∧Own Kd.u8 5 w u 22 (Sl ah l ai) l) ?_ ?_
 refine Sr<|Vm<|Vr (.bool (decide (d>0)))<|AA<|Cn a (fun br a=>?_) fun br a=>?_
 refine AQ<|Vm<|Ef (E1 (cs:=[.int .u8 ((32:UInt8).toNat:Int)]) o 21 [[.int .u8 ((32:UInt8).toNat:Int)]] G8 Xm rfl rfl (.cons rfl rfl rfl .nil) rfl fun bt bu bv bw ax=>?_)
 refine have bx:Own Kd.u8 5 bt bu 21 (.slice (some ⟨bv,0,none⟩) 1 1) ([(32:UInt8)]:List UInt8):=Own.lit (css:=[[.int .u8 ((32:UInt8).toNat:Int)]]) bw rfl rfl rfl (Aa rfl Ba) (A9 rfl Gg) rfl;have bz:=Os ag ax;Bi a fun cw ay a=>Ef (Ey (κ:=Kd.u8) rfl rfl bz dcd XO (F3 bx) (JP ay) (Js ay) fun cx b0 cy az b1=>?_)
 obtain ⟨a0,a1,rfl⟩:=Own.len az
 refine Va (Sl a0 ((f++([(32:UInt8)]:List UInt8))) a1)<|AA<|⟨_,b0,(f++([(32:UInt8)]:List UInt8)),a0,a1,Pu,a,(Tn (Mo [22] ax) b1),az⟩
 refine WC.skip<|⟨_,o,f,aa,ab,Pu,a,(AO.refl [22] _ _),ag⟩
 rintro _ u ⟨r,w,l,ah,ai,rfl,a,aj,b2⟩
 rw [GY] at a
 refine AQ<|Vm<|Vx (Run.fieldAddr Ew rfl)<|have b3:=Bs av aj;Vx (Run.load1 Ip rfl (Bk.cell b3 rfl))<|Vm<|Bi a fun a2 b4 a=>have b5:=Ss Kd.cpx aw aj; ?_
 obtain ⟨b6,b7,cz,a3,b8,b9,ca,cb,ak⟩:=BX (κ:=Kd.cpx) b5 b4
 replace ak:BG w u b6 (b7+d.toNat*1) a3:=ak
 obtain rfl:=(show a3=[Cx a2] from cb)
 refine Vx (Run.indexAddr IQ b8 rfl b9 ca)<|Vx (Run.load1 HX rfl (BG.cell0 ak rfl))<|Bi a fun a4 cc a=>Ca (Vz [Cx a2] rfl) (NY e w u cc) ?_
 rintro _ c0 ⟨c1,rfl,a5⟩
 refine ⟨_,rfl,?_⟩
 refine have cd:=Os b2 a5;Bi a fun c2 cf a=>Ef (Sn rfl rfl cd dcd XO AAq IS (JP cf) fun c3 cg c4 a6 ch=>?_)
 obtain ⟨a7,a8,rfl⟩:=Own.len a6
 refine Va (Sl a7 ((l++a4)) a8)<|AA<|AQ<|Vm<|Vr (I (Wr (d+1)))<|Va (I (Wr (d+1)))<|AA<|⟨g,Nat.lt_succ_self g,_,cg,(l++a4),a7,a8,(Wr (d+1)),Pu,(au▸a),(T3 (Mo [22] ac) aj a5 ch),a6⟩
 refine CF<|Sr<|Vm ?_
 obtain ⟨ci,cj,ck⟩:=Own.freeze (S:=[22]) ag dcd dcd
 refine Vx (v:=Sb f) (Run.bytesStr Ok rfl ck)<|Bi a fun cl cm a=>Vx (v:=Sb cl) (Run.strAdd rfl rfl cm)<|Bi a fun a9 cn a=>Vx (v:=Sb a9) (Run.strAdd rfl rfl cn)<|Va (Sb a9)<|Va (I 0)<|AA<|AZ ?_
 obtain rfl:=AP a
 refine A0 (B:=B) q (D4 rfl (.tmp rfl) (.tmp rfl) ?_)
 exact ⟨ci,rfl,Ho (T3 (Mo [22] m) h ac cj) p⟩
theorem Sy(c:Nat):Fp.Spec (Fp c):=by
 intro a d m n o e f
 refine Calls.mono (R6 c (recol (see []) a) d (A3 lbr a) e (Av Ax f [])) ?_
 rintro p q ⟨g,h,l⟩
 exact ⟨glue [] d a g,h,Ah l A2⟩
def E5.At(l:Col)(c:World)(f:Bts→Option (AG×Int)):Prop:=
 ∀{d:Bts} {a:AG×Int},f d=some a→
  Calls Tryz.prog 49 #[Sb d] c fun m e=>∃(g:Col) (h:List Value),m=.returned (.tuple #[.agg h.toArray,I a.2])∧AO [] l c g e∧Ax.rep g.F e h a.1
def E5.Spec(f:Bts→Option (AG×Int)):Prop:=
 ∀(a:Col) (c:World),E5.At a c f
theorem Q3(g:Nat)(a7:Col)(ca:World)(ak:∀b,a7 b<10):E5.At a7 ca (E5 g):=by
 intro c ay a
 rw [E5] at a
 refine A5 Tryz.func49 rfl Tryz.ntmps49 rfl fun B al az=>Sr<|Ef (AY a7 20 Ep rfl fun a8 cb a9 am an=>?_)
 refine Va (I 0)<|AA<|Ac<|Au (fun ar ba=>∃(y:Env) (a0:Col) (bb:Bool),ar=y.puts [(0,.string (bs c)),(2,.pointer (some ⟨a9,0,none⟩)),(16,.bool bb)]∧Fq g c bb=some ay∧AO [] a8 cb a0 ba) ?_ ?_
 refine AQ<|Vm<|Vx (v:=.bool (c==([116,114,117,101]:List UInt8))) (Run.strEq rfl rfl)<|Vm<|Bo a (fun ae a=>?_) fun ae a=>?_
 refine Pg ae<|Pg ae<|Vp ae<|AA<|⟨_,a8,true,Pu,a,(AO.refl [] _ _)⟩
 refine Gm ae<|Gx ae (v:=.bool (c==([102,97,108,115,101]:List UInt8))) (Run.strEq rfl rfl)<|Vp ae<|AA<|⟨_,a8,(c==([102,97,108,115,101]:List UInt8)),Pu,a,(AO.refl [] _ _)⟩
 rintro _ ba ⟨y,a0,bb,rfl,a,h⟩
 rw [Fq] at a
 refine Cn a (fun cc a=>?_) fun cc a=>?_
 refine Sr<|Vm<|Vx (v:=.bool (c==([116,114,117,101]:List UInt8))) (Run.strEq rfl rfl)<|Vx (v:=.agg [I 2,Cx (((0,0):Nat×Nat)),.bool (c==([116,114,117,101]:List UInt8)),.slice none 0 0].toArray) (Bp Ep Iq rfl (.cons rfl rfl rfl (.cons rfl rfl rfl .nil)))<|have cd:=Bs am h;Eu (St Fe cd rfl rfl rfl rfl fun en cf cg=>?_)
 refine Va (I 0)<|AA<|AZ ?_
 obtain rfl:=AP a
 refine A0 (B:=B) al (D4 rfl (.agg Dc rfl rfl (Bk.part cf 0 [I 2,Cx (((0,0):Nat×Nat)),.bool (c==([116,114,117,101]:List UInt8)),.slice none 0 0] rfl)) (.tmp rfl) ?_)
 exact ⟨a0,[I 2,Cx (((0,0):Nat×Nat)),.bool (c==([116,114,117,101]:List UInt8)),.slice none 0 0],rfl,Ho (T2 (Mo [20] an) h cg) ak,(BB (x:=(AG.mk 2 ((0,0):Nat×Nat) (c==([116,114,117,101]:List UInt8)) [])) Cd)⟩
 refine WC.skip<|Sr<|Vm<|Bi a fun f ch a=>Ca (VX [Sb c] rfl) (L4 g a0 ba ch) ?_
 rintro _ eo ⟨ci,ep,rfl,m,cj⟩
 obtain rfl:=GW cj
 refine ⟨_,rfl,?_⟩
 refine Vm<|Vr (.agg [I f.1.re,I f.1.im].toArray)<|Vr (I f.2)<|Ef (AY ci 21 ID rfl fun au eq bc ck n=>?_)
 refine Eu (St IU ck rfl rfl rfl rfl fun bn bo o=>?_)
 refine Va (I f.2)<|AA<|Ac<|Sr<|Vm<|Vr (.bool (f.2==0))<|AA<|Cn a (fun cl a=>?_) fun cl a=>?_
 refine Sr<|Vx (Run.loadN I2 rfl rfl (Bk.part bo 0 [I f.1.re,I f.1.im] rfl))<|Bi a fun a1 cm a=>Ca (VY [.agg [I f.1.re,I f.1.im].toArray] rfl) (L5 au bn cm (Ei (x:=f.1))) ?_
 rintro _ er ⟨cn,rfl,bp⟩
 refine ⟨_,rfl,?_⟩
 refine Vx (v:=.agg [I 1,Cx a1,.bool false,.slice none 0 0].toArray) (Bp Ep Iq rfl (.cons rfl rfl rfl (.cons rfl rfl rfl .nil)))<|have co:=Bs (Y4 am h m n o) bp;Eu (St Fe co rfl rfl rfl rfl fun es cq cr=>?_)
 refine Va (I 0)<|AA<|AZ ?_
 obtain rfl:=AP a
 refine A0 (B:=B) al (D4 rfl (.agg Dc rfl rfl (Bk.part cq 0 [I 1,Cx a1,.bool false,.slice none 0 0] rfl)) (.tmp rfl) ?_)
 exact ⟨cn,[I 1,Cx a1,.bool false,.slice none 0 0],rfl,Ho (T2 (T4 (Mo [20,21] an) h m n o) bp cr) ak,(BB (x:=(AG.mk 1 a1 false [])) Cd)⟩
 refine WC.skip<|Ac<|Au (fun ar bq=>∃(y:Env) (a2:Col) (bd:Bool),ar=y.puts [(0,.string (bs c)),(2,.pointer (some ⟨a9,0,none⟩)),(4,.pointer (some ⟨bc,0,none⟩)),(45,.bool bd)]∧FD g c f bd=some ay∧AO [] au bn a2 bq) ?_ ?_
 refine AQ<|Vm<|Vx (v:=I (c.length:Int)) (Run.lenStr IS rfl)<|Vr (.bool (decide ((c.length:Int)<2)))<|Vm<|Bo a (fun r a=>?_) fun r a=>?_
 refine Pg r<|Pg r<|Pg r<|Vp r<|Vm<|Pg rfl<|Pg rfl<|Pg rfl<|Pg rfl<|Pg rfl<|Pg rfl<|Vr (.bool true)<|AA<|⟨_,au,true,Pu,a,(AO.refl [] _ _)⟩
 refine Gm r<|Bi a fun br ct a=>Gx r (v:=.int .u8 (br.toNat:Int)) (Run.indexBs IS rfl rfl ct)<|Gr r (.bool ((br.toNat:Int) != ((91:UInt8).toNat:Int)))<|Vp r<|Vm<|Bo a (fun e a=>?_) fun e a=>?_
 refine Pg e<|Pg e<|Pg e<|Pg e<|Pg e<|Pg e<|Vp e<|AA<|⟨_,au,true,Pu,a,(AO.refl [] _ _)⟩
 refine Gm e<|Gm e<|Gx e (v:=I (c.length:Int)) (Run.lenStr IS rfl)<|Gr e (I (Wr ((c.length:Int) - 1)))<|Bi a fun be cu a=>Gx e (v:=.int .u8 (be.toNat:Int)) (Run.indexBs IS rfl rfl cu)<|Gr e (.bool ((be.toNat:Int) != ((93:UInt8).toNat:Int)))<|Vp e<|AA<|⟨_,au,((be.toNat:Int) != ((93:UInt8).toNat:Int)),Pu,a,(AO.refl [] _ _)⟩
 rintro _ bq ⟨y,a2,bd,rfl,a,u⟩
 rw [FD] at a
 refine Cn a (fun cv a=>?_) fun cv a=>?_
 refine Sr<|Vx (v:=.agg [I 0,Cx (((0,0):Nat×Nat)),.bool false,.slice none 0 0].toArray) (Bp Ep Iq rfl .nil)<|have cw:=Bs (Y4 am h m n o) u;Eu (St Fe cw rfl rfl rfl rfl fun et cx cy=>?_)
 refine Va (I 11)<|AA<|AZ ?_
 obtain rfl:=AP a
 refine A0 (B:=B) al (D4 rfl (.agg Dc rfl rfl (Bk.part cx 0 [I 0,Cx (((0,0):Nat×Nat)),.bool false,.slice none 0 0] rfl)) (.tmp rfl) ?_)
 exact ⟨a2,[I 0,Cx (((0,0):Nat×Nat)),.bool false,.slice none 0 0],rfl,Ho (T2 (T4 (Mo [20,21] an) h m n o) u cy) ak,(BB (x:=(AG.mk 0 ((0,0):Nat×Nat) false [])) Cd)⟩
 refine WC.skip<|Sr<|Vx (v:=.agg [I 3,Cx (((0,0):Nat×Nat)),.bool false,.slice none 0 0].toArray) (Bp Ep Iq rfl (.cons rfl rfl rfl .nil))<|Ef (AY a2 22 Ep rfl fun cz eu bt c0 af=>?_)
 refine Eu (St Fe c0 rfl rfl rfl rfl fun c1 c2 ag=>?_)
 refine AA<|Sr<|Vm<|Vm<|Vx (v:=I (c.length:Int)) (Run.lenStr IS rfl)<|Vr (I (Wr ((c.length:Int) - 1)))<|Bi a fun bu c3 a=>Vx (v:=Sb bu) (Run.sliceStr IS rfl ⟨_,rfl⟩ ⟨_,rfl⟩ c3)<|Bi a fun z c4 a=>Ca (AAM [Sb bu] rfl) (R4 g cz c1 c4) ?_
 rintro _ c5 ⟨bv,ew,rfl,aa,bw⟩
 obtain ⟨bx,bz,rfl⟩:=AI bw
 refine ⟨_,rfl,?_⟩
 refine Va (Sl bx z bz)<|AA<|Ac<|Sr<|Va (I 0)<|AA<|Ao<|CZ (fun ab ar ac=>∃(y:Env) (ah:Col) (w:Int) (a3:Int) (a4:Int) (d:(List (Nat×Nat))) (p:Option Addr) (q:Nat),ar=y.puts [(0,.string (bs c)),(2,.pointer (some ⟨a9,0,none⟩)),(4,.pointer (some ⟨bc,0,none⟩)),(6,.pointer (some ⟨bt,0,none⟩)),(7,.slice bx z.length bz),(8,.int .i64 w)]∧EO g c z ab w a3 a4 d=some ay∧AO [21,22,24] bv c5 ah ac∧Own Kd.cpx 35 ah ac 24 (Sl p d q) d∧Bk ah ac 21 bc [I a3,I a4] 111∧Bk ah ac 22 bt [I 3,Cx (((0,0):Nat×Nat)),.bool false,Sl p d q] 38) g ?_ ?_
 refine have c6:=Y4 bo u af ag aa;have c7:=Bs c2 aa;⟨_,bv,0,f.1.re,f.1.im,([]:List (Nat×Nat)),none,0,Pu,a,(AO.refl [21,22,24] _ _),Own.nil,c6,c7⟩
 rintro ab _ ac ⟨y,ah,w,a3,a4,d,p,q,rfl,a,ad,bf,c8,bg⟩
 rcases ab with _|ab
 exact BK a
 refine have a:Ee g c z (EO g c z ab) w a3 a4 d=some ay:=a; ?_
 obtain ⟨ex,b0⟩:∃s,s=EO g c z ab:=⟨_,rfl⟩
 rw [←b0,Ee] at a
 refine Ac<|Sr<|Vm<|Vm<|have b1:=Ss E9 bw ad; ?_
 obtain ⟨ey,ez,c9⟩:=AI b1
 refine Vx (v:=I (z.length:Int)) (Run.lenSlc Ir c9)<|Vr (.bool (decide (w< (z.length:Int))))<|AA<|Cn a (fun da a=>?_) fun da a=>?_
 refine WC.skip<|Ac<|Ao<|Sr<|Vm<|Vm<|Bi a fun b2 db a=>?_
 obtain ⟨dc,de,e0,b3,df,dg,dh,di,bh⟩:=BX (κ:=E9) b1 db
 replace bh:BG ah ac dc (de+w.toNat*1) b3:=bh
 obtain rfl:=(show b3=[Sb b2] from di)
 refine Vx (Run.indexAddr Ir df rfl dg dh)<|Vx (Run.load1 De rfl (BG.cell0 bh rfl))<|Bi a fun l dj a=>Ca (VX [Sb b2] rfl) (L4 g ah ac dj) ?_
 rintro _ e1 ⟨bi,e2,rfl,ao,dk⟩
 obtain rfl:=GW dk
 refine ⟨_,rfl,?_⟩
 refine Vm<|Vr (.agg [I l.1.re,I l.1.im].toArray)<|Vr (I l.2)<|have dl:=Bs c8 ao;Eu (St IU dl rfl rfl rfl rfl fun e3 dm av=>?_)
 refine Va (I l.2)<|AA<|Ac<|Sr<|Vm<|Vr (.bool (l.2 != 0))<|AA<|Cn a (fun dn a=>?_) fun dn a=>?_
 refine Sr<|Vx (v:=.agg [I 0,Cx (((0,0):Nat×Nat)),.bool false,.slice none 0 0].toArray) (Bp Ep Iq rfl .nil)<|have dp:=Y3 (Y4 (Y4 am h m n o) u af ag aa) ad ao av;Eu (St Fe dp rfl rfl rfl rfl fun e4 dq dr=>?_)
 refine Va (I 11)<|AA<|AZ ?_
 obtain rfl:=AP a
 refine A0 (B:=B) al (D4 rfl (.agg Dc rfl rfl (Bk.part dq 0 [I 0,Cx (((0,0):Nat×Nat)),.bool false,.slice none 0 0] rfl)) (.tmp rfl) ?_)
 exact ⟨bi,[I 0,Cx (((0,0):Nat×Nat)),.bool false,.slice none 0 0],rfl,Ho (T4 (T4 (T4 (Mo [20,21,22,24] an) h m n o) u af ag aa) ad ao av dr) ak,(BB (x:=(AG.mk 0 ((0,0):Nat×Nat) false [])) Cd)⟩
 refine WC.skip<|Cc Ff (.q 0 (.q 1 (.q 2 (.one 3 (.one 4 (.one 5 (.q 6 (.one 7 .nil)))))))) [7] [24] bi (by kernel_rfl) fun ds a5=>Qx az rfl (fun _ ⟨_,aw⟩=>Run.fieldAddr Ew rfl)<|have b4:=Y3 bg ao av a5;Qx az rfl (fun _ ⟨_,aw⟩=>Run.load1 Ip rfl (Bk.cell (Bs b4 aw) rfl))<|have b5:=Bs dm a5;Qx az rfl (fun _ ⟨_,aw⟩=>Run.loadN I2 rfl rfl (Bk.part (Bs b5 aw) 0 [I l.1.re,I l.1.im] rfl))<|BW rfl<|Bi a fun ai dt a=>BN rfl (.none rfl) rfl rfl (VY [.agg [I l.1.re,I l.1.im].toArray] rfl)<|Calls.mono (L5 bi ds dt (Ei (x:=l.1))) ?_
 rintro _ e5 ⟨du,rfl,aj⟩
 refine ⟨_,rfl,⟨_,(Mo [24] aj)⟩,?_⟩
 refine BW rfl<|DL rfl (.none rfl) rfl rfl (E1 (cs:=[Cx ai]) du 23 [[Cx ai]] IQ Xl rfl rfl (.cons rfl rfl rfl .nil) rfl fun dv dw dx dy ap=>?_)
 refine have dz:Own Kd.cpx 35 dv dw 23 (.slice (some ⟨dx,0,none⟩) 1 1) ([ai]:List (Nat×Nat)):=Own.lit (css:=[[Cx ai]]) dy rfl rfl rfl (Aa rfl Ba) (A9 rfl Gg) rfl;⟨⟨_,(Tn (Mo [24] aj) ap)⟩,?_⟩
 refine BW rfl<|have d0:=Os (Os (Os (Os (Os bf ao) av) a5) aj) ap;Bi a fun e6 b6 a=>DL rfl (.none rfl) rfl rfl (Ey (κ:=Kd.cpx) rfl rfl d0 dcd XQ (F3 dz) (JP b6) (Js b6) fun e7 d1 e8 bj a6=>?_)
 obtain ⟨bk,bl,rfl⟩:=Own.len bj
 refine ⟨⟨_,(T2 (Mo [24] aj) ap a6)⟩,?_⟩
 refine Qx az rfl (fun _ ⟨_,aw⟩=>Run.fieldAddr Ew rfl)<|E0 dcd<|WY.one<|have d2:=Y3 b4 aj ap a6;BT rfl (.none rfl) rfl (Bf (vs:=[Sl bk ((d++([ai]:List (Nat×Nat)))) bl]) (cs':=[I 3,Cx (((0,0):Nat×Nat)),.bool false,Sl bk ((d++([ai]:List (Nat×Nat)))) bl]) Xi rfl rfl rfl rfl (AU (Own.one bj) CI) d2 dcd rfl rfl fun e9 d3 bm=>?_)
 refine WY.nil<|AQ<|Vm<|Vr (I (Wr (w+1)))<|Va (I (Wr (w+1)))<|AA<|have d4:=Os bj bm;have d5:=Y4 b5 aj ap a6 bm;⟨ab,Nat.lt_succ_self ab,_,d1,(Wr (w+1)),l.1.re,l.1.im,(d++([ai]:List (Nat×Nat))),bk,bl,Pu,(b0▸a),(T3 (T4 (Mo [21,22,24] ad) ao av a5 aj) ap a6 bm),d4,d5,d3⟩
 refine CF<|Sr<|Vx (Run.loadN Dc rfl rfl (Bk.part bg 0 [I 3,Cx (((0,0):Nat×Nat)),.bool false,Sl p d q] rfl)) ?_
 obtain ⟨d6,fa,d7,d8⟩:=Own.lend bf dcd
 refine Bi a fun ax d9 a=>Ca (AAN [.agg [I 3,Cx (((0,0):Nat×Nat)),.bool false,Sl p d q].toArray] rfl) (Sy g d6 ac d9 (BB (x:=(AG.mk 3 ((0,0):Nat×Nat) false d)) d7)) ?_
 rintro _ fb ⟨fc,rfl,ea⟩
 obtain ⟨eb,aq⟩:=d8 [] _ _ ea dcd
 refine ⟨_,rfl,?_⟩
 refine Vm<|Vr (Sb ax.1)<|Vr (I ax.2)<|Va (Sb ax.1)<|Va (I ax.2)<|AA<|Ac<|Sr<|Vm<|Vm<|Vx (v:=.bool (!(ax.1==c))) (Run.strNe rfl rfl)<|AA<|Cn a (fun ec a=>?_) fun ec a=>?_
 refine Sr<|Vx (v:=.agg [I 0,Cx (((0,0):Nat×Nat)),.bool false,.slice none 0 0].toArray) (Bp Ep Iq rfl .nil)<|have ed:=Y2 (Y4 (Y4 am h m n o) u af ag aa) ad aq;Eu (St Fe ed rfl rfl rfl rfl fun fd ee ef=>?_)
 refine Va (I 11)<|AA<|AZ ?_
 obtain rfl:=AP a
 refine A0 (B:=B) al (D4 rfl (.agg Dc rfl rfl (Bk.part ee 0 [I 0,Cx (((0,0):Nat×Nat)),.bool false,.slice none 0 0] rfl)) (.tmp rfl) ?_)
 exact ⟨eb,[I 0,Cx (((0,0):Nat×Nat)),.bool false,.slice none 0 0],rfl,Ho (T3 (T4 (T4 (Mo [20,21,22,24] an) h m n o) u af ag aa) ad aq ef) ak,(BB (x:=(AG.mk 0 ((0,0):Nat×Nat) false [])) Cd)⟩
 refine WC.skip<|Sr<|have eg:=Bs bg aq;Vx (Run.loadN Dc rfl rfl (Bk.part eg 0 [I 3,Cx (((0,0):Nat×Nat)),.bool false,Sl p d q] rfl))<|have eh:=Y2 (Y4 (Y4 am h m n o) u af ag aa) ad aq;have b7:=Os bf aq;Eu (Bf (vs:=[I 3,Cx (((0,0):Nat×Nat)),.bool false,Sl p d q]) (cs':=[I 3,Cx (((0,0):Nat×Nat)),.bool false,Sl p d q]) Fe rfl rfl rfl rfl (AU rfl (AU rfl (AU rfl (AU (Own.one b7) CI)))) eh dcd rfl rfl fun fe ei b8=>?_)
 refine Va (I 0)<|AA<|AZ<|have ej:=Os b7 b8; ?_
 obtain ⟨ek,b9,el⟩:=Own.freeze (S:=[24]) ej dcd dcd
 obtain rfl:=AP a
 refine have em:=Bs ei b9;A0 (B:=B) al (D4 rfl (.agg Dc rfl rfl (Bk.part em 0 [I 3,Cx (((0,0):Nat×Nat)),.bool false,Sl p d q] rfl)) (.tmp rfl) ?_)
 exact ⟨ek,[I 3,Cx (((0,0):Nat×Nat)),.bool false,Sl p d q],rfl,Ho (T4 (T4 (T4 (Mo [20,21,22,24] an) h m n o) u af ag aa) ad aq b8 b9) ak,(BB (x:=(AG.mk 3 ((0,0):Nat×Nat) false d)) el)⟩
theorem R7(c:Nat):E5.Spec (E5 c):=by
 intro a d n o e
 refine Calls.mono (Q3 c (recol (see []) a) d (A3 lbr a) e) ?_
 rintro p q ⟨f,g,h,l,m⟩
 exact ⟨glue [] d a f,g,h,Ah l A2,BA Ax m⟩
def FV.At(l:Col)(c:World)(f:Bts→Option ((List AG)×Int)):Prop:=
 ∀{d:Bts} {a:(List AG)×Int},f d=some a→
  Calls Tryz.prog 28 #[Sb d] c fun m e=>∃(g:Col) (h:Value),m=.returned (.tuple #[h,I a.2])∧AO [] l c g e∧Slc Ax g.F e h a.1
def FV.Spec(f:Bts→Option ((List AG)×Int)):Prop:=
 ∀(a:Col) (c:World),FV.At a c f
theorem Q4(g:Nat)(af:Col)(az:World)(a0:∀b,af b<10):FV.At af az (FV g):=by
 intro f y a
 rw [FV] at a
 refine A5 Tryz.func28 rfl Tryz.ntmps28 rfl fun B a1 b9=>Sr<|Va (.slice none 0 0)<|Va (I 0)<|AA<|Sr<|Va (.slice none 0 0)<|AA<|Sr<|Va (I 0)<|AA<|Ac<|Ao<|CZ (fun o u ag=>∃(l:Env) (z:Col) (d:(List AG)) (p:Option Addr) (q:Nat) (e:Int),u=l.puts [(0,.string (bs f)),(4,.slice p d.length q),(5,.int .i64 e)]∧CB g f o d e=some y∧AO [20,22] af az z ag∧Own Ax 38 z ag 22 (Sl p d q) d) g ?_ ?_
 exact ⟨_,af,([]:List AG),none,0,0,Pu,a,(AO.refl [20,22] _ _),Own.nil⟩
 rintro o _ ag ⟨l,z,d,p,q,e,rfl,a,ah,ap⟩
 rcases o with _|o
 exact BK a
 refine have a:Eh g f (CB g f o) d e=some y:=a; ?_
 obtain ⟨ac,aq⟩:∃s,s=CB g f o:=⟨_,rfl⟩
 rw [←aq,Eh] at a
 refine Ac<|Sr<|Vm<|Vm<|Vx (v:=I (f.length:Int)) (Run.lenStr IS rfl)<|Vr (.bool (decide (e< (f.length:Int))))<|AA<|Cn a (fun be a=>?_) fun be a=>?_
 refine WC.skip<|Ao<|Ac<|Sr<|Vm<|Vm<|Bi a fun a2 bf a=>Vx (v:=.int .u8 (a2.toNat:Int)) (Run.indexBs IS rfl rfl bf)<|Vr (.bool ((a2.toNat:Int)==((32:UInt8).toNat:Int)))<|AA<|Cn a (fun bg a=>?_) fun bg a=>?_
 refine Sr<|Vm<|Vr (I (Wr (e+1)))<|Va (I (Wr (e+1)))<|AA<|CF<|⟨o,Nat.lt_succ_self o,_,z,d,p,q,(Wr (e+1)),Pu,(aq▸a),(Mo [20,22] ah),ap⟩
 refine WC.skip<|Sr<|Vm<|Va (I e)<|AA<|Sr<|Vm<|Vm<|Bi a fun ai bh a=>Vx (v:=.int .u8 (ai.toNat:Int)) (Run.indexBs IS rfl rfl bh)<|Vr (.bool ((ai.toNat:Int)==((91:UInt8).toNat:Int)))<|Va (.bool ((ai.toNat:Int)==((91:UInt8).toNat:Int)))<|AA<|Ac<|Ao<|CZ (fun r u ar=>∃(l:Env) (aa:Col) (h:Int) (w:Bool),u=l.puts [(0,.string (bs f)),(4,.slice p d.length q),(5,.int .i64 h),(6,.int .i64 e),(7,.bool w)]∧Dp g f d e ac r h w=some y∧AO [] z ag aa ar) g ?_ ?_
 exact ⟨_,z,e,((ai.toNat:Int)==((91:UInt8).toNat:Int)),Pu,a,(AO.refl [] _ _)⟩
 rintro r _ ar ⟨l,aa,h,w,rfl,a,aj⟩
 rcases r with _|r
 exact BK a
 refine have a:Eg g f d e ac (Dp g f d e ac r) h w=some y:=a; ?_
 obtain ⟨a3,a4⟩:∃s,s=Dp g f d e ac r:=⟨_,rfl⟩
 rw [←a4,Eg] at a
 refine Ac<|Au (fun u ak=>∃(l:Env) (ab:Col) (au:Bool),u=l.puts [(0,.string (bs f)),(4,.slice p d.length q),(5,.int .i64 h),(6,.int .i64 e),(7,.bool w),(37,.bool au)]∧D1 g f d e ac h w a3 au=some y∧AO [] aa ar ab ak) ?_ ?_
 refine AQ<|Vm<|Vm<|Vx (v:=I (f.length:Int)) (Run.lenStr IS rfl)<|Vr (.bool (decide (h< (f.length:Int))))<|Vm<|Bo a (fun m a=>?_) fun m a=>?_
 refine Gm m<|Gm m<|Bo a (fun n a=>?_) fun n a=>?_
 refine Pg n<|Pg n<|Pg n<|Pg n<|Gp m n<|Vp m<|AA<|⟨_,aa,true,Pu,a,(AO.refl [] _ _)⟩
 refine Gm n<|Gm n<|Bi a fun av bi a=>Gx n (v:=.int .u8 (av.toNat:Int)) (Run.indexBs IS rfl rfl bi)<|Gr n (.bool ((av.toNat:Int) != ((32:UInt8).toNat:Int)))<|Gp m n<|Vp m<|AA<|⟨_,aa,((av.toNat:Int) != ((32:UInt8).toNat:Int)),Pu,a,(AO.refl [] _ _)⟩
 refine Pg m<|Pg m<|Po<|Po<|Po<|Po<|Pg m<|Vp m<|AA<|⟨_,aa,false,Pu,a,(AO.refl [] _ _)⟩
 rintro _ ak ⟨l,ab,au,rfl,a,al⟩
 rw [D1] at a
 refine Cn a (fun bj a=>?_) fun bj a=>?_
 refine WC.skip<|Ao<|Au (fun u a5=>∃(l:Env) (aw:Col) (am:Bool),u=l.puts [(0,.string (bs f)),(4,.slice p d.length q),(5,.int .i64 h),(6,.int .i64 e),(7,.bool am)]∧Gv h a3 am=some y∧AO [] ab ak aw a5) ?_ ?_
 refine Sr<|Vm<|Vm<|Bi a fun a6 bk a=>Vx (v:=.int .u8 (a6.toNat:Int)) (Run.indexBs IS rfl rfl bk)<|Vr (.bool ((a6.toNat:Int)==((93:UInt8).toNat:Int)))<|AA<|Cn a (fun bl a=>?_) fun bl a=>?_
 refine AQ<|Va (.bool false)<|AA<|⟨_,ab,false,Pu,a,(AO.refl [] _ _)⟩
 refine WC.skip<|⟨_,ab,w,Pu,a,(AO.refl [] _ _)⟩
 rintro _ a5 ⟨l,aw,am,rfl,a,bm⟩
 rw [Gv] at a
 refine AQ<|Vm<|Vr (I (Wr (h+1)))<|Va (I (Wr (h+1)))<|AA<|⟨r,Nat.lt_succ_self r,_,aw,(Wr (h+1)),am,Pu,(a4▸a),(T2 (Mo [] aj) al bm)⟩
 refine CF<|Sr<|Vm<|Vm<|Vm<|Bi a fun a7 bn a=>Vx (v:=Sb a7) (Run.sliceStr IS rfl ⟨_,rfl⟩ ⟨_,rfl⟩ bn)<|Bi a fun c bo a=>Ca (AAE [Sb a7] rfl) (R7 g ab ak bo) ?_
 rintro _ ca ⟨bp,cb,rfl,ax,bq⟩
 obtain ⟨cc,rfl,a8⟩:=Bt bq
 obtain ⟨ad,ae,rfl⟩:=AI a8
 refine ⟨_,rfl,?_⟩
 refine Vm<|Vr (.agg [I c.1.type_,Cx c.1.num,.bool c.1.bool,Sl ad c.1.list ae].toArray)<|Vr (I c.2)<|Ef (AY bp 20 Ep rfl fun a9 cd cf br an=>?_)
 refine have bt:=Ss Kd.cpx a8 an;Eu (St Fe br rfl rfl rfl rfl fun cg bu ao=>?_)
 refine Va (I c.2)<|AA<|Ac<|Sr<|Vm<|Vr (.bool (c.2 != 0))<|AA<|Cn a (fun bv a=>?_) fun bv a=>?_
 refine Sr<|Va (.slice none 0 0)<|Va (I 11)<|AA<|AZ ?_
 obtain rfl:=AP a
 refine A0 (B:=B) a1 (D4 rfl (.tmp rfl) (.tmp rfl) ?_)
 exact ⟨a9,.slice none 0 0,rfl,Ho (Tn (T4 (Mo [20,22] ah) aj al ax an) ao) a0,Cd⟩
 refine WC.skip<|AQ<|Vm<|Vx (Run.loadN Dc rfl rfl (Bk.part bu 0 [I c.1.type_,Cx c.1.num,.bool c.1.bool,Sl ad c.1.list ae] rfl))<|Ef (E1 (cs:=[I c.1.type_,Cx c.1.num,.bool c.1.bool,Sl ad c.1.list ae]) a9 21 [[I c.1.type_,Cx c.1.num,.bool c.1.bool,Sl ad c.1.list ae]] L2 Ep rfl rfl (.cons rfl rfl rfl .nil) rfl fun bw bx bz b0 ay=>?_)
 refine have b1:=K2 Kd.cpx bt ao ay;have b2:Own Ax 38 bw bx 21 (.slice (some ⟨bz,0,none⟩) 1 1) ([c.1]:List AG):=Own.lit (css:=[[I c.1.type_,Cx c.1.num,.bool c.1.bool,Sl ad c.1.list ae]]) b0 rfl rfl rfl (Aa (BB (x:=c.1) b1) Ba) (A9 rfl Gg) rfl;have b3:=Os (Os (Os (Os (Os (Os ap aj) al) ax) an) ao) ay;Bi a fun ch ba a=>Ef (Ey (κ:=Ax) rfl rfl b3 dcd XP (F3 b2) (JP ba) (Js ba) fun ci b4 cj bb b5=>?_)
 obtain ⟨bc,bd,rfl⟩:=Own.len bb
 refine Va (Sl bc ((d++([c.1]:List AG))) bd)<|AA<|⟨o,Nat.lt_succ_self o,_,b4,(d++([c.1]:List AG)),bc,bd,h,Pu,(aq▸a),(T3 (T4 (Mo [20,22] ah) aj al ax an) ao ay b5),bb⟩
 refine CF<|Sr<|Vm<|Va (Sl p d q)<|Va (I 0)<|AA<|AZ ?_
 obtain ⟨b6,b7,b8⟩:=Own.freeze (S:=[22]) ap dcd dcd
 obtain rfl:=AP a
 refine A0 (B:=B) a1 (D4 rfl (.tmp rfl) (.tmp rfl) ?_)
 exact ⟨b6,Sl p d q,rfl,Ho (Tn (Mo [20,22] ah) b7) a0,b8⟩
theorem R8(c:Nat):FV.Spec (FV c):=by
 intro a d n o e
 refine Calls.mono (Q4 c (recol (see []) a) d (A3 lbr a) e) ?_
 rintro p q ⟨f,g,h,l,m⟩
 exact ⟨glue [] d a f,g,h,Ah l A2,Et Ax m⟩
def Br.At(g:Col)(c:World)(f:Dy→Option (AN×(List AG)×Bool)):Prop:=
 ∀{h:Dy} {l:List Value} {a:AN×(List AG)×Bool},f h=some a→Kv.rep g.F c l h→
  Calls Tryz.prog 11 #[.agg l.toArray] c fun n d=>∃(e:Col) (m:List Value) (u1:Value),n=.returned (.tuple #[.agg m.toArray,u1,.bool a.2.2])∧AO [] g c e d∧Cp.rep e.F d m a.1∧Slc Ax e.F d u1 a.2.1
def Br.Spec(f:Dy→Option (AN×(List AG)×Bool)):Prop:=
 ∀(a:Col) (c:World),Br.At a c f
theorem PA(m:Nat)(cl:Col)(er:World)(es:∀b,cl b<10):Br.At cl er (Br m):=by
 intro o k8 d1 a et
 rw [Br] at a
 obtain ⟨k9,rfl,r⟩:=PP et
 obtain ⟨w,y,rfl⟩:=AI r
 refine A5 Tryz.func11 rfl Tryz.ntmps11 rfl fun B eu c=>Sr<|Ef (By cl 20 rfl rfl fun ew la ex d2 s=>?_)
 refine Ef (AY ew 21 I4 rfl fun bb ey cm d3 n=>?_)
 refine Va (.slice none 0 0)<|Va (.bool false)<|AA<|Au (fun cn az=>∃(bc:Env) (a0:Col) (co:Nat) (cq:Nat) (ap:(List AK)) (a1:Option Addr) (a2:Nat) (b2:Int) (d4:Int),cn=bc.puts [(1,.pointer (some ⟨ex,0,none⟩)),(2,.pointer (some ⟨cm,0,none⟩)),(5,.pointer (some ⟨co,0,none⟩)),(6,.pointer (some ⟨cq,0,none⟩))]∧Fr m o ap b2=some d1∧AO [22,23] bb ey a0 az∧Slc AL a0.F az (Sl a1 ap a2) ap∧Bk a0 az 22 co [Sl a1 ap a2] 28∧Bk a0 az 23 cq [I b2,I d4] 63) ?_ ?_
 refine Cc Ff (.q 0 (.q 1 (.three 2 7 8 (.three 3 7 8 (.q 4 (.q 5 (.q 6 (.two 7 8 (.one 8 (.one 9 (.one 10 .nil))) (.one 7 (.one 9 (.one 10 .nil))))))) (.two 3 8 (.q 4 (.q 5 (.q 6 (.one 8 (.one 9 (.one 10 .nil)))))) (.one 3 (.q 4 (.q 5 (.q 6 (.one 9 (.one 10 .nil))))))) (.two 3 7 (.q 4 (.q 5 (.q 6 (.one 7 (.one 9 (.one 10 .nil)))))) (.one 3 (.q 4 (.q 5 (.q 6 (.one 9 (.one 10 .nil)))))))) (.two 2 8 (.two 3 8 (.q 4 (.q 5 (.q 6 (.one 8 (.one 9 (.one 10 .nil)))))) (.one 3 (.q 4 (.q 5 (.q 6 (.one 9 (.one 10 .nil))))))) (.one 2 (.one 3 (.q 4 (.q 5 (.q 6 (.one 9 (.one 10 .nil)))))))) (.two 2 7 (.two 3 7 (.q 4 (.q 5 (.q 6 (.one 7 (.one 9 (.one 10 .nil)))))) (.one 3 (.q 4 (.q 5 (.q 6 (.one 9 (.one 10 .nil))))))) (.one 2 (.one 3 (.q 4 (.q 5 (.q 6 (.one 9 (.one 10 .nil))))))))))) [10] [22] bb (by kernel_rfl) fun ez g=>Qx c rfl (fun _ ⟨_,d⟩=>Run.fieldAddr0 XS rfl)<|have e0:=Y2 d2 n g;Qx c rfl (fun _ ⟨_,d⟩=>Run.load1 AAh rfl (Bk.cell (Bs e0 d) rfl))<|UZ rfl rfl rfl ?_ ?_ ?_
 refine Bi a fun f e1 a=>BN rfl (.none rfl) rfl rfl (Rj [] rfl)<|Calls.mono (J7 bb ez e1) ?_
 rintro _ e2 ⟨cr,lb,rfl,e,e3⟩
 obtain rfl:=JF e3
 refine ⟨_,rfl,⟨_,(Mo [22] e)⟩,?_⟩
 refine UZ rfl rfl rfl ?_ ?_ ?_
 refine have e4:=K4 Kd.u8 r s n g e;Bi a fun u e5 a=>BN rfl (.none rfl) rfl rfl (Lx [Sl w o.text y,.agg [I f.text,I f.funcs,I f.arity,I f.nest].toArray] rfl)<|Calls.mono (EW m cr e2 e5 e4 (EX (x:=f))) ?_
 rintro _ lc ⟨d5,ld,le,rfl,ae,e6,e7⟩
 obtain ⟨lf,rfl,ct⟩:=Bl e6
 obtain ⟨b3,b4,rfl⟩:=AI ct
 obtain rfl:=An e7
 refine ⟨_,rfl,⟨_,(Tn (Mo [22] e) ae)⟩,?_⟩
 refine Qx c rfl (v:=.tuple #[.agg [Sl b3 u.1.funcs b4].toArray,.agg [I u.2.why,I u.2.at_].toArray]) (fun _ ⟨_,d⟩=>Run.move rfl)<|Qx c rfl (v:=.agg [Sl b3 u.1.funcs b4].toArray) (fun _ ⟨_,d⟩=>rfl)<|Qx c rfl (v:=.agg [I u.2.why,I u.2.at_].toArray) (fun _ ⟨_,d⟩=>rfl)<|N2 rfl rfl ?_ ?_
 refine DL rfl (.none rfl) rfl rfl (AY d5 22 I4 rfl fun e8 lg e9 fa bd=>?_)
 refine ⟨⟨_,(T2 (Mo [22] e) ae bd)⟩,?_⟩
 refine BW rfl<|DL rfl (.none rfl) rfl rfl (AY e8 23 Is rfl fun fb lh fc fd be=>?_)
 refine ⟨⟨_,(T3 (Mo [22] e) ae bd be)⟩,?_⟩
 refine BW rfl<|have fe:=Bs fa be;have ff:=K2 AL ct bd be;BT rfl (.none rfl) rfl (St Hz fe rfl rfl rfl rfl fun li fg b5=>?_)
 refine ⟨⟨_,(T4 (Mo [22] e) ae bd be b5)⟩,?_⟩
 refine E0 dcd<|WY.one<|have fh:=Bs fd b5;BT rfl (.none rfl) rfl (St H0 fh rfl rfl rfl rfl fun lj fi cu=>?_)
 refine WY.nil<|have fj:=K2 AL ff b5 cu;have fk:=Bs fg cu;⟨_,fb,e9,fc,u.1.funcs,b3,b4,u.2.why,u.2.at_,Pu,a,(T2 (T4 (Mo [22,23] g) e ae bd be) b5 cu),fj,fk,fi⟩
 refine DL rfl (.none rfl) rfl rfl (AY d5 23 Is rfl fun fl lk fm fn bf=>?_)
 refine ⟨⟨_,(T2 (Mo [22] e) ae bf)⟩,?_⟩
 refine BW rfl<|DL rfl (.none rfl) rfl rfl (AY fl 22 I4 rfl fun fo ll fp fq bg=>?_)
 refine ⟨⟨_,(T3 (Mo [22] e) ae bf bg)⟩,?_⟩
 refine BW rfl<|have fr:=K2 AL ct bf bg;BT rfl (.none rfl) rfl (St Hz fq rfl rfl rfl rfl fun lm fs b6=>?_)
 refine ⟨⟨_,(T4 (Mo [22] e) ae bf bg b6)⟩,?_⟩
 refine E0 dcd<|WY.one<|have ft:=Y2 fn bg b6;BT rfl (.none rfl) rfl (St H0 ft rfl rfl rfl rfl fun ln fu cv=>?_)
 refine WY.nil<|have fv:=K2 AL fr b6 cv;have fw:=Bs fs cv;⟨_,fo,fp,fm,u.1.funcs,b3,b4,u.2.why,u.2.at_,Pu,a,(T2 (T4 (Mo [22,23] g) e ae bf bg) b6 cv),fv,fw,fu⟩
 refine DL rfl (.none rfl) rfl rfl (AY cr 22 I4 rfl fun d6 fx d7 d8 z=>?_)
 refine ⟨⟨_,(Tn (Mo [22] e) z)⟩,?_⟩
 refine N2 rfl rfl ?_ ?_
 refine have fy:=Ss Kd.u8 (K4 Kd.u8 r s n g e) z;Bi a fun af fz a=>BN rfl (.none rfl) rfl rfl (Lx [Sl w o.text y,.agg [I f.text,I f.funcs,I f.arity,I f.nest].toArray] rfl)<|Calls.mono (EW m d6 fx fz fy (EX (x:=f))) ?_
 rintro _ lo ⟨f0,lp,lq,rfl,bh,f1,f2⟩
 obtain ⟨lr,rfl,d9⟩:=Bl f1
 obtain ⟨cw,cx,rfl⟩:=AI d9
 obtain rfl:=An f2
 refine ⟨_,rfl,⟨_,(T2 (Mo [22] e) z bh)⟩,?_⟩
 refine Qx c rfl (v:=.tuple #[.agg [Sl cw af.1.funcs cx].toArray,.agg [I af.2.why,I af.2.at_].toArray]) (fun _ ⟨_,d⟩=>Run.move rfl)<|Qx c rfl (v:=.agg [Sl cw af.1.funcs cx].toArray) (fun _ ⟨_,d⟩=>rfl)<|Qx c rfl (v:=.agg [I af.2.why,I af.2.at_].toArray) (fun _ ⟨_,d⟩=>rfl)<|BW rfl<|DL rfl (.none rfl) rfl rfl (AY f0 23 Is rfl fun f3 ls f4 f5 bi=>?_)
 refine ⟨⟨_,(T3 (Mo [22] e) z bh bi)⟩,?_⟩
 refine BW rfl<|have f6:=Y2 d8 bh bi;have f7:=Ss AL d9 bi;BT rfl (.none rfl) rfl (St Hz f6 rfl rfl rfl rfl fun lt f8 b7=>?_)
 refine ⟨⟨_,(T4 (Mo [22] e) z bh bi b7)⟩,?_⟩
 refine E0 dcd<|WY.one<|have f9:=Bs f5 b7;BT rfl (.none rfl) rfl (St H0 f9 rfl rfl rfl rfl fun lu ga cy=>?_)
 refine WY.nil<|have gb:=K2 AL f7 b7 cy;have gc:=Bs f8 cy;⟨_,f3,d7,f4,af.1.funcs,cw,cx,af.2.why,af.2.at_,Pu,a,(T2 (T4 (Mo [22,23] g) e z bh bi) b7 cy),gb,gc,ga⟩
 refine DL rfl (.none rfl) rfl rfl (AY d6 23 Is rfl fun gd ge gf gg a3=>?_)
 refine ⟨⟨_,(T2 (Mo [22] e) z a3)⟩,?_⟩
 refine BW rfl<|have gh:=K2 Kd.u8 (K4 Kd.u8 r s n g e) z a3;Bi a fun ag gi a=>BN rfl (.none rfl) rfl rfl (Lx [Sl w o.text y,.agg [I f.text,I f.funcs,I f.arity,I f.nest].toArray] rfl)<|Calls.mono (EW m gd ge gi gh (EX (x:=f))) ?_
 rintro _ lv ⟨gj,lw,lx,rfl,bj,gk,gl⟩
 obtain ⟨ly,rfl,ea⟩:=Bl gk
 obtain ⟨cz,c0,rfl⟩:=AI ea
 obtain rfl:=An gl
 refine ⟨_,rfl,⟨_,(T3 (Mo [22] e) z a3 bj)⟩,?_⟩
 refine Qx c rfl (v:=.tuple #[.agg [Sl cz ag.1.funcs c0].toArray,.agg [I ag.2.why,I ag.2.at_].toArray]) (fun _ ⟨_,d⟩=>Run.move rfl)<|Qx c rfl (v:=.agg [Sl cz ag.1.funcs c0].toArray) (fun _ ⟨_,d⟩=>rfl)<|Qx c rfl (v:=.agg [I ag.2.why,I ag.2.at_].toArray) (fun _ ⟨_,d⟩=>rfl)<|BW rfl<|have gm:=Y2 d8 a3 bj;BT rfl (.none rfl) rfl (St Hz gm rfl rfl rfl rfl fun lz gn b8=>?_)
 refine ⟨⟨_,(T4 (Mo [22] e) z a3 bj b8)⟩,?_⟩
 refine E0 dcd<|WY.one<|have go:=Y2 gg bj b8;BT rfl (.none rfl) rfl (St H0 go rfl rfl rfl rfl fun l0 gp c1=>?_)
 refine WY.nil<|have gq:=K2 AL ea b8 c1;have gr:=Bs gn c1;⟨_,gj,d7,gf,ag.1.funcs,cz,c0,ag.2.why,ag.2.at_,Pu,a,(T2 (T4 (Mo [22,23] g) e z a3 bj) b8 c1),gq,gr,gp⟩
 refine DL rfl (.none rfl) rfl rfl (AY cr 23 Is rfl fun eb gs ec ed aa=>?_)
 refine ⟨⟨_,(Tn (Mo [22] e) aa)⟩,?_⟩
 refine N2 rfl rfl ?_ ?_
 refine have gt:=Ss Kd.u8 (K4 Kd.u8 r s n g e) aa;Bi a fun ah gu a=>BN rfl (.none rfl) rfl rfl (Lx [Sl w o.text y,.agg [I f.text,I f.funcs,I f.arity,I f.nest].toArray] rfl)<|Calls.mono (EW m eb gs gu gt (EX (x:=f))) ?_
 rintro _ l1 ⟨gv,l2,l3,rfl,bk,gw,gx⟩
 obtain ⟨l4,rfl,ee⟩:=Bl gw
 obtain ⟨c2,c3,rfl⟩:=AI ee
 obtain rfl:=An gx
 refine ⟨_,rfl,⟨_,(T2 (Mo [22] e) aa bk)⟩,?_⟩
 refine Qx c rfl (v:=.tuple #[.agg [Sl c2 ah.1.funcs c3].toArray,.agg [I ah.2.why,I ah.2.at_].toArray]) (fun _ ⟨_,d⟩=>Run.move rfl)<|Qx c rfl (v:=.agg [Sl c2 ah.1.funcs c3].toArray) (fun _ ⟨_,d⟩=>rfl)<|Qx c rfl (v:=.agg [I ah.2.why,I ah.2.at_].toArray) (fun _ ⟨_,d⟩=>rfl)<|BW rfl<|DL rfl (.none rfl) rfl rfl (AY gv 22 I4 rfl fun gy l5 gz g0 bl=>?_)
 refine ⟨⟨_,(T3 (Mo [22] e) aa bk bl)⟩,?_⟩
 refine BW rfl<|have g1:=Ss AL ee bl;BT rfl (.none rfl) rfl (St Hz g0 rfl rfl rfl rfl fun l6 g2 b9=>?_)
 refine ⟨⟨_,(T4 (Mo [22] e) aa bk bl b9)⟩,?_⟩
 refine E0 dcd<|WY.one<|have g3:=Y3 ed bk bl b9;BT rfl (.none rfl) rfl (St H0 g3 rfl rfl rfl rfl fun l7 g4 c4=>?_)
 refine WY.nil<|have g5:=K2 AL g1 b9 c4;have g6:=Bs g2 c4;⟨_,gy,gz,ec,ah.1.funcs,c2,c3,ah.2.why,ah.2.at_,Pu,a,(T2 (T4 (Mo [22,23] g) e aa bk bl) b9 c4),g5,g6,g4⟩
 refine DL rfl (.none rfl) rfl rfl (AY eb 22 I4 rfl fun g7 g8 g9 ha a4=>?_)
 refine ⟨⟨_,(T2 (Mo [22] e) aa a4)⟩,?_⟩
 refine BW rfl<|have hb:=K2 Kd.u8 (K4 Kd.u8 r s n g e) aa a4;Bi a fun ai hc a=>BN rfl (.none rfl) rfl rfl (Lx [Sl w o.text y,.agg [I f.text,I f.funcs,I f.arity,I f.nest].toArray] rfl)<|Calls.mono (EW m g7 g8 hc hb (EX (x:=f))) ?_
 rintro _ l8 ⟨hd,l9,ma,rfl,bm,he,hf⟩
 obtain ⟨mb,rfl,ef⟩:=Bl he
 obtain ⟨c5,c6,rfl⟩:=AI ef
 obtain rfl:=An hf
 refine ⟨_,rfl,⟨_,(T3 (Mo [22] e) aa a4 bm)⟩,?_⟩
 refine Qx c rfl (v:=.tuple #[.agg [Sl c5 ai.1.funcs c6].toArray,.agg [I ai.2.why,I ai.2.at_].toArray]) (fun _ ⟨_,d⟩=>Run.move rfl)<|Qx c rfl (v:=.agg [Sl c5 ai.1.funcs c6].toArray) (fun _ ⟨_,d⟩=>rfl)<|Qx c rfl (v:=.agg [I ai.2.why,I ai.2.at_].toArray) (fun _ ⟨_,d⟩=>rfl)<|BW rfl<|have hg:=Bs ha bm;BT rfl (.none rfl) rfl (St Hz hg rfl rfl rfl rfl fun mc hh ca=>?_)
 refine ⟨⟨_,(T4 (Mo [22] e) aa a4 bm ca)⟩,?_⟩
 refine E0 dcd<|WY.one<|have hi:=Y3 ed a4 bm ca;BT rfl (.none rfl) rfl (St H0 hi rfl rfl rfl rfl fun md hj c7=>?_)
 refine WY.nil<|have hk:=K2 AL ef ca c7;have hl:=Bs hh c7;⟨_,hd,g9,ec,ai.1.funcs,c5,c6,ai.2.why,ai.2.at_,Pu,a,(T2 (T4 (Mo [22,23] g) e aa a4 bm) ca c7),hk,hl,hj⟩
 refine DL rfl (.none rfl) rfl rfl (AY bb 22 I4 rfl fun eg hm c8 c9 h=>?_)
 refine ⟨⟨_,(Mo [22] h)⟩,?_⟩
 refine N2 rfl rfl ?_ ?_
 refine Bi a fun ac hn a=>BN rfl (.none rfl) rfl rfl (Rj [] rfl)<|Calls.mono (J7 eg hm hn) ?_
 rintro _ ho ⟨eh,me,rfl,p,hp⟩
 obtain rfl:=JF hp
 refine ⟨_,rfl,⟨_,(Tn (Mo [22] h) p)⟩,?_⟩
 refine N2 rfl rfl ?_ ?_
 refine have hq:=Ss Kd.u8 (K4 Kd.u8 r s n g h) p;Bi a fun aj hr a=>BN rfl (.none rfl) rfl rfl (Lx [Sl w o.text y,.agg [I ac.text,I ac.funcs,I ac.arity,I ac.nest].toArray] rfl)<|Calls.mono (EW m eh ho hr hq (EX (x:=ac))) ?_
 rintro _ mf ⟨hs,mg,mh,rfl,bn,ht,hu⟩
 obtain ⟨mi,rfl,ei⟩:=Bl ht
 obtain ⟨da,db,rfl⟩:=AI ei
 obtain rfl:=An hu
 refine ⟨_,rfl,⟨_,(T2 (Mo [22] h) p bn)⟩,?_⟩
 refine Qx c rfl (v:=.tuple #[.agg [Sl da aj.1.funcs db].toArray,.agg [I aj.2.why,I aj.2.at_].toArray]) (fun _ ⟨_,d⟩=>Run.move rfl)<|Qx c rfl (v:=.agg [Sl da aj.1.funcs db].toArray) (fun _ ⟨_,d⟩=>rfl)<|Qx c rfl (v:=.agg [I aj.2.why,I aj.2.at_].toArray) (fun _ ⟨_,d⟩=>rfl)<|BW rfl<|DL rfl (.none rfl) rfl rfl (AY hs 23 Is rfl fun hw mj hx hy bo=>?_)
 refine ⟨⟨_,(T3 (Mo [22] h) p bn bo)⟩,?_⟩
 refine BW rfl<|have hz:=Y3 c9 p bn bo;have h0:=Ss AL ei bo;BT rfl (.none rfl) rfl (St Hz hz rfl rfl rfl rfl fun mk h1 cb=>?_)
 refine ⟨⟨_,(T4 (Mo [22] h) p bn bo cb)⟩,?_⟩
 refine E0 dcd<|WY.one<|have h2:=Bs hy cb;BT rfl (.none rfl) rfl (St H0 h2 rfl rfl rfl rfl fun ml h3 dc=>?_)
 refine WY.nil<|have h4:=K2 AL h0 cb dc;have h5:=Bs h1 dc;⟨_,hw,c8,hx,aj.1.funcs,da,db,aj.2.why,aj.2.at_,Pu,a,(T2 (T4 (Mo [22,23] g) h p bn bo) cb dc),h4,h5,h3⟩
 refine DL rfl (.none rfl) rfl rfl (AY eh 23 Is rfl fun h6 h7 h8 h9 a5=>?_)
 refine ⟨⟨_,(T2 (Mo [22] h) p a5)⟩,?_⟩
 refine BW rfl<|have ia:=K2 Kd.u8 (K4 Kd.u8 r s n g h) p a5;Bi a fun ak ib a=>BN rfl (.none rfl) rfl rfl (Lx [Sl w o.text y,.agg [I ac.text,I ac.funcs,I ac.arity,I ac.nest].toArray] rfl)<|Calls.mono (EW m h6 h7 ib ia (EX (x:=ac))) ?_
 rintro _ mm ⟨ic,mn,mo,rfl,bp,id,ie⟩
 obtain ⟨mp,rfl,ej⟩:=Bl id
 obtain ⟨de,df,rfl⟩:=AI ej
 obtain rfl:=An ie
 refine ⟨_,rfl,⟨_,(T3 (Mo [22] h) p a5 bp)⟩,?_⟩
 refine Qx c rfl (v:=.tuple #[.agg [Sl de ak.1.funcs df].toArray,.agg [I ak.2.why,I ak.2.at_].toArray]) (fun _ ⟨_,d⟩=>Run.move rfl)<|Qx c rfl (v:=.agg [Sl de ak.1.funcs df].toArray) (fun _ ⟨_,d⟩=>rfl)<|Qx c rfl (v:=.agg [I ak.2.why,I ak.2.at_].toArray) (fun _ ⟨_,d⟩=>rfl)<|BW rfl<|have ig:=Y3 c9 p a5 bp;BT rfl (.none rfl) rfl (St Hz ig rfl rfl rfl rfl fun mq ih cc=>?_)
 refine ⟨⟨_,(T4 (Mo [22] h) p a5 bp cc)⟩,?_⟩
 refine E0 dcd<|WY.one<|have ii:=Y2 h9 bp cc;BT rfl (.none rfl) rfl (St H0 ii rfl rfl rfl rfl fun mr ij dg=>?_)
 refine WY.nil<|have ik:=K2 AL ej cc dg;have il:=Bs ih dg;⟨_,ic,c8,h8,ak.1.funcs,de,df,ak.2.why,ak.2.at_,Pu,a,(T2 (T4 (Mo [22,23] g) h p a5 bp) cc dg),ik,il,ij⟩
 refine DL rfl (.none rfl) rfl rfl (AY eg 23 Is rfl fun im io ip iq ar=>?_)
 refine ⟨⟨_,(Tn (Mo [22] h) ar)⟩,?_⟩
 refine BW rfl<|Bi a fun bq ir a=>BN rfl (.none rfl) rfl rfl (Rj [] rfl)<|Calls.mono (J7 im io ir) ?_
 rintro _ it ⟨iu,ms,rfl,au,iv⟩
 obtain rfl:=JF iv
 refine ⟨_,rfl,⟨_,(T2 (Mo [22] h) ar au)⟩,?_⟩
 refine BW rfl<|have iw:=K2 Kd.u8 (K4 Kd.u8 r s n g h) ar au;Bi a fun al ix a=>BN rfl (.none rfl) rfl rfl (Lx [Sl w o.text y,.agg [I bq.text,I bq.funcs,I bq.arity,I bq.nest].toArray] rfl)<|Calls.mono (EW m iu it ix iw (EX (x:=bq))) ?_
 rintro _ mt ⟨iy,mu,mv,rfl,br,iz,i0⟩
 obtain ⟨mw,rfl,ek⟩:=Bl iz
 obtain ⟨dh,di,rfl⟩:=AI ek
 obtain rfl:=An i0
 refine ⟨_,rfl,⟨_,(T3 (Mo [22] h) ar au br)⟩,?_⟩
 refine Qx c rfl (v:=.tuple #[.agg [Sl dh al.1.funcs di].toArray,.agg [I al.2.why,I al.2.at_].toArray]) (fun _ ⟨_,d⟩=>Run.move rfl)<|Qx c rfl (v:=.agg [Sl dh al.1.funcs di].toArray) (fun _ ⟨_,d⟩=>rfl)<|Qx c rfl (v:=.agg [I al.2.why,I al.2.at_].toArray) (fun _ ⟨_,d⟩=>rfl)<|BW rfl<|have i1:=Y3 c9 ar au br;BT rfl (.none rfl) rfl (St Hz i1 rfl rfl rfl rfl fun mx i2 cd=>?_)
 refine ⟨⟨_,(T4 (Mo [22] h) ar au br cd)⟩,?_⟩
 refine E0 dcd<|WY.one<|have i3:=Y3 iq au br cd;BT rfl (.none rfl) rfl (St H0 i3 rfl rfl rfl rfl fun my i4 dj=>?_)
 refine WY.nil<|have i5:=K2 AL ek cd dj;have i6:=Bs i2 dj;⟨_,iy,c8,ip,al.1.funcs,dh,di,al.2.why,al.2.at_,Pu,a,(T2 (T4 (Mo [22,23] g) h ar au br) cd dj),i5,i6,i4⟩
 refine DL rfl (.none rfl) rfl rfl (AY bb 23 Is rfl fun el i7 dk dl l=>?_)
 refine ⟨⟨_,(Mo [22] l)⟩,?_⟩
 refine N2 rfl rfl ?_ ?_
 refine Bi a fun ad i8 a=>BN rfl (.none rfl) rfl rfl (Rj [] rfl)<|Calls.mono (J7 el i7 i8) ?_
 rintro _ i9 ⟨em,mz,rfl,q,ja⟩
 obtain rfl:=JF ja
 refine ⟨_,rfl,⟨_,(Tn (Mo [22] l) q)⟩,?_⟩
 refine N2 rfl rfl ?_ ?_
 refine have jb:=Ss Kd.u8 (K4 Kd.u8 r s n g l) q;Bi a fun am jc a=>BN rfl (.none rfl) rfl rfl (Lx [Sl w o.text y,.agg [I ad.text,I ad.funcs,I ad.arity,I ad.nest].toArray] rfl)<|Calls.mono (EW m em i9 jc jb (EX (x:=ad))) ?_
 rintro _ m0 ⟨jd,m1,m2,rfl,bt,je,jf⟩
 obtain ⟨m3,rfl,en⟩:=Bl je
 obtain ⟨dm,dn,rfl⟩:=AI en
 obtain rfl:=An jf
 refine ⟨_,rfl,⟨_,(T2 (Mo [22] l) q bt)⟩,?_⟩
 refine Qx c rfl (v:=.tuple #[.agg [Sl dm am.1.funcs dn].toArray,.agg [I am.2.why,I am.2.at_].toArray]) (fun _ ⟨_,d⟩=>Run.move rfl)<|Qx c rfl (v:=.agg [Sl dm am.1.funcs dn].toArray) (fun _ ⟨_,d⟩=>rfl)<|Qx c rfl (v:=.agg [I am.2.why,I am.2.at_].toArray) (fun _ ⟨_,d⟩=>rfl)<|BW rfl<|DL rfl (.none rfl) rfl rfl (AY jd 22 I4 rfl fun jg m4 jh ji bu=>?_)
 refine ⟨⟨_,(T3 (Mo [22] l) q bt bu)⟩,?_⟩
 refine BW rfl<|have jj:=Ss AL en bu;BT rfl (.none rfl) rfl (St Hz ji rfl rfl rfl rfl fun m5 jk cf=>?_)
 refine ⟨⟨_,(T4 (Mo [22] l) q bt bu cf)⟩,?_⟩
 refine E0 dcd<|WY.one<|have jl:=Y4 dl q bt bu cf;BT rfl (.none rfl) rfl (St H0 jl rfl rfl rfl rfl fun m6 jm dp=>?_)
 refine WY.nil<|have jn:=K2 AL jj cf dp;have jo:=Bs jk dp;⟨_,jg,jh,dk,am.1.funcs,dm,dn,am.2.why,am.2.at_,Pu,a,(T2 (T4 (Mo [22,23] g) l q bt bu) cf dp),jn,jo,jm⟩
 refine DL rfl (.none rfl) rfl rfl (AY em 22 I4 rfl fun jp jq jr js a6=>?_)
 refine ⟨⟨_,(T2 (Mo [22] l) q a6)⟩,?_⟩
 refine BW rfl<|have jt:=K2 Kd.u8 (K4 Kd.u8 r s n g l) q a6;Bi a fun an ju a=>BN rfl (.none rfl) rfl rfl (Lx [Sl w o.text y,.agg [I ad.text,I ad.funcs,I ad.arity,I ad.nest].toArray] rfl)<|Calls.mono (EW m jp jq ju jt (EX (x:=ad))) ?_
 rintro _ m7 ⟨jv,m8,m9,rfl,bv,jw,jx⟩
 obtain ⟨na,rfl,eo⟩:=Bl jw
 obtain ⟨dq,dr,rfl⟩:=AI eo
 obtain rfl:=An jx
 refine ⟨_,rfl,⟨_,(T3 (Mo [22] l) q a6 bv)⟩,?_⟩
 refine Qx c rfl (v:=.tuple #[.agg [Sl dq an.1.funcs dr].toArray,.agg [I an.2.why,I an.2.at_].toArray]) (fun _ ⟨_,d⟩=>Run.move rfl)<|Qx c rfl (v:=.agg [Sl dq an.1.funcs dr].toArray) (fun _ ⟨_,d⟩=>rfl)<|Qx c rfl (v:=.agg [I an.2.why,I an.2.at_].toArray) (fun _ ⟨_,d⟩=>rfl)<|BW rfl<|have jy:=Bs js bv;BT rfl (.none rfl) rfl (St Hz jy rfl rfl rfl rfl fun nb jz cg=>?_)
 refine ⟨⟨_,(T4 (Mo [22] l) q a6 bv cg)⟩,?_⟩
 refine E0 dcd<|WY.one<|have j0:=Y4 dl q a6 bv cg;BT rfl (.none rfl) rfl (St H0 j0 rfl rfl rfl rfl fun nc j1 ds=>?_)
 refine WY.nil<|have j2:=K2 AL eo cg ds;have j3:=Bs jz ds;⟨_,jv,jr,dk,an.1.funcs,dq,dr,an.2.why,an.2.at_,Pu,a,(T2 (T4 (Mo [22,23] g) l q a6 bv) cg ds),j2,j3,j1⟩
 refine DL rfl (.none rfl) rfl rfl (AY el 22 I4 rfl fun j4 j5 j6 j7 av=>?_)
 refine ⟨⟨_,(Tn (Mo [22] l) av)⟩,?_⟩
 refine BW rfl<|Bi a fun bw j8 a=>BN rfl (.none rfl) rfl rfl (Rj [] rfl)<|Calls.mono (J7 j4 j5 j8) ?_
 rintro _ j9 ⟨ka,nd,rfl,aw,kb⟩
 obtain rfl:=JF kb
 refine ⟨_,rfl,⟨_,(T2 (Mo [22] l) av aw)⟩,?_⟩
 refine BW rfl<|have kc:=K2 Kd.u8 (K4 Kd.u8 r s n g l) av aw;Bi a fun ao kd a=>BN rfl (.none rfl) rfl rfl (Lx [Sl w o.text y,.agg [I bw.text,I bw.funcs,I bw.arity,I bw.nest].toArray] rfl)<|Calls.mono (EW m ka j9 kd kc (EX (x:=bw))) ?_
 rintro _ ne ⟨ke,nf,ng,rfl,bx,kf,kg⟩
 obtain ⟨nh,rfl,ep⟩:=Bl kf
 obtain ⟨dt,du,rfl⟩:=AI ep
 obtain rfl:=An kg
 refine ⟨_,rfl,⟨_,(T3 (Mo [22] l) av aw bx)⟩,?_⟩
 refine Qx c rfl (v:=.tuple #[.agg [Sl dt ao.1.funcs du].toArray,.agg [I ao.2.why,I ao.2.at_].toArray]) (fun _ ⟨_,d⟩=>Run.move rfl)<|Qx c rfl (v:=.agg [Sl dt ao.1.funcs du].toArray) (fun _ ⟨_,d⟩=>rfl)<|Qx c rfl (v:=.agg [I ao.2.why,I ao.2.at_].toArray) (fun _ ⟨_,d⟩=>rfl)<|BW rfl<|have kh:=Y2 j7 aw bx;BT rfl (.none rfl) rfl (St Hz kh rfl rfl rfl rfl fun ni ki ch=>?_)
 refine ⟨⟨_,(T4 (Mo [22] l) av aw bx ch)⟩,?_⟩
 refine E0 dcd<|WY.one<|have kj:=Y4 dl av aw bx ch;BT rfl (.none rfl) rfl (St H0 kj rfl rfl rfl rfl fun nj kk dv=>?_)
 refine WY.nil<|have kl:=K2 AL ep ch dv;have km:=Bs ki dv;⟨_,ke,j6,dk,ao.1.funcs,dt,du,ao.2.why,ao.2.at_,Pu,a,(T2 (T4 (Mo [22,23] g) l av aw bx) ch dv),kl,km,kk⟩
 rintro _ az ⟨bc,a0,co,cq,ap,a1,a2,b2,d4,rfl,a,ci,eq,kn,ko⟩
 rw [Fr] at a
 refine Sr<|Vx (Run.fieldAddr XT rfl)<|have kp:=Y2 d2 n ci;Vx (Run.load1 De rfl (Bk.cell kp rfl))<|Bi a fun ab kq a=>Ca (Z8 [Sb o.args] rfl) (R8 m a0 az kq) ?_
 rintro _ kr ⟨dw,nk,rfl,ax,dx⟩
 obtain ⟨a7,a8,rfl⟩:=AI dx
 refine ⟨_,rfl,?_⟩
 refine Vm<|Vr (Sl a7 ab.1 a8)<|Vr (I ab.2)<|Va (Sl a7 ab.1 a8)<|Va (I ab.2)<|AA<|Au (fun cn bz=>∃(bc:Env) (a9:Col) (ba:(List AG)) (cj:Option Addr) (ck:Nat) (dy:Bool) (aq:(List AK)) (b0:Option Addr) (b1:Nat),cn=bc.puts [(2,.pointer (some ⟨cm,0,none⟩)),(3,.slice cj ba.length ck),(4,.bool dy)]∧H6 ba dy aq=some d1∧AO [21] dw kr a9 bz∧Slc Ax a9.F bz (Sl cj ba ck) ba∧Slc AL a9.F bz (Sl b0 aq b1) aq∧Bk a9 bz 21 cm [Sl b0 aq b1] 28) ?_ ?_
 refine AQ<|have ks:=Bs kn ax;Vx (Run.loadN JI rfl rfl (Bk.part ks 0 [Sl a1 ap a2] rfl))<|Vm<|Vx (Run.fieldAddr0 PX rfl)<|have kt:=Bs ko ax;Vx (Run.load1 KO rfl (Bk.cell kt rfl))<|Vr (.bool (b2==0))<|Vm<|Bo a (fun ay a=>?_) fun ay a=>?_
 refine Gm ay<|Gr ay (.bool (ab.2==0))<|Vp ay<|have ku:=Y2 d3 ci ax;have kv:=Ss AL eq ax;Eu (St Hz ku rfl rfl rfl rfl fun nl kw dz=>?_)
 refine Va (Sl a7 ab.1 a8)<|Va (.bool (ab.2==0))<|AA<|have kx:=Ss Ax dx dz;have ky:=Ss AL kv dz;⟨_,dw,ab.1,a7,a8,(ab.2==0),ap,a1,a2,Pu,a,(Mo [21] dz),kx,ky,kw⟩
 refine Pg ay<|Pg ay<|Vp ay<|have kz:=Y2 d3 ci ax;have k0:=Ss AL eq ax;Eu (St Hz kz rfl rfl rfl rfl fun nm k1 d0=>?_)
 refine Va (Sl a7 ab.1 a8)<|Va (.bool false)<|AA<|have k2:=Ss Ax dx d0;have k3:=Ss AL k0 d0;⟨_,dw,ab.1,a7,a8,false,ap,a1,a2,Pu,a,(Mo [21] d0),k2,k3,k1⟩
 rintro _ bz ⟨bc,a9,ba,cj,ck,dy,aq,b0,b1,rfl,a,k4,k5,k6,k7⟩
 rw [H6] at a
 refine AZ ?_
 obtain rfl:=AP a
 refine A0 (B:=B) eu (ABc rfl (.agg JI rfl rfl (Bk.part k7 0 [Sl b0 aq b1] rfl)) (.tmp rfl) (.tmp rfl) ?_)
 exact ⟨a9,[Sl b0 aq b1],Sl cj ba ck,rfl,Ho (T4 (Mo [21,22,23] s) n ci ax k4) es,(CA (x:=(AN.mk aq)) k6),k5⟩
theorem MS(c:Nat):Br.Spec (Br c):=by
 intro a d p q r e f
 refine Calls.mono (PA c (recol (see []) a) d (A3 lbr a) e (Av Kv f [])) ?_
 rintro s u ⟨g,h,u1,l,m,n,o⟩
 exact ⟨glue [] d a g,h,u1,l,Ah m A2,BA Cp n,Et Ax o⟩
def Db.At(G1 G2:Prop)(c:Col)(a:World)(f:Int→Int→AE→Option AE)(d:Nat):Prop:=
 ∀{l:Int} {m:Int} {e:Nat} {n:AE} {o:List Value} {p:AE},f l m n=some p→G1→G2→Bk c a d e o 63→Aq.rep c.F a o n→
  Calls Tryz.prog 79 #[I l,I m,Pt e 0] a fun r g=>∃(h:Col) (q:List Value),r=.returned (.tuple #[])∧AO [d] c a h g∧Bk h g d e q 63∧Aq.rep h.F g q p
def Db.Spec(f:Int→Int→AE→Option AE):Prop:=
 ∀(c:Col) (d:World) {a:Nat},Db.At ([a].Nodup) (0∉[a]) c d f a
theorem Pb(f:Col)(o:World)(p:∀b,f b<10):Db.At True True f o Db 1:=by
 intro g d u e af w a _ _ h y
 rw [Db] at a
 obtain rfl:=An y
 refine A5 Tryz.func79 rfl Tryz.ntmps79 rfl fun B q ag=>Au (fun z r=>∃(s:Env) (l:Col) (n:Bool),z=s.puts [(0,.int .i64 g),(1,.int .i64 d),(2,.pointer (some ⟨u,0,none⟩)),(13,.bool n)]∧IZ g d e n=some w∧AO [] f o l r) ?_ ?_
 refine AQ<|Vx (Run.fieldAddr0 PX rfl)<|Vx (Run.load1 KO rfl (Bk.cell h rfl))<|Vr (.bool (e.why==0))<|Vm<|Bo a (fun c a=>?_) fun c a=>?_
 refine Pg c<|Pg c<|Pg c<|Pg c<|Vp c<|AA<|⟨_,f,true,Pu,a,(AO.refl [] _ _)⟩
 refine Gm c<|Gx c (Run.fieldAddr Uq rfl)<|Gx c (Run.load1 Be rfl (Bk.cell h rfl))<|Gr c (.bool (decide (d<e.at_)))<|Vp c<|AA<|⟨_,f,(decide (d<e.at_)),Pu,a,(AO.refl [] _ _)⟩
 rintro _ r ⟨s,l,n,rfl,a,m⟩
 rw [IZ] at a
 refine Cn a (fun aa a=>?_) fun aa a=>?_
 refine AQ<|Vm<|Vm<|Vx (v:=.agg [I g,I d].toArray) (Bp Is QC rfl (.cons rfl rfl rfl (.cons rfl rfl rfl .nil)))<|have ab:=Bs h m;Eu (St H0 ab rfl rfl rfl rfl fun ah ac ad=>?_)
 refine AA ?_
 obtain rfl:=AP a
 refine Ln (B:=B) q (Lm rfl ?_)
 exact ⟨l,[I g,I d],rfl,Ho (Tn (Mo [1] m) ad) p,ac,(Aj (x:=(AE.mk g d)))⟩
 refine WC.skip ?_
 obtain rfl:=AP a
 refine Ln (B:=B) q (Lm rfl ?_)
 refine have ae:=Bs h m;⟨l,[I e.why,I e.at_],rfl,Ho (Mo [] m) p,ae,(Aj (x:=e))⟩
theorem It:Db.Spec Db:=by
 intro c d a q r s u w y f hnd hnz e g
 refine Calls.mono (Pb (recol (see [a]) c) d (A3 lbr c) f trivial trivial (A1 e [a] (A8 hnd hnz (i:=0) rfl)) (Av Aq g [a])) ?_
 rintro z aa ⟨h,l,m,n,o,p⟩
 exact ⟨glue [a] d c h,l,m,Ah n (DI rfl rfl),B9 e o dcd,BA Aq p⟩
def FE.At(G1 G2:Prop)(c:Col)(a:World)(f:AD→Ae→Ae→AE→AN→Option AE)(ad:Nat)(ae:Nat)(af:Nat)(ag:Nat)(d:Nat)(ah:Nat):Prop:=
 ∀{l:AD} {m:List Value} {n:Nat} {o:Ae} {p:Nat} {q:Nat} {r:Ae} {s:Nat} {e:Nat} {u:AE} {w:List Value} {y:Nat} {z:AN} {aa:List Value} {ab:AE},f l o r u z=some ab→G1→G2→AJ.rep c.F a m l→Mp c a ad n o→Bk c a ae p [.map (some q)] 81→Mp c a af q r→Bk c a ag s [.func (.func 79) #[] [Pt e 0].toArray] 169→Bk c a d e w 63→Aq.rep c.F a w u→Bk c a ah y aa 28→Cp.rep c.F a aa z→
  Calls Tryz.prog 81 #[.agg m.toArray,.map (some n),Pt p 0,Pt s 0,Pt y 0] a fun ai g=>∃(h:Col) (ac:List Value),ai=.returned (.tuple #[])∧AO [d] c a h g∧Bk h g d e ac 63∧Aq.rep h.F g ac ab
def FE.Spec(f:AD→Ae→Ae→AE→AN→Option AE):Prop:=
 ∀(l:Col) (m:World) {a:Nat} {c:Nat} {d:Nat} {e:Nat} {g:Nat} {h:Nat},FE.At ([a,c,d,e,g,h].Nodup) (0∉[a,c,d,e,g,h]) l m f a c d e g h
theorem Pc(ak:Col)(a8:World)(ac:∀b,ak b<10):FE.At True True ak a8 FE 1 2 3 4 5 6:=by
 intro c c1 c2 ad c3 c4 m al am p c5 an ao c6 ap a _ _ a9 ba bb bc aq ae bd be bf
 rw [FE] at a
 obtain ⟨c7,rfl,a4⟩:=Am a9
 obtain ⟨bg,bh,rfl⟩:=AI a4
 obtain rfl:=An bd
 obtain ⟨c8,rfl,a5⟩:=Bl bf
 obtain ⟨bi,bj,rfl⟩:=AI a5
 refine A5 Tryz.func81 rfl Tryz.ntmps81 rfl fun B af d=>Sr<|Ef (By ak 20 rfl rfl fun ar bk ag q l=>?_)
 refine AA<|Sr<|have bl:=Bs bb l;Vx (Run.load1 OF rfl (Bk.cell bl rfl))<|Vx (Run.fieldAddr HR rfl)<|Vx (Run.load1 De rfl (Bk.cell q rfl))<|have bm:=Ms bc l;Vx (v:=I (CJ m c.name)) (Ix Jv rfl rfl bm)<|Va (I (CJ m c.name))<|AA<|Ao<|Au (fun ab ah=>∃(r:Env) (w:Col) (au:Bool),ab=r.puts [(3,.pointer (some ⟨al,0,none⟩)),(4,.pointer (some ⟨an,0,none⟩)),(5,.pointer (some ⟨ag,0,none⟩)),(7,.int .i64 (CJ m c.name)),(12,.bool au)]∧GO c m p ao au=some ap∧AO [] ar bk w ah) ?_ ?_
 refine AQ<|Vx (Run.fieldAddr0 GJ rfl)<|Vx (Run.load1 Kl rfl (Bk.cell q rfl))<|Vr (.bool (c.op==6))<|Vm<|Bo a (fun o a=>?_) fun o a=>?_
 refine Gm o<|Gx o (Run.fieldAddr HR rfl)<|Gx o (Run.load1 De rfl (Bk.cell q rfl))<|have bn:=Ms ba l;Gx o (v:=I (CJ ad c.name)) (Ix Jv rfl rfl bn)<|Gr o (.bool ((CJ ad c.name)==0))<|Vp o<|Va (.bool ((CJ ad c.name)==0))<|AA<|⟨_,ar,((CJ ad c.name)==0),Pu,a,(AO.refl [] _ _)⟩
 refine Pg o<|Pg o<|Pg o<|Pg o<|Pg o<|Vp o<|Va (.bool false)<|AA<|⟨_,ar,false,Pu,a,(AO.refl [] _ _)⟩
 rintro _ ah ⟨r,w,au,rfl,a,g⟩
 rw [GO] at a
 refine Cn a (fun bo a=>?_) fun bo a=>?_
 refine AQ<|have bp:=Y2 aq l g;Vx (Run.load1 PZ rfl (Bk.cell bp rfl))<|Vx (Run.fieldAddr PV rfl)<|have bq:=Bs q g;Vx (Run.load1 Be rfl (Bk.cell bq rfl))<|have br:=Y2 ae l g;Bi a fun av bt a=>Ca (Rl (vs:=[I 31,I c.at_]) (caps:=[Pt am 0]) rfl rfl) (It w ah bt dcd dcd br (Aj (x:=p))) ?_
 rintro _ c9 ⟨bu,da,rfl,bv,bw,bx⟩
 obtain rfl:=An bx
 refine ⟨_,rfl,?_⟩
 refine AA ?_
 obtain rfl:=AP a
 refine Ln (B:=B) af (Lm rfl ?_)
 exact ⟨bu,[I av.why,I av.at_],rfl,Ho (T2 (Mo [5] l) g bv) ac,bw,(Aj (x:=av))⟩
 refine Au (fun ab ai=>∃(r:Env) (s:Col) (aw:Bool),ab=r.puts [(3,.pointer (some ⟨al,0,none⟩)),(4,.pointer (some ⟨an,0,none⟩)),(5,.pointer (some ⟨ag,0,none⟩)),(7,.int .i64 (CJ m c.name)),(27,.bool aw)]∧FW c m p ao aw=some ap∧AO [] w ah s ai) ?_ ?_
 refine AQ<|Vx (Run.fieldAddr0 GJ rfl)<|have bz:=Bs q g;Vx (Run.load1 Kl rfl (Bk.cell bz rfl))<|Vr (.bool (c.op==7))<|Vm<|Bo a (fun u a=>?_) fun u a=>?_
 refine Gm u<|Gr u (.bool ((CJ m c.name)==0))<|Vp u<|Va (.bool ((CJ m c.name)==0))<|AA<|⟨_,w,((CJ m c.name)==0),Pu,a,(AO.refl [] _ _)⟩
 refine Pg u<|Pg u<|Vp u<|Va (.bool false)<|AA<|⟨_,w,false,Pu,a,(AO.refl [] _ _)⟩
 rintro _ ai ⟨r,s,aw,rfl,a,n⟩
 rw [FW] at a
 refine Cn a (fun b0 a=>?_) fun b0 a=>?_
 refine AQ<|have b1:=Y3 aq l g n;Vx (Run.load1 PZ rfl (Bk.cell b1 rfl))<|Vx (Run.fieldAddr PV rfl)<|have b2:=Y2 q g n;Vx (Run.load1 Be rfl (Bk.cell b2 rfl))<|have b3:=Y3 ae l g n;Bi a fun ax b4 a=>Ca (Rl (vs:=[I 32,I c.at_]) (caps:=[Pt am 0]) rfl rfl) (It s ai b4 dcd dcd b3 (Aj (x:=p))) ?_
 rintro _ db ⟨b5,dc,rfl,b6,b7,b8⟩
 obtain rfl:=An b8
 refine ⟨_,rfl,?_⟩
 refine AA ?_
 obtain rfl:=AP a
 refine Ln (B:=B) af (Lm rfl ?_)
 exact ⟨b5,[I ax.why,I ax.at_],rfl,Ho (T3 (Mo [5] l) g n b6) ac,b7,(Aj (x:=ax))⟩
 refine Au (fun ab ay=>∃(r:Env) (aj:Col) (az:Bool),ab=r.puts [(3,.pointer (some ⟨al,0,none⟩)),(5,.pointer (some ⟨ag,0,none⟩)),(39,.bool az)]∧GN c p az=some ap∧AO [] s ai aj ay) ?_ ?_
 refine Cc Ff (.q 0 (.q 1 (.q 2 (.q 3 (.q 4 (.q 5 (.q 6 (.q 7 (.q 8 (.q 9 (.q 10 (.q 11 (.q 12 (.q 13 (.q 14 (.q 15 (.q 16 (.q 17 .nil)))))))))))))))))) [] [] s (by kernel_rfl) fun b9 y=>Qx d rfl (fun _ ⟨_,f⟩=>Run.fieldAddr0 GJ rfl)<|have a6:=Y3 q g n y;Qx d rfl (fun _ ⟨_,f⟩=>Run.load1 Kl rfl (Bk.cell (Bs a6 f) rfl))<|Qx d rfl (v:=.bool (c.op==7)) (fun _ ⟨_,f⟩=>rfl)<|Qx d rfl (v:=.bool (c.op==7)) (fun _ ⟨_,f⟩=>Run.move rfl)<|Bo a (fun e a=>?_) fun e a=>?_
 refine BC (fun _ _ _ _ h=>d _ _ _ _ h) rfl rfl (.guard (t:=true) (b:=true) rfl rfl rfl rfl (Cb e)) rfl rfl (v:=Pt an 0) (fun _ ⟨_,f⟩=>Run.fieldAddr0 IC rfl)<|have ca:=Y4 be l g n y;BC (fun _ _ _ _ h=>d _ _ _ _ h) rfl rfl (.guard (t:=true) (b:=true) rfl rfl rfl rfl (Cb e)) rfl rfl (v:=Sl bi ao.funcs bj) (fun _ ⟨_,f⟩=>Run.load1 Ji rfl (Bk.cell (Bs ca f) rfl))<|BC (fun _ _ _ _ h=>d _ _ _ _ h) rfl rfl (.guard (t:=true) (b:=true) rfl rfl rfl rfl (Cb e)) rfl rfl (v:=I (CJ m c.name)) (fun _ ⟨_,f⟩=>Run.move rfl)<|BC (fun _ _ _ _ h=>d _ _ _ _ h) rfl rfl (.guard (t:=true) (b:=true) rfl rfl rfl rfl (Cb e)) rfl rfl (v:=I (Wr ((CJ m c.name) - 1))) (fun _ ⟨_,f⟩=>rfl)<|Bi a fun z cb a=>have cc:=K4 AL a5 l g n y; ?_
 obtain ⟨a0,a1,de,cd,cf,cg,ch,ci,a2⟩:=BX (κ:=AL) cc cb
 replace a2:BG s b9 a0 (a1+((Wr ((CJ m c.name) - 1))).toNat*11) cd:=a2
 obtain ⟨df,dg,rfl,a7,cj⟩:=F4 ci
 obtain ⟨ck,cl,rfl⟩:=AI a7
 obtain ⟨dh,di,rfl⟩:=AI cj
 refine BC (fun _ _ _ _ h=>d _ _ _ _ h) rfl rfl (.guard (t:=true) (b:=true) rfl rfl rfl rfl (Cb e)) rfl rfl (v:=.pointer (some ⟨a0,a1+((Wr ((CJ m c.name) - 1))).toNat*11,none⟩)) (fun _ ⟨_,f⟩=>Run.indexAddr I3 cf rfl cg ch)<|BC (fun _ _ _ _ h=>d _ _ _ _ h) rfl rfl (.guard (t:=true) (b:=true) rfl rfl rfl rfl (Cb e)) rfl rfl (v:=.pointer (some ⟨a0,a1+((Wr ((CJ m c.name) - 1))).toNat*11+1,none⟩)) (fun _ ⟨_,f⟩=>Run.fieldAddr Io rfl)<|BC (fun _ _ _ _ h=>d _ _ _ _ h) rfl rfl (.guard (t:=true) (b:=true) rfl rfl rfl rfl (Cb e)) rfl rfl (v:=Sl ck z.params cl) (fun _ ⟨_,f⟩=>Run.load1 HY rfl (BG.cell (k:=1) (Es a2 f) rfl)) ?_
 obtain ⟨dj,dk,cm⟩:=AI a7
 refine BC (fun _ _ _ _ h=>d _ _ _ _ h) rfl rfl (.guard (t:=true) (b:=true) rfl rfl rfl rfl (Cb e)) rfl rfl (v:=I (z.params.length:Int)) (fun _ ⟨_,f⟩=>Run.lenSlc G9 cm)<|BC (fun _ _ _ _ h=>d _ _ _ _ h) rfl rfl (.guard (t:=true) (b:=true) rfl rfl rfl rfl (Cb e)) rfl rfl (v:=Pt ag 5) (fun _ ⟨_,f⟩=>Run.fieldAddr B6 rfl)<|BC (fun _ _ _ _ h=>d _ _ _ _ h) rfl rfl (.guard (t:=true) (b:=true) rfl rfl rfl rfl (Cb e)) rfl rfl (v:=Sl bg c.args bh) (fun _ ⟨_,f⟩=>Run.load1 Ez rfl (Bk.cell (Bs a6 f) rfl))<|have cn:=K4 AJ a4 l g n y; ?_
 obtain ⟨dl,dm,co⟩:=AI cn
 refine BC (fun _ _ _ _ h=>d _ _ _ _ h) rfl rfl (.guard (t:=true) (b:=true) rfl rfl rfl rfl (Cb e)) rfl rfl (v:=I (c.args.length:Int)) (fun _ ⟨_,f⟩=>Run.lenSlc Dx co)<|BC (fun _ _ _ _ h=>d _ _ _ _ h) rfl rfl (.guard (t:=true) (b:=true) rfl rfl rfl rfl (Cb e)) rfl rfl (v:=.bool ((z.params.length:Int) != (c.args.length:Int))) (fun _ ⟨_,f⟩=>rfl)<|Qx d rfl (v:=.bool ((z.params.length:Int) != (c.args.length:Int))) (fun _ ⟨_,f⟩=>(Pk e))<|Qx d rfl (v:=.bool ((z.params.length:Int) != (c.args.length:Int))) (fun _ ⟨_,f⟩=>Run.assign rfl)<|Ex<|⟨_,s,((z.params.length:Int) != (c.args.length:Int)),Pu,a,(Mo [] y)⟩
 refine Qp d rfl e<|Qp d rfl e<|Qp d rfl e<|Qp d rfl e<|Qp d rfl e<|Qp d rfl e<|Qp d rfl e<|Qp d rfl e<|Qp d rfl e<|Qp d rfl e<|Qp d rfl e<|Qp d rfl e<|Qx d rfl (v:=.bool false) (fun _ ⟨_,f⟩=>(Pk e))<|Qx d rfl (v:=.bool false) (fun _ ⟨_,f⟩=>Run.assign rfl)<|Ex<|⟨_,s,false,Pu,a,(Mo [] y)⟩
 rintro _ ay ⟨r,aj,az,rfl,a,aa⟩
 rw [GN] at a
 refine Cn a (fun cq a=>?_) fun cq a=>?_
 refine AQ<|have cr:=Y4 aq l g n aa;Vx (Run.load1 PZ rfl (Bk.cell cr rfl))<|Vx (Run.fieldAddr PV rfl)<|have ct:=Y3 q g n aa;Vx (Run.load1 Be rfl (Bk.cell ct rfl))<|have cu:=Y4 ae l g n aa;Bi a fun a3 cv a=>Ca (Rl (vs:=[I 33,I c.at_]) (caps:=[Pt am 0]) rfl rfl) (It aj ay cv dcd dcd cu (Aj (x:=p))) ?_
 rintro _ dn ⟨cw,dp,rfl,cx,cy,cz⟩
 obtain rfl:=An cz
 refine ⟨_,rfl,?_⟩
 refine AA ?_
 obtain rfl:=AP a
 refine Ln (B:=B) af (Lm rfl ?_)
 exact ⟨cw,[I a3.why,I a3.at_],rfl,Ho (T4 (Mo [5] l) g n aa cx) ac,cy,(Aj (x:=a3))⟩
 refine WC.skip ?_
 obtain rfl:=AP a
 refine Ln (B:=B) af (Lm rfl ?_)
 refine have c0:=Y4 ae l g n aa;⟨aj,[I p.why,I p.at_],rfl,Ho (T3 (Mo [] l) g n aa) ac,c0,(Aj (x:=p))⟩
theorem QK:FE.Spec FE:=by
 intro h l a c d e f g af ag ah ai aj ak al am an ao ap aq ar au av n hnd hnz o p q r s m u w y
 refine Calls.mono (Pc (recol (see [a,c,d,e,f,g]) h) l (A3 lbr h) n trivial trivial (Av AJ o [a,c,d,e,f,g]) (GE p [a,c,d,e,f,g] (A8 hnd hnz (i:=0) rfl)) (A1 q [a,c,d,e,f,g] (A8 hnd hnz (i:=1) rfl)) (GE r [a,c,d,e,f,g] (A8 hnd hnz (i:=2) rfl)) (A1 s [a,c,d,e,f,g] (A8 hnd hnz (i:=3) rfl)) (A1 m [a,c,d,e,f,g] (A8 hnd hnz (i:=4) rfl)) (Av Aq u [a,c,d,e,f,g]) (A1 w [a,c,d,e,f,g] (A8 hnd hnz (i:=5) rfl)) (Av Cp y [a,c,d,e,f,g])) ?_
 rintro aw ax ⟨z,aa,ab,ac,ad,ae⟩
 exact ⟨glue [a,c,d,e,f,g] l h z,aa,ab,Ah ac (DI rfl rfl),B9 m ad dcd,BA Aq ae⟩
def Gw.At(c:Col)(a:World)(f:AD→Int→Option (List Bts)):Prop:=
 ∀{d:AD} {e:List Value} {g:Int} {h:(List Bts)},f d g=some h→AJ.rep c.F a e d→
  Calls Tryz.prog 111 #[.agg e.toArray,I g] a fun o l=>∃(m:Col) (n:Value),o=.returned n∧AO [] c a m l∧Slc E9 m.F l n h
def Gw.Spec(f:AD→Int→Option (List Bts)):Prop:=
 ∀(a:Col) (c:World),Gw.At a c f
theorem Q5(p:Col)(ah:World)(q:∀b,p b<10):Gw.At p ah Gw:=by
 intro c a8 d ad a ai
 rw [Gw] at a
 obtain ⟨a9,rfl,aj⟩:=Am ai
 obtain ⟨ba,bb,rfl⟩:=AI aj
 refine A5 Tryz.func111 rfl Tryz.ntmps111 rfl fun B r bc=>Sr<|Ef (By p 20 rfl rfl fun n ak ae l s=>?_)
 refine Va (.slice none 0 0)<|AA<|Ac<|Ao<|Au (fun u w=>∃(m:Env) (g:Col) (y:Bool),u=m.puts [(1,.int .i64 d),(2,.pointer (some ⟨ae,0,none⟩)),(5,.bool y)]∧Ia c d y=some ad∧AO [] n ak g w) ?_ ?_
 refine Sr<|Vx (Run.fieldAddr0 GJ rfl)<|Vx (Run.load1 Kl rfl (Bk.cell l rfl))<|Vr (.bool (c.op==21))<|Va (.bool (c.op==21))<|AA<|Cn a (fun al a=>?_) fun al a=>?_
 refine WC.skip<|⟨_,n,(c.op==21),Pu,a,(AO.refl [] _ _)⟩
 refine AQ<|Vx (Run.fieldAddr0 GJ rfl)<|Vx (Run.load1 Kl rfl (Bk.cell l rfl))<|Vr (.bool (c.op==22))<|Vm<|Bo a (fun e a=>?_) fun e a=>?_
 refine Gm e<|Gr e (.bool (d==1))<|Vp e<|Va (.bool (d==1))<|AA<|⟨_,n,(d==1),Pu,a,(AO.refl [] _ _)⟩
 refine Pg e<|Pg e<|Vp e<|Va (.bool false)<|AA<|⟨_,n,false,Pu,a,(AO.refl [] _ _)⟩
 rintro _ w ⟨m,g,y,rfl,a,h⟩
 rw [Ia] at a
 refine Cn a (fun am a=>?_) fun am a=>?_
 refine Sr<|Vx (Run.fieldAddr HR rfl)<|have an:=Bs l h;Vx (Run.load1 De rfl (Bk.cell an rfl))<|Ef (E1 (cs:=[Sb c.name]) g 21 [[Sb c.name]] Ir Rw rfl rfl (.cons rfl rfl rfl .nil) rfl fun ao ap z aq ar=>?_)
 refine have au:Own E9 9 ao ap 21 (.slice (some ⟨z,0,none⟩) 1 1) ([c.name]:List Bts):=Own.lit (css:=[[Sb c.name]]) aq rfl rfl rfl (Aa rfl Ba) (A9 rfl Gg) rfl;Va (Sl (some ⟨z,0,none⟩) (([c.name]:List Bts)) 1)<|AA<|AZ ?_
 obtain ⟨av,aw,ax⟩:=Own.freeze (S:=[21]) au dcd dcd
 obtain rfl:=AP a
 refine A0 (B:=B) r (BQ rfl (.tmp rfl) ?_)
 exact ⟨av,Sl (some ⟨z,0,none⟩) (([c.name]:List Bts)) 1,rfl,Ho (T3 (Mo [21] s) h ar aw) q,ax⟩
 refine Au (fun u af=>∃(m:Env) (o:Col) (aa:Bool),u=m.puts [(2,.pointer (some ⟨ae,0,none⟩)),(19,.bool aa)]∧JT c aa=some ad∧AO [] g w o af) ?_ ?_
 refine AQ<|Vx (Run.fieldAddr0 GJ rfl)<|have ay:=Bs l h;Vx (Run.load1 Kl rfl (Bk.cell ay rfl))<|Vr (.bool (c.op==20))<|Vm<|Bo a (fun f a=>?_) fun f a=>?_
 refine Gm f<|Gr f (.bool (d==2))<|Vp f<|Va (.bool (d==2))<|AA<|⟨_,g,(d==2),Pu,a,(AO.refl [] _ _)⟩
 refine Pg f<|Pg f<|Vp f<|Va (.bool false)<|AA<|⟨_,g,false,Pu,a,(AO.refl [] _ _)⟩
 rintro _ af ⟨m,o,aa,rfl,a,ab⟩
 rw [JT] at a
 refine Cn a (fun az a=>?_) fun az a=>?_
 refine Sr<|Vx (Run.fieldAddr HR rfl)<|have ag:=Y2 l h ab;Vx (Run.load1 De rfl (Bk.cell ag rfl))<|Vx (Run.fieldAddr PU rfl)<|Vx (Run.load1 De rfl (Bk.cell ag rfl))<|Ef (E1 (cs:=[Sb c.name,Sb c.tail]) o 22 [[Sb c.name],[Sb c.tail]] Ir Rw rfl rfl (.cons rfl rfl rfl (.cons rfl rfl rfl .nil)) rfl fun a0 a1 ac a2 a3=>?_)
 refine have a4:Own E9 9 a0 a1 22 (.slice (some ⟨ac,0,none⟩) 2 2) ([c.name,c.tail]:List Bts):=Own.lit (css:=[[Sb c.name],[Sb c.tail]]) a2 rfl rfl rfl (Aa rfl (Aa rfl Ba)) (A9 rfl (A9 rfl Gg)) rfl;Va (Sl (some ⟨ac,0,none⟩) (([c.name,c.tail]:List Bts)) 2)<|AA<|AZ ?_
 obtain ⟨a5,a6,a7⟩:=Own.freeze (S:=[22]) a4 dcd dcd
 obtain rfl:=AP a
 refine A0 (B:=B) r (BQ rfl (.tmp rfl) ?_)
 exact ⟨a5,Sl (some ⟨ac,0,none⟩) (([c.name,c.tail]:List Bts)) 2,rfl,Ho (T4 (Mo [22] s) h ab a3 a6) q,a7⟩
 refine WC.skip<|Sr<|Va (.slice none 0 0)<|AA<|AZ ?_
 obtain rfl:=AP a
 refine A0 (B:=B) r (BQ rfl (.tmp rfl) ?_)
 exact ⟨o,.slice none 0 0,rfl,Ho (T2 (Mo [] s) h ab) q,Cd⟩
theorem R9:Gw.Spec Gw:=by
 intro a c n o p q d e
 refine Calls.mono (Q5 (recol (see []) a) c (A3 lbr a) d (Av AJ e [])) ?_
 rintro r s ⟨f,g,h,l,m⟩
 exact ⟨glue [] c a f,g,h,Ah l A2,Et E9 m⟩
def scope_walk.At(G1 G2:Prop)(c:Col)(a:World)(f:AD→Ae→Ae→AE→AN→Option (Ae×AE))(g:Nat)(ae:Nat)(af:Nat)(ag:Nat)(h:Nat)(ah:Nat):Prop:=
 ∀{o:AD} {p:List Value} {l:Nat} {q:Ae} {r:Nat} {s:Nat} {u:Ae} {w:Nat} {m:Nat} {y:AE} {z:List Value} {aa:Nat} {ab:AN} {ac:List Value} {n:Ae×AE},f o q u y ab=some n→G1→G2→AJ.rep c.F a p o→Mp c a g l q→Bk c a ae r [.map (some s)] 81→Mp c a af s u→Bk c a ag w [.func (.func 79) #[] [Pt m 0].toArray] 169→Bk c a h m z 63→Aq.rep c.F a z y→Bk c a ah aa ac 28→Cp.rep c.F a ac ab→
  Calls Tryz.prog 80 #[.agg p.toArray,.map (some l),.func (.func 81) #[] [Pt r 0,Pt w 0,Pt aa 0].toArray] a fun ai d=>∃(e:Col) (ad:List Value),ai=.returned (.tuple #[])∧AO [g,h] c a e d∧Mp e d g l n.1∧Bk e d h m ad 63∧Aq.rep e.F d ad n.2
def scope_walk.Spec(f:AD→Ae→Ae→AE→AN→Option (Ae×AE)):Prop:=
 ∀(l:Col) (m:World) {a:Nat} {c:Nat} {d:Nat} {e:Nat} {g:Nat} {h:Nat},scope_walk.At ([a,c,d,e,g,h].Nodup) (0∉[a,c,d,e,g,h]) l m f a c d e g h
structure Aw.Good(a:Aw):Prop where
 scope_walk:scope_walk.Spec a.scope_walk
theorem SA(q:Aw)(g:Nat)(cg:Aw.Good q)(ba:Col)(ch:World)(ci:∀b,ba b<10):scope_walk.At True True ba ch (Jn q g) 1 2 3 4 5 6:=by
 intro a ep h cj ao eq af ap ck cl er aq r es ax d _ _ cm cn co cq cr ct cu cv cw
 rw [Jn] at d
 obtain ⟨et,rfl,bg⟩:=Am cm
 obtain ⟨u,w,rfl⟩:=AI bg
 obtain rfl:=An cu
 obtain ⟨eu,rfl,bh⟩:=Bl cw
 obtain ⟨ew,ex,rfl⟩:=AI bh
 refine A5 Tryz.func80 rfl Tryz.ntmps80 rfl fun B cx ey=>?_
 refine Sr ?_
 refine Ef (By ba 20 rfl rfl fun cy cz a6 bi ab=>?_)
 refine AA ?_
 refine Sr ?_
 refine Vx (v:=.func (.func 81) #[] [Pt ao 0,Pt ap 0,Pt aq 0].toArray) (Run.move rfl) ?_
 refine Vx (v:=.agg [I a.op,Sb a.name,Sb a.tail,I a.type_,Cx a.num,Sl u a.args w,I a.at_].toArray) (Run.loadN BL rfl rfl (Bk.part bi 0 [I a.op,Sb a.name,Sb a.tail,I a.type_,Cx a.num,Sl u a.args w,I a.at_] rfl)) ?_
 refine Vx (v:=.map (some h)) (Run.move rfl) ?_
 have bj:=(Ss AJ bg ab)
 have bk:=(Ms cn ab)
 have bl:=(Bs co ab)
 have bm:=(Ms cq ab)
 have bn:=(Bs cr ab)
 have c0:=(Bs ct ab)
 have bo:=(Bs cv ab)
 have bp:=(Ss AL bh ab)
 obtain ⟨bq,c1,d⟩:=bnd_sm d
 refine Bx (.none rfl) rfl rfl (AAT (vs:=[.agg [I a.op,Sb a.name,Sb a.tail,I a.type_,Cx a.num,Sl u a.args w,I a.at_].toArray,.map (some h)]) (caps:=[Pt ao 0,Pt ap 0,Pt aq 0]) rfl rfl) ?_
 refine Calls.mono (QK cy cz c1 dcd dcd (Ag (x:=a) bj) bk bl bm bn c0 (Aj (x:=cl)) bo (CA (x:=r) bp)) ?_
 rintro _ c2 ⟨br,ez,rfl,ac,c3,c4⟩
 obtain rfl:=An c4
 refine ⟨_,rfl,?_⟩
 refine AA ?_
 refine Sr ?_
 refine Vx (v:=Pt a6 5) (Run.fieldAddr B6 rfl) ?_
 have bt:=(Bs bi ac)
 refine Vx (v:=Sl u a.args w) (Run.load1 Ez rfl (Bk.cell bt rfl)) ?_
 have bu:=(Ss AJ bj ac)
 obtain ⟨e0,e1,c5⟩:=AI bu
 refine Vx (v:=I (a.args.length:Int)) (Run.lenSlc Dx c5) ?_
 refine Vx (v:=I 0) (Run.move rfl) ?_
 refine AA ?_
 refine Ao ?_
 refine CZ (fun ag a2 a3=>∃(ah:Env) (ar:Col) (e:Int) (a4:Ae) (m:Int) (n:Int),a2=ah.puts [(1,.map (some h)),(2,.func (.func 81) #[] [Pt ao 0,Pt ap 0,Pt aq 0].toArray),(3,.pointer (some ⟨a6,0,none⟩)),(18,.slice u a.args.length w),(19,.int .i64 (a.args.length:Int)),(20,.int .i64 e)]∧CN q g a af r ag e a4 m n=some ax∧AO [1,5,21] br c2 ar a3∧Mp ar a3 1 h a4∧Bk ar a3 5 ck [I m,I n] 63) g ?_ ?_
 have c6:=(Ms bk ac)
 exact ⟨_,br,0,cj,bq.why,bq.at_,Pu,d,(AO.refl [1,5,21] _ _),c6,c3⟩
 rintro ag _ a3 ⟨ah,ar,e,a4,m,n,rfl,d,ad,bv,bw⟩
 rcases ag with _|ag
 exact BK d
 have d:Hn q g a af r (CN q g a af r ag) e a4 m n=some ax:=d
 obtain ⟨ai,bx⟩:∃s,s=CN q g a af r ag:=⟨_,rfl⟩
 rw [←bx,Hn] at d
 refine Sr ?_
 refine Vr (.bool (decide (e< (a.args.length:Int)))) ?_
 refine AA ?_
 refine Ac ?_
 refine Cn d (fun c7 d=>?_) fun c7 d=>?_
 refine WC.skip ?_
 refine Ac ?_
 refine Ao ?_
 refine Sr ?_
 refine Vx (v:=I e) (Run.move rfl) ?_
 obtain ⟨c,c8,d⟩:=bnd_sm d
 have bz:=(Ss AJ bu ad)
 obtain ⟨b0,b1,e2,c9,da,db,dc,de,bb⟩:=BX (κ:=AJ) bz c8
 replace bb:BG ar a3 b0 (b1+e.toNat*7) c9:=bb
 obtain ⟨e3,rfl,b2⟩:=Am de
 obtain ⟨au,av,rfl⟩:=AI b2
 refine Vx (v:=.pointer (some ⟨b0,b1+e.toNat*7,none⟩)) (Run.indexAddr Dx da rfl db dc) ?_
 refine Vx (v:=.agg [I c.op,Sb c.name,Sb c.tail,I c.type_,Cx c.num,Sl au c.args av,I c.at_].toArray) (Run.loadN BL rfl rfl (BG.part0 bb [I c.op,Sb c.name,Sb c.tail,I c.type_,Cx c.num,Sl au c.args av,I c.at_] rfl)) ?_
 refine Ef (AY ar 21 DJ rfl fun df e4 dg dh o=>?_)
 refine Va (I e) ?_
 have di:=(Ss AJ b2 o)
 refine Eu (St (vs:=[I c.op,Sb c.name,Sb c.tail,I c.type_,Cx c.num,Sl au c.args av,I c.at_]) (cs':=[I c.op,Sb c.name,Sb c.tail,I c.type_,Cx c.num,Sl au c.args av,I c.at_]) Dd dh rfl rfl rfl rfl fun dj dk p=>?_)
 refine AA ?_
 refine Sr ?_
 have dl:=(Y3 bt ad o p)
 refine Vx (v:=.agg [I a.op,Sb a.name,Sb a.tail,I a.type_,Cx a.num,Sl u a.args w,I a.at_].toArray) (Run.loadN BL rfl rfl (Bk.part dl 0 [I a.op,Sb a.name,Sb a.tail,I a.type_,Cx a.num,Sl u a.args w,I a.at_] rfl)) ?_
 refine Vx (v:=I e) (Run.move rfl) ?_
 have dm:=(K2 AJ bz o p)
 obtain ⟨f,dn,d⟩:=bnd_sm d
 refine Bx (.none rfl) rfl rfl (Yh [.agg [I a.op,Sb a.name,Sb a.tail,I a.type_,Cx a.num,Sl u a.args w,I a.at_].toArray,I e] rfl) ?_
 refine Calls.mono (R9 df dj dn (Ag (x:=a) dm)) ?_
 rintro _ dp ⟨b3,e5,rfl,y,a7⟩
 obtain ⟨ay,az,rfl⟩:=AI a7
 refine ⟨_,rfl,?_⟩
 refine Va (Sl ay f az) ?_
 refine AA ?_
 refine Ac ?_
 refine Sr ?_
 refine Vx (v:=Sl ay f az) (Run.move rfl) ?_
 obtain ⟨e6,e7,dq⟩:=AI a7
 refine Vx (v:=I (f.length:Int)) (Run.lenSlc Ir dq) ?_
 refine Vx (v:=I 0) (Run.move rfl) ?_
 refine AA ?_
 refine Ao ?_
 refine CZ (fun aj a2 a5=>∃(ah:Env) (a0:Col) (z:Int) (ak:Ae),a2=ah.puts [(1,.map (some h)),(2,.func (.func 81) #[] [Pt ao 0,Pt ap 0,Pt aq 0].toArray),(3,.pointer (some ⟨a6,0,none⟩)),(7,.pointer (some ⟨dg,0,none⟩)),(8,.slice ay f.length az),(18,.slice u a.args.length w),(19,.int .i64 (a.args.length:Int)),(20,.int .i64 e),(28,.slice ay f.length az),(29,.int .i64 (f.length:Int)),(30,.int .i64 z)]∧Hb q g af r e m n ai c f aj z ak=some ax∧AO [1] b3 dp a0 a5∧Mp a0 a5 1 h ak) g ?_ ?_
 have dr:=(Ms (Ms (Ms bv o) p) y)
 exact ⟨_,b3,0,a4,Pu,d,(AO.refl [1] _ _),dr⟩
 rintro aj _ a5 ⟨ah,a0,z,ak,rfl,d,l,bc⟩
 rcases aj with _|aj
 exact BK d
 have d:Hm q g af r e m n ai c f (Hb q g af r e m n ai c f aj) z ak=some ax:=d
 obtain ⟨e8,b4⟩:∃s,s=Hb q g af r e m n ai c f aj:=⟨_,rfl⟩
 rw [←b4,Hm] at d
 refine Sr ?_
 refine Vr (.bool (decide (z< (f.length:Int)))) ?_
 refine AA ?_
 refine Ac ?_
 refine Cn d (fun ds d=>?_) fun ds d=>?_
 refine WC.skip ?_
 refine Ac ?_
 refine Ao ?_
 refine Sr ?_
 obtain ⟨al,dt,d⟩:=bnd_sm d
 have du:=(Ss E9 a7 l)
 obtain ⟨b5,b6,e9,b7,dv,dw,dx,dy,bd⟩:=BX (κ:=E9) du dt
 replace bd:BG a0 a5 b5 (b6+z.toNat*1) b7:=bd
 obtain rfl:=(show b7=[Sb al] from dy)
 refine Vx (v:=.pointer (some ⟨b5,b6+z.toNat*1,none⟩)) (Run.indexAddr Ir dv rfl dw dx) ?_
 refine Vx (v:=Sb al) (Run.load1 De rfl (BG.cell0 bd rfl)) ?_
 refine Va (Sb al) ?_
 refine AA ?_
 refine AQ ?_
 refine Vx (v:=.map (some h)) (Run.move rfl) ?_
 refine Vx (v:=Sb al) (Run.move rfl) ?_
 refine Vx (v:=I (CJ ak al)) (Ix Jv rfl rfl bc) ?_
 refine Vr (I (Wr ((CJ ak al)+1))) ?_
 refine Eu (JD Jv rfl rfl rfl bc fun fa dz d0=>?_)
 refine AA ?_
 refine AQ ?_
 refine Vr (I (Wr (z+1))) ?_
 refine Vx (v:=I (Wr (z+1))) (Run.move rfl) ?_
 refine AA ?_
 exact ⟨aj,Nat.lt_succ_self aj,_,a0,(Wr (z+1)),(Ko al (Wr ((CJ ak al)+1)) ak),Pu,(b4▸d),(Tn (Mo [1] l) d0),dz⟩
 refine CF ?_
 refine Sr ?_
 have d1:=(Y2 dk y l)
 refine Vx (v:=.agg [I c.op,Sb c.name,Sb c.tail,I c.type_,Cx c.num,Sl au c.args av,I c.at_].toArray) (Run.loadN BL rfl rfl (Bk.part d1 0 [I c.op,Sb c.name,Sb c.tail,I c.type_,Cx c.num,Sl au c.args av,I c.at_] rfl)) ?_
 refine Vx (v:=.map (some h)) (Run.move rfl) ?_
 refine Vx (v:=.func (.func 81) #[] [Pt ao 0,Pt ap 0,Pt aq 0].toArray) (Run.move rfl) ?_
 have d2:=(K3 AJ di p y l)
 have d3:=(Y2 (Y4 bl ac ad o p) y l)
 have d4:=(Ms (Ms (Ms (Ms (Ms (Ms bm ac) ad) o) p) y) l)
 have d5:=(Y2 (Y4 bn ac ad o p) y l)
 have d6:=(Y4 bw o p y l)
 have d7:=(Y2 (Y4 bo ac ad o p) y l)
 have d8:=(K2 AL (K4 AL bp ac ad o p) y l)
 obtain ⟨aw,d9,d⟩:=bnd_sm d
 refine Bx (.none rfl) rfl rfl (XL [.agg [I c.op,Sb c.name,Sb c.tail,I c.type_,Cx c.num,Sl au c.args av,I c.at_].toArray,.map (some h),.func (.func 81) #[] [Pt ao 0,Pt ap 0,Pt aq 0].toArray] rfl) ?_
 refine Calls.mono (cg.scope_walk a0 a5 d9 dcd dcd (Ag (x:=c) d2) bc d3 d4 d5 d6 (Aj (x:=(AE.mk m n))) d7 (CA (x:=r) d8)) ?_
 rintro _ ea ⟨b8,fb,rfl,b9,eb,ec,ed⟩
 obtain rfl:=An ed
 refine ⟨_,rfl,?_⟩
 refine AA ?_
 refine Sr ?_
 refine Vx (v:=Sl ay f az) (Run.move rfl) ?_
 have ca:=(K2 E9 a7 l b9)
 obtain ⟨fc,fd,ee⟩:=AI ca
 refine Vx (v:=I (f.length:Int)) (Run.lenSlc Ir ee) ?_
 refine Vx (v:=I 0) (Run.move rfl) ?_
 refine AA ?_
 refine Ao ?_
 refine CZ (fun am a2 a8=>∃(ah:Env) (a1:Col) (aa:Int) (ae:Ae),a2=ah.puts [(1,.map (some h)),(2,.func (.func 81) #[] [Pt ao 0,Pt ap 0,Pt aq 0].toArray),(3,.pointer (some ⟨a6,0,none⟩)),(18,.slice u a.args.length w),(19,.int .i64 (a.args.length:Int)),(20,.int .i64 e),(43,.slice ay f.length az),(44,.int .i64 (f.length:Int)),(45,.int .i64 aa)]∧Ha e ai f aw am aa ae=some ax∧AO [1] b8 ea a1 a8∧Mp a1 a8 1 h ae) g ?_ ?_
 exact ⟨_,b8,0,aw.1,Pu,d,(AO.refl [1] _ _),eb⟩
 rintro am _ a8 ⟨ah,a1,aa,ae,rfl,d,a9,be⟩
 rcases am with _|am
 exact BK d
 have d:Hl e ai f aw (Ha e ai f aw am) aa ae=some ax:=d
 obtain ⟨fe,cb⟩:∃s,s=Ha e ai f aw am:=⟨_,rfl⟩
 rw [←cb,Hl] at d
 refine Sr ?_
 refine Vr (.bool (decide (aa< (f.length:Int)))) ?_
 refine AA ?_
 refine Ac ?_
 refine Cn d (fun ef d=>?_) fun ef d=>?_
 refine WC.skip ?_
 refine Ac ?_
 refine Ao ?_
 refine Sr ?_
 obtain ⟨an,eg,d⟩:=bnd_sm d
 have eh:=(Ss E9 ca a9)
 obtain ⟨cc,cd,ff,cf,ei,ej,ek,el,bf⟩:=BX (κ:=E9) eh eg
 replace bf:BG a1 a8 cc (cd+aa.toNat*1) cf:=bf
 obtain rfl:=(show cf=[Sb an] from el)
 refine Vx (v:=.pointer (some ⟨cc,cd+aa.toNat*1,none⟩)) (Run.indexAddr Ir ei rfl ej ek) ?_
 refine Vx (v:=Sb an) (Run.load1 De rfl (BG.cell0 bf rfl)) ?_
 refine Va (Sb an) ?_
 refine AA ?_
 refine AQ ?_
 refine Vx (v:=.map (some h)) (Run.move rfl) ?_
 refine Vx (v:=Sb an) (Run.move rfl) ?_
 refine Vx (v:=I (CJ ae an)) (Ix Jv rfl rfl be) ?_
 refine Vr (I (Wr ((CJ ae an) - 1))) ?_
 refine Eu (JD Jv rfl rfl rfl be fun fg em en=>?_)
 refine AA ?_
 refine AQ ?_
 refine Vr (I (Wr (aa+1))) ?_
 refine Vx (v:=I (Wr (aa+1))) (Run.move rfl) ?_
 refine AA ?_
 exact ⟨am,Nat.lt_succ_self am,_,a1,(Wr (aa+1)),(Ko an (Wr ((CJ ae an) - 1)) ae),Pu,(cb▸d),(Tn (Mo [1] a9) en),em⟩
 refine CF ?_
 refine AQ ?_
 refine Vr (I (Wr (e+1))) ?_
 refine Vx (v:=I (Wr (e+1))) (Run.move rfl) ?_
 refine AA ?_
 have eo:=(Bs ec a9)
 exact ⟨ag,Nat.lt_succ_self ag,_,a1,(Wr (e+1)),ae,aw.2.why,aw.2.at_,Pu,(bx▸d),(T2 (T4 (Mo [1,5,21] ad) o p y l) b9 a9),be,eo⟩
 refine CF ?_
 obtain rfl:=AP d
 refine Ln (B:=B) cx (Lm rfl ?_)
 exact ⟨ar,[I m,I n],rfl,Ho (T2 (Mo [1,5,21] ab) ac ad) ci,bv,bw,(Aj (x:=(AE.mk m n)))⟩
theorem SB(h:Aw)(m:Nat)(q:Aw.Good h):scope_walk.Spec (Jn h m):=by
 intro l n a c d e f g aj ak al am an ao ap aq ar au av aw ax ay az r hnd hnz s o u w y p z aa ab
 refine Calls.mono (SA h m q (recol (see [a,c,d,e,f,g]) l) n (A3 lbr l) r trivial trivial (Av AJ s [a,c,d,e,f,g]) (GE o [a,c,d,e,f,g] (A8 hnd hnz (i:=0) rfl)) (A1 u [a,c,d,e,f,g] (A8 hnd hnz (i:=1) rfl)) (GE w [a,c,d,e,f,g] (A8 hnd hnz (i:=2) rfl)) (A1 y [a,c,d,e,f,g] (A8 hnd hnz (i:=3) rfl)) (A1 p [a,c,d,e,f,g] (A8 hnd hnz (i:=4) rfl)) (Av Aq z [a,c,d,e,f,g]) (A1 aa [a,c,d,e,f,g] (A8 hnd hnz (i:=5) rfl)) (Av Cp ab [a,c,d,e,f,g])) ?_
 rintro a0 a1 ⟨ac,ad,ae,af,ag,ah,ai⟩
 exact ⟨glue [a,c,d,e,f,g] n l ac,ad,ae,Ah af (DI rfl rfl),Yc o ag dcd,B9 p ah dcd,BA Aq ai⟩
theorem Aw.good:∀a,Aw.Good (Aw.at a)
 |0=>⟨by intro c d;intros;(try intro _);intros;exact BK (by assumption)⟩
 |n+1=>⟨SB _ n (Aw.good n)⟩
theorem Sz(a:Nat):scope_walk.Spec (scope_walk a):=(Aw.good a).scope_walk
def Hc.At(c:Col)(a:World)(f:AN→Option AE):Prop:=
 ∀{d:AN} {e:List Value} {g:AE},f d=some g→Cp.rep c.F a e d→
  Calls Tryz.prog 50 #[.agg e.toArray] a fun n h=>∃(l:Col) (m:List Value),n=.returned (.agg m.toArray)∧AO [] c a l h∧Aq.rep l.F h m g
def Hc.Spec(f:AN→Option AE):Prop:=
 ∀(a:Col) (c:World),Hc.At a c f
theorem Q6(h:Nat)(bw:Col)(di:World)(dj:∀b,bw b<10):Hc.At bw di (Hc h):=by
 intro e gb aj c dk
 rw [Hc] at c
 obtain ⟨gc,rfl,cf⟩:=Bl dk
 obtain ⟨ar,au,rfl⟩:=AI cf
 refine A5 Tryz.func50 rfl Tryz.ntmps50 rfl fun B dl gd=>?_
 refine Sr ?_
 refine Ef (By bw 20 rfl rfl fun dm ge aa dn cg=>?_)
 refine Ef (AY dm 21 Is rfl fun dp gf bb dq bx=>?_)
 refine AA ?_
 refine Sr ?_
 refine Ef (AY dp 22 Is rfl fun dr gg g ds bf=>?_)
 refine AA ?_
 refine Sr ?_
 refine Vx (v:=.func (.func 79) #[] [Pt g 0].toArray) (HS (vs:=[Pt g 0]) rfl) ?_
 refine Ef (AY dr 23 ZH rfl fun dt gh ak du bc=>?_)
 refine Eu (St (vs:=[.func (.func 79) #[] [Pt g 0].toArray]) (cs':=[.func (.func 79) #[] [Pt g 0].toArray]) Y9 du rfl rfl rfl rfl fun gi bz bd=>?_)
 refine AA ?_
 refine Sr ?_
 refine Ef (MI dt 24 fun dv gj a6 dw al=>?_)
 refine Ef (AY dv 25 AAo rfl fun ch gk am dx ad=>?_)
 refine Eu (St (vs:=[.map (some a6)]) (cs':=[.map (some a6)]) AAf dx rfl rfl rfl rfl fun dy ci ae=>?_)
 refine AA ?_
 refine Ac ?_
 refine Sr ?_
 refine Vx (v:=Pt aa 0) (Run.fieldAddr0 IC rfl) ?_
 have cj:=(Y3 (Y4 dn bx bf bc bd) al ad ae)
 refine Vx (v:=Sl ar e.funcs au) (Run.load1 Ji rfl (Bk.cell cj rfl)) ?_
 have b0:=(K4 AL (K4 AL cf cg bx bf bc) bd al ad ae)
 obtain ⟨gl,gm,dz⟩:=AI b0
 refine Vx (v:=I (e.funcs.length:Int)) (Run.lenSlc I3 dz) ?_
 refine Vx (v:=I 0) (Run.move rfl) ?_
 refine AA ?_
 refine Ao ?_
 refine CZ (fun an af av=>∃(o:Env) (ag:Col) (l:Int) (aw:Int) (ax:Int) (m:Ae),af=o.puts [(1,.pointer (some ⟨aa,0,none⟩)),(2,.pointer (some ⟨bb,0,none⟩)),(3,.pointer (some ⟨g,0,none⟩)),(4,.pointer (some ⟨ak,0,none⟩)),(5,.pointer (some ⟨am,0,none⟩)),(16,.slice ar e.funcs.length au),(17,.int .i64 (e.funcs.length:Int)),(18,.int .i64 l)]∧Gy h e an l aw ax m=some aj∧AO [22,24,26] ch dy ag av∧Bk ag av 22 g [I aw,I ax] 63∧Mp ag av 24 a6 m) h ?_ ?_
 have d0:=(Bs (Y4 ds bc bd al ad) ae)
 have d1:=(Ms (Ms dw ad) ae)
 exact ⟨_,ch,0,0,0,([]:Ae),Pu,c,(AO.refl [22,24,26] _ _),d0,d1⟩
 rintro an _ av ⟨o,ag,l,aw,ax,m,rfl,c,u,b1,ck⟩
 rcases an with _|an
 exact BK c
 have c:HH h e (Gy h e an) l aw ax m=some aj:=c
 obtain ⟨d2,cl⟩:∃s,s=Gy h e an:=⟨_,rfl⟩
 rw [←cl,HH] at c
 refine Sr ?_
 refine Vr (.bool (decide (l< (e.funcs.length:Int)))) ?_
 refine AA ?_
 refine Ac ?_
 refine Cn c (fun d3 c=>?_) fun d3 c=>?_
 refine WC.skip ?_
 refine Au (fun af bg=>∃(o:Env) (be:Col) (bh:Int) (bi:Int) (bj:Ae),af=o.puts [(1,.pointer (some ⟨aa,0,none⟩)),(2,.pointer (some ⟨bb,0,none⟩)),(3,.pointer (some ⟨g,0,none⟩)),(4,.pointer (some ⟨ak,0,none⟩)),(5,.pointer (some ⟨am,0,none⟩)),(16,.slice ar e.funcs.length au),(17,.int .i64 (e.funcs.length:Int)),(18,.int .i64 l)]∧Ib l d2 bh bi bj=some aj∧AO [22,24,26] ag av be bg∧Bk be bg 22 g [I bh,I bi] 63∧Mp be bg 24 a6 bj) ?_ ?_
 refine Ao ?_
 refine Sr ?_
 refine Vx (v:=I l) (Run.move rfl) ?_
 obtain ⟨d,d4,c⟩:=bnd_sm c
 have d5:=(Ss AL b0 u)
 obtain ⟨cm,cn,gn,d6,d7,d8,d9,ea,b2⟩:=BX (κ:=AL) d5 d4
 replace b2:BG ag av cm (cn+l.toNat*11) d6:=b2
 obtain ⟨go,gp,rfl,co,cq⟩:=F4 ea
 obtain ⟨bk,bl,rfl⟩:=AI co
 obtain ⟨bm,bn,rfl⟩:=AI cq
 refine Vx (v:=.pointer (some ⟨cm,cn+l.toNat*11,none⟩)) (Run.indexAddr I3 d7 rfl d8 d9) ?_
 refine Vx (v:=.agg [Sb d.name,Sl bk d.params bl,I d.type_,I d.body.op,Sb d.body.name,Sb d.body.tail,I d.body.type_,Cx d.body.num,Sl bm d.body.args bn,I d.body.at_,I d.at_].toArray) (Run.loadN M9 rfl rfl (BG.part0 b2 [Sb d.name,Sl bk d.params bl,I d.type_,I d.body.op,Sb d.body.name,Sb d.body.tail,I d.body.type_,Cx d.body.num,Sl bm d.body.args bn,I d.body.at_,I d.at_] rfl)) ?_
 refine Ef (AY ag 26 L3 rfl fun cr gq b3 eb ah=>?_)
 refine Va (I l) ?_
 have gr:=(Ss Ai co ah)
 have gs:=(Ss AJ cq ah)
 refine Eu (St (vs:=[Sb d.name,Sl bk d.params bl,I d.type_,I d.body.op,Sb d.body.name,Sb d.body.tail,I d.body.type_,Cx d.body.num,Sl bm d.body.args bn,I d.body.at_,I d.at_]) (cs':=[Sb d.name,Sl bk d.params bl,I d.type_,I d.body.op,Sb d.body.name,Sb d.body.tail,I d.body.type_,Cx d.body.num,Sl bm d.body.args bn,I d.body.at_,I d.at_]) ND eb rfl rfl rfl rfl fun ec b4 ay=>?_)
 refine AA ?_
 refine Sr ?_
 have ct:=(Y3 ci u ah ay)
 refine Vx (v:=.map (some a6)) (Run.load1 OF rfl (Bk.cell ct rfl)) ?_
 refine Vx (v:=Pt b3 0) (Run.fieldAddr0 PW rfl) ?_
 refine Vx (v:=Sb d.name) (Run.load1 De rfl (Bk.cell b4 rfl)) ?_
 have b5:=(Ms (Ms ck ah) ay)
 refine Vx (v:=I (CJ m d.name)) (Ix Jv rfl rfl b5) ?_
 refine Vr (.bool (decide ((CJ m d.name)>0))) ?_
 refine AA ?_
 refine Cn c (fun ed c=>?_) fun ed c=>?_
 refine AQ ?_
 have ee:=(Y2 (Y4 bz al ad ae u) ah ay)
 refine Vx (v:=.func (.func 79) #[] [Pt g 0].toArray) (Run.load1 PZ rfl (Bk.cell ee rfl)) ?_
 refine Vx (v:=Pt b3 10) (Run.fieldAddr XV rfl) ?_
 refine Vx (v:=I d.at_) (Run.load1 Be rfl (Bk.cell b4 rfl)) ?_
 have ef:=(Y2 b1 ah ay)
 obtain ⟨cu,eg,c⟩:=bnd_sm c
 refine Bx (.none rfl) rfl rfl (Rl (vs:=[I 30,I d.at_]) (caps:=[Pt g 0]) rfl rfl) ?_
 refine Calls.mono (It cr ec eg dcd dcd ef (Aj (x:=(AE.mk aw ax)))) ?_
 rintro _ gt ⟨eh,gu,rfl,cv,ei,ej⟩
 obtain rfl:=An ej
 refine ⟨_,rfl,?_⟩
 refine AA ?_
 have ek:=(Ms b5 cv)
 exact ⟨_,eh,cu.why,cu.at_,m,Pu,c,(T2 (Mo [22,24,26] ah) ay cv),ei,ek⟩
 refine AQ ?_
 refine Vx (v:=.map (some a6)) (Run.load1 OF rfl (Bk.cell ct rfl)) ?_
 refine Vx (v:=Pt b3 0) (Run.fieldAddr0 PW rfl) ?_
 refine Vx (v:=Sb d.name) (Run.load1 De rfl (Bk.cell b4 rfl)) ?_
 refine Vx (v:=I l) (Run.move rfl) ?_
 refine Vr (I (Wr (l+1))) ?_
 refine Eu (JD Jv rfl rfl rfl b5 fun gv el cw=>?_)
 refine AA ?_
 have em:=(Y3 b1 ah ay cw)
 exact ⟨_,cr,aw,ax,(Ko d.name (Wr (l+1)) m),Pu,c,(T2 (Mo [22,24,26] ah) ay cw),em,el⟩
 rintro _ bg ⟨o,be,bh,bi,bj,rfl,c,en,eo,ep⟩
 rw [Ib] at c
 refine AQ ?_
 refine Vr (I (Wr (l+1))) ?_
 refine Vx (v:=I (Wr (l+1))) (Run.move rfl) ?_
 refine AA ?_
 exact ⟨an,Nat.lt_succ_self an,_,be,(Wr (l+1)),bh,bi,bj,Pu,(cl▸c),(Tn (Mo [22,24,26] u) en),eo,ep⟩
 refine CF ?_
 refine Ac ?_
 refine Sr ?_
 refine Vx (v:=Pt aa 0) (Run.fieldAddr0 IC rfl) ?_
 have cx:=(Bs cj u)
 refine Vx (v:=Sl ar e.funcs au) (Run.load1 Ji rfl (Bk.cell cx rfl)) ?_
 have cy:=(Ss AL b0 u)
 obtain ⟨gw,gx,eq⟩:=AI cy
 refine Vx (v:=I (e.funcs.length:Int)) (Run.lenSlc I3 eq) ?_
 refine Vx (v:=I 0) (Run.move rfl) ?_
 refine AA ?_
 refine Ao ?_
 refine CZ (fun ao af bo=>∃(o:Env) (a7:Col) (n:Int) (p:Int) (q:Int),af=o.puts [(1,.pointer (some ⟨aa,0,none⟩)),(2,.pointer (some ⟨bb,0,none⟩)),(3,.pointer (some ⟨g,0,none⟩)),(4,.pointer (some ⟨ak,0,none⟩)),(5,.pointer (some ⟨am,0,none⟩)),(39,.slice ar e.funcs.length au),(40,.int .i64 (e.funcs.length:Int)),(41,.int .i64 n)]∧Cj h e m ao n p q=some aj∧AO [22,27,28,29] ag av a7 bo∧Bk a7 bo 22 g [I p,I q] 63) h ?_ ?_
 exact ⟨_,ag,0,aw,ax,Pu,c,(AO.refl [22,27,28,29] _ _),b1⟩
 rintro ao _ bo ⟨o,a7,n,p,q,rfl,c,ai,cz⟩
 rcases ao with _|ao
 exact BK c
 have c:HG h e m (Cj h e m ao) n p q=some aj:=c
 obtain ⟨bp,c0⟩:∃s,s=Cj h e m ao:=⟨_,rfl⟩
 rw [←c0,HG] at c
 refine Sr ?_
 refine Vr (.bool (decide (n< (e.funcs.length:Int)))) ?_
 refine AA ?_
 refine Ac ?_
 refine Cn c (fun er c=>?_) fun er c=>?_
 refine WC.skip ?_
 refine Ac ?_
 refine Ao ?_
 refine Sr ?_
 obtain ⟨a,es,c⟩:=bnd_sm c
 have c1:=(Ss AL cy ai)
 obtain ⟨c2,c3,gy,et,eu,ew,ex,ey,b6⟩:=BX (κ:=AL) c1 es
 replace b6:BG a7 bo c2 (c3+n.toNat*11) et:=b6
 obtain ⟨gz,g0,rfl,c4,c5⟩:=F4 ey
 obtain ⟨az,a0,rfl⟩:=AI c4
 obtain ⟨a1,a2,rfl⟩:=AI c5
 refine Vx (v:=.pointer (some ⟨c2,c3+n.toNat*11,none⟩)) (Run.indexAddr I3 eu rfl ew ex) ?_
 refine Vx (v:=.agg [Sb a.name,Sl az a.params a0,I a.type_,I a.body.op,Sb a.body.name,Sb a.body.tail,I a.body.type_,Cx a.body.num,Sl a1 a.body.args a2,I a.body.at_,I a.at_].toArray) (Run.loadN M9 rfl rfl (BG.part0 b6 [Sb a.name,Sl az a.params a0,I a.type_,I a.body.op,Sb a.body.name,Sb a.body.tail,I a.body.type_,Cx a.body.num,Sl a1 a.body.args a2,I a.body.at_,I a.at_] rfl)) ?_
 refine Ef (AY a7 27 L3 rfl fun ez g1 bq e0 ab=>?_)
 have e1:=(Ss Ai c4 ab)
 have e2:=(Ss AJ c5 ab)
 refine Eu (St (vs:=[Sb a.name,Sl az a.params a0,I a.type_,I a.body.op,Sb a.body.name,Sb a.body.tail,I a.body.type_,Cx a.body.num,Sl a1 a.body.args a2,I a.body.at_,I a.at_]) (cs':=[Sb a.name,Sl az a.params a0,I a.type_,I a.body.op,Sb a.body.name,Sb a.body.tail,I a.body.type_,Cx a.body.num,Sl a1 a.body.args a2,I a.body.at_,I a.at_]) ND e0 rfl rfl rfl rfl fun g2 e3 ac=>?_)
 refine AA ?_
 refine Sr ?_
 refine Ef (MI ez 28 fun c6 e4 ap e5 w=>?_)
 refine Va (.map (some ap)) ?_
 refine AA ?_
 refine Ac ?_
 refine Sr ?_
 refine Vx (v:=Pt bq 1) (Run.fieldAddr Io rfl) ?_
 have c7:=(Bs e3 w)
 refine Vx (v:=Sl az a.params a0) (Run.load1 HY rfl (Bk.cell c7 rfl)) ?_
 have c8:=(K2 Ai e1 ac w)
 obtain ⟨g3,g4,e6⟩:=AI c8
 refine Vx (v:=I (a.params.length:Int)) (Run.lenSlc G9 e6) ?_
 refine Vx (v:=I 0) (Run.move rfl) ?_
 refine AA ?_
 refine Ao ?_
 refine CZ (fun aq af a8=>∃(o:Env) (a3:Col) (r:Int) (a4:Int) (a5:Int) (y:Ae),af=o.puts [(1,.pointer (some ⟨aa,0,none⟩)),(2,.pointer (some ⟨bb,0,none⟩)),(3,.pointer (some ⟨g,0,none⟩)),(4,.pointer (some ⟨ak,0,none⟩)),(5,.pointer (some ⟨am,0,none⟩)),(9,.pointer (some ⟨bq,0,none⟩)),(10,.map (some ap)),(39,.slice ar e.funcs.length au),(40,.int .i64 (e.funcs.length:Int)),(41,.int .i64 n),(47,.slice az a.params.length a0),(48,.int .i64 (a.params.length:Int)),(49,.int .i64 r)]∧FF h e m n bp a aq r a4 a5 y=some aj∧AO [22,28,29] c6 e4 a3 a8∧Bk a3 a8 22 g [I a4,I a5] 63∧Mp a3 a8 28 ap y) h ?_ ?_
 have e7:=(Y3 cz ab ac w)
 exact ⟨_,c6,0,p,q,([]:Ae),Pu,c,(AO.refl [22,28,29] _ _),e7,e5⟩
 rintro aq _ a8 ⟨o,a3,r,a4,a5,y,rfl,c,z,b7,b8⟩
 rcases aq with _|aq
 exact BK c
 have c:FL h e m n bp a (FF h e m n bp a aq) r a4 a5 y=some aj:=c
 obtain ⟨e8,c9⟩:∃s,s=FF h e m n bp a aq:=⟨_,rfl⟩
 rw [←c9,FL] at c
 refine Sr ?_
 refine Vr (.bool (decide (r< (a.params.length:Int)))) ?_
 refine AA ?_
 refine Ac ?_
 refine Cn c (fun e9 c=>?_) fun e9 c=>?_
 refine WC.skip ?_
 refine Ac ?_
 refine Ao ?_
 refine Sr ?_
 obtain ⟨f,fa,c⟩:=bnd_sm c
 have fb:=(Ss Ai c8 z)
 obtain ⟨da,db,g5,fc,fd,fe,ff,fg,b9⟩:=BX (κ:=Ai) fb fa
 replace b9:BG a3 a8 da (db+r.toNat*3) fc:=b9
 obtain rfl:=Iy fg
 refine Vx (v:=.pointer (some ⟨da,db+r.toNat*3,none⟩)) (Run.indexAddr G9 fd rfl fe ff) ?_
 refine Vx (v:=.agg [Sb f.name,I f.type_,I f.at_].toArray) (Run.loadN VS rfl rfl (BG.part0 b9 [Sb f.name,I f.type_,I f.at_] rfl)) ?_
 refine Ef (AY a3 29 LU rfl fun ca g6 br fh a9=>?_)
 refine Eu (St (vs:=[Sb f.name,I f.type_,I f.at_]) (cs':=[Sb f.name,I f.type_,I f.at_]) Ve fh rfl rfl rfl rfl fun dc cb ba=>?_)
 refine AA ?_
 refine Au (fun af cc=>∃(o:Env) (bt:Col) (bu:Int) (bv:Int),af=o.puts [(1,.pointer (some ⟨aa,0,none⟩)),(2,.pointer (some ⟨bb,0,none⟩)),(3,.pointer (some ⟨g,0,none⟩)),(4,.pointer (some ⟨ak,0,none⟩)),(5,.pointer (some ⟨am,0,none⟩)),(9,.pointer (some ⟨bq,0,none⟩)),(10,.map (some ap)),(12,.pointer (some ⟨br,0,none⟩)),(39,.slice ar e.funcs.length au),(40,.int .i64 (e.funcs.length:Int)),(41,.int .i64 n),(47,.slice az a.params.length a0),(48,.int .i64 (a.params.length:Int)),(49,.int .i64 r)]∧Ic r y e8 f bu bv=some aj∧AO [22] ca dc bt cc∧Bk bt cc 22 g [I bu,I bv] 63) ?_ ?_
 refine Sr ?_
 refine Vx (v:=.map (some ap)) (Run.move rfl) ?_
 refine Vx (v:=Pt br 0) (Run.fieldAddr0 OC rfl) ?_
 refine Vx (v:=Sb f.name) (Run.load1 De rfl (Bk.cell cb rfl)) ?_
 have fi:=(Ms (Ms b8 a9) ba)
 refine Vx (v:=I (CJ y f.name)) (Ix Jv rfl rfl fi) ?_
 refine Vr (.bool (decide ((CJ y f.name)>0))) ?_
 refine AA ?_
 refine Cn c (fun fj c=>?_) fun fj c=>?_
 refine AQ ?_
 have fk:=(Y3 (Y4 (Y4 bz al ad ae u) ai ab ac w) z a9 ba)
 refine Vx (v:=.func (.func 79) #[] [Pt g 0].toArray) (Run.load1 PZ rfl (Bk.cell fk rfl)) ?_
 refine Vx (v:=Pt br 2) (Run.fieldAddr Xb rfl) ?_
 refine Vx (v:=I f.at_) (Run.load1 Be rfl (Bk.cell cb rfl)) ?_
 have fl:=(Y2 b7 a9 ba)
 obtain ⟨de,fm,c⟩:=bnd_sm c
 refine Bx (.none rfl) rfl rfl (Rl (vs:=[I 30,I f.at_]) (caps:=[Pt g 0]) rfl rfl) ?_
 refine Calls.mono (It ca dc fm dcd dcd fl (Aj (x:=(AE.mk a4 a5)))) ?_
 rintro _ g7 ⟨fn,g8,rfl,fo,fp,fq⟩
 obtain rfl:=An fq
 refine ⟨_,rfl,?_⟩
 refine AA ?_
 exact ⟨_,fn,de.why,de.at_,Pu,c,(Mo [22] fo),fp⟩
 refine WC.skip ?_
 have fr:=(Y2 b7 a9 ba)
 exact ⟨_,ca,a4,a5,Pu,c,(AO.refl [22] _ _),fr⟩
 rintro _ cc ⟨o,bt,bu,bv,rfl,c,cd,fs⟩
 rw [Ic] at c
 refine AQ ?_
 refine Vx (v:=.map (some ap)) (Run.move rfl) ?_
 refine Vx (v:=Pt br 0) (Run.fieldAddr0 OC rfl) ?_
 have ft:=(Bs cb cd)
 refine Vx (v:=Sb f.name) (Run.load1 De rfl (Bk.cell ft rfl)) ?_
 have df:=(Ms (Ms (Ms b8 a9) ba) cd)
 refine Vx (v:=I (CJ y f.name)) (Ix Jv rfl rfl df) ?_
 refine Vr (I (Wr ((CJ y f.name)+1))) ?_
 refine Eu (JD Jv rfl rfl rfl df fun g9 fu dg=>?_)
 refine AA ?_
 refine AQ ?_
 refine Vr (I (Wr (r+1))) ?_
 refine Vx (v:=I (Wr (r+1))) (Run.move rfl) ?_
 refine AA ?_
 have fv:=(Bs fs dg)
 exact ⟨aq,Nat.lt_succ_self aq,_,bt,(Wr (r+1)),bu,bv,(Ko f.name (Wr ((CJ y f.name)+1)) y),Pu,(c9▸c),(T4 (Mo [22,28,29] z) a9 ba cd dg),fv,fu⟩
 refine CF ?_
 refine AQ ?_
 refine Vx (v:=Pt bq 3) (Run.fieldAddr OA rfl) ?_
 have fw:=(Bs c7 z)
 refine Vx (v:=.agg [I a.body.op,Sb a.body.name,Sb a.body.tail,I a.body.type_,Cx a.body.num,Sl a1 a.body.args a2,I a.body.at_].toArray) (Run.loadN BL rfl rfl (Bk.part fw 3 [I a.body.op,Sb a.body.name,Sb a.body.tail,I a.body.type_,Cx a.body.num,Sl a1 a.body.args a2,I a.body.at_] rfl)) ?_
 refine Vx (v:=.map (some ap)) (Run.move rfl) ?_
 refine Vx (v:=.func (.func 81) #[] [Pt am 0,Pt ak 0,Pt aa 0].toArray) (HS (vs:=[Pt am 0,Pt ak 0,Pt aa 0]) rfl) ?_
 have fx:=(K3 AJ e2 ac w z)
 have fy:=(Y2 (Y4 ci u ai ab ac) w z)
 have fz:=(Ms (Ms (Ms (Ms (Ms ck ai) ab) ac) w) z)
 have f0:=(Bs (Y4 (Y4 bz al ad ae u) ai ab ac w) z)
 have f1:=(Bs (Y4 cx ai ab ac w) z)
 have f2:=(K4 AL c1 ab ac w z)
 obtain ⟨dh,f3,c⟩:=bnd_sm c
 refine Bx (.none rfl) rfl rfl (XL [.agg [I a.body.op,Sb a.body.name,Sb a.body.tail,I a.body.type_,Cx a.body.num,Sl a1 a.body.args a2,I a.body.at_].toArray,.map (some ap),.func (.func 81) #[] [Pt am 0,Pt ak 0,Pt aa 0].toArray] rfl) ?_
 refine Calls.mono (Sz h a3 a8 f3 dcd dcd (Ag (x:=(AD.mk a.body.op a.body.name a.body.tail a.body.type_ a.body.num a.body.args a.body.at_)) fx) b8 fy fz f0 b7 (Aj (x:=(AE.mk a4 a5))) f1 (CA (x:=e) f2)) ?_
 rintro _ ha ⟨f4,hb,rfl,f5,hc,f6,f7⟩
 obtain rfl:=An f7
 refine ⟨_,rfl,?_⟩
 refine AA ?_
 refine AQ ?_
 refine Vr (I (Wr (n+1))) ?_
 refine Vx (v:=I (Wr (n+1))) (Run.move rfl) ?_
 refine AA ?_
 exact ⟨ao,Nat.lt_succ_self ao,_,f4,(Wr (n+1)),dh.2.why,dh.2.at_,Pu,(c0▸c),(Tn (T4 (Mo [22,27,28,29] ai) ab ac w z) f5),f6⟩
 refine CF ?_
 refine Sr ?_
 refine Vx (v:=.agg [I p,I q].toArray) (Run.loadN Mb rfl rfl (Bk.part cz 0 [I p,I q] rfl)) ?_
 have f8:=(Y4 (Y4 dq bf bc bd al) ad ae u ai)
 refine Eu (St (vs:=[I p,I q]) (cs':=[I p,I q]) H0 f8 rfl rfl rfl rfl fun hd f9 ga=>?_)
 refine AA ?_
 refine AZ ?_
 obtain rfl:=AP c
 refine A0 (B:=B) dl (BQ rfl (.agg Mb rfl rfl (Bk.part f9 0 [I p,I q] rfl)) ?_)
 exact ⟨a7,[I p,I q],rfl,Ho (T2 (T4 (T4 (Mo [21,22,23,24,25,26,27,28,29] cg) bx bf bc bd) al ad ae u) ai ga) dj,(Aj (x:=(AE.mk p q)))⟩
theorem SC(c:Nat):Hc.Spec (Hc c):=by
 intro a d o p q e f
 refine Calls.mono (Q6 c (recol (see []) a) d (A3 lbr a) e (Av Cp f [])) ?_
 rintro r s ⟨g,h,l,m,n⟩
 exact ⟨glue [] d a g,h,l,Ah m A2,BA Aq n⟩
def JU.Spec(f:AN→AE→Option (Ae×(List AK)×(List AH)×Ae)):Prop:=
 ∀(g:Col) (d:World) {n:AN} {o:List Value} {h:Nat} {l:Nat} {p:AE} {q:List Value} {kn1:Nat} {kn2:Nat} {ko1_2:Nat} {e:Ae×(List AK)×(List AH)×Ae},f n p=some e→[l,kn1,kn2,ko1_2].Nodup→0∉[l,kn1,kn2,ko1_2]→Cp.rep g.F d o n→Bk g d l h q 63→Aq.rep g.F d q p→
  Calls Tryz.prog 51 #[.agg o.toArray,.func (.func 52) #[] [Pt h 0].toArray] d fun w a=>∃(c:Col) (r:Nat) (m:Nat) (s:Value) (u:Value),w=.returned (Pt r 0)∧AO [kn1,kn2,ko1_2] g d c a∧Mp c a kn2 m e.1∧Bk c a kn1 r [.map (some m),s,u,.func (.func 52) #[] [Pt h 0].toArray] 134∧Slc AL c.F a s e.2.1∧Own Ai 87 c a ko1_2 u e.2.2.1∧Mp c a kn2 m e.2.2.2
theorem SD(ah:Nat)(n:Col)(q:World)(a0:∀b,n b<10){e:AN}{ai:List Value}{y:Nat}{aj:AE}{ak:List Value}{h:Ae×(List AK)×(List AH)×Ae}(a1:Cp.rep n.F q ai e)(_ho0:Bk n q 1 y ak 63)(a2:Aq.rep n.F q ak aj)(a:JU ah e aj=some h):
  Calls Tryz.prog 51 #[.agg ai.toArray,.func (.func 52) #[] [Pt y 0].toArray] q fun a3 o=>∃(p:Col) (al:Nat) (aa:Nat) (am:Value) (an:Value),a3=.returned (Pt al 0)∧AO [2,3,4] n q p o∧Mp p o 3 aa h.1∧Bk p o 2 al [.map (some aa),am,an,.func (.func 52) #[] [Pt y 0].toArray] 134∧Slc AL p.F o am h.2.1∧Own Ai 87 p o 4 an h.2.2.1∧Mp p o 3 aa h.2.2.2:=by
 rw [JU] at a
 obtain ⟨b1,rfl,ao⟩:=Bl a1
 obtain ⟨ap,aq,rfl⟩:=AI ao
 obtain rfl:=An a2
 refine A5 Tryz.func51 rfl Tryz.ntmps51 rfl fun B a4 f=>Sr<|Ef (By n 20 rfl rfl fun a5 b2 a6 a7 ar=>?_)
 refine Va (.pointer none)<|AA<|Sr<|Ef (MI a5 3 fun a8 b3 ab a9 ac=>?_)
 refine Vx (Run.fieldAddr0 IC rfl)<|have au:=Bs a7 ac;Vx (Run.load1 Ji rfl (Bk.cell au rfl))<|Vm<|Vx (v:=.agg [.map (some ab),Sl ap e.funcs aq,.slice none 0 0,.func (.func 52) #[] [Pt y 0].toArray].toArray) (Bp ZG ZD rfl (.cons rfl rfl rfl (.cons rfl rfl rfl (.cons rfl rfl rfl .nil))))<|Ef (By a8 2 rfl rfl fun av ba r aw z=>?_)
 refine Va (Pt r 0)<|AA<|Ac<|Sr<|Vx (Run.fieldAddr0 IC rfl)<|have ax:=Bs au z;Vx (Run.load1 Ji rfl (Bk.cell ax rfl))<|have ad:=K3 AL ao ar ac z; ?_
 obtain ⟨b4,b5,bb⟩:=AI ad
 refine Vx (v:=I (e.funcs.length:Int)) (Run.lenSlc I3 bb)<|Vr (I (Wr ((e.funcs.length:Int) - 1)))<|Va (I (Wr ((e.funcs.length:Int) - 1)))<|AA<|Ao<|CZ (fun g bc ae=>∃(ay:Env) (l:Col) (d:Int) (u:Ae),bc=ay.puts [(2,.pointer (some ⟨a6,0,none⟩)),(5,.pointer (some ⟨r,0,none⟩)),(6,.int .i64 d)]∧Hd e g d u=some h∧AO [3] av ba l ae∧Mp l ae 3 ab u) ah ?_ ?_
 refine have bd:=Ms a9 z;⟨_,av,(Wr ((e.funcs.length:Int) - 1)),([]:Ae),Pu,a,(AO.refl [3] _ _),bd⟩
 rintro g _ ae ⟨ay,l,d,u,rfl,a,m,af⟩
 rcases g with _|g
 exact BK a
 refine have a:Hp e (Hd e g) d u=some h:=a; ?_
 obtain ⟨b6,az⟩:∃s,s=Hd e g:=⟨_,rfl⟩
 rw [←az,Hp] at a
 refine Ac<|Sr<|Vm<|Vr (.bool (decide (d≥0)))<|AA<|Cn a (fun be a=>?_) fun be a=>?_
 refine WC.skip<|Ac<|Ao<|Cc Ff (.q 0 (.q 1 (.q 2 (.q 3 (.q 4 (.q 5 (.q 6 (.q 7 (.q 8 (.q 9 (.q 10 (.q 11 (.one 12 .nil))))))))))))) [12] [] l (by kernel_rfl) fun bf w=>Qx f rfl (v:=Pt r 0) (fun _ ⟨_,c⟩=>Run.move rfl)<|Qx f rfl (fun _ ⟨_,c⟩=>Run.nilCheck rfl)<|Qx f rfl (fun _ ⟨_,c⟩=>Run.fieldAddr0 TS rfl)<|have bg:=Y2 aw m w;Qx f rfl (fun _ ⟨_,c⟩=>Run.load1 OF rfl (Bk.cell (Bs bg c) rfl))<|Qx f rfl (fun _ ⟨_,c⟩=>Run.fieldAddr0 IC rfl)<|have bh:=Y2 ax m w;Qx f rfl (fun _ ⟨_,c⟩=>Run.load1 Ji rfl (Bk.cell (Bs bh c) rfl))<|Qx f rfl (v:=I d) (fun _ ⟨_,c⟩=>Run.move rfl)<|Bi a fun bi bj a=>have bk:=K2 AL ad m w; ?_
 obtain ⟨bl,bm,b7,bn,bo,bp,bq,br,ag⟩:=BX (κ:=AL) bk bj
 replace ag:BG l bf bl (bm+d.toNat*11) bn:=ag
 obtain ⟨b8,b9,rfl,bt,bu⟩:=F4 br
 obtain ⟨ca,cb,rfl⟩:=AI bt
 obtain ⟨cc,cd,rfl⟩:=AI bu
 refine Qx f rfl (fun _ ⟨_,c⟩=>Run.indexAddr I3 bo rfl bp bq)<|Qx f rfl (fun _ ⟨_,c⟩=>Run.fieldAddr0 PW rfl)<|Qx f rfl (fun _ ⟨_,c⟩=>Run.load1 De rfl (BG.cell0 (Es ag c) rfl))<|Qx f rfl (v:=I d) (fun _ ⟨_,c⟩=>Run.move rfl)<|Qx f rfl (v:=I (Wr (d+1))) (fun _ ⟨_,c⟩=>rfl)<|E0 dcd<|WY.one<|have bv:=Ms af w;BT rfl (.none rfl) rfl (JD Jv rfl rfl rfl bv fun cf bw bx=>?_)
 refine WY.nil<|AQ<|Vm<|Vr (I (Wr (d - 1)))<|Va (I (Wr (d - 1)))<|AA<|⟨g,Nat.lt_succ_self g,_,l,(Wr (d - 1)),(Ko bi.name (Wr (d+1)) u),Pu,(az▸a),(T2 (Mo [3] m) w bx),bw⟩
 refine CF<|Sr<|Vm<|Va (Pt r 0)<|AA<|AZ ?_
 obtain rfl:=AP a
 refine A0 (B:=B) a4 (BQ rfl (.tmp rfl) ?_)
 refine have bz:=Bs aw m;have b0:=Ss AL ad m;⟨l,r,ab,Sl ap e.funcs aq,.slice none 0 0,rfl,Ho (T3 (Mo [3] ar) ac z m) a0,af,bz,b0,Own.nil,af⟩
theorem S0(e:Nat):JU.Spec (JU e):=by
 intro d f ab ac ad a ae af kn1 kn2 ko1_2 ag g hnd hnz h l m
 refine Calls.mono (SD e (recol (see [a,kn1,kn2,ko1_2]) d) f (A3 lbr d) (Av Cp h [a,kn1,kn2,ko1_2]) (A1 l [a,kn1,kn2,ko1_2] (A8 hnd hnz (i:=0) rfl)) (Av Aq m [a,kn1,kn2,ko1_2]) g) ?_
 rintro ah ai ⟨n,o,p,q,r,s,c,u,w,y,z,aa⟩
 exact ⟨glue [a,kn1,kn2,ko1_2] f d n,o,p,q,r,s,Ah c (DI rfl rfl),Vv (j:=2) u rfl rfl c,Tm (j:=1) w rfl rfl c,Et AL y,JQ (j:=3) z rfl rfl c,Vv (j:=2) aa rfl rfl c⟩
def FG.At(G1 G2:Prop)(c:Col)(a:World)(f:Int→AE→Option AE)(d:Nat):Prop:=
 ∀{l:Int} {e:Nat} {m:AE} {n:List Value} {o:AE},f l m=some o→G1→G2→Bk c a d e n 63→Aq.rep c.F a n m→
  Calls Tryz.prog 52 #[I l,Pt e 0] a fun q g=>∃(h:Col) (p:List Value),q=.returned (.tuple #[])∧AO [d] c a h g∧Bk h g d e p 63∧Aq.rep h.F g p o
def FG.Spec(f:Int→AE→Option AE):Prop:=
 ∀(c:Col) (d:World) {a:Nat},FG.At ([a].Nodup) (0∉[a]) c d f a
theorem Pd(f:Col)(n:World)(o:∀b,f b<10):FG.At True True f n FG 1:=by
 intro d s e ae u a _ _ g w
 rw [FG] at a
 obtain rfl:=An w
 refine A5 Tryz.func52 rfl Tryz.ntmps52 rfl fun B p af=>Au (fun y q=>∃(r:Env) (h:Col) (m:Bool),y=r.puts [(0,.int .i64 d),(1,.pointer (some ⟨s,0,none⟩)),(11,.bool m)]∧Id d e m=some u∧AO [] f n h q) ?_ ?_
 refine AQ<|Vx (Run.fieldAddr0 PX rfl)<|Vx (Run.load1 KO rfl (Bk.cell g rfl))<|Vr (.bool (e.why==0))<|Vm<|Bo a (fun c a=>?_) fun c a=>?_
 refine Pg c<|Pg c<|Pg c<|Pg c<|Vp c<|AA<|⟨_,f,true,Pu,a,(AO.refl [] _ _)⟩
 refine Gm c<|Gx c (Run.fieldAddr Uq rfl)<|Gx c (Run.load1 Be rfl (Bk.cell g rfl))<|Gr c (.bool (decide (d<e.at_)))<|Vp c<|AA<|⟨_,f,(decide (d<e.at_)),Pu,a,(AO.refl [] _ _)⟩
 rintro _ q ⟨r,h,m,rfl,a,l⟩
 rw [Id] at a
 refine Cn a (fun z a=>?_) fun z a=>?_
 refine AQ<|Vm<|Vx (v:=.agg [I 34,I d].toArray) (Bp Is QC rfl (.cons rfl rfl rfl (.cons rfl rfl rfl .nil)))<|have aa:=Bs g l;Eu (St H0 aa rfl rfl rfl rfl fun ag ab ac=>?_)
 refine AA ?_
 obtain rfl:=AP a
 refine Ln (B:=B) p (Lm rfl ?_)
 exact ⟨h,[I 34,I d],rfl,Ho (Tn (Mo [1] l) ac) o,ab,(Aj (x:=(AE.mk 34 d)))⟩
 refine WC.skip ?_
 obtain rfl:=AP a
 refine Ln (B:=B) p (Lm rfl ?_)
 refine have ad:=Bs g l;⟨h,[I e.why,I e.at_],rfl,Ho (Mo [] l) o,ad,(Aj (x:=e))⟩
theorem QL:FG.Spec FG:=by
 intro c d a q r s u w f hnd hnz e g
 refine Calls.mono (Pd (recol (see [a]) c) d (A3 lbr c) f trivial trivial (A1 e [a] (A8 hnd hnz (i:=0) rfl)) (Av Aq g [a])) ?_
 rintro y z ⟨h,l,m,n,o,p⟩
 exact ⟨glue [a] d c h,l,m,Ah n (DI rfl rfl),B9 e o dcd,BA Aq p⟩
def types_checker_want.Spec(f:(List AK)→(List AH)→Ae→AE→AD→Int→Option ((List AK)×(List AH)×AE)):Prop:=
 ∀(c:Col) (a:World) {n:Nat} {g:Nat} {q:(List AK)} {r:Value} {s:(List AH)} {u:Value} {ko0_2:Nat} {o:Nat} {p:Nat} {w:Ae} {l:Nat} {h:Nat} {y:AE} {z:List Value} {aa:AD} {ab:List Value} {ac:Int} {m:(List AK)×(List AH)×AE},f q s w y aa ac=some m→[g,p,h,ko0_2].Nodup→0∉[g,p,h,ko0_2]→Bk c a g n [.map (some o),r,u,.func (.func 52) #[] [Pt l 0].toArray] 134→Slc AL c.F a r q→Own Ai 87 c a ko0_2 u s→Mp c a p o w→Bk c a h l z 63→Aq.rep c.F a z y→AJ.rep c.F a ab aa→
  Calls Tryz.prog 53 #[Pt n 0,.agg ab.toArray,I ac] a fun ag d=>∃(e:Col) (ad:Value) (ae:Value) (af:List Value),ag=.returned (.tuple #[])∧AO [g,h,ko0_2] c a e d∧Bk e d g n [.map (some o),ad,ae,.func (.func 52) #[] [Pt l 0].toArray] 134∧Slc AL e.F d ad m.1∧Own Ai 87 e d ko0_2 ae m.2.1∧Bk e d h l af 63∧Aq.rep e.F d af m.2.2
def types_checker_all.Spec(f:(List AK)→(List AH)→Ae→AE→Int→(List AD)→Option ((List AK)×(List AH)×AE)):Prop:=
 ∀(c:Col) (a:World) {n:Nat} {g:Nat} {q:(List AK)} {r:Value} {s:(List AH)} {u:Value} {ko0_2:Nat} {o:Nat} {p:Nat} {w:Ae} {l:Nat} {h:Nat} {y:AE} {z:List Value} {aa:Int} {ab:(List AD)} {ac:Value} {m:(List AK)×(List AH)×AE},f q s w y aa ab=some m→[g,p,h,ko0_2].Nodup→0∉[g,p,h,ko0_2]→Bk c a g n [.map (some o),r,u,.func (.func 52) #[] [Pt l 0].toArray] 134→Slc AL c.F a r q→Own Ai 87 c a ko0_2 u s→Mp c a p o w→Bk c a h l z 63→Aq.rep c.F a z y→Slc AJ c.F a ac ab→
  Calls Tryz.prog 82 #[Pt n 0,I aa,ac] a fun ag d=>∃(e:Col) (ad:Value) (ae:Value) (af:List Value),ag=.returned (.tuple #[])∧AO [g,h,ko0_2] c a e d∧Bk e d g n [.map (some o),ad,ae,.func (.func 52) #[] [Pt l 0].toArray] 134∧Slc AL e.F d ad m.1∧Own Ai 87 e d ko0_2 ae m.2.1∧Bk e d h l af 63∧Aq.rep e.F d af m.2.2
def types_checker_in.Spec(f:(List AK)→(List AH)→Ae→AE→AD→Int→(List AH)→Option ((List AK)×(List AH)×AE)):Prop:=
 ∀(c:Col) (a:World) {l:Nat} {g:Nat} {u:(List AK)} {w:Value} {y:(List AH)} {z:Value} {ko0_2:Nat} {o:Nat} {p:Nat} {aa:Ae} {m:Nat} {h:Nat} {ab:AE} {ac:List Value} {ad:Nat} {q:Nat} {ae:Nat} {r:Nat} {af:AD} {ag:List Value} {ah:Nat} {s:Nat} {ai:Int} {aj:(List AH)} {ak:Value} {n:(List AK)×(List AH)×AE},f u y aa ab af ai aj=some n→[g,p,h,q,r,s,ko0_2].Nodup→0∉[g,p,h,q,r,s,ko0_2]→Bk c a g l [.map (some o),w,z,.func (.func 52) #[] [Pt m 0].toArray] 134→Slc AL c.F a w u→Own Ai 87 c a ko0_2 z y→Mp c a p o aa→Bk c a h m ac 63→Aq.rep c.F a ac ab→Bk c a q ad [Pt l 0] 130→Bk c a r ae ag 56→AJ.rep c.F a ag af→Bk c a s ah [I ai] 34→Slc Ai c.F a ak aj→
  Calls Tryz.prog 83 #[Pt l 0,.func (.func 84) #[] [Pt ad 0,Pt ae 0,Pt ah 0].toArray,ak] a fun ao d=>∃(e:Col) (al:Value) (am:Value) (an:List Value),ao=.returned (.tuple #[])∧AO [g,h,ko0_2] c a e d∧Bk e d g l [.map (some o),al,am,.func (.func 52) #[] [Pt m 0].toArray] 134∧Slc AL e.F d al n.1∧Own Ai 87 e d ko0_2 am n.2.1∧Bk e d h m an 63∧Aq.rep e.F d an n.2.2
def types_checker_in_2.Spec(f:(List AK)→(List AH)→Ae→AE→AD→Int→(List AH)→Option ((List AK)×(List AH)×AE)):Prop:=
 ∀(c:Col) (a:World) {l:Nat} {g:Nat} {u:(List AK)} {w:Value} {y:(List AH)} {z:Value} {ko0_2:Nat} {o:Nat} {p:Nat} {aa:Ae} {m:Nat} {h:Nat} {ab:AE} {ac:List Value} {ad:Nat} {q:Nat} {ae:Nat} {r:Nat} {af:AD} {ag:List Value} {ah:Nat} {s:Nat} {ai:Int} {aj:(List AH)} {ak:Value} {n:(List AK)×(List AH)×AE},f u y aa ab af ai aj=some n→[g,p,h,q,r,s,ko0_2].Nodup→0∉[g,p,h,q,r,s,ko0_2]→Bk c a g l [.map (some o),w,z,.func (.func 52) #[] [Pt m 0].toArray] 134→Slc AL c.F a w u→Own Ai 87 c a ko0_2 z y→Mp c a p o aa→Bk c a h m ac 63→Aq.rep c.F a ac ab→Bk c a q ad [Pt l 0] 130→Bk c a r ae ag 56→AJ.rep c.F a ag af→Bk c a s ah [I ai] 34→Slc Ai c.F a ak aj→
  Calls Tryz.prog 83 #[Pt l 0,.func (.func 85) #[] [Pt ad 0,Pt ae 0,Pt ah 0].toArray,ak] a fun ao d=>∃(e:Col) (al:Value) (am:Value) (an:List Value),ao=.returned (.tuple #[])∧AO [g,h,ko0_2] c a e d∧Bk e d g l [.map (some o),al,am,.func (.func 52) #[] [Pt m 0].toArray] 134∧Slc AL e.F d al n.1∧Own Ai 87 e d ko0_2 am n.2.1∧Bk e d h m an 63∧Aq.rep e.F d an n.2.2
def types_checker_in_3.Spec(f:(List AK)→(List AH)→Ae→AE→AD→Int→(List AH)→Option ((List AK)×(List AH)×AE)):Prop:=
 ∀(c:Col) (a:World) {l:Nat} {g:Nat} {u:(List AK)} {w:Value} {y:(List AH)} {z:Value} {ko0_2:Nat} {o:Nat} {p:Nat} {aa:Ae} {m:Nat} {h:Nat} {ab:AE} {ac:List Value} {ad:Nat} {q:Nat} {ae:Nat} {r:Nat} {af:AD} {ag:List Value} {ah:Nat} {s:Nat} {ai:Int} {aj:(List AH)} {ak:Value} {n:(List AK)×(List AH)×AE},f u y aa ab af ai aj=some n→[g,p,h,q,r,s,ko0_2].Nodup→0∉[g,p,h,q,r,s,ko0_2]→Bk c a g l [.map (some o),w,z,.func (.func 52) #[] [Pt m 0].toArray] 134→Slc AL c.F a w u→Own Ai 87 c a ko0_2 z y→Mp c a p o aa→Bk c a h m ac 63→Aq.rep c.F a ac ab→Bk c a q ad [Pt l 0] 130→Bk c a r ae ag 56→AJ.rep c.F a ag af→Bk c a s ah [I ai] 34→Slc Ai c.F a ak aj→
  Calls Tryz.prog 83 #[Pt l 0,.func (.func 86) #[] [Pt ad 0,Pt ae 0,Pt ah 0].toArray,ak] a fun ao d=>∃(e:Col) (al:Value) (am:Value) (an:List Value),ao=.returned (.tuple #[])∧AO [g,h,ko0_2] c a e d∧Bk e d g l [.map (some o),al,am,.func (.func 52) #[] [Pt m 0].toArray] 134∧Slc AL e.F d al n.1∧Own Ai 87 e d ko0_2 am n.2.1∧Bk e d h m an 63∧Aq.rep e.F d an n.2.2
def types_checker_own.Spec(f:(List AK)→(List AH)→Ae→AE→AD→Option (Int×(List AK)×(List AH)×AE)):Prop:=
 ∀(c:Col) (a:World) {n:Nat} {g:Nat} {q:(List AK)} {r:Value} {s:(List AH)} {u:Value} {ko0_2:Nat} {o:Nat} {p:Nat} {w:Ae} {m:Nat} {h:Nat} {y:AE} {z:List Value} {aa:AD} {ab:List Value} {l:Int×(List AK)×(List AH)×AE},f q s w y aa=some l→[g,p,h,ko0_2].Nodup→0∉[g,p,h,ko0_2]→Bk c a g n [.map (some o),r,u,.func (.func 52) #[] [Pt m 0].toArray] 134→Slc AL c.F a r q→Own Ai 87 c a ko0_2 u s→Mp c a p o w→Bk c a h m z 63→Aq.rep c.F a z y→AJ.rep c.F a ab aa→
  Calls Tryz.prog 87 #[Pt n 0,.agg ab.toArray] a fun af d=>∃(e:Col) (ac:Value) (ad:Value) (ae:List Value),af=.returned (I l.1)∧AO [g,h,ko0_2] c a e d∧Bk e d g n [.map (some o),ac,ad,.func (.func 52) #[] [Pt m 0].toArray] 134∧Slc AL e.F d ac l.2.1∧Own Ai 87 e d ko0_2 ad l.2.2.1∧Bk e d h m ae 63∧Aq.rep e.F d ae l.2.2.2
def types_checker_want_1.Spec(f:(List AK)→(List AH)→Ae→AE→AD→Int→Option ((List AK)×(List AH)×AE)):Prop:=
 ∀(c:Col) (a:World) {u:Nat} {n:Nat} {o:Nat} {g:Nat} {w:(List AK)} {y:Value} {z:(List AH)} {aa:Value} {ko1_2:Nat} {p:Nat} {q:Nat} {ab:Ae} {l:Nat} {h:Nat} {ac:AE} {ad:List Value} {ae:Nat} {r:Nat} {af:AD} {ag:List Value} {ah:Nat} {s:Nat} {ai:Int} {m:(List AK)×(List AH)×AE},f w z ab ac af ai=some m→[n,g,q,h,r,s,ko1_2].Nodup→0∉[n,g,q,h,r,s,ko1_2]→Bk c a n u [Pt o 0] 130→Bk c a g o [.map (some p),y,aa,.func (.func 52) #[] [Pt l 0].toArray] 134→Slc AL c.F a y w→Own Ai 87 c a ko1_2 aa z→Mp c a q p ab→Bk c a h l ad 63→Aq.rep c.F a ad ac→Bk c a r ae ag 56→AJ.rep c.F a ag af→Bk c a s ah [I ai] 34→
  Calls Tryz.prog 84 #[Pt u 0,Pt ae 0,Pt ah 0] a fun am d=>∃(e:Col) (aj:Value) (ak:Value) (al:List Value),am=.returned (.tuple #[])∧AO [g,h,ko1_2] c a e d∧Bk e d g o [.map (some p),aj,ak,.func (.func 52) #[] [Pt l 0].toArray] 134∧Slc AL e.F d aj m.1∧Own Ai 87 e d ko1_2 ak m.2.1∧Bk e d h l al 63∧Aq.rep e.F d al m.2.2
def types_checker_want_2.Spec(f:(List AK)→(List AH)→Ae→AE→AD→Int→Option ((List AK)×(List AH)×AE)):Prop:=
 ∀(c:Col) (a:World) {u:Nat} {n:Nat} {o:Nat} {g:Nat} {w:(List AK)} {y:Value} {z:(List AH)} {aa:Value} {ko1_2:Nat} {p:Nat} {q:Nat} {ab:Ae} {l:Nat} {h:Nat} {ac:AE} {ad:List Value} {ae:Nat} {r:Nat} {af:AD} {ag:List Value} {ah:Nat} {s:Nat} {ai:Int} {m:(List AK)×(List AH)×AE},f w z ab ac af ai=some m→[n,g,q,h,r,s,ko1_2].Nodup→0∉[n,g,q,h,r,s,ko1_2]→Bk c a n u [Pt o 0] 130→Bk c a g o [.map (some p),y,aa,.func (.func 52) #[] [Pt l 0].toArray] 134→Slc AL c.F a y w→Own Ai 87 c a ko1_2 aa z→Mp c a q p ab→Bk c a h l ad 63→Aq.rep c.F a ad ac→Bk c a r ae ag 56→AJ.rep c.F a ag af→Bk c a s ah [I ai] 34→
  Calls Tryz.prog 85 #[Pt u 0,Pt ae 0,Pt ah 0] a fun am d=>∃(e:Col) (aj:Value) (ak:Value) (al:List Value),am=.returned (.tuple #[])∧AO [g,h,ko1_2] c a e d∧Bk e d g o [.map (some p),aj,ak,.func (.func 52) #[] [Pt l 0].toArray] 134∧Slc AL e.F d aj m.1∧Own Ai 87 e d ko1_2 ak m.2.1∧Bk e d h l al 63∧Aq.rep e.F d al m.2.2
def types_checker_want_3.Spec(f:(List AK)→(List AH)→Ae→AE→AD→Int→Option ((List AK)×(List AH)×AE)):Prop:=
 ∀(c:Col) (a:World) {u:Nat} {n:Nat} {o:Nat} {g:Nat} {w:(List AK)} {y:Value} {z:(List AH)} {aa:Value} {ko1_2:Nat} {p:Nat} {q:Nat} {ab:Ae} {l:Nat} {h:Nat} {ac:AE} {ad:List Value} {ae:Nat} {r:Nat} {af:AD} {ag:List Value} {ah:Nat} {s:Nat} {ai:Int} {m:(List AK)×(List AH)×AE},f w z ab ac af ai=some m→[n,g,q,h,r,s,ko1_2].Nodup→0∉[n,g,q,h,r,s,ko1_2]→Bk c a n u [Pt o 0] 130→Bk c a g o [.map (some p),y,aa,.func (.func 52) #[] [Pt l 0].toArray] 134→Slc AL c.F a y w→Own Ai 87 c a ko1_2 aa z→Mp c a q p ab→Bk c a h l ad 63→Aq.rep c.F a ad ac→Bk c a r ae ag 56→AJ.rep c.F a ag af→Bk c a s ah [I ai] 34→
  Calls Tryz.prog 86 #[Pt u 0,Pt ae 0,Pt ah 0] a fun am d=>∃(e:Col) (aj:Value) (ak:Value) (al:List Value),am=.returned (.tuple #[])∧AO [g,h,ko1_2] c a e d∧Bk e d g o [.map (some p),aj,ak,.func (.func 52) #[] [Pt l 0].toArray] 134∧Slc AL e.F d aj m.1∧Own Ai 87 e d ko1_2 ak m.2.1∧Bk e d h l al 63∧Aq.rep e.F d al m.2.2
def types_checker_call.Spec(f:(List AK)→(List AH)→Ae→AE→AD→Option (Int×(List AK)×(List AH)×AE)):Prop:=
 ∀(c:Col) (a:World) {n:Nat} {g:Nat} {q:(List AK)} {r:Value} {s:(List AH)} {u:Value} {ko0_2:Nat} {o:Nat} {p:Nat} {w:Ae} {m:Nat} {h:Nat} {y:AE} {z:List Value} {aa:AD} {ab:List Value} {l:Int×(List AK)×(List AH)×AE},f q s w y aa=some l→[g,p,h,ko0_2].Nodup→0∉[g,p,h,ko0_2]→Bk c a g n [.map (some o),r,u,.func (.func 52) #[] [Pt m 0].toArray] 134→Slc AL c.F a r q→Own Ai 87 c a ko0_2 u s→Mp c a p o w→Bk c a h m z 63→Aq.rep c.F a z y→AJ.rep c.F a ab aa→
  Calls Tryz.prog 112 #[Pt n 0,.agg ab.toArray] a fun af d=>∃(e:Col) (ac:Value) (ad:Value) (ae:List Value),af=.returned (I l.1)∧AO [g,h,ko0_2] c a e d∧Bk e d g n [.map (some o),ac,ad,.func (.func 52) #[] [Pt m 0].toArray] 134∧Slc AL e.F d ac l.2.1∧Own Ai 87 e d ko0_2 ad l.2.2.1∧Bk e d h m ae 63∧Aq.rep e.F d ae l.2.2.2
structure AF.Good(a:AF):Prop where
 types_checker_want:types_checker_want.Spec a.types_checker_want
 types_checker_all:types_checker_all.Spec a.types_checker_all
 types_checker_in:types_checker_in.Spec a.types_checker_in
 types_checker_in_2:types_checker_in_2.Spec a.types_checker_in_2
 types_checker_in_3:types_checker_in_3.Spec a.types_checker_in_3
 types_checker_own:types_checker_own.Spec a.types_checker_own
 types_checker_want_1:types_checker_want_1.Spec a.types_checker_want_1
 types_checker_want_2:types_checker_want_2.Spec a.types_checker_want_2
 types_checker_want_3:types_checker_want_3.Spec a.types_checker_want_3
 types_checker_call:types_checker_call.Spec a.types_checker_call
end Fth
