/- Part 3 of the proof: what it says holds of the given program; no condition. -/
import Derived.Test.YtiodboehkcmdnaaGreatProg
import Derived.KernelRfl
import Derived.Test.YtiodboehkcmdnaaGreatKB
set_option linter.all false
set_option exponentiation.threshold 3000
namespace Fth
open Go Go.Proofs Sh
set_option maxRecDepth 100000
set_option maxHeartbeats 8000000
theorem PV(r:Nat)(c7:Col)(er:World)(es:∀b,c7 b<10):C9.At True True c7 er (C9 r) 1:=by
 intro e u ji dy av a _ _ c8 et
 rw [C9] at a
 obtain ⟨eu,ew,rfl,b2⟩:=E1 (Ab et)
 refine Az Tryz.func74 Z Tryz.ntmps74 Z λB ex c=>Sr<|Ef<|Aa c7 20 KZ Z λc9 da a1 ey a2=>AA<|Am (λw bk=>∃m bl bb db dc b3 x63 b4 b5 b6 b7 b8 b9,w=Env.puts m [(0,Pt e 0),(4,Pt a1 0)]/\ER r bb b3 x63 b4 b5 b6 b7 b8 b9=some av/\AU [1] c9 da bl bk/\Slc Ai bl.F bk (Sl db bb dc) bb/\Bk bl bk 1 e [Sl db bb dc,I b3,I x63,I b4,I b5,I b6,I b7,I b8,I b9] 126) ?_ ?_
 refine Am (λw de=>∃m ca df,w=Env.puts m [(0,Pt e 0),(4,Pt a1 0),(21,.bool df)]/\ES r u df=some av/\AU [] c9 da ca de) ?_ ?_
 refine AM<|Vm<|have dz:=Bs c8 a2;have ez:=Ss Ai b2 a2;Bi a λbc e0 a=>Ca (Cg [Pt e 0] Z) (Cd c9 da e0 dcd dcd dz (AO (x:=u) ez)) ?_
 rintro _ jk ⟨d0,jl,rfl,dg,e1⟩
 obtain rfl:=DO e1
 refine Vx (v:=I bc.kind) (Kz (cs:=[I bc.kind,Sb bc.text,Cx bc.num,I bc.at_]) RJ Z Z)<|Vr (.bool (bc.kind==0))<|Vm<|Bo a (λp a=>?_) λp a=>?_
 refine Gm p<|Gm p<|Gx p (Nc Z)<|Gx p (Fd RG Z)<|Gx p (Fd ZV Z)<|have e2:=Bs dz dg;Gx p (Ld BC Z (Bc e2 Z))<|Gr p (.bool (decide (dy>=u.l.funcs)))<|Vp p<|AA<|⟨_,d0,(decide (dy>=u.l.funcs)),Pu,a,(Mo [] dg)⟩
 refine Pg p<|Pg p<|Pg p<|Pg p<|Pg p<|Pg p<|Pg p<|Vp p<|AA<|⟨_,d0,false,Pu,a,(Mo [] dg)⟩
 rintro _ de ⟨m,ca,df,rfl,a,bd⟩
 rw [ES] at a
 refine Cn a (λe3 a=>?_) λe3 a=>?_
 refine AM<|Vm<|have e4:=Y2 c8 a2 bd;have e5:=K2 Ai b2 a2 bd;Bi a λad e6 a=>Ca (Cg [Pt e 0,I 22] Z) (FS ca de e6 dcd dcd e4 (AO (x:=u) e5)) ?_
 rintro _ jm ⟨e7,jn,rfl,e8,e9,fa⟩
 obtain ⟨fb,fc,rfl,d1⟩:=E1 (Ab fa)
 refine AA<|⟨_,e7,ad.marks,fb,fc,ad.at_,ad.why,ad.where_,ad.l.text,ad.l.funcs,ad.l.arity,ad.l.nest,ad.nest,Pu,a,(Tn (Mo [1] bd) e8),d1,e9⟩
 refine AR<|have fd:=K2 Ai b2 a2 bd;have fe:=Y2 c8 a2 bd;⟨_,ca,u.marks,eu,ew,u.at_,u.why,u.where_,u.l.text,u.l.funcs,u.l.arity,u.l.nest,u.nest,Pu,a,(Mo [1] bd),fd,fe⟩
 rintro _ bk ⟨m,bl,bb,db,dc,b3,x63,b4,b5,b6,b7,b8,b9,rfl,a,d2,ff,fg⟩
 rw [ER] at a
 refine Sr<|Vm<|Bi a λh fh a=>Ca (Cg [Pt e 0] Z) (ID bl bk fh dcd dcd fg (AO (x:=(AC.mk bb b3 x63 b4 (Aj.mk b5 b6 b7 b8) b9)) ff)) ?_
 rintro _ jp ⟨fi,jq,jr,rfl,d3,fj,fk,fl⟩
 obtain rfl:=DO fj
 obtain ⟨jt,ju,rfl,d4⟩:=E1 (Ab fl)
 refine Ef<|Aa fi 21 HC Z λfm jv jw fn cb=>Eu<|St HQ fn Z Z Z Z λjx d5 cc=>AA<|Sr<|Vx (Fd Fq Z)<|Vx (Ld B7 Z (Bc d5 Z))<|Vx (Fd MD Z)<|Vx (Ld BC Z (Bc d5 Z))<|Vx (v:=Ag [Sb h.1.text,.slice none 0 0,I 0,I 0,Sb ([]:Bts),Sb ([]:Bts),I 0,Cx (((0,0):Cpl)),.slice none 0 0,I 0,I h.1.at_]) (Bp KZ Zg Z (.cons Z Z Z (.cons Z Z Z .nil)))<|Ef<|Aa fm 22 KZ Z λfo jy be fp cd=>Eu<|St LP fp Z Z Z Z λfq fr cf=>AA<|Sr<|Vm<|have fs:=Y4 fk cb cc cd cf;have ft:=K4 Ai d4 cb cc cd cf;Bi a λae fu a=>Ca (Cg [Pt e 0,Sb ([40]:Bts)] Z) (Be fo fq fu dcd dcd fs (AO (x:=h.2) ft)) ?_
 rintro _ fv ⟨d6,jz,rfl,dh,fw,fx⟩
 obtain ⟨fy,fz,rfl,d7⟩:=E1 (Ab fx)
 refine AA<|AT<|Ah<|Bj (λaw w ax=>∃m af y cg ch ag aa ah ai aj ak al am g ay az,w=Env.puts m [(0,Pt e 0),(4,Pt a1 0),(6,Pt be 0)]/\Bq r h aw y ag aa ah ai aj ak al am g=some av/\AU [1,22,23,25] d6 fv af ax/\Slc Ai af.F ax (Sl cg y ch) y/\Own AZ 87 af ax 25 (Sl ay g az) g/\Bk af ax 1 e [Sl cg y ch,I ag,I aa,I ah,I ai,I aj,I ak,I al,I am] 126/\Bk af ax 22 be [Sb h.1.text,Sl ay g az,I 0,I 0,Sb ([]:Bts),Sb ([]:Bts),I 0,Cx (((0,0):Cpl)),.slice none 0 0,I 0,I h.1.at_] 58) r ?_ ?_
 refine have f0:=Bs fr dh;⟨_,d6,ae.marks,fy,fz,ae.at_,ae.why,ae.where_,ae.l.text,ae.l.funcs,ae.l.arity,ae.l.nest,ae.nest,([]:List AJ),none,0,Pu,a,(AU.refl [1,22,23,25] _ _),d7,Own.nil,fw,f0⟩
 rintro aw _ ax ⟨m,af,y,cg,ch,ag,aa,ah,ai,aj,ak,al,am,g,ay,az,rfl,a,di,ci,cj,bm,ck⟩
 rcases aw with _|aw
 exact A5 a
 refine have a:DT r h (Bq r h aw) y ag aa ah ai aj ak al am g=some av:=a; ?_
 obtain ⟨cl,d8⟩:∃s,s=Bq r h aw:=⟨_,rfl⟩
 rw [<-d8,DT] at a
 refine AT<|Am (λw bn=>∃m bf dj,w=Env.puts m [(0,Pt e 0),(4,Pt a1 0),(6,Pt be 0),(42,.bool dj)]/\Do r h y ag aa ah ai aj ak al am g cl dj=some av/\AU [] af ax bf bn) ?_ ?_
 refine AM<|Vm<|Vx (Nc Z)<|Vx (Fd Jb Z)<|Vx (Ld BC Z (Bc bm Z))<|Vr (.bool (aa==0))<|Vm<|Bo a (λan a=>?_) λan a=>?_
 refine Gm an<|Bi a λd9 f1 a=>CQ (.guard (t:=true) (b:=true) Z Z Z Z (Cb an)) Z Z (Cg [Pt e 0,Sb ([41]:Bts)] Z)<|Calls.mono (DC af ax f1 dcd dcd bm (AO (x:=(AC.mk y ag aa ah (Aj.mk ai aj ak al) am)) ci)) ?_
 rintro _ j1 ⟨f2,rfl,f3⟩
 refine ⟨_,Z,?_⟩
 refine Gr an (.bool (!d9))<|Vp an<|AA<|⟨_,f2,(!d9),Pu,a,(Mo [] f3)⟩
 refine Pg an<|Pg an<|Pg an<|Vp an<|AA<|⟨_,af,false,Pu,a,Rf⟩
 rintro _ bn ⟨m,bf,dj,rfl,a,q⟩
 rw [Do] at a
 refine Cn a (λf4 a=>?_) λf4 a=>?_
 refine AR<|Ah<|Am (λw bg=>∃m ao ap cm cn a3 aq a4 a5 a6 ab a7 a8,w=Env.puts m [(0,Pt e 0),(4,Pt a1 0),(6,Pt be 0)]/\EQ r g cl ap a3 aq a4 a5 a6 ab a7 a8=some av/\AU [1] bf bn ao bg/\Slc Ai ao.F bg (Sl cm ap cn) ap/\Bk ao bg 1 e [Sl cm ap cn,I a3,I aq,I a4,I a5,I a6,I ab,I a7,I a8] 126) ?_ ?_
 refine Sr<|Vx (Fd De Z)<|have f5:=Bs ck q;Vx (Ld EF Z (Bc f5 Z))<|have f6:=Os cj q; ?_
 obtain ⟨j2,j3,f7⟩:=Own.len f6
 refine Vx (v:=I (g.length:Int)) (Ll Df f7)<|Vr (.bool (decide ((g.length:Int)>0)))<|AA<|Cn a (λf8 a=>?_) λf8 a=>?_
 refine AM<|Vm<|have f9:=Bs bm q;have ga:=Ss Ai ci q;Bi a λar gb a=>Ca (Cg [Pt e 0,Sb ([44]:Bts)] Z) (Be bf bn gb dcd dcd f9 (AO (x:=(AC.mk y ag aa ah (Aj.mk ai aj ak al) am)) ga)) ?_
 rintro _ j4 ⟨gc,j5,rfl,gd,ge,gf⟩
 obtain ⟨gg,gh,rfl,ea⟩:=E1 (Ab gf)
 refine AA<|⟨_,gc,ar.marks,gg,gh,ar.at_,ar.why,ar.where_,ar.l.text,ar.l.funcs,ar.l.arity,ar.l.nest,ar.nest,Pu,a,(Mo [1] gd),ea,ge⟩
 refine AR<|have gi:=Ss Ai ci q;have gj:=Bs bm q;⟨_,bf,y,cg,ch,ag,aa,ah,ai,aj,ak,al,am,Pu,a,(AU.refl [1] _ _),gi,gj⟩
 rintro _ bg ⟨m,ao,ap,cm,cn,a3,aq,a4,a5,a6,ab,a7,a8,rfl,a,bo,dk,dl⟩
 rw [EQ] at a
 refine Am (λw bp=>∃m bq bh dm dn co cq cr ct cu cv cw cx,w=Env.puts m [(0,Pt e 0),(4,Pt a1 0),(6,Pt be 0)]/\EO r g cl bh co cq cr ct cu cv cw cx=some av/\AU [1] ao bg bq bp/\Slc Ai bq.F bp (Sl dm bh dn) bh/\Bk bq bp 1 e [Sl dm bh dn,I co,I cq,I cr,I ct,I cu,I cv,I cw,I cx] 126) ?_ ?_
 refine Am (λw dp=>∃m cy dq,w=Env.puts m [(0,Pt e 0),(4,Pt a1 0),(6,Pt be 0),(70,.bool dq)]/\Dn r g cl ap a3 aq a4 a5 a6 ab a7 a8 dq=some av/\AU [] ao bg cy dp) ?_ ?_
 refine BZ C7 (qs 0 7 (.one 7 (qs 8 14 .nil))) [] [] ao (by kernel_rfl) λgk a9=>Qx c Z (v:=Pt e 0) (λ_ _=>Mv Z)<|Qx c Z (λ_ _=>Nc Z)<|Qx c Z (λ_ _=>Fd Jb Z)<|have dr:=Bs dl a9;Qx c Z (λ_ ⟨_,f⟩=>Ld BC Z (Bc (Bs dr f) Z))<|Qx c Z (v:=.bool (aq==0)) (λ_ _=>Z)<|Qx c Z (v:=.bool (aq==0)) (λ_ _=>Mv Z)<|Bo a (λz a=>?_) λz a=>?_
 refine Qg c Z z (v:=Pt e 0) (λ_ _=>Mv Z)<|A2 Z<|have gl:=Ss Ai dk a9;Bi a λa0 gm a=>A4 Z (.guard (t:=true) (b:=true) Z Z Z Z (Cb z)) Z Z (Cg [Pt e 0] Z)<|Calls.mono (Cd ao gk gm dcd dcd dr (AO (x:=(AC.mk ap a3 aq a4 (Aj.mk a5 a6 ab a7) a8)) gl)) ?_
 rintro _ j7 ⟨eb,j8,rfl,ds,gn⟩
 obtain rfl:=DO gn
 refine ⟨_,Z,⟨_,(Mo [] ds)⟩,?_⟩
 refine Qg c Z z (v:=I a0.kind) (λ_ _=>Kz (cs:=[I a0.kind,Sb a0.text,Cx a0.num,I a0.at_]) RJ Z Z)<|Qg c Z z (v:=.bool (a0.kind==0)) (λ_ _=>Z)<|Qx c Z (v:=.bool (a0.kind==0)) (λ_ _=>(Pk z))<|Qx c Z (v:=.bool (a0.kind==0)) (λ_ _=>Mv Z)<|Bo a (λl a=>?_) λl a=>?_
 refine Qg c Z l (λ_ _=>Fd De Z)<|Qg c Z l (λ_ ⟨_,f⟩=>Ld EF Z (Bc (Y4 ck q bo a9 f) Z)) ?_
 obtain ⟨j9,ka,go⟩:=Own.len (Os (Os (Os cj q) bo) a9)
 refine Qg c Z l (v:=I (g.length:Int)) (λ_ _=>Ll Df go)<|Qg c Z l (v:=Pt e 0) (λ_ _=>Mv Z)<|Qg c Z l (λ_ _=>Nc Z)<|Qg c Z l (λ_ _=>Fd RG Z)<|Qg c Z l (λ_ _=>Fd ZW Z)<|Qg c Z l (λ_ ⟨_,f⟩=>Ld BC Z (Bc (Bs dr f) Z))<|Qg c Z l (v:=.bool (decide ((g.length:Int)>=ab))) (λ_ _=>Z)<|Qx c Z (v:=.bool (decide ((g.length:Int)>=ab))) (λ_ _=>(Pk l))<|CA<|⟨_,eb,(decide ((g.length:Int)>=ab)),Pu,a,(Tn (Mo [] a9) ds)⟩
 refine Qp c Z l<|Qp c Z l<|Qp c Z l<|Qp c Z l<|Qp c Z l<|Qp c Z l<|Qp c Z l<|Qp c Z l<|Qp c Z l<|Qx c Z (v:=.bool false) (λ_ _=>(Pk l))<|CA<|⟨_,eb,false,Pu,a,(Tn (Mo [] a9) ds)⟩
 refine Qp c Z z<|A2 Z<|LY Z (.guard (t:=false) (b:=true) Z Z Z Z (Cb z)) Z Z<|⟨⟨_,Rf⟩,?_⟩
 refine Qp c Z z<|Qp c Z z<|Qx c Z (v:=.bool false) (λ_ _=>(Pk z))<|Qx c Z (v:=.bool false) (λ_ _=>Mv Z)<|Qp c Z Z<|Qp c Z Z<|Qp c Z Z<|Qp c Z Z<|Qp c Z Z<|Qp c Z Z<|Qp c Z Z<|Qp c Z Z<|Qp c Z Z<|Qx c Z (v:=.bool false) (λ_ _=>Z)<|CA<|⟨_,ao,false,Pu,a,(Mo [] a9)⟩
 rintro _ dp ⟨m,cy,dq,rfl,a,bi⟩
 rw [Dn] at a
 refine Cn a (λgp a=>?_) λgp a=>?_
 refine AM<|Vm<|have gq:=Bs dl bi;have gr:=Ss Ai dk bi;Bi a λau gs a=>Ca (Cg [Pt e 0,I 22] Z) (FS cy dp gs dcd dcd gq (AO (x:=(AC.mk ap a3 aq a4 (Aj.mk a5 a6 ab a7) a8)) gr)) ?_
 rintro _ kb ⟨gt,kc,rfl,gu,gv,gw⟩
 obtain ⟨gx,gy,rfl,ec⟩:=E1 (Ab gw)
 refine AA<|⟨_,gt,au.marks,gx,gy,au.at_,au.why,au.where_,au.l.text,au.l.funcs,au.l.arity,au.l.nest,au.nest,Pu,a,(Tn (Mo [1] bi) gu),ec,gv⟩
 refine AR<|have gz:=Ss Ai dk bi;have g0:=Bs dl bi;⟨_,cy,ap,cm,cn,a3,aq,a4,a5,a6,ab,a7,a8,Pu,a,(Mo [1] bi),gz,g0⟩
 rintro _ bp ⟨m,bq,bh,dm,dn,co,cq,cr,ct,cu,cv,cw,cx,rfl,a,dt,g1,g2⟩
 rw [EO] at a
 refine Sr<|Vm<|Bi a λn g3 a=>Ca (Cg [Pt e 0] Z) (ID bq bp g3 dcd dcd g2 (AO (x:=(AC.mk bh co cq cr (Aj.mk ct cu cv cw) cx)) g1)) ?_
 rintro _ ke ⟨g4,kf,kg,rfl,du,g5,g6,g7⟩
 obtain rfl:=DO g5
 obtain ⟨ki,kj,rfl,ed⟩:=E1 (Ab g7)
 refine Ef<|Aa g4 23 HC Z λg8 kk kl g9 br=>Eu<|St HQ g9 Z Z Z Z λha hb bt=>AA<|Sr<|Vm<|have hc:=Y2 g6 br bt;have hd:=K2 Ai ed br bt;Bi a λo he a=>Ca (Cg [Pt e 0] Z) (J5 r g8 ha he dcd dcd hc (AO (x:=n.2) hd)) ?_
 rintro _ km ⟨hf,kn,rfl,cz,hg,hh⟩
 obtain ⟨hi,hj,rfl,ee⟩:=E1 (Ab hh)
 refine Va (I o.1)<|AA<|AM<|Vx (Fd De Z)<|have ef:=Y3 (Y4 ck q bo dt du) br bt cz;Vx (Ld EF Z (Bc ef Z))<|Vx (Fd Fq Z)<|have eg:=Bs hb cz;Vx (Ld B7 Z (Bc eg Z))<|Vm<|Vx (Fd MD Z)<|Vx (Ld BC Z (Bc eg Z))<|Vx (v:=Ag [Sb n.1.text,I o.1,I n.1.at_]) (Bp Lo RL Z (.cons Z Z Z (.cons Z Z Z (.cons Z Z Z .nil))))<|Ef<|Cj (cs:=[Sb n.1.text,I o.1,I n.1.at_]) hf 24 [[Sb n.1.text,I o.1,I n.1.at_]] Df Lo Z Z (.cons Z Z Z .nil) Z λhk hl hm hn bu=>have ho:Own AZ 87 hk hl 24 (.slice (some ⟨hm,0,none⟩) 1 1) ([(AJ.mk n.1.text o.1 n.1.at_)]:List AJ):=Own.lit (css:=[[Sb n.1.text,I o.1,I n.1.at_]]) hn Z Z Z (Ac (LZ (x:=(AJ.mk n.1.text o.1 n.1.at_))) BB) (A6 Z Ds) Z;have hp:=Os (Os (Os (Os (Os (Os (Os (Os cj q) bo) dt) du) br) bt) cz) bu;Bi a λkp eh a=>Ef<|Br (κ:=AZ) Z Z hp dcd QK (CI ho) (Ea eh) (Ew eh) λkq hq kr dv c0=>?_
 obtain ⟨dw,dx,rfl⟩:=Own.len dv
 refine Vx (Fd De Z)<|have hr:=Y2 ef bu c0;Eu<|Bf (vs:=[Sl dw ((g++([(AJ.mk n.1.text o.1 n.1.at_)]:List AJ))) dx]) (cs':=[Sb h.1.text,Sl dw ((g++([(AJ.mk n.1.text o.1 n.1.at_)]:List AJ))) dx,I 0,I 0,Sb ([]:Bts),Sb ([]:Bts),I 0,Cx (((0,0):Cpl)),.slice none 0 0,I 0,I h.1.at_]) PK Z Z Z Z (AQ (Own.one dv) B6) hr dcd Z Z λks hs c1=>AA<|have ht:=K3 Ai ee bu c0 c1;have hu:=Os dv c1;have hw:=Y3 hg bu c0 c1;⟨aw,Nat.lt_succ_self aw,_,hq,o.2.marks,hi,hj,o.2.at_,o.2.why,o.2.where_,o.2.l.text,o.2.l.funcs,o.2.l.arity,o.2.l.nest,o.2.nest,(g++([(AJ.mk n.1.text o.1 n.1.at_)]:List AJ)),dw,dx,Pu,(d8▸a),(T2 (T4 (T4 (Mo [1,22,23,25] di) q bo dt du) br bt cz bu) c0 c1),ht,hu,hw,hs⟩
 refine BX<|Sr<|Vm<|have hx:=Bs bm q;have hy:=Ss Ai ci q;Bi a λhz h0 a=>Ca (Cg [Pt e 0,Sb ([41]:Bts)] Z) (Be bf bn h0 dcd dcd hx (AO (x:=(AC.mk y ag aa ah (Aj.mk ai aj ak al) am)) hy)) ?_
 rintro _ h1 ⟨h2,kt,rfl,c2,h3,h4⟩
 obtain ⟨kv,kw,rfl,ei⟩:=E1 (Ab h4)
 refine AA<|Sr<|Vm<|Bi a λh5 h6 a=>Ca (Cg [Pt e 0,Sb ([58]:Bts)] Z) (Be h2 h1 h6 dcd dcd h3 (AO (x:=hz) ei)) ?_
 rintro _ h7 ⟨h8,kx,rfl,c3,h9,ia⟩
 obtain ⟨kz,k0,rfl,ej⟩:=E1 (Ab ia)
 refine AA<|Sr<|Vm<|Bi a λba ib a=>Ca (Cg [Pt e 0] Z) (J5 r h8 h7 ib dcd dcd h9 (AO (x:=h5) ej)) ?_
 rintro _ k1 ⟨ic,k2,rfl,c4,id,ie⟩
 obtain ⟨k4,k5,rfl,ek⟩:=E1 (Ab ie)
 refine Vx (Fd NM Z)<|have ig:=Y4 ck q c2 c3 c4;Eu<|St Xu ig Z Z Z Z λih ii bv=>AA<|Sr<|Vm<|have ij:=Bs id bv;have ik:=Ss Ai ek bv;Bi a λil im a=>Ca (Cg [Pt e 0,Sb ([61]:Bts)] Z) (Be ic ih im dcd dcd ij (AO (x:=ba.2) ik)) ?_
 rintro _ io ⟨ip,k6,rfl,c5,iq,ir⟩
 obtain ⟨k8,k9,rfl,el⟩:=E1 (Ab ir)
 refine AA<|Sr<|Vm<|Bi a λd it a=>Ca (Cg [Pt e 0] Z) (PU r ip io it dcd dcd iq (AO (x:=il) el)) ?_
 rintro _ la ⟨iu,lb,lc,rfl,c6,iv,iw,ix⟩
 obtain ⟨bw,bx,rfl,em⟩:=E1 (Ae iv)
 obtain ⟨lf,lg,rfl,en⟩:=E1 (Ab ix)
 refine Vx (Fd LO Z)<|have iy:=Y2 ii c5 c6;Eu<|St D7 iy Z Z Z Z λiz i0 bj=>AA<|Sr<|Vm<|have i1:=Bs iw bj;have i2:=Ss Ai en bj;Bi a λac i3 a=>Ca (Cg [Pt e 0,Sb ([59]:Bts)] Z) (Be iu iz i3 dcd dcd i1 (AO (x:=d.2) i2)) ?_
 rintro _ lh ⟨li,lj,rfl,bz,i4,i5⟩
 obtain ⟨i6,i7,rfl,eo⟩:=E1 (Ab i5)
 refine AA<|Sr<|have i8:=Bs i0 bz;Vx (Lx Lm Z Z (Bw i8))<|have i9:=Bs (Y4 (Y4 (Y4 (Y4 ey d2 d3 cb cc) cd cf dh di) q c2 c3 c4) bv c5 c6 bj) bz;have ep:=Os (Os (Os (Os (Os (Os (Os (Os (Os cj q) c2) c3) c4) bv) c5) c6) bj) bz;have eq:=K2 AG em bj bz;Eu<|Bf (vs:=[Sb h.1.text,Sl ay g az,I ba.1,I d.1.op,Sb d.1.name,Sb d.1.tail,I d.1.type_,Cx d.1.num,Sl bw d.1.args bx,I d.1.at_,I h.1.at_]) (cs':=[Sb h.1.text,Sl ay g az,I ba.1,I d.1.op,Sb d.1.name,Sb d.1.tail,I d.1.type_,Cx d.1.num,Sl bw d.1.args bx,I d.1.at_,I h.1.at_]) LP Z Z Z Z (AQ Z (AQ (Own.one ep) (AQ Z (AQ Z (AQ Z (AQ Z (AQ Z (AQ Z (AQ (Fg eq) (AQ Z (AQ Z B6))))))))))) i9 dcd Z Z λll ja b0=>AA<|AS<|have jb:=Os ep b0; ?_
 obtain ⟨jc,b1,jd⟩:=Own.freeze (S:=[25]) jb dcd dcd
 obtain rfl:=AK a
 refine have je:=Bs ja b1;O1 B ex Z (.agg Lm Z Z (Bw je))<|have jf:=K2 AG eq b0 b1;have jg:=Y2 i4 b0 b1;have jh:=K2 Ai eo b0 b1;⟨jc,[Sb h.1.text,Sl ay g az,I ba.1,I d.1.op,Sb d.1.name,Sb d.1.tail,I d.1.type_,Cx d.1.num,Sl bw d.1.args bx,I d.1.at_,I h.1.at_],[Sl i6 ac.marks i7,I ac.at_,I ac.why,I ac.where_,I ac.l.text,I ac.l.funcs,I ac.l.arity,I ac.l.nest,I ac.nest],Z,Ho (T3 (T4 (T4 (T4 (T4 (Mo [1,20,21,22,23,25] a2) d2 d3 cb cc) cd cf dh di) q c2 c3 c4) bv c5 c6 bj) bz b0 b1) es,(K0 (x:=(AN.mk h.1.text g ba.1 d.1 h.1.at_)) jd jf),jg,(AO (x:=ac) jh)⟩
theorem P3(d:Nat):C9.Spec (C9 d):=lk1 (PV d)
def CF.At(G1 G2:Prop)(e:Col)(a:World)(f:AC->Option (AL×AC))(g:Nat):Prop:=
 ∀{h m n l},f m=some l->G1->G2->Bk e a g h n 126->BM.rep e.F a n m->
  Calls PG 48 #[Pt h 0] a λq c=>∃d o p,q=.returned (Ag o)/\AU [g] e a d c/\Bz.rep d.F c o l.1/\Bk d c g h p 126/\BM.rep d.F c p l.2
def CF.Spec(f:AC->Option (AL×AC)):Prop:=
 ∀c d {a},CF.At ([a].Nodup) (0∉[a]) c d f a
theorem Nv(z:Nat)(ay:Col)(bq:World)(br:∀b,ay b<10):CF.At True True ay bq (CF z) 1:=by
 intro ai n di az c _ _ bt bu
 rw [CF] at c
 obtain ⟨bv,bw,rfl,be⟩:=E1 (Ab bu)
 refine Az Tryz.func48 Z Tryz.ntmps48 Z λB bx dk=>Sr<|Ef<|Aa ay 20 KP Z λbz dl bf b0 a0=>AA<|Sr<|Ef<|Aa bz 21 KP Z λbg b1 a1 b2 ak=>AA<|AT<|Ah<|Bj (λaa a2 ab=>∃aj l f al am o m p q r u w y d ac ad,a2=Env.puts aj [(0,Pt ai 0),(2,Pt bf 0),(3,Pt a1 0)]/\Bg z aa f o m p q r u w y d=some az/\AU [1,21,22,24] bg b1 l ab/\Slc Ai l.F ab (Sl al f am) f/\Own AI 58 l ab 24 (Sl ac d ad) d/\Bk l ab 1 ai [Sl al f am,I o,I m,I p,I q,I r,I u,I w,I y] 126/\Bk l ab 21 a1 [Sl ac d ad] 28) z ?_ ?_
 refine have b3:=K2 Ai be a0 ak;have b4:=Y2 bt a0 ak;⟨_,bg,n.marks,bv,bw,n.at_,n.why,n.where_,n.l.text,n.l.funcs,n.l.arity,n.l.nest,n.nest,([]:List AN),none,0,Pu,c,(AU.refl [1,21,22,24] _ _),b3,Own.nil,b4,b2⟩
 rintro aa _ ab ⟨aj,l,f,al,am,o,m,p,q,r,u,w,y,d,ac,ad,rfl,c,a3,a4,a5,an,a6⟩
 rcases aa with _|aa
 exact A5 c
 refine have c:CT z (Bg z aa) f o m p q r u w y d=some az:=c; ?_
 obtain ⟨b5,bh⟩:∃s,s=Bg z aa:=⟨_,rfl⟩
 rw [<-bh,CT] at c
 refine AT<|Am (λa2 a7=>∃aj a8 a9,a2=Env.puts aj [(0,Pt ai 0),(2,Pt bf 0),(3,Pt a1 0),(21,.bool a9)]/\CN z f o m p q r u w y d b5 a9=some az/\AU [] l ab a8 a7) ?_ ?_
 refine AM<|Vm<|Vx (Nc Z)<|Vx (Fd Jb Z)<|Vx (Ld BC Z (Bc an Z))<|Vr (.bool (m==0))<|Vm<|Bo c (λe c=>?_) λe c=>?_
 refine Gx e (Fz Dd Z)<|Gx e (Ld Fr Z (Bc a6 Z)) ?_
 obtain ⟨dm,dn,b6⟩:=Own.len a5
 refine Gx e (v:=I (d.length:Int)) (Ll FA b6)<|Gr e (.bool ((d.length:Int)==0))<|Gm e<|Bo c (λg c=>?_) λg c=>?_
 refine Pg g<|Pg g<|Pg g<|Pg g<|Gp e g<|Vp e<|AA<|⟨_,l,true,Pu,c,Rf⟩
 refine Gm g<|Bi c λae b7 c=>CQ (.guard (t:=false) (b:=false) Z Z Z Z (Cb g)) Z Z (Cg [Pt ai 0] Z)<|Calls.mono (Cd l ab b7 dcd dcd an (AO (x:=(AC.mk f o m p (Aj.mk q r u w) y)) a4)) ?_
 rintro _ dp ⟨b8,dq,rfl,b9,ca⟩
 obtain rfl:=DO ca
 refine ⟨_,Z,?_⟩
 refine Gx g (v:=I ae.kind) (Kz (cs:=[I ae.kind,Sb ae.text,Cx ae.num,I ae.at_]) RJ Z Z)<|Gr g (.bool (ae.kind != 4))<|Gp e g<|Vp e<|AA<|⟨_,b8,(ae.kind != 4),Pu,c,(Mo [] b9)⟩
 refine Pg e<|Pg e<|Pg e<|Pg e<|Pg e<|Po<|Po<|Po<|Po<|Pg e<|Vp e<|AA<|⟨_,l,false,Pu,c,Rf⟩
 rintro _ a7 ⟨aj,a8,a9,rfl,c,h⟩
 rw [CN] at c
 refine Cn c (λcb c=>?_) λcb c=>?_
 refine AR<|Ah<|Sr<|Vm<|Vx (Fz Dd Z)<|have bi:=Bs a6 h;Vx (Ld Fr Z (Bc bi Z))<|have bj:=Os a5 h; ?_
 obtain ⟨dr,ds,cc⟩:=Own.len bj
 refine Vx (v:=I (d.length:Int)) (Ll FA cc)<|have cd:=Bs an h;have cf:=Ss Ai a4 h;Bi c λa cg c=>Ca (Cg [Pt ai 0,I (d.length:Int)] Z) (P3 z a8 a7 cg dcd dcd cd (AO (x:=(AC.mk f o m p (Aj.mk q r u w) y)) cf)) ?_
 rintro _ dt ⟨ch,du,dv,rfl,ba,ci,cj,ck⟩
 obtain ⟨dw,dx,rfl,bk,bl⟩:=CL ci
 obtain ⟨ao,ap,rfl⟩:=AW bk
 obtain ⟨aq,ar,rfl⟩:=AW bl
 obtain ⟨cl,cm,rfl,bm⟩:=E1 (Ab ck)
 refine Ef<|Aa ch 22 KZ Z λcn dz d0 co af=>have cq:=Ss AZ bk af;have cr:=Ss AG bl af;Eu<|St LP co Z Z Z Z λd1 ct ag=>AA<|AM<|Vx (Fz Dd Z)<|have bn:=Y3 bi ba af ag;Vx (Ld Fr Z (Bc bn Z))<|Vx (Lx Lm Z Z (Bw ct))<|Ef<|Cj (cs:=[Sb a.1.name,Sl ao a.1.params ap,I a.1.type_,I a.1.body.op,Sb a.1.body.name,Sb a.1.body.tail,I a.1.body.type_,Cx a.1.body.num,Sl aq a.1.body.args ar,I a.1.body.at_,I a.1.at_]) cn 23 [[Sb a.1.name,Sl ao a.1.params ap,I a.1.type_,I a.1.body.op,Sb a.1.body.name,Sb a.1.body.tail,I a.1.body.type_,Cx a.1.body.num,Sl aq a.1.body.args ar,I a.1.body.at_,I a.1.at_]] FA KZ Z Z (.cons Z Z Z .nil) Z λcu cv cw cx ah=>have cy:=K2 AZ cq ag ah;have cz:=K2 AG cr ag ah;have c0:Own AI 58 cu cv 23 (.slice (some ⟨cw,0,none⟩) 1 1) ([a.1]:List AN):=Own.lit (css:=[[Sb a.1.name,Sl ao a.1.params ap,I a.1.type_,I a.1.body.op,Sb a.1.body.name,Sb a.1.body.tail,I a.1.body.type_,Cx a.1.body.num,Sl aq a.1.body.args ar,I a.1.body.at_,I a.1.at_]]) cx Z Z Z (Ac (K0 (x:=a.1) cy cz) BB) (A6 Z Ds) Z;have c1:=Os (Os (Os (Os bj ba) af) ag) ah;Bi c λd2 bo c=>Ef<|Br (κ:=AI) Z Z c1 dcd ABp (CI c0) (Ea bo) (Ew bo) λd3 c2 d4 bb au=>?_
 obtain ⟨bc,bd,rfl⟩:=Own.len bb
 refine Vx (Fz Dd Z)<|have c3:=Y2 bn ah au;Eu<|Bf (vs:=[Sl bc ((d++([a.1]:List AN))) bd]) (cs':=[Sl bc ((d++([a.1]:List AN))) bd]) ABq Z Z Z Z (AQ (Own.one bb) B6) c3 dcd Z Z λd5 c4 av=>AA<|have c5:=Ss Ai (K4 Ai bm af ag ah au) av;have c6:=Os bb av;have c7:=Bs (Y4 cj af ag ah au) av;⟨aa,Nat.lt_succ_self aa,_,c2,a.2.marks,cl,cm,a.2.at_,a.2.why,a.2.where_,a.2.l.text,a.2.l.funcs,a.2.l.arity,a.2.l.nest,a.2.nest,(d++([a.1]:List AN)),bc,bd,Pu,(bh▸c),(T3 (T4 (Mo [1,21,22,24] a3) h ba af ag) ah au av),c5,c6,c7,c4⟩
 refine BX<|Sr<|have c8:=Bs a6 h;Vx (Lx Fw Z Z (Bw c8))<|have c9:=Y3 b0 ak a3 h;have bp:=Os a5 h;Eu<|Bf (vs:=[Sl ac d ad]) (cs':=[Sl ac d ad]) JK Z Z Z Z (AQ (Own.one bp) B6) c9 dcd Z Z λd6 da aw=>AA<|AS<|have db:=Os bp aw; ?_
 obtain ⟨dc,ax,de⟩:=Own.freeze (S:=[24]) db dcd dcd
 obtain rfl:=AK c
 refine have df:=Bs da ax;O1 B bx Z (.agg Fw Z Z (Bw df))<|have dg:=Y3 an h aw ax;have dh:=K3 Ai a4 h aw ax;⟨dc,[Sl ac d ad],[Sl al f am,I o,I m,I p,I q,I r,I u,I w,I y],Z,Ho (Tn (T4 (Mo [1,20,21,22,24] a0) ak a3 h aw) ax) br,(BL (x:=(AL.mk d)) de),dg,(AO (x:=(AC.mk f o m p (Aj.mk q r u w) y)) dh)⟩
theorem OB(d:Nat):CF.Spec (CF d):=lk1 (Nv d)
def Fy.At(c:Col)(a:World)(f:Bts->Aj->Option (AL×AF)):Prop:=
 ∀{h v0 l m d},f h l=some d->Slc Kd.u8 c.F a v0 h->L9.rep c.F a m l->
  Calls PG 26 #[v0,Ag m] a λo e=>∃g n u1,o=.returned (.tuple #[Ag n,Ag u1])/\AU [] c a g e/\Bz.rep g.F e n d.1/\An.rep g.F e u1 d.2
def Fy.Spec(f:Bts->Aj->Option (AL×AF)):Prop:=
 ∀a c,Fy.At a c f
theorem SC(ad:Nat)(ae:Col)(a5:World)(u:∀b,ae b<10):Fy.At ae a5 (Fy ad):=by
 intro af v0 a cm cn c ar a6
 rw [Fy] at c
 obtain ⟨a7,a8,rfl⟩:=AW ar
 obtain rfl:=Ko a6
 refine Az Tryz.func26 Z Tryz.ntmps26 Z λB w f=>Sr<|Ef<|A0 ae 20 Z Z λa9 co cq ba s=>Ef<|Aa a9 21 KP Z λbb cr ct y q=>Ef<|Aa bb 22 FR Z λag cu cv z l=>AA<|Sr<|Vx (Fz Ql Z)<|have au:=Y2 ba q l;Vx (Ld BC Z (Bc au Z))<|Vx (v:=I (if a.text<0 then 0 else a.text)) (Run.max Z Z)<|Vx (v:=I (if 32768< (if a.text<0 then 0 else a.text) then 32768 else (if a.text<0 then 0 else a.text))) (Run.min Z Z)<|Vx (Fz Ql Z)<|Eu<|St Mz au Z Z Z Z λbc ah g=>AA<|AT<|Sr<|Vm<|have av:=K4 Kd.u8 ar s q l g; ?_
 obtain ⟨cw,cx,bd⟩:=AW av
 refine Vx (v:=I (af.length:Int)) (Ll IC bd)<|Vx (Fz Ql Z)<|Vx (Ld BC Z (Bc ah Z))<|Vr (.bool (decide ((af.length:Int)>(if 32768< (if a.text<0 then 0 else a.text) then 32768 else (if a.text<0 then 0 else a.text)))))<|AA<|Cn c (λbe c=>?_) λbe c=>?_
 refine AT<|BZ C7 (qs 0 4 (.one 4 (.one 5 .nil))) [5] [21] ag (by kernel_rfl) λcy aa=>Qx f Z (v:=Ag [.slice none 0 0]) (λ_ _=>CK (cs:=[.slice none 0 0]) [.slice none 0 0] KP Xw Z .nil Z Z)<|Qx f Z (λ_ _=>Fz Ql Z)<|have bf:=Bs ah aa;Qx f Z (λ_ ⟨_,d⟩=>Ld BC Z (Bc (Bs bf d) Z))<|Qx f Z (v:=Ag [I 22,I (if 32768< (if a.text<0 then 0 else a.text) then 32768 else (if a.text<0 then 0 else a.text))]) (λ_ _=>CK (cs:=[I 22,I (if 32768< (if a.text<0 then 0 else a.text) then 32768 else (if a.text<0 then 0 else a.text))]) [I 0,I 0] FR M6 Z (.cons Z Z Z (.cons Z Z Z .nil)) Z Z)<|A2 Z<|have bg:=Y3 y l g aa;BS Z (.none Z) Z<|St JK bg Z Z Z Z λcz bh ai=>⟨⟨_,(Mo [21] ai)⟩,?_⟩
 refine E3 dcd<|WY.one<|have bi:=Y3 z g aa ai;BS Z (.none Z) Z<|St HN bi Z Z Z Z λc0 bj aw=>WY.nil<|AS ?_
 obtain rfl:=AK c
 refine have bk:=Bs bh aw;O2 B w Z (.agg Fw Z Z (Bw bk)) (.agg LN Z Z (Bw bj))<|⟨ag,[.slice none 0 0],[I 22,I (if 32768< (if a.text<0 then 0 else a.text) then 32768 else (if a.text<0 then 0 else a.text))],Z,Ho (T2 (T4 (Mo [20,21,22] s) q l g aa) ai aw) u,(BL (x:=(AL.mk [])) Ba),(Al (x:=(AF.mk 22 (if 32768< (if a.text<0 then 0 else a.text) then 32768 else (if a.text<0 then 0 else a.text)))))⟩
 refine AR<|Sr<|Vm<|Bi c λh bl c=>Ca (Cg [Sl a7 af a8] Z) (TW ad ag bc bl av) ?_
 rintro _ c1 ⟨ax,c2,rfl,m,ay⟩
 obtain ⟨aj,ak,rfl⟩:=AW ay
 refine Vm<|Vr (Sl aj h.1 ak)<|Vr (I h.2)<|Va (Sl aj h.1 ak)<|Va (I h.2)<|AA<|AT<|Sr<|Vm<|Vr (.bool (decide (h.2>=0)))<|AA<|Cn c (λbm c=>?_) λbm c=>?_
 refine Sr<|Vx (v:=Ag [.slice none 0 0]) (Bp KP Xw Z .nil)<|Vm<|Vx (v:=Ag [I 20,I h.2]) (Bp FR M6 Z (.cons Z Z Z (.cons Z Z Z .nil)))<|have bn:=Y3 y l g m;Eu<|St JK bn Z Z Z Z λc3 bo az=>have bp:=Y3 z g m az;Eu<|St HN bp Z Z Z Z λc4 bq a0=>AA<|AS ?_
 obtain rfl:=AK c
 refine have br:=Bs bo a0;O2 B w Z (.agg Fw Z Z (Bw br)) (.agg LN Z Z (Bw bq))<|⟨ax,[.slice none 0 0],[I 20,I h.2],Z,Ho (T2 (T4 (Mo [20,21,22] s) q l g m) az a0) u,(BL (x:=(AL.mk [])) Ba),(Al (x:=(AF.mk 20 h.2)))⟩
 refine AR<|Sr<|Vm<|have bt:=Bs ah m;Vx (Lx ZQ Z Z (Bw bt))<|Vx (v:=Ag [Sl aj h.1 ak,I 0,I 0,I 0,I (if 32768< (if a.text<0 then 0 else a.text) then 32768 else (if a.text<0 then 0 else a.text)),I a.funcs,I a.arity,I a.nest,I 0]) (Bp AAt AAo Z (.cons Z Z Z (.cons Z Z Z .nil)))<|Ef<|A0 ax 23 Z Z λbu bv ab bw p=>Va (Pt ab 0)<|AA<|Sr<|Vm<|have bx:=Ss Ai ay p;Bi c λe bz c=>Ca (Cg [Pt ab 0] Z) (OB ad bu bv bz dcd dcd bw (AO (x:=(AC.mk h.1 0 0 0 (Aj.mk (if 32768< (if a.text<0 then 0 else a.text) then 32768 else (if a.text<0 then 0 else a.text)) a.funcs a.arity a.nest) 0)) bx)) ?_
 rintro _ c5 ⟨b0,c6,c7,rfl,r,b1,b2,b3⟩
 obtain ⟨al,am,rfl,a1⟩:=E1 (BQ b1)
 obtain ⟨da,db,rfl,b4⟩:=E1 (Ab b3)
 refine Ef<|Aa b0 24 KP Z λan dc de b5 n=>have b6:=Ss AI a1 n;Eu<|St JK b5 Z Z Z Z λdf b7 o=>AA<|AT<|Sr<|Vm<|Vx (Nc Z)<|Vx (Fd Jb Z)<|have a2:=Y2 b2 n o;Vx (Ld BC Z (Bc a2 Z))<|Vr (.bool (e.2.why != 0))<|AA<|Cn c (λb8 c=>?_) λb8 c=>?_
 refine AT<|BZ C7 (qs 0 10 (.one 10 (.one 11 .nil))) [11] [21] an (by kernel_rfl) λdg ac=>Qx f Z (v:=Ag [.slice none 0 0]) (λ_ _=>CK (cs:=[.slice none 0 0]) [.slice none 0 0] KP Xw Z .nil Z Z)<|Qx f Z (v:=Pt ab 0) (λ_ _=>Mv Z)<|Qx f Z (λ_ _=>Nc Z)<|Qx f Z (λ_ _=>Fd Jb Z)<|have a3:=Bs a2 ac;Qx f Z (λ_ ⟨_,d⟩=>Ld BC Z (Bc (Bs a3 d) Z))<|Qx f Z (v:=Pt ab 0) (λ_ _=>Mv Z)<|Qx f Z (λ_ _=>Nc Z)<|Qx f Z (λ_ _=>Fd VS Z)<|Qx f Z (λ_ ⟨_,d⟩=>Ld BC Z (Bc (Bs a3 d) Z))<|Qx f Z (v:=Ag [I e.2.why,I e.2.where_]) (λ_ _=>CK (cs:=[I e.2.why,I e.2.where_]) [I 0,I 0] FR M6 Z (.cons Z Z Z (.cons Z Z Z .nil)) Z Z)<|A2 Z<|have b9:=Y4 (Y4 y l g m p) r n o ac;BS Z (.none Z) Z<|St JK b9 Z Z Z Z λdh ca ao=>⟨⟨_,(Mo [21] ao)⟩,?_⟩
 refine E3 dcd<|WY.one<|have cb:=Y4 (Y4 z g m p r) n o ac ao;BS Z (.none Z) Z<|St HN cb Z Z Z Z λdi cc a4=>WY.nil<|AS ?_
 obtain rfl:=AK c
 refine have cd:=Bs ca a4;O2 B w Z (.agg Fw Z Z (Bw cd)) (.agg LN Z Z (Bw cc))<|⟨an,[.slice none 0 0],[I e.2.why,I e.2.where_],Z,Ho (T3 (T4 (T4 (Mo [20,21,22,23,24] s) q l g m) p r n o) ac ao a4) u,(BL (x:=(AL.mk [])) Ba),(Al (x:=(AF.mk e.2.why e.2.where_)))⟩
 refine AR<|Sr<|Vx (Lx Fw Z Z (Bw b7))<|Vx (v:=Ag [I 0,I 0]) (Bp FR M6 Z .nil)<|have cf:=Y3 (Y4 y l g m p) r n o;have cg:=Ss AI b6 o;Eu<|St JK cf Z Z Z Z λdj ch ap=>have ci:=Y3 (Y4 z g m p r) n o ap;Eu<|St HN ci Z Z Z Z λdk cj aq=>AA<|AS ?_
 obtain rfl:=AK c
 refine have ck:=Bs ch aq;O2 B w Z (.agg Fw Z Z (Bw ck)) (.agg LN Z Z (Bw cj))<|have cl:=K2 AI cg ap aq;⟨an,[Sl al e.1.funcs am],[I 0,I 0],Z,Ho (T2 (T4 (T4 (Mo [20,21,22,23,24] s) q l g m) p r n o) ap aq) u,(BL (x:=e.1) cl),(Al (x:=(AF.mk 0 0)))⟩
theorem FU(c:Nat):Fy.Spec (Fy c):=lk0 (SC c)
def GQ.At(l:Col)(a:World)(f:Bts->Option (List Bts)):Prop:=
 ∀{c d},f c=some d->
  Calls PG 77 #[Sb c] a λm e=>∃g h,m=.returned h/\AU [] l a g e/\Slc Kd.bts g.F e h d
def GQ.Spec(f:Bts->Option (List Bts)):Prop:=
 ∀a c,GQ.At a c f
theorem SD(aq:Nat)(ab:Col)(ar:World)(a1:∀b,ab b<10):GQ.At ab ar (GQ aq):=by
 intro e y a
 rw [GQ] at a
 refine Az Tryz.func77 Z Tryz.ntmps77 Z λB a2 bp=>Sr<|Va (.slice none 0 0)<|AA<|Sr<|Va (.slice none 0 0)<|AA<|Sr<|Va (I 0)<|AA<|AT<|Sr<|Va (I 0)<|AA<|Ah<|Bj (λh o z=>∃f p d l m n c,o=Env.puts f [(0,Sb e),(3,Sl l d m),(4,I n),(5,I c)]/\Ej e h d n c=some y/\AU [21] ab ar p z/\Own Kd.bts 9 p z 21 (Sl l d m) d) aq ?_ ?_
 exact ⟨_,ab,([]:List Bts),none,0,0,0,Pu,a,(AU.refl [21] _ _),Own.nil⟩
 rintro h _ z ⟨f,p,d,l,m,n,c,rfl,a,au,ac⟩
 rcases h with _|h
 exact A5 a
 refine have a:FZ e (Ej e h) d n c=some y:=a; ?_
 obtain ⟨ak,av⟩:∃s,s=Ej e h:=⟨_,rfl⟩
 rw [<-av,FZ] at a
 refine AT<|Sr<|Vm<|Vm<|Vx (v:=I (e.length:Int)) (Run.lenStr J2 Z)<|Vr (.bool (decide (c<=(e.length:Int))))<|AA<|Cn a (λa3 a=>?_) λa3 a=>?_
 refine AR<|Am (λo al=>∃f ad r ae af ag,o=Env.puts f [(0,Sb e),(3,Sl ae r af),(4,I ag),(5,I c)]/\Hv c ak r ag=some y/\AU [21] p z ad al/\Own Kd.bts 9 ad al 21 (Sl ae r af) r) ?_ ?_
 refine Ah<|AT<|Am (λo am=>∃f u an,o=Env.puts f [(0,Sb e),(3,Sl l d m),(4,I n),(5,I c),(21,.bool an)]/\Gl e d n c ak an=some y/\AU [] p z u am) ?_ ?_
 refine AM<|Vm<|Vm<|Vx (v:=I (e.length:Int)) (Run.lenStr J2 Z)<|Vr (.bool (decide (c< (e.length:Int))))<|Vm<|Bo a (λg a=>?_) λg a=>?_
 refine Gm g<|Gm g<|Bi a λao a4 a=>Gx g (v:=U8 ao) (Run.indexBs J2 Z Z a4)<|Gr g (.bool ((ao.toNat:Int) != ((32:UInt8).toNat:Int)))<|Vp g<|AA<|⟨_,p,((ao.toNat:Int) != ((32:UInt8).toNat:Int)),Pu,a,Rf⟩
 refine Pg g<|Pg g<|Pg g<|Pg g<|Vp g<|AA<|⟨_,p,false,Pu,a,Rf⟩
 rintro _ am ⟨f,u,an,rfl,a,aa⟩
 rw [Gl] at a
 refine Cn a (λa5 a=>?_) λa5 a=>?_
 refine BX<|have a6:=Os ac aa;⟨_,u,d,l,m,n,Pu,a,(Mo [21] aa),a6⟩
 refine AR<|Am (λo ap=>∃f ah w ai aj,o=Env.puts f [(0,Sb e),(3,Sl ai w aj),(5,I c)]/\Hw c ak w=some y/\AU [21] u am ah ap/\Own Kd.bts 9 ah ap 21 (Sl ai w aj) w) ?_ ?_
 refine Sr<|Vm<|Vm<|Vr (.bool (decide (c>n)))<|AA<|Cn a (λa7 a=>?_) λa7 a=>?_
 refine AM<|Vm<|Vm<|Vm<|Vm<|Bi a λq a8 a=>Vx (v:=Sb q) (Run.sliceStr J2 Z ⟨_,Z⟩ ⟨_,Z⟩ a8)<|Ef<|Cj (cs:=[Sb q]) u 20 [[Sb q]] IT QB Z Z (.cons Z Z Z .nil) Z λa9 ba bb bc aw=>have bd:Own Kd.bts 9 a9 ba 20 (.slice (some ⟨bb,0,none⟩) 1 1) ([q]:List Bts):=Own.lit (css:=[[Sb q]]) bc Z Z Z (Ac Z BB) (A6 Z Ds) Z;have be:=Os (Os ac aa) aw;Bi a λbq ax a=>Ef<|Br (κ:=Kd.bts) Z Z be dcd V1 (CI bd) (Ea ax) (Ew ax) λbr bf bt ay bg=>?_
 obtain ⟨az,a0,rfl⟩:=Own.len ay
 refine Va (Sl az ((d++([q]:List Bts))) a0)<|AA<|⟨_,bf,(d++([q]:List Bts)),az,a0,Pu,a,(Tn (Mo [21] aw) bg),ay⟩
 refine AR<|have bh:=Os ac aa;⟨_,u,d,l,m,Pu,a,(AU.refl [21] _ _),bh⟩
 rintro _ ap ⟨f,ah,w,ai,aj,rfl,a,bi,bj⟩
 rw [Hw] at a
 refine AM<|Vm<|Vr (I (Wr (c+1)))<|Va (I (Wr (c+1)))<|AA<|⟨_,ah,w,ai,aj,(Wr (c+1)),Pu,a,(Tn (Mo [21] aa) bi),bj⟩
 rintro _ al ⟨f,ad,r,ae,af,ag,rfl,a,bk,bl⟩
 rw [Hv] at a
 refine AM<|Vm<|Vr (I (Wr (c+1)))<|Va (I (Wr (c+1)))<|AA<|⟨h,Nat.lt_succ_self h,_,ad,r,ae,af,ag,(Wr (c+1)),Pu,(av▸a),(Tn (Mo [21] au) bk),bl⟩
 refine BX<|Sr<|Vm<|Va (Sl l d m)<|AA<|AS ?_
 obtain ⟨bm,bn,bo⟩:=Own.freeze (S:=[21]) ac dcd dcd
 obtain rfl:=AK a
 refine O1 B a2 Z (.tmp Z)<|⟨bm,Sl l d m,Z,Ho (Tn (Mo [21] au) bn) a1,bo⟩
theorem TY(c:Nat):GQ.Spec (GQ c):=lk0 (SD c)
def IG.At(e:Col)(c:World)(f:Nat->Option (Int×Bool)):Prop:=
 ∀{d a},f d=some a->
  Calls PG 64 #[Fl d] c λg h=>∃l,g=.returned (.tuple #[I a.1,.bool a.2])/\AU [] e c l h
def IG.Spec(f:Nat->Option (Int×Bool)):Prop:=
 ∀a c,IG.At a c f
theorem TZ(f:Col)(p:World)(q:∀b,f b<10):IG.At f p IG:=by
 intro c y a
 rw [IG] at a
 refine Az Tryz.func64 Z Tryz.ntmps64 Z λB r ac=>Sr<|Va (I 0)<|Va (.bool false)<|AA<|AT<|Am (λz s=>∃u n o,z=Env.puts u [(0,Fl c),(20,.bool o)]/\Hf c o=some y/\AU [] f p n s) ?_ ?_
 refine AM<|Vm<|Vr (.bool (fge c (13938640846711685120:Nat)))<|Vm<|Bo a (λl a=>?_) λl a=>?_
 refine Gm l<|Gr l (.bool (fle c (4715268809856909312:Nat)))<|Vp l<|Vr (.bool (!(fle c (4715268809856909312:Nat))))<|Vm<|Bo a (λd a=>?_) λd a=>?_
 refine Pg d<|Pg d<|Pg d<|Po<|Po<|Po<|Pg d<|Vp d<|AA<|⟨_,f,true,Pu,a,Rf⟩
 refine Gm d<|Gr d (.bool (feq c (0:Nat)))<|Gm d<|Bo a (λg a=>?_) λg a=>?_
 refine Gm g<|Gx g (v:=.int .u64 ((c:Nat):Int)) (PO (vs:=[Fl c]) Z Z)<|Gr g (.bool (((c:Nat):Int) != 0))<|Gp d g<|Vp d<|AA<|⟨_,f,(((c:Nat):Int) != 0),Pu,a,Rf⟩
 refine Pg g<|Pg g<|Pg g<|Gp d g<|Vp d<|AA<|⟨_,f,false,Pu,a,Rf⟩
 refine Pg l<|Pg l<|Vp l<|Vr (.bool (!false))<|Vm<|Bo a (λe a=>?_) λe a=>?_
 refine Pg e<|Pg e<|Pg e<|Po<|Po<|Po<|Pg e<|Vp e<|AA<|⟨_,f,true,Pu,a,Rf⟩
 refine Gm e<|Gr e (.bool (feq c (0:Nat)))<|Gm e<|Bo a (λh a=>?_) λh a=>?_
 refine Gm h<|Gx h (v:=.int .u64 ((c:Nat):Int)) (PO (vs:=[Fl c]) Z Z)<|Gr h (.bool (((c:Nat):Int) != 0))<|Gp e h<|Vp e<|AA<|⟨_,f,(((c:Nat):Int) != 0),Pu,a,Rf⟩
 refine Pg h<|Pg h<|Pg h<|Gp e h<|Vp e<|AA<|⟨_,f,false,Pu,a,Rf⟩
 rintro _ s ⟨u,n,o,rfl,a,w⟩
 rw [Hf] at a
 refine Cn a (λaa a=>?_) λaa a=>?_
 refine Sr<|Va (I 0)<|Va (.bool false)<|AA<|AS ?_
 obtain rfl:=AK a
 refine O2 B r Z (.tmp Z) (.tmp Z)<|⟨n,Z,Ho (Mo [] w) q⟩
 refine AR<|Sr<|Vm<|Bi a λm ab a=>Vx (v:=I m) (Run.f2i Z Xt ab)<|Va (I m)<|AA<|Sr<|Vm<|Vm<|Vr (Fl (FloatKind.f64.nearest m))<|Vm<|Vr (.bool (feq (FloatKind.f64.nearest m) c))<|Va (I m)<|Va (.bool (feq (FloatKind.f64.nearest m) c))<|AA<|AS ?_
 obtain rfl:=AK a
 refine O2 B r Z (.tmp Z) (.tmp Z)<|⟨n,Z,Ho (Mo [] w) q⟩
theorem QD:IG.Spec IG:=lk0 (TZ)
def E6.At(l:Col)(c:World)(f:Cpl->Option (Af×Bool)):Prop:=
 ∀{d a},f d=some a->
  Calls PG 39 #[Cx d] c λm e=>∃g h,m=.returned (.tuple #[Ag h,.bool a.2])/\AU [] l c g e/\Bm.rep g.F e h a.1
def E6.Spec(f:Cpl->Option (Af×Bool)):Prop:=
 ∀a c,E6.At a c f
theorem WF(n:Col)(z:World)(q:∀b,n b<10):E6.At n z E6:=by
 intro f aa a
 rw [E6] at a
 refine Az Tryz.func39 Z Tryz.ntmps39 Z λB r ar=>Sr<|Ef<|Aa n 20 Eg Z λab ac ad s u=>Va (.bool false)<|AA<|Sr<|Vm<|Vx (v:=Fl f.1) (Run.real Z)<|Bi a λd ae a=>Ca (Cg [Fl f.1] Z) (QD ab ac ae) ?_
 rintro _ af ⟨ag,rfl,g⟩
 refine Vm<|Vr (I d.1)<|Vr (.bool d.2)<|Va (I d.1)<|Va (.bool d.2)<|AA<|Sr<|Vm<|Vx (v:=Fl f.2) (Run.imag Z)<|Bi a λc ah a=>Ca (Cg [Fl f.2] Z) (QD ag af ah) ?_
 rintro _ ai ⟨o,rfl,h⟩
 refine Vm<|Vr (I c.1)<|Vr (.bool c.2)<|Va (I c.1)<|Va (.bool c.2)<|AA<|AT<|Am (λaj w=>∃y l p,aj=Env.puts y [(2,Pt ad 0),(4,I d.1),(6,I c.1),(25,.bool p)]/\Nf d c p=some aa/\AU [] o ai l w) ?_ ?_
 refine AM<|Vm<|Vr (.bool (!d.2))<|Vm<|Bo a (λe a=>?_) λe a=>?_
 refine Pg e<|Pg e<|Vp e<|AA<|⟨_,o,true,Pu,a,Rf⟩
 refine Gm e<|Gr e (.bool (!c.2))<|Vp e<|AA<|⟨_,o,(!c.2),Pu,a,Rf⟩
 rintro _ w ⟨y,l,p,rfl,a,m⟩
 rw [Nf] at a
 refine Cn a (λak a=>?_) λak a=>?_
 refine Sr<|Vx (v:=Ag [I 0,I 0]) (Bp Eg KY Z .nil)<|have al:=Y3 s g h m;Eu<|St HP al Z Z Z Z λau am an=>Va (.bool false)<|AA<|AS ?_
 obtain rfl:=AK a
 refine O2 B r Z (.agg EC Z Z (Bw am)) (.tmp Z)<|⟨l,[I 0,I 0],Z,Ho (T4 (Mo [20] u) g h m an) q,(BE (x:=(Af.mk 0 0)))⟩
 refine AR<|Sr<|Vm<|Vm<|Vx (v:=Ag [I d.1,I c.1]) (Bp Eg KY Z (.cons Z Z Z (.cons Z Z Z .nil)))<|have ao:=Y3 s g h m;Eu<|St HP ao Z Z Z Z λav ap aq=>Va (.bool true)<|AA<|AS ?_
 obtain rfl:=AK a
 refine O2 B r Z (.agg EC Z Z (Bw ap)) (.tmp Z)<|⟨l,[I d.1,I c.1],Z,Ho (T4 (Mo [20] u) g h m aq) q,(BE (x:=(Af.mk d.1 c.1)))⟩
theorem Nj:E6.Spec E6:=lk0 (WF)
def CO.At(c:Col)(a:World)(f:AD->Option Bool):Prop:=
 ∀{d e g},f d=some g->Aq.rep c.F a e d->
  Calls PG 17 #[Ag e] a λh l=>∃m,h=.returned (.bool g)/\AU [] c a m l
def CO.Spec(f:AD->Option Bool):Prop:=
 ∀a c,CO.At a c f
theorem SE(aw:Nat)(al:Col)(bc:World)(ag:∀b,al b<10):CO.At al bc (CO aw):=by
 intro c ca y a bd
 rw [CO] at a
 obtain ⟨cc,cd,rfl,ax⟩:=E1 (A1 bd)
 refine Az Tryz.func17 Z Tryz.ntmps17 Z λB ah cf=>Sr<|Ef<|A0 al 20 Z Z λbe bf ay az ad=>Va (.bool false)<|AA<|Sr<|Vx (Fd HU Z)<|Vx (Ld Gc Z (Bc az Z))<|Bi a λae bg a=>Ca (Cg [Cx c.num] Z) (Nj be bf bg) ?_
 rintro _ cg ⟨bh,ch,rfl,z,bi⟩
 obtain rfl:=A7 bi
 refine Vm<|Vr (Ag [I ae.1.re,I ae.1.im])<|Vr (.bool ae.2)<|Ef<|Aa bh 21 Eg Z λa0 ci cj bj aa=>Eu<|St HP bj Z Z Z Z λbk ck ab=>Va (.bool ae.2)<|AA<|AT<|Sr<|Va (I 0)<|AA<|Ah<|Bj (λr l u=>∃e d ai f,l=Env.puts e [(1,Pt ay 0),(4,.bool ai),(5,I f)]/\FH c r ai f=some y/\AU [22] a0 bk d u) aw ?_ ?_
 exact ⟨_,a0,ae.2,0,Pu,a,(AU.refl [22] _ _)⟩
 rintro r _ u ⟨e,d,ai,f,rfl,a,w⟩
 rcases r with _|r
 exact A5 a
 refine have a:Fa c (FH c r) ai f=some y:=a; ?_
 obtain ⟨bl,a1⟩:∃s,s=FH c r:=⟨_,rfl⟩
 rw [<-a1,Fa] at a
 refine AT<|Sr<|Vm<|Vx (Fd DV Z)<|have m:=Y4 az z aa ab w;Vx (Ld HO Z (Bc m Z))<|have aj:=Ss Kd.cpx (K4 Kd.cpx ax ad z aa ab) w; ?_
 obtain ⟨cl,cm,bm⟩:=AW aj
 refine Vx (v:=I (c.list.length:Int)) (Ll HB bm)<|Vr (.bool (decide (f< (c.list.length:Int))))<|AA<|Cn a (λbn a=>?_) λbn a=>?_
 refine AR<|Am (λl a2=>∃e am ak,l=Env.puts e [(1,Pt ay 0),(4,.bool ak),(5,I f)]/\Hx f bl ak=some y/\AU [22] d u am a2) ?_ ?_
 refine Ah<|Sr<|Vx (Fd DV Z)<|Vx (Ld HO Z (Bc m Z))<|Vm<|Bi a λa3 bo a=>?_
 obtain ⟨bp,bq,cn,a4,br,bt,bu,bv,an⟩:=A8 (κ:=Kd.cpx) aj bo
 replace an:Ay d u bp (bq+f.toNat*1) a4:=an
 obtain rfl:=(show a4=[Cx a3] from bv)
 refine Vx (Ix HB br Z bt bu)<|Vx (Ld Gc Z (Ay.cell0 an Z))<|Bi a λac bw a=>Ca (Cg [Cx a3] Z) (Nj d u bw) ?_
 rintro _ co ⟨bx,cq,rfl,a5,bz⟩
 obtain rfl:=A7 bz
 refine Vm<|Vr (Ag [I ac.1.re,I ac.1.im])<|Vr (.bool ac.2)<|Ef<|Aa bx 22 Eg Z λa6 cr ct b0 a7=>Eu<|St HP b0 Z Z Z Z λcu cv a8=>Va (.bool ac.2)<|AA<|AM<|Vm<|Vm<|Bo a (λaf a=>?_) λaf a=>?_
 refine Gm af<|Vp af<|Va (.bool ac.2)<|AA<|⟨_,a6,ac.2,Pu,a,(T2 (Mo [22] a5) a7 a8)⟩
 refine Pg af<|Vp af<|Va (.bool false)<|AA<|⟨_,a6,false,Pu,a,(T2 (Mo [22] a5) a7 a8)⟩
 rintro _ a2 ⟨e,am,ak,rfl,a,b1⟩
 rw [Hx] at a
 refine AM<|Vm<|Vr (I (Wr (f+1)))<|Va (I (Wr (f+1)))<|AA<|⟨r,Nat.lt_succ_self r,_,am,ak,(Wr (f+1)),Pu,(a1▸a),(Tn (Mo [22] w) b1)⟩
 refine BX<|AT<|Sr<|Vx (Fz JJ Z)<|Vx (Ld Dl Z (Bc m Z))<|AA<|Ah<|Sr<|Vr (.bool (c.type_==1))<|Va (.bool (c.type_==1))<|AA<|Cn a (λb2 a=>?_) λb2 a=>?_
 refine Am (λl a9=>∃e ao ap,l=Env.puts e [(2,.bool ap)]/\J8 ap=some y/\AU [] d u ao a9) ?_ ?_
 refine AM<|Vm<|Vm<|Bo a (λn a=>?_) λn a=>?_
 refine Gx n (Fd Kj Z)<|Gx n (Ld M0 Z (Bc m Z))<|Gr n (.bool (!c.bool))<|Vp n<|Vm<|Bo a (λg a=>?_) λg a=>?_
 refine Gx g (Fd DV Z)<|Gx g (Ld HO Z (Bc m Z)) ?_
 obtain ⟨cw,cx,b3⟩:=AW aj
 refine Gx g (v:=I (c.list.length:Int)) (Ll HB b3)<|Gr g (.bool ((c.list.length:Int)==0))<|Vp g<|Va (.bool ((c.list.length:Int)==0))<|AA<|⟨_,d,((c.list.length:Int)==0),Pu,a,Rf⟩
 refine Pg g<|Pg g<|Pg g<|Pg g<|Vp g<|Va (.bool false)<|AA<|⟨_,d,false,Pu,a,Rf⟩
 refine Pg n<|Pg n<|Pg n<|Vp n<|Vm<|Pg Z<|Pg Z<|Pg Z<|Pg Z<|Vr (.bool false)<|Va (.bool false)<|AA<|⟨_,d,false,Pu,a,Rf⟩
 rintro _ a9 ⟨e,ao,ap,rfl,a,b4⟩
 rw [J8] at a
 refine AS ?_
 obtain rfl:=AK a
 refine O1 B ah Z (.tmp Z)<|⟨ao,Z,Ho (Tn (T4 (Mo [21,22] ad) z aa ab w) b4) ag⟩
 refine Sr<|Vr (.bool (c.type_==2))<|Va (.bool (c.type_==2))<|AA<|Cn a (λb5 a=>?_) λb5 a=>?_
 refine Am (λl ba=>∃e aq ar,l=Env.puts e [(2,.bool ar)]/\J9 ar=some y/\AU [] d u aq ba) ?_ ?_
 refine AM<|Vm<|Vm<|Bo a (λo a=>?_) λo a=>?_
 refine Gx o (Fd HU Z)<|Gx o (Ld Gc Z (Bc m Z))<|Gx o (v:=.bool (ceq c.num ((0,0):Cpl))) (Run.ceq Z Z)<|Vp o<|Vm<|Bo a (λh a=>?_) λh a=>?_
 refine Gx h (Fd DV Z)<|Gx h (Ld HO Z (Bc m Z)) ?_
 obtain ⟨cy,cz,b6⟩:=AW aj
 refine Gx h (v:=I (c.list.length:Int)) (Ll HB b6)<|Gr h (.bool ((c.list.length:Int)==0))<|Vp h<|Va (.bool ((c.list.length:Int)==0))<|AA<|⟨_,d,((c.list.length:Int)==0),Pu,a,Rf⟩
 refine Pg h<|Pg h<|Pg h<|Pg h<|Vp h<|Va (.bool false)<|AA<|⟨_,d,false,Pu,a,Rf⟩
 refine Pg o<|Pg o<|Pg o<|Vp o<|Vm<|Pg Z<|Pg Z<|Pg Z<|Pg Z<|Vr (.bool false)<|Va (.bool false)<|AA<|⟨_,d,false,Pu,a,Rf⟩
 rintro _ ba ⟨e,aq,ar,rfl,a,b7⟩
 rw [J9] at a
 refine AS ?_
 obtain rfl:=AK a
 refine O1 B ah Z (.tmp Z)<|⟨aq,Z,Ho (Tn (T4 (Mo [21,22] ad) z aa ab w) b7) ag⟩
 refine Sr<|Vr (.bool (c.type_==3))<|Va (.bool (c.type_==3))<|AA<|Cn a (λb8 a=>?_) λb8 a=>?_
 refine Am (λl bb=>∃e au av,l=Env.puts e [(2,.bool av)]/\KA av=some y/\AU [] d u au bb) ?_ ?_
 refine AM<|Vm<|Vm<|Bo a (λp a=>?_) λp a=>?_
 refine Gx p (Fd HU Z)<|Gx p (Ld Gc Z (Bc m Z))<|Gx p (v:=.bool (ceq c.num ((0,0):Cpl))) (Run.ceq Z Z)<|Vp p<|Vm<|Bo a (λq a=>?_) λq a=>?_
 refine Gx q (Fd Kj Z)<|Gx q (Ld M0 Z (Bc m Z))<|Gr q (.bool (!c.bool))<|Vp q<|Va (.bool (!c.bool))<|AA<|⟨_,d,(!c.bool),Pu,a,Rf⟩
 refine Pg q<|Pg q<|Pg q<|Vp q<|Va (.bool false)<|AA<|⟨_,d,false,Pu,a,Rf⟩
 refine Pg p<|Pg p<|Pg p<|Vp p<|Vm<|Pg Z<|Pg Z<|Pg Z<|Vr (.bool false)<|Va (.bool false)<|AA<|⟨_,d,false,Pu,a,Rf⟩
 rintro _ bb ⟨e,au,av,rfl,a,b9⟩
 rw [KA] at a
 refine AS ?_
 obtain rfl:=AK a
 refine O1 B ah Z (.tmp Z)<|⟨au,Z,Ho (Tn (T4 (Mo [21,22] ad) z aa ab w) b9) ag⟩
 refine AR<|Sr<|Va (.bool false)<|AA<|AS ?_
 obtain rfl:=AK a
 refine O1 B ah Z (.tmp Z)<|⟨d,Z,Ho (T4 (Mo [21,22] ad) z aa ab w) ag⟩
theorem LT(c:Nat):CO.Spec (CO c):=lk0 (SE c)
def Eb.At(e:Col)(a:World)(f:Cpl->Option Bts):Prop:=
 ∀{c d},f c=some d->
  Calls PG 110 #[Cx c] a λg h=>∃l,g=.returned (Sb d)/\AU [] e a l h
def Eb.Spec(f:Cpl->Option Bts):Prop:=
 ∀a c,Eb.At a c f
theorem RS(e:Nat)(d:Col)(f:World)(g:∀b,d b<10):Eb.At d f (Eb e):=by
 intro h ad c
 rw [Eb] at c
 refine Az Tryz.func110 Z Tryz.ntmps110 Z λB l ae=>Sr<|Va (Sb ([]:Bts))<|AA<|Sr<|Vm<|Bi c λa m c=>Ca (Cg [Cx h] Z) (Nj d f m) ?_
 rintro _ af ⟨n,ag,rfl,o,p⟩
 obtain rfl:=A7 p
 refine Vm<|Vr (Ag [I a.1.re,I a.1.im])<|Vr (.bool a.2)<|Ef<|Aa n 20 Eg Z λq ah ai r s=>Eu<|St HP r Z Z Z Z λu w y=>Va (.bool a.2)<|AA<|Sr<|Vx (Lx EC Z Z (Bw w))<|Bi c λz aa c=>Ca (Cg [Ag [I a.1.re,I a.1.im]] Z) (QC e q u aa (BE (x:=a.1))) ?_
 rintro _ aj ⟨ab,rfl,ac⟩
 refine Va (Sb z)<|AA<|AS ?_
 obtain rfl:=AK c
 refine O1 B l Z (.tmp Z)<|⟨ab,Z,Ho (T3 (Mo [20] o) s y ac) g⟩
theorem Oh(c:Nat):Eb.Spec (Eb c):=lk0 (RS c)
def Gq.At(d:Col)(a:World)(f:AD->Option (Bts×Int)):Prop:=
 ∀{e g c},f e=some c->Aq.rep d.F a g e->
  Calls PG 78 #[Ag g] a λh l=>∃m,h=.returned (.tuple #[Sb c.1,I c.2])/\AU [] d a m l
def Gq.Spec(f:AD->Option (Bts×Int)):Prop:=
 ∀a c,Gq.At a c f
theorem Ta(e:Nat)(ad:Col)(ba:World)(p:∀b,ad b<10):Gq.At ad ba (Gq e):=by
 intro c co ae a bb
 rw [Gq] at a
 obtain ⟨am,an,rfl,al⟩:=E1 (A1 bb)
 refine Az Tryz.func78 Z Tryz.ntmps78 Z λB q cr=>Sr<|Ef<|A0 ad 20 Z Z λbc bd ao ap m=>Va (Sb ([]:Bts))<|Va (I 0)<|AA<|AT<|Sr<|Vx (Lx B5 Z Z (Bw ap))<|have aq:=Ss Kd.cpx al m;Bi a λbe bf a=>Ca (Cg [Ag [I c.type_,Cx c.num,.bool c.bool,Sl am c.list an]] Z) (LT e bc bd bf (Ao (x:=c) aq)) ?_
 rintro _ ar ⟨n,rfl,h⟩
 refine Vr (.bool (!be))<|AA<|Cn a (λbg a=>?_) λbg a=>?_
 refine Sr<|Va (Sb ([]:Bts))<|Va (I 3)<|AA<|AS ?_
 obtain rfl:=AK a
 refine O2 B q Z (.tmp Z) (.tmp Z)<|⟨n,Z,Ho (Tn (Mo [] m) h) p⟩
 refine AR<|AT<|Sr<|Vx (Fz JJ Z)<|have y:=Bs ap h;Vx (Ld Dl Z (Bc y Z))<|AA<|Ah<|Sr<|Vr (.bool (c.type_==1))<|Va (.bool (c.type_==1))<|AA<|Cn a (λbh a=>?_) λbh a=>?_
 refine Sr<|Vx (Fd HU Z)<|Vx (Ld Gc Z (Bc y Z))<|Bi a λbi bj a=>Ca (Cg [Cx c.num] Z) (Oh e n ar bj) ?_
 rintro _ ct ⟨bk,rfl,bl⟩
 refine Va (Sb bi)<|Va (I 0)<|AA<|AS ?_
 obtain rfl:=AK a
 refine O2 B q Z (.tmp Z) (.tmp Z)<|⟨bk,Z,Ho (T2 (Mo [] m) h bl) p⟩
 refine Sr<|Vr (.bool (c.type_==2))<|Va (.bool (c.type_==2))<|AA<|Cn a (λbm a=>?_) λbm a=>?_
 refine AT<|Sr<|Vx (Fd Kj Z)<|Vx (Ld M0 Z (Bc y Z))<|AA<|Cn a (λbn a=>?_) λbn a=>?_
 refine Sr<|Va (Sb ([116,114,117,101]:Bts))<|Va (I 0)<|AA<|AS ?_
 obtain rfl:=AK a
 refine O2 B q Z (.tmp Z) (.tmp Z)<|⟨n,Z,Ho (Tn (Mo [] m) h) p⟩
 refine AR<|Sr<|Va (Sb ([102,97,108,115,101]:Bts))<|Va (I 0)<|AA<|AS ?_
 obtain rfl:=AK a
 refine O2 B q Z (.tmp Z) (.tmp Z)<|⟨n,Z,Ho (Tn (Mo [] m) h) p⟩
 refine AR<|Sr<|Va (.slice none 0 0)<|AA<|AT<|Sr<|Va (I 0)<|AA<|Ah<|Bj (λg af z=>∃r o f aa ab d,af=Env.puts r [(1,Pt ao 0),(4,Sl aa f ab),(5,I d)]/\Fb e c g f d=some ae/\AU [22] n ar o z/\Own Kd.u8 5 o z 22 (Sl aa f ab) f) e ?_ ?_
 exact ⟨_,n,([]:Bts),none,0,0,Pu,a,(AU.refl [22] _ _),Own.nil⟩
 rintro g _ z ⟨r,o,f,aa,ab,d,rfl,a,ac,ag⟩
 rcases g with _|g
 exact A5 a
 refine have a:F5 e c (Fb e c g) f d=some ae:=a; ?_
 obtain ⟨bo,au⟩:∃s,s=Fb e c g:=⟨_,rfl⟩
 rw [<-au,F5] at a
 refine AT<|Sr<|Vm<|Vx (Fd DV Z)<|have av:=Bs y ac;Vx (Ld HO Z (Bc av Z))<|have aw:=K2 Kd.cpx aq h ac; ?_
 obtain ⟨cu,cv,bp⟩:=AW aw
 refine Vx (v:=I (c.list.length:Int)) (Ll HB bp)<|Vr (.bool (decide (d< (c.list.length:Int))))<|AA<|Cn a (λbq a=>?_) λbq a=>?_
 refine AR<|AT<|Ah<|Am (λaf u=>∃r w l ah ai,af=Env.puts r [(1,Pt ao 0),(4,Sl ah l ai),(5,I d)]/\Hg e c d bo l=some ae/\AU [22] o z w u/\Own Kd.u8 5 w u 22 (Sl ah l ai) l) ?_ ?_
 refine Sr<|Vm<|Vr (.bool (decide (d>0)))<|AA<|Cn a (λbr a=>?_) λbr a=>?_
 refine AM<|Vm<|Ef<|Cj (cs:=[U8 32]) o 21 [[U8 32]] IC Zi Z Z (.cons Z Z Z .nil) Z λbt bu bv bw ax=>have bx:Own Kd.u8 5 bt bu 21 (.slice (some ⟨bv,0,none⟩) 1 1) ([32]:Bts):=Own.lit (css:=[[U8 32]]) bw Z Z Z (Ac Z BB) (A6 Z Ds) Z;have bz:=Os ag ax;Bi a λcw ay a=>Ef<|Br (κ:=Kd.u8) Z Z bz dcd ZR (CI bx) (Ea ay) (Ew ay) λcx b0 cy az b1=>?_
 obtain ⟨a0,a1,rfl⟩:=Own.len az
 refine Va (Sl a0 ((f++([32]:Bts))) a1)<|AA<|⟨_,b0,(f++([32]:Bts)),a0,a1,Pu,a,(Tn (Mo [22] ax) b1),az⟩
 refine AR<|⟨_,o,f,aa,ab,Pu,a,(AU.refl [22] _ _),ag⟩
 rintro _ u ⟨r,w,l,ah,ai,rfl,a,aj,b2⟩
 rw [Hg] at a
 refine AM<|Vm<|Vx (Fd DV Z)<|have b3:=Bs av aj;Vx (Ld HO Z (Bc b3 Z))<|Vm<|Bi a λa2 b4 a=>have b5:=Ss Kd.cpx aw aj; ?_
 obtain ⟨b6,b7,cz,a3,b8,b9,ca,cb,ak⟩:=A8 (κ:=Kd.cpx) b5 b4
 replace ak:Ay w u b6 (b7+d.toNat*1) a3:=ak
 obtain rfl:=(show a3=[Cx a2] from cb)
 refine Vx (Ix HB b8 Z b9 ca)<|Vx (Ld Gc Z (Ay.cell0 ak Z))<|Bi a λa4 cc a=>Ca (Cg [Cx a2] Z) (Oh e w u cc) ?_
 rintro _ c0 ⟨c1,rfl,a5⟩
 refine have cd:=Os b2 a5;Bi a λc2 cf a=>Ef<|Uc Z Z cd dcd ZR AB3 J2 (Ea cf) λc3 cg c4 a6 ch=>?_
 obtain ⟨a7,a8,rfl⟩:=Own.len a6
 refine Va (Sl a7 ((l++a4)) a8)<|AA<|AM<|Vm<|Vr (I (Wr (d+1)))<|Va (I (Wr (d+1)))<|AA<|⟨g,Nat.lt_succ_self g,_,cg,(l++a4),a7,a8,(Wr (d+1)),Pu,(au▸a),(T3 (Mo [22] ac) aj a5 ch),a6⟩
 refine BX<|Sr<|Vm ?_
 obtain ⟨ci,cj,ck⟩:=Own.freeze (S:=[22]) ag dcd dcd
 refine Vx (v:=Sb f) (Run.bytesStr Pv Z ck)<|Bi a λcl cm a=>Vx (v:=Sb cl) (Run.strAdd Z Z cm)<|Bi a λa9 cn a=>Vx (v:=Sb a9) (Run.strAdd Z Z cn)<|Va (Sb a9)<|Va (I 0)<|AA<|AS ?_
 obtain rfl:=AK a
 refine O2 B q Z (.tmp Z) (.tmp Z)<|⟨ci,Z,Ho (T3 (Mo [22] m) h ac cj) p⟩
theorem Ul(c:Nat):Gq.Spec (Gq c):=lk0 (Ta c)
def Hy.Spec(f:Bts->Option (AD×Int)):Prop:=
 ∀l c {d kw0 a},f d=some a->[kw0].Nodup->0∉[kw0]->
  Calls PG 49 #[Sb d] c λm e=>∃g h,m=.returned (.tuple #[Ag [I a.1.type_,Cx a.1.num,.bool a.1.bool,h],I a.2])/\AU [kw0] l c g e/\Own Kd.cpx 35 g e kw0 h a.1.list
theorem SF(g:Nat)(a6:Col)(bm:World)(al:∀b,a6 b<10){c:Bts}{m:AD×Int}(a:Hy g c=some m):
  Calls PG 49 #[Sb c] bm λcf bn=>∃bo bp,cf=.returned (.tuple #[Ag [I m.1.type_,Cx m.1.num,.bool m.1.bool,bp],I m.2])/\AU [1] a6 bm bo bn/\Own Kd.cpx 35 bo bn 1 bp m.1.list:=by
 rw [Hy] at a
 refine Az Tryz.func49 Z Tryz.ntmps49 Z λB am az=>Sr<|Ef<|Aa a6 20 Cm Z λa7 cg a8 an ao=>Va (I 0)<|AA<|AT<|Am (λau a9=>∃z a0 ba,au=Env.puts z [(0,Sb c),(2,Pt a8 0),(16,.bool ba)]/\Gs g c ba=some m/\AU [] a7 cg a0 a9) ?_ ?_
 refine AM<|Vm<|Vx (v:=.bool (c==([116,114,117,101]:Bts))) (Run.strEq Z Z)<|Vm<|Bo a (λaf a=>?_) λaf a=>?_
 refine Pg af<|Pg af<|Vp af<|AA<|⟨_,a7,true,Pu,a,Rf⟩
 refine Gm af<|Gx af (v:=.bool (c==([102,97,108,115,101]:Bts))) (Run.strEq Z Z)<|Vp af<|AA<|⟨_,a7,(c==([102,97,108,115,101]:Bts)),Pu,a,Rf⟩
 rintro _ a9 ⟨z,a0,ba,rfl,a,h⟩
 rw [Gs] at a
 refine Cn a (λch a=>?_) λch a=>?_
 refine Sr<|Vm<|Vx (v:=.bool (c==([116,114,117,101]:Bts))) (Run.strEq Z Z)<|Vx (v:=Ag [I 2,Cx (((0,0):Cpl)),.bool (c==([116,114,117,101]:Bts)),.slice none 0 0]) (Bp Cm GK Z (.cons Z Z Z (.cons Z Z Z .nil)))<|have ci:=Bs an h;Eu<|St DN ci Z Z Z Z λen cj ck=>Va (I 0)<|AA<|AS ?_
 obtain rfl:=AK a
 refine O2 B am Z (.agg B5 Z Z (Bw cj)) (.tmp Z)<|⟨a0,.slice none 0 0,Z,Ho (T2 (Mo [20] ao) h ck) al,Own.nil⟩
 refine AR<|Sr<|Vm<|Bi a λf cl a=>Ca (Cg [Sb c] Z) (NR g a0 a9 cl) ?_
 rintro _ eo ⟨cm,ep,rfl,n,cn⟩
 obtain rfl:=A7 cn
 refine Vm<|Vr (Ag [I f.1.re,I f.1.im])<|Vr (I f.2)<|Ef<|Aa cm 21 Eg Z λav eq bb co o=>Eu<|St HP co Z Z Z Z λbq br p=>Va (I f.2)<|AA<|AT<|Sr<|Vm<|Vr (.bool (f.2==0))<|AA<|Cn a (λcq a=>?_) λcq a=>?_
 refine Sr<|Vx (Lx EC Z Z (Bw br))<|Bi a λbt cr a=>Ca (Cg [Ag [I f.1.re,I f.1.im]] Z) (MY av bq cr (BE (x:=f.1))) ?_
 rintro _ er ⟨ct,rfl,bu⟩
 refine Vx (v:=Ag [I 1,Cx bt,.bool false,.slice none 0 0]) (Bp Cm GK Z (.cons Z Z Z (.cons Z Z Z .nil)))<|have cu:=Bs (Y4 an h n o p) bu;Eu<|St DN cu Z Z Z Z λes cv cw=>Va (I 0)<|AA<|AS ?_
 obtain rfl:=AK a
 refine O2 B am Z (.agg B5 Z Z (Bw cv)) (.tmp Z)<|⟨ct,.slice none 0 0,Z,Ho (T2 (T4 (Mo [20,21] ao) h n o p) bu cw) al,Own.nil⟩
 refine AR<|AT<|Am (λau bv=>∃z a1 bc,au=Env.puts z [(0,Sb c),(2,Pt a8 0),(4,Pt bb 0),(45,.bool bc)]/\F6 g c f bc=some m/\AU [] av bq a1 bv) ?_ ?_
 refine AM<|Vm<|Vx (v:=I (c.length:Int)) (Run.lenStr J2 Z)<|Vr (.bool (decide ((c.length:Int)<2)))<|Vm<|Bo a (λu a=>?_) λu a=>?_
 refine Pg u<|Pg u<|Pg u<|Vp u<|Vm<|Pg Z<|Pg Z<|Pg Z<|Pg Z<|Pg Z<|Pg Z<|Vr (.bool true)<|AA<|⟨_,av,true,Pu,a,Rf⟩
 refine Gm u<|Bi a λbw cx a=>Gx u (v:=U8 bw) (Run.indexBs J2 Z Z cx)<|Gr u (.bool ((bw.toNat:Int) != ((91:UInt8).toNat:Int)))<|Vp u<|Vm<|Bo a (λe a=>?_) λe a=>?_
 refine Pg e<|Pg e<|Pg e<|Pg e<|Pg e<|Pg e<|Vp e<|AA<|⟨_,av,true,Pu,a,Rf⟩
 refine Gm e<|Gm e<|Gx e (v:=I (c.length:Int)) (Run.lenStr J2 Z)<|Gr e (I (Wr ((c.length:Int) - 1)))<|Bi a λbd cy a=>Gx e (v:=U8 bd) (Run.indexBs J2 Z Z cy)<|Gr e (.bool ((bd.toNat:Int) != ((93:UInt8).toNat:Int)))<|Vp e<|AA<|⟨_,av,((bd.toNat:Int) != ((93:UInt8).toNat:Int)),Pu,a,Rf⟩
 rintro _ bv ⟨z,a1,bc,rfl,a,w⟩
 rw [F6] at a
 refine Cn a (λcz a=>?_) λcz a=>?_
 refine Sr<|Vx (v:=Ag [I 0,Cx (((0,0):Cpl)),.bool false,.slice none 0 0]) (Bp Cm GK Z .nil)<|have c0:=Bs (Y4 an h n o p) w;Eu<|St DN c0 Z Z Z Z λet c1 c2=>Va (I 11)<|AA<|AS ?_
 obtain rfl:=AK a
 refine O2 B am Z (.agg B5 Z Z (Bw c1)) (.tmp Z)<|⟨a1,.slice none 0 0,Z,Ho (T2 (T4 (Mo [20,21] ao) h n o p) w c2) al,Own.nil⟩
 refine AR<|Sr<|Vx (v:=Ag [I 3,Cx (((0,0):Cpl)),.bool false,.slice none 0 0]) (Bp Cm GK Z (.cons Z Z Z .nil))<|Ef<|Aa a1 22 Cm Z λc3 eu bx c4 ag=>Eu<|St DN c4 Z Z Z Z λc5 c6 ah=>AA<|Sr<|Vm<|Vm<|Vx (v:=I (c.length:Int)) (Run.lenStr J2 Z)<|Vr (I (Wr ((c.length:Int) - 1)))<|Bi a λbz c7 a=>Vx (v:=Sb bz) (Run.sliceStr J2 Z ⟨_,Z⟩ ⟨_,Z⟩ c7)<|Bi a λaa c8 a=>Ca (Cg [Sb bz] Z) (TY g c3 c5 c8) ?_
 rintro _ c9 ⟨b0,ew,rfl,ab,b1⟩
 obtain ⟨b2,b3,rfl⟩:=AW b1
 refine Va (Sl b2 aa b3)<|AA<|AT<|Sr<|Va (I 0)<|AA<|Ah<|Bj (λac au ad=>∃z ai y a2 a3 d q r,au=Env.puts z [(0,Sb c),(2,Pt a8 0),(4,Pt bb 0),(6,Pt bx 0),(7,Sl b2 aa b3),(8,I y)]/\FI g c aa ac y a2 a3 d=some m/\AU [1,21,22] b0 c9 ai ad/\Own Kd.cpx 35 ai ad 1 (Sl q d r) d/\Bk ai ad 21 bb [I a2,I a3] 111/\Bk ai ad 22 bx [I 3,Cx (((0,0):Cpl)),.bool false,Sl q d r] 38) g ?_ ?_
 refine have da:=Y4 br w ag ah ab;have db:=Bs c6 ab;⟨_,b0,0,f.1.re,f.1.im,([]:List Cpl),none,0,Pu,a,(AU.refl [1,21,22] _ _),Own.nil,da,db⟩
 rintro ac _ ad ⟨z,ai,y,a2,a3,d,q,r,rfl,a,ae,be,dc,bf⟩
 rcases ac with _|ac
 exact A5 a
 refine have a:Fc g c aa (FI g c aa ac) y a2 a3 d=some m:=a; ?_
 obtain ⟨ex,b4⟩:∃s,s=FI g c aa ac:=⟨_,rfl⟩
 rw [<-b4,Fc] at a
 refine AT<|Sr<|Vm<|Vm<|have b5:=Ss Kd.bts b1 ae; ?_
 obtain ⟨ey,ez,de⟩:=AW b5
 refine Vx (v:=I (aa.length:Int)) (Ll IT de)<|Vr (.bool (decide (y< (aa.length:Int))))<|AA<|Cn a (λdf a=>?_) λdf a=>?_
 refine AR<|AT<|Ah<|Sr<|Vm<|Vm<|Bi a λb6 dg a=>?_
 obtain ⟨dh,di,e0,b7,dj,dk,dl,dm,bg⟩:=A8 (κ:=Kd.bts) b5 dg
 replace bg:Ay ai ad dh (di+y.toNat*1) b7:=bg
 obtain rfl:=(show b7=[Sb b6] from dm)
 refine Vx (Ix IT dj Z dk dl)<|Vx (Ld B7 Z (Ay.cell0 bg Z))<|Bi a λl dn a=>Ca (Cg [Sb b6] Z) (NR g ai ad dn) ?_
 rintro _ e1 ⟨bh,e2,rfl,ap,dp⟩
 obtain rfl:=A7 dp
 refine Vm<|Vr (Ag [I l.1.re,I l.1.im])<|Vr (I l.2)<|have dq:=Bs dc ap;Eu<|St HP dq Z Z Z Z λe3 dr aw=>Va (I l.2)<|AA<|AT<|Sr<|Vm<|Vr (.bool (l.2 != 0))<|AA<|Cn a (λds a=>?_) λds a=>?_
 refine Sr<|Vx (v:=Ag [I 0,Cx (((0,0):Cpl)),.bool false,.slice none 0 0]) (Bp Cm GK Z .nil)<|have dt:=Y3 (Y4 (Y4 an h n o p) w ag ah ab) ae ap aw;Eu<|St DN dt Z Z Z Z λe4 du dv=>Va (I 11)<|AA<|AS ?_
 obtain rfl:=AK a
 refine O2 B am Z (.agg B5 Z Z (Bw du)) (.tmp Z)<|⟨bh,.slice none 0 0,Z,Ho (T4 (T4 (T4 (Mo [1,20,21,22] ao) h n o p) w ag ah ab) ae ap aw dv) al,Own.nil⟩
 refine AR<|BZ C7 (qs 0 3 (.one 3 (.one 4 (.one 5 (.q 6 (.one 7 .nil)))))) [7] [1] bh (by kernel_rfl) λdw a4=>Qx az Z (λ_ _=>Fd DV Z)<|have b8:=Y3 bf ap aw a4;Qx az Z (λ_ ⟨_,ax⟩=>Ld HO Z (Bc (Bs b8 ax) Z))<|have b9:=Bs dr a4;Qx az Z (λ_ ⟨_,ax⟩=>Lx EC Z Z (Bw (Bs b9 ax)))<|A2 Z<|Bi a λaj dx a=>A4 Z (.none Z) Z Z (Cg [Ag [I l.1.re,I l.1.im]] Z)<|Calls.mono (MY bh dw dx (BE (x:=l.1))) ?_
 rintro _ e5 ⟨dy,rfl,ak⟩
 refine ⟨_,Z,⟨_,(Mo [1] ak)⟩,?_⟩
 refine A2 Z<|Bn Z (.none Z) Z Z<|Cj (cs:=[Cx aj]) dy 23 [[Cx aj]] HB V8 Z Z (.cons Z Z Z .nil) Z λdz d0 d1 d2 aq=>have d3:Own Kd.cpx 35 dz d0 23 (.slice (some ⟨d1,0,none⟩) 1 1) ([aj]:List Cpl):=Own.lit (css:=[[Cx aj]]) d2 Z Z Z (Ac Z BB) (A6 Z Ds) Z;⟨⟨_,(Tn (Mo [1] ak) aq)⟩,?_⟩
 refine A2 Z<|have d4:=Os (Os (Os (Os (Os be ap) aw) a4) ak) aq;Bi a λe6 ca a=>Bn Z (.none Z) Z Z<|Br (κ:=Kd.cpx) Z Z d4 dcd V0 (CI d3) (Ea ca) (Ew ca) λe7 d5 e8 bi a5=>?_
 obtain ⟨bj,bk,rfl⟩:=Own.len bi
 refine ⟨⟨_,(T2 (Mo [1] ak) aq a5)⟩,?_⟩
 refine Qx az Z (λ_ _=>Fd DV Z)<|E3 dcd<|WY.one<|have d6:=Y3 b8 ak aq a5;BS Z (.none Z) Z<|Bf (vs:=[Sl bj ((d++([aj]:List Cpl))) bk]) (cs':=[I 3,Cx (((0,0):Cpl)),.bool false,Sl bj ((d++([aj]:List Cpl))) bk]) V4 Z Z Z Z (AQ (Own.one bi) B6) d6 dcd Z Z λe9 d7 bl=>WY.nil<|AM<|Vm<|Vr (I (Wr (y+1)))<|Va (I (Wr (y+1)))<|AA<|have d8:=Os bi bl;have d9:=Y4 b9 ak aq a5 bl;⟨ac,Nat.lt_succ_self ac,_,d5,(Wr (y+1)),l.1.re,l.1.im,(d++([aj]:List Cpl)),bj,bk,Pu,(b4▸a),(T3 (T4 (Mo [1,21,22] ae) ap aw a4 ak) aq a5 bl),d8,d9,d7⟩
 refine BX<|Sr<|Vx (Lx B5 Z Z (Bw bf)) ?_
 obtain ⟨ea,fa,eb,ec⟩:=Own.lend be dcd
 refine Bi a λay ed a=>Ca (Cg [Ag [I 3,Cx (((0,0):Cpl)),.bool false,Sl q d r]] Z) (Ul g ea ad ed (Ao (x:=(AD.mk 3 ((0,0):Cpl) false d)) eb)) ?_
 rintro _ fb ⟨fc,rfl,ee⟩
 obtain ⟨cb,ar⟩:=ec [] _ _ ee dcd
 refine Vm<|Vr (Sb ay.1)<|Vr (I ay.2)<|Va (Sb ay.1)<|Va (I ay.2)<|AA<|AT<|Sr<|Vm<|Vm<|Vx (v:=.bool (!(ay.1==c))) (Run.strNe Z Z)<|AA<|Cn a (λef a=>?_) λef a=>?_
 refine Sr<|Vx (v:=Ag [I 0,Cx (((0,0):Cpl)),.bool false,.slice none 0 0]) (Bp Cm GK Z .nil)<|have eg:=Y2 (Y4 (Y4 an h n o p) w ag ah ab) ae ar;Eu<|St DN eg Z Z Z Z λfd eh ei=>Va (I 11)<|AA<|AS ?_
 obtain rfl:=AK a
 refine O2 B am Z (.agg B5 Z Z (Bw eh)) (.tmp Z)<|⟨cb,.slice none 0 0,Z,Ho (T3 (T4 (T4 (Mo [1,20,21,22] ao) h n o p) w ag ah ab) ae ar ei) al,Own.nil⟩
 refine AR<|Sr<|have ej:=Bs bf ar;Vx (Lx B5 Z Z (Bw ej))<|have ek:=Y2 (Y4 (Y4 an h n o p) w ag ah ab) ae ar;have cc:=Os be ar;Eu<|Bf (vs:=[I 3,Cx (((0,0):Cpl)),.bool false,Sl q d r]) (cs':=[I 3,Cx (((0,0):Cpl)),.bool false,Sl q d r]) DN Z Z Z Z (AQ Z (AQ Z (AQ Z (AQ (Own.one cc) B6)))) ek dcd Z Z λfe el cd=>Va (I 0)<|AA<|AS ?_
 obtain rfl:=AK a
 refine O2 B am Z (.agg B5 Z Z (Bw el)) (.tmp Z)<|have em:=Os cc cd;⟨cb,Sl q d r,Z,Ho (T3 (T4 (T4 (Mo [1,20,21,22] ao) h n o p) w ag ah ab) ae ar cd) al,em⟩
theorem Tc(c:Nat):Hy.Spec (Hy c):=by
 intro a d n kw0 o f hnd hnz
 refine Calls.mono (SF c (recol (see [kw0]) a) d (E9 (Nat.le_of_ble_eq_true Z) a) f) ?_
 rintro p q ⟨g,h,l,e,m⟩
 exact ⟨glue [kw0] d a g,h,l,B8 e (E4 Z Z),IV (j:=0) m Z Z e⟩
def If.Spec(f:Bts->Option ((List AD)×Int)):Prop:=
 ∀l c {d} {kw0 kw1} {a},f d=some a->[kw0,kw1].Nodup->0∉[kw0,kw1]->
  Calls PG 28 #[Sb d] c λm e=>∃g h,m=.returned (.tuple #[h,I a.2])/\AU [kw0] l c g e/\Li g e kw0 kw1 h a.1
theorem SG(g:Nat)(af:Col)(ap:World)(aq:∀b,af b<10){e:Bts}{p:(List AD)×Int}(a:If g e=some p):
  Calls PG 28 #[Sb e] ap λbk a2=>∃a3 a4,bk=.returned (.tuple #[a4,I p.2])/\AU [1] af ap a3 a2/\Li a3 a2 1 2 a4 p.1:=by
 rw [If] at a
 refine Az Tryz.func28 Z Tryz.ntmps28 Z λB a5 b9=>Sr<|Va (.slice none 0 0)<|Va (I 0)<|AA<|Sr<|Va (.slice none 0 0)<|AA<|Sr<|Va (I 0)<|AA<|AT<|Ah<|Bj (λo z ag=>∃l aa d q r f,z=Env.puts l [(0,Sb e),(4,Sl q d r),(5,I f)]/\Ch g e o d f=some p/\AU [1,20,21] af ap aa ag/\Li aa ag 1 2 (Sl q d r) d) g ?_ ?_
 exact ⟨_,af,([]:List AD),none,0,0,Pu,a,(AU.refl [1,20,21] _ _),Li.nil⟩
 rintro o _ ag ⟨l,aa,d,q,r,f,rfl,a,ah,ar⟩
 rcases o with _|o
 exact A5 a
 refine have a:Ff g e (Ch g e o) d f=some p:=a; ?_
 obtain ⟨ae,au⟩:∃s,s=Ch g e o:=⟨_,rfl⟩
 rw [<-au,Ff] at a
 refine AT<|Sr<|Vm<|Vm<|Vx (v:=I (e.length:Int)) (Run.lenStr J2 Z)<|Vr (.bool (decide (f< (e.length:Int))))<|AA<|Cn a (λbl a=>?_) λbl a=>?_
 refine AR<|Ah<|AT<|Sr<|Vm<|Vm<|Bi a λa6 bm a=>Vx (v:=U8 a6) (Run.indexBs J2 Z Z bm)<|Vr (.bool ((a6.toNat:Int)==((32:UInt8).toNat:Int)))<|AA<|Cn a (λbn a=>?_) λbn a=>?_
 refine Sr<|Vm<|Vr (I (Wr (f+1)))<|Va (I (Wr (f+1)))<|AA<|BX<|⟨o,Nat.lt_succ_self o,_,aa,d,q,r,(Wr (f+1)),Pu,(au▸a),(Mo [1,20,21] ah),ar⟩
 refine AR<|Sr<|Vm<|Va (I f)<|AA<|Sr<|Vm<|Vm<|Bi a λai bo a=>Vx (v:=U8 ai) (Run.indexBs J2 Z Z bo)<|Vr (.bool ((ai.toNat:Int)==((91:UInt8).toNat:Int)))<|Va (.bool ((ai.toNat:Int)==((91:UInt8).toNat:Int)))<|AA<|AT<|Ah<|Bj (λu z av=>∃l ac h ab,z=Env.puts l [(0,Sb e),(4,Sl q d r),(5,I h),(6,I f),(7,.bool ab)]/\EV g e d f ae u h ab=some p/\AU [] aa ag ac av) g ?_ ?_
 exact ⟨_,aa,f,((ai.toNat:Int)==((91:UInt8).toNat:Int)),Pu,a,Rf⟩
 rintro u _ av ⟨l,ac,h,ab,rfl,a,aj⟩
 rcases u with _|u
 exact A5 a
 refine have a:Fe g e d f ae (EV g e d f ae u) h ab=some p:=a; ?_
 obtain ⟨a7,a8⟩:∃s,s=EV g e d f ae u:=⟨_,rfl⟩
 rw [<-a8,Fe] at a
 refine AT<|Am (λz ak=>∃l ad aw,z=Env.puts l [(0,Sb e),(4,Sl q d r),(5,I h),(6,I f),(7,.bool ab),(37,.bool aw)]/\Ek g e d f ae h ab a7 aw=some p/\AU [] ac av ad ak) ?_ ?_
 refine AM<|Vm<|Vm<|Vx (v:=I (e.length:Int)) (Run.lenStr J2 Z)<|Vr (.bool (decide (h< (e.length:Int))))<|Vm<|Bo a (λm a=>?_) λm a=>?_
 refine Gm m<|Gm m<|Bo a (λn a=>?_) λn a=>?_
 refine Pg n<|Pg n<|Pg n<|Pg n<|Gp m n<|Vp m<|AA<|⟨_,ac,true,Pu,a,Rf⟩
 refine Gm n<|Gm n<|Bi a λax bp a=>Gx n (v:=U8 ax) (Run.indexBs J2 Z Z bp)<|Gr n (.bool ((ax.toNat:Int) != ((32:UInt8).toNat:Int)))<|Gp m n<|Vp m<|AA<|⟨_,ac,((ax.toNat:Int) != ((32:UInt8).toNat:Int)),Pu,a,Rf⟩
 refine Pg m<|Pg m<|Po<|Po<|Po<|Po<|Pg m<|Vp m<|AA<|⟨_,ac,false,Pu,a,Rf⟩
 rintro _ ak ⟨l,ad,aw,rfl,a,al⟩
 rw [Ek] at a
 refine Cn a (λbq a=>?_) λbq a=>?_
 refine AR<|Ah<|Am (λz a9=>∃l ay am,z=Env.puts l [(0,Sb e),(4,Sl q d r),(5,I h),(6,I f),(7,.bool am)]/\Hz h a7 am=some p/\AU [] ad ak ay a9) ?_ ?_
 refine Sr<|Vm<|Vm<|Bi a λba br a=>Vx (v:=U8 ba) (Run.indexBs J2 Z Z br)<|Vr (.bool ((ba.toNat:Int)==((93:UInt8).toNat:Int)))<|AA<|Cn a (λbt a=>?_) λbt a=>?_
 refine AM<|Va (.bool false)<|AA<|⟨_,ad,false,Pu,a,Rf⟩
 refine AR<|⟨_,ad,ab,Pu,a,Rf⟩
 rintro _ a9 ⟨l,ay,am,rfl,a,bu⟩
 rw [Hz] at a
 refine AM<|Vm<|Vr (I (Wr (h+1)))<|Va (I (Wr (h+1)))<|AA<|⟨u,Nat.lt_succ_self u,_,ay,(Wr (h+1)),am,Pu,(a8▸a),(T2 (Mo [] aj) al bu)⟩
 refine BX<|Sr<|Vm<|Vm<|Vm<|Bi a λbb bv a=>Vx (v:=Sb bb) (Run.sliceStr J2 Z ⟨_,Z⟩ ⟨_,Z⟩ bv)<|Bi a λc bw a=>Ca (Cg [Sb bb] Z) (Tc g ad ak (kw0:=20) bw dcd dcd) ?_
 rintro _ ca ⟨bx,cb,rfl,az,bc⟩
 obtain ⟨w,y,rfl⟩:=Own.len bc
 refine Vm<|Vr (Ag [I c.1.type_,Cx c.1.num,.bool c.1.bool,Sl w c.1.list y])<|Vr (I c.2)<|Ef<|Aa bx 21 Cm Z λbd cc cd bz an=>have be:=Os bc an;Eu<|Bf (vs:=[I c.1.type_,Cx c.1.num,.bool c.1.bool,Sl w c.1.list y]) (cs':=[I c.1.type_,Cx c.1.num,.bool c.1.bool,Sl w c.1.list y]) DN Z Z Z Z (AQ Z (AQ Z (AQ Z (AQ (Own.one be) B6)))) bz dcd Z Z λcf b0 ao=>Va (I c.2)<|AA<|AT<|Sr<|Vm<|Vr (.bool (c.2 != 0))<|AA<|Cn a (λb1 a=>?_) λb1 a=>?_
 refine Sr<|Va (.slice none 0 0)<|Va (I 11)<|AA<|AS ?_
 obtain rfl:=AK a
 refine O2 B a5 Z (.tmp Z) (.tmp Z)<|⟨bd,.slice none 0 0,Z,Ho (Tn (T4 (Mo [1,20,21] ah) aj al az an) ao) aq,Li.nil⟩
 refine AR<|AM<|Vm<|Vx (Lx B5 Z Z (Bw b0))<|Ef<|Cj (cs:=[I c.1.type_,Cx c.1.num,.bool c.1.bool,Sl w c.1.list y]) bd 22 [[I c.1.type_,Cx c.1.num,.bool c.1.bool,Sl w c.1.list y]] Fs Cm Z Z (.cons Z Z Z .nil) Z λb2 b3 b4 b5 a0=>have bf:=Os (Os be ao) a0;have b6:Own kNv 38 b2 b3 22 (.slice (some ⟨b4,0,none⟩) 1 1) ([(c.1,Sl w c.1.list y)]:List (AD×Value)):=Own.lit (css:=[[I c.1.type_,Cx c.1.num,.bool c.1.bool,Sl w c.1.list y]]) b5 Z Z Z (Ac ⟨Z,Own.one bf⟩ BB) (A6 Z Ds) Z; ?_
 obtain ⟨ys,hys,hyo,hyl⟩:=(Li.step (Li.step (Li.step (Li.step (Li.step (Li.step ar aj dcd dcd dcd) al dcd dcd dcd) az dcd dcd dcd) an dcd dcd dcd) ao dcd dcd dcd) a0 dcd dcd dcd)
 have hyn:ys.length=d.length:=by rw [<-hys,List.length_map]
 refine Bi a λcg bg a=>Ef<|Br (κ:=kNv) Z Z hyo dcd (Xs TL) (CI b6) (by rw [hyn];exact Ea bg) (by rw [hyn];exact Ew bg) λch ci cj bh a1=>?_
 obtain ⟨bi,bj,rfl⟩:=Nd (xs:=d++([c.1]:List AD)) bh (by rw [List.map_append,hys];rfl)
 refine Va (Sl bi ((d++([c.1]:List AD))) bj)<|AA ?_
 obtain ⟨b7,b8,hN⟩:=ZO (T3 (T4 (Mo [1,20,21] ah) aj al az an) ao a0 a1) aq rfl rfl rfl bh (hyl.step a1 dcd dcd) (Os bf a1)
 rw [List.map_append,hys] at hN
 exact ⟨o,Nat.lt_succ_self o,_,b7,(d++([c.1]:List AD)),bi,bj,h,Pu,(au▸a),b8,hN⟩
 refine BX<|Sr<|Vm<|Va (Sl q d r)<|Va (I 0)<|AA<|AS ?_
 obtain rfl:=AK a
 refine O2 B a5 Z (.tmp Z) (.tmp Z)<|⟨aa,Sl q d r,Z,Ho (Mo [1,20,21] ah) aq,ar⟩
theorem Td(c:Nat):If.Spec (If c):=by
 intro a d n kw0 kw1 o f hnd hnz
 refine Calls.mono (SG c (recol (see [kw0,kw1]) a) d (E9 (Nat.le_of_ble_eq_true Z) a) f) ?_
 rintro p q ⟨g,h,l,e,m⟩
 exact ⟨glue [kw0,kw1] d a g,h,l,B8 e (E4 Z Z),Li.glue (k:=0) (j:=1) m Z Z Z e⟩
def PW(f:Eh->Option (AL×(List AD)×Bool)):Prop:=
 ∀g c {h l} {kw1 kw2} {a},f h=some a->[kw1,kw2].Nodup->0∉[kw1,kw2]->J7.rep g.F c l h->
  Calls PG 11 #[Ag l] c λn d=>∃e m u1,n=.returned (.tuple #[Ag m,u1,.bool a.2.2])/\AU [kw1] g c e d/\Bz.rep e.F d m a.1/\Li e d kw1 kw2 u1 a.2.1
theorem QM(n:Nat)(b3:Col)(cn:World)(ex:∀b,b3 b<10){m:Eh}{d5:List Value}{az:AL×(List AD)×Bool}(ey:J7.rep b3.F cn d5 m)(a:CH n m=some az):
  Calls PG 11 #[Ag d5] cn λez co=>∃cq d6 u1,ez=.returned (.tuple #[Ag d6,u1,.bool az.2.2])/\AU [1] b3 cn cq co/\Bz.rep cq.F co d6 az.1/\Li cq co 1 2 u1 az.2.1:=by
 rw [CH] at a
 obtain ⟨w,y,rfl,r⟩:=E1 (Qe ey)
 refine Az Tryz.func11 Z Tryz.ntmps11 Z λB e0 c=>Sr<|Ef<|A0 b3 20 Z Z λe1 le e2 d7 s=>Ef<|Aa e1 21 KP Z λbc e3 cr d8 o=>Va (.slice none 0 0)<|Va (.bool false)<|AA<|Am (λct a0=>∃bd a1 cu cv ap a2 a3 b4 d9,ct=Env.puts bd [(1,Pt e2 0),(2,Pt cr 0),(5,Pt cu 0),(6,Pt cv 0)]/\Gt n m ap b4=some az/\AU [22,23] bc e3 a1 a0/\Slc AI a1.F a0 (Sl a2 ap a3) ap/\Bk a1 a0 22 cu [Sl a2 ap a3] 28/\Bk a1 a0 23 cv [I b4,I d9] 63) ?_ ?_
 refine BZ C7 (.q 0 (.q 1 (.three 2 7 8 (.three 3 7 8 (qs 4 3 (.two 7 8 (.one 8 (.one 9 (.one 10 .nil))) (.one 7 (.one 9 (.one 10 .nil))))) (.two 3 8 (qs 4 3 (.one 8 (.one 9 (.one 10 .nil)))) (.one 3 (qs 4 3 (.one 9 (.one 10 .nil))))) (.two 3 7 (qs 4 3 (.one 7 (.one 9 (.one 10 .nil)))) (.one 3 (qs 4 3 (.one 9 (.one 10 .nil)))))) (.two 2 8 (.two 3 8 (qs 4 3 (.one 8 (.one 9 (.one 10 .nil)))) (.one 3 (qs 4 3 (.one 9 (.one 10 .nil))))) (.one 2 (.one 3 (qs 4 3 (.one 9 (.one 10 .nil)))))) (.two 2 7 (.two 3 7 (qs 4 3 (.one 7 (.one 9 (.one 10 .nil)))) (.one 3 (qs 4 3 (.one 9 (.one 10 .nil))))) (.one 2 (.one 3 (qs 4 3 (.one 9 (.one 10 .nil))))))))) [10] [22] bc (by kernel_rfl) λe4 g=>Qx c Z (λ_ _=>Fz ZT Z)<|have e5:=Y2 d7 o g;Qx c Z (λ_ ⟨_,d⟩=>Ld ABv Z (Bc (Bs e5 d) Z))<|Wx Z Z Z ?_ ?_ ?_
 refine Bi a λf e6 a=>A4 Z (.none Z) Z Z (Cg [] Z)<|Calls.mono (L3 bc e4 e6) ?_
 rintro _ e7 ⟨cw,lf,rfl,e,e8⟩
 obtain rfl:=Ko e8
 refine ⟨_,Z,⟨_,(Mo [22] e)⟩,?_⟩
 refine Wx Z Z Z ?_ ?_ ?_
 refine have e9:=K4 Kd.u8 r s o g e;Bi a λu fa a=>A4 Z (.none Z) Z Z (Cg [Sl w m.text y,Ag [I f.text,I f.funcs,I f.arity,I f.nest]] Z)<|Calls.mono (FU n cw e7 fa e9 (FV (x:=f))) ?_
 rintro _ lg ⟨ea,lh,li,rfl,ae,fb,fc⟩
 obtain ⟨b5,b6,rfl,cx⟩:=E1 (BQ fb)
 obtain rfl:=Au fc
 refine ⟨_,Z,⟨_,(Tn (Mo [22] e) ae)⟩,?_⟩
 refine Qx c Z (v:=.tuple #[Ag [Sl b5 u.1.funcs b6],Ag [I u.2.why,I u.2.at_]]) (λ_ _=>Mv Z)<|Qx c Z (v:=Ag [Sl b5 u.1.funcs b6]) (λ_ _=>Z)<|Qx c Z (v:=Ag [I u.2.why,I u.2.at_]) (λ_ _=>Z)<|Nq Z Z ?_ ?_
 refine Bn Z (.none Z) Z Z<|Aa ea 22 KP Z λfd lk fe ff be=>⟨⟨_,(T2 (Mo [22] e) ae be)⟩,?_⟩
 refine A2 Z<|Bn Z (.none Z) Z Z<|Aa fd 23 FR Z λfg ll fh fi bf=>⟨⟨_,(T3 (Mo [22] e) ae be bf)⟩,?_⟩
 refine A2 Z<|have fj:=Bs ff bf;have fk:=K2 AI cx be bf;BS Z (.none Z) Z<|St JK fj Z Z Z Z λlm fl b7=>⟨⟨_,(T4 (Mo [22] e) ae be bf b7)⟩,?_⟩
 refine E3 dcd<|WY.one<|have fm:=Bs fi b7;BS Z (.none Z) Z<|St HN fm Z Z Z Z λln fn cy=>WY.nil<|have fo:=K2 AI fk b7 cy;have fp:=Bs fl cy;⟨_,fg,fe,fh,u.1.funcs,b5,b6,u.2.why,u.2.at_,Pu,a,(T2 (T4 (Mo [22,23] g) e ae be bf) b7 cy),fo,fp,fn⟩
 refine Bn Z (.none Z) Z Z<|Aa ea 23 FR Z λfq lo fr fs bg=>⟨⟨_,(T2 (Mo [22] e) ae bg)⟩,?_⟩
 refine A2 Z<|Bn Z (.none Z) Z Z<|Aa fq 22 KP Z λft lp fu fv bh=>⟨⟨_,(T3 (Mo [22] e) ae bg bh)⟩,?_⟩
 refine A2 Z<|have fw:=K2 AI cx bg bh;BS Z (.none Z) Z<|St JK fv Z Z Z Z λlq fx b8=>⟨⟨_,(T4 (Mo [22] e) ae bg bh b8)⟩,?_⟩
 refine E3 dcd<|WY.one<|have fy:=Y2 fs bh b8;BS Z (.none Z) Z<|St HN fy Z Z Z Z λlr fz cz=>WY.nil<|have f0:=K2 AI fw b8 cz;have f1:=Bs fx cz;⟨_,ft,fu,fr,u.1.funcs,b5,b6,u.2.why,u.2.at_,Pu,a,(T2 (T4 (Mo [22,23] g) e ae bg bh) b8 cz),f0,f1,fz⟩
 refine Bn Z (.none Z) Z Z<|Aa cw 22 KP Z λeb f2 ec ed z=>⟨⟨_,(Tn (Mo [22] e) z)⟩,?_⟩
 refine Nq Z Z ?_ ?_
 refine have f3:=Ss Kd.u8 (K4 Kd.u8 r s o g e) z;Bi a λaf f4 a=>A4 Z (.none Z) Z Z (Cg [Sl w m.text y,Ag [I f.text,I f.funcs,I f.arity,I f.nest]] Z)<|Calls.mono (FU n eb f2 f4 f3 (FV (x:=f))) ?_
 rintro _ ls ⟨f5,lt,lu,rfl,bi,f6,f7⟩
 obtain ⟨c0,c1,rfl,ee⟩:=E1 (BQ f6)
 obtain rfl:=Au f7
 refine ⟨_,Z,⟨_,(T2 (Mo [22] e) z bi)⟩,?_⟩
 refine Qx c Z (v:=.tuple #[Ag [Sl c0 af.1.funcs c1],Ag [I af.2.why,I af.2.at_]]) (λ_ _=>Mv Z)<|Qx c Z (v:=Ag [Sl c0 af.1.funcs c1]) (λ_ _=>Z)<|Qx c Z (v:=Ag [I af.2.why,I af.2.at_]) (λ_ _=>Z)<|A2 Z<|Bn Z (.none Z) Z Z<|Aa f5 23 FR Z λf8 lw f9 ga bj=>⟨⟨_,(T3 (Mo [22] e) z bi bj)⟩,?_⟩
 refine A2 Z<|have gb:=Y2 ed bi bj;have gc:=Ss AI ee bj;BS Z (.none Z) Z<|St JK gb Z Z Z Z λlx gd b9=>⟨⟨_,(T4 (Mo [22] e) z bi bj b9)⟩,?_⟩
 refine E3 dcd<|WY.one<|have ge:=Bs ga b9;BS Z (.none Z) Z<|St HN ge Z Z Z Z λly gf c2=>WY.nil<|have gg:=K2 AI gc b9 c2;have gh:=Bs gd c2;⟨_,f8,ec,f9,af.1.funcs,c0,c1,af.2.why,af.2.at_,Pu,a,(T2 (T4 (Mo [22,23] g) e z bi bj) b9 c2),gg,gh,gf⟩
 refine Bn Z (.none Z) Z Z<|Aa eb 23 FR Z λgi gj gk gl a4=>⟨⟨_,(T2 (Mo [22] e) z a4)⟩,?_⟩
 refine A2 Z<|have gm:=K2 Kd.u8 (K4 Kd.u8 r s o g e) z a4;Bi a λag gn a=>A4 Z (.none Z) Z Z (Cg [Sl w m.text y,Ag [I f.text,I f.funcs,I f.arity,I f.nest]] Z)<|Calls.mono (FU n gi gj gn gm (FV (x:=f))) ?_
 rintro _ lz ⟨go,l0,l1,rfl,bk,gp,gq⟩
 obtain ⟨c3,c4,rfl,ef⟩:=E1 (BQ gp)
 obtain rfl:=Au gq
 refine ⟨_,Z,⟨_,(T3 (Mo [22] e) z a4 bk)⟩,?_⟩
 refine Qx c Z (v:=.tuple #[Ag [Sl c3 ag.1.funcs c4],Ag [I ag.2.why,I ag.2.at_]]) (λ_ _=>Mv Z)<|Qx c Z (v:=Ag [Sl c3 ag.1.funcs c4]) (λ_ _=>Z)<|Qx c Z (v:=Ag [I ag.2.why,I ag.2.at_]) (λ_ _=>Z)<|A2 Z<|have gr:=Y2 ed a4 bk;BS Z (.none Z) Z<|St JK gr Z Z Z Z λl3 gs ca=>⟨⟨_,(T4 (Mo [22] e) z a4 bk ca)⟩,?_⟩
 refine E3 dcd<|WY.one<|have gt:=Y2 gl bk ca;BS Z (.none Z) Z<|St HN gt Z Z Z Z λl4 gu c5=>WY.nil<|have gv:=K2 AI ef ca c5;have gw:=Bs gs c5;⟨_,go,ec,gk,ag.1.funcs,c3,c4,ag.2.why,ag.2.at_,Pu,a,(T2 (T4 (Mo [22,23] g) e z a4 bk) ca c5),gv,gw,gu⟩
 refine Bn Z (.none Z) Z Z<|Aa cw 23 FR Z λeg gx eh ei aa=>⟨⟨_,(Tn (Mo [22] e) aa)⟩,?_⟩
 refine Nq Z Z ?_ ?_
 refine have gy:=Ss Kd.u8 (K4 Kd.u8 r s o g e) aa;Bi a λah gz a=>A4 Z (.none Z) Z Z (Cg [Sl w m.text y,Ag [I f.text,I f.funcs,I f.arity,I f.nest]] Z)<|Calls.mono (FU n eg gx gz gy (FV (x:=f))) ?_
 rintro _ l5 ⟨g0,l6,l7,rfl,bl,g1,g2⟩
 obtain ⟨c6,c7,rfl,ej⟩:=E1 (BQ g1)
 obtain rfl:=Au g2
 refine ⟨_,Z,⟨_,(T2 (Mo [22] e) aa bl)⟩,?_⟩
 refine Qx c Z (v:=.tuple #[Ag [Sl c6 ah.1.funcs c7],Ag [I ah.2.why,I ah.2.at_]]) (λ_ _=>Mv Z)<|Qx c Z (v:=Ag [Sl c6 ah.1.funcs c7]) (λ_ _=>Z)<|Qx c Z (v:=Ag [I ah.2.why,I ah.2.at_]) (λ_ _=>Z)<|A2 Z<|Bn Z (.none Z) Z Z<|Aa g0 22 KP Z λg3 l9 g4 g5 bm=>⟨⟨_,(T3 (Mo [22] e) aa bl bm)⟩,?_⟩
 refine A2 Z<|have g6:=Ss AI ej bm;BS Z (.none Z) Z<|St JK g5 Z Z Z Z λma g7 cb=>⟨⟨_,(T4 (Mo [22] e) aa bl bm cb)⟩,?_⟩
 refine E3 dcd<|WY.one<|have g8:=Y3 ei bl bm cb;BS Z (.none Z) Z<|St HN g8 Z Z Z Z λmb g9 c8=>WY.nil<|have ha:=K2 AI g6 cb c8;have hb:=Bs g7 c8;⟨_,g3,g4,eh,ah.1.funcs,c6,c7,ah.2.why,ah.2.at_,Pu,a,(T2 (T4 (Mo [22,23] g) e aa bl bm) cb c8),ha,hb,g9⟩
 refine Bn Z (.none Z) Z Z<|Aa eg 22 KP Z λhc hd he hf a5=>⟨⟨_,(T2 (Mo [22] e) aa a5)⟩,?_⟩
 refine A2 Z<|have hg:=K2 Kd.u8 (K4 Kd.u8 r s o g e) aa a5;Bi a λai hh a=>A4 Z (.none Z) Z Z (Cg [Sl w m.text y,Ag [I f.text,I f.funcs,I f.arity,I f.nest]] Z)<|Calls.mono (FU n hc hd hh hg (FV (x:=f))) ?_
 rintro _ mc ⟨hi,md,me,rfl,bn,hj,hk⟩
 obtain ⟨c9,da,rfl,ek⟩:=E1 (BQ hj)
 obtain rfl:=Au hk
 refine ⟨_,Z,⟨_,(T3 (Mo [22] e) aa a5 bn)⟩,?_⟩
 refine Qx c Z (v:=.tuple #[Ag [Sl c9 ai.1.funcs da],Ag [I ai.2.why,I ai.2.at_]]) (λ_ _=>Mv Z)<|Qx c Z (v:=Ag [Sl c9 ai.1.funcs da]) (λ_ _=>Z)<|Qx c Z (v:=Ag [I ai.2.why,I ai.2.at_]) (λ_ _=>Z)<|A2 Z<|have hl:=Bs hf bn;BS Z (.none Z) Z<|St JK hl Z Z Z Z λmg hm cc=>⟨⟨_,(T4 (Mo [22] e) aa a5 bn cc)⟩,?_⟩
 refine E3 dcd<|WY.one<|have hn:=Y3 ei a5 bn cc;BS Z (.none Z) Z<|St HN hn Z Z Z Z λmh ho db=>WY.nil<|have hp:=K2 AI ek cc db;have hq:=Bs hm db;⟨_,hi,he,eh,ai.1.funcs,c9,da,ai.2.why,ai.2.at_,Pu,a,(T2 (T4 (Mo [22,23] g) e aa a5 bn) cc db),hp,hq,ho⟩
 refine Bn Z (.none Z) Z Z<|Aa bc 22 KP Z λel hr dc de h=>⟨⟨_,(Mo [22] h)⟩,?_⟩
 refine Nq Z Z ?_ ?_
 refine Bi a λac hs a=>A4 Z (.none Z) Z Z (Cg [] Z)<|Calls.mono (L3 el hr hs) ?_
 rintro _ ht ⟨em,mi,rfl,p,hu⟩
 obtain rfl:=Ko hu
 refine ⟨_,Z,⟨_,(Tn (Mo [22] h) p)⟩,?_⟩
 refine Nq Z Z ?_ ?_
 refine have hw:=Ss Kd.u8 (K4 Kd.u8 r s o g h) p;Bi a λaj hx a=>A4 Z (.none Z) Z Z (Cg [Sl w m.text y,Ag [I ac.text,I ac.funcs,I ac.arity,I ac.nest]] Z)<|Calls.mono (FU n em ht hx hw (FV (x:=ac))) ?_
 rintro _ mj ⟨hy,mk,ml,rfl,bo,hz,h0⟩
 obtain ⟨df,dg,rfl,en⟩:=E1 (BQ hz)
 obtain rfl:=Au h0
 refine ⟨_,Z,⟨_,(T2 (Mo [22] h) p bo)⟩,?_⟩
 refine Qx c Z (v:=.tuple #[Ag [Sl df aj.1.funcs dg],Ag [I aj.2.why,I aj.2.at_]]) (λ_ _=>Mv Z)<|Qx c Z (v:=Ag [Sl df aj.1.funcs dg]) (λ_ _=>Z)<|Qx c Z (v:=Ag [I aj.2.why,I aj.2.at_]) (λ_ _=>Z)<|A2 Z<|Bn Z (.none Z) Z Z<|Aa hy 23 FR Z λh1 mn h2 h3 bp=>⟨⟨_,(T3 (Mo [22] h) p bo bp)⟩,?_⟩
 refine A2 Z<|have h4:=Y3 de p bo bp;have h5:=Ss AI en bp;BS Z (.none Z) Z<|St JK h4 Z Z Z Z λmo h6 cd=>⟨⟨_,(T4 (Mo [22] h) p bo bp cd)⟩,?_⟩
 refine E3 dcd<|WY.one<|have h7:=Bs h3 cd;BS Z (.none Z) Z<|St HN h7 Z Z Z Z λmp h8 dh=>WY.nil<|have h9:=K2 AI h5 cd dh;have ia:=Bs h6 dh;⟨_,h1,dc,h2,aj.1.funcs,df,dg,aj.2.why,aj.2.at_,Pu,a,(T2 (T4 (Mo [22,23] g) h p bo bp) cd dh),h9,ia,h8⟩
 refine Bn Z (.none Z) Z Z<|Aa em 23 FR Z λib ic id ie a6=>⟨⟨_,(T2 (Mo [22] h) p a6)⟩,?_⟩
 refine A2 Z<|have ig:=K2 Kd.u8 (K4 Kd.u8 r s o g h) p a6;Bi a λak ih a=>A4 Z (.none Z) Z Z (Cg [Sl w m.text y,Ag [I ac.text,I ac.funcs,I ac.arity,I ac.nest]] Z)<|Calls.mono (FU n ib ic ih ig (FV (x:=ac))) ?_
 rintro _ mq ⟨ii,mr,ms,rfl,bq,ij,ik⟩
 obtain ⟨di,dj,rfl,eo⟩:=E1 (BQ ij)
 obtain rfl:=Au ik
 refine ⟨_,Z,⟨_,(T3 (Mo [22] h) p a6 bq)⟩,?_⟩
 refine Qx c Z (v:=.tuple #[Ag [Sl di ak.1.funcs dj],Ag [I ak.2.why,I ak.2.at_]]) (λ_ _=>Mv Z)<|Qx c Z (v:=Ag [Sl di ak.1.funcs dj]) (λ_ _=>Z)<|Qx c Z (v:=Ag [I ak.2.why,I ak.2.at_]) (λ_ _=>Z)<|A2 Z<|have il:=Y3 de p a6 bq;BS Z (.none Z) Z<|St JK il Z Z Z Z λmu im cf=>⟨⟨_,(T4 (Mo [22] h) p a6 bq cf)⟩,?_⟩
 refine E3 dcd<|WY.one<|have io:=Y2 ie bq cf;BS Z (.none Z) Z<|St HN io Z Z Z Z λmv ip dk=>WY.nil<|have iq:=K2 AI eo cf dk;have ir:=Bs im dk;⟨_,ii,dc,id,ak.1.funcs,di,dj,ak.2.why,ak.2.at_,Pu,a,(T2 (T4 (Mo [22,23] g) h p a6 bq) cf dk),iq,ir,ip⟩
 refine Bn Z (.none Z) Z Z<|Aa el 23 FR Z λit iu iv iw ar=>⟨⟨_,(Tn (Mo [22] h) ar)⟩,?_⟩
 refine A2 Z<|Bi a λbr ix a=>A4 Z (.none Z) Z Z (Cg [] Z)<|Calls.mono (L3 it iu ix) ?_
 rintro _ iy ⟨iz,mw,rfl,au,i0⟩
 obtain rfl:=Ko i0
 refine ⟨_,Z,⟨_,(T2 (Mo [22] h) ar au)⟩,?_⟩
 refine A2 Z<|have i1:=K2 Kd.u8 (K4 Kd.u8 r s o g h) ar au;Bi a λal i2 a=>A4 Z (.none Z) Z Z (Cg [Sl w m.text y,Ag [I br.text,I br.funcs,I br.arity,I br.nest]] Z)<|Calls.mono (FU n iz iy i2 i1 (FV (x:=br))) ?_
 rintro _ mx ⟨i3,my,mz,rfl,bt,i4,i5⟩
 obtain ⟨dl,dm,rfl,ep⟩:=E1 (BQ i4)
 obtain rfl:=Au i5
 refine ⟨_,Z,⟨_,(T3 (Mo [22] h) ar au bt)⟩,?_⟩
 refine Qx c Z (v:=.tuple #[Ag [Sl dl al.1.funcs dm],Ag [I al.2.why,I al.2.at_]]) (λ_ _=>Mv Z)<|Qx c Z (v:=Ag [Sl dl al.1.funcs dm]) (λ_ _=>Z)<|Qx c Z (v:=Ag [I al.2.why,I al.2.at_]) (λ_ _=>Z)<|A2 Z<|have i6:=Y3 de ar au bt;BS Z (.none Z) Z<|St JK i6 Z Z Z Z λm1 i7 cg=>⟨⟨_,(T4 (Mo [22] h) ar au bt cg)⟩,?_⟩
 refine E3 dcd<|WY.one<|have i8:=Y3 iw au bt cg;BS Z (.none Z) Z<|St HN i8 Z Z Z Z λm2 i9 dn=>WY.nil<|have ja:=K2 AI ep cg dn;have jb:=Bs i7 dn;⟨_,i3,dc,iv,al.1.funcs,dl,dm,al.2.why,al.2.at_,Pu,a,(T2 (T4 (Mo [22,23] g) h ar au bt) cg dn),ja,jb,i9⟩
 refine Bn Z (.none Z) Z Z<|Aa bc 23 FR Z λeq jc dp dq l=>⟨⟨_,(Mo [22] l)⟩,?_⟩
 refine Nq Z Z ?_ ?_
 refine Bi a λad jd a=>A4 Z (.none Z) Z Z (Cg [] Z)<|Calls.mono (L3 eq jc jd) ?_
 rintro _ je ⟨er,m3,rfl,q,jf⟩
 obtain rfl:=Ko jf
 refine ⟨_,Z,⟨_,(Tn (Mo [22] l) q)⟩,?_⟩
 refine Nq Z Z ?_ ?_
 refine have jg:=Ss Kd.u8 (K4 Kd.u8 r s o g l) q;Bi a λam jh a=>A4 Z (.none Z) Z Z (Cg [Sl w m.text y,Ag [I ad.text,I ad.funcs,I ad.arity,I ad.nest]] Z)<|Calls.mono (FU n er je jh jg (FV (x:=ad))) ?_
 rintro _ m4 ⟨ji,m5,m6,rfl,bu,jj,jk⟩
 obtain ⟨dr,ds,rfl,es⟩:=E1 (BQ jj)
 obtain rfl:=Au jk
 refine ⟨_,Z,⟨_,(T2 (Mo [22] l) q bu)⟩,?_⟩
 refine Qx c Z (v:=.tuple #[Ag [Sl dr am.1.funcs ds],Ag [I am.2.why,I am.2.at_]]) (λ_ _=>Mv Z)<|Qx c Z (v:=Ag [Sl dr am.1.funcs ds]) (λ_ _=>Z)<|Qx c Z (v:=Ag [I am.2.why,I am.2.at_]) (λ_ _=>Z)<|A2 Z<|Bn Z (.none Z) Z Z<|Aa ji 22 KP Z λjl m8 jm jn bv=>⟨⟨_,(T3 (Mo [22] l) q bu bv)⟩,?_⟩
 refine A2 Z<|have jo:=Ss AI es bv;BS Z (.none Z) Z<|St JK jn Z Z Z Z λm9 jp ch=>⟨⟨_,(T4 (Mo [22] l) q bu bv ch)⟩,?_⟩
 refine E3 dcd<|WY.one<|have jq:=Y4 dq q bu bv ch;BS Z (.none Z) Z<|St HN jq Z Z Z Z λna jr dt=>WY.nil<|have js:=K2 AI jo ch dt;have jt:=Bs jp dt;⟨_,jl,jm,dp,am.1.funcs,dr,ds,am.2.why,am.2.at_,Pu,a,(T2 (T4 (Mo [22,23] g) l q bu bv) ch dt),js,jt,jr⟩
 refine Bn Z (.none Z) Z Z<|Aa er 22 KP Z λju jv jw jx a7=>⟨⟨_,(T2 (Mo [22] l) q a7)⟩,?_⟩
 refine A2 Z<|have jy:=K2 Kd.u8 (K4 Kd.u8 r s o g l) q a7;Bi a λan jz a=>A4 Z (.none Z) Z Z (Cg [Sl w m.text y,Ag [I ad.text,I ad.funcs,I ad.arity,I ad.nest]] Z)<|Calls.mono (FU n ju jv jz jy (FV (x:=ad))) ?_
 rintro _ nb ⟨j0,nc,nd,rfl,bw,j1,j2⟩
 obtain ⟨du,dv,rfl,et⟩:=E1 (BQ j1)
 obtain rfl:=Au j2
 refine ⟨_,Z,⟨_,(T3 (Mo [22] l) q a7 bw)⟩,?_⟩
 refine Qx c Z (v:=.tuple #[Ag [Sl du an.1.funcs dv],Ag [I an.2.why,I an.2.at_]]) (λ_ _=>Mv Z)<|Qx c Z (v:=Ag [Sl du an.1.funcs dv]) (λ_ _=>Z)<|Qx c Z (v:=Ag [I an.2.why,I an.2.at_]) (λ_ _=>Z)<|A2 Z<|have j3:=Bs jx bw;BS Z (.none Z) Z<|St JK j3 Z Z Z Z λnf j4 ci=>⟨⟨_,(T4 (Mo [22] l) q a7 bw ci)⟩,?_⟩
 refine E3 dcd<|WY.one<|have j5:=Y4 dq q a7 bw ci;BS Z (.none Z) Z<|St HN j5 Z Z Z Z λng j6 dw=>WY.nil<|have j7:=K2 AI et ci dw;have j8:=Bs j4 dw;⟨_,j0,jw,dp,an.1.funcs,du,dv,an.2.why,an.2.at_,Pu,a,(T2 (T4 (Mo [22,23] g) l q a7 bw) ci dw),j7,j8,j6⟩
 refine Bn Z (.none Z) Z Z<|Aa eq 22 KP Z λj9 ka kb kc av=>⟨⟨_,(Tn (Mo [22] l) av)⟩,?_⟩
 refine A2 Z<|Bi a λbx kd a=>A4 Z (.none Z) Z Z (Cg [] Z)<|Calls.mono (L3 j9 ka kd) ?_
 rintro _ ke ⟨kf,nh,rfl,aw,kg⟩
 obtain rfl:=Ko kg
 refine ⟨_,Z,⟨_,(T2 (Mo [22] l) av aw)⟩,?_⟩
 refine A2 Z<|have kh:=K2 Kd.u8 (K4 Kd.u8 r s o g l) av aw;Bi a λao ki a=>A4 Z (.none Z) Z Z (Cg [Sl w m.text y,Ag [I bx.text,I bx.funcs,I bx.arity,I bx.nest]] Z)<|Calls.mono (FU n kf ke ki kh (FV (x:=bx))) ?_
 rintro _ ni ⟨kj,nj,nk,rfl,bz,kk,kl⟩
 obtain ⟨dx,dy,rfl,eu⟩:=E1 (BQ kk)
 obtain rfl:=Au kl
 refine ⟨_,Z,⟨_,(T3 (Mo [22] l) av aw bz)⟩,?_⟩
 refine Qx c Z (v:=.tuple #[Ag [Sl dx ao.1.funcs dy],Ag [I ao.2.why,I ao.2.at_]]) (λ_ _=>Mv Z)<|Qx c Z (v:=Ag [Sl dx ao.1.funcs dy]) (λ_ _=>Z)<|Qx c Z (v:=Ag [I ao.2.why,I ao.2.at_]) (λ_ _=>Z)<|A2 Z<|have km:=Y2 kc aw bz;BS Z (.none Z) Z<|St JK km Z Z Z Z λnm kn cj=>⟨⟨_,(T4 (Mo [22] l) av aw bz cj)⟩,?_⟩
 refine E3 dcd<|WY.one<|have ko:=Y4 dq av aw bz cj;BS Z (.none Z) Z<|St HN ko Z Z Z Z λnp kp dz=>WY.nil<|have kq:=K2 AI eu cj dz;have kr:=Bs kn dz;⟨_,kj,kb,dp,ao.1.funcs,dx,dy,ao.2.why,ao.2.at_,Pu,a,(T2 (T4 (Mo [22,23] g) l av aw bz) cj dz),kq,kr,kp⟩
 rintro _ a0 ⟨bd,a1,cu,cv,ap,a2,a3,b4,d9,rfl,a,ck,ew,ks,kt⟩
 rw [Gt] at a
 refine Sr<|Vx (Fd ZU Z)<|have ku:=Y2 d7 o ck;Vx (Ld B7 Z (Bc ku Z))<|Bi a λab kv a=>Ca (Cg [Sb m.args] Z) (Td n a1 a0 (kw0:=1) (kw1:=2) kv dcd dcd) ?_
 rintro _ kw ⟨d0,nq,rfl,ax,d1⟩
 obtain ⟨a8,a9,rfl⟩:=Li.len d1
 refine Vm<|Vr (Sl a8 ab.1 a9)<|Vr (I ab.2)<|Va (Sl a8 ab.1 a9)<|Va (I ab.2)<|AA<|Am (λct b0=>∃bd ba bb cl cm d2 aq b1 b2,ct=Env.puts bd [(2,Pt cr 0),(3,Sl cl bb cm),(4,.bool d2)]/\Jf bb d2 aq=some az/\AU [21] d0 kw ba b0/\Li ba b0 1 2 (Sl cl bb cm) bb/\Slc AI ba.F b0 (Sl b1 aq b2) aq/\Bk ba b0 21 cr [Sl b1 aq b2] 28) ?_ ?_
 refine AM<|have kx:=Bs ks ax;Vx (Lx Fw Z Z (Bw kx))<|Vm<|Vx (Fz NN Z)<|have ky:=Bs kt ax;Vx (Ld NO Z (Bc ky Z))<|Vr (.bool (b4==0))<|Vm<|Bo a (λay a=>?_) λay a=>?_
 refine Gm ay<|Gr ay (.bool (ab.2==0))<|Vp ay<|have kz:=Y2 d8 ck ax;have k0:=Ss AI ew ax;Eu<|St JK kz Z Z Z Z λnr k1 d3=>Va (Sl a8 ab.1 a9)<|Va (.bool (ab.2==0))<|AA<|have k2:=Li.step d1 d3 dcd dcd dcd;have k3:=Ss AI k0 d3;⟨_,d0,ab.1,a8,a9,(ab.2==0),ap,a2,a3,Pu,a,(Mo [21] d3),k2,k3,k1⟩
 refine Pg ay<|Pg ay<|Vp ay<|have k4:=Y2 d8 ck ax;have k5:=Ss AI ew ax;Eu<|St JK k4 Z Z Z Z λns k6 d4=>Va (Sl a8 ab.1 a9)<|Va (.bool false)<|AA<|have k7:=Li.step d1 d4 dcd dcd dcd;have k8:=Ss AI k5 d4;⟨_,d0,ab.1,a8,a9,false,ap,a2,a3,Pu,a,(Mo [21] d4),k7,k8,k6⟩
 rintro _ b0 ⟨bd,ba,bb,cl,cm,d2,aq,b1,b2,rfl,a,k9,la,lb,lc⟩
 rw [Jf] at a
 refine AS ?_
 obtain rfl:=AK a
 refine Ye (B:=B) e0<|ACq Z (.agg Fw Z Z (Bw lc)) (.tmp Z) (.tmp Z)<|⟨ba,[Sl b1 aq b2],Sl cl bb cm,Z,Ho (T4 (Mo [1,21,22,23] s) o ck ax k9) ex,(BL (x:=(AL.mk aq)) lb),la⟩
theorem NS(c:Nat):PW (CH c):=by
 intro a d p q kw1 kw2 r f hnd hnz g
 refine Calls.mono (QM c (recol (see [kw1,kw2]) a) d (E9 (Nat.le_of_ble_eq_true Z) a) (Bd J7 g [kw1,kw2]) f) ?_
 rintro s u ⟨h,l,u1,m,e,n,o⟩
 exact ⟨glue [kw1,kw2] d a h,l,u1,m,B8 e (E4 Z Z),ED Bz n,Li.glue (k:=0) (j:=1) o Z Z Z e⟩
def CH.Spec(f:Eh->Option (AL×(List AD)×Bool)):Prop:=
 ∀g c {h l kw1 a},f h=some a->[kw1].Nodup->0∉[kw1]->J7.rep g.F c l h->
  Calls PG 11 #[Ag l] c λn d=>∃e m u1,n=.returned (.tuple #[Ag m,u1,.bool a.2.2])/\AU [kw1] g c e d/\Bz.rep e.F d m a.1/\Own Aq 38 e d kw1 u1 a.2.1
theorem Nk(a:Nat):CH.Spec (CH a):=by
 intro c d s u kw1 w f hnd hnz g
 obtain ⟨k,hk,hf⟩:=Yi c d.heap.size kw1
 have y:kw1≠0:=λh=>hnz (by simp [h])
 refine Calls.mono (NS a c d (kw1:=kw1) (kw2:=k) f (by simp;omega) (by simp;omega) g) ?_
 rintro z aa ⟨e,l,u1,m,n,o,p⟩
 obtain ⟨q,r⟩:=p.plain (n.mono (by simp)) (by omega) λb hb h=>by have:=hf b hb;omega
 exact ⟨hide k e,l,u1,m,q,Bz.mono o (λb _ h=>by show hide k e b=0;simp only [hide];split<;>first|exact Z|exact h) (λ_ _ _=>Z),r⟩
def EB.At(G1 G2:Prop)(c:Col)(a:World)(f:Int->Int->AF->Option AF)(d:Nat):Prop:=
 ∀{l m e n o p},f l m n=some p->G1->G2->Bk c a d e o 63->An.rep c.F a o n->
  Calls PG 79 #[I l,I m,Pt e 0] a λr g=>∃h q,r=.returned (.tuple #[])/\AU [d] c a h g/\Bk h g d e q 63/\An.rep h.F g q p
def EB.Spec(f:Int->Int->AF->Option AF):Prop:=
 ∀c d {a},EB.At ([a].Nodup) (0∉[a]) c d f a
theorem Qr(f:Col)(o:World)(p:∀b,f b<10):EB.At True True f o EB 1:=by
 intro g d u e af w a _ _ h y
 rw [EB] at a
 obtain rfl:=Au y
 refine Az Tryz.func79 Z Tryz.ntmps79 Z λB q ag=>Am (λz r=>∃s l n,z=Env.puts s [(0,I g),(1,I d),(2,Pt u 0),(13,.bool n)]/\KB g d e n=some w/\AU [] f o l r) ?_ ?_
 refine AM<|Vx (Fz NN Z)<|Vx (Ld NO Z (Bc h Z))<|Vr (.bool (e.why==0))<|Vm<|Bo a (λc a=>?_) λc a=>?_
 refine Pg c<|Pg c<|Pg c<|Pg c<|Vp c<|AA<|⟨_,f,true,Pu,a,Rf⟩
 refine Gm c<|Gx c (Fd PH Z)<|Gx c (Ld BC Z (Bc h Z))<|Gr c (.bool (decide (d<e.at_)))<|Vp c<|AA<|⟨_,f,(decide (d<e.at_)),Pu,a,Rf⟩
 rintro _ r ⟨s,l,n,rfl,a,m⟩
 rw [KB] at a
 refine Cn a (λaa a=>?_) λaa a=>?_
 refine AM<|Vm<|Vm<|Vx (v:=Ag [I g,I d]) (Bp FR M6 Z (.cons Z Z Z (.cons Z Z Z .nil)))<|have ab:=Bs h m;Eu<|St HN ab Z Z Z Z λah ac ad=>AA ?_
 obtain rfl:=AK a
 refine NJ (B:=B) q<|NI Z<|⟨l,[I g,I d],Z,Ho (Tn (Mo [1] m) ad) p,ac,(Al (x:=(AF.mk g d)))⟩
 refine AR ?_
 obtain rfl:=AK a
 refine NJ (B:=B) q<|NI Z<|have ae:=Bs h m;⟨l,[I e.why,I e.at_],Z,Ho (Mo [] m) p,ae,(Al (x:=e))⟩
theorem KQ:EB.Spec EB:=lk1 (Qr)
def F7.At(G1 G2:Prop)(c:Col)(a:World)(f:AE->As->As->AF->AL->Option AF)(ad ae af ag d ah:Nat):Prop:=
 ∀{l m n o p q r s e u w y z aa ab},f l o r u z=some ab->G1->G2->AG.rep c.F a m l->Mp c a ad n o->Bk c a ae p [.map (some q)] 81->Mp c a af q r->Bk c a ag s [.func (.func 79) #[] [Pt e 0].toArray] 169->Bk c a d e w 63->An.rep c.F a w u->Bk c a ah y aa 28->Bz.rep c.F a aa z->
  Calls PG 81 #[Ag m,.map (some n),Pt p 0,Pt s 0,Pt y 0] a λai g=>∃h ac,ai=.returned (.tuple #[])/\AU [d] c a h g/\Bk h g d e ac 63/\An.rep h.F g ac ab
def F7.Spec(f:AE->As->As->AF->AL->Option AF):Prop:=
 ∀l m {a c d e g h},F7.At ([a,c,d,e,g,h].Nodup) (0∉[a,c,d,e,g,h]) l m f a c d e g h
theorem Qs(ai:Col)(a5:World)(ab:∀b,ai b<10):F7.At True True ai a5 F7 1 2 3 4 5 6:=by
 intro d cu cv ac cw cx n aj ak o cy az a0 cz al a _ _ a6 a7 a8 a9 am ad ba bb bc
 rw [F7] at a
 obtain ⟨c1,c2,rfl,a1⟩:=E1 (Ae a6)
 obtain rfl:=Au ba
 obtain ⟨c4,c5,rfl,a2⟩:=E1 (BQ bc)
 refine Az Tryz.func81 Z Tryz.ntmps81 Z λB ae c=>Sr<|Ef<|A0 ai 20 Z Z λan bd ao p h=>AA<|Sr<|have be:=Bs a8 h;Vx (Ld PL Z (Bc be Z))<|Vx (Fd DW Z)<|Vx (Ld B7 Z (Bc p Z))<|have bf:=Ms a9 h;Vx (v:=I (Cz n d.name)) (KU Ln Z Z bf)<|Va (I (Cz n d.name))<|AA<|Ah<|Am (λz af=>∃q u ap,z=Env.puts q [(3,Pt aj 0),(4,Pt az 0),(5,Pt ao 0),(7,I (Cz n d.name)),(12,.bool ap)]/\HX d n o a0 ap=some al/\AU [] an bd u af) ?_ ?_
 refine AM<|Vx (Fz Cp Z)<|Vx (Ld GC Z (Bc p Z))<|Vr (.bool (d.op==6))<|Vm<|Bo a (λm a=>?_) λm a=>?_
 refine Gm m<|Gx m (Fd DW Z)<|Gx m (Ld B7 Z (Bc p Z))<|have bg:=Ms a7 h;Gx m (v:=I (Cz ac d.name)) (KU Ln Z Z bg)<|Gr m (.bool ((Cz ac d.name)==0))<|Vp m<|Va (.bool ((Cz ac d.name)==0))<|AA<|⟨_,an,((Cz ac d.name)==0),Pu,a,Rf⟩
 refine Pg m<|Pg m<|Pg m<|Pg m<|Pg m<|Vp m<|Va (.bool false)<|AA<|⟨_,an,false,Pu,a,Rf⟩
 rintro _ af ⟨q,u,ap,rfl,a,g⟩
 rw [HX] at a
 refine Cn a (λbh a=>?_) λbh a=>?_
 refine AM<|have bi:=Y2 am h g;Vx (Ld Qn Z (Bc bi Z))<|Vx (Fd L2 Z)<|have bj:=Bs p g;Vx (Ld BC Z (Bc bj Z))<|have bk:=Y2 ad h g;Bi a λaq bl a=>Ca (TK (vs:=[I 31,I d.at_]) (caps:=[Pt ak 0]) Z Z) (KQ u af bl dcd dcd bk (Al (x:=o))) ?_
 rintro _ c6 ⟨bm,c7,rfl,bn,bo,bp⟩
 obtain rfl:=Au bp
 refine AA ?_
 obtain rfl:=AK a
 refine NJ (B:=B) ae<|NI Z<|⟨bm,[I aq.why,I aq.at_],Z,Ho (T2 (Mo [5] h) g bn) ab,bo,(Al (x:=aq))⟩
 refine Am (λz ag=>∃q r ar,z=Env.puts q [(3,Pt aj 0),(4,Pt az 0),(5,Pt ao 0),(7,I (Cz n d.name)),(27,.bool ar)]/\GR d n o a0 ar=some al/\AU [] u af r ag) ?_ ?_
 refine AM<|Vx (Fz Cp Z)<|have bq:=Bs p g;Vx (Ld GC Z (Bc bq Z))<|Vr (.bool (d.op==7))<|Vm<|Bo a (λs a=>?_) λs a=>?_
 refine Gm s<|Gr s (.bool ((Cz n d.name)==0))<|Vp s<|Va (.bool ((Cz n d.name)==0))<|AA<|⟨_,u,((Cz n d.name)==0),Pu,a,Rf⟩
 refine Pg s<|Pg s<|Vp s<|Va (.bool false)<|AA<|⟨_,u,false,Pu,a,Rf⟩
 rintro _ ag ⟨q,r,ar,rfl,a,l⟩
 rw [GR] at a
 refine Cn a (λbr a=>?_) λbr a=>?_
 refine AM<|have bt:=Y3 am h g l;Vx (Ld Qn Z (Bc bt Z))<|Vx (Fd L2 Z)<|have bu:=Y2 p g l;Vx (Ld BC Z (Bc bu Z))<|have bv:=Y3 ad h g l;Bi a λau bw a=>Ca (TK (vs:=[I 32,I d.at_]) (caps:=[Pt ak 0]) Z Z) (KQ r ag bw dcd dcd bv (Al (x:=o))) ?_
 rintro _ c8 ⟨bx,c9,rfl,bz,b0,b1⟩
 obtain rfl:=Au b1
 refine AA ?_
 obtain rfl:=AK a
 refine NJ (B:=B) ae<|NI Z<|⟨bx,[I au.why,I au.at_],Z,Ho (T3 (Mo [5] h) g l bz) ab,b0,(Al (x:=au))⟩
 refine Am (λz av=>∃q ah aw,z=Env.puts q [(3,Pt aj 0),(5,Pt ao 0),(39,.bool aw)]/\HW d o aw=some al/\AU [] r ag ah av) ?_ ?_
 refine BZ C7 (qs 0 18 .nil) [] [] r (by kernel_rfl) λb2 w=>Qx c Z (λ_ _=>Fz Cp Z)<|have a3:=Y3 p g l w;Qx c Z (λ_ ⟨_,f⟩=>Ld GC Z (Bc (Bs a3 f) Z))<|Qx c Z (v:=.bool (d.op==7)) (λ_ _=>Z)<|Qx c Z (v:=.bool (d.op==7)) (λ_ _=>Mv Z)<|Bo a (λe a=>?_) λe a=>?_
 refine Qg c Z e (λ_ _=>Fz Dd Z)<|have b3:=Y4 bb h g l w;Qg c Z e (λ_ ⟨_,f⟩=>Ld Fr Z (Bc (Bs b3 f) Z))<|Qg c Z e (v:=I (Cz n d.name)) (λ_ _=>Mv Z)<|Qg c Z e (v:=I (Wr ((Cz n d.name) - 1))) (λ_ _=>Z)<|Bi a λaa b4 a=>have b5:=K4 AI a2 h g l w; ?_
 obtain ⟨b6,b7,da,b8,b9,ca,cb,cc,ax⟩:=A8 (κ:=AI) b5 b4
 replace ax:Ay r b2 b6 (b7+((Wr ((Cz n d.name) - 1))).toNat*11) b8:=ax
 obtain ⟨db,dc,rfl,a4,cd⟩:=CL cc
 obtain ⟨de,df,rfl⟩:=AW a4
 obtain ⟨dg,dh,rfl⟩:=AW cd
 refine Qg c Z e (λ_ _=>Ix FA b9 Z ca cb)<|Qg c Z e (λ_ _=>Fd De Z)<|Qg c Z e (λ_ ⟨_,f⟩=>Ld EF Z (Ay.cell (k:=1) (Es ax f) Z)) ?_
 obtain ⟨di,dj,cf⟩:=AW a4
 refine Qg c Z e (v:=I (aa.params.length:Int)) (λ_ _=>Ll Df cf)<|Qg c Z e (λ_ _=>Fd BR Z)<|Qg c Z e (λ_ ⟨_,f⟩=>Ld CR Z (Bc (Bs a3 f) Z))<|have cg:=K4 AG a1 h g l w; ?_
 obtain ⟨dk,dl,ch⟩:=AW cg
 refine Qg c Z e (v:=I (d.args.length:Int)) (λ_ _=>Ll CG ch)<|Qg c Z e (v:=.bool ((aa.params.length:Int) != (d.args.length:Int))) (λ_ _=>Z)<|Qx c Z (v:=.bool ((aa.params.length:Int) != (d.args.length:Int))) (λ_ _=>(Pk e))<|Qx c Z (v:=.bool ((aa.params.length:Int) != (d.args.length:Int))) (λ_ _=>Run.assign Z)<|CA<|⟨_,r,((aa.params.length:Int) != (d.args.length:Int)),Pu,a,(Mo [] w)⟩
 refine Qp c Z e<|Qp c Z e<|Qp c Z e<|Qp c Z e<|Qp c Z e<|Qp c Z e<|Qp c Z e<|Qp c Z e<|Qp c Z e<|Qp c Z e<|Qp c Z e<|Qp c Z e<|Qx c Z (v:=.bool false) (λ_ _=>(Pk e))<|Qx c Z (v:=.bool false) (λ_ _=>Run.assign Z)<|CA<|⟨_,r,false,Pu,a,(Mo [] w)⟩
 rintro _ av ⟨q,ah,aw,rfl,a,y⟩
 rw [HW] at a
 refine Cn a (λci a=>?_) λci a=>?_
 refine AM<|have cj:=Y4 am h g l y;Vx (Ld Qn Z (Bc cj Z))<|Vx (Fd L2 Z)<|have ck:=Y3 p g l y;Vx (Ld BC Z (Bc ck Z))<|have cl:=Y4 ad h g l y;Bi a λay cm a=>Ca (TK (vs:=[I 33,I d.at_]) (caps:=[Pt ak 0]) Z Z) (KQ ah av cm dcd dcd cl (Al (x:=o))) ?_
 rintro _ dm ⟨cn,dn,rfl,co,cq,cr⟩
 obtain rfl:=Au cr
 refine AA ?_
 obtain rfl:=AK a
 refine NJ (B:=B) ae<|NI Z<|⟨cn,[I ay.why,I ay.at_],Z,Ho (T4 (Mo [5] h) g l y co) ab,cq,(Al (x:=ay))⟩
 refine AR ?_
 obtain rfl:=AK a
 refine NJ (B:=B) ae<|NI Z<|have ct:=Y4 ad h g l y;⟨ah,[I o.why,I o.at_],Z,Ho (T3 (Mo [] h) g l y) ab,ct,(Al (x:=o))⟩
theorem RT:F7.Spec F7:=by
 intro h l a c d e f g af ag ah ai aj ak al am an ao ap aq ar au av n hnd hnz o p q r s m u w y
 refine Calls.mono (Qs (recol (see [a,c,d,e,f,g]) h) l (E9 (Nat.le_of_ble_eq_true Z) h) n trivial trivial (Bd AG o [a,c,d,e,f,g]) (F2 p [a,c,d,e,f,g] (BU hnd hnz (i:=0) Z)) (BY q [a,c,d,e,f,g] (BU hnd hnz (i:=1) Z)) (F2 r [a,c,d,e,f,g] (BU hnd hnz (i:=2) Z)) (BY s [a,c,d,e,f,g] (BU hnd hnz (i:=3) Z)) (BY m [a,c,d,e,f,g] (BU hnd hnz (i:=4) Z)) (Bd An u [a,c,d,e,f,g]) (BY w [a,c,d,e,f,g] (BU hnd hnz (i:=5) Z)) (Bd Bz y [a,c,d,e,f,g])) ?_
 rintro aw ax ⟨z,aa,ab,ac,ad,ae⟩
 exact ⟨glue [a,c,d,e,f,g] l h z,aa,ab,B8 ac (E4 Z Z),EJ m ad dcd,ED An ae⟩
def H0.At(c:Col)(a:World)(f:AE->Int->Option (List Bts)):Prop:=
 ∀{d e g h},f d g=some h->AG.rep c.F a e d->
  Calls PG 111 #[Ag e,I g] a λo l=>∃m n,o=.returned n/\AU [] c a m l/\Slc Kd.bts m.F l n h
def H0.Spec(f:AE->Int->Option (List Bts)):Prop:=
 ∀a c,H0.At a c f
theorem SH(p:Col)(ah:World)(q:∀b,p b<10):H0.At p ah H0:=by
 intro c a8 d ad a ai
 rw [H0] at a
 obtain ⟨ba,bb,rfl,aj⟩:=E1 (Ae ai)
 refine Az Tryz.func111 Z Tryz.ntmps111 Z λB r bc=>Sr<|Ef<|A0 p 20 Z Z λn ak ae l s=>Va (.slice none 0 0)<|AA<|AT<|Ah<|Am (λu w=>∃m g y,u=Env.puts m [(1,I d),(2,Pt ae 0),(5,.bool y)]/\KC c d y=some ad/\AU [] n ak g w) ?_ ?_
 refine Sr<|Vx (Fz Cp Z)<|Vx (Ld GC Z (Bc l Z))<|Vr (.bool (c.op==21))<|Va (.bool (c.op==21))<|AA<|Cn a (λal a=>?_) λal a=>?_
 refine AR<|⟨_,n,(c.op==21),Pu,a,Rf⟩
 refine AM<|Vx (Fz Cp Z)<|Vx (Ld GC Z (Bc l Z))<|Vr (.bool (c.op==22))<|Vm<|Bo a (λe a=>?_) λe a=>?_
 refine Gm e<|Gr e (.bool (d==1))<|Vp e<|Va (.bool (d==1))<|AA<|⟨_,n,(d==1),Pu,a,Rf⟩
 refine Pg e<|Pg e<|Vp e<|Va (.bool false)<|AA<|⟨_,n,false,Pu,a,Rf⟩
 rintro _ w ⟨m,g,y,rfl,a,h⟩
 rw [KC] at a
 refine Cn a (λam a=>?_) λam a=>?_
 refine Sr<|Vx (Fd DW Z)<|have an:=Bs l h;Vx (Ld B7 Z (Bc an Z))<|Ef<|Cj (cs:=[Sb c.name]) g 21 [[Sb c.name]] IT QB Z Z (.cons Z Z Z .nil) Z λao ap z aq ar=>have au:Own Kd.bts 9 ao ap 21 (.slice (some ⟨z,0,none⟩) 1 1) ([c.name]:List Bts):=Own.lit (css:=[[Sb c.name]]) aq Z Z Z (Ac Z BB) (A6 Z Ds) Z;Va (Sl (some ⟨z,0,none⟩) (([c.name]:List Bts)) 1)<|AA<|AS ?_
 obtain ⟨av,aw,ax⟩:=Own.freeze (S:=[21]) au dcd dcd
 obtain rfl:=AK a
 refine O1 B r Z (.tmp Z)<|⟨av,Sl (some ⟨z,0,none⟩) (([c.name]:List Bts)) 1,Z,Ho (T3 (Mo [21] s) h ar aw) q,ax⟩
 refine Am (λu af=>∃m o aa,u=Env.puts m [(2,Pt ae 0),(19,.bool aa)]/\K6 c aa=some ad/\AU [] g w o af) ?_ ?_
 refine AM<|Vx (Fz Cp Z)<|have ay:=Bs l h;Vx (Ld GC Z (Bc ay Z))<|Vr (.bool (c.op==20))<|Vm<|Bo a (λf a=>?_) λf a=>?_
 refine Gm f<|Gr f (.bool (d==2))<|Vp f<|Va (.bool (d==2))<|AA<|⟨_,g,(d==2),Pu,a,Rf⟩
 refine Pg f<|Pg f<|Vp f<|Va (.bool false)<|AA<|⟨_,g,false,Pu,a,Rf⟩
 rintro _ af ⟨m,o,aa,rfl,a,ab⟩
 rw [K6] at a
 refine Cn a (λaz a=>?_) λaz a=>?_
 refine Sr<|Vx (Fd DW Z)<|have ag:=Y2 l h ab;Vx (Ld B7 Z (Bc ag Z))<|Vx (Fd MW Z)<|Vx (Ld B7 Z (Bc ag Z))<|Ef<|Cj (cs:=[Sb c.name,Sb c.tail]) o 22 [[Sb c.name],[Sb c.tail]] IT QB Z Z (.cons Z Z Z (.cons Z Z Z .nil)) Z λa0 a1 ac a2 a3=>have a4:Own Kd.bts 9 a0 a1 22 (.slice (some ⟨ac,0,none⟩) 2 2) ([c.name,c.tail]:List Bts):=Own.lit (css:=[[Sb c.name],[Sb c.tail]]) a2 Z Z Z (Ac Z (Ac Z BB)) (A6 Z (A6 Z Ds)) Z;Va (Sl (some ⟨ac,0,none⟩) (([c.name,c.tail]:List Bts)) 2)<|AA<|AS ?_
 obtain ⟨a5,a6,a7⟩:=Own.freeze (S:=[22]) a4 dcd dcd
 obtain rfl:=AK a
 refine O1 B r Z (.tmp Z)<|⟨a5,Sl (some ⟨ac,0,none⟩) (([c.name,c.tail]:List Bts)) 2,Z,Ho (T4 (Mo [22] s) h ab a3 a6) q,a7⟩
 refine AR<|Sr<|Va (.slice none 0 0)<|AA<|AS ?_
 obtain rfl:=AK a
 refine O1 B r Z (.tmp Z)<|⟨o,.slice none 0 0,Z,Ho (T2 (Mo [] s) h ab) q,Ba⟩
theorem Te:H0.Spec H0:=lk0 (SH)
def scope_walk.At(G1 G2:Prop)(c:Col)(a:World)(f:AE->As->As->AF->AL->Option (As×AF))(g ae af ag h ah:Nat):Prop:=
 ∀{o p l q r s u w m y z aa ab ac n},f o q u y ab=some n->G1->G2->AG.rep c.F a p o->Mp c a g l q->Bk c a ae r [.map (some s)] 81->Mp c a af s u->Bk c a ag w [.func (.func 79) #[] [Pt m 0].toArray] 169->Bk c a h m z 63->An.rep c.F a z y->Bk c a ah aa ac 28->Bz.rep c.F a ac ab->
  Calls PG 80 #[Ag p,.map (some l),.func (.func 81) #[] [Pt r 0,Pt w 0,Pt aa 0].toArray] a λai d=>∃e ad,ai=.returned (.tuple #[])/\AU [g,h] c a e d/\Mp e d g l n.1/\Bk e d h m ad 63/\An.rep e.F d ad n.2
def scope_walk.Spec(f:AE->As->As->AF->AL->Option (As×AF)):Prop:=
 ∀l m {a c d e g h},scope_walk.At ([a,c,d,e,g,h].Nodup) (0∉[a,c,d,e,g,h]) l m f a c d e g h
structure A3.Good(a:A3):Prop where
 scope_walk:scope_walk.Spec a.scope_walk
theorem Tf(q:A3)(g:Nat)(cg:A3.Good q)(ba:Col)(ch:World)(ci:∀b,ba b<10):scope_walk.At True True ba ch (La q g) 1 2 3 4 5 6:=by
 intro a ep h cj ao eq af ap ck cl er aq r es ax d _ _ cm cn co cq cr ct cu cv cw
 rw [La] at d
 obtain ⟨u,w,rfl,bg⟩:=E1 (Ae cm)
 obtain rfl:=Au cu
 obtain ⟨ew,ex,rfl,bh⟩:=E1 (BQ cw)
 refine Az Tryz.func80 Z Tryz.ntmps80 Z λB cx ey=>?_
 refine Sr ?_
 refine Ef (A0 ba 20 Z Z λcy cz a6 bi ab=>?_)
 refine AA ?_
 refine Sr ?_
 refine Vx (v:=.func (.func 81) #[] [Pt ao 0,Pt ap 0,Pt aq 0].toArray) (Mv Z) ?_
 refine Vx (v:=Ag [I a.op,Sb a.name,Sb a.tail,I a.type_,Cx a.num,Sl u a.args w,I a.at_]) (Lx BA Z Z (Bw bi)) ?_
 refine Vx (v:=.map (some h)) (Mv Z) ?_
 have bj:=(Ss AG bg ab)
 have bk:=(Ms cn ab)
 have bl:=(Bs co ab)
 have bm:=(Ms cq ab)
 have bn:=(Bs cr ab)
 have c0:=(Bs ct ab)
 have bo:=(Bs cv ab)
 have bp:=(Ss AI bh ab)
 obtain ⟨bq,c1,d⟩:=bnd_sm d
 refine CQ (.none Z) Z Z (ABj (vs:=[Ag [I a.op,Sb a.name,Sb a.tail,I a.type_,Cx a.num,Sl u a.args w,I a.at_],.map (some h)]) (caps:=[Pt ao 0,Pt ap 0,Pt aq 0]) Z Z) ?_
 refine Calls.mono (RT cy cz c1 dcd dcd (AY (x:=a) bj) bk bl bm bn c0 (Al (x:=cl)) bo (BL (x:=r) bp)) ?_
 rintro _ c2 ⟨br,ez,rfl,ac,c3,c4⟩
 obtain rfl:=Au c4
 refine ⟨_,Z,?_⟩
 refine AA ?_
 refine Sr ?_
 refine Vx (v:=Pt a6 5) (Fd BR Z) ?_
 have bt:=(Bs bi ac)
 refine Vx (v:=Sl u a.args w) (Ld CR Z (Bc bt Z)) ?_
 have bu:=(Ss AG bj ac)
 obtain ⟨e0,e1,c5⟩:=AW bu
 refine Vx (v:=I (a.args.length:Int)) (Ll CG c5) ?_
 refine Vx (v:=I 0) (Mv Z) ?_
 refine AA ?_
 refine Ah ?_
 refine Bj (λag a2 a3=>∃ah ar e a4 m n,a2=Env.puts ah [(1,.map (some h)),(2,.func (.func 81) #[] [Pt ao 0,Pt ap 0,Pt aq 0].toArray),(3,Pt a6 0),(18,Sl u a.args w),(19,I (a.args.length:Int)),(20,I e)]/\Cs q g a af r ag e a4 m n=some ax/\AU [1,5,21] br c2 ar a3/\Mp ar a3 1 h a4/\Bk ar a3 5 ck [I m,I n] 63) g ?_ ?_
 have c6:=(Ms bk ac)
 exact ⟨_,br,0,cj,bq.why,bq.at_,Pu,d,(AU.refl [1,5,21] _ _),c6,c3⟩
 rintro ag _ a3 ⟨ah,ar,e,a4,m,n,rfl,d,ad,bv,bw⟩
 rcases ag with _|ag
 exact A5 d
 have d:Iz q g a af r (Cs q g a af r ag) e a4 m n=some ax:=d
 obtain ⟨ai,bx⟩:∃s,s=Cs q g a af r ag:=⟨_,rfl⟩
 rw [<-bx,Iz] at d
 refine Sr ?_
 refine Vr (.bool (decide (e< (a.args.length:Int)))) ?_
 refine AA ?_
 refine AT ?_
 refine Cn d (λc7 d=>?_) λc7 d=>?_
 refine AR ?_
 refine AT ?_
 refine Ah ?_
 refine Sr ?_
 refine Vx (v:=I e) (Mv Z) ?_
 obtain ⟨c,c8,d⟩:=bnd_sm d
 have bz:=(Ss AG bu ad)
 obtain ⟨b0,b1,e2,c9,da,db,dc,de,bb⟩:=A8 (κ:=AG) bz c8
 replace bb:Ay ar a3 b0 (b1+e.toNat*7) c9:=bb
 obtain ⟨au,av,rfl,b2⟩:=E1 (Ae de)
 refine Vx (v:=.pointer (some ⟨b0,b1+e.toNat*7,none⟩)) (Ix CG da Z db dc) ?_
 refine Vx (v:=Ag [I c.op,Sb c.name,Sb c.tail,I c.type_,Cx c.num,Sl au c.args av,I c.at_]) (Lx BA Z Z (Ay.part0 bb [I c.op,Sb c.name,Sb c.tail,I c.type_,Cx c.num,Sl au c.args av,I c.at_] Z)) ?_
 refine Ef (Aa ar 21 Dm Z λdf e4 dg dh o=>?_)
 refine Va (I e) ?_
 have di:=(Ss AG b2 o)
 refine Eu (St (vs:=[I c.op,Sb c.name,Sb c.tail,I c.type_,Cx c.num,Sl au c.args av,I c.at_]) (cs':=[I c.op,Sb c.name,Sb c.tail,I c.type_,Cx c.num,Sl au c.args av,I c.at_]) D7 dh Z Z Z Z λdj dk p=>?_)
 refine AA ?_
 refine Sr ?_
 have dl:=(Y3 bt ad o p)
 refine Vx (v:=Ag [I a.op,Sb a.name,Sb a.tail,I a.type_,Cx a.num,Sl u a.args w,I a.at_]) (Lx BA Z Z (Bw dl)) ?_
 refine Vx (v:=I e) (Mv Z) ?_
 have dm:=(K2 AG bz o p)
 obtain ⟨f,dn,d⟩:=bnd_sm d
 refine CQ (.none Z) Z Z (Cg [Ag [I a.op,Sb a.name,Sb a.tail,I a.type_,Cx a.num,Sl u a.args w,I a.at_],I e] Z) ?_
 refine Calls.mono (Te df dj dn (AY (x:=a) dm)) ?_
 rintro _ dp ⟨b3,e5,rfl,y,a7⟩
 obtain ⟨ay,az,rfl⟩:=AW a7
 refine ⟨_,Z,?_⟩
 refine Va (Sl ay f az) ?_
 refine AA ?_
 refine AT ?_
 refine Sr ?_
 refine Vx (v:=Sl ay f az) (Mv Z) ?_
 obtain ⟨e6,e7,dq⟩:=AW a7
 refine Vx (v:=I (f.length:Int)) (Ll IT dq) ?_
 refine Vx (v:=I 0) (Mv Z) ?_
 refine AA ?_
 refine Ah ?_
 refine Bj (λaj a2 a5=>∃ah a0 z ak,a2=Env.puts ah [(1,.map (some h)),(2,.func (.func 81) #[] [Pt ao 0,Pt ap 0,Pt aq 0].toArray),(3,Pt a6 0),(7,Pt dg 0),(8,Sl ay f az),(18,Sl u a.args w),(19,I (a.args.length:Int)),(20,I e),(28,Sl ay f az),(29,I (f.length:Int)),(30,I z)]/\Ih q g af r e m n ai c f aj z ak=some ax/\AU [1] b3 dp a0 a5/\Mp a0 a5 1 h ak) g ?_ ?_
 have dr:=(Ms (Ms (Ms bv o) p) y)
 exact ⟨_,b3,0,a4,Pu,d,(AU.refl [1] _ _),dr⟩
 rintro aj _ a5 ⟨ah,a0,z,ak,rfl,d,l,bc⟩
 rcases aj with _|aj
 exact A5 d
 have d:Iy q g af r e m n ai c f (Ih q g af r e m n ai c f aj) z ak=some ax:=d
 obtain ⟨e8,b4⟩:∃s,s=Ih q g af r e m n ai c f aj:=⟨_,rfl⟩
 rw [<-b4,Iy] at d
 refine Sr ?_
 refine Vr (.bool (decide (z< (f.length:Int)))) ?_
 refine AA ?_
 refine AT ?_
 refine Cn d (λds d=>?_) λds d=>?_
 refine AR ?_
 refine AT ?_
 refine Ah ?_
 refine Sr ?_
 obtain ⟨al,dt,d⟩:=bnd_sm d
 have du:=(Ss Kd.bts a7 l)
 obtain ⟨b5,b6,e9,b7,dv,dw,dx,dy,bd⟩:=A8 (κ:=Kd.bts) du dt
 replace bd:Ay a0 a5 b5 (b6+z.toNat*1) b7:=bd
 obtain rfl:=(show b7=[Sb al] from dy)
 refine Vx (v:=.pointer (some ⟨b5,b6+z.toNat*1,none⟩)) (Ix IT dv Z dw dx) ?_
 refine Vx (v:=Sb al) (Ld B7 Z (Ay.cell0 bd Z)) ?_
 refine Va (Sb al) ?_
 refine AA ?_
 refine AM ?_
 refine Vx (v:=.map (some h)) (Mv Z) ?_
 refine Vx (v:=Sb al) (Mv Z) ?_
 refine Vx (v:=I (Cz ak al)) (KU Ln Z Z bc) ?_
 refine Vr (I (Wr ((Cz ak al)+1))) ?_
 refine Eu (Kn Ln Z Z Z bc λfa dz d0=>?_)
 refine AA ?_
 refine AM ?_
 refine Vr (I (Wr (z+1))) ?_
 refine Vx (v:=I (Wr (z+1))) (Mv Z) ?_
 refine AA ?_
 exact ⟨aj,Nat.lt_succ_self aj,_,a0,(Wr (z+1)),(Mc al (Wr ((Cz ak al)+1)) ak),Pu,(b4▸d),(Tn (Mo [1] l) d0),dz⟩
 refine BX ?_
 refine Sr ?_
 have d1:=(Y2 dk y l)
 refine Vx (v:=Ag [I c.op,Sb c.name,Sb c.tail,I c.type_,Cx c.num,Sl au c.args av,I c.at_]) (Lx BA Z Z (Bw d1)) ?_
 refine Vx (v:=.map (some h)) (Mv Z) ?_
 refine Vx (v:=.func (.func 81) #[] [Pt ao 0,Pt ap 0,Pt aq 0].toArray) (Mv Z) ?_
 have d2:=(K3 AG di p y l)
 have d3:=(Y2 (Y4 bl ac ad o p) y l)
 have d4:=(Ms (Ms (Ms (Ms (Ms (Ms bm ac) ad) o) p) y) l)
 have d5:=(Y2 (Y4 bn ac ad o p) y l)
 have d6:=(Y4 bw o p y l)
 have d7:=(Y2 (Y4 bo ac ad o p) y l)
 have d8:=(K2 AI (K4 AI bp ac ad o p) y l)
 obtain ⟨aw,d9,d⟩:=bnd_sm d
 refine CQ (.none Z) Z Z (Cg [Ag [I c.op,Sb c.name,Sb c.tail,I c.type_,Cx c.num,Sl au c.args av,I c.at_],.map (some h),.func (.func 81) #[] [Pt ao 0,Pt ap 0,Pt aq 0].toArray] Z) ?_
 refine Calls.mono (cg.scope_walk a0 a5 d9 dcd dcd (AY (x:=c) d2) bc d3 d4 d5 d6 (Al (x:=(AF.mk m n))) d7 (BL (x:=r) d8)) ?_
 rintro _ ea ⟨b8,fb,rfl,b9,eb,ec,ed⟩
 obtain rfl:=Au ed
 refine ⟨_,Z,?_⟩
 refine AA ?_
 refine Sr ?_
 refine Vx (v:=Sl ay f az) (Mv Z) ?_
 have ca:=(K2 Kd.bts a7 l b9)
 obtain ⟨fc,fd,ee⟩:=AW ca
 refine Vx (v:=I (f.length:Int)) (Ll IT ee) ?_
 refine Vx (v:=I 0) (Mv Z) ?_
 refine AA ?_
 refine Ah ?_
 refine Bj (λam a2 a8=>∃ah a1 aa ae,a2=Env.puts ah [(1,.map (some h)),(2,.func (.func 81) #[] [Pt ao 0,Pt ap 0,Pt aq 0].toArray),(3,Pt a6 0),(18,Sl u a.args w),(19,I (a.args.length:Int)),(20,I e),(43,Sl ay f az),(44,I (f.length:Int)),(45,I aa)]/\Ig e ai f aw am aa ae=some ax/\AU [1] b8 ea a1 a8/\Mp a1 a8 1 h ae) g ?_ ?_
 exact ⟨_,b8,0,aw.1,Pu,d,(AU.refl [1] _ _),eb⟩
 rintro am _ a8 ⟨ah,a1,aa,ae,rfl,d,a9,be⟩
 rcases am with _|am
 exact A5 d
 have d:Iw e ai f aw (Ig e ai f aw am) aa ae=some ax:=d
 obtain ⟨fe,cb⟩:∃s,s=Ig e ai f aw am:=⟨_,rfl⟩
 rw [<-cb,Iw] at d
 refine Sr ?_
 refine Vr (.bool (decide (aa< (f.length:Int)))) ?_
 refine AA ?_
 refine AT ?_
 refine Cn d (λef d=>?_) λef d=>?_
 refine AR ?_
 refine AT ?_
 refine Ah ?_
 refine Sr ?_
 obtain ⟨an,eg,d⟩:=bnd_sm d
 have eh:=(Ss Kd.bts ca a9)
 obtain ⟨cc,cd,ff,cf,ei,ej,ek,el,bf⟩:=A8 (κ:=Kd.bts) eh eg
 replace bf:Ay a1 a8 cc (cd+aa.toNat*1) cf:=bf
 obtain rfl:=(show cf=[Sb an] from el)
 refine Vx (v:=.pointer (some ⟨cc,cd+aa.toNat*1,none⟩)) (Ix IT ei Z ej ek) ?_
 refine Vx (v:=Sb an) (Ld B7 Z (Ay.cell0 bf Z)) ?_
 refine Va (Sb an) ?_
 refine AA ?_
 refine AM ?_
 refine Vx (v:=.map (some h)) (Mv Z) ?_
 refine Vx (v:=Sb an) (Mv Z) ?_
 refine Vx (v:=I (Cz ae an)) (KU Ln Z Z be) ?_
 refine Vr (I (Wr ((Cz ae an) - 1))) ?_
 refine Eu (Kn Ln Z Z Z be λfg em en=>?_)
 refine AA ?_
 refine AM ?_
 refine Vr (I (Wr (aa+1))) ?_
 refine Vx (v:=I (Wr (aa+1))) (Mv Z) ?_
 refine AA ?_
 exact ⟨am,Nat.lt_succ_self am,_,a1,(Wr (aa+1)),(Mc an (Wr ((Cz ae an) - 1)) ae),Pu,(cb▸d),(Tn (Mo [1] a9) en),em⟩
 refine BX ?_
 refine AM ?_
 refine Vr (I (Wr (e+1))) ?_
 refine Vx (v:=I (Wr (e+1))) (Mv Z) ?_
 refine AA ?_
 have eo:=(Bs ec a9)
 exact ⟨ag,Nat.lt_succ_self ag,_,a1,(Wr (e+1)),ae,aw.2.why,aw.2.at_,Pu,(bx▸d),(T2 (T4 (Mo [1,5,21] ad) o p y l) b9 a9),be,eo⟩
 refine BX ?_
 obtain rfl:=AK d
 refine NJ (B:=B) cx (NI Z ?_)
 exact ⟨ar,[I m,I n],Z,Ho (T2 (Mo [1,5,21] ab) ac ad) ci,bv,bw,(Al (x:=(AF.mk m n)))⟩
theorem Ti(h:A3)(m:Nat)(q:A3.Good h):scope_walk.Spec (La h m):=by
 intro l n a c d e f g aj ak al am an ao ap aq ar au av aw ax ay az r hnd hnz s o u w y p z aa ab
 refine Calls.mono (Tf h m q (recol (see [a,c,d,e,f,g]) l) n (E9 (Nat.le_of_ble_eq_true Z) l) r trivial trivial (Bd AG s [a,c,d,e,f,g]) (F2 o [a,c,d,e,f,g] (BU hnd hnz (i:=0) Z)) (BY u [a,c,d,e,f,g] (BU hnd hnz (i:=1) Z)) (F2 w [a,c,d,e,f,g] (BU hnd hnz (i:=2) Z)) (BY y [a,c,d,e,f,g] (BU hnd hnz (i:=3) Z)) (BY p [a,c,d,e,f,g] (BU hnd hnz (i:=4) Z)) (Bd An z [a,c,d,e,f,g]) (BY aa [a,c,d,e,f,g] (BU hnd hnz (i:=5) Z)) (Bd Bz ab [a,c,d,e,f,g])) ?_
 rintro a0 a1 ⟨ac,ad,ae,af,ag,ah,ai⟩
 exact ⟨glue [a,c,d,e,f,g] n l ac,ad,ae,B8 af (E4 Z Z),Vq o ag dcd,EJ p ah dcd,ED An ai⟩
theorem A3.good:∀a,A3.Good (A3.at a)
 |0=>⟨by intro c d;intros;(try intro _);intros;exact A5 (by assumption)⟩
 |n+1=>⟨Ti _ n (A3.good n)⟩
theorem Um(a:Nat):scope_walk.Spec (scope_walk a):=(A3.good a).scope_walk
def Ii.At(c:Col)(a:World)(f:AL->Option AF):Prop:=
 ∀{d e g},f d=some g->Bz.rep c.F a e d->
  Calls PG 50 #[Ag e] a λn h=>∃l m,n=.returned (Ag m)/\AU [] c a l h/\An.rep l.F h m g
def Ii.Spec(f:AL->Option AF):Prop:=
 ∀a c,Ii.At a c f
theorem SI(h:Nat)(bw:Col)(di:World)(dj:∀b,bw b<10):Ii.At bw di (Ii h):=by
 intro e gb aj c dk
 rw [Ii] at c
 obtain ⟨ar,au,rfl,cf⟩:=E1 (BQ dk)
 refine Az Tryz.func50 Z Tryz.ntmps50 Z λB dl gd=>?_
 refine Sr ?_
 refine Ef (A0 bw 20 Z Z λdm ge aa dn cg=>?_)
 refine Ef (Aa dm 21 FR Z λdp gf bb dq bx=>?_)
 refine AA ?_
 refine Sr ?_
 refine Ef (Aa dp 22 FR Z λdr gg g ds bf=>?_)
 refine AA ?_
 refine Sr ?_
 refine Vx (v:=.func (.func 79) #[] [Pt g 0].toArray) (IZ (vs:=[Pt g 0]) Z) ?_
 refine Ef (Aa dr 23 AAv Z λdt gh ak du bc=>?_)
 refine Eu (St (vs:=[.func (.func 79) #[] [Pt g 0].toArray]) (cs':=[.func (.func 79) #[] [Pt g 0].toArray]) AAk du Z Z Z Z λgi bz bd=>?_)
 refine AA ?_
 refine Sr ?_
 refine Ef (Nb dt 24 λdv gj a6 dw al=>?_)
 refine Ef (Aa dv 25 AB1 Z λch gk am dx ad=>?_)
 refine Eu (St (vs:=[.map (some a6)]) (cs':=[.map (some a6)]) ABt dx Z Z Z Z λdy ci ae=>?_)
 refine AA ?_
 refine AT ?_
 refine Sr ?_
 refine Vx (v:=Pt aa 0) (Fz Dd Z) ?_
 have cj:=(Y3 (Y4 dn bx bf bc bd) al ad ae)
 refine Vx (v:=Sl ar e.funcs au) (Ld Fr Z (Bc cj Z)) ?_
 have b0:=(K4 AI (K4 AI cf cg bx bf bc) bd al ad ae)
 obtain ⟨gl,gm,dz⟩:=AW b0
 refine Vx (v:=I (e.funcs.length:Int)) (Ll FA dz) ?_
 refine Vx (v:=I 0) (Mv Z) ?_
 refine AA ?_
 refine Ah ?_
 refine Bj (λan af av=>∃o ag l aw ax m,af=Env.puts o [(1,Pt aa 0),(2,Pt bb 0),(3,Pt g 0),(4,Pt ak 0),(5,Pt am 0),(16,Sl ar e.funcs au),(17,I (e.funcs.length:Int)),(18,I l)]/\H1 h e an l aw ax m=some aj/\AU [22,24,26] ch dy ag av/\Bk ag av 22 g [I aw,I ax] 63/\Mp ag av 24 a6 m) h ?_ ?_
 have d0:=(Bs (Y4 ds bc bd al ad) ae)
 have d1:=(Ms (Ms dw ad) ae)
 exact ⟨_,ch,0,0,0,([]:As),Pu,c,(AU.refl [22,24,26] _ _),d0,d1⟩
 rintro an _ av ⟨o,ag,l,aw,ax,m,rfl,c,u,b1,ck⟩
 rcases an with _|an
 exact A5 c
 have c:II h e (H1 h e an) l aw ax m=some aj:=c
 obtain ⟨d2,cl⟩:∃s,s=H1 h e an:=⟨_,rfl⟩
 rw [<-cl,II] at c
 refine Sr ?_
 refine Vr (.bool (decide (l< (e.funcs.length:Int)))) ?_
 refine AA ?_
 refine AT ?_
 refine Cn c (λd3 c=>?_) λd3 c=>?_
 refine AR ?_
 refine Am (λaf bg=>∃o be bh bi bj,af=Env.puts o [(1,Pt aa 0),(2,Pt bb 0),(3,Pt g 0),(4,Pt ak 0),(5,Pt am 0),(16,Sl ar e.funcs au),(17,I (e.funcs.length:Int)),(18,I l)]/\KD l d2 bh bi bj=some aj/\AU [22,24,26] ag av be bg/\Bk be bg 22 g [I bh,I bi] 63/\Mp be bg 24 a6 bj) ?_ ?_
 refine Ah ?_
 refine Sr ?_
 refine Vx (v:=I l) (Mv Z) ?_
 obtain ⟨d,d4,c⟩:=bnd_sm c
 have d5:=(Ss AI b0 u)
 obtain ⟨cm,cn,gn,d6,d7,d8,d9,ea,b2⟩:=A8 (κ:=AI) d5 d4
 replace b2:Ay ag av cm (cn+l.toNat*11) d6:=b2
 obtain ⟨go,gp,rfl,co,cq⟩:=CL ea
 obtain ⟨bk,bl,rfl⟩:=AW co
 obtain ⟨bm,bn,rfl⟩:=AW cq
 refine Vx (v:=.pointer (some ⟨cm,cn+l.toNat*11,none⟩)) (Ix FA d7 Z d8 d9) ?_
 refine Vx (v:=Ag [Sb d.name,Sl bk d.params bl,I d.type_,I d.body.op,Sb d.body.name,Sb d.body.tail,I d.body.type_,Cx d.body.num,Sl bm d.body.args bn,I d.body.at_,I d.at_]) (Lx Lm Z Z (Ay.part0 b2 [Sb d.name,Sl bk d.params bl,I d.type_,I d.body.op,Sb d.body.name,Sb d.body.tail,I d.body.type_,Cx d.body.num,Sl bm d.body.args bn,I d.body.at_,I d.at_] Z)) ?_
 refine Ef (Aa ag 26 KZ Z λcr gq b3 eb ah=>?_)
 refine Va (I l) ?_
 have gr:=(Ss AZ co ah)
 have gs:=(Ss AG cq ah)
 refine Eu (St (vs:=[Sb d.name,Sl bk d.params bl,I d.type_,I d.body.op,Sb d.body.name,Sb d.body.tail,I d.body.type_,Cx d.body.num,Sl bm d.body.args bn,I d.body.at_,I d.at_]) (cs':=[Sb d.name,Sl bk d.params bl,I d.type_,I d.body.op,Sb d.body.name,Sb d.body.tail,I d.body.type_,Cx d.body.num,Sl bm d.body.args bn,I d.body.at_,I d.at_]) LP eb Z Z Z Z λec b4 ay=>?_)
 refine AA ?_
 refine Sr ?_
 have ct:=(Y3 ci u ah ay)
 refine Vx (v:=.map (some a6)) (Ld PL Z (Bc ct Z)) ?_
 refine Vx (v:=Pt b3 0) (Fz MX Z) ?_
 refine Vx (v:=Sb d.name) (Ld B7 Z (Bc b4 Z)) ?_
 have b5:=(Ms (Ms ck ah) ay)
 refine Vx (v:=I (Cz m d.name)) (KU Ln Z Z b5) ?_
 refine Vr (.bool (decide ((Cz m d.name)>0))) ?_
 refine AA ?_
 refine Cn c (λed c=>?_) λed c=>?_
 refine AM ?_
 have ee:=(Y2 (Y4 bz al ad ae u) ah ay)
 refine Vx (v:=.func (.func 79) #[] [Pt g 0].toArray) (Ld Qn Z (Bc ee Z)) ?_
 refine Vx (v:=Pt b3 10) (Fd Qk Z) ?_
 refine Vx (v:=I d.at_) (Ld BC Z (Bc b4 Z)) ?_
 have ef:=(Y2 b1 ah ay)
 obtain ⟨cu,eg,c⟩:=bnd_sm c
 refine CQ (.none Z) Z Z (TK (vs:=[I 30,I d.at_]) (caps:=[Pt g 0]) Z Z) ?_
 refine Calls.mono (KQ cr ec eg dcd dcd ef (Al (x:=(AF.mk aw ax)))) ?_
 rintro _ gt ⟨eh,gu,rfl,cv,ei,ej⟩
 obtain rfl:=Au ej
 refine ⟨_,Z,?_⟩
 refine AA ?_
 have ek:=(Ms b5 cv)
 exact ⟨_,eh,cu.why,cu.at_,m,Pu,c,(T2 (Mo [22,24,26] ah) ay cv),ei,ek⟩
 refine AM ?_
 refine Vx (v:=.map (some a6)) (Ld PL Z (Bc ct Z)) ?_
 refine Vx (v:=Pt b3 0) (Fz MX Z) ?_
 refine Vx (v:=Sb d.name) (Ld B7 Z (Bc b4 Z)) ?_
 refine Vx (v:=I l) (Mv Z) ?_
 refine Vr (I (Wr (l+1))) ?_
 refine Eu (Kn Ln Z Z Z b5 λgv el cw=>?_)
 refine AA ?_
 have em:=(Y3 b1 ah ay cw)
 exact ⟨_,cr,aw,ax,(Mc d.name (Wr (l+1)) m),Pu,c,(T2 (Mo [22,24,26] ah) ay cw),em,el⟩
 rintro _ bg ⟨o,be,bh,bi,bj,rfl,c,en,eo,ep⟩
 rw [KD] at c
 refine AM ?_
 refine Vr (I (Wr (l+1))) ?_
 refine Vx (v:=I (Wr (l+1))) (Mv Z) ?_
 refine AA ?_
 exact ⟨an,Nat.lt_succ_self an,_,be,(Wr (l+1)),bh,bi,bj,Pu,(cl▸c),(Tn (Mo [22,24,26] u) en),eo,ep⟩
 refine BX ?_
 refine AT ?_
 refine Sr ?_
 refine Vx (v:=Pt aa 0) (Fz Dd Z) ?_
 have cx:=(Bs cj u)
 refine Vx (v:=Sl ar e.funcs au) (Ld Fr Z (Bc cx Z)) ?_
 have cy:=(Ss AI b0 u)
 obtain ⟨gw,gx,eq⟩:=AW cy
 refine Vx (v:=I (e.funcs.length:Int)) (Ll FA eq) ?_
 refine Vx (v:=I 0) (Mv Z) ?_
 refine AA ?_
 refine Ah ?_
 refine Bj (λao af bo=>∃o a7 n p q,af=Env.puts o [(1,Pt aa 0),(2,Pt bb 0),(3,Pt g 0),(4,Pt ak 0),(5,Pt am 0),(39,Sl ar e.funcs au),(40,I (e.funcs.length:Int)),(41,I n)]/\DJ h e m ao n p q=some aj/\AU [22,27,28,29] ag av a7 bo/\Bk a7 bo 22 g [I p,I q] 63) h ?_ ?_
 exact ⟨_,ag,0,aw,ax,Pu,c,(AU.refl [22,27,28,29] _ _),b1⟩
 rintro ao _ bo ⟨o,a7,n,p,q,rfl,c,ai,cz⟩
 rcases ao with _|ao
 exact A5 c
 have c:IH h e m (DJ h e m ao) n p q=some aj:=c
 obtain ⟨bp,c0⟩:∃s,s=DJ h e m ao:=⟨_,rfl⟩
 rw [<-c0,IH] at c
 refine Sr ?_
 refine Vr (.bool (decide (n< (e.funcs.length:Int)))) ?_
 refine AA ?_
 refine AT ?_
 refine Cn c (λer c=>?_) λer c=>?_
 refine AR ?_
 refine AT ?_
 refine Ah ?_
 refine Sr ?_
 obtain ⟨a,es,c⟩:=bnd_sm c
 have c1:=(Ss AI cy ai)
 obtain ⟨c2,c3,gy,et,eu,ew,ex,ey,b6⟩:=A8 (κ:=AI) c1 es
 replace b6:Ay a7 bo c2 (c3+n.toNat*11) et:=b6
 obtain ⟨gz,g0,rfl,c4,c5⟩:=CL ey
 obtain ⟨az,a0,rfl⟩:=AW c4
 obtain ⟨a1,a2,rfl⟩:=AW c5
 refine Vx (v:=.pointer (some ⟨c2,c3+n.toNat*11,none⟩)) (Ix FA eu Z ew ex) ?_
 refine Vx (v:=Ag [Sb a.name,Sl az a.params a0,I a.type_,I a.body.op,Sb a.body.name,Sb a.body.tail,I a.body.type_,Cx a.body.num,Sl a1 a.body.args a2,I a.body.at_,I a.at_]) (Lx Lm Z Z (Ay.part0 b6 [Sb a.name,Sl az a.params a0,I a.type_,I a.body.op,Sb a.body.name,Sb a.body.tail,I a.body.type_,Cx a.body.num,Sl a1 a.body.args a2,I a.body.at_,I a.at_] Z)) ?_
 refine Ef (Aa a7 27 KZ Z λez g1 bq e0 ab=>?_)
 have e1:=(Ss AZ c4 ab)
 have e2:=(Ss AG c5 ab)
 refine Eu (St (vs:=[Sb a.name,Sl az a.params a0,I a.type_,I a.body.op,Sb a.body.name,Sb a.body.tail,I a.body.type_,Cx a.body.num,Sl a1 a.body.args a2,I a.body.at_,I a.at_]) (cs':=[Sb a.name,Sl az a.params a0,I a.type_,I a.body.op,Sb a.body.name,Sb a.body.tail,I a.body.type_,Cx a.body.num,Sl a1 a.body.args a2,I a.body.at_,I a.at_]) LP e0 Z Z Z Z λg2 e3 ac=>?_)
 refine AA ?_
 refine Sr ?_
 refine Ef (Nb ez 28 λc6 e4 ap e5 w=>?_)
 refine Va (.map (some ap)) ?_
 refine AA ?_
 refine AT ?_
 refine Sr ?_
 refine Vx (v:=Pt bq 1) (Fd De Z) ?_
 have c7:=(Bs e3 w)
 refine Vx (v:=Sl az a.params a0) (Ld EF Z (Bc c7 Z)) ?_
 have c8:=(K2 AZ e1 ac w)
 obtain ⟨g3,g4,e6⟩:=AW c8
 refine Vx (v:=I (a.params.length:Int)) (Ll Df e6) ?_
 refine Vx (v:=I 0) (Mv Z) ?_
 refine AA ?_
 refine Ah ?_
 refine Bj (λaq af a8=>∃o a3 r a4 a5 y,af=Env.puts o [(1,Pt aa 0),(2,Pt bb 0),(3,Pt g 0),(4,Pt ak 0),(5,Pt am 0),(9,Pt bq 0),(10,.map (some ap)),(39,Sl ar e.funcs au),(40,I (e.funcs.length:Int)),(41,I n),(47,Sl az a.params a0),(48,I (a.params.length:Int)),(49,I r)]/\F8 h e m n bp a aq r a4 a5 y=some aj/\AU [22,28,29] c6 e4 a3 a8/\Bk a3 a8 22 g [I a4,I a5] 63/\Mp a3 a8 28 ap y) h ?_ ?_
 have e7:=(Y3 cz ab ac w)
 exact ⟨_,c6,0,p,q,([]:As),Pu,c,(AU.refl [22,28,29] _ _),e7,e5⟩
 rintro aq _ a8 ⟨o,a3,r,a4,a5,y,rfl,c,z,b7,b8⟩
 rcases aq with _|aq
 exact A5 c
 have c:GD h e m n bp a (F8 h e m n bp a aq) r a4 a5 y=some aj:=c
 obtain ⟨e8,c9⟩:∃s,s=F8 h e m n bp a aq:=⟨_,rfl⟩
 rw [<-c9,GD] at c
 refine Sr ?_
 refine Vr (.bool (decide (r< (a.params.length:Int)))) ?_
 refine AA ?_
 refine AT ?_
 refine Cn c (λe9 c=>?_) λe9 c=>?_
 refine AR ?_
 refine AT ?_
 refine Ah ?_
 refine Sr ?_
 obtain ⟨f,fa,c⟩:=bnd_sm c
 have fb:=(Ss AZ c8 z)
 obtain ⟨da,db,g5,fc,fd,fe,ff,fg,b9⟩:=A8 (κ:=AZ) fb fa
 replace b9:Ay a3 a8 da (db+r.toNat*3) fc:=b9
 obtain rfl:=EK fg
 refine Vx (v:=.pointer (some ⟨da,db+r.toNat*3,none⟩)) (Ix Df fd Z fe ff) ?_
 refine Vx (v:=Ag [Sb f.name,I f.type_,I f.at_]) (Lx TJ Z Z (Ay.part0 b9 [Sb f.name,I f.type_,I f.at_] Z)) ?_
 refine Ef (Aa a3 29 Lo Z λca g6 br fh a9=>?_)
 refine Eu (St (vs:=[Sb f.name,I f.type_,I f.at_]) (cs':=[Sb f.name,I f.type_,I f.at_]) TQ fh Z Z Z Z λdc cb ba=>?_)
 refine AA ?_
 refine Am (λaf cc=>∃o bt bu bv,af=Env.puts o [(1,Pt aa 0),(2,Pt bb 0),(3,Pt g 0),(4,Pt ak 0),(5,Pt am 0),(9,Pt bq 0),(10,.map (some ap)),(12,Pt br 0),(39,Sl ar e.funcs au),(40,I (e.funcs.length:Int)),(41,I n),(47,Sl az a.params a0),(48,I (a.params.length:Int)),(49,I r)]/\KE r y e8 f bu bv=some aj/\AU [22] ca dc bt cc/\Bk bt cc 22 g [I bu,I bv] 63) ?_ ?_
 refine Sr ?_
 refine Vx (v:=.map (some ap)) (Mv Z) ?_
 refine Vx (v:=Pt br 0) (Fz Kl Z) ?_
 refine Vx (v:=Sb f.name) (Ld B7 Z (Bc cb Z)) ?_
 have fi:=(Ms (Ms b8 a9) ba)
 refine Vx (v:=I (Cz y f.name)) (KU Ln Z Z fi) ?_
 refine Vr (.bool (decide ((Cz y f.name)>0))) ?_
 refine AA ?_
 refine Cn c (λfj c=>?_) λfj c=>?_
 refine AM ?_
 have fk:=(Y3 (Y4 (Y4 bz al ad ae u) ai ab ac w) z a9 ba)
 refine Vx (v:=.func (.func 79) #[] [Pt g 0].toArray) (Ld Qn Z (Bc fk Z)) ?_
 refine Vx (v:=Pt br 2) (Fd Qm Z) ?_
 refine Vx (v:=I f.at_) (Ld BC Z (Bc cb Z)) ?_
 have fl:=(Y2 b7 a9 ba)
 obtain ⟨de,fm,c⟩:=bnd_sm c
 refine CQ (.none Z) Z Z (TK (vs:=[I 30,I f.at_]) (caps:=[Pt g 0]) Z Z) ?_
 refine Calls.mono (KQ ca dc fm dcd dcd fl (Al (x:=(AF.mk a4 a5)))) ?_
 rintro _ g7 ⟨fn,g8,rfl,fo,fp,fq⟩
 obtain rfl:=Au fq
 refine ⟨_,Z,?_⟩
 refine AA ?_
 exact ⟨_,fn,de.why,de.at_,Pu,c,(Mo [22] fo),fp⟩
 refine AR ?_
 have fr:=(Y2 b7 a9 ba)
 exact ⟨_,ca,a4,a5,Pu,c,(AU.refl [22] _ _),fr⟩
 rintro _ cc ⟨o,bt,bu,bv,rfl,c,cd,fs⟩
 rw [KE] at c
 refine AM ?_
 refine Vx (v:=.map (some ap)) (Mv Z) ?_
 refine Vx (v:=Pt br 0) (Fz Kl Z) ?_
 have ft:=(Bs cb cd)
 refine Vx (v:=Sb f.name) (Ld B7 Z (Bc ft Z)) ?_
 have df:=(Ms (Ms (Ms b8 a9) ba) cd)
 refine Vx (v:=I (Cz y f.name)) (KU Ln Z Z df) ?_
 refine Vr (I (Wr ((Cz y f.name)+1))) ?_
 refine Eu (Kn Ln Z Z Z df λg9 fu dg=>?_)
 refine AA ?_
 refine AM ?_
 refine Vr (I (Wr (r+1))) ?_
 refine Vx (v:=I (Wr (r+1))) (Mv Z) ?_
 refine AA ?_
 have fv:=(Bs fs dg)
 exact ⟨aq,Nat.lt_succ_self aq,_,bt,(Wr (r+1)),bu,bv,(Mc f.name (Wr ((Cz y f.name)+1)) y),Pu,(c9▸c),(T4 (Mo [22,28,29] z) a9 ba cd dg),fv,fu⟩
 refine BX ?_
 refine AM ?_
 refine Vx (v:=Pt bq 3) (Fd LO Z) ?_
 have fw:=(Bs c7 z)
 refine Vx (v:=Ag [I a.body.op,Sb a.body.name,Sb a.body.tail,I a.body.type_,Cx a.body.num,Sl a1 a.body.args a2,I a.body.at_]) (Lx BA Z Z (Bk.part fw 3 [I a.body.op,Sb a.body.name,Sb a.body.tail,I a.body.type_,Cx a.body.num,Sl a1 a.body.args a2,I a.body.at_] Z)) ?_
 refine Vx (v:=.map (some ap)) (Mv Z) ?_
 refine Vx (v:=.func (.func 81) #[] [Pt am 0,Pt ak 0,Pt aa 0].toArray) (IZ (vs:=[Pt am 0,Pt ak 0,Pt aa 0]) Z) ?_
 have fx:=(K3 AG e2 ac w z)
 have fy:=(Y2 (Y4 ci u ai ab ac) w z)
 have fz:=(Ms (Ms (Ms (Ms (Ms ck ai) ab) ac) w) z)
 have f0:=(Bs (Y4 (Y4 bz al ad ae u) ai ab ac w) z)
 have f1:=(Bs (Y4 cx ai ab ac w) z)
 have f2:=(K4 AI c1 ab ac w z)
 obtain ⟨dh,f3,c⟩:=bnd_sm c
 refine CQ (.none Z) Z Z (Cg [Ag [I a.body.op,Sb a.body.name,Sb a.body.tail,I a.body.type_,Cx a.body.num,Sl a1 a.body.args a2,I a.body.at_],.map (some ap),.func (.func 81) #[] [Pt am 0,Pt ak 0,Pt aa 0].toArray] Z) ?_
 refine Calls.mono (Um h a3 a8 f3 dcd dcd (AY (x:=(AE.mk a.body.op a.body.name a.body.tail a.body.type_ a.body.num a.body.args a.body.at_)) fx) b8 fy fz f0 b7 (Al (x:=(AF.mk a4 a5))) f1 (BL (x:=e) f2)) ?_
 rintro _ ha ⟨f4,hb,rfl,f5,hc,f6,f7⟩
 obtain rfl:=Au f7
 refine ⟨_,Z,?_⟩
 refine AA ?_
 refine AM ?_
 refine Vr (I (Wr (n+1))) ?_
 refine Vx (v:=I (Wr (n+1))) (Mv Z) ?_
 refine AA ?_
 exact ⟨ao,Nat.lt_succ_self ao,_,f4,(Wr (n+1)),dh.2.why,dh.2.at_,Pu,(c0▸c),(Tn (T4 (Mo [22,27,28,29] ai) ab ac w z) f5),f6⟩
 refine BX ?_
 refine Sr ?_
 refine Vx (v:=Ag [I p,I q]) (Lx LN Z Z (Bw cz)) ?_
 have f8:=(Y4 (Y4 dq bf bc bd al) ad ae u ai)
 refine Eu (St (vs:=[I p,I q]) (cs':=[I p,I q]) HN f8 Z Z Z Z λhd f9 ga=>?_)
 refine AA ?_
 refine AS ?_
 obtain rfl:=AK c
 refine Ye (B:=B) dl (TC Z (.agg LN Z Z (Bw f9)) ?_)
 exact ⟨a7,[I p,I q],Z,Ho (T2 (T4 (T4 (Mo [21,22,23,24,25,26,27,28,29] cg) bx bf bc bd) al ad ae u) ai ga) dj,(Al (x:=(AF.mk p q)))⟩
theorem Tj(c:Nat):Ii.Spec (Ii c):=lk0 (SI c)
def K7.Spec(f:AL->AF->Option (As×(List AN)×(List AJ)×As)):Prop:=
 ∀g d {n o h l p q kn1 kn2 ko1_2 e},f n p=some e->[l,kn1,kn2,ko1_2].Nodup->0∉[l,kn1,kn2,ko1_2]->Bz.rep g.F d o n->Bk g d l h q 63->An.rep g.F d q p->
  Calls PG 51 #[Ag o,.func (.func 52) #[] [Pt h 0].toArray] d λw a=>∃c r m s u,w=.returned (Pt r 0)/\AU [kn1,kn2,ko1_2] g d c a/\Mp c a kn2 m e.1/\Bk c a kn1 r [.map (some m),s,u,.func (.func 52) #[] [Pt h 0].toArray] 134/\Slc AI c.F a s e.2.1/\Own AZ 87 c a ko1_2 u e.2.2.1/\Mp c a kn2 m e.2.2.2
theorem Tk(ah:Nat)(n:Col)(q:World)(a0:∀b,n b<10){e:AL}{ai:List Value}{y:Nat}{aj:AF}{ak:List Value}{h:As×(List AN)×(List AJ)×As}(a1:Bz.rep n.F q ai e)(_ho0:Bk n q 1 y ak 63)(a2:An.rep n.F q ak aj)(a:K7 ah e aj=some h):
  Calls PG 51 #[Ag ai,.func (.func 52) #[] [Pt y 0].toArray] q λa3 o=>∃p al aa am an,a3=.returned (Pt al 0)/\AU [2,3,4] n q p o/\Mp p o 3 aa h.1/\Bk p o 2 al [.map (some aa),am,an,.func (.func 52) #[] [Pt y 0].toArray] 134/\Slc AI p.F o am h.2.1/\Own AZ 87 p o 4 an h.2.2.1/\Mp p o 3 aa h.2.2.2:=by
 rw [K7] at a
 obtain ⟨ap,aq,rfl,ao⟩:=E1 (BQ a1)
 obtain rfl:=Au a2
 refine Az Tryz.func51 Z Tryz.ntmps51 Z λB a4 f=>Sr<|Ef<|A0 n 20 Z Z λa5 b2 a6 a7 ar=>Va (.pointer none)<|AA<|Sr<|Ef<|Nb a5 3 λa8 b3 ab a9 ac=>Vx (Fz Dd Z)<|have au:=Bs a7 ac;Vx (Ld Fr Z (Bc au Z))<|Vm<|Vx (v:=Ag [.map (some ab),Sl ap e.funcs aq,.slice none 0 0,.func (.func 52) #[] [Pt y 0].toArray]) (Bp AAu AAp Z (.cons Z Z Z (.cons Z Z Z (.cons Z Z Z .nil))))<|Ef<|A0 a8 2 Z Z λav ba r aw z=>Va (Pt r 0)<|AA<|AT<|Sr<|Vx (Fz Dd Z)<|have ax:=Bs au z;Vx (Ld Fr Z (Bc ax Z))<|have ad:=K3 AI ao ar ac z; ?_
 obtain ⟨b4,b5,bb⟩:=AW ad
 refine Vx (v:=I (e.funcs.length:Int)) (Ll FA bb)<|Vr (I (Wr ((e.funcs.length:Int) - 1)))<|Va (I (Wr ((e.funcs.length:Int) - 1)))<|AA<|Ah<|Bj (λg bc ae=>∃ay l d u,bc=Env.puts ay [(2,Pt a6 0),(5,Pt r 0),(6,I d)]/\Ij e g d u=some h/\AU [3] av ba l ae/\Mp l ae 3 ab u) ah ?_ ?_
 refine have bd:=Ms a9 z;⟨_,av,(Wr ((e.funcs.length:Int) - 1)),([]:As),Pu,a,(AU.refl [3] _ _),bd⟩
 rintro g _ ae ⟨ay,l,d,u,rfl,a,m,af⟩
 rcases g with _|g
 exact A5 a
 refine have a:I0 e (Ij e g) d u=some h:=a; ?_
 obtain ⟨b6,az⟩:∃s,s=Ij e g:=⟨_,rfl⟩
 rw [<-az,I0] at a
 refine AT<|Sr<|Vm<|Vr (.bool (decide (d>=0)))<|AA<|Cn a (λbe a=>?_) λbe a=>?_
 refine AR<|AT<|Ah<|BZ C7 (qs 0 12 (.one 12 .nil)) [12] [] l (by kernel_rfl) λbf w=>Qx f Z (v:=Pt r 0) (λ_ _=>Mv Z)<|Qx f Z (λ_ _=>Nc Z)<|Qx f Z (λ_ _=>Fz VT Z)<|have bg:=Y2 aw m w;Qx f Z (λ_ ⟨_,c⟩=>Ld PL Z (Bc (Bs bg c) Z))<|Qx f Z (λ_ _=>Fz Dd Z)<|have bh:=Y2 ax m w;Qx f Z (λ_ ⟨_,c⟩=>Ld Fr Z (Bc (Bs bh c) Z))<|Qx f Z (v:=I d) (λ_ _=>Mv Z)<|Bi a λbi bj a=>have bk:=K2 AI ad m w; ?_
 obtain ⟨bl,bm,b7,bn,bo,bp,bq,br,ag⟩:=A8 (κ:=AI) bk bj
 replace ag:Ay l bf bl (bm+d.toNat*11) bn:=ag
 obtain ⟨b8,b9,rfl,bt,bu⟩:=CL br
 obtain ⟨ca,cb,rfl⟩:=AW bt
 obtain ⟨cc,cd,rfl⟩:=AW bu
 refine Qx f Z (λ_ _=>Ix FA bo Z bp bq)<|Qx f Z (λ_ _=>Fz MX Z)<|Qx f Z (λ_ ⟨_,c⟩=>Ld B7 Z (Ay.cell0 (Es ag c) Z))<|Qx f Z (v:=I d) (λ_ _=>Mv Z)<|Qx f Z (v:=I (Wr (d+1))) (λ_ _=>Z)<|E3 dcd<|WY.one<|have bv:=Ms af w;BS Z (.none Z) Z<|Kn Ln Z Z Z bv λcf bw bx=>WY.nil<|AM<|Vm<|Vr (I (Wr (d - 1)))<|Va (I (Wr (d - 1)))<|AA<|⟨g,Nat.lt_succ_self g,_,l,(Wr (d - 1)),(Mc bi.name (Wr (d+1)) u),Pu,(az▸a),(T2 (Mo [3] m) w bx),bw⟩
 refine BX<|Sr<|Vm<|Va (Pt r 0)<|AA<|AS ?_
 obtain rfl:=AK a
 refine O1 B a4 Z (.tmp Z)<|have bz:=Bs aw m;have b0:=Ss AI ad m;⟨l,r,ab,Sl ap e.funcs aq,.slice none 0 0,Z,Ho (T3 (Mo [3] ar) ac z m) a0,af,bz,b0,Own.nil,af⟩
theorem Un(e:Nat):K7.Spec (K7 e):=by
 intro d f ab ac ad a ae af kn1 kn2 ko1_2 ag g hnd hnz h l m
 refine Calls.mono (Tk e (recol (see [a,kn1,kn2,ko1_2]) d) f (E9 (Nat.le_of_ble_eq_true Z) d) (Bd Bz h [a,kn1,kn2,ko1_2]) (BY l [a,kn1,kn2,ko1_2] (BU hnd hnz (i:=0) Z)) (Bd An m [a,kn1,kn2,ko1_2]) g) ?_
 rintro ah ai ⟨n,o,p,q,r,s,c,u,w,y,z,aa⟩
 exact ⟨glue [a,kn1,kn2,ko1_2] f d n,o,p,q,r,s,B8 c (E4 Z Z),YA (j:=2) u Z Z c,Vt (j:=1) w Z Z c,HR AI y,IV (j:=3) z Z Z c,YA (j:=2) aa Z Z c⟩
def F9.At(G1 G2:Prop)(c:Col)(a:World)(f:Int->AF->Option AF)(d:Nat):Prop:=
 ∀{l e m n o},f l m=some o->G1->G2->Bk c a d e n 63->An.rep c.F a n m->
  Calls PG 52 #[I l,Pt e 0] a λq g=>∃h p,q=.returned (.tuple #[])/\AU [d] c a h g/\Bk h g d e p 63/\An.rep h.F g p o
def F9.Spec(f:Int->AF->Option AF):Prop:=
 ∀c d {a},F9.At ([a].Nodup) (0∉[a]) c d f a
theorem Qt(f:Col)(n:World)(o:∀b,f b<10):F9.At True True f n F9 1:=by
 intro d s e ae u a _ _ g w
 rw [F9] at a
 obtain rfl:=Au w
 refine Az Tryz.func52 Z Tryz.ntmps52 Z λB p af=>Am (λy q=>∃r h m,y=Env.puts r [(0,I d),(1,Pt s 0),(11,.bool m)]/\KF d e m=some u/\AU [] f n h q) ?_ ?_
 refine AM<|Vx (Fz NN Z)<|Vx (Ld NO Z (Bc g Z))<|Vr (.bool (e.why==0))<|Vm<|Bo a (λc a=>?_) λc a=>?_
 refine Pg c<|Pg c<|Pg c<|Pg c<|Vp c<|AA<|⟨_,f,true,Pu,a,Rf⟩
 refine Gm c<|Gx c (Fd PH Z)<|Gx c (Ld BC Z (Bc g Z))<|Gr c (.bool (decide (d<e.at_)))<|Vp c<|AA<|⟨_,f,(decide (d<e.at_)),Pu,a,Rf⟩
 rintro _ q ⟨r,h,m,rfl,a,l⟩
 rw [KF] at a
 refine Cn a (λz a=>?_) λz a=>?_
 refine AM<|Vm<|Vx (v:=Ag [I 34,I d]) (Bp FR M6 Z (.cons Z Z Z (.cons Z Z Z .nil)))<|have aa:=Bs g l;Eu<|St HN aa Z Z Z Z λag ab ac=>AA ?_
 obtain rfl:=AK a
 refine NJ (B:=B) p<|NI Z<|⟨h,[I 34,I d],Z,Ho (Tn (Mo [1] l) ac) o,ab,(Al (x:=(AF.mk 34 d)))⟩
 refine AR ?_
 obtain rfl:=AK a
 refine NJ (B:=B) p<|NI Z<|have ad:=Bs g l;⟨h,[I e.why,I e.at_],Z,Ho (Mo [] l) o,ad,(Al (x:=e))⟩
theorem RU:F9.Spec F9:=lk1 (Qt)
def types_checker_want.Spec(f:(List AN)->(List AJ)->As->AF->AE->Int->Option ((List AN)×(List AJ)×AF)):Prop:=
 ∀c a {n g q r s u ko0_2 o p w l h y z aa ab ac m},f q s w y aa ac=some m->[g,p,h,ko0_2].Nodup->0∉[g,p,h,ko0_2]->Bk c a g n [.map (some o),r,u,.func (.func 52) #[] [Pt l 0].toArray] 134->Slc AI c.F a r q->Own AZ 87 c a ko0_2 u s->Mp c a p o w->Bk c a h l z 63->An.rep c.F a z y->AG.rep c.F a ab aa->
  Calls PG 53 #[Pt n 0,Ag ab,I ac] a λag d=>∃e ad ae af,ag=.returned (.tuple #[])/\AU [g,h,ko0_2] c a e d/\Bk e d g n [.map (some o),ad,ae,.func (.func 52) #[] [Pt l 0].toArray] 134/\Slc AI e.F d ad m.1/\Own AZ 87 e d ko0_2 ae m.2.1/\Bk e d h l af 63/\An.rep e.F d af m.2.2
def types_checker_all.Spec(f:(List AN)->(List AJ)->As->AF->Int->(List AE)->Option ((List AN)×(List AJ)×AF)):Prop:=
 ∀c a {n g q r s u ko0_2 o p w l h y z aa ab ac m},f q s w y aa ab=some m->[g,p,h,ko0_2].Nodup->0∉[g,p,h,ko0_2]->Bk c a g n [.map (some o),r,u,.func (.func 52) #[] [Pt l 0].toArray] 134->Slc AI c.F a r q->Own AZ 87 c a ko0_2 u s->Mp c a p o w->Bk c a h l z 63->An.rep c.F a z y->Slc AG c.F a ac ab->
  Calls PG 82 #[Pt n 0,I aa,ac] a λag d=>∃e ad ae af,ag=.returned (.tuple #[])/\AU [g,h,ko0_2] c a e d/\Bk e d g n [.map (some o),ad,ae,.func (.func 52) #[] [Pt l 0].toArray] 134/\Slc AI e.F d ad m.1/\Own AZ 87 e d ko0_2 ae m.2.1/\Bk e d h l af 63/\An.rep e.F d af m.2.2
def types_checker_in.Spec(f:(List AN)->(List AJ)->As->AF->AE->Int->(List AJ)->Option ((List AN)×(List AJ)×AF)):Prop:=
 ∀c a {l g u w y z ko0_2 o p aa m h ab ac ad q ae r af ag ah s ai aj ak n},f u y aa ab af ai aj=some n->[g,p,h,q,r,s,ko0_2].Nodup->0∉[g,p,h,q,r,s,ko0_2]->Bk c a g l [.map (some o),w,z,.func (.func 52) #[] [Pt m 0].toArray] 134->Slc AI c.F a w u->Own AZ 87 c a ko0_2 z y->Mp c a p o aa->Bk c a h m ac 63->An.rep c.F a ac ab->Bk c a q ad [Pt l 0] 130->Bk c a r ae ag 56->AG.rep c.F a ag af->Bk c a s ah [I ai] 34->Slc AZ c.F a ak aj->
  Calls PG 83 #[Pt l 0,.func (.func 84) #[] [Pt ad 0,Pt ae 0,Pt ah 0].toArray,ak] a λao d=>∃e al am an,ao=.returned (.tuple #[])/\AU [g,h,ko0_2] c a e d/\Bk e d g l [.map (some o),al,am,.func (.func 52) #[] [Pt m 0].toArray] 134/\Slc AI e.F d al n.1/\Own AZ 87 e d ko0_2 am n.2.1/\Bk e d h m an 63/\An.rep e.F d an n.2.2
def types_checker_in_2.Spec(f:(List AN)->(List AJ)->As->AF->AE->Int->(List AJ)->Option ((List AN)×(List AJ)×AF)):Prop:=
 ∀c a {l g u w y z ko0_2 o p aa m h ab ac ad q ae r af ag ah s ai aj ak n},f u y aa ab af ai aj=some n->[g,p,h,q,r,s,ko0_2].Nodup->0∉[g,p,h,q,r,s,ko0_2]->Bk c a g l [.map (some o),w,z,.func (.func 52) #[] [Pt m 0].toArray] 134->Slc AI c.F a w u->Own AZ 87 c a ko0_2 z y->Mp c a p o aa->Bk c a h m ac 63->An.rep c.F a ac ab->Bk c a q ad [Pt l 0] 130->Bk c a r ae ag 56->AG.rep c.F a ag af->Bk c a s ah [I ai] 34->Slc AZ c.F a ak aj->
  Calls PG 83 #[Pt l 0,.func (.func 85) #[] [Pt ad 0,Pt ae 0,Pt ah 0].toArray,ak] a λao d=>∃e al am an,ao=.returned (.tuple #[])/\AU [g,h,ko0_2] c a e d/\Bk e d g l [.map (some o),al,am,.func (.func 52) #[] [Pt m 0].toArray] 134/\Slc AI e.F d al n.1/\Own AZ 87 e d ko0_2 am n.2.1/\Bk e d h m an 63/\An.rep e.F d an n.2.2
def types_checker_in_3.Spec(f:(List AN)->(List AJ)->As->AF->AE->Int->(List AJ)->Option ((List AN)×(List AJ)×AF)):Prop:=
 ∀c a {l g u w y z ko0_2 o p aa m h ab ac ad q ae r af ag ah s ai aj ak n},f u y aa ab af ai aj=some n->[g,p,h,q,r,s,ko0_2].Nodup->0∉[g,p,h,q,r,s,ko0_2]->Bk c a g l [.map (some o),w,z,.func (.func 52) #[] [Pt m 0].toArray] 134->Slc AI c.F a w u->Own AZ 87 c a ko0_2 z y->Mp c a p o aa->Bk c a h m ac 63->An.rep c.F a ac ab->Bk c a q ad [Pt l 0] 130->Bk c a r ae ag 56->AG.rep c.F a ag af->Bk c a s ah [I ai] 34->Slc AZ c.F a ak aj->
  Calls PG 83 #[Pt l 0,.func (.func 86) #[] [Pt ad 0,Pt ae 0,Pt ah 0].toArray,ak] a λao d=>∃e al am an,ao=.returned (.tuple #[])/\AU [g,h,ko0_2] c a e d/\Bk e d g l [.map (some o),al,am,.func (.func 52) #[] [Pt m 0].toArray] 134/\Slc AI e.F d al n.1/\Own AZ 87 e d ko0_2 am n.2.1/\Bk e d h m an 63/\An.rep e.F d an n.2.2
def types_checker_own.Spec(f:(List AN)->(List AJ)->As->AF->AE->Option (Int×(List AN)×(List AJ)×AF)):Prop:=
 ∀c a {n g q r s u ko0_2 o p w m h y z aa ab l},f q s w y aa=some l->[g,p,h,ko0_2].Nodup->0∉[g,p,h,ko0_2]->Bk c a g n [.map (some o),r,u,.func (.func 52) #[] [Pt m 0].toArray] 134->Slc AI c.F a r q->Own AZ 87 c a ko0_2 u s->Mp c a p o w->Bk c a h m z 63->An.rep c.F a z y->AG.rep c.F a ab aa->
  Calls PG 87 #[Pt n 0,Ag ab] a λaf d=>∃e ac ad ae,af=.returned (I l.1)/\AU [g,h,ko0_2] c a e d/\Bk e d g n [.map (some o),ac,ad,.func (.func 52) #[] [Pt m 0].toArray] 134/\Slc AI e.F d ac l.2.1/\Own AZ 87 e d ko0_2 ad l.2.2.1/\Bk e d h m ae 63/\An.rep e.F d ae l.2.2.2
def types_checker_want_1.Spec(f:(List AN)->(List AJ)->As->AF->AE->Int->Option ((List AN)×(List AJ)×AF)):Prop:=
 ∀c a {u n o g w y z aa ko1_2 p q ab l h ac ad ae r af ag ah s ai m},f w z ab ac af ai=some m->[n,g,q,h,r,s,ko1_2].Nodup->0∉[n,g,q,h,r,s,ko1_2]->Bk c a n u [Pt o 0] 130->Bk c a g o [.map (some p),y,aa,.func (.func 52) #[] [Pt l 0].toArray] 134->Slc AI c.F a y w->Own AZ 87 c a ko1_2 aa z->Mp c a q p ab->Bk c a h l ad 63->An.rep c.F a ad ac->Bk c a r ae ag 56->AG.rep c.F a ag af->Bk c a s ah [I ai] 34->
  Calls PG 84 #[Pt u 0,Pt ae 0,Pt ah 0] a λam d=>∃e aj ak al,am=.returned (.tuple #[])/\AU [g,h,ko1_2] c a e d/\Bk e d g o [.map (some p),aj,ak,.func (.func 52) #[] [Pt l 0].toArray] 134/\Slc AI e.F d aj m.1/\Own AZ 87 e d ko1_2 ak m.2.1/\Bk e d h l al 63/\An.rep e.F d al m.2.2
def types_checker_want_2.Spec(f:(List AN)->(List AJ)->As->AF->AE->Int->Option ((List AN)×(List AJ)×AF)):Prop:=
 ∀c a {u n o g w y z aa ko1_2 p q ab l h ac ad ae r af ag ah s ai m},f w z ab ac af ai=some m->[n,g,q,h,r,s,ko1_2].Nodup->0∉[n,g,q,h,r,s,ko1_2]->Bk c a n u [Pt o 0] 130->Bk c a g o [.map (some p),y,aa,.func (.func 52) #[] [Pt l 0].toArray] 134->Slc AI c.F a y w->Own AZ 87 c a ko1_2 aa z->Mp c a q p ab->Bk c a h l ad 63->An.rep c.F a ad ac->Bk c a r ae ag 56->AG.rep c.F a ag af->Bk c a s ah [I ai] 34->
  Calls PG 85 #[Pt u 0,Pt ae 0,Pt ah 0] a λam d=>∃e aj ak al,am=.returned (.tuple #[])/\AU [g,h,ko1_2] c a e d/\Bk e d g o [.map (some p),aj,ak,.func (.func 52) #[] [Pt l 0].toArray] 134/\Slc AI e.F d aj m.1/\Own AZ 87 e d ko1_2 ak m.2.1/\Bk e d h l al 63/\An.rep e.F d al m.2.2
def types_checker_want_3.Spec(f:(List AN)->(List AJ)->As->AF->AE->Int->Option ((List AN)×(List AJ)×AF)):Prop:=
 ∀c a {u n o g w y z aa ko1_2 p q ab l h ac ad ae r af ag ah s ai m},f w z ab ac af ai=some m->[n,g,q,h,r,s,ko1_2].Nodup->0∉[n,g,q,h,r,s,ko1_2]->Bk c a n u [Pt o 0] 130->Bk c a g o [.map (some p),y,aa,.func (.func 52) #[] [Pt l 0].toArray] 134->Slc AI c.F a y w->Own AZ 87 c a ko1_2 aa z->Mp c a q p ab->Bk c a h l ad 63->An.rep c.F a ad ac->Bk c a r ae ag 56->AG.rep c.F a ag af->Bk c a s ah [I ai] 34->
  Calls PG 86 #[Pt u 0,Pt ae 0,Pt ah 0] a λam d=>∃e aj ak al,am=.returned (.tuple #[])/\AU [g,h,ko1_2] c a e d/\Bk e d g o [.map (some p),aj,ak,.func (.func 52) #[] [Pt l 0].toArray] 134/\Slc AI e.F d aj m.1/\Own AZ 87 e d ko1_2 ak m.2.1/\Bk e d h l al 63/\An.rep e.F d al m.2.2
def types_checker_call.Spec(f:(List AN)->(List AJ)->As->AF->AE->Option (Int×(List AN)×(List AJ)×AF)):Prop:=
 ∀c a {n g q r s u ko0_2 o p w m h y z aa ab l},f q s w y aa=some l->[g,p,h,ko0_2].Nodup->0∉[g,p,h,ko0_2]->Bk c a g n [.map (some o),r,u,.func (.func 52) #[] [Pt m 0].toArray] 134->Slc AI c.F a r q->Own AZ 87 c a ko0_2 u s->Mp c a p o w->Bk c a h m z 63->An.rep c.F a z y->AG.rep c.F a ab aa->
  Calls PG 112 #[Pt n 0,Ag ab] a λaf d=>∃e ac ad ae,af=.returned (I l.1)/\AU [g,h,ko0_2] c a e d/\Bk e d g n [.map (some o),ac,ad,.func (.func 52) #[] [Pt m 0].toArray] 134/\Slc AI e.F d ac l.2.1/\Own AZ 87 e d ko0_2 ad l.2.2.1/\Bk e d h m ae 63/\An.rep e.F d ae l.2.2.2
structure AH.Good(a:AH):Prop where
 types_checker_want:types_checker_want.Spec a.types_checker_want
 types_checker_all:types_checker_all.Spec a.types_checker_all
 types_checker_in:types_checker_in.Spec a.types_checker_in
 types_checker_in_2:types_checker_in_2.Spec a.types_checker_in_2
 types_checker_in_3:types_checker_in_3.Spec a.types_checker_in_3
 types_checker_own:types_checker_own.Spec a.types_checker_own
 types_checker_want_1:types_checker_want_1.Spec a.types_checker_want_1
 types_checker_want_2:types_checker_want_2.Spec a.types_checker_want_2
 types_checker_want_3:types_checker_want_3.Spec a.types_checker_want_3
 types_checker_call:types_checker_call.Spec a.types_checker_call
theorem OO(cd:AH)(e0:Nat)(al:AH.Good cd)(w:Col)(am:World)(cf:∀b,w b<10){l:Nat}{cg:(List AN)}{ch:Value}{ci:(List AJ)}{cj:Value}{bo:Nat}{ck:As}{ao:Nat}{au:AF}{cl:List Value}{a:AE}{cm:List Value}{r:Int}{bd:(List AN)×(List AJ)×AF}(be:Bk w am 1 l [.map (some bo),ch,cj,.func (.func 52) #[] [Pt ao 0].toArray] 134)(a2:Slc AI w.F am ch cg)(a3:Own AZ 87 w am 4 cj ci)(bf:Mp w am 2 bo ck)(bg:Bk w am 3 ao cl 63)(e1:An.rep w.F am cl au)(e2:AG.rep w.F am cm a)(c:GS cd e0 cg ci ck au a r=some bd):
  Calls PG 53 #[Pt l 0,Ag cm,I r] am λe3 a4=>∃a5 cn co cq,e3=.returned (.tuple #[])/\AU [1,3,4] w am a5 a4/\Bk a5 a4 1 l [.map (some bo),cn,co,.func (.func 52) #[] [Pt ao 0].toArray] 134/\Slc AI a5.F a4 cn bd.1/\Own AZ 87 a5 a4 4 co bd.2.1/\Bk a5 a4 3 ao cq 63/\An.rep a5.F a4 cq bd.2.2:=by
 rw [GS] at c
 obtain ⟨kn,ko,rfl⟩:=AW a2
 obtain ⟨kp,kq,rfl⟩:=Own.len a3
 obtain rfl:=Au e1
 obtain ⟨ap,aq,rfl,a6⟩:=E1 (Ae e2)
 refine Az Tryz.func53 Z Tryz.ntmps53 Z λB cr g=>?_
 refine Sr ?_
 refine Ef (A0 w 20 Z Z λe4 ks y a7 h=>?_)
 refine Ef (A0 e4 21 Z Z λe5 kt m ct f=>?_)
 refine Ef (A0 e5 22 Z Z λu cu z a8 e=>?_)
 refine AA ?_
 refine Sr ?_
 refine Vx (v:=I r) (Ld Dl Z (Bc a8 Z)) ?_
 refine Va (I r) ?_
 refine AA ?_
 refine Am (λe6 a9=>∃cv an bh av bi bj aw bk bl ba bb,e6=Env.puts cv [(3,Pt y 0),(4,Pt m 0),(5,Pt z 0),(6,I bh)]/\Ci a r bh av aw ba bb=some bd/\AU [1,3,4,23,24,25] u cu an a9/\Slc AI an.F a9 (Sl bi av bj) av/\Own AZ 87 an a9 4 (Sl bk aw bl) aw/\Bk an a9 1 l [.map (some bo),Sl bi av bj,Sl bk aw bl,.func (.func 52) #[] [Pt ao 0].toArray] 134/\Bk an a9 3 ao [I ba,I bb] 63) ?_ ?_
 refine Sr ?_
 refine Vx (v:=Pt m 0) (Fz Cp Z) ?_
 have ar:=(Bs ct e)
 refine Vx (v:=I a.op) (Ld GC Z (Bc ar Z)) ?_
 refine AA ?_
 refine Ah ?_
 refine Sr ?_
 refine Vr (.bool (a.op==19)) ?_
 refine Va (.bool (a.op==19)) ?_
 refine AA ?_
 refine Cn c (λe7 c=>?_) λe7 c=>?_
 refine AT ?_
 refine BZ C7 (qs 0 5 (.one 5 .nil)) [] [1,3,4] u (by kernel_rfl) λcw aa=>?_
 have cx:=(Y3 a7 f e aa)
 refine Qx g Z (v:=Pt l 0) (λ_ ⟨_,d⟩=>Ld Kx Z (Bc (Bs cx d) Z)) ?_
 refine Qx g Z (v:=Pt m 5) (λ_ _=>Fd BR Z) ?_
 have cy:=(Bs ar aa)
 refine Qx g Z (v:=Sl ap a.args aq) (λ_ ⟨_,d⟩=>Ld CR Z (Bc (Bs cy d) Z)) ?_
 obtain ⟨n,e8,c⟩:=bnd_sm c
 have cz:=(K4 AG a6 h f e aa)
 obtain ⟨c0,c1,ku,e9,fa,fb,fc,fd,bu⟩:=A8 (κ:=AG) cz e8
 replace bu:Ay u cw c0 (c1+(0:Int).toNat*7) e9:=bu
 obtain ⟨bv,bw,rfl,c2⟩:=E1 (Ae fd)
 refine Qx g Z (v:=.pointer (some ⟨c0,c1+(0:Int).toNat*7,none⟩)) (λ_ _=>Ix CG fa Z fb fc) ?_
 refine Qx g Z (v:=Ag [I n.op,Sb n.name,Sb n.tail,I n.type_,Cx n.num,Sl bv n.args bw,I n.at_]) (λ_ ⟨_,d⟩=>Lx BA Z Z (Ay.part0 (Es bu d) [I n.op,Sb n.name,Sb n.tail,I n.type_,Cx n.num,Sl bv n.args bw,I n.at_] Z)) ?_
 refine A2 Z ?_
 have fe:=(Y4 be h f e aa)
 have ff:=(K4 AI a2 h f e aa)
 have fg:=(Os (Os (Os (Os a3 h) f) e) aa)
 have c3:=(Ms (Ms (Ms (Ms bf h) f) e) aa)
 have fh:=(Y4 bg h f e aa)
 obtain ⟨fi,fj,c⟩:=bnd_sm c
 refine A4 Z (.none Z) Z Z (Cg [Pt l 0,Ag [I n.op,Sb n.name,Sb n.tail,I n.type_,Cx n.num,Sl bv n.args bw,I n.at_],I 2] Z) ?_
 refine Calls.mono (al.types_checker_want u cw (ko0_2:=4) fj dcd dcd fe ff fg c3 fh (Al (x:=au)) (AY (x:=n) c2)) ?_
 rintro _ kw ⟨c4,kx,ky,kz,rfl,ax,fk,c5,c6,fl,fm⟩
 obtain ⟨k0,k1,rfl⟩:=AW c5
 obtain ⟨k2,k3,rfl⟩:=Own.len c6
 obtain rfl:=Au fm
 refine ⟨_,Z,⟨_,(Mo [1,3,4] ax)⟩,?_⟩
 refine CA ?_
 refine BZ C7 (qs 0 5 (.one 5 .nil)) [] [1,3,4] c4 (by kernel_rfl) λfn ab=>?_
 have fo:=(Y2 cx ax ab)
 refine Qx g Z (v:=Pt l 0) (λ_ ⟨_,d⟩=>Ld Kx Z (Bc (Bs fo d) Z)) ?_
 have fp:=(Y3 a8 aa ax ab)
 refine Qx g Z (v:=I r) (λ_ ⟨_,d⟩=>Ld Dl Z (Bc (Bs fp d) Z)) ?_
 refine Qx g Z (v:=Pt m 5) (λ_ _=>Fd BR Z) ?_
 have fq:=(Y2 cy ax ab)
 refine Qx g Z (v:=Sl ap a.args aq) (λ_ ⟨_,d⟩=>Ld CR Z (Bc (Bs fq d) Z)) ?_
 obtain ⟨c7,c8,c⟩:=bnd_sm c
 have fr:=(K2 AG cz ax ab)
 obtain ⟨c9,da,fs,ft,bx⟩:=So fr c8
 obtain ⟨k4,db⟩:∃s,s=Value.slice (if da=(1:Int).toNat then c9 else c9.map (·.add ((1:Int).toNat*AG.size))) ((a.args.length:Int).toNat - (1:Int).toNat) (da - (1:Int).toNat):=⟨_,rfl⟩
 rw [<-db] at bx
 obtain ⟨fu,fv,fw,_⟩:=Lp c8
 obtain ⟨dc,de,rfl⟩:=AW bx
 refine Qx g Z (v:=.slice dc c7.length de) (λ_ _=>(by rw [db];exact Run.sliceSlc CG fs ⟨_,Z⟩ Z fu fv fw ft)) ?_
 refine A2 Z ?_
 have fx:=(Bs fk ab)
 have fy:=(Ss AI c5 ab)
 have fz:=(Os c6 ab)
 have f0:=(Ms (Ms c3 ax) ab)
 have f1:=(Bs fl ab)
 obtain ⟨bp,f2,c⟩:=bnd_sm c
 refine A4 Z (.none Z) Z Z (Cg [Pt l 0,I r,Sl dc c7 de] Z) ?_
 refine Calls.mono (al.types_checker_all c4 fn (ko0_2:=4) f2 dcd dcd fx fy fz f0 f1 (Al (x:=fi.2.2)) bx) ?_
 rintro _ k5 ⟨f3,k6,k7,k8,rfl,df,f4,dg,dh,f5,f6⟩
 obtain ⟨f7,f8,rfl⟩:=AW dg
 obtain ⟨f9,ga,rfl⟩:=Own.len dh
 obtain rfl:=Au f6
 refine ⟨_,Z,⟨_,(Mo [1,3,4] df)⟩,?_⟩
 refine CA ?_
 exact ⟨_,f3,r,bp.1,f7,f8,bp.2.1,f9,ga,bp.2.2.why,bp.2.2.at_,Pu,c,(T3 (Mo [1,3,4,23,24,25] aa) ax ab df),dg,dh,f4,f5⟩
 refine Sr ?_
 refine Vr (.bool (a.op==20)) ?_
 refine Va (.bool (a.op==20)) ?_
 refine AA ?_
 refine Cn c (λgb c=>?_) λgb c=>?_
 refine AT ?_
 refine BZ C7 (qs 0 5 (.one 5 .nil)) [] [1,3,4] u (by kernel_rfl) λdi ac=>?_
 have dj:=(Y3 a7 f e ac)
 refine Qx g Z (v:=Pt l 0) (λ_ ⟨_,d⟩=>Ld Kx Z (Bc (Bs dj d) Z)) ?_
 refine Qx g Z (v:=Pt m 5) (λ_ _=>Fd BR Z) ?_
 have dk:=(Bs ar ac)
 refine Qx g Z (v:=Sl ap a.args aq) (λ_ ⟨_,d⟩=>Ld CR Z (Bc (Bs dk d) Z)) ?_
 obtain ⟨o,gc,c⟩:=bnd_sm c
 have dl:=(K4 AG a6 h f e ac)
 obtain ⟨dm,dn,k9,gd,ge,gf,gg,gh,bz⟩:=A8 (κ:=AG) dl gc
 replace bz:Ay u di dm (dn+(0:Int).toNat*7) gd:=bz
 obtain ⟨b0,b1,rfl,dp⟩:=E1 (Ae gh)
 refine Qx g Z (v:=.pointer (some ⟨dm,dn+(0:Int).toNat*7,none⟩)) (λ_ _=>Ix CG ge Z gf gg) ?_
 refine Qx g Z (v:=Ag [I o.op,Sb o.name,Sb o.tail,I o.type_,Cx o.num,Sl b0 o.args b1,I o.at_]) (λ_ ⟨_,d⟩=>Lx BA Z Z (Ay.part0 (Es bz d) [I o.op,Sb o.name,Sb o.tail,I o.type_,Cx o.num,Sl b0 o.args b1,I o.at_] Z)) ?_
 refine A2 Z ?_
 have gi:=(Y4 be h f e ac)
 have gj:=(K4 AI a2 h f e ac)
 have gk:=(Os (Os (Os (Os a3 h) f) e) ac)
 have dq:=(Ms (Ms (Ms (Ms bf h) f) e) ac)
 have gl:=(Y4 bg h f e ac)
 obtain ⟨gm,gn,c⟩:=bnd_sm c
 refine A4 Z (.none Z) Z Z (Cg [Pt l 0,Ag [I o.op,Sb o.name,Sb o.tail,I o.type_,Cx o.num,Sl b0 o.args b1,I o.at_],I 3] Z) ?_
 refine Calls.mono (al.types_checker_want u di (ko0_2:=4) gn dcd dcd gi gj gk dq gl (Al (x:=au)) (AY (x:=o) dp)) ?_
 rintro _ lb ⟨b2,lc,ld,le,rfl,ay,go,dr,ds,gp,gq⟩
 obtain ⟨lf,lg,rfl⟩:=AW dr
 obtain ⟨lh,li,rfl⟩:=Own.len ds
 obtain rfl:=Au gq
 refine ⟨_,Z,⟨_,(Mo [1,3,4] ay)⟩,?_⟩
 refine CA ?_
 refine AT ?_
 refine BZ C7 (qs 0 6 (.one 6 .nil)) [] [1,3,4] b2 (by kernel_rfl) λdt ad=>?_
 have du:=(Y2 dj ay ad)
 refine Qx g Z (v:=Pt l 0) (λ_ ⟨_,d⟩=>Ld Kx Z (Bc (Bs du d) Z)) ?_
 refine Qx g Z (v:=Pt m 5) (λ_ _=>Fd BR Z) ?_
 have dv:=(Y2 dk ay ad)
 refine Qx g Z (v:=Sl ap a.args aq) (λ_ ⟨_,d⟩=>Ld CR Z (Bc (Bs dv d) Z)) ?_
 obtain ⟨p,gr,c⟩:=bnd_sm c
 have dw:=(K2 AG dl ay ad)
 obtain ⟨dx,dy,lj,gs,gt,gu,gv,gw,b3⟩:=A8 (κ:=AG) dw gr
 replace b3:Ay b2 dt dx (dy+(1:Int).toNat*7) gs:=b3
 obtain ⟨b4,b5,rfl,dz⟩:=E1 (Ae gw)
 refine Qx g Z (v:=.pointer (some ⟨dx,dy+(1:Int).toNat*7,none⟩)) (λ_ _=>Ix CG gt Z gu gv) ?_
 refine Qx g Z (v:=Ag [I p.op,Sb p.name,Sb p.tail,I p.type_,Cx p.num,Sl b4 p.args b5,I p.at_]) (λ_ ⟨_,d⟩=>Lx BA Z Z (Ay.part0 (Es b3 d) [I p.op,Sb p.name,Sb p.tail,I p.type_,Cx p.num,Sl b4 p.args b5,I p.at_] Z)) ?_
 have d0:=(Y3 a8 ac ay ad)
 refine Qx g Z (v:=I r) (λ_ ⟨_,d⟩=>Ld Dl Z (Bc (Bs d0 d) Z)) ?_
 refine A2 Z ?_
 have gx:=(Bs go ad)
 have gy:=(Ss AI dr ad)
 have gz:=(Os ds ad)
 have d1:=(Ms (Ms dq ay) ad)
 have g0:=(Bs gp ad)
 obtain ⟨g1,g2,c⟩:=bnd_sm c
 refine A4 Z (.none Z) Z Z (Cg [Pt l 0,Ag [I p.op,Sb p.name,Sb p.tail,I p.type_,Cx p.num,Sl b4 p.args b5,I p.at_],I r] Z) ?_
 refine Calls.mono (al.types_checker_want b2 dt (ko0_2:=4) g2 dcd dcd gx gy gz d1 g0 (Al (x:=gm.2.2)) (AY (x:=p) dz)) ?_
 rintro _ ll ⟨g3,lm,ln,lo,rfl,az,g4,d2,d3,g5,g6⟩
 obtain ⟨lp,lq,rfl⟩:=AW d2
 obtain ⟨lr,ls,rfl⟩:=Own.len d3
 obtain rfl:=Au g6
 refine ⟨_,Z,⟨_,(Mo [1,3,4] az)⟩,?_⟩
 refine CA ?_
 refine AM ?_
 have d4:=(Bs du az)
 refine Vx (v:=Pt l 0) (Ld Kx Z (Bc d4 Z)) ?_
 refine Vx (v:=.func (.func 84) #[] [Pt y 0,Pt m 0,Pt z 0].toArray) (IZ (vs:=[Pt y 0,Pt m 0,Pt z 0]) Z) ?_
 refine Vx (v:=Pt m 1) (Fd DW Z) ?_
 have b6:=(Bs dv az)
 refine Vx (v:=Sb a.name) (Ld B7 Z (Bc b6 Z)) ?_
 refine Vx (v:=Ag [Sb a.name,I 1,I 0]) (Bp Lo RL Z (.cons Z Z Z (.cons Z Z Z .nil))) ?_
 refine Vx (v:=Pt m 2) (Fd MW Z) ?_
 refine Vx (v:=Sb a.tail) (Ld B7 Z (Bc b6 Z)) ?_
 refine Vx (v:=Ag [Sb a.tail,I 3,I 0]) (Bp Lo RL Z (.cons Z Z Z (.cons Z Z Z .nil))) ?_
 refine Ef (Cj (cs:=[Sb a.name,I 1,I 0,Sb a.tail,I 3,I 0]) g3 23 [[Sb a.name,I 1,I 0],[Sb a.tail,I 3,I 0]] Df Lo Z Z (.cons Z Z Z (.cons Z Z Z .nil)) Z λg7 d5 d6 g8 ae=>?_)
 have g9:Own AZ 87 g7 d5 23 (.slice (some ⟨d6,0,none⟩) 2 2) ([(AJ.mk a.name 1 0),(AJ.mk a.tail 3 0)]:List AJ):=Own.lit (css:=[[Sb a.name,I 1,I 0],[Sb a.tail,I 3,I 0]]) g8 rfl rfl rfl (Ac (LZ (x:=(AJ.mk a.name 1 0))) (Ac (LZ (x:=(AJ.mk a.tail 3 0))) BB)) (A6 rfl (A6 rfl Ds)) rfl
 obtain ⟨ha,af,hb⟩:=Own.freeze (S:=[23]) g9 dcd dcd
 have hc:=(Y2 g4 ae af)
 have hd:=(K2 AI d2 ae af)
 have he:=(Os (Os d3 ae) af)
 have hf:=(Ms (Ms (Ms d1 az) ae) af)
 have hg:=(Y2 g5 ae af)
 have hh:=(Y2 d4 ae af)
 have hi:=(Y2 b6 ae af)
 have hj:=(K3 AG dw az ae af)
 have hk:=(Y3 d0 az ae af)
 obtain ⟨bq,hl,c⟩:=bnd_sm c
 refine CQ (.none Z) Z Z (Cg [Pt l 0,.func (.func 84) #[] [Pt y 0,Pt m 0,Pt z 0].toArray,Sl (some ⟨d6,0,none⟩) (([(AJ.mk a.name 1 0),(AJ.mk a.tail 3 0)]:List AJ)) 2] Z) ?_
 refine Calls.mono (al.types_checker_in ha d5 (ko0_2:=4) hl dcd dcd hc hd he hf hg (Al (x:=g1.2.2)) hh hi (AY (x:=a) hj) hk hb) ?_
 rintro _ lt ⟨hm,lu,lv,lw,rfl,hn,ho,d7,d8,hp,hq⟩
 obtain ⟨hr,hs,rfl⟩:=AW d7
 obtain ⟨ht,hu,rfl⟩:=Own.len d8
 obtain rfl:=Au hq
 refine ⟨_,Z,?_⟩
 refine AA ?_
 exact ⟨_,hm,r,bq.1,hr,hs,bq.2.1,ht,hu,bq.2.2.why,bq.2.2.at_,Pu,c,(T2 (T4 (Mo [1,3,4,23,24,25] ac) ay ad az ae) af hn),d7,d8,ho,hp⟩
 refine Sr ?_
 refine Vr (.bool (a.op==21)) ?_
 refine Va (.bool (a.op==21)) ?_
 refine AA ?_
 refine Cn c (λhw c=>?_) λhw c=>?_
 refine AM ?_
 have d9:=(Y2 a7 f e)
 refine Vx (v:=Pt l 0) (Ld Kx Z (Bc d9 Z)) ?_
 refine Vx (v:=.func (.func 85) #[] [Pt y 0,Pt m 0,Pt z 0].toArray) (IZ (vs:=[Pt y 0,Pt m 0,Pt z 0]) Z) ?_
 refine Vx (v:=Pt m 1) (Fd DW Z) ?_
 refine Vx (v:=Sb a.name) (Ld B7 Z (Bc ar Z)) ?_
 refine Vx (v:=Pt m 3) (Fd Kk Z) ?_
 refine Vx (v:=I a.type_) (Ld Dl Z (Bc ar Z)) ?_
 refine Vx (v:=Ag [Sb a.name,I a.type_,I 0]) (Bp Lo RL Z (.cons Z Z Z (.cons Z Z Z .nil))) ?_
 refine Ef (Cj (cs:=[Sb a.name,I a.type_,I 0]) u 24 [[Sb a.name,I a.type_,I 0]] Df Lo Z Z (.cons Z Z Z .nil) Z λhx ea eb hy ag=>?_)
 have hz:Own AZ 87 hx ea 24 (.slice (some ⟨eb,0,none⟩) 1 1) ([(AJ.mk a.name a.type_ 0)]:List AJ):=Own.lit (css:=[[Sb a.name,I a.type_,I 0]]) hy rfl rfl rfl (Ac (LZ (x:=(AJ.mk a.name a.type_ 0))) BB) (A6 rfl Ds) rfl
 obtain ⟨h0,ah,h1⟩:=Own.freeze (S:=[24]) hz dcd dcd
 have h2:=(Bs (Y4 be h f e ag) ah)
 have h3:=(Ss AI (K4 AI a2 h f e ag) ah)
 have h4:=(Os (Os (Os (Os (Os a3 h) f) e) ag) ah)
 have h5:=(Ms (Ms (Ms (Ms (Ms bf h) f) e) ag) ah)
 have h6:=(Bs (Y4 bg h f e ag) ah)
 have h7:=(Y2 d9 ag ah)
 have h8:=(Y2 ar ag ah)
 have h9:=(Ss AG (K4 AG a6 h f e ag) ah)
 have ia:=(Y2 a8 ag ah)
 obtain ⟨br,ib,c⟩:=bnd_sm c
 refine CQ (.none Z) Z Z (Cg [Pt l 0,.func (.func 85) #[] [Pt y 0,Pt m 0,Pt z 0].toArray,Sl (some ⟨eb,0,none⟩) (([(AJ.mk a.name a.type_ 0)]:List AJ)) 1] Z) ?_
 refine Calls.mono (al.types_checker_in_2 h0 ea (ko0_2:=4) ib dcd dcd h2 h3 h4 h5 h6 (Al (x:=au)) h7 h8 (AY (x:=a) h9) ia h1) ?_
 rintro _ lx ⟨ic,ly,lz,l0,rfl,id,ie,ec,ed,ig,ih⟩
 obtain ⟨ii,ij,rfl⟩:=AW ec
 obtain ⟨ik,il,rfl⟩:=Own.len ed
 obtain rfl:=Au ih
 refine ⟨_,Z,?_⟩
 refine AA ?_
 exact ⟨_,ic,r,br.1,ii,ij,br.2.1,ik,il,br.2.2.why,br.2.2.at_,Pu,c,(T2 (Mo [1,3,4,23,24,25] ag) ah id),ec,ed,ie,ig⟩
 refine Sr ?_
 refine Vr (.bool (a.op==22)) ?_
 refine Va (.bool (a.op==22)) ?_
 refine AA ?_
 refine Cn c (λim c=>?_) λim c=>?_
 refine AT ?_
 refine BZ C7 (qs 0 7 (.one 7 .nil)) [] [1,3,4] u (by kernel_rfl) λee ai=>?_
 have ef:=(Y3 a7 f e ai)
 refine Qx g Z (v:=Pt l 0) (λ_ ⟨_,d⟩=>Ld Kx Z (Bc (Bs ef d) Z)) ?_
 refine Qx g Z (v:=Pt m 5) (λ_ _=>Fd BR Z) ?_
 have b7:=(Bs ar ai)
 refine Qx g Z (v:=Sl ap a.args aq) (λ_ ⟨_,d⟩=>Ld CR Z (Bc (Bs b7 d) Z)) ?_
 obtain ⟨q,io,c⟩:=bnd_sm c
 have eg:=(K4 AG a6 h f e ai)
 obtain ⟨eh,ei,l1,ip,iq,ir,it,iu,b8⟩:=A8 (κ:=AG) eg io
 replace b8:Ay u ee eh (ei+(0:Int).toNat*7) ip:=b8
 obtain ⟨b9,ca,rfl,ej⟩:=E1 (Ae iu)
 refine Qx g Z (v:=.pointer (some ⟨eh,ei+(0:Int).toNat*7,none⟩)) (λ_ _=>Ix CG iq Z ir it) ?_
 refine Qx g Z (v:=Ag [I q.op,Sb q.name,Sb q.tail,I q.type_,Cx q.num,Sl b9 q.args ca,I q.at_]) (λ_ ⟨_,d⟩=>Lx BA Z Z (Ay.part0 (Es b8 d) [I q.op,Sb q.name,Sb q.tail,I q.type_,Cx q.num,Sl b9 q.args ca,I q.at_] Z)) ?_
 refine Qx g Z (v:=Pt m 3) (λ_ _=>Fd Kk Z) ?_
 refine Qx g Z (v:=I a.type_) (λ_ ⟨_,d⟩=>Ld Dl Z (Bc (Bs b7 d) Z)) ?_
 refine A2 Z ?_
 have iv:=(Y4 be h f e ai)
 have iw:=(K4 AI a2 h f e ai)
 have ix:=(Os (Os (Os (Os a3 h) f) e) ai)
 have ek:=(Ms (Ms (Ms (Ms bf h) f) e) ai)
 have iy:=(Y4 bg h f e ai)
 obtain ⟨iz,i0,c⟩:=bnd_sm c
 refine A4 Z (.none Z) Z Z (Cg [Pt l 0,Ag [I q.op,Sb q.name,Sb q.tail,I q.type_,Cx q.num,Sl b9 q.args ca,I q.at_],I a.type_] Z) ?_
 refine Calls.mono (al.types_checker_want u ee (ko0_2:=4) i0 dcd dcd iv iw ix ek iy (Al (x:=au)) (AY (x:=q) ej)) ?_
 rintro _ l3 ⟨i1,l4,l5,l6,rfl,a0,i2,el,em,i3,i4⟩
 obtain ⟨l7,l8,rfl⟩:=AW el
 obtain ⟨l9,ma,rfl⟩:=Own.len em
 obtain rfl:=Au i4
 refine ⟨_,Z,⟨_,(Mo [1,3,4] a0)⟩,?_⟩
 refine CA ?_
 refine AM ?_
 have en:=(Bs ef a0)
 refine Vx (v:=Pt l 0) (Ld Kx Z (Bc en Z)) ?_
 refine Vx (v:=.func (.func 86) #[] [Pt y 0,Pt m 0,Pt z 0].toArray) (IZ (vs:=[Pt y 0,Pt m 0,Pt z 0]) Z) ?_
 refine Vx (v:=Pt m 1) (Fd DW Z) ?_
 have cb:=(Bs b7 a0)
 refine Vx (v:=Sb a.name) (Ld B7 Z (Bc cb Z)) ?_
 refine Vx (v:=Pt m 3) (Fd Kk Z) ?_
 refine Vx (v:=I a.type_) (Ld Dl Z (Bc cb Z)) ?_
 refine Vx (v:=Ag [Sb a.name,I a.type_,I 0]) (Bp Lo RL Z (.cons Z Z Z (.cons Z Z Z .nil))) ?_
 refine Ef (Cj (cs:=[Sb a.name,I a.type_,I 0]) i1 25 [[Sb a.name,I a.type_,I 0]] Df Lo Z Z (.cons Z Z Z .nil) Z λi5 eo ep i6 aj=>?_)
 have i7:Own AZ 87 i5 eo 25 (.slice (some ⟨ep,0,none⟩) 1 1) ([(AJ.mk a.name a.type_ 0)]:List AJ):=Own.lit (css:=[[Sb a.name,I a.type_,I 0]]) i6 rfl rfl rfl (Ac (LZ (x:=(AJ.mk a.name a.type_ 0))) BB) (A6 rfl Ds) rfl
 obtain ⟨i8,ak,i9⟩:=Own.freeze (S:=[25]) i7 dcd dcd
 have ja:=(Y2 i2 aj ak)
 have jb:=(K2 AI el aj ak)
 have jc:=(Os (Os em aj) ak)
 have jd:=(Ms (Ms (Ms ek a0) aj) ak)
 have je:=(Y2 i3 aj ak)
 have jf:=(Y2 en aj ak)
 have jg:=(Y2 cb aj ak)
 have jh:=(K3 AG eg a0 aj ak)
 have ji:=(Y4 a8 ai a0 aj ak)
 obtain ⟨bt,jj,c⟩:=bnd_sm c
 refine CQ (.none Z) Z Z (Cg [Pt l 0,.func (.func 86) #[] [Pt y 0,Pt m 0,Pt z 0].toArray,Sl (some ⟨ep,0,none⟩) (([(AJ.mk a.name a.type_ 0)]:List AJ)) 1] Z) ?_
 refine Calls.mono (al.types_checker_in_3 i8 eo (ko0_2:=4) jj dcd dcd ja jb jc jd je (Al (x:=iz.2.2)) jf jg (AY (x:=a) jh) ji i9) ?_
 rintro _ mb ⟨jk,mc,md,me,rfl,jl,jm,eq,er,jn,jo⟩
 obtain ⟨jp,jq,rfl⟩:=AW eq
 obtain ⟨jr,js,rfl⟩:=Own.len er
 obtain rfl:=Au jo
 refine ⟨_,Z,?_⟩
 refine AA ?_
 exact ⟨_,jk,r,bt.1,jp,jq,bt.2.1,jr,js,bt.2.2.why,bt.2.2.at_,Pu,c,(T4 (Mo [1,3,4,23,24,25] ai) a0 aj ak jl),eq,er,jm,jn⟩
 refine AM ?_
 have jt:=(Y2 a7 f e)
 refine Vx (v:=Pt l 0) (Ld Kx Z (Bc jt Z)) ?_
 refine Vx (v:=Ag [I a.op,Sb a.name,Sb a.tail,I a.type_,Cx a.num,Sl ap a.args aq,I a.at_]) (Lx BA Z Z (Bw ar)) ?_
 have ju:=(Y3 be h f e)
 have jv:=(K3 AI a2 h f e)
 have jw:=(Os (Os (Os a3 h) f) e)
 have jx:=(Ms (Ms (Ms bf h) f) e)
 have jy:=(Y3 bg h f e)
 have jz:=(K3 AG a6 h f e)
 obtain ⟨bc,j0,c⟩:=bnd_sm c
 refine CQ (.none Z) Z Z (Cg [Pt l 0,Ag [I a.op,Sb a.name,Sb a.tail,I a.type_,Cx a.num,Sl ap a.args aq,I a.at_]] Z) ?_
 refine Calls.mono (al.types_checker_own u cu (ko0_2:=4) j0 dcd dcd ju jv jw jx jy (Al (x:=au)) (AY (x:=a) jz)) ?_
 rintro _ mf ⟨j1,mg,mh,mi,rfl,j2,j3,es,et,j4,j5⟩
 obtain ⟨j6,j7,rfl⟩:=AW es
 obtain ⟨j8,j9,rfl⟩:=Own.len et
 obtain rfl:=Au j5
 refine ⟨_,Z,?_⟩
 refine Va (I bc.1) ?_
 refine AA ?_
 exact ⟨_,j1,bc.1,bc.2.1,j6,j7,bc.2.2.1,j8,j9,bc.2.2.2.why,bc.2.2.2.at_,Pu,c,(Mo [1,3,4,23,24,25] j2),es,et,j3,j4⟩
 rintro _ a9 ⟨cv,an,bh,av,bi,bj,aw,bk,bl,ba,bb,rfl,c,bm,eu,ew,ex,ey⟩
 rw [Ci] at c
 refine Sr ?_
 refine Vx (v:=I bh) (Mv Z) ?_
 have ka:=(Bs a8 bm)
 refine Vx (v:=I r) (Ld Dl Z (Bc ka Z)) ?_
 refine Vr (.bool (bh != r)) ?_
 refine AA ?_
 refine Cn c (λkb c=>?_) λkb c=>?_
 refine BZ C7 (qs 0 6 (.one 6 .nil)) [] [3] an (by kernel_rfl) λkc a1=>?_
 have kd:=(Y4 a7 f e bm a1)
 refine Qx g Z (v:=Pt l 0) (λ_ ⟨_,d⟩=>Ld Kx Z (Bc (Bs kd d) Z)) ?_
 refine Qx g Z (v:=Pt l 0) (λ_ _=>Nc Z) ?_
 refine Qx g Z (v:=Pt l 3) (λ_ _=>Fd Yq Z) ?_
 have ez:=(Bs ex a1)
 refine Qx g Z (v:=.func (.func 52) #[] [Pt ao 0].toArray) (λ_ ⟨_,d⟩=>Ld AAm Z (Bc (Bs ez d) Z)) ?_
 refine Qx g Z (v:=Pt m 6) (λ_ _=>Fd L2 Z) ?_
 have ke:=(Y3 ct e bm a1)
 refine Qx g Z (v:=I a.at_) (λ_ ⟨_,d⟩=>Ld BC Z (Bc (Bs ke d) Z)) ?_
 refine A2 Z ?_
 have kf:=(Bs ey a1)
 obtain ⟨cc,kg,c⟩:=bnd_sm c
 refine A4 Z (.none Z) Z Z (ABi (vs:=[I a.at_]) (caps:=[Pt ao 0]) Z Z) ?_
 refine Calls.mono (RU an kc kg dcd dcd kf (Al (x:=(AF.mk ba bb)))) ?_
 rintro _ mj ⟨kh,mk,rfl,bn,ki,kj⟩
 obtain rfl:=Au kj
 refine ⟨_,Z,⟨_,(Mo [3] bn)⟩,?_⟩
 refine CA ?_
 obtain rfl:=AK c
 refine NJ (B:=B) cr (NI Z ?_)
 have kk:=(Bs ez bn)
 have kl:=(K2 AI eu a1 bn)
 have km:=(Os (Os ew a1) bn)
 exact ⟨kh,Sl bi av bj,Sl bk aw bl,[I cc.why,I cc.at_],Z,Ho (Tn (T4 (Mo [1,3,4,23,24,25] h) f e bm a1) bn) cf,kk,kl,km,ki,(Al (x:=cc))⟩
 refine AR ?_
 obtain rfl:=AK c
 refine NJ (B:=B) cr (NI Z ?_)
 exact ⟨an,Sl bi av bj,Sl bk aw bl,[I ba,I bb],Z,Ho (T3 (Mo [1,3,4,23,24,25] h) f e bm) cf,ex,eu,ew,ey,(Al (x:=(AF.mk ba bb)))⟩
theorem OP(e:AH)(g:Nat)(o:AH.Good e):types_checker_want.Spec (GS e g):=by
 intro f h ai a aj ak al am ko0_2 an c ao ap d aq ar au av aw ax p hnd hnz l q r s m u w
 refine Calls.mono (OO e g o (recol (see [a,c,d,ko0_2]) f) h (E9 (Nat.le_of_ble_eq_true Z) f) (BY l [a,c,d,ko0_2] (BU hnd hnz (i:=0) Z)) (EZ AI q [a,c,d,ko0_2]) (Io r [a,c,d,ko0_2] (BU hnd hnz (i:=3) Z)) (F2 s [a,c,d,ko0_2] (BU hnd hnz (i:=1) Z)) (BY m [a,c,d,ko0_2] (BU hnd hnz (i:=2) Z)) (Bd An u [a,c,d,ko0_2]) (Bd AG w [a,c,d,ko0_2]) p) ?_
 rintro ay az ⟨y,z,aa,ab,ac,n,ad,ae,af,ag,ah⟩
 exact ⟨glue [a,c,d,ko0_2] h f y,z,aa,ab,ac,B8 n (E4 Z Z),EJ l ad dcd,HR AI ae,IV (j:=3) af Z Z n,EJ m ag dcd,ED An ah⟩
theorem O5(w:AH)(au:Nat)(bd:AH.Good w)(d:Col)(e:World)(be:∀b,d b<10){y:Nat}{am:(List AN)}{av:Value}{an:(List AJ)}{aw:Value}{ae:Nat}{z:As}{aa:Nat}{af:AF}{ax:List Value}{h:Int}{f:(List AE)}{ay:Value}{ab:(List AN)×(List AJ)×AF}(bf:Bk d e 1 y [.map (some ae),av,aw,.func (.func 52) #[] [Pt aa 0].toArray] 134)(az:Slc AI d.F e av am)(a0:Own AZ 87 d e 4 aw an)(bg:Mp d e 2 ae z)(bh:Bk d e 3 aa ax 63)(bi:An.rep d.F e ax af)(ao:Slc AG d.F e ay f)(c:J3 w au am an z af h f=some ab):
  Calls PG 82 #[Pt y 0,I h,ay] e λbj ac=>∃ad a1 a2 a3,bj=.returned (.tuple #[])/\AU [1,3,4] d e ad ac/\Bk ad ac 1 y [.map (some ae),a1,a2,.func (.func 52) #[] [Pt aa 0].toArray] 134/\Slc AI ad.F ac a1 ab.1/\Own AZ 87 ad ac 4 a2 ab.2.1/\Bk ad ac 3 aa a3 63/\An.rep ad.F ac a3 ab.2.2:=by
 rw [J3] at c
 obtain ⟨bk,bl,rfl⟩:=AW az
 obtain ⟨bm,bn,rfl⟩:=Own.len a0
 obtain rfl:=Au bi
 obtain ⟨bo,bp,rfl⟩:=AW ao
 refine Az Tryz.func82 Z Tryz.ntmps82 Z λB bq ct=>Sr<|Vm ?_
 obtain ⟨cu,cv,br⟩:=AW ao
 refine Vx (v:=I (f.length:Int)) (Ll CG br)<|Vm<|AA<|Ah<|Bj (λl bt m=>∃a4 g x93 n ag ah o ai aj p q,bt=Env.puts a4 [(0,Pt y 0),(1,I h),(8,Sl bo f bp),(9,I (f.length:Int)),(10,I x93)]/\D4 w z h f l x93 n o p q=some ab/\AU [1,3,4,20] d e g m/\Slc AI g.F m (Sl ag n ah) n/\Own AZ 87 g m 4 (Sl ai o aj) o/\Bk g m 1 y [.map (some ae),Sl ag n ah,Sl ai o aj,.func (.func 52) #[] [Pt aa 0].toArray] 134/\Bk g m 3 aa [I p,I q] 63) au ?_ ?_
 exact ⟨_,d,0,am,bk,bl,an,bm,bn,af.why,af.at_,Pu,c,(AU.refl [1,3,4,20] _ _),az,a0,bf,bh⟩
 rintro l _ m ⟨a4,g,x93,n,ag,ah,o,ai,aj,p,q,rfl,c,ak,a5,a6,a7,a8⟩
 rcases l with _|l
 exact A5 c
 refine have c:Ez w z h f (D4 w z h f l) x93 n o p q=some ab:=c; ?_
 obtain ⟨cw,a9⟩:∃s,s=D4 w z h f l:=⟨_,rfl⟩
 rw [<-a9,Ez] at c
 refine Sr<|Vr (.bool (decide (x93< (f.length:Int))))<|AA<|AT<|Cn c (λbu c=>?_) λbu c=>?_
 refine AR<|AT<|Ah<|Sr<|Bi c λa bv c=>have bw:=Ss AG ao ak; ?_
 obtain ⟨bx,bz,cx,b0,b1,b2,b3,b4,ap⟩:=A8 (κ:=AG) bw bv
 replace ap:Ay g m bx (bz+x93.toNat*7) b0:=ap
 obtain ⟨aq,ar,rfl,ba⟩:=E1 (Ae b4)
 refine Vx (Ix CG b1 Z b2 b3)<|Vx (Lx BA Z Z (Ay.part0 ap [I a.op,Sb a.name,Sb a.tail,I a.type_,Cx a.num,Sl aq a.args ar,I a.at_] Z))<|Ef<|Aa g 20 Dm Z λb5 cz c0 b6 r=>have b7:=Ss AG ba r;Eu<|St D7 b6 Z Z Z Z λb8 b9 u=>AA<|AM<|Vm<|Vx (Lx BA Z Z (Bw b9))<|Vm<|have ca:=Y2 a7 r u;have cb:=K2 AI a5 r u;have cc:=Os (Os a6 r) u;have cd:=Ms (Ms (Ms bg ak) r) u;have cf:=Y2 a8 r u;have cg:=Ss AG b7 u;Bi c λal ch c=>Ca (Cg [Pt y 0,Ag [I a.op,Sb a.name,Sb a.tail,I a.type_,Cx a.num,Sl aq a.args ar,I a.at_],I h] Z) (bd.types_checker_want b5 b8 (ko0_2:=4) ch dcd dcd ca cb cc cd cf (Al (x:=(AF.mk p q))) (AY (x:=a) cg)) ?_
 rintro _ c1 ⟨ci,c2,c3,c4,rfl,cj,ck,bb,bc,cl,cm⟩
 obtain ⟨cn,co,rfl⟩:=AW bb
 obtain ⟨cq,cr,rfl⟩:=Own.len bc
 obtain rfl:=Au cm
 refine AA<|AM<|Vr (I (Wr (x93+1)))<|Vm<|AA<|⟨l,Nat.lt_succ_self l,_,ci,(Wr (x93+1)),al.1,cn,co,al.2.1,cq,cr,al.2.2.why,al.2.2.at_,Pu,(a9▸c),(T3 (Mo [1,3,4,20] ak) r u cj),bb,bc,ck,cl⟩
 refine BX ?_
 obtain rfl:=AK c
 refine NJ (B:=B) bq<|NI Z<|⟨g,Sl ag n ah,Sl ai o aj,[I p,I q],Z,Ho (Mo [1,3,4,20] ak) be,a7,a5,a6,a8,(Al (x:=(AF.mk p q)))⟩
theorem O6(e:AH)(g:Nat)(o:AH.Good e):types_checker_all.Spec (J3 e g):=by
 intro f h ai a aj ak al am ko0_2 an c ao ap d aq ar au av aw ax p hnd hnz l q r s m u w
 refine Calls.mono (O5 e g o (recol (see [a,c,d,ko0_2]) f) h (E9 (Nat.le_of_ble_eq_true Z) f) (BY l [a,c,d,ko0_2] (BU hnd hnz (i:=0) Z)) (EZ AI q [a,c,d,ko0_2]) (Io r [a,c,d,ko0_2] (BU hnd hnz (i:=3) Z)) (F2 s [a,c,d,ko0_2] (BU hnd hnz (i:=1) Z)) (BY m [a,c,d,ko0_2] (BU hnd hnz (i:=2) Z)) (Bd An u [a,c,d,ko0_2]) (EZ AG w [a,c,d,ko0_2]) p) ?_
 rintro ay az ⟨y,z,aa,ab,ac,n,ad,ae,af,ag,ah⟩
 exact ⟨glue [a,c,d,ko0_2] h f y,z,aa,ab,ac,B8 n (E4 Z Z),EJ l ad dcd,HR AI ae,IV (j:=3) af Z Z n,EJ m ag dcd,ED An ah⟩
theorem PX(ak:AH)(bc:Nat)(bd:AH.Good ak)(a:Col)(c:World)(be:∀b,a b<10){p:Nat}{ab:(List AN)}{al:Value}{g:(List AJ)}{am:Value}{n:Nat}{an:As}{h:Nat}{ac:AF}{ao:List Value}{ad ae:Nat}{af:AE}{ap:List Value}{ag:Nat}{aq:Int}{q:(List AJ)}{ar:Value}{r:(List AN)×(List AJ)×AF}(ah:Bk a c 1 p [.map (some n),al,am,.func (.func 52) #[] [Pt h 0].toArray] 134)(au:Slc AI a.F c al ab)(ai:Own AZ 87 a c 7 am g)(bf:Mp a c 2 n an)(bg:Bk a c 3 h ao 63)(bh:An.rep a.F c ao ac)(bi:Bk a c 4 ad [Pt p 0] 130)(bj:Bk a c 5 ae ap 56)(bk:AG.rep a.F c ap af)(bl:Bk a c 6 ag [I aq] 34)(av:Slc AZ a.F c ar q)(f:HY ak bc ab g an ac af aq q=some r):
  Calls PG 83 #[Pt p 0,.func (.func 84) #[] [Pt ad 0,Pt ae 0,Pt ag 0].toArray,ar] c λbm l=>∃m aw ax ay,bm=.returned (.tuple #[])/\AU [1,3,7] a c m l/\Bk m l 1 p [.map (some n),aw,ax,.func (.func 52) #[] [Pt h 0].toArray] 134/\Slc AI m.F l aw r.1/\Own AZ 87 m l 7 ax r.2.1/\Bk m l 3 h ay 63/\An.rep m.F l ay r.2.2:=by
 rw [HY] at f
 obtain ⟨bn,bo,rfl⟩:=AW au
 obtain ⟨ck,cl,rfl⟩:=Own.len ai
 obtain rfl:=Au bh
 obtain ⟨cn,co,rfl,az⟩:=E1 (Ae bk)
 obtain ⟨cq,cr,rfl⟩:=AW av
 refine Az Tryz.func83 Z Tryz.ntmps83 Z λB bp ct=>Sr<|Vm<|Vx (Nc Z)<|Vx (Fd Fp Z)<|Vx (Ld EF Z (Bc ah Z)) ?_
 obtain ⟨cu,cv,bq⟩:=Own.len ai
 refine Vx (v:=I (g.length:Int)) (Ll Df bq)<|Va (I (g.length:Int))<|AA<|Sr<|Vm<|Vm<|Vx (Nc Z)<|Vx (Fd Fp Z)<|Vx (Ld EF Z (Bc ah Z))<|Vm<|Bi f λcw a0 f=>Ef<|Br (κ:=AZ) Z Z ai dcd QK (IY av) (Ea a0) (Ew a0) λcx br cy aj d=>?_
 obtain ⟨a1,a2,rfl⟩:=Own.len aj
 refine Vx (Nc Z)<|Vx (Fd Fp Z)<|have bt:=Bs ah d;Eu<|Bf (vs:=[Sl a1 ((g++q)) a2]) (cs':=[.map (some n),Sl bn ab bo,Sl a1 ((g++q)) a2,.func (.func 52) #[] [Pt h 0].toArray]) PK Z Z Z Z (AQ (Own.one aj) B6) bt dcd Z Z λbu bv e=>AA<|Sr<|Vm<|have bw:=Y2 bi d e;have bx:=K2 AI au d e;have bz:=Os aj e;have b0:=Ms (Ms bf d) e;have b1:=Y2 bg d e;have b2:=Y2 bj d e;have b3:=K2 AG az d e;have b4:=Y2 bl d e;Bi f λo b5 f=>Ca (ABk (vs:=[]) (caps:=[Pt ad 0,Pt ae 0,Pt ag 0]) Z Z) (bd.types_checker_want_1 br bu (ko1_2:=7) b5 dcd dcd bw bv bx bz b0 b1 (Al (x:=ac)) b2 (AY (x:=af) b3) b4) ?_
 rintro _ cz ⟨b6,c0,c1,c2,rfl,b7,a3,a4,a5,b8,b9⟩
 obtain ⟨a6,a7,rfl⟩:=AW a4
 obtain ⟨c3,c4,rfl⟩:=Own.len a5
 obtain rfl:=Au b9
 refine AA<|AM<|Vm<|Vm<|Vx (Nc Z)<|Vx (Fd Fp Z)<|Vx (Ld EF Z (Bc a3 Z))<|Vm<|Bi f λu a8 f=>?_
 obtain ⟨a9,ba,ca,cb,w⟩:=Own.sub a5 a8
 obtain ⟨c5,bb⟩:∃s,s=Value.slice (if ba=(0:Int).toNat then a9 else a9.map (·.add ((0:Int).toNat*AZ.size))) ((g.length:Int).toNat - (0:Int).toNat) (ba - (0:Int).toNat):=⟨_,rfl⟩
 rw [<-bb] at w
 obtain ⟨cc,cd,cf,_⟩:=Lp a8
 obtain ⟨y,z,rfl⟩:=Own.len w
 refine Vx (v:=.slice y u.length z) (by rw [bb];exact Run.sliceSlc Df ca Z ⟨_,Z⟩ cc cd cf cb)<|Vx (Nc Z)<|Vx (Fd Fp Z)<|Eu<|Bf (vs:=[Sl y u z]) (cs':=[.map (some n),Sl a6 o.1 a7,Sl y u z,.func (.func 52) #[] [Pt h 0].toArray]) PK Z Z Z Z (AQ (Own.one w) B6) a3 dcd Z Z λc6 cg aa=>AA ?_
 obtain rfl:=AK f
 refine NJ (B:=B) bp<|NI Z<|have ch:=Ss AI a4 aa;have ci:=Os w aa;have cj:=Bs b8 aa;⟨b6,Sl a6 o.1 a7,Sl y u z,[I o.2.2.why,I o.2.2.at_],Z,Ho (T3 (Mo [1,3,7] d) e b7 aa) be,cg,ch,ci,cj,(Al (x:=o.2.2))⟩
theorem PY(h:AH)(m:Nat)(r:AH.Good h):types_checker_in.Spec (HY h m):=by
 intro l n ap a aq ar au av ko0_2 aw c ax ay d az a0 a1 e a2 f a3 a4 a5 g a6 a7 a8 a9 s hnd hnz o u w y p z aa ab ac ad ae
 refine Calls.mono (PX h m r (recol (see [a,c,d,e,f,g,ko0_2]) l) n (E9 (Nat.le_of_ble_eq_true Z) l) (BY o [a,c,d,e,f,g,ko0_2] (BU hnd hnz (i:=0) Z)) (EZ AI u [a,c,d,e,f,g,ko0_2]) (Io w [a,c,d,e,f,g,ko0_2] (BU hnd hnz (i:=6) Z)) (F2 y [a,c,d,e,f,g,ko0_2] (BU hnd hnz (i:=1) Z)) (BY p [a,c,d,e,f,g,ko0_2] (BU hnd hnz (i:=2) Z)) (Bd An z [a,c,d,e,f,g,ko0_2]) (BY aa [a,c,d,e,f,g,ko0_2] (BU hnd hnz (i:=3) Z)) (BY ab [a,c,d,e,f,g,ko0_2] (BU hnd hnz (i:=4) Z)) (Bd AG ac [a,c,d,e,f,g,ko0_2]) (BY ad [a,c,d,e,f,g,ko0_2] (BU hnd hnz (i:=5) Z)) (EZ AZ ae [a,c,d,e,f,g,ko0_2]) s) ?_
 rintro ba bb ⟨af,ag,ah,ai,aj,q,ak,al,am,an,ao⟩
 exact ⟨glue [a,c,d,e,f,g,ko0_2] n l af,ag,ah,ai,aj,B8 q (E4 Z Z),EJ o ak dcd,HR AI al,IV (j:=6) am Z Z q,EJ p an dcd,ED An ao⟩
theorem OQ(ak:AH)(bc:Nat)(bd:AH.Good ak)(a:Col)(c:World)(be:∀b,a b<10){p:Nat}{ab:(List AN)}{al:Value}{g:(List AJ)}{am:Value}{n:Nat}{an:As}{h:Nat}{ac:AF}{ao:List Value}{ad ae:Nat}{af:AE}{ap:List Value}{ag:Nat}{aq:Int}{q:(List AJ)}{ar:Value}{r:(List AN)×(List AJ)×AF}(ah:Bk a c 1 p [.map (some n),al,am,.func (.func 52) #[] [Pt h 0].toArray] 134)(au:Slc AI a.F c al ab)(ai:Own AZ 87 a c 7 am g)(bf:Mp a c 2 n an)(bg:Bk a c 3 h ao 63)(bh:An.rep a.F c ao ac)(bi:Bk a c 4 ad [Pt p 0] 130)(bj:Bk a c 5 ae ap 56)(bk:AG.rep a.F c ap af)(bl:Bk a c 6 ag [I aq] 34)(av:Slc AZ a.F c ar q)(f:GT ak bc ab g an ac af aq q=some r):
  Calls PG 83 #[Pt p 0,.func (.func 85) #[] [Pt ad 0,Pt ae 0,Pt ag 0].toArray,ar] c λbm l=>∃m aw ax ay,bm=.returned (.tuple #[])/\AU [1,3,7] a c m l/\Bk m l 1 p [.map (some n),aw,ax,.func (.func 52) #[] [Pt h 0].toArray] 134/\Slc AI m.F l aw r.1/\Own AZ 87 m l 7 ax r.2.1/\Bk m l 3 h ay 63/\An.rep m.F l ay r.2.2:=by
 rw [GT] at f
 obtain ⟨bn,bo,rfl⟩:=AW au
 obtain ⟨ck,cl,rfl⟩:=Own.len ai
 obtain rfl:=Au bh
 obtain ⟨cn,co,rfl,az⟩:=E1 (Ae bk)
 obtain ⟨cq,cr,rfl⟩:=AW av
 refine Az Tryz.func83 Z Tryz.ntmps83 Z λB bp ct=>Sr<|Vm<|Vx (Nc Z)<|Vx (Fd Fp Z)<|Vx (Ld EF Z (Bc ah Z)) ?_
 obtain ⟨cu,cv,bq⟩:=Own.len ai
 refine Vx (v:=I (g.length:Int)) (Ll Df bq)<|Va (I (g.length:Int))<|AA<|Sr<|Vm<|Vm<|Vx (Nc Z)<|Vx (Fd Fp Z)<|Vx (Ld EF Z (Bc ah Z))<|Vm<|Bi f λcw a0 f=>Ef<|Br (κ:=AZ) Z Z ai dcd QK (IY av) (Ea a0) (Ew a0) λcx br cy aj d=>?_
 obtain ⟨a1,a2,rfl⟩:=Own.len aj
 refine Vx (Nc Z)<|Vx (Fd Fp Z)<|have bt:=Bs ah d;Eu<|Bf (vs:=[Sl a1 ((g++q)) a2]) (cs':=[.map (some n),Sl bn ab bo,Sl a1 ((g++q)) a2,.func (.func 52) #[] [Pt h 0].toArray]) PK Z Z Z Z (AQ (Own.one aj) B6) bt dcd Z Z λbu bv e=>AA<|Sr<|Vm<|have bw:=Y2 bi d e;have bx:=K2 AI au d e;have bz:=Os aj e;have b0:=Ms (Ms bf d) e;have b1:=Y2 bg d e;have b2:=Y2 bj d e;have b3:=K2 AG az d e;have b4:=Y2 bl d e;Bi f λo b5 f=>Ca (ABl (vs:=[]) (caps:=[Pt ad 0,Pt ae 0,Pt ag 0]) Z Z) (bd.types_checker_want_2 br bu (ko1_2:=7) b5 dcd dcd bw bv bx bz b0 b1 (Al (x:=ac)) b2 (AY (x:=af) b3) b4) ?_
 rintro _ cz ⟨b6,c0,c1,c2,rfl,b7,a3,a4,a5,b8,b9⟩
 obtain ⟨a6,a7,rfl⟩:=AW a4
 obtain ⟨c3,c4,rfl⟩:=Own.len a5
 obtain rfl:=Au b9
 refine AA<|AM<|Vm<|Vm<|Vx (Nc Z)<|Vx (Fd Fp Z)<|Vx (Ld EF Z (Bc a3 Z))<|Vm<|Bi f λu a8 f=>?_
 obtain ⟨a9,ba,ca,cb,w⟩:=Own.sub a5 a8
 obtain ⟨c5,bb⟩:∃s,s=Value.slice (if ba=(0:Int).toNat then a9 else a9.map (·.add ((0:Int).toNat*AZ.size))) ((g.length:Int).toNat - (0:Int).toNat) (ba - (0:Int).toNat):=⟨_,rfl⟩
 rw [<-bb] at w
 obtain ⟨cc,cd,cf,_⟩:=Lp a8
 obtain ⟨y,z,rfl⟩:=Own.len w
 refine Vx (v:=.slice y u.length z) (by rw [bb];exact Run.sliceSlc Df ca Z ⟨_,Z⟩ cc cd cf cb)<|Vx (Nc Z)<|Vx (Fd Fp Z)<|Eu<|Bf (vs:=[Sl y u z]) (cs':=[.map (some n),Sl a6 o.1 a7,Sl y u z,.func (.func 52) #[] [Pt h 0].toArray]) PK Z Z Z Z (AQ (Own.one w) B6) a3 dcd Z Z λc6 cg aa=>AA ?_
 obtain rfl:=AK f
 refine NJ (B:=B) bp<|NI Z<|have ch:=Ss AI a4 aa;have ci:=Os w aa;have cj:=Bs b8 aa;⟨b6,Sl a6 o.1 a7,Sl y u z,[I o.2.2.why,I o.2.2.at_],Z,Ho (T3 (Mo [1,3,7] d) e b7 aa) be,cg,ch,ci,cj,(Al (x:=o.2.2))⟩
theorem OR(h:AH)(m:Nat)(r:AH.Good h):types_checker_in_2.Spec (GT h m):=by
 intro l n ap a aq ar au av ko0_2 aw c ax ay d az a0 a1 e a2 f a3 a4 a5 g a6 a7 a8 a9 s hnd hnz o u w y p z aa ab ac ad ae
 refine Calls.mono (OQ h m r (recol (see [a,c,d,e,f,g,ko0_2]) l) n (E9 (Nat.le_of_ble_eq_true Z) l) (BY o [a,c,d,e,f,g,ko0_2] (BU hnd hnz (i:=0) Z)) (EZ AI u [a,c,d,e,f,g,ko0_2]) (Io w [a,c,d,e,f,g,ko0_2] (BU hnd hnz (i:=6) Z)) (F2 y [a,c,d,e,f,g,ko0_2] (BU hnd hnz (i:=1) Z)) (BY p [a,c,d,e,f,g,ko0_2] (BU hnd hnz (i:=2) Z)) (Bd An z [a,c,d,e,f,g,ko0_2]) (BY aa [a,c,d,e,f,g,ko0_2] (BU hnd hnz (i:=3) Z)) (BY ab [a,c,d,e,f,g,ko0_2] (BU hnd hnz (i:=4) Z)) (Bd AG ac [a,c,d,e,f,g,ko0_2]) (BY ad [a,c,d,e,f,g,ko0_2] (BU hnd hnz (i:=5) Z)) (EZ AZ ae [a,c,d,e,f,g,ko0_2]) s) ?_
 rintro ba bb ⟨af,ag,ah,ai,aj,q,ak,al,am,an,ao⟩
 exact ⟨glue [a,c,d,e,f,g,ko0_2] n l af,ag,ah,ai,aj,B8 q (E4 Z Z),EJ o ak dcd,HR AI al,IV (j:=6) am Z Z q,EJ p an dcd,ED An ao⟩
theorem OS(ak:AH)(bc:Nat)(bd:AH.Good ak)(a:Col)(c:World)(be:∀b,a b<10){p:Nat}{ab:(List AN)}{al:Value}{g:(List AJ)}{am:Value}{n:Nat}{an:As}{h:Nat}{ac:AF}{ao:List Value}{ad ae:Nat}{af:AE}{ap:List Value}{ag:Nat}{aq:Int}{q:(List AJ)}{ar:Value}{r:(List AN)×(List AJ)×AF}(ah:Bk a c 1 p [.map (some n),al,am,.func (.func 52) #[] [Pt h 0].toArray] 134)(au:Slc AI a.F c al ab)(ai:Own AZ 87 a c 7 am g)(bf:Mp a c 2 n an)(bg:Bk a c 3 h ao 63)(bh:An.rep a.F c ao ac)(bi:Bk a c 4 ad [Pt p 0] 130)(bj:Bk a c 5 ae ap 56)(bk:AG.rep a.F c ap af)(bl:Bk a c 6 ag [I aq] 34)(av:Slc AZ a.F c ar q)(f:GU ak bc ab g an ac af aq q=some r):
  Calls PG 83 #[Pt p 0,.func (.func 86) #[] [Pt ad 0,Pt ae 0,Pt ag 0].toArray,ar] c λbm l=>∃m aw ax ay,bm=.returned (.tuple #[])/\AU [1,3,7] a c m l/\Bk m l 1 p [.map (some n),aw,ax,.func (.func 52) #[] [Pt h 0].toArray] 134/\Slc AI m.F l aw r.1/\Own AZ 87 m l 7 ax r.2.1/\Bk m l 3 h ay 63/\An.rep m.F l ay r.2.2:=by
 rw [GU] at f
 obtain ⟨bn,bo,rfl⟩:=AW au
 obtain ⟨ck,cl,rfl⟩:=Own.len ai
 obtain rfl:=Au bh
 obtain ⟨cn,co,rfl,az⟩:=E1 (Ae bk)
 obtain ⟨cq,cr,rfl⟩:=AW av
 refine Az Tryz.func83 Z Tryz.ntmps83 Z λB bp ct=>Sr<|Vm<|Vx (Nc Z)<|Vx (Fd Fp Z)<|Vx (Ld EF Z (Bc ah Z)) ?_
 obtain ⟨cu,cv,bq⟩:=Own.len ai
 refine Vx (v:=I (g.length:Int)) (Ll Df bq)<|Va (I (g.length:Int))<|AA<|Sr<|Vm<|Vm<|Vx (Nc Z)<|Vx (Fd Fp Z)<|Vx (Ld EF Z (Bc ah Z))<|Vm<|Bi f λcw a0 f=>Ef<|Br (κ:=AZ) Z Z ai dcd QK (IY av) (Ea a0) (Ew a0) λcx br cy aj d=>?_
 obtain ⟨a1,a2,rfl⟩:=Own.len aj
 refine Vx (Nc Z)<|Vx (Fd Fp Z)<|have bt:=Bs ah d;Eu<|Bf (vs:=[Sl a1 ((g++q)) a2]) (cs':=[.map (some n),Sl bn ab bo,Sl a1 ((g++q)) a2,.func (.func 52) #[] [Pt h 0].toArray]) PK Z Z Z Z (AQ (Own.one aj) B6) bt dcd Z Z λbu bv e=>AA<|Sr<|Vm<|have bw:=Y2 bi d e;have bx:=K2 AI au d e;have bz:=Os aj e;have b0:=Ms (Ms bf d) e;have b1:=Y2 bg d e;have b2:=Y2 bj d e;have b3:=K2 AG az d e;have b4:=Y2 bl d e;Bi f λo b5 f=>Ca (ABm (vs:=[]) (caps:=[Pt ad 0,Pt ae 0,Pt ag 0]) Z Z) (bd.types_checker_want_3 br bu (ko1_2:=7) b5 dcd dcd bw bv bx bz b0 b1 (Al (x:=ac)) b2 (AY (x:=af) b3) b4) ?_
 rintro _ cz ⟨b6,c0,c1,c2,rfl,b7,a3,a4,a5,b8,b9⟩
 obtain ⟨a6,a7,rfl⟩:=AW a4
 obtain ⟨c3,c4,rfl⟩:=Own.len a5
 obtain rfl:=Au b9
 refine AA<|AM<|Vm<|Vm<|Vx (Nc Z)<|Vx (Fd Fp Z)<|Vx (Ld EF Z (Bc a3 Z))<|Vm<|Bi f λu a8 f=>?_
 obtain ⟨a9,ba,ca,cb,w⟩:=Own.sub a5 a8
 obtain ⟨c5,bb⟩:∃s,s=Value.slice (if ba=(0:Int).toNat then a9 else a9.map (·.add ((0:Int).toNat*AZ.size))) ((g.length:Int).toNat - (0:Int).toNat) (ba - (0:Int).toNat):=⟨_,rfl⟩
 rw [<-bb] at w
 obtain ⟨cc,cd,cf,_⟩:=Lp a8
 obtain ⟨y,z,rfl⟩:=Own.len w
 refine Vx (v:=.slice y u.length z) (by rw [bb];exact Run.sliceSlc Df ca Z ⟨_,Z⟩ cc cd cf cb)<|Vx (Nc Z)<|Vx (Fd Fp Z)<|Eu<|Bf (vs:=[Sl y u z]) (cs':=[.map (some n),Sl a6 o.1 a7,Sl y u z,.func (.func 52) #[] [Pt h 0].toArray]) PK Z Z Z Z (AQ (Own.one w) B6) a3 dcd Z Z λc6 cg aa=>AA ?_
 obtain rfl:=AK f
 refine NJ (B:=B) bp<|NI Z<|have ch:=Ss AI a4 aa;have ci:=Os w aa;have cj:=Bs b8 aa;⟨b6,Sl a6 o.1 a7,Sl y u z,[I o.2.2.why,I o.2.2.at_],Z,Ho (T3 (Mo [1,3,7] d) e b7 aa) be,cg,ch,ci,cj,(Al (x:=o.2.2))⟩
theorem OT(h:AH)(m:Nat)(r:AH.Good h):types_checker_in_3.Spec (GU h m):=by
 intro l n ap a aq ar au av ko0_2 aw c ax ay d az a0 a1 e a2 f a3 a4 a5 g a6 a7 a8 a9 s hnd hnz o u w y p z aa ab ac ad ae
 refine Calls.mono (OS h m r (recol (see [a,c,d,e,f,g,ko0_2]) l) n (E9 (Nat.le_of_ble_eq_true Z) l) (BY o [a,c,d,e,f,g,ko0_2] (BU hnd hnz (i:=0) Z)) (EZ AI u [a,c,d,e,f,g,ko0_2]) (Io w [a,c,d,e,f,g,ko0_2] (BU hnd hnz (i:=6) Z)) (F2 y [a,c,d,e,f,g,ko0_2] (BU hnd hnz (i:=1) Z)) (BY p [a,c,d,e,f,g,ko0_2] (BU hnd hnz (i:=2) Z)) (Bd An z [a,c,d,e,f,g,ko0_2]) (BY aa [a,c,d,e,f,g,ko0_2] (BU hnd hnz (i:=3) Z)) (BY ab [a,c,d,e,f,g,ko0_2] (BU hnd hnz (i:=4) Z)) (Bd AG ac [a,c,d,e,f,g,ko0_2]) (BY ad [a,c,d,e,f,g,ko0_2] (BU hnd hnz (i:=5) Z)) (EZ AZ ae [a,c,d,e,f,g,ko0_2]) s) ?_
 rintro ba bb ⟨af,ag,ah,ai,aj,q,ak,al,am,an,ao⟩
 exact ⟨glue [a,c,d,e,f,g,ko0_2] n l af,ag,ah,ai,aj,B8 q (E4 Z Z),EJ o ak dcd,HR AI al,IV (j:=6) am Z Z q,EJ p an dcd,ED An ao⟩
end Fth
