/- Part 3 of the proof: what it says holds of the given program; no condition. -/
import Derived.Test.YtiodboehkcmdnaaGreatProg
import Derived.KernelRfl
import Derived.Test.YtiodboehkcmdnaaGreatWB
set_option linter.all false
set_option exponentiation.threshold 3000
namespace Fth
open Go Go.Proofs Sh
set_option maxRecDepth 100000
set_option maxHeartbeats 8000000
theorem PI(r:Nat)(c7:Col)(er:World)(es:∀b,c7 b<10):Cz.At True True c7 er (Cz r) 1:=by
 intro e u ji dy av a _ _ c8 et
 rw [Cz] at a
 obtain ⟨eu,ew,rfl,b2⟩:=E1 (AZ et)
 refine Ay Tryz.func74 Z Tryz.ntmps74 Z fun B ex c=>Sr<|Ef<|AY c7 20 KS Z fun c9 da a1 ey a2=>AA<|Am (fun w bk=>∃m bl bb db dc b3 x63 b4 b5 b6 b7 b8 b9,w=Env.puts m [(0,Pt e 0),(4,Pt a1 0)]∧EI r bb b3 x63 b4 b5 b6 b7 b8 b9=some av∧AS [1] c9 da bl bk∧Slc Ah bl.F bk (Sl db bb dc) bb∧Bk bl bk 1 e [Sl db bb dc,I b3,I x63,I b4,I b5,I b6,I b7,I b8,I b9] 126) ?_ ?_
 refine Am (fun w de=>∃m ca df,w=Env.puts m [(0,Pt e 0),(4,Pt a1 0),(21,.bool df)]∧EJ r u df=some av∧AS [] c9 da ca de) ?_ ?_
 refine AL<|Vm<|have dz:=Bs c8 a2;have ez:=Ss Ah b2 a2;Bi a fun bc e0 a=>Ca (Cg [Pt e 0] Z) (CW c9 da e0 dcd dcd dz (AN (x:=u) ez)) ?_
 rintro _ jk ⟨d0,jl,rfl,dg,e1⟩
 obtain rfl:=DM e1
 refine Vx (v:=I bc.kind) (Kr (cs:=[I bc.kind,Sb bc.text,Cx bc.num,I bc.at_]) Q1 Z Z)<|Vr (.bool (bc.kind==0))<|Vm<|Bo a (fun p a=>?_) fun p a=>?_
 refine Gm p<|Gm p<|Gx p (Nc Z)<|Gx p (Fd Qy Z)<|Gx p (Fd ZH Z)<|have e2:=Bs dz dg;Gx p (Ld BC Z (Bc e2 Z))<|Gr p (.bool (decide (dy≥u.l.funcs)))<|Vp p<|AA<|⟨_,d0,(decide (dy≥u.l.funcs)),Pu,a,(Mo [] dg)⟩
 refine Pg p<|Pg p<|Pg p<|Pg p<|Pg p<|Pg p<|Pg p<|Vp p<|AA<|⟨_,d0,false,Pu,a,(Mo [] dg)⟩
 rintro _ de ⟨m,ca,df,rfl,a,bd⟩
 rw [EJ] at a
 refine Cn a (fun e3 a=>?_) fun e3 a=>?_
 refine AL<|Vm<|have e4:=Y2 c8 a2 bd;have e5:=K2 Ah b2 a2 bd;Bi a fun ad e6 a=>Ca (Cg [Pt e 0,I 22] Z) (FO ca de e6 dcd dcd e4 (AN (x:=u) e5)) ?_
 rintro _ jm ⟨e7,jn,rfl,e8,e9,fa⟩
 obtain ⟨fb,fc,rfl,d1⟩:=E1 (AZ fa)
 refine AA<|⟨_,e7,ad.marks,fb,fc,ad.at_,ad.why,ad.where_,ad.l.text,ad.l.funcs,ad.l.arity,ad.l.nest,ad.nest,Pu,a,(Tn (Mo [1] bd) e8),d1,e9⟩
 refine WC.skip<|have fd:=K2 Ah b2 a2 bd;have fe:=Y2 c8 a2 bd;⟨_,ca,u.marks,eu,ew,u.at_,u.why,u.where_,u.l.text,u.l.funcs,u.l.arity,u.l.nest,u.nest,Pu,a,(Mo [1] bd),fd,fe⟩
 rintro _ bk ⟨m,bl,bb,db,dc,b3,x63,b4,b5,b6,b7,b8,b9,rfl,a,d2,ff,fg⟩
 rw [EI] at a
 refine Sr<|Vm<|Bi a fun h fh a=>Ca (Cg [Pt e 0] Z) (H9 bl bk fh dcd dcd fg (AN (x:=(AC.mk bb b3 x63 b4 (Ai.mk b5 b6 b7 b8) b9)) ff)) ?_
 rintro _ jp ⟨fi,jq,jr,rfl,d3,fj,fk,fl⟩
 obtain rfl:=DM fj
 obtain ⟨jt,ju,rfl,d4⟩:=E1 (AZ fl)
 refine Ef<|AY fi 21 G9 Z fun fm jv jw fn cb=>Eu<|St HN fn Z Z Z Z fun jx d5 cc=>AA<|Sr<|Vx (Fd Fm Z)<|Vx (Ld CG Z (Bc d5 Z))<|Vx (Fd Ls Z)<|Vx (Ld BC Z (Bc d5 Z))<|Vx (v:=Ag [Sb h.1.text,.slice none 0 0,I 0,I 0,Sb ([]:Bts),Sb ([]:Bts),I 0,Cx (((0,0):Nat×Nat)),.slice none 0 0,I 0,I h.1.at_]) (Bp KS ZT Z (.cons Z Z Z (.cons Z Z Z .nil)))<|Ef<|AY fm 22 KS Z fun fo jy be fp cd=>Eu<|St LB fp Z Z Z Z fun fq fr cf=>AA<|Sr<|Vm<|have fs:=Y4 fk cb cc cd cf;have ft:=K4 Ah d4 cb cc cd cf;Bi a fun ae fu a=>Ca (Cg [Pt e 0,Sb ([40]:Bts)] Z) (BZ fo fq fu dcd dcd fs (AN (x:=h.2) ft)) ?_
 rintro _ fv ⟨d6,jz,rfl,dh,fw,fx⟩
 obtain ⟨fy,fz,rfl,d7⟩:=E1 (AZ fx)
 refine AA<|AR<|Af<|Bg (fun aw w ax=>∃m af y cg ch ag aa ah ai aj ak al am g ay az,w=Env.puts m [(0,Pt e 0),(4,Pt a1 0),(6,Pt be 0)]∧Bj r h aw y ag aa ah ai aj ak al am g=some av∧AS [1,22,23,25] d6 fv af ax∧Slc Ah af.F ax (Sl cg y ch) y∧Own Ab 87 af ax 25 (Sl ay g az) g∧Bk af ax 1 e [Sl cg y ch,I ag,I aa,I ah,I ai,I aj,I ak,I al,I am] 126∧Bk af ax 22 be [Sb h.1.text,Sl ay g az,I 0,I 0,Sb ([]:Bts),Sb ([]:Bts),I 0,Cx (((0,0):Nat×Nat)),.slice none 0 0,I 0,I h.1.at_] 58) r ?_ ?_
 refine have f0:=Bs fr dh;⟨_,d6,ae.marks,fy,fz,ae.at_,ae.why,ae.where_,ae.l.text,ae.l.funcs,ae.l.arity,ae.l.nest,ae.nest,([]:List AJ),none,0,Pu,a,(AS.refl [1,22,23,25] _ _),d7,Own.nil,fw,f0⟩
 rintro aw _ ax ⟨m,af,y,cg,ch,ag,aa,ah,ai,aj,ak,al,am,g,ay,az,rfl,a,di,ci,cj,bm,ck⟩
 rcases aw with _|aw
 exact A5 a
 refine have a:DR r h (Bj r h aw) y ag aa ah ai aj ak al am g=some av:=a; ?_
 obtain ⟨cl,d8⟩:∃s,s=Bj r h aw:=⟨_,rfl⟩
 rw [←d8,DR] at a
 refine AR<|Am (fun w bn=>∃m bf dj,w=Env.puts m [(0,Pt e 0),(4,Pt a1 0),(6,Pt be 0),(42,.bool dj)]∧Dg r h y ag aa ah ai aj ak al am g cl dj=some av∧AS [] af ax bf bn) ?_ ?_
 refine AL<|Vm<|Vx (Nc Z)<|Vx (Fd JU Z)<|Vx (Ld BC Z (Bc bm Z))<|Vr (.bool (aa==0))<|Vm<|Bo a (fun an a=>?_) fun an a=>?_
 refine Gm an<|Bi a fun d9 f1 a=>CT (.guard (t:=true) (b:=true) Z Z Z Z (Cb an)) Z Z (Cg [Pt e 0,Sb ([41]:Bts)] Z)<|Calls.mono (DA af ax f1 dcd dcd bm (AN (x:=(AC.mk y ag aa ah (Ai.mk ai aj ak al) am)) ci)) ?_
 rintro _ j1 ⟨f2,rfl,f3⟩
 refine ⟨_,Z,?_⟩
 refine Gr an (.bool (!d9))<|Vp an<|AA<|⟨_,f2,(!d9),Pu,a,(Mo [] f3)⟩
 refine Pg an<|Pg an<|Pg an<|Vp an<|AA<|⟨_,af,false,Pu,a,Rf⟩
 rintro _ bn ⟨m,bf,dj,rfl,a,q⟩
 rw [Dg] at a
 refine Cn a (fun f4 a=>?_) fun f4 a=>?_
 refine WC.skip<|Af<|Am (fun w bg=>∃m ao ap cm cn a3 aq a4 a5 a6 ab a7 a8,w=Env.puts m [(0,Pt e 0),(4,Pt a1 0),(6,Pt be 0)]∧EH r g cl ap a3 aq a4 a5 a6 ab a7 a8=some av∧AS [1] bf bn ao bg∧Slc Ah ao.F bg (Sl cm ap cn) ap∧Bk ao bg 1 e [Sl cm ap cn,I a3,I aq,I a4,I a5,I a6,I ab,I a7,I a8] 126) ?_ ?_
 refine Sr<|Vx (Fd EY Z)<|have f5:=Bs ck q;Vx (Ld Ey Z (Bc f5 Z))<|have f6:=Os cj q; ?_
 obtain ⟨j2,j3,f7⟩:=Own.len f6
 refine Vx (v:=I (g.length:Int)) (Ll D9 f7)<|Vr (.bool (decide ((g.length:Int)>0)))<|AA<|Cn a (fun f8 a=>?_) fun f8 a=>?_
 refine AL<|Vm<|have f9:=Bs bm q;have ga:=Ss Ah ci q;Bi a fun ar gb a=>Ca (Cg [Pt e 0,Sb ([44]:Bts)] Z) (BZ bf bn gb dcd dcd f9 (AN (x:=(AC.mk y ag aa ah (Ai.mk ai aj ak al) am)) ga)) ?_
 rintro _ j4 ⟨gc,j5,rfl,gd,ge,gf⟩
 obtain ⟨gg,gh,rfl,ea⟩:=E1 (AZ gf)
 refine AA<|⟨_,gc,ar.marks,gg,gh,ar.at_,ar.why,ar.where_,ar.l.text,ar.l.funcs,ar.l.arity,ar.l.nest,ar.nest,Pu,a,(Mo [1] gd),ea,ge⟩
 refine WC.skip<|have gi:=Ss Ah ci q;have gj:=Bs bm q;⟨_,bf,y,cg,ch,ag,aa,ah,ai,aj,ak,al,am,Pu,a,(AS.refl [1] _ _),gi,gj⟩
 rintro _ bg ⟨m,ao,ap,cm,cn,a3,aq,a4,a5,a6,ab,a7,a8,rfl,a,bo,dk,dl⟩
 rw [EH] at a
 refine Am (fun w bp=>∃m bq bh dm dn co cq cr ct cu cv cw cx,w=Env.puts m [(0,Pt e 0),(4,Pt a1 0),(6,Pt be 0)]∧EG r g cl bh co cq cr ct cu cv cw cx=some av∧AS [1] ao bg bq bp∧Slc Ah bq.F bp (Sl dm bh dn) bh∧Bk bq bp 1 e [Sl dm bh dn,I co,I cq,I cr,I ct,I cu,I cv,I cw,I cx] 126) ?_ ?_
 refine Am (fun w dp=>∃m cy dq,w=Env.puts m [(0,Pt e 0),(4,Pt a1 0),(6,Pt be 0),(70,.bool dq)]∧Df r g cl ap a3 aq a4 a5 a6 ab a7 a8 dq=some av∧AS [] ao bg cy dp) ?_ ?_
 refine BW Cv (qs 0 7 (.one 7 (qs 8 14 .nil))) [] [] ao (by kernel_rfl) fun gk a9=>Qx c Z (v:=Pt e 0) (fun _ _=>Mv Z)<|Qx c Z (fun _ _=>Nc Z)<|Qx c Z (fun _ _=>Fd JU Z)<|have dr:=Bs dl a9;Qx c Z (fun _ ⟨_,f⟩=>Ld BC Z (Bc (Bs dr f) Z))<|Qx c Z (v:=.bool (aq==0)) (fun _ _=>Z)<|Qx c Z (v:=.bool (aq==0)) (fun _ _=>Mv Z)<|Bo a (fun z a=>?_) fun z a=>?_
 refine Qg c Z z (v:=Pt e 0) (fun _ _=>Mv Z)<|A1 Z<|have gl:=Ss Ah dk a9;Bi a fun a0 gm a=>A3 Z (.guard (t:=true) (b:=true) Z Z Z Z (Cb z)) Z Z (Cg [Pt e 0] Z)<|Calls.mono (CW ao gk gm dcd dcd dr (AN (x:=(AC.mk ap a3 aq a4 (Ai.mk a5 a6 ab a7) a8)) gl)) ?_
 rintro _ j7 ⟨eb,j8,rfl,ds,gn⟩
 obtain rfl:=DM gn
 refine ⟨_,Z,⟨_,(Mo [] ds)⟩,?_⟩
 refine Qg c Z z (v:=I a0.kind) (fun _ _=>Kr (cs:=[I a0.kind,Sb a0.text,Cx a0.num,I a0.at_]) Q1 Z Z)<|Qg c Z z (v:=.bool (a0.kind==0)) (fun _ _=>Z)<|Qx c Z (v:=.bool (a0.kind==0)) (fun _ _=>(Pk z))<|Qx c Z (v:=.bool (a0.kind==0)) (fun _ _=>Mv Z)<|Bo a (fun l a=>?_) fun l a=>?_
 refine Qg c Z l (fun _ _=>Fd EY Z)<|Qg c Z l (fun _ ⟨_,f⟩=>Ld Ey Z (Bc (Y4 ck q bo a9 f) Z)) ?_
 obtain ⟨j9,ka,go⟩:=Own.len (Os (Os (Os cj q) bo) a9)
 refine Qg c Z l (v:=I (g.length:Int)) (fun _ _=>Ll D9 go)<|Qg c Z l (v:=Pt e 0) (fun _ _=>Mv Z)<|Qg c Z l (fun _ _=>Nc Z)<|Qg c Z l (fun _ _=>Fd Qy Z)<|Qg c Z l (fun _ _=>Fd ZI Z)<|Qg c Z l (fun _ ⟨_,f⟩=>Ld BC Z (Bc (Bs dr f) Z))<|Qg c Z l (v:=.bool (decide ((g.length:Int)≥ab))) (fun _ _=>Z)<|Qx c Z (v:=.bool (decide ((g.length:Int)≥ab))) (fun _ _=>(Pk l))<|B9<|⟨_,eb,(decide ((g.length:Int)≥ab)),Pu,a,(Tn (Mo [] a9) ds)⟩
 refine Qp c Z l<|Qp c Z l<|Qp c Z l<|Qp c Z l<|Qp c Z l<|Qp c Z l<|Qp c Z l<|Qp c Z l<|Qp c Z l<|Qx c Z (v:=.bool false) (fun _ _=>(Pk l))<|B9<|⟨_,eb,false,Pu,a,(Tn (Mo [] a9) ds)⟩
 refine Qp c Z z<|A1 Z<|MP Z (.guard (t:=false) (b:=true) Z Z Z Z (Cb z)) Z Z<|⟨⟨_,Rf⟩,?_⟩
 refine Qp c Z z<|Qp c Z z<|Qx c Z (v:=.bool false) (fun _ _=>(Pk z))<|Qx c Z (v:=.bool false) (fun _ _=>Mv Z)<|Qp c Z Z<|Qp c Z Z<|Qp c Z Z<|Qp c Z Z<|Qp c Z Z<|Qp c Z Z<|Qp c Z Z<|Qp c Z Z<|Qp c Z Z<|Qx c Z (v:=.bool false) (fun _ _=>Z)<|B9<|⟨_,ao,false,Pu,a,(Mo [] a9)⟩
 rintro _ dp ⟨m,cy,dq,rfl,a,bi⟩
 rw [Df] at a
 refine Cn a (fun gp a=>?_) fun gp a=>?_
 refine AL<|Vm<|have gq:=Bs dl bi;have gr:=Ss Ah dk bi;Bi a fun au gs a=>Ca (Cg [Pt e 0,I 22] Z) (FO cy dp gs dcd dcd gq (AN (x:=(AC.mk ap a3 aq a4 (Ai.mk a5 a6 ab a7) a8)) gr)) ?_
 rintro _ kb ⟨gt,kc,rfl,gu,gv,gw⟩
 obtain ⟨gx,gy,rfl,ec⟩:=E1 (AZ gw)
 refine AA<|⟨_,gt,au.marks,gx,gy,au.at_,au.why,au.where_,au.l.text,au.l.funcs,au.l.arity,au.l.nest,au.nest,Pu,a,(Tn (Mo [1] bi) gu),ec,gv⟩
 refine WC.skip<|have gz:=Ss Ah dk bi;have g0:=Bs dl bi;⟨_,cy,ap,cm,cn,a3,aq,a4,a5,a6,ab,a7,a8,Pu,a,(Mo [1] bi),gz,g0⟩
 rintro _ bp ⟨m,bq,bh,dm,dn,co,cq,cr,ct,cu,cv,cw,cx,rfl,a,dt,g1,g2⟩
 rw [EG] at a
 refine Sr<|Vm<|Bi a fun n g3 a=>Ca (Cg [Pt e 0] Z) (H9 bq bp g3 dcd dcd g2 (AN (x:=(AC.mk bh co cq cr (Ai.mk ct cu cv cw) cx)) g1)) ?_
 rintro _ ke ⟨g4,kf,kg,rfl,du,g5,g6,g7⟩
 obtain rfl:=DM g5
 obtain ⟨ki,kj,rfl,ed⟩:=E1 (AZ g7)
 refine Ef<|AY g4 23 G9 Z fun g8 kk kl g9 br=>Eu<|St HN g9 Z Z Z Z fun ha hb bt=>AA<|Sr<|Vm<|have hc:=Y2 g6 br bt;have hd:=K2 Ah ed br bt;Bi a fun o he a=>Ca (Cg [Pt e 0] Z) (Jy r g8 ha he dcd dcd hc (AN (x:=n.2) hd)) ?_
 rintro _ km ⟨hf,kn,rfl,cz,hg,hh⟩
 obtain ⟨hi,hj,rfl,ee⟩:=E1 (AZ hh)
 refine Va (I o.1)<|AA<|AL<|Vx (Fd EY Z)<|have ef:=Y3 (Y4 ck q bo dt du) br bt cz;Vx (Ld Ey Z (Bc ef Z))<|Vx (Fd Fm Z)<|have eg:=Bs hb cz;Vx (Ld CG Z (Bc eg Z))<|Vm<|Vx (Fd Ls Z)<|Vx (Ld BC Z (Bc eg Z))<|Vx (v:=Ag [Sb n.1.text,I o.1,I n.1.at_]) (Bp MG Q3 Z (.cons Z Z Z (.cons Z Z Z (.cons Z Z Z .nil))))<|Ef<|Ch (cs:=[Sb n.1.text,I o.1,I n.1.at_]) hf 24 [[Sb n.1.text,I o.1,I n.1.at_]] D9 MG Z Z (.cons Z Z Z .nil) Z fun hk hl hm hn bu=>have ho:Own Ab 87 hk hl 24 (.slice (some ⟨hm,0,none⟩) 1 1) ([(AJ.mk n.1.text o.1 n.1.at_)]:List AJ):=Own.lit (css:=[[Sb n.1.text,I o.1,I n.1.at_]]) hn Z Z Z (Aa (LG (x:=(AJ.mk n.1.text o.1 n.1.at_))) BA) (A4 Z D3) Z;have hp:=Os (Os (Os (Os (Os (Os (Os (Os cj q) bo) dt) du) br) bt) cz) bu;Bi a fun kp eh a=>Ef<|Bu (κ:=Ab) Z Z hp dcd P7 (CC ho) (Et eh) (E6 eh) fun kq hq kr dv c0=>?_
 obtain ⟨dw,dx,rfl⟩:=Own.len dv
 refine Vx (Fd EY Z)<|have hr:=Y2 ef bu c0;Eu<|Bv (vs:=[Sl dw ((g++([(AJ.mk n.1.text o.1 n.1.at_)]:List AJ))) dx]) (cs':=[Sb h.1.text,Sl dw ((g++([(AJ.mk n.1.text o.1 n.1.at_)]:List AJ))) dx,I 0,I 0,Sb ([]:Bts),Sb ([]:Bts),I 0,Cx (((0,0):Nat×Nat)),.slice none 0 0,I 0,I h.1.at_]) O6 Z Z Z Z (AX (Own.one dv) CJ) hr dcd Z Z fun ks hs c1=>AA<|have ht:=K3 Ah ee bu c0 c1;have hu:=Os dv c1;have hw:=Y3 hg bu c0 c1;⟨aw,Nat.lt_succ_self aw,_,hq,o.2.marks,hi,hj,o.2.at_,o.2.why,o.2.where_,o.2.l.text,o.2.l.funcs,o.2.l.arity,o.2.l.nest,o.2.nest,(g++([(AJ.mk n.1.text o.1 n.1.at_)]:List AJ)),dw,dx,Pu,(d8▸a),(T2 (T4 (T4 (Mo [1,22,23,25] di) q bo dt du) br bt cz bu) c0 c1),ht,hu,hw,hs⟩
 refine Ba<|Sr<|Vm<|have hx:=Bs bm q;have hy:=Ss Ah ci q;Bi a fun hz h0 a=>Ca (Cg [Pt e 0,Sb ([41]:Bts)] Z) (BZ bf bn h0 dcd dcd hx (AN (x:=(AC.mk y ag aa ah (Ai.mk ai aj ak al) am)) hy)) ?_
 rintro _ h1 ⟨h2,kt,rfl,c2,h3,h4⟩
 obtain ⟨kv,kw,rfl,ei⟩:=E1 (AZ h4)
 refine AA<|Sr<|Vm<|Bi a fun h5 h6 a=>Ca (Cg [Pt e 0,Sb ([58]:Bts)] Z) (BZ h2 h1 h6 dcd dcd h3 (AN (x:=hz) ei)) ?_
 rintro _ h7 ⟨h8,kx,rfl,c3,h9,ia⟩
 obtain ⟨kz,k0,rfl,ej⟩:=E1 (AZ ia)
 refine AA<|Sr<|Vm<|Bi a fun ba ib a=>Ca (Cg [Pt e 0] Z) (Jy r h8 h7 ib dcd dcd h9 (AN (x:=h5) ej)) ?_
 rintro _ k1 ⟨ic,k2,rfl,c4,id,ie⟩
 obtain ⟨k4,k5,rfl,ek⟩:=E1 (AZ ie)
 refine Vx (Fd O0 Z)<|have ig:=Y4 ck q c2 c3 c4;Eu<|St Xf ig Z Z Z Z fun ih ii bv=>AA<|Sr<|Vm<|have ij:=Bs id bv;have ik:=Ss Ah ek bv;Bi a fun il im a=>Ca (Cg [Pt e 0,Sb ([61]:Bts)] Z) (BZ ic ih im dcd dcd ij (AN (x:=ba.2) ik)) ?_
 rintro _ io ⟨ip,k6,rfl,c5,iq,ir⟩
 obtain ⟨k8,k9,rfl,el⟩:=E1 (AZ ir)
 refine AA<|Sr<|Vm<|Bi a fun d it a=>Ca (Cg [Pt e 0] Z) (PH r ip io it dcd dcd iq (AN (x:=il) el)) ?_
 rintro _ la ⟨iu,lb,lc,rfl,c6,iv,iw,ix⟩
 obtain ⟨bw,bx,rfl,em⟩:=E1 (Ae iv)
 obtain ⟨lf,lg,rfl,en⟩:=E1 (AZ ix)
 refine Vx (Fd ME Z)<|have iy:=Y2 ii c5 c6;Eu<|St D1 iy Z Z Z Z fun iz i0 bj=>AA<|Sr<|Vm<|have i1:=Bs iw bj;have i2:=Ss Ah en bj;Bi a fun ac i3 a=>Ca (Cg [Pt e 0,Sb ([59]:Bts)] Z) (BZ iu iz i3 dcd dcd i1 (AN (x:=d.2) i2)) ?_
 rintro _ lh ⟨li,lj,rfl,bz,i4,i5⟩
 obtain ⟨i6,i7,rfl,eo⟩:=E1 (AZ i5)
 refine AA<|Sr<|have i8:=Bs i0 bz;Vx (Lx MD Z Z (Bw i8))<|have i9:=Bs (Y4 (Y4 (Y4 (Y4 ey d2 d3 cb cc) cd cf dh di) q c2 c3 c4) bv c5 c6 bj) bz;have ep:=Os (Os (Os (Os (Os (Os (Os (Os (Os cj q) c2) c3) c4) bv) c5) c6) bj) bz;have eq:=K2 AH em bj bz;Eu<|Bv (vs:=[Sb h.1.text,Sl ay g az,I ba.1,I d.1.op,Sb d.1.name,Sb d.1.tail,I d.1.type_,Cx d.1.num,Sl bw d.1.args bx,I d.1.at_,I h.1.at_]) (cs':=[Sb h.1.text,Sl ay g az,I ba.1,I d.1.op,Sb d.1.name,Sb d.1.tail,I d.1.type_,Cx d.1.num,Sl bw d.1.args bx,I d.1.at_,I h.1.at_]) LB Z Z Z Z (AX Z (AX (Own.one ep) (AX Z (AX Z (AX Z (AX Z (AX Z (AX Z (AX (E8 eq) (AX Z (AX Z CJ))))))))))) i9 dcd Z Z fun ll ja b0=>AA<|AQ<|have jb:=Os ep b0; ?_
 obtain ⟨jc,b1,jd⟩:=Own.freeze (S:=[25]) jb dcd dcd
 obtain rfl:=AK a
 refine have je:=Bs ja b1;O1 B ex Z (.agg MD Z Z (Bw je))<|have jf:=K2 AH eq b0 b1;have jg:=Y2 i4 b0 b1;have jh:=K2 Ah eo b0 b1;⟨jc,[Sb h.1.text,Sl ay g az,I ba.1,I d.1.op,Sb d.1.name,Sb d.1.tail,I d.1.type_,Cx d.1.num,Sl bw d.1.args bx,I d.1.at_,I h.1.at_],[Sl i6 ac.marks i7,I ac.at_,I ac.why,I ac.where_,I ac.l.text,I ac.l.funcs,I ac.l.arity,I ac.l.nest,I ac.nest],Z,Ho (T3 (T4 (T4 (T4 (T4 (Mo [1,20,21,22,23,25] a2) d2 d3 cb cc) cd cf dh di) q c2 c3 c4) bv c5 c6 bj) bz b0 b1) es,(Mg (x:=(AO.mk h.1.text g ba.1 d.1 h.1.at_)) jd jf),jg,(AN (x:=ac) jh)⟩
theorem Pp(d:Nat):Cz.Spec (Cz d):=lk1 (PI d)
def B7.At(G1 G2:Prop)(e:Col)(a:World)(f:AC→Option (AM×AC))(g:Nat):Prop:=
 ∀{h m n l},f m=some l→G1→G2→Bk e a g h n 126→BR.rep e.F a n m→
  Calls PG 48 #[Pt h 0] a fun q c=>∃d o p,q=.returned (Ag o)∧AS [g] e a d c∧CK.rep d.F c o l.1∧Bk d c g h p 126∧BR.rep d.F c p l.2
def B7.Spec(f:AC→Option (AM×AC)):Prop:=
 ∀c d {a},B7.At ([a].Nodup) (0∉[a]) c d f a
theorem Nf(z:Nat)(ay:Col)(bq:World)(br:∀b,ay b<10):B7.At True True ay bq (B7 z) 1:=by
 intro ai n di az c _ _ bt bu
 rw [B7] at c
 obtain ⟨bv,bw,rfl,be⟩:=E1 (AZ bu)
 refine Ay Tryz.func48 Z Tryz.ntmps48 Z fun B bx dk=>Sr<|Ef<|AY ay 20 KR Z fun bz dl bf b0 a0=>AA<|Sr<|Ef<|AY bz 21 KR Z fun bg b1 a1 b2 ak=>AA<|AR<|Af<|Bg (fun aa a2 ab=>∃aj l f al am o m p q r u w y d ac ad,a2=Env.puts aj [(0,Pt ai 0),(2,Pt bf 0),(3,Pt a1 0)]∧Bd z aa f o m p q r u w y d=some az∧AS [1,21,22,24] bg b1 l ab∧Slc Ah l.F ab (Sl al f am) f∧Own AI 58 l ab 24 (Sl ac d ad) d∧Bk l ab 1 ai [Sl al f am,I o,I m,I p,I q,I r,I u,I w,I y] 126∧Bk l ab 21 a1 [Sl ac d ad] 28) z ?_ ?_
 refine have b3:=K2 Ah be a0 ak;have b4:=Y2 bt a0 ak;⟨_,bg,n.marks,bv,bw,n.at_,n.why,n.where_,n.l.text,n.l.funcs,n.l.arity,n.l.nest,n.nest,([]:List AO),none,0,Pu,c,(AS.refl [1,21,22,24] _ _),b3,Own.nil,b4,b2⟩
 rintro aa _ ab ⟨aj,l,f,al,am,o,m,p,q,r,u,w,y,d,ac,ad,rfl,c,a3,a4,a5,an,a6⟩
 rcases aa with _|aa
 exact A5 c
 refine have c:CL z (Bd z aa) f o m p q r u w y d=some az:=c; ?_
 obtain ⟨b5,bh⟩:∃s,s=Bd z aa:=⟨_,rfl⟩
 rw [←bh,CL] at c
 refine AR<|Am (fun a2 a7=>∃aj a8 a9,a2=Env.puts aj [(0,Pt ai 0),(2,Pt bf 0),(3,Pt a1 0),(21,.bool a9)]∧CE z f o m p q r u w y d b5 a9=some az∧AS [] l ab a8 a7) ?_ ?_
 refine AL<|Vm<|Vx (Nc Z)<|Vx (Fd JU Z)<|Vx (Ld BC Z (Bc an Z))<|Vr (.bool (m==0))<|Vm<|Bo c (fun e c=>?_) fun e c=>?_
 refine Gx e (Fz EX Z)<|Gx e (Ld G8 Z (Bc a6 Z)) ?_
 obtain ⟨dm,dn,b6⟩:=Own.len a5
 refine Gx e (v:=I (d.length:Int)) (Ll GI b6)<|Gr e (.bool ((d.length:Int)==0))<|Gm e<|Bo c (fun g c=>?_) fun g c=>?_
 refine Pg g<|Pg g<|Pg g<|Pg g<|Gp e g<|Vp e<|AA<|⟨_,l,true,Pu,c,Rf⟩
 refine Gm g<|Bi c fun ae b7 c=>CT (.guard (t:=false) (b:=false) Z Z Z Z (Cb g)) Z Z (Cg [Pt ai 0] Z)<|Calls.mono (CW l ab b7 dcd dcd an (AN (x:=(AC.mk f o m p (Ai.mk q r u w) y)) a4)) ?_
 rintro _ dp ⟨b8,dq,rfl,b9,ca⟩
 obtain rfl:=DM ca
 refine ⟨_,Z,?_⟩
 refine Gx g (v:=I ae.kind) (Kr (cs:=[I ae.kind,Sb ae.text,Cx ae.num,I ae.at_]) Q1 Z Z)<|Gr g (.bool (ae.kind != 4))<|Gp e g<|Vp e<|AA<|⟨_,b8,(ae.kind != 4),Pu,c,(Mo [] b9)⟩
 refine Pg e<|Pg e<|Pg e<|Pg e<|Pg e<|Po<|Po<|Po<|Po<|Pg e<|Vp e<|AA<|⟨_,l,false,Pu,c,Rf⟩
 rintro _ a7 ⟨aj,a8,a9,rfl,c,h⟩
 rw [CE] at c
 refine Cn c (fun cb c=>?_) fun cb c=>?_
 refine WC.skip<|Af<|Sr<|Vm<|Vx (Fz EX Z)<|have bi:=Bs a6 h;Vx (Ld G8 Z (Bc bi Z))<|have bj:=Os a5 h; ?_
 obtain ⟨dr,ds,cc⟩:=Own.len bj
 refine Vx (v:=I (d.length:Int)) (Ll GI cc)<|have cd:=Bs an h;have cf:=Ss Ah a4 h;Bi c fun a cg c=>Ca (Cg [Pt ai 0,I (d.length:Int)] Z) (Pp z a8 a7 cg dcd dcd cd (AN (x:=(AC.mk f o m p (Ai.mk q r u w) y)) cf)) ?_
 rintro _ dt ⟨ch,du,dv,rfl,ba,ci,cj,ck⟩
 obtain ⟨dw,dx,rfl,bk,bl⟩:=Cl ci
 obtain ⟨ao,ap,rfl⟩:=AT bk
 obtain ⟨aq,ar,rfl⟩:=AT bl
 obtain ⟨cl,cm,rfl,bm⟩:=E1 (AZ ck)
 refine Ef<|AY ch 22 KS Z fun cn dz d0 co af=>have cq:=Ss Ab bk af;have cr:=Ss AH bl af;Eu<|St LB co Z Z Z Z fun d1 ct ag=>AA<|AL<|Vx (Fz EX Z)<|have bn:=Y3 bi ba af ag;Vx (Ld G8 Z (Bc bn Z))<|Vx (Lx MD Z Z (Bw ct))<|Ef<|Ch (cs:=[Sb a.1.name,Sl ao a.1.params ap,I a.1.type_,I a.1.body.op,Sb a.1.body.name,Sb a.1.body.tail,I a.1.body.type_,Cx a.1.body.num,Sl aq a.1.body.args ar,I a.1.body.at_,I a.1.at_]) cn 23 [[Sb a.1.name,Sl ao a.1.params ap,I a.1.type_,I a.1.body.op,Sb a.1.body.name,Sb a.1.body.tail,I a.1.body.type_,Cx a.1.body.num,Sl aq a.1.body.args ar,I a.1.body.at_,I a.1.at_]] GI KS Z Z (.cons Z Z Z .nil) Z fun cu cv cw cx ah=>have cy:=K2 Ab cq ag ah;have cz:=K2 AH cr ag ah;have c0:Own AI 58 cu cv 23 (.slice (some ⟨cw,0,none⟩) 1 1) ([a.1]:List AO):=Own.lit (css:=[[Sb a.1.name,Sl ao a.1.params ap,I a.1.type_,I a.1.body.op,Sb a.1.body.name,Sb a.1.body.tail,I a.1.body.type_,Cx a.1.body.num,Sl aq a.1.body.args ar,I a.1.body.at_,I a.1.at_]]) cx Z Z Z (Aa (Mg (x:=a.1) cy cz) BA) (A4 Z D3) Z;have c1:=Os (Os (Os (Os bj ba) af) ag) ah;Bi c fun d2 bo c=>Ef<|Bu (κ:=AI) Z Z c1 dcd ABk (CC c0) (Et bo) (E6 bo) fun d3 c2 d4 bb au=>?_
 obtain ⟨bc,bd,rfl⟩:=Own.len bb
 refine Vx (Fz EX Z)<|have c3:=Y2 bn ah au;Eu<|Bv (vs:=[Sl bc ((d++([a.1]:List AO))) bd]) (cs':=[Sl bc ((d++([a.1]:List AO))) bd]) ABl Z Z Z Z (AX (Own.one bb) CJ) c3 dcd Z Z fun d5 c4 av=>AA<|have c5:=Ss Ah (K4 Ah bm af ag ah au) av;have c6:=Os bb av;have c7:=Bs (Y4 cj af ag ah au) av;⟨aa,Nat.lt_succ_self aa,_,c2,a.2.marks,cl,cm,a.2.at_,a.2.why,a.2.where_,a.2.l.text,a.2.l.funcs,a.2.l.arity,a.2.l.nest,a.2.nest,(d++([a.1]:List AO)),bc,bd,Pu,(bh▸c),(T3 (T4 (Mo [1,21,22,24] a3) h ba af ag) ah au av),c5,c6,c7,c4⟩
 refine Ba<|Sr<|have c8:=Bs a6 h;Vx (Lx Gd Z Z (Bw c8))<|have c9:=Y3 b0 ak a3 h;have bp:=Os a5 h;Eu<|Bv (vs:=[Sl ac d ad]) (cs':=[Sl ac d ad]) JJ Z Z Z Z (AX (Own.one bp) CJ) c9 dcd Z Z fun d6 da aw=>AA<|AQ<|have db:=Os bp aw; ?_
 obtain ⟨dc,ax,de⟩:=Own.freeze (S:=[24]) db dcd dcd
 obtain rfl:=AK c
 refine have df:=Bs da ax;O1 B bx Z (.agg Gd Z Z (Bw df))<|have dg:=Y3 an h aw ax;have dh:=K3 Ah a4 h aw ax;⟨dc,[Sl ac d ad],[Sl al f am,I o,I m,I p,I q,I r,I u,I w,I y],Z,Ho (Tn (T4 (Mo [1,20,21,22,24] a0) ak a3 h aw) ax) br,(BQ (x:=(AM.mk d)) de),dg,(AN (x:=(AC.mk f o m p (Ai.mk q r u w) y)) dh)⟩
theorem Nx(d:Nat):B7.Spec (B7 d):=lk1 (Nf d)
def Fp.At(c:Col)(a:World)(f:Bts→Ai→Option (AM×AD)):Prop:=
 ∀{h v0 l m d},f h l=some d→Slc Kd.u8 c.F a v0 h→N3.rep c.F a m l→
  Calls PG 26 #[v0,Ag m] a fun o e=>∃g n u1,o=.returned (.tuple #[Ag n,Ag u1])∧AS [] c a g e∧CK.rep g.F e n d.1∧An.rep g.F e u1 d.2
def Fp.Spec(f:Bts→Ai→Option (AM×AD)):Prop:=
 ∀a c,Fp.At a c f
theorem Rw(ad:Nat)(ae:Col)(a5:World)(u:∀b,ae b<10):Fp.At ae a5 (Fp ad):=by
 intro af v0 a cm cn c ar a6
 rw [Fp] at c
 obtain ⟨a7,a8,rfl⟩:=AT ar
 obtain rfl:=Kf a6
 refine Ay Tryz.func26 Z Tryz.ntmps26 Z fun B w f=>Sr<|Ef<|A0 ae 20 Z Z fun a9 co cq ba s=>Ef<|AY a9 21 KR Z fun bb cr ct y q=>Ef<|AY bb 22 FM Z fun ag cu cv z l=>AA<|Sr<|Vx (Fz QW Z)<|have au:=Y2 ba q l;Vx (Ld BC Z (Bc au Z))<|Vx (v:=I (if a.text<0 then 0 else a.text)) (Run.max Z Z)<|Vx (v:=I (if 32768< (if a.text<0 then 0 else a.text) then 32768 else (if a.text<0 then 0 else a.text))) (Run.min Z Z)<|Vx (Fz QW Z)<|Eu<|St Mj au Z Z Z Z fun bc ah g=>AA<|AR<|Sr<|Vm<|have av:=K4 Kd.u8 ar s q l g; ?_
 obtain ⟨cw,cx,bd⟩:=AT av
 refine Vx (v:=I (af.length:Int)) (Ll H8 bd)<|Vx (Fz QW Z)<|Vx (Ld BC Z (Bc ah Z))<|Vr (.bool (decide ((af.length:Int)>(if 32768< (if a.text<0 then 0 else a.text) then 32768 else (if a.text<0 then 0 else a.text)))))<|AA<|Cn c (fun be c=>?_) fun be c=>?_
 refine AR<|BW Cv (qs 0 4 (.one 4 (.one 5 .nil))) [5] [21] ag (by kernel_rfl) fun cy aa=>Qx f Z (v:=Ag [.slice none 0 0]) (fun _ _=>B3 (cs:=[.slice none 0 0]) [.slice none 0 0] KR Xh Z .nil Z Z)<|Qx f Z (fun _ _=>Fz QW Z)<|have bf:=Bs ah aa;Qx f Z (fun _ ⟨_,d⟩=>Ld BC Z (Bc (Bs bf d) Z))<|Qx f Z (v:=Ag [I 22,I (if 32768< (if a.text<0 then 0 else a.text) then 32768 else (if a.text<0 then 0 else a.text))]) (fun _ _=>B3 (cs:=[I 22,I (if 32768< (if a.text<0 then 0 else a.text) then 32768 else (if a.text<0 then 0 else a.text))]) [I 0,I 0] FM Mu Z (.cons Z Z Z (.cons Z Z Z .nil)) Z Z)<|A1 Z<|have bg:=Y3 y l g aa;BM Z (.none Z) Z<|St JJ bg Z Z Z Z fun cz bh ai=>⟨⟨_,(Mo [21] ai)⟩,?_⟩
 refine ES dcd<|WY.one<|have bi:=Y3 z g aa ai;BM Z (.none Z) Z<|St HK bi Z Z Z Z fun c0 bj aw=>WY.nil<|AQ ?_
 obtain rfl:=AK c
 refine have bk:=Bs bh aw;O2 B w Z (.agg Gd Z Z (Bw bk)) (.agg K9 Z Z (Bw bj))<|⟨ag,[.slice none 0 0],[I 22,I (if 32768< (if a.text<0 then 0 else a.text) then 32768 else (if a.text<0 then 0 else a.text))],Z,Ho (T2 (T4 (Mo [20,21,22] s) q l g aa) ai aw) u,(BQ (x:=(AM.mk [])) BK),(Ak (x:=(AD.mk 22 (if 32768< (if a.text<0 then 0 else a.text) then 32768 else (if a.text<0 then 0 else a.text)))))⟩
 refine WC.skip<|Sr<|Vm<|Bi c fun h bl c=>Ca (Cg [Sl a7 af a8] Z) (TC ad ag bc bl av) ?_
 rintro _ c1 ⟨ax,c2,rfl,m,ay⟩
 obtain ⟨aj,ak,rfl⟩:=AT ay
 refine Vm<|Vr (Sl aj h.1 ak)<|Vr (I h.2)<|Va (Sl aj h.1 ak)<|Va (I h.2)<|AA<|AR<|Sr<|Vm<|Vr (.bool (decide (h.2≥0)))<|AA<|Cn c (fun bm c=>?_) fun bm c=>?_
 refine Sr<|Vx (v:=Ag [.slice none 0 0]) (Bp KR Xh Z .nil)<|Vm<|Vx (v:=Ag [I 20,I h.2]) (Bp FM Mu Z (.cons Z Z Z (.cons Z Z Z .nil)))<|have bn:=Y3 y l g m;Eu<|St JJ bn Z Z Z Z fun c3 bo az=>have bp:=Y3 z g m az;Eu<|St HK bp Z Z Z Z fun c4 bq a0=>AA<|AQ ?_
 obtain rfl:=AK c
 refine have br:=Bs bo a0;O2 B w Z (.agg Gd Z Z (Bw br)) (.agg K9 Z Z (Bw bq))<|⟨ax,[.slice none 0 0],[I 20,I h.2],Z,Ho (T2 (T4 (Mo [20,21,22] s) q l g m) az a0) u,(BQ (x:=(AM.mk [])) BK),(Ak (x:=(AD.mk 20 h.2)))⟩
 refine WC.skip<|Sr<|Vm<|have bt:=Bs ah m;Vx (Lx Y8 Z Z (Bw bt))<|Vx (v:=Ag [Sl aj h.1 ak,I 0,I 0,I 0,I (if 32768< (if a.text<0 then 0 else a.text) then 32768 else (if a.text<0 then 0 else a.text)),I a.funcs,I a.arity,I a.nest,I 0]) (Bp AAl AAg Z (.cons Z Z Z (.cons Z Z Z .nil)))<|Ef<|A0 ax 23 Z Z fun bu bv ab bw p=>Va (Pt ab 0)<|AA<|Sr<|Vm<|have bx:=Ss Ah ay p;Bi c fun e bz c=>Ca (Cg [Pt ab 0] Z) (Nx ad bu bv bz dcd dcd bw (AN (x:=(AC.mk h.1 0 0 0 (Ai.mk (if 32768< (if a.text<0 then 0 else a.text) then 32768 else (if a.text<0 then 0 else a.text)) a.funcs a.arity a.nest) 0)) bx)) ?_
 rintro _ c5 ⟨b0,c6,c7,rfl,r,b1,b2,b3⟩
 obtain ⟨al,am,rfl,a1⟩:=E1 (BV b1)
 obtain ⟨da,db,rfl,b4⟩:=E1 (AZ b3)
 refine Ef<|AY b0 24 KR Z fun an dc de b5 n=>have b6:=Ss AI a1 n;Eu<|St JJ b5 Z Z Z Z fun df b7 o=>AA<|AR<|Sr<|Vm<|Vx (Nc Z)<|Vx (Fd JU Z)<|have a2:=Y2 b2 n o;Vx (Ld BC Z (Bc a2 Z))<|Vr (.bool (e.2.why != 0))<|AA<|Cn c (fun b8 c=>?_) fun b8 c=>?_
 refine AR<|BW Cv (qs 0 10 (.one 10 (.one 11 .nil))) [11] [21] an (by kernel_rfl) fun dg ac=>Qx f Z (v:=Ag [.slice none 0 0]) (fun _ _=>B3 (cs:=[.slice none 0 0]) [.slice none 0 0] KR Xh Z .nil Z Z)<|Qx f Z (v:=Pt ab 0) (fun _ _=>Mv Z)<|Qx f Z (fun _ _=>Nc Z)<|Qx f Z (fun _ _=>Fd JU Z)<|have a3:=Bs a2 ac;Qx f Z (fun _ ⟨_,d⟩=>Ld BC Z (Bc (Bs a3 d) Z))<|Qx f Z (v:=Pt ab 0) (fun _ _=>Mv Z)<|Qx f Z (fun _ _=>Nc Z)<|Qx f Z (fun _ _=>Fd U4 Z)<|Qx f Z (fun _ ⟨_,d⟩=>Ld BC Z (Bc (Bs a3 d) Z))<|Qx f Z (v:=Ag [I e.2.why,I e.2.where_]) (fun _ _=>B3 (cs:=[I e.2.why,I e.2.where_]) [I 0,I 0] FM Mu Z (.cons Z Z Z (.cons Z Z Z .nil)) Z Z)<|A1 Z<|have b9:=Y4 (Y4 y l g m p) r n o ac;BM Z (.none Z) Z<|St JJ b9 Z Z Z Z fun dh ca ao=>⟨⟨_,(Mo [21] ao)⟩,?_⟩
 refine ES dcd<|WY.one<|have cb:=Y4 (Y4 z g m p r) n o ac ao;BM Z (.none Z) Z<|St HK cb Z Z Z Z fun di cc a4=>WY.nil<|AQ ?_
 obtain rfl:=AK c
 refine have cd:=Bs ca a4;O2 B w Z (.agg Gd Z Z (Bw cd)) (.agg K9 Z Z (Bw cc))<|⟨an,[.slice none 0 0],[I e.2.why,I e.2.where_],Z,Ho (T3 (T4 (T4 (Mo [20,21,22,23,24] s) q l g m) p r n o) ac ao a4) u,(BQ (x:=(AM.mk [])) BK),(Ak (x:=(AD.mk e.2.why e.2.where_)))⟩
 refine WC.skip<|Sr<|Vx (Lx Gd Z Z (Bw b7))<|Vx (v:=Ag [I 0,I 0]) (Bp FM Mu Z .nil)<|have cf:=Y3 (Y4 y l g m p) r n o;have cg:=Ss AI b6 o;Eu<|St JJ cf Z Z Z Z fun dj ch ap=>have ci:=Y3 (Y4 z g m p r) n o ap;Eu<|St HK ci Z Z Z Z fun dk cj aq=>AA<|AQ ?_
 obtain rfl:=AK c
 refine have ck:=Bs ch aq;O2 B w Z (.agg Gd Z Z (Bw ck)) (.agg K9 Z Z (Bw cj))<|have cl:=K2 AI cg ap aq;⟨an,[Sl al e.1.funcs am],[I 0,I 0],Z,Ho (T2 (T4 (T4 (Mo [20,21,22,23,24] s) q l g m) p r n o) ap aq) u,(BQ (x:=e.1) cl),(Ak (x:=(AD.mk 0 0)))⟩
theorem FQ(c:Nat):Fp.Spec (Fp c):=lk0 (Rw c)
def GO.At(l:Col)(a:World)(f:Bts→Option (List Bts)):Prop:=
 ∀{c d},f c=some d→
  Calls PG 77 #[Sb c] a fun m e=>∃g h,m=.returned h∧AS [] l a g e∧Slc DV g.F e h d
def GO.Spec(f:Bts→Option (List Bts)):Prop:=
 ∀a c,GO.At a c f
theorem Rx(aq:Nat)(ab:Col)(ar:World)(a1:∀b,ab b<10):GO.At ab ar (GO aq):=by
 intro e y a
 rw [GO] at a
 refine Ay Tryz.func77 Z Tryz.ntmps77 Z fun B a2 bp=>Sr<|Va (.slice none 0 0)<|AA<|Sr<|Va (.slice none 0 0)<|AA<|Sr<|Va (I 0)<|AA<|AR<|Sr<|Va (I 0)<|AA<|Af<|Bg (fun h o z=>∃f p d l m n c,o=Env.puts f [(0,Sb e),(3,Sl l d m),(4,I n),(5,I c)]∧Eh e h d n c=some y∧AS [21] ab ar p z∧Own DV 9 p z 21 (Sl l d m) d) aq ?_ ?_
 exact ⟨_,ab,([]:List Bts),none,0,0,0,Pu,a,(AS.refl [21] _ _),Own.nil⟩
 rintro h _ z ⟨f,p,d,l,m,n,c,rfl,a,au,ac⟩
 rcases h with _|h
 exact A5 a
 refine have a:FV e (Eh e h) d n c=some y:=a; ?_
 obtain ⟨ak,av⟩:∃s,s=Eh e h:=⟨_,rfl⟩
 rw [←av,FV] at a
 refine AR<|Sr<|Vm<|Vm<|Vx (v:=I (e.length:Int)) (Run.lenStr Ju Z)<|Vr (.bool (decide (c≤(e.length:Int))))<|AA<|Cn a (fun a3 a=>?_) fun a3 a=>?_
 refine WC.skip<|Am (fun o al=>∃f ad r ae af ag,o=Env.puts f [(0,Sb e),(3,Sl ae r af),(4,I ag),(5,I c)]∧Hs c ak r ag=some y∧AS [21] p z ad al∧Own DV 9 ad al 21 (Sl ae r af) r) ?_ ?_
 refine Af<|AR<|Am (fun o am=>∃f u an,o=Env.puts f [(0,Sb e),(3,Sl l d m),(4,I n),(5,I c),(21,.bool an)]∧Gq e d n c ak an=some y∧AS [] p z u am) ?_ ?_
 refine AL<|Vm<|Vm<|Vx (v:=I (e.length:Int)) (Run.lenStr Ju Z)<|Vr (.bool (decide (c< (e.length:Int))))<|Vm<|Bo a (fun g a=>?_) fun g a=>?_
 refine Gm g<|Gm g<|Bi a fun ao a4 a=>Gx g (v:=U8 ao) (Run.indexBs Ju Z Z a4)<|Gr g (.bool ((ao.toNat:Int) != ((32:UInt8).toNat:Int)))<|Vp g<|AA<|⟨_,p,((ao.toNat:Int) != ((32:UInt8).toNat:Int)),Pu,a,Rf⟩
 refine Pg g<|Pg g<|Pg g<|Pg g<|Vp g<|AA<|⟨_,p,false,Pu,a,Rf⟩
 rintro _ am ⟨f,u,an,rfl,a,aa⟩
 rw [Gq] at a
 refine Cn a (fun a5 a=>?_) fun a5 a=>?_
 refine Ba<|have a6:=Os ac aa;⟨_,u,d,l,m,n,Pu,a,(Mo [21] aa),a6⟩
 refine WC.skip<|Am (fun o ap=>∃f ah w ai aj,o=Env.puts f [(0,Sb e),(3,Sl ai w aj),(5,I c)]∧Ht c ak w=some y∧AS [21] u am ah ap∧Own DV 9 ah ap 21 (Sl ai w aj) w) ?_ ?_
 refine Sr<|Vm<|Vm<|Vr (.bool (decide (c>n)))<|AA<|Cn a (fun a7 a=>?_) fun a7 a=>?_
 refine AL<|Vm<|Vm<|Vm<|Vm<|Bi a fun q a8 a=>Vx (v:=Sb q) (Run.sliceStr Ju Z ⟨_,Z⟩ ⟨_,Z⟩ a8)<|Ef<|Ch (cs:=[Sb q]) u 20 [[Sb q]] IR Pz Z Z (.cons Z Z Z .nil) Z fun a9 ba bb bc aw=>have bd:Own DV 9 a9 ba 20 (.slice (some ⟨bb,0,none⟩) 1 1) ([q]:List Bts):=Own.lit (css:=[[Sb q]]) bc Z Z Z (Aa Z BA) (A4 Z D3) Z;have be:=Os (Os ac aa) aw;Bi a fun bq ax a=>Ef<|Bu (κ:=DV) Z Z be dcd Vc (CC bd) (Et ax) (E6 ax) fun br bf bt ay bg=>?_
 obtain ⟨az,a0,rfl⟩:=Own.len ay
 refine Va (Sl az ((d++([q]:List Bts))) a0)<|AA<|⟨_,bf,(d++([q]:List Bts)),az,a0,Pu,a,(Tn (Mo [21] aw) bg),ay⟩
 refine WC.skip<|have bh:=Os ac aa;⟨_,u,d,l,m,Pu,a,(AS.refl [21] _ _),bh⟩
 rintro _ ap ⟨f,ah,w,ai,aj,rfl,a,bi,bj⟩
 rw [Ht] at a
 refine AL<|Vm<|Vr (I (Wr (c+1)))<|Va (I (Wr (c+1)))<|AA<|⟨_,ah,w,ai,aj,(Wr (c+1)),Pu,a,(Tn (Mo [21] aa) bi),bj⟩
 rintro _ al ⟨f,ad,r,ae,af,ag,rfl,a,bk,bl⟩
 rw [Hs] at a
 refine AL<|Vm<|Vr (I (Wr (c+1)))<|Va (I (Wr (c+1)))<|AA<|⟨h,Nat.lt_succ_self h,_,ad,r,ae,af,ag,(Wr (c+1)),Pu,(av▸a),(Tn (Mo [21] au) bk),bl⟩
 refine Ba<|Sr<|Vm<|Va (Sl l d m)<|AA<|AQ ?_
 obtain ⟨bm,bn,bo⟩:=Own.freeze (S:=[21]) ac dcd dcd
 obtain rfl:=AK a
 refine O1 B a2 Z (.tmp Z)<|⟨bm,Sl l d m,Z,Ho (Tn (Mo [21] au) bn) a1,bo⟩
theorem TE(c:Nat):GO.Spec (GO c):=lk0 (Rx c)
def Fn.At(e:Col)(c:World)(f:Nat→Option (Int×Bool)):Prop:=
 ∀{d a},f d=some a→
  Calls PG 64 #[Fl d] c fun g h=>∃l,g=.returned (.tuple #[I a.1,.bool a.2])∧AS [] e c l h
def Fn.Spec(f:Nat→Option (Int×Bool)):Prop:=
 ∀a c,Fn.At a c f
theorem TF(f:Col)(p:World)(q:∀b,f b<10):Fn.At f p Fn:=by
 intro c y a
 rw [Fn] at a
 refine Ay Tryz.func64 Z Tryz.ntmps64 Z fun B r ac=>Sr<|Va (I 0)<|Va (.bool false)<|AA<|AR<|Am (fun z s=>∃u n o,z=Env.puts u [(0,Fl c),(20,.bool o)]∧Fx c o=some y∧AS [] f p n s) ?_ ?_
 refine AL<|Vm<|Vr (.bool (fge c (13938640846711685120:Nat)))<|Vm<|Bo a (fun l a=>?_) fun l a=>?_
 refine Gm l<|Gr l (.bool (fle c (4715268809856909312:Nat)))<|Vp l<|Vr (.bool (!(fle c (4715268809856909312:Nat))))<|Vm<|Bo a (fun d a=>?_) fun d a=>?_
 refine Pg d<|Pg d<|Pg d<|Po<|Po<|Po<|Pg d<|Vp d<|AA<|⟨_,f,true,Pu,a,Rf⟩
 refine Gm d<|Gr d (.bool (feq c (0:Nat)))<|Gm d<|Bo a (fun g a=>?_) fun g a=>?_
 refine Gm g<|Gx g (v:=.int .u64 ((c:Nat):Int)) (PA (vs:=[Fl c]) Z Z)<|Gr g (.bool (((c:Nat):Int) != 0))<|Gp d g<|Vp d<|AA<|⟨_,f,(((c:Nat):Int) != 0),Pu,a,Rf⟩
 refine Pg g<|Pg g<|Pg g<|Gp d g<|Vp d<|AA<|⟨_,f,false,Pu,a,Rf⟩
 refine Pg l<|Pg l<|Vp l<|Vr (.bool (!false))<|Vm<|Bo a (fun e a=>?_) fun e a=>?_
 refine Pg e<|Pg e<|Pg e<|Po<|Po<|Po<|Pg e<|Vp e<|AA<|⟨_,f,true,Pu,a,Rf⟩
 refine Gm e<|Gr e (.bool (feq c (0:Nat)))<|Gm e<|Bo a (fun h a=>?_) fun h a=>?_
 refine Gm h<|Gx h (v:=.int .u64 ((c:Nat):Int)) (PA (vs:=[Fl c]) Z Z)<|Gr h (.bool (((c:Nat):Int) != 0))<|Gp e h<|Vp e<|AA<|⟨_,f,(((c:Nat):Int) != 0),Pu,a,Rf⟩
 refine Pg h<|Pg h<|Pg h<|Gp e h<|Vp e<|AA<|⟨_,f,false,Pu,a,Rf⟩
 rintro _ s ⟨u,n,o,rfl,a,w⟩
 rw [Fx] at a
 refine Cn a (fun aa a=>?_) fun aa a=>?_
 refine Sr<|Va (I 0)<|Va (.bool false)<|AA<|AQ ?_
 obtain rfl:=AK a
 refine O2 B r Z (.tmp Z) (.tmp Z)<|⟨n,Z,Ho (Mo [] w) q⟩
 refine WC.skip<|Sr<|Vm<|Bi a fun m ab a=>Vx (v:=I m) (Run.f2i Z Xe ab)<|Va (I m)<|AA<|Sr<|Vm<|Vm<|Vr (Fl (FloatKind.f64.nearest m))<|Vm<|Vr (.bool (feq (FloatKind.f64.nearest m) c))<|Va (I m)<|Va (.bool (feq (FloatKind.f64.nearest m) c))<|AA<|AQ ?_
 obtain rfl:=AK a
 refine O2 B r Z (.tmp Z) (.tmp Z)<|⟨n,Z,Ho (Mo [] w) q⟩
theorem P1:Fn.Spec Fn:=lk0 (TF)
def EW.At(l:Col)(c:World)(f:(Nat×Nat)→Option (Ad×Bool)):Prop:=
 ∀{d a},f d=some a→
  Calls PG 39 #[Cx d] c fun m e=>∃g h,m=.returned (.tuple #[Ag h,.bool a.2])∧AS [] l c g e∧Bh.rep g.F e h a.1
def EW.Spec(f:(Nat×Nat)→Option (Ad×Bool)):Prop:=
 ∀a c,EW.At a c f
theorem Vo(n:Col)(z:World)(q:∀b,n b<10):EW.At n z EW:=by
 intro f aa a
 rw [EW] at a
 refine Ay Tryz.func39 Z Tryz.ntmps39 Z fun B r ar=>Sr<|Ef<|AY n 20 Ee Z fun ab ac ad s u=>Va (.bool false)<|AA<|Sr<|Vm<|Vx (v:=Fl f.1) (Run.real Z)<|Bi a fun d ae a=>Ca (Cg [Fl f.1] Z) (P1 ab ac ae) ?_
 rintro _ af ⟨ag,rfl,g⟩
 refine Vm<|Vr (I d.1)<|Vr (.bool d.2)<|Va (I d.1)<|Va (.bool d.2)<|AA<|Sr<|Vm<|Vx (v:=Fl f.2) (Run.imag Z)<|Bi a fun c ah a=>Ca (Cg [Fl f.2] Z) (P1 ag af ah) ?_
 rintro _ ai ⟨o,rfl,h⟩
 refine Vm<|Vr (I c.1)<|Vr (.bool c.2)<|Va (I c.1)<|Va (.bool c.2)<|AA<|AR<|Am (fun aj w=>∃y l p,aj=Env.puts y [(2,Pt ad 0),(4,I d.1),(6,I c.1),(25,.bool p)]∧Mh d c p=some aa∧AS [] o ai l w) ?_ ?_
 refine AL<|Vm<|Vr (.bool (!d.2))<|Vm<|Bo a (fun e a=>?_) fun e a=>?_
 refine Pg e<|Pg e<|Vp e<|AA<|⟨_,o,true,Pu,a,Rf⟩
 refine Gm e<|Gr e (.bool (!c.2))<|Vp e<|AA<|⟨_,o,(!c.2),Pu,a,Rf⟩
 rintro _ w ⟨y,l,p,rfl,a,m⟩
 rw [Mh] at a
 refine Cn a (fun ak a=>?_) fun ak a=>?_
 refine Sr<|Vx (v:=Ag [I 0,I 0]) (Bp Ee KQ Z .nil)<|have al:=Y3 s g h m;Eu<|St HM al Z Z Z Z fun au am an=>Va (.bool false)<|AA<|AQ ?_
 obtain rfl:=AK a
 refine O2 B r Z (.agg D7 Z Z (Bw am)) (.tmp Z)<|⟨l,[I 0,I 0],Z,Ho (T4 (Mo [20] u) g h m an) q,(BF (x:=(Ad.mk 0 0)))⟩
 refine WC.skip<|Sr<|Vm<|Vm<|Vx (v:=Ag [I d.1,I c.1]) (Bp Ee KQ Z (.cons Z Z Z (.cons Z Z Z .nil)))<|have ao:=Y3 s g h m;Eu<|St HM ao Z Z Z Z fun av ap aq=>Va (.bool true)<|AA<|AQ ?_
 obtain rfl:=AK a
 refine O2 B r Z (.agg D7 Z Z (Bw ap)) (.tmp Z)<|⟨l,[I d.1,I c.1],Z,Ho (T4 (Mo [20] u) g h m aq) q,(BF (x:=(Ad.mk d.1 c.1)))⟩
theorem NV:EW.Spec EW:=lk0 (Vo)
def B8.At(c:Col)(a:World)(f:AF→Option Bool):Prop:=
 ∀{d e g},f d=some g→Ao.rep c.F a e d→
  Calls PG 17 #[Ag e] a fun h l=>∃m,h=.returned (.bool g)∧AS [] c a m l
def B8.Spec(f:AF→Option Bool):Prop:=
 ∀a c,B8.At a c f
theorem Ry(aw:Nat)(al:Col)(bc:World)(ag:∀b,al b<10):B8.At al bc (B8 aw):=by
 intro c ca y a bd
 rw [B8] at a
 obtain ⟨cc,cd,rfl,ax⟩:=E1 (Az bd)
 refine Ay Tryz.func17 Z Tryz.ntmps17 Z fun B ah cf=>Sr<|Ef<|A0 al 20 Z Z fun be bf ay az ad=>Va (.bool false)<|AA<|Sr<|Vx (Fd HT Z)<|Vx (Ld HL Z (Bc az Z))<|Bi a fun ae bg a=>Ca (Cg [Cx c.num] Z) (NV be bf bg) ?_
 rintro _ cg ⟨bh,ch,rfl,z,bi⟩
 obtain rfl:=A6 bi
 refine Vm<|Vr (Ag [I ae.1.re,I ae.1.im])<|Vr (.bool ae.2)<|Ef<|AY bh 21 Ee Z fun a0 ci cj bj aa=>Eu<|St HM bj Z Z Z Z fun bk ck ab=>Va (.bool ae.2)<|AA<|AR<|Sr<|Va (I 0)<|AA<|Af<|Bg (fun r l u=>∃e d ai f,l=Env.puts e [(1,Pt ay 0),(4,.bool ai),(5,I f)]∧EN c r ai f=some y∧AS [22] a0 bk d u) aw ?_ ?_
 exact ⟨_,a0,ae.2,0,Pu,a,(AS.refl [22] _ _)⟩
 rintro r _ u ⟨e,d,ai,f,rfl,a,w⟩
 rcases r with _|r
 exact A5 a
 refine have a:EK c (EN c r) ai f=some y:=a; ?_
 obtain ⟨bl,a1⟩:∃s,s=EN c r:=⟨_,rfl⟩
 rw [←a1,EK] at a
 refine AR<|Sr<|Vm<|Vx (Fd D8 Z)<|have m:=Y4 az z aa ab w;Vx (Ld Ib Z (Bc m Z))<|have aj:=Ss Kd.cpx (K4 Kd.cpx ax ad z aa ab) w; ?_
 obtain ⟨cl,cm,bm⟩:=AT aj
 refine Vx (v:=I (c.list.length:Int)) (Ll IQ bm)<|Vr (.bool (decide (f< (c.list.length:Int))))<|AA<|Cn a (fun bn a=>?_) fun bn a=>?_
 refine WC.skip<|Am (fun l a2=>∃e am ak,l=Env.puts e [(1,Pt ay 0),(4,.bool ak),(5,I f)]∧Gs f bl ak=some y∧AS [22] d u am a2) ?_ ?_
 refine Af<|Sr<|Vx (Fd D8 Z)<|Vx (Ld Ib Z (Bc m Z))<|Vm<|Bi a fun a3 bo a=>?_
 obtain ⟨bp,bq,cn,a4,br,bt,bu,bv,an⟩:=A8 (κ:=Kd.cpx) aj bo
 replace an:Ax d u bp (bq+f.toNat*1) a4:=an
 obtain rfl:=(show a4=[Cx a3] from bv)
 refine Vx (Ix IQ br Z bt bu)<|Vx (Ld HL Z (Ax.cell0 an Z))<|Bi a fun ac bw a=>Ca (Cg [Cx a3] Z) (NV d u bw) ?_
 rintro _ co ⟨bx,cq,rfl,a5,bz⟩
 obtain rfl:=A6 bz
 refine Vm<|Vr (Ag [I ac.1.re,I ac.1.im])<|Vr (.bool ac.2)<|Ef<|AY bx 22 Ee Z fun a6 cr ct b0 a7=>Eu<|St HM b0 Z Z Z Z fun cu cv a8=>Va (.bool ac.2)<|AA<|AL<|Vm<|Vm<|Bo a (fun af a=>?_) fun af a=>?_
 refine Gm af<|Vp af<|Va (.bool ac.2)<|AA<|⟨_,a6,ac.2,Pu,a,(T2 (Mo [22] a5) a7 a8)⟩
 refine Pg af<|Vp af<|Va (.bool false)<|AA<|⟨_,a6,false,Pu,a,(T2 (Mo [22] a5) a7 a8)⟩
 rintro _ a2 ⟨e,am,ak,rfl,a,b1⟩
 rw [Gs] at a
 refine AL<|Vm<|Vr (I (Wr (f+1)))<|Va (I (Wr (f+1)))<|AA<|⟨r,Nat.lt_succ_self r,_,am,ak,(Wr (f+1)),Pu,(a1▸a),(Tn (Mo [22] w) b1)⟩
 refine Ba<|AR<|Sr<|Vx (Fz Jd Z)<|Vx (Ld Ed Z (Bc m Z))<|AA<|Af<|Sr<|Vr (.bool (c.type_==1))<|Va (.bool (c.type_==1))<|AA<|Cn a (fun b2 a=>?_) fun b2 a=>?_
 refine Am (fun l a9=>∃e ao ap,l=Env.puts e [(2,.bool ap)]∧Iu ap=some y∧AS [] d u ao a9) ?_ ?_
 refine AL<|Vm<|Vm<|Bo a (fun n a=>?_) fun n a=>?_
 refine Gx n (Fd Ka Z)<|Gx n (Ld MF Z (Bc m Z))<|Gr n (.bool (!c.bool))<|Vp n<|Vm<|Bo a (fun g a=>?_) fun g a=>?_
 refine Gx g (Fd D8 Z)<|Gx g (Ld Ib Z (Bc m Z)) ?_
 obtain ⟨cw,cx,b3⟩:=AT aj
 refine Gx g (v:=I (c.list.length:Int)) (Ll IQ b3)<|Gr g (.bool ((c.list.length:Int)==0))<|Vp g<|Va (.bool ((c.list.length:Int)==0))<|AA<|⟨_,d,((c.list.length:Int)==0),Pu,a,Rf⟩
 refine Pg g<|Pg g<|Pg g<|Pg g<|Vp g<|Va (.bool false)<|AA<|⟨_,d,false,Pu,a,Rf⟩
 refine Pg n<|Pg n<|Pg n<|Vp n<|Vm<|Pg Z<|Pg Z<|Pg Z<|Pg Z<|Vr (.bool false)<|Va (.bool false)<|AA<|⟨_,d,false,Pu,a,Rf⟩
 rintro _ a9 ⟨e,ao,ap,rfl,a,b4⟩
 rw [Iu] at a
 refine AQ ?_
 obtain rfl:=AK a
 refine O1 B ah Z (.tmp Z)<|⟨ao,Z,Ho (Tn (T4 (Mo [21,22] ad) z aa ab w) b4) ag⟩
 refine Sr<|Vr (.bool (c.type_==2))<|Va (.bool (c.type_==2))<|AA<|Cn a (fun b5 a=>?_) fun b5 a=>?_
 refine Am (fun l ba=>∃e aq ar,l=Env.puts e [(2,.bool ar)]∧Iv ar=some y∧AS [] d u aq ba) ?_ ?_
 refine AL<|Vm<|Vm<|Bo a (fun o a=>?_) fun o a=>?_
 refine Gx o (Fd HT Z)<|Gx o (Ld HL Z (Bc m Z))<|Gx o (v:=.bool (ceq c.num ((0,0):Nat×Nat))) (Run.ceq Z Z)<|Vp o<|Vm<|Bo a (fun h a=>?_) fun h a=>?_
 refine Gx h (Fd D8 Z)<|Gx h (Ld Ib Z (Bc m Z)) ?_
 obtain ⟨cy,cz,b6⟩:=AT aj
 refine Gx h (v:=I (c.list.length:Int)) (Ll IQ b6)<|Gr h (.bool ((c.list.length:Int)==0))<|Vp h<|Va (.bool ((c.list.length:Int)==0))<|AA<|⟨_,d,((c.list.length:Int)==0),Pu,a,Rf⟩
 refine Pg h<|Pg h<|Pg h<|Pg h<|Vp h<|Va (.bool false)<|AA<|⟨_,d,false,Pu,a,Rf⟩
 refine Pg o<|Pg o<|Pg o<|Vp o<|Vm<|Pg Z<|Pg Z<|Pg Z<|Pg Z<|Vr (.bool false)<|Va (.bool false)<|AA<|⟨_,d,false,Pu,a,Rf⟩
 rintro _ ba ⟨e,aq,ar,rfl,a,b7⟩
 rw [Iv] at a
 refine AQ ?_
 obtain rfl:=AK a
 refine O1 B ah Z (.tmp Z)<|⟨aq,Z,Ho (Tn (T4 (Mo [21,22] ad) z aa ab w) b7) ag⟩
 refine Sr<|Vr (.bool (c.type_==3))<|Va (.bool (c.type_==3))<|AA<|Cn a (fun b8 a=>?_) fun b8 a=>?_
 refine Am (fun l bb=>∃e au av,l=Env.puts e [(2,.bool av)]∧Iw av=some y∧AS [] d u au bb) ?_ ?_
 refine AL<|Vm<|Vm<|Bo a (fun p a=>?_) fun p a=>?_
 refine Gx p (Fd HT Z)<|Gx p (Ld HL Z (Bc m Z))<|Gx p (v:=.bool (ceq c.num ((0,0):Nat×Nat))) (Run.ceq Z Z)<|Vp p<|Vm<|Bo a (fun q a=>?_) fun q a=>?_
 refine Gx q (Fd Ka Z)<|Gx q (Ld MF Z (Bc m Z))<|Gr q (.bool (!c.bool))<|Vp q<|Va (.bool (!c.bool))<|AA<|⟨_,d,(!c.bool),Pu,a,Rf⟩
 refine Pg q<|Pg q<|Pg q<|Vp q<|Va (.bool false)<|AA<|⟨_,d,false,Pu,a,Rf⟩
 refine Pg p<|Pg p<|Pg p<|Vp p<|Vm<|Pg Z<|Pg Z<|Pg Z<|Vr (.bool false)<|Va (.bool false)<|AA<|⟨_,d,false,Pu,a,Rf⟩
 rintro _ bb ⟨e,au,av,rfl,a,b9⟩
 rw [Iw] at a
 refine AQ ?_
 obtain rfl:=AK a
 refine O1 B ah Z (.tmp Z)<|⟨au,Z,Ho (Tn (T4 (Mo [21,22] ad) z aa ab w) b9) ag⟩
 refine WC.skip<|Sr<|Va (.bool false)<|AA<|AQ ?_
 obtain rfl:=AK a
 refine O1 B ah Z (.tmp Z)<|⟨d,Z,Ho (T4 (Mo [21,22] ad) z aa ab w) ag⟩
theorem LD(c:Nat):B8.Spec (B8 c):=lk0 (Ry c)
def EZ.At(e:Col)(a:World)(f:(Nat×Nat)→Option Bts):Prop:=
 ∀{c d},f c=some d→
  Calls PG 110 #[Cx c] a fun g h=>∃l,g=.returned (Sb d)∧AS [] e a l h
def EZ.Spec(f:(Nat×Nat)→Option Bts):Prop:=
 ∀a c,EZ.At a c f
theorem Q9(e:Nat)(d:Col)(f:World)(g:∀b,d b<10):EZ.At d f (EZ e):=by
 intro h ad c
 rw [EZ] at c
 refine Ay Tryz.func110 Z Tryz.ntmps110 Z fun B l ae=>Sr<|Va (Sb ([]:Bts))<|AA<|Sr<|Vm<|Bi c fun a m c=>Ca (Cg [Cx h] Z) (NV d f m) ?_
 rintro _ af ⟨n,ag,rfl,o,p⟩
 obtain rfl:=A6 p
 refine Vm<|Vr (Ag [I a.1.re,I a.1.im])<|Vr (.bool a.2)<|Ef<|AY n 20 Ee Z fun q ah ai r s=>Eu<|St HM r Z Z Z Z fun u w y=>Va (.bool a.2)<|AA<|Sr<|Vx (Lx D7 Z Z (Bw w))<|Bi c fun z aa c=>Ca (Cg [Ag [I a.1.re,I a.1.im]] Z) (P0 e q u aa (BF (x:=a.1))) ?_
 rintro _ aj ⟨ab,rfl,ac⟩
 refine Va (Sb z)<|AA<|AQ ?_
 obtain rfl:=AK c
 refine O1 B l Z (.tmp Z)<|⟨ab,Z,Ho (T3 (Mo [20] o) s y ac) g⟩
theorem OT(c:Nat):EZ.Spec (EZ c):=lk0 (Q9 c)
def Gt.At(d:Col)(a:World)(f:AF→Option (Bts×Int)):Prop:=
 ∀{e g c},f e=some c→Ao.rep d.F a g e→
  Calls PG 78 #[Ag g] a fun h l=>∃m,h=.returned (.tuple #[Sb c.1,I c.2])∧AS [] d a m l
def Gt.Spec(f:AF→Option (Bts×Int)):Prop:=
 ∀a c,Gt.At a c f
theorem TG(e:Nat)(ad:Col)(ba:World)(p:∀b,ad b<10):Gt.At ad ba (Gt e):=by
 intro c co ae a bb
 rw [Gt] at a
 obtain ⟨am,an,rfl,al⟩:=E1 (Az bb)
 refine Ay Tryz.func78 Z Tryz.ntmps78 Z fun B q cr=>Sr<|Ef<|A0 ad 20 Z Z fun bc bd ao ap m=>Va (Sb ([]:Bts))<|Va (I 0)<|AA<|AR<|Sr<|Vx (Lx B0 Z Z (Bw ap))<|have aq:=Ss Kd.cpx al m;Bi a fun be bf a=>Ca (Cg [Ag [I c.type_,Cx c.num,.bool c.bool,Sl am c.list an]] Z) (LD e bc bd bf (Al (x:=c) aq)) ?_
 rintro _ ar ⟨n,rfl,h⟩
 refine Vr (.bool (!be))<|AA<|Cn a (fun bg a=>?_) fun bg a=>?_
 refine Sr<|Va (Sb ([]:Bts))<|Va (I 3)<|AA<|AQ ?_
 obtain rfl:=AK a
 refine O2 B q Z (.tmp Z) (.tmp Z)<|⟨n,Z,Ho (Tn (Mo [] m) h) p⟩
 refine WC.skip<|AR<|Sr<|Vx (Fz Jd Z)<|have y:=Bs ap h;Vx (Ld Ed Z (Bc y Z))<|AA<|Af<|Sr<|Vr (.bool (c.type_==1))<|Va (.bool (c.type_==1))<|AA<|Cn a (fun bh a=>?_) fun bh a=>?_
 refine Sr<|Vx (Fd HT Z)<|Vx (Ld HL Z (Bc y Z))<|Bi a fun bi bj a=>Ca (Cg [Cx c.num] Z) (OT e n ar bj) ?_
 rintro _ ct ⟨bk,rfl,bl⟩
 refine Va (Sb bi)<|Va (I 0)<|AA<|AQ ?_
 obtain rfl:=AK a
 refine O2 B q Z (.tmp Z) (.tmp Z)<|⟨bk,Z,Ho (T2 (Mo [] m) h bl) p⟩
 refine Sr<|Vr (.bool (c.type_==2))<|Va (.bool (c.type_==2))<|AA<|Cn a (fun bm a=>?_) fun bm a=>?_
 refine AR<|Sr<|Vx (Fd Ka Z)<|Vx (Ld MF Z (Bc y Z))<|AA<|Cn a (fun bn a=>?_) fun bn a=>?_
 refine Sr<|Va (Sb ([116,114,117,101]:Bts))<|Va (I 0)<|AA<|AQ ?_
 obtain rfl:=AK a
 refine O2 B q Z (.tmp Z) (.tmp Z)<|⟨n,Z,Ho (Tn (Mo [] m) h) p⟩
 refine WC.skip<|Sr<|Va (Sb ([102,97,108,115,101]:Bts))<|Va (I 0)<|AA<|AQ ?_
 obtain rfl:=AK a
 refine O2 B q Z (.tmp Z) (.tmp Z)<|⟨n,Z,Ho (Tn (Mo [] m) h) p⟩
 refine WC.skip<|Sr<|Va (.slice none 0 0)<|AA<|AR<|Sr<|Va (I 0)<|AA<|Af<|Bg (fun g af z=>∃r o f aa ab d,af=Env.puts r [(1,Pt ao 0),(4,Sl aa f ab),(5,I d)]∧FW e c g f d=some ae∧AS [22] n ar o z∧Own Kd.u8 5 o z 22 (Sl aa f ab) f) e ?_ ?_
 exact ⟨_,n,([]:Bts),none,0,0,Pu,a,(AS.refl [22] _ _),Own.nil⟩
 rintro g _ z ⟨r,o,f,aa,ab,d,rfl,a,ac,ag⟩
 rcases g with _|g
 exact A5 a
 refine have a:Fy e c (FW e c g) f d=some ae:=a; ?_
 obtain ⟨bo,au⟩:∃s,s=FW e c g:=⟨_,rfl⟩
 rw [←au,Fy] at a
 refine AR<|Sr<|Vm<|Vx (Fd D8 Z)<|have av:=Bs y ac;Vx (Ld Ib Z (Bc av Z))<|have aw:=K2 Kd.cpx aq h ac; ?_
 obtain ⟨cu,cv,bp⟩:=AT aw
 refine Vx (v:=I (c.list.length:Int)) (Ll IQ bp)<|Vr (.bool (decide (d< (c.list.length:Int))))<|AA<|Cn a (fun bq a=>?_) fun bq a=>?_
 refine WC.skip<|AR<|Af<|Am (fun af u=>∃r w l ah ai,af=Env.puts r [(1,Pt ao 0),(4,Sl ah l ai),(5,I d)]∧Hd e c d bo l=some ae∧AS [22] o z w u∧Own Kd.u8 5 w u 22 (Sl ah l ai) l) ?_ ?_
 refine Sr<|Vm<|Vr (.bool (decide (d>0)))<|AA<|Cn a (fun br a=>?_) fun br a=>?_
 refine AL<|Vm<|Ef<|Ch (cs:=[U8 32]) o 21 [[U8 32]] H8 ZX Z Z (.cons Z Z Z .nil) Z fun bt bu bv bw ax=>have bx:Own Kd.u8 5 bt bu 21 (.slice (some ⟨bv,0,none⟩) 1 1) ([32]:Bts):=Own.lit (css:=[[U8 32]]) bw Z Z Z (Aa Z BA) (A4 Z D3) Z;have bz:=Os ag ax;Bi a fun cw ay a=>Ef<|Bu (κ:=Kd.u8) Z Z bz dcd Y9 (CC bx) (Et ay) (E6 ay) fun cx b0 cy az b1=>?_
 obtain ⟨a0,a1,rfl⟩:=Own.len az
 refine Va (Sl a0 ((f++([32]:Bts))) a1)<|AA<|⟨_,b0,(f++([32]:Bts)),a0,a1,Pu,a,(Tn (Mo [22] ax) b1),az⟩
 refine WC.skip<|⟨_,o,f,aa,ab,Pu,a,(AS.refl [22] _ _),ag⟩
 rintro _ u ⟨r,w,l,ah,ai,rfl,a,aj,b2⟩
 rw [Hd] at a
 refine AL<|Vm<|Vx (Fd D8 Z)<|have b3:=Bs av aj;Vx (Ld Ib Z (Bc b3 Z))<|Vm<|Bi a fun a2 b4 a=>have b5:=Ss Kd.cpx aw aj; ?_
 obtain ⟨b6,b7,cz,a3,b8,b9,ca,cb,ak⟩:=A8 (κ:=Kd.cpx) b5 b4
 replace ak:Ax w u b6 (b7+d.toNat*1) a3:=ak
 obtain rfl:=(show a3=[Cx a2] from cb)
 refine Vx (Ix IQ b8 Z b9 ca)<|Vx (Ld HL Z (Ax.cell0 ak Z))<|Bi a fun a4 cc a=>Ca (Cg [Cx a2] Z) (OT e w u cc) ?_
 rintro _ c0 ⟨c1,rfl,a5⟩
 refine have cd:=Os b2 a5;Bi a fun c2 cf a=>Ef<|UI Z Z cd dcd Y9 ABz Ju (Et cf) fun c3 cg c4 a6 ch=>?_
 obtain ⟨a7,a8,rfl⟩:=Own.len a6
 refine Va (Sl a7 ((l++a4)) a8)<|AA<|AL<|Vm<|Vr (I (Wr (d+1)))<|Va (I (Wr (d+1)))<|AA<|⟨g,Nat.lt_succ_self g,_,cg,(l++a4),a7,a8,(Wr (d+1)),Pu,(au▸a),(T3 (Mo [22] ac) aj a5 ch),a6⟩
 refine Ba<|Sr<|Vm ?_
 obtain ⟨ci,cj,ck⟩:=Own.freeze (S:=[22]) ag dcd dcd
 refine Vx (v:=Sb f) (Run.bytesStr Pd Z ck)<|Bi a fun cl cm a=>Vx (v:=Sb cl) (Run.strAdd Z Z cm)<|Bi a fun a9 cn a=>Vx (v:=Sb a9) (Run.strAdd Z Z cn)<|Va (Sb a9)<|Va (I 0)<|AA<|AQ ?_
 obtain rfl:=AK a
 refine O2 B q Z (.tmp Z) (.tmp Z)<|⟨ci,Z,Ho (T3 (Mo [22] m) h ac cj) p⟩
theorem UR(c:Nat):Gt.Spec (Gt c):=lk0 (TG c)
def Fq.At(l:Col)(c:World)(f:Bts→Option (AF×Int)):Prop:=
 ∀{d a},f d=some a→
  Calls PG 49 #[Sb d] c fun m e=>∃g h,m=.returned (.tuple #[Ag h,I a.2])∧AS [] l c g e∧Ao.rep g.F e h a.1
def Fq.Spec(f:Bts→Option (AF×Int)):Prop:=
 ∀a c,Fq.At a c f
theorem Rz(g:Nat)(a7:Col)(ca:World)(ak:∀b,a7 b<10):Fq.At a7 ca (Fq g):=by
 intro c ay a
 rw [Fq] at a
 refine Ay Tryz.func49 Z Tryz.ntmps49 Z fun B al az=>Sr<|Ef<|AY a7 20 CS Z fun a8 cb a9 am an=>Va (I 0)<|AA<|AR<|Am (fun ar ba=>∃y a0 bb,ar=Env.puts y [(0,Sb c),(2,Pt a9 0),(16,.bool bb)]∧Gu g c bb=some ay∧AS [] a8 cb a0 ba) ?_ ?_
 refine AL<|Vm<|Vx (v:=.bool (c==([116,114,117,101]:Bts))) (Run.strEq Z Z)<|Vm<|Bo a (fun ae a=>?_) fun ae a=>?_
 refine Pg ae<|Pg ae<|Vp ae<|AA<|⟨_,a8,true,Pu,a,Rf⟩
 refine Gm ae<|Gx ae (v:=.bool (c==([102,97,108,115,101]:Bts))) (Run.strEq Z Z)<|Vp ae<|AA<|⟨_,a8,(c==([102,97,108,115,101]:Bts)),Pu,a,Rf⟩
 rintro _ ba ⟨y,a0,bb,rfl,a,h⟩
 rw [Gu] at a
 refine Cn a (fun cc a=>?_) fun cc a=>?_
 refine Sr<|Vm<|Vx (v:=.bool (c==([116,114,117,101]:Bts))) (Run.strEq Z Z)<|Vx (v:=Ag [I 2,Cx (((0,0):Nat×Nat)),.bool (c==([116,114,117,101]:Bts)),.slice none 0 0]) (Bp CS F7 Z (.cons Z Z Z (.cons Z Z Z .nil)))<|have cd:=Bs am h;Eu<|St Cw cd Z Z Z Z fun en cf cg=>Va (I 0)<|AA<|AQ ?_
 obtain rfl:=AK a
 refine O2 B al Z (.agg B0 Z Z (Bw cf)) (.tmp Z)<|⟨a0,[I 2,Cx (((0,0):Nat×Nat)),.bool (c==([116,114,117,101]:Bts)),.slice none 0 0],Z,Ho (T2 (Mo [20] an) h cg) ak,(Al (x:=(AF.mk 2 ((0,0):Nat×Nat) (c==([116,114,117,101]:Bts)) [])) BK)⟩
 refine WC.skip<|Sr<|Vm<|Bi a fun f ch a=>Ca (Cg [Sb c] Z) (NH g a0 ba ch) ?_
 rintro _ eo ⟨ci,ep,rfl,m,cj⟩
 obtain rfl:=A6 cj
 refine Vm<|Vr (Ag [I f.1.re,I f.1.im])<|Vr (I f.2)<|Ef<|AY ci 21 Ee Z fun au eq bc ck n=>Eu<|St HM ck Z Z Z Z fun bn bo o=>Va (I f.2)<|AA<|AR<|Sr<|Vm<|Vr (.bool (f.2==0))<|AA<|Cn a (fun cl a=>?_) fun cl a=>?_
 refine Sr<|Vx (Lx D7 Z Z (Bw bo))<|Bi a fun a1 cm a=>Ca (Cg [Ag [I f.1.re,I f.1.im]] Z) (MH au bn cm (BF (x:=f.1))) ?_
 rintro _ er ⟨cn,rfl,bp⟩
 refine Vx (v:=Ag [I 1,Cx a1,.bool false,.slice none 0 0]) (Bp CS F7 Z (.cons Z Z Z (.cons Z Z Z .nil)))<|have co:=Bs (Y4 am h m n o) bp;Eu<|St Cw co Z Z Z Z fun es cq cr=>Va (I 0)<|AA<|AQ ?_
 obtain rfl:=AK a
 refine O2 B al Z (.agg B0 Z Z (Bw cq)) (.tmp Z)<|⟨cn,[I 1,Cx a1,.bool false,.slice none 0 0],Z,Ho (T2 (T4 (Mo [20,21] an) h m n o) bp cr) ak,(Al (x:=(AF.mk 1 a1 false [])) BK)⟩
 refine WC.skip<|AR<|Am (fun ar bq=>∃y a2 bd,ar=Env.puts y [(0,Sb c),(2,Pt a9 0),(4,Pt bc 0),(45,.bool bd)]∧F0 g c f bd=some ay∧AS [] au bn a2 bq) ?_ ?_
 refine AL<|Vm<|Vx (v:=I (c.length:Int)) (Run.lenStr Ju Z)<|Vr (.bool (decide ((c.length:Int)<2)))<|Vm<|Bo a (fun r a=>?_) fun r a=>?_
 refine Pg r<|Pg r<|Pg r<|Vp r<|Vm<|Pg Z<|Pg Z<|Pg Z<|Pg Z<|Pg Z<|Pg Z<|Vr (.bool true)<|AA<|⟨_,au,true,Pu,a,Rf⟩
 refine Gm r<|Bi a fun br ct a=>Gx r (v:=U8 br) (Run.indexBs Ju Z Z ct)<|Gr r (.bool ((br.toNat:Int) != ((91:UInt8).toNat:Int)))<|Vp r<|Vm<|Bo a (fun e a=>?_) fun e a=>?_
 refine Pg e<|Pg e<|Pg e<|Pg e<|Pg e<|Pg e<|Vp e<|AA<|⟨_,au,true,Pu,a,Rf⟩
 refine Gm e<|Gm e<|Gx e (v:=I (c.length:Int)) (Run.lenStr Ju Z)<|Gr e (I (Wr ((c.length:Int) - 1)))<|Bi a fun be cu a=>Gx e (v:=U8 be) (Run.indexBs Ju Z Z cu)<|Gr e (.bool ((be.toNat:Int) != ((93:UInt8).toNat:Int)))<|Vp e<|AA<|⟨_,au,((be.toNat:Int) != ((93:UInt8).toNat:Int)),Pu,a,Rf⟩
 rintro _ bq ⟨y,a2,bd,rfl,a,u⟩
 rw [F0] at a
 refine Cn a (fun cv a=>?_) fun cv a=>?_
 refine Sr<|Vx (v:=Ag [I 0,Cx (((0,0):Nat×Nat)),.bool false,.slice none 0 0]) (Bp CS F7 Z .nil)<|have cw:=Bs (Y4 am h m n o) u;Eu<|St Cw cw Z Z Z Z fun et cx cy=>Va (I 11)<|AA<|AQ ?_
 obtain rfl:=AK a
 refine O2 B al Z (.agg B0 Z Z (Bw cx)) (.tmp Z)<|⟨a2,[I 0,Cx (((0,0):Nat×Nat)),.bool false,.slice none 0 0],Z,Ho (T2 (T4 (Mo [20,21] an) h m n o) u cy) ak,(Al (x:=(AF.mk 0 ((0,0):Nat×Nat) false [])) BK)⟩
 refine WC.skip<|Sr<|Vx (v:=Ag [I 3,Cx (((0,0):Nat×Nat)),.bool false,.slice none 0 0]) (Bp CS F7 Z (.cons Z Z Z .nil))<|Ef<|AY a2 22 CS Z fun cz eu bt c0 af=>Eu<|St Cw c0 Z Z Z Z fun c1 c2 ag=>AA<|Sr<|Vm<|Vm<|Vx (v:=I (c.length:Int)) (Run.lenStr Ju Z)<|Vr (I (Wr ((c.length:Int) - 1)))<|Bi a fun bu c3 a=>Vx (v:=Sb bu) (Run.sliceStr Ju Z ⟨_,Z⟩ ⟨_,Z⟩ c3)<|Bi a fun z c4 a=>Ca (Cg [Sb bu] Z) (TE g cz c1 c4) ?_
 rintro _ c5 ⟨bv,ew,rfl,aa,bw⟩
 obtain ⟨bx,bz,rfl⟩:=AT bw
 refine Va (Sl bx z bz)<|AA<|AR<|Sr<|Va (I 0)<|AA<|Af<|Bg (fun ab ar ac=>∃y ah w a3 a4 d p q,ar=Env.puts y [(0,Sb c),(2,Pt a9 0),(4,Pt bc 0),(6,Pt bt 0),(7,Sl bx z bz),(8,I w)]∧FG g c z ab w a3 a4 d=some ay∧AS [21,22,24] bv c5 ah ac∧Own Kd.cpx 35 ah ac 24 (Sl p d q) d∧Bk ah ac 21 bc [I a3,I a4] 111∧Bk ah ac 22 bt [I 3,Cx (((0,0):Nat×Nat)),.bool false,Sl p d q] 38) g ?_ ?_
 refine have c6:=Y4 bo u af ag aa;have c7:=Bs c2 aa;⟨_,bv,0,f.1.re,f.1.im,([]:List (Nat×Nat)),none,0,Pu,a,(AS.refl [21,22,24] _ _),Own.nil,c6,c7⟩
 rintro ab _ ac ⟨y,ah,w,a3,a4,d,p,q,rfl,a,ad,bf,c8,bg⟩
 rcases ab with _|ab
 exact A5 a
 refine have a:FX g c z (FG g c z ab) w a3 a4 d=some ay:=a; ?_
 obtain ⟨ex,b0⟩:∃s,s=FG g c z ab:=⟨_,rfl⟩
 rw [←b0,FX] at a
 refine AR<|Sr<|Vm<|Vm<|have b1:=Ss DV bw ad; ?_
 obtain ⟨ey,ez,c9⟩:=AT b1
 refine Vx (v:=I (z.length:Int)) (Ll IR c9)<|Vr (.bool (decide (w< (z.length:Int))))<|AA<|Cn a (fun da a=>?_) fun da a=>?_
 refine WC.skip<|AR<|Af<|Sr<|Vm<|Vm<|Bi a fun b2 db a=>?_
 obtain ⟨dc,de,e0,b3,df,dg,dh,di,bh⟩:=A8 (κ:=DV) b1 db
 replace bh:Ax ah ac dc (de+w.toNat*1) b3:=bh
 obtain rfl:=(show b3=[Sb b2] from di)
 refine Vx (Ix IR df Z dg dh)<|Vx (Ld CG Z (Ax.cell0 bh Z))<|Bi a fun l dj a=>Ca (Cg [Sb b2] Z) (NH g ah ac dj) ?_
 rintro _ e1 ⟨bi,e2,rfl,ao,dk⟩
 obtain rfl:=A6 dk
 refine Vm<|Vr (Ag [I l.1.re,I l.1.im])<|Vr (I l.2)<|have dl:=Bs c8 ao;Eu<|St HM dl Z Z Z Z fun e3 dm av=>Va (I l.2)<|AA<|AR<|Sr<|Vm<|Vr (.bool (l.2 != 0))<|AA<|Cn a (fun dn a=>?_) fun dn a=>?_
 refine Sr<|Vx (v:=Ag [I 0,Cx (((0,0):Nat×Nat)),.bool false,.slice none 0 0]) (Bp CS F7 Z .nil)<|have dp:=Y3 (Y4 (Y4 am h m n o) u af ag aa) ad ao av;Eu<|St Cw dp Z Z Z Z fun e4 dq dr=>Va (I 11)<|AA<|AQ ?_
 obtain rfl:=AK a
 refine O2 B al Z (.agg B0 Z Z (Bw dq)) (.tmp Z)<|⟨bi,[I 0,Cx (((0,0):Nat×Nat)),.bool false,.slice none 0 0],Z,Ho (T4 (T4 (T4 (Mo [20,21,22,24] an) h m n o) u af ag aa) ad ao av dr) ak,(Al (x:=(AF.mk 0 ((0,0):Nat×Nat) false [])) BK)⟩
 refine WC.skip<|BW Cv (qs 0 3 (.one 3 (.one 4 (.one 5 (.q 6 (.one 7 .nil)))))) [7] [24] bi (by kernel_rfl) fun ds a5=>Qx az Z (fun _ _=>Fd D8 Z)<|have b4:=Y3 bg ao av a5;Qx az Z (fun _ ⟨_,aw⟩=>Ld Ib Z (Bc (Bs b4 aw) Z))<|have b5:=Bs dm a5;Qx az Z (fun _ ⟨_,aw⟩=>Lx D7 Z Z (Bw (Bs b5 aw)))<|A1 Z<|Bi a fun ai dt a=>A3 Z (.none Z) Z Z (Cg [Ag [I l.1.re,I l.1.im]] Z)<|Calls.mono (MH bi ds dt (BF (x:=l.1))) ?_
 rintro _ e5 ⟨du,rfl,aj⟩
 refine ⟨_,Z,⟨_,(Mo [24] aj)⟩,?_⟩
 refine A1 Z<|Bb Z (.none Z) Z Z<|Ch (cs:=[Cx ai]) du 23 [[Cx ai]] IQ Vj Z Z (.cons Z Z Z .nil) Z fun dv dw dx dy ap=>have dz:Own Kd.cpx 35 dv dw 23 (.slice (some ⟨dx,0,none⟩) 1 1) ([ai]:List (Nat×Nat)):=Own.lit (css:=[[Cx ai]]) dy Z Z Z (Aa Z BA) (A4 Z D3) Z;⟨⟨_,(Tn (Mo [24] aj) ap)⟩,?_⟩
 refine A1 Z<|have d0:=Os (Os (Os (Os (Os bf ao) av) a5) aj) ap;Bi a fun e6 b6 a=>Bb Z (.none Z) Z Z<|Bu (κ:=Kd.cpx) Z Z d0 dcd Vb (CC dz) (Et b6) (E6 b6) fun e7 d1 e8 bj a6=>?_
 obtain ⟨bk,bl,rfl⟩:=Own.len bj
 refine ⟨⟨_,(T2 (Mo [24] aj) ap a6)⟩,?_⟩
 refine Qx az Z (fun _ _=>Fd D8 Z)<|ES dcd<|WY.one<|have d2:=Y3 b4 aj ap a6;BM Z (.none Z) Z<|Bv (vs:=[Sl bk ((d++([ai]:List (Nat×Nat)))) bl]) (cs':=[I 3,Cx (((0,0):Nat×Nat)),.bool false,Sl bk ((d++([ai]:List (Nat×Nat)))) bl]) Vf Z Z Z Z (AX (Own.one bj) CJ) d2 dcd Z Z fun e9 d3 bm=>WY.nil<|AL<|Vm<|Vr (I (Wr (w+1)))<|Va (I (Wr (w+1)))<|AA<|have d4:=Os bj bm;have d5:=Y4 b5 aj ap a6 bm;⟨ab,Nat.lt_succ_self ab,_,d1,(Wr (w+1)),l.1.re,l.1.im,(d++([ai]:List (Nat×Nat))),bk,bl,Pu,(b0▸a),(T3 (T4 (Mo [21,22,24] ad) ao av a5 aj) ap a6 bm),d4,d5,d3⟩
 refine Ba<|Sr<|Vx (Lx B0 Z Z (Bw bg)) ?_
 obtain ⟨d6,fa,d7,d8⟩:=Own.lend bf dcd
 refine Bi a fun ax d9 a=>Ca (Cg [Ag [I 3,Cx (((0,0):Nat×Nat)),.bool false,Sl p d q]] Z) (UR g d6 ac d9 (Al (x:=(AF.mk 3 ((0,0):Nat×Nat) false d)) d7)) ?_
 rintro _ fb ⟨fc,rfl,ea⟩
 obtain ⟨eb,aq⟩:=d8 [] _ _ ea dcd
 refine Vm<|Vr (Sb ax.1)<|Vr (I ax.2)<|Va (Sb ax.1)<|Va (I ax.2)<|AA<|AR<|Sr<|Vm<|Vm<|Vx (v:=.bool (!(ax.1==c))) (Run.strNe Z Z)<|AA<|Cn a (fun ec a=>?_) fun ec a=>?_
 refine Sr<|Vx (v:=Ag [I 0,Cx (((0,0):Nat×Nat)),.bool false,.slice none 0 0]) (Bp CS F7 Z .nil)<|have ed:=Y2 (Y4 (Y4 am h m n o) u af ag aa) ad aq;Eu<|St Cw ed Z Z Z Z fun fd ee ef=>Va (I 11)<|AA<|AQ ?_
 obtain rfl:=AK a
 refine O2 B al Z (.agg B0 Z Z (Bw ee)) (.tmp Z)<|⟨eb,[I 0,Cx (((0,0):Nat×Nat)),.bool false,.slice none 0 0],Z,Ho (T3 (T4 (T4 (Mo [20,21,22,24] an) h m n o) u af ag aa) ad aq ef) ak,(Al (x:=(AF.mk 0 ((0,0):Nat×Nat) false [])) BK)⟩
 refine WC.skip<|Sr<|have eg:=Bs bg aq;Vx (Lx B0 Z Z (Bw eg))<|have eh:=Y2 (Y4 (Y4 am h m n o) u af ag aa) ad aq;have b7:=Os bf aq;Eu<|Bv (vs:=[I 3,Cx (((0,0):Nat×Nat)),.bool false,Sl p d q]) (cs':=[I 3,Cx (((0,0):Nat×Nat)),.bool false,Sl p d q]) Cw Z Z Z Z (AX Z (AX Z (AX Z (AX (Own.one b7) CJ)))) eh dcd Z Z fun fe ei b8=>Va (I 0)<|AA<|AQ<|have ej:=Os b7 b8; ?_
 obtain ⟨ek,b9,el⟩:=Own.freeze (S:=[24]) ej dcd dcd
 obtain rfl:=AK a
 refine have em:=Bs ei b9;O2 B al Z (.agg B0 Z Z (Bw em)) (.tmp Z)<|⟨ek,[I 3,Cx (((0,0):Nat×Nat)),.bool false,Sl p d q],Z,Ho (T4 (T4 (T4 (Mo [20,21,22,24] an) h m n o) u af ag aa) ad aq b8 b9) ak,(Al (x:=(AF.mk 3 ((0,0):Nat×Nat) false d)) el)⟩
theorem TH(c:Nat):Fq.Spec (Fq c):=lk0 (Rz c)
def Id.Spec(f:Bts→Option ((List AF)×Int)):Prop:=
 ∀l c {d kw0 a},f d=some a→[kw0].Nodup→0∉[kw0]→
  Calls PG 28 #[Sb d] c fun m e=>∃g h,m=.returned (.tuple #[h,I a.2])∧AS [kw0] l c g e∧Own Ao 38 g e kw0 h a.1
theorem R0(g:Nat)(af:Col)(ap:World)(a0:∀b,af b<10){d:Bts}{p:(List AF)×Int}(a:Id g d=some p):
  Calls PG 28 #[Sb d] ap fun bh a1=>∃a2 a3,bh=.returned (.tuple #[a3,I p.2])∧AS [1] af ap a2 a1∧Own Ao 38 a2 a1 1 a3 p.1:=by
 rw [Id] at a
 refine Ay Tryz.func28 Z Tryz.ntmps28 Z fun B a4 ca=>Sr<|Va (.slice none 0 0)<|Va (I 0)<|AA<|Sr<|Va (.slice none 0 0)<|AA<|Sr<|Va (I 0)<|AA<|AR<|Af<|Bg (fun o w ag=>∃l y e q r f,w=Env.puts l [(0,Sb d),(4,Sl q e r),(5,I f)]∧CZ g d o e f=some p∧AS [1,20] af ap y ag∧Own Ao 38 y ag 1 (Sl q e r) e) g ?_ ?_
 exact ⟨_,af,([]:List AF),none,0,0,Pu,a,(AS.refl [1,20] _ _),Own.nil⟩
 rintro o _ ag ⟨l,y,e,q,r,f,rfl,a,ah,aq⟩
 rcases o with _|o
 exact A5 a
 refine have a:FZ g d (CZ g d o) e f=some p:=a; ?_
 obtain ⟨ac,ar⟩:∃s,s=CZ g d o:=⟨_,rfl⟩
 rw [←ar,FZ] at a
 refine AR<|Sr<|Vm<|Vm<|Vx (v:=I (d.length:Int)) (Run.lenStr Ju Z)<|Vr (.bool (decide (f< (d.length:Int))))<|AA<|Cn a (fun bi a=>?_) fun bi a=>?_
 refine WC.skip<|Af<|AR<|Sr<|Vm<|Vm<|Bi a fun a5 bj a=>Vx (v:=U8 a5) (Run.indexBs Ju Z Z bj)<|Vr (.bool ((a5.toNat:Int)==((32:UInt8).toNat:Int)))<|AA<|Cn a (fun bk a=>?_) fun bk a=>?_
 refine Sr<|Vm<|Vr (I (Wr (f+1)))<|Va (I (Wr (f+1)))<|AA<|Ba<|⟨o,Nat.lt_succ_self o,_,y,e,q,r,(Wr (f+1)),Pu,(ar▸a),(Mo [1,20] ah),aq⟩
 refine WC.skip<|Sr<|Vm<|Va (I f)<|AA<|Sr<|Vm<|Vm<|Bi a fun ai bl a=>Vx (v:=U8 ai) (Run.indexBs Ju Z Z bl)<|Vr (.bool ((ai.toNat:Int)==((91:UInt8).toNat:Int)))<|Va (.bool ((ai.toNat:Int)==((91:UInt8).toNat:Int)))<|AA<|AR<|Af<|Bg (fun u w au=>∃l aa h z,w=Env.puts l [(0,Sb d),(4,Sl q e r),(5,I h),(6,I f),(7,.bool z)]∧EO g d e f ac u h z=some p∧AS [] y ag aa au) g ?_ ?_
 exact ⟨_,y,f,((ai.toNat:Int)==((91:UInt8).toNat:Int)),Pu,a,Rf⟩
 rintro u _ au ⟨l,aa,h,z,rfl,a,aj⟩
 rcases u with _|u
 exact A5 a
 refine have a:FY g d e f ac (EO g d e f ac u) h z=some p:=a; ?_
 obtain ⟨a6,a7⟩:∃s,s=EO g d e f ac u:=⟨_,rfl⟩
 rw [←a7,FY] at a
 refine AR<|Am (fun w ak=>∃l ab av,w=Env.puts l [(0,Sb d),(4,Sl q e r),(5,I h),(6,I f),(7,.bool z),(37,.bool av)]∧Ei g d e f ac h z a6 av=some p∧AS [] aa au ab ak) ?_ ?_
 refine AL<|Vm<|Vm<|Vx (v:=I (d.length:Int)) (Run.lenStr Ju Z)<|Vr (.bool (decide (h< (d.length:Int))))<|Vm<|Bo a (fun m a=>?_) fun m a=>?_
 refine Gm m<|Gm m<|Bo a (fun n a=>?_) fun n a=>?_
 refine Pg n<|Pg n<|Pg n<|Pg n<|Gp m n<|Vp m<|AA<|⟨_,aa,true,Pu,a,Rf⟩
 refine Gm n<|Gm n<|Bi a fun aw bm a=>Gx n (v:=U8 aw) (Run.indexBs Ju Z Z bm)<|Gr n (.bool ((aw.toNat:Int) != ((32:UInt8).toNat:Int)))<|Gp m n<|Vp m<|AA<|⟨_,aa,((aw.toNat:Int) != ((32:UInt8).toNat:Int)),Pu,a,Rf⟩
 refine Pg m<|Pg m<|Po<|Po<|Po<|Po<|Pg m<|Vp m<|AA<|⟨_,aa,false,Pu,a,Rf⟩
 rintro _ ak ⟨l,ab,av,rfl,a,al⟩
 rw [Ei] at a
 refine Cn a (fun bn a=>?_) fun bn a=>?_
 refine WC.skip<|Af<|Am (fun w a8=>∃l ax am,w=Env.puts l [(0,Sb d),(4,Sl q e r),(5,I h),(6,I f),(7,.bool am)]∧Hu h a6 am=some p∧AS [] ab ak ax a8) ?_ ?_
 refine Sr<|Vm<|Vm<|Bi a fun a9 bo a=>Vx (v:=U8 a9) (Run.indexBs Ju Z Z bo)<|Vr (.bool ((a9.toNat:Int)==((93:UInt8).toNat:Int)))<|AA<|Cn a (fun bp a=>?_) fun bp a=>?_
 refine AL<|Va (.bool false)<|AA<|⟨_,ab,false,Pu,a,Rf⟩
 refine WC.skip<|⟨_,ab,z,Pu,a,Rf⟩
 rintro _ a8 ⟨l,ax,am,rfl,a,bq⟩
 rw [Hu] at a
 refine AL<|Vm<|Vr (I (Wr (h+1)))<|Va (I (Wr (h+1)))<|AA<|⟨u,Nat.lt_succ_self u,_,ax,(Wr (h+1)),am,Pu,(a7▸a),(T2 (Mo [] aj) al bq)⟩
 refine Ba<|Sr<|Vm<|Vm<|Vm<|Bi a fun ba br a=>Vx (v:=Sb ba) (Run.sliceStr Ju Z ⟨_,Z⟩ ⟨_,Z⟩ br)<|Bi a fun c bt a=>Ca (Cg [Sb ba] Z) (TH g ab ak bt) ?_
 rintro _ cb ⟨bu,cc,rfl,ay,bv⟩
 obtain ⟨ad,ae,rfl,bb⟩:=E1 (Az bv)
 refine Vm<|Vr (Ag [I c.1.type_,Cx c.1.num,.bool c.1.bool,Sl ad c.1.list ae])<|Vr (I c.2)<|Ef<|AY bu 20 CS Z fun bc cf cg bw an=>have bx:=Ss Kd.cpx bb an;Eu<|St Cw bw Z Z Z Z fun ch bz ao=>Va (I c.2)<|AA<|AR<|Sr<|Vm<|Vr (.bool (c.2 != 0))<|AA<|Cn a (fun b0 a=>?_) fun b0 a=>?_
 refine Sr<|Va (.slice none 0 0)<|Va (I 11)<|AA<|AQ ?_
 obtain rfl:=AK a
 refine O2 B a4 Z (.tmp Z) (.tmp Z)<|⟨bc,.slice none 0 0,Z,Ho (Tn (T4 (Mo [1,20] ah) aj al ay an) ao) a0,Own.nil⟩
 refine WC.skip<|AL<|Vm<|Vx (Lx B0 Z Z (Bw bz))<|Ef<|Ch (cs:=[I c.1.type_,Cx c.1.num,.bool c.1.bool,Sl ad c.1.list ae]) bc 21 [[I c.1.type_,Cx c.1.num,.bool c.1.bool,Sl ad c.1.list ae]] Ic CS Z Z (.cons Z Z Z .nil) Z fun b1 b2 b3 b4 az=>have b5:=K2 Kd.cpx bx ao az;have b6:Own Ao 38 b1 b2 21 (.slice (some ⟨b3,0,none⟩) 1 1) ([c.1]:List AF):=Own.lit (css:=[[I c.1.type_,Cx c.1.num,.bool c.1.bool,Sl ad c.1.list ae]]) b4 Z Z Z (Aa (Al (x:=c.1) b5) BA) (A4 Z D3) Z;have b7:=Os (Os (Os (Os (Os (Os aq aj) al) ay) an) ao) az;Bi a fun ci bd a=>Ef<|Bu (κ:=Ao) Z Z b7 dcd VZ (CC b6) (Et bd) (E6 bd) fun cj b8 ck be b9=>?_
 obtain ⟨bf,bg,rfl⟩:=Own.len be
 refine Va (Sl bf ((e++([c.1]:List AF))) bg)<|AA<|⟨o,Nat.lt_succ_self o,_,b8,(e++([c.1]:List AF)),bf,bg,h,Pu,(ar▸a),(T3 (T4 (Mo [1,20] ah) aj al ay an) ao az b9),be⟩
 refine Ba<|Sr<|Vm<|Va (Sl q e r)<|Va (I 0)<|AA<|AQ ?_
 obtain rfl:=AK a
 refine O2 B a4 Z (.tmp Z) (.tmp Z)<|⟨y,Sl q e r,Z,Ho (Mo [1,20] ah) a0,aq⟩
theorem TI(c:Nat):Id.Spec (Id c):=by
 intro a d n kw0 o f hnd hnz
 refine Calls.mono (R0 c (recol (see [kw0]) a) d (Fa (Nat.le_of_ble_eq_true Z) a) f) ?_
 rintro p q ⟨g,h,l,e,m⟩
 exact ⟨glue [kw0] d a g,h,l,CA e (Fb Z Z),Jz (j:=0) m Z Z e⟩
def Cq.Spec(f:Ft→Option (AM×(List AF)×Bool)):Prop:=
 ∀g c {h l kw1 a},f h=some a→[kw1].Nodup→0∉[kw1]→MR.rep g.F c l h→
  Calls PG 11 #[Ag l] c fun n d=>∃e m u1,n=.returned (.tuple #[Ag m,u1,.bool a.2.2])∧AS [kw1] g c e d∧CK.rep e.F d m a.1∧Own Ao 38 e d kw1 u1 a.2.1
theorem P9(n:Nat)(b3:Col)(cn:World)(ex:∀b,b3 b<10){m:Ft}{d5:List Value}{az:AM×(List AF)×Bool}(ey:MR.rep b3.F cn d5 m)(a:Cq n m=some az):
  Calls PG 11 #[Ag d5] cn fun ez co=>∃cq d6 u1,ez=.returned (.tuple #[Ag d6,u1,.bool az.2.2])∧AS [1] b3 cn cq co∧CK.rep cq.F co d6 az.1∧Own Ao 38 cq co 1 u1 az.2.1:=by
 rw [Cq] at a
 obtain ⟨w,y,rfl,r⟩:=E1 (QP ey)
 refine Ay Tryz.func11 Z Tryz.ntmps11 Z fun B e0 c=>Sr<|Ef<|A0 b3 20 Z Z fun e1 le e2 d7 s=>Ef<|AY e1 21 KR Z fun bc e3 cr d8 o=>Va (.slice none 0 0)<|Va (.bool false)<|AA<|Am (fun ct a0=>∃bd a1 cu cv ap a2 a3 b4 d9,ct=Env.puts bd [(1,Pt e2 0),(2,Pt cr 0),(5,Pt cu 0),(6,Pt cv 0)]∧Gv n m ap b4=some az∧AS [22,23] bc e3 a1 a0∧Slc AI a1.F a0 (Sl a2 ap a3) ap∧Bk a1 a0 22 cu [Sl a2 ap a3] 28∧Bk a1 a0 23 cv [I b4,I d9] 63) ?_ ?_
 refine BW Cv (.q 0 (.q 1 (.three 2 7 8 (.three 3 7 8 (qs 4 3 (.two 7 8 (.one 8 (.one 9 (.one 10 .nil))) (.one 7 (.one 9 (.one 10 .nil))))) (.two 3 8 (qs 4 3 (.one 8 (.one 9 (.one 10 .nil)))) (.one 3 (qs 4 3 (.one 9 (.one 10 .nil))))) (.two 3 7 (qs 4 3 (.one 7 (.one 9 (.one 10 .nil)))) (.one 3 (qs 4 3 (.one 9 (.one 10 .nil)))))) (.two 2 8 (.two 3 8 (qs 4 3 (.one 8 (.one 9 (.one 10 .nil)))) (.one 3 (qs 4 3 (.one 9 (.one 10 .nil))))) (.one 2 (.one 3 (qs 4 3 (.one 9 (.one 10 .nil)))))) (.two 2 7 (.two 3 7 (qs 4 3 (.one 7 (.one 9 (.one 10 .nil)))) (.one 3 (qs 4 3 (.one 9 (.one 10 .nil))))) (.one 2 (.one 3 (qs 4 3 (.one 9 (.one 10 .nil))))))))) [10] [22] bc (by kernel_rfl) fun e4 g=>Qx c Z (fun _ _=>Fz ZB Z)<|have e5:=Y2 d7 o g;Qx c Z (fun _ ⟨_,d⟩=>Ld ABr Z (Bc (Bs e5 d) Z))<|WU Z Z Z ?_ ?_ ?_
 refine Bi a fun f e6 a=>A3 Z (.none Z) Z Z (Cg [] Z)<|Calls.mono (Li bc e4 e6) ?_
 rintro _ e7 ⟨cw,lf,rfl,e,e8⟩
 obtain rfl:=Kf e8
 refine ⟨_,Z,⟨_,(Mo [22] e)⟩,?_⟩
 refine WU Z Z Z ?_ ?_ ?_
 refine have e9:=K4 Kd.u8 r s o g e;Bi a fun u fa a=>A3 Z (.none Z) Z Z (Cg [Sl w m.text y,Ag [I f.text,I f.funcs,I f.arity,I f.nest]] Z)<|Calls.mono (FQ n cw e7 fa e9 (FR (x:=f))) ?_
 rintro _ lg ⟨ea,lh,li,rfl,ae,fb,fc⟩
 obtain ⟨b5,b6,rfl,cx⟩:=E1 (BV fb)
 obtain rfl:=As fc
 refine ⟨_,Z,⟨_,(Tn (Mo [22] e) ae)⟩,?_⟩
 refine Qx c Z (v:=.tuple #[Ag [Sl b5 u.1.funcs b6],Ag [I u.2.why,I u.2.at_]]) (fun _ _=>Mv Z)<|Qx c Z (v:=Ag [Sl b5 u.1.funcs b6]) (fun _ _=>Z)<|Qx c Z (v:=Ag [I u.2.why,I u.2.at_]) (fun _ _=>Z)<|M7 Z Z ?_ ?_
 refine Bb Z (.none Z) Z Z<|AY ea 22 KR Z fun fd lk fe ff be=>⟨⟨_,(T2 (Mo [22] e) ae be)⟩,?_⟩
 refine A1 Z<|Bb Z (.none Z) Z Z<|AY fd 23 FM Z fun fg ll fh fi bf=>⟨⟨_,(T3 (Mo [22] e) ae be bf)⟩,?_⟩
 refine A1 Z<|have fj:=Bs ff bf;have fk:=K2 AI cx be bf;BM Z (.none Z) Z<|St JJ fj Z Z Z Z fun lm fl b7=>⟨⟨_,(T4 (Mo [22] e) ae be bf b7)⟩,?_⟩
 refine ES dcd<|WY.one<|have fm:=Bs fi b7;BM Z (.none Z) Z<|St HK fm Z Z Z Z fun ln fn cy=>WY.nil<|have fo:=K2 AI fk b7 cy;have fp:=Bs fl cy;⟨_,fg,fe,fh,u.1.funcs,b5,b6,u.2.why,u.2.at_,Pu,a,(T2 (T4 (Mo [22,23] g) e ae be bf) b7 cy),fo,fp,fn⟩
 refine Bb Z (.none Z) Z Z<|AY ea 23 FM Z fun fq lo fr fs bg=>⟨⟨_,(T2 (Mo [22] e) ae bg)⟩,?_⟩
 refine A1 Z<|Bb Z (.none Z) Z Z<|AY fq 22 KR Z fun ft lp fu fv bh=>⟨⟨_,(T3 (Mo [22] e) ae bg bh)⟩,?_⟩
 refine A1 Z<|have fw:=K2 AI cx bg bh;BM Z (.none Z) Z<|St JJ fv Z Z Z Z fun lq fx b8=>⟨⟨_,(T4 (Mo [22] e) ae bg bh b8)⟩,?_⟩
 refine ES dcd<|WY.one<|have fy:=Y2 fs bh b8;BM Z (.none Z) Z<|St HK fy Z Z Z Z fun lr fz cz=>WY.nil<|have f0:=K2 AI fw b8 cz;have f1:=Bs fx cz;⟨_,ft,fu,fr,u.1.funcs,b5,b6,u.2.why,u.2.at_,Pu,a,(T2 (T4 (Mo [22,23] g) e ae bg bh) b8 cz),f0,f1,fz⟩
 refine Bb Z (.none Z) Z Z<|AY cw 22 KR Z fun eb f2 ec ed z=>⟨⟨_,(Tn (Mo [22] e) z)⟩,?_⟩
 refine M7 Z Z ?_ ?_
 refine have f3:=Ss Kd.u8 (K4 Kd.u8 r s o g e) z;Bi a fun af f4 a=>A3 Z (.none Z) Z Z (Cg [Sl w m.text y,Ag [I f.text,I f.funcs,I f.arity,I f.nest]] Z)<|Calls.mono (FQ n eb f2 f4 f3 (FR (x:=f))) ?_
 rintro _ ls ⟨f5,lt,lu,rfl,bi,f6,f7⟩
 obtain ⟨c0,c1,rfl,ee⟩:=E1 (BV f6)
 obtain rfl:=As f7
 refine ⟨_,Z,⟨_,(T2 (Mo [22] e) z bi)⟩,?_⟩
 refine Qx c Z (v:=.tuple #[Ag [Sl c0 af.1.funcs c1],Ag [I af.2.why,I af.2.at_]]) (fun _ _=>Mv Z)<|Qx c Z (v:=Ag [Sl c0 af.1.funcs c1]) (fun _ _=>Z)<|Qx c Z (v:=Ag [I af.2.why,I af.2.at_]) (fun _ _=>Z)<|A1 Z<|Bb Z (.none Z) Z Z<|AY f5 23 FM Z fun f8 lw f9 ga bj=>⟨⟨_,(T3 (Mo [22] e) z bi bj)⟩,?_⟩
 refine A1 Z<|have gb:=Y2 ed bi bj;have gc:=Ss AI ee bj;BM Z (.none Z) Z<|St JJ gb Z Z Z Z fun lx gd b9=>⟨⟨_,(T4 (Mo [22] e) z bi bj b9)⟩,?_⟩
 refine ES dcd<|WY.one<|have ge:=Bs ga b9;BM Z (.none Z) Z<|St HK ge Z Z Z Z fun ly gf c2=>WY.nil<|have gg:=K2 AI gc b9 c2;have gh:=Bs gd c2;⟨_,f8,ec,f9,af.1.funcs,c0,c1,af.2.why,af.2.at_,Pu,a,(T2 (T4 (Mo [22,23] g) e z bi bj) b9 c2),gg,gh,gf⟩
 refine Bb Z (.none Z) Z Z<|AY eb 23 FM Z fun gi gj gk gl a4=>⟨⟨_,(T2 (Mo [22] e) z a4)⟩,?_⟩
 refine A1 Z<|have gm:=K2 Kd.u8 (K4 Kd.u8 r s o g e) z a4;Bi a fun ag gn a=>A3 Z (.none Z) Z Z (Cg [Sl w m.text y,Ag [I f.text,I f.funcs,I f.arity,I f.nest]] Z)<|Calls.mono (FQ n gi gj gn gm (FR (x:=f))) ?_
 rintro _ lz ⟨go,l0,l1,rfl,bk,gp,gq⟩
 obtain ⟨c3,c4,rfl,ef⟩:=E1 (BV gp)
 obtain rfl:=As gq
 refine ⟨_,Z,⟨_,(T3 (Mo [22] e) z a4 bk)⟩,?_⟩
 refine Qx c Z (v:=.tuple #[Ag [Sl c3 ag.1.funcs c4],Ag [I ag.2.why,I ag.2.at_]]) (fun _ _=>Mv Z)<|Qx c Z (v:=Ag [Sl c3 ag.1.funcs c4]) (fun _ _=>Z)<|Qx c Z (v:=Ag [I ag.2.why,I ag.2.at_]) (fun _ _=>Z)<|A1 Z<|have gr:=Y2 ed a4 bk;BM Z (.none Z) Z<|St JJ gr Z Z Z Z fun l3 gs ca=>⟨⟨_,(T4 (Mo [22] e) z a4 bk ca)⟩,?_⟩
 refine ES dcd<|WY.one<|have gt:=Y2 gl bk ca;BM Z (.none Z) Z<|St HK gt Z Z Z Z fun l4 gu c5=>WY.nil<|have gv:=K2 AI ef ca c5;have gw:=Bs gs c5;⟨_,go,ec,gk,ag.1.funcs,c3,c4,ag.2.why,ag.2.at_,Pu,a,(T2 (T4 (Mo [22,23] g) e z a4 bk) ca c5),gv,gw,gu⟩
 refine Bb Z (.none Z) Z Z<|AY cw 23 FM Z fun eg gx eh ei aa=>⟨⟨_,(Tn (Mo [22] e) aa)⟩,?_⟩
 refine M7 Z Z ?_ ?_
 refine have gy:=Ss Kd.u8 (K4 Kd.u8 r s o g e) aa;Bi a fun ah gz a=>A3 Z (.none Z) Z Z (Cg [Sl w m.text y,Ag [I f.text,I f.funcs,I f.arity,I f.nest]] Z)<|Calls.mono (FQ n eg gx gz gy (FR (x:=f))) ?_
 rintro _ l5 ⟨g0,l6,l7,rfl,bl,g1,g2⟩
 obtain ⟨c6,c7,rfl,ej⟩:=E1 (BV g1)
 obtain rfl:=As g2
 refine ⟨_,Z,⟨_,(T2 (Mo [22] e) aa bl)⟩,?_⟩
 refine Qx c Z (v:=.tuple #[Ag [Sl c6 ah.1.funcs c7],Ag [I ah.2.why,I ah.2.at_]]) (fun _ _=>Mv Z)<|Qx c Z (v:=Ag [Sl c6 ah.1.funcs c7]) (fun _ _=>Z)<|Qx c Z (v:=Ag [I ah.2.why,I ah.2.at_]) (fun _ _=>Z)<|A1 Z<|Bb Z (.none Z) Z Z<|AY g0 22 KR Z fun g3 l9 g4 g5 bm=>⟨⟨_,(T3 (Mo [22] e) aa bl bm)⟩,?_⟩
 refine A1 Z<|have g6:=Ss AI ej bm;BM Z (.none Z) Z<|St JJ g5 Z Z Z Z fun ma g7 cb=>⟨⟨_,(T4 (Mo [22] e) aa bl bm cb)⟩,?_⟩
 refine ES dcd<|WY.one<|have g8:=Y3 ei bl bm cb;BM Z (.none Z) Z<|St HK g8 Z Z Z Z fun mb g9 c8=>WY.nil<|have ha:=K2 AI g6 cb c8;have hb:=Bs g7 c8;⟨_,g3,g4,eh,ah.1.funcs,c6,c7,ah.2.why,ah.2.at_,Pu,a,(T2 (T4 (Mo [22,23] g) e aa bl bm) cb c8),ha,hb,g9⟩
 refine Bb Z (.none Z) Z Z<|AY eg 22 KR Z fun hc hd he hf a5=>⟨⟨_,(T2 (Mo [22] e) aa a5)⟩,?_⟩
 refine A1 Z<|have hg:=K2 Kd.u8 (K4 Kd.u8 r s o g e) aa a5;Bi a fun ai hh a=>A3 Z (.none Z) Z Z (Cg [Sl w m.text y,Ag [I f.text,I f.funcs,I f.arity,I f.nest]] Z)<|Calls.mono (FQ n hc hd hh hg (FR (x:=f))) ?_
 rintro _ mc ⟨hi,md,me,rfl,bn,hj,hk⟩
 obtain ⟨c9,da,rfl,ek⟩:=E1 (BV hj)
 obtain rfl:=As hk
 refine ⟨_,Z,⟨_,(T3 (Mo [22] e) aa a5 bn)⟩,?_⟩
 refine Qx c Z (v:=.tuple #[Ag [Sl c9 ai.1.funcs da],Ag [I ai.2.why,I ai.2.at_]]) (fun _ _=>Mv Z)<|Qx c Z (v:=Ag [Sl c9 ai.1.funcs da]) (fun _ _=>Z)<|Qx c Z (v:=Ag [I ai.2.why,I ai.2.at_]) (fun _ _=>Z)<|A1 Z<|have hl:=Bs hf bn;BM Z (.none Z) Z<|St JJ hl Z Z Z Z fun mg hm cc=>⟨⟨_,(T4 (Mo [22] e) aa a5 bn cc)⟩,?_⟩
 refine ES dcd<|WY.one<|have hn:=Y3 ei a5 bn cc;BM Z (.none Z) Z<|St HK hn Z Z Z Z fun mh ho db=>WY.nil<|have hp:=K2 AI ek cc db;have hq:=Bs hm db;⟨_,hi,he,eh,ai.1.funcs,c9,da,ai.2.why,ai.2.at_,Pu,a,(T2 (T4 (Mo [22,23] g) e aa a5 bn) cc db),hp,hq,ho⟩
 refine Bb Z (.none Z) Z Z<|AY bc 22 KR Z fun el hr dc de h=>⟨⟨_,(Mo [22] h)⟩,?_⟩
 refine M7 Z Z ?_ ?_
 refine Bi a fun ac hs a=>A3 Z (.none Z) Z Z (Cg [] Z)<|Calls.mono (Li el hr hs) ?_
 rintro _ ht ⟨em,mi,rfl,p,hu⟩
 obtain rfl:=Kf hu
 refine ⟨_,Z,⟨_,(Tn (Mo [22] h) p)⟩,?_⟩
 refine M7 Z Z ?_ ?_
 refine have hw:=Ss Kd.u8 (K4 Kd.u8 r s o g h) p;Bi a fun aj hx a=>A3 Z (.none Z) Z Z (Cg [Sl w m.text y,Ag [I ac.text,I ac.funcs,I ac.arity,I ac.nest]] Z)<|Calls.mono (FQ n em ht hx hw (FR (x:=ac))) ?_
 rintro _ mj ⟨hy,mk,ml,rfl,bo,hz,h0⟩
 obtain ⟨df,dg,rfl,en⟩:=E1 (BV hz)
 obtain rfl:=As h0
 refine ⟨_,Z,⟨_,(T2 (Mo [22] h) p bo)⟩,?_⟩
 refine Qx c Z (v:=.tuple #[Ag [Sl df aj.1.funcs dg],Ag [I aj.2.why,I aj.2.at_]]) (fun _ _=>Mv Z)<|Qx c Z (v:=Ag [Sl df aj.1.funcs dg]) (fun _ _=>Z)<|Qx c Z (v:=Ag [I aj.2.why,I aj.2.at_]) (fun _ _=>Z)<|A1 Z<|Bb Z (.none Z) Z Z<|AY hy 23 FM Z fun h1 mn h2 h3 bp=>⟨⟨_,(T3 (Mo [22] h) p bo bp)⟩,?_⟩
 refine A1 Z<|have h4:=Y3 de p bo bp;have h5:=Ss AI en bp;BM Z (.none Z) Z<|St JJ h4 Z Z Z Z fun mo h6 cd=>⟨⟨_,(T4 (Mo [22] h) p bo bp cd)⟩,?_⟩
 refine ES dcd<|WY.one<|have h7:=Bs h3 cd;BM Z (.none Z) Z<|St HK h7 Z Z Z Z fun mp h8 dh=>WY.nil<|have h9:=K2 AI h5 cd dh;have ia:=Bs h6 dh;⟨_,h1,dc,h2,aj.1.funcs,df,dg,aj.2.why,aj.2.at_,Pu,a,(T2 (T4 (Mo [22,23] g) h p bo bp) cd dh),h9,ia,h8⟩
 refine Bb Z (.none Z) Z Z<|AY em 23 FM Z fun ib ic id ie a6=>⟨⟨_,(T2 (Mo [22] h) p a6)⟩,?_⟩
 refine A1 Z<|have ig:=K2 Kd.u8 (K4 Kd.u8 r s o g h) p a6;Bi a fun ak ih a=>A3 Z (.none Z) Z Z (Cg [Sl w m.text y,Ag [I ac.text,I ac.funcs,I ac.arity,I ac.nest]] Z)<|Calls.mono (FQ n ib ic ih ig (FR (x:=ac))) ?_
 rintro _ mq ⟨ii,mr,ms,rfl,bq,ij,ik⟩
 obtain ⟨di,dj,rfl,eo⟩:=E1 (BV ij)
 obtain rfl:=As ik
 refine ⟨_,Z,⟨_,(T3 (Mo [22] h) p a6 bq)⟩,?_⟩
 refine Qx c Z (v:=.tuple #[Ag [Sl di ak.1.funcs dj],Ag [I ak.2.why,I ak.2.at_]]) (fun _ _=>Mv Z)<|Qx c Z (v:=Ag [Sl di ak.1.funcs dj]) (fun _ _=>Z)<|Qx c Z (v:=Ag [I ak.2.why,I ak.2.at_]) (fun _ _=>Z)<|A1 Z<|have il:=Y3 de p a6 bq;BM Z (.none Z) Z<|St JJ il Z Z Z Z fun mu im cf=>⟨⟨_,(T4 (Mo [22] h) p a6 bq cf)⟩,?_⟩
 refine ES dcd<|WY.one<|have io:=Y2 ie bq cf;BM Z (.none Z) Z<|St HK io Z Z Z Z fun mv ip dk=>WY.nil<|have iq:=K2 AI eo cf dk;have ir:=Bs im dk;⟨_,ii,dc,id,ak.1.funcs,di,dj,ak.2.why,ak.2.at_,Pu,a,(T2 (T4 (Mo [22,23] g) h p a6 bq) cf dk),iq,ir,ip⟩
 refine Bb Z (.none Z) Z Z<|AY el 23 FM Z fun it iu iv iw ar=>⟨⟨_,(Tn (Mo [22] h) ar)⟩,?_⟩
 refine A1 Z<|Bi a fun br ix a=>A3 Z (.none Z) Z Z (Cg [] Z)<|Calls.mono (Li it iu ix) ?_
 rintro _ iy ⟨iz,mw,rfl,au,i0⟩
 obtain rfl:=Kf i0
 refine ⟨_,Z,⟨_,(T2 (Mo [22] h) ar au)⟩,?_⟩
 refine A1 Z<|have i1:=K2 Kd.u8 (K4 Kd.u8 r s o g h) ar au;Bi a fun al i2 a=>A3 Z (.none Z) Z Z (Cg [Sl w m.text y,Ag [I br.text,I br.funcs,I br.arity,I br.nest]] Z)<|Calls.mono (FQ n iz iy i2 i1 (FR (x:=br))) ?_
 rintro _ mx ⟨i3,my,mz,rfl,bt,i4,i5⟩
 obtain ⟨dl,dm,rfl,ep⟩:=E1 (BV i4)
 obtain rfl:=As i5
 refine ⟨_,Z,⟨_,(T3 (Mo [22] h) ar au bt)⟩,?_⟩
 refine Qx c Z (v:=.tuple #[Ag [Sl dl al.1.funcs dm],Ag [I al.2.why,I al.2.at_]]) (fun _ _=>Mv Z)<|Qx c Z (v:=Ag [Sl dl al.1.funcs dm]) (fun _ _=>Z)<|Qx c Z (v:=Ag [I al.2.why,I al.2.at_]) (fun _ _=>Z)<|A1 Z<|have i6:=Y3 de ar au bt;BM Z (.none Z) Z<|St JJ i6 Z Z Z Z fun m1 i7 cg=>⟨⟨_,(T4 (Mo [22] h) ar au bt cg)⟩,?_⟩
 refine ES dcd<|WY.one<|have i8:=Y3 iw au bt cg;BM Z (.none Z) Z<|St HK i8 Z Z Z Z fun m2 i9 dn=>WY.nil<|have ja:=K2 AI ep cg dn;have jb:=Bs i7 dn;⟨_,i3,dc,iv,al.1.funcs,dl,dm,al.2.why,al.2.at_,Pu,a,(T2 (T4 (Mo [22,23] g) h ar au bt) cg dn),ja,jb,i9⟩
 refine Bb Z (.none Z) Z Z<|AY bc 23 FM Z fun eq jc dp dq l=>⟨⟨_,(Mo [22] l)⟩,?_⟩
 refine M7 Z Z ?_ ?_
 refine Bi a fun ad jd a=>A3 Z (.none Z) Z Z (Cg [] Z)<|Calls.mono (Li eq jc jd) ?_
 rintro _ je ⟨er,m3,rfl,q,jf⟩
 obtain rfl:=Kf jf
 refine ⟨_,Z,⟨_,(Tn (Mo [22] l) q)⟩,?_⟩
 refine M7 Z Z ?_ ?_
 refine have jg:=Ss Kd.u8 (K4 Kd.u8 r s o g l) q;Bi a fun am jh a=>A3 Z (.none Z) Z Z (Cg [Sl w m.text y,Ag [I ad.text,I ad.funcs,I ad.arity,I ad.nest]] Z)<|Calls.mono (FQ n er je jh jg (FR (x:=ad))) ?_
 rintro _ m4 ⟨ji,m5,m6,rfl,bu,jj,jk⟩
 obtain ⟨dr,ds,rfl,es⟩:=E1 (BV jj)
 obtain rfl:=As jk
 refine ⟨_,Z,⟨_,(T2 (Mo [22] l) q bu)⟩,?_⟩
 refine Qx c Z (v:=.tuple #[Ag [Sl dr am.1.funcs ds],Ag [I am.2.why,I am.2.at_]]) (fun _ _=>Mv Z)<|Qx c Z (v:=Ag [Sl dr am.1.funcs ds]) (fun _ _=>Z)<|Qx c Z (v:=Ag [I am.2.why,I am.2.at_]) (fun _ _=>Z)<|A1 Z<|Bb Z (.none Z) Z Z<|AY ji 22 KR Z fun jl m8 jm jn bv=>⟨⟨_,(T3 (Mo [22] l) q bu bv)⟩,?_⟩
 refine A1 Z<|have jo:=Ss AI es bv;BM Z (.none Z) Z<|St JJ jn Z Z Z Z fun m9 jp ch=>⟨⟨_,(T4 (Mo [22] l) q bu bv ch)⟩,?_⟩
 refine ES dcd<|WY.one<|have jq:=Y4 dq q bu bv ch;BM Z (.none Z) Z<|St HK jq Z Z Z Z fun na jr dt=>WY.nil<|have js:=K2 AI jo ch dt;have jt:=Bs jp dt;⟨_,jl,jm,dp,am.1.funcs,dr,ds,am.2.why,am.2.at_,Pu,a,(T2 (T4 (Mo [22,23] g) l q bu bv) ch dt),js,jt,jr⟩
 refine Bb Z (.none Z) Z Z<|AY er 22 KR Z fun ju jv jw jx a7=>⟨⟨_,(T2 (Mo [22] l) q a7)⟩,?_⟩
 refine A1 Z<|have jy:=K2 Kd.u8 (K4 Kd.u8 r s o g l) q a7;Bi a fun an jz a=>A3 Z (.none Z) Z Z (Cg [Sl w m.text y,Ag [I ad.text,I ad.funcs,I ad.arity,I ad.nest]] Z)<|Calls.mono (FQ n ju jv jz jy (FR (x:=ad))) ?_
 rintro _ nb ⟨j0,nc,nd,rfl,bw,j1,j2⟩
 obtain ⟨du,dv,rfl,et⟩:=E1 (BV j1)
 obtain rfl:=As j2
 refine ⟨_,Z,⟨_,(T3 (Mo [22] l) q a7 bw)⟩,?_⟩
 refine Qx c Z (v:=.tuple #[Ag [Sl du an.1.funcs dv],Ag [I an.2.why,I an.2.at_]]) (fun _ _=>Mv Z)<|Qx c Z (v:=Ag [Sl du an.1.funcs dv]) (fun _ _=>Z)<|Qx c Z (v:=Ag [I an.2.why,I an.2.at_]) (fun _ _=>Z)<|A1 Z<|have j3:=Bs jx bw;BM Z (.none Z) Z<|St JJ j3 Z Z Z Z fun nf j4 ci=>⟨⟨_,(T4 (Mo [22] l) q a7 bw ci)⟩,?_⟩
 refine ES dcd<|WY.one<|have j5:=Y4 dq q a7 bw ci;BM Z (.none Z) Z<|St HK j5 Z Z Z Z fun ng j6 dw=>WY.nil<|have j7:=K2 AI et ci dw;have j8:=Bs j4 dw;⟨_,j0,jw,dp,an.1.funcs,du,dv,an.2.why,an.2.at_,Pu,a,(T2 (T4 (Mo [22,23] g) l q a7 bw) ci dw),j7,j8,j6⟩
 refine Bb Z (.none Z) Z Z<|AY eq 22 KR Z fun j9 ka kb kc av=>⟨⟨_,(Tn (Mo [22] l) av)⟩,?_⟩
 refine A1 Z<|Bi a fun bx kd a=>A3 Z (.none Z) Z Z (Cg [] Z)<|Calls.mono (Li j9 ka kd) ?_
 rintro _ ke ⟨kf,nh,rfl,aw,kg⟩
 obtain rfl:=Kf kg
 refine ⟨_,Z,⟨_,(T2 (Mo [22] l) av aw)⟩,?_⟩
 refine A1 Z<|have kh:=K2 Kd.u8 (K4 Kd.u8 r s o g l) av aw;Bi a fun ao ki a=>A3 Z (.none Z) Z Z (Cg [Sl w m.text y,Ag [I bx.text,I bx.funcs,I bx.arity,I bx.nest]] Z)<|Calls.mono (FQ n kf ke ki kh (FR (x:=bx))) ?_
 rintro _ ni ⟨kj,nj,nk,rfl,bz,kk,kl⟩
 obtain ⟨dx,dy,rfl,eu⟩:=E1 (BV kk)
 obtain rfl:=As kl
 refine ⟨_,Z,⟨_,(T3 (Mo [22] l) av aw bz)⟩,?_⟩
 refine Qx c Z (v:=.tuple #[Ag [Sl dx ao.1.funcs dy],Ag [I ao.2.why,I ao.2.at_]]) (fun _ _=>Mv Z)<|Qx c Z (v:=Ag [Sl dx ao.1.funcs dy]) (fun _ _=>Z)<|Qx c Z (v:=Ag [I ao.2.why,I ao.2.at_]) (fun _ _=>Z)<|A1 Z<|have km:=Y2 kc aw bz;BM Z (.none Z) Z<|St JJ km Z Z Z Z fun nm kn cj=>⟨⟨_,(T4 (Mo [22] l) av aw bz cj)⟩,?_⟩
 refine ES dcd<|WY.one<|have ko:=Y4 dq av aw bz cj;BM Z (.none Z) Z<|St HK ko Z Z Z Z fun np kp dz=>WY.nil<|have kq:=K2 AI eu cj dz;have kr:=Bs kn dz;⟨_,kj,kb,dp,ao.1.funcs,dx,dy,ao.2.why,ao.2.at_,Pu,a,(T2 (T4 (Mo [22,23] g) l av aw bz) cj dz),kq,kr,kp⟩
 rintro _ a0 ⟨bd,a1,cu,cv,ap,a2,a3,b4,d9,rfl,a,ck,ew,ks,kt⟩
 rw [Gv] at a
 refine Sr<|Vx (Fd ZC Z)<|have ku:=Y2 d7 o ck;Vx (Ld CG Z (Bc ku Z))<|Bi a fun ab kv a=>Ca (Cg [Sb m.args] Z) (TI n a1 a0 (kw0:=1) kv dcd dcd) ?_
 rintro _ kw ⟨d0,nq,rfl,ax,d1⟩
 obtain ⟨a8,a9,rfl⟩:=Own.len d1
 refine Vm<|Vr (Sl a8 ab.1 a9)<|Vr (I ab.2)<|Va (Sl a8 ab.1 a9)<|Va (I ab.2)<|AA<|Am (fun ct b0=>∃bd ba bb cl cm d2 aq b1 b2,ct=Env.puts bd [(2,Pt cr 0),(3,Sl cl bb cm),(4,.bool d2)]∧JZ bb d2 aq=some az∧AS [21] d0 kw ba b0∧Own Ao 38 ba b0 1 (Sl cl bb cm) bb∧Slc AI ba.F b0 (Sl b1 aq b2) aq∧Bk ba b0 21 cr [Sl b1 aq b2] 28) ?_ ?_
 refine AL<|have kx:=Bs ks ax;Vx (Lx Gd Z Z (Bw kx))<|Vm<|Vx (Fz ND Z)<|have ky:=Bs kt ax;Vx (Ld NE Z (Bc ky Z))<|Vr (.bool (b4==0))<|Vm<|Bo a (fun ay a=>?_) fun ay a=>?_
 refine Gm ay<|Gr ay (.bool (ab.2==0))<|Vp ay<|have kz:=Y2 d8 ck ax;have k0:=Ss AI ew ax;Eu<|St JJ kz Z Z Z Z fun nr k1 d3=>Va (Sl a8 ab.1 a9)<|Va (.bool (ab.2==0))<|AA<|have k2:=Os d1 d3;have k3:=Ss AI k0 d3;⟨_,d0,ab.1,a8,a9,(ab.2==0),ap,a2,a3,Pu,a,(Mo [21] d3),k2,k3,k1⟩
 refine Pg ay<|Pg ay<|Vp ay<|have k4:=Y2 d8 ck ax;have k5:=Ss AI ew ax;Eu<|St JJ k4 Z Z Z Z fun ns k6 d4=>Va (Sl a8 ab.1 a9)<|Va (.bool false)<|AA<|have k7:=Os d1 d4;have k8:=Ss AI k5 d4;⟨_,d0,ab.1,a8,a9,false,ap,a2,a3,Pu,a,(Mo [21] d4),k7,k8,k6⟩
 rintro _ b0 ⟨bd,ba,bb,cl,cm,d2,aq,b1,b2,rfl,a,k9,la,lb,lc⟩
 rw [JZ] at a
 refine AQ ?_
 obtain rfl:=AK a
 refine YP (B:=B) e0<|ACn Z (.agg Gd Z Z (Bw lc)) (.tmp Z) (.tmp Z)<|⟨ba,[Sl b1 aq b2],Sl cl bb cm,Z,Ho (T4 (Mo [1,21,22,23] s) o ck ax k9) ex,(BQ (x:=(AM.mk aq)) lb),la⟩
theorem NW(c:Nat):Cq.Spec (Cq c):=by
 intro a d p q kw1 r f hnd hnz g
 refine Calls.mono (P9 c (recol (see [kw1]) a) d (Fa (Nat.le_of_ble_eq_true Z) a) (BY MR g [kw1]) f) ?_
 rintro s u ⟨h,l,u1,m,e,n,o⟩
 exact ⟨glue [kw1] d a h,l,u1,m,CA e (Fb Z Z),Dm CK n,Jz (j:=0) o Z Z e⟩
def D6.At(G1 G2:Prop)(c:Col)(a:World)(f:Int→Int→AD→Option AD)(d:Nat):Prop:=
 ∀{l m e n o p},f l m n=some p→G1→G2→Bk c a d e o 63→An.rep c.F a o n→
  Calls PG 79 #[I l,I m,Pt e 0] a fun r g=>∃h q,r=.returned (.tuple #[])∧AS [d] c a h g∧Bk h g d e q 63∧An.rep h.F g q p
def D6.Spec(f:Int→Int→AD→Option AD):Prop:=
 ∀c d {a},D6.At ([a].Nodup) (0∉[a]) c d f a
theorem Qa(f:Col)(o:World)(p:∀b,f b<10):D6.At True True f o D6 1:=by
 intro g d u e af w a _ _ h y
 rw [D6] at a
 obtain rfl:=As y
 refine Ay Tryz.func79 Z Tryz.ntmps79 Z fun B q ag=>Am (fun z r=>∃s l n,z=Env.puts s [(0,I g),(1,I d),(2,Pt u 0),(13,.bool n)]∧J1 g d e n=some w∧AS [] f o l r) ?_ ?_
 refine AL<|Vx (Fz ND Z)<|Vx (Ld NE Z (Bc h Z))<|Vr (.bool (e.why==0))<|Vm<|Bo a (fun c a=>?_) fun c a=>?_
 refine Pg c<|Pg c<|Pg c<|Pg c<|Vp c<|AA<|⟨_,f,true,Pu,a,Rf⟩
 refine Gm c<|Gx c (Fd O3 Z)<|Gx c (Ld BC Z (Bc h Z))<|Gr c (.bool (decide (d<e.at_)))<|Vp c<|AA<|⟨_,f,(decide (d<e.at_)),Pu,a,Rf⟩
 rintro _ r ⟨s,l,n,rfl,a,m⟩
 rw [J1] at a
 refine Cn a (fun aa a=>?_) fun aa a=>?_
 refine AL<|Vm<|Vm<|Vx (v:=Ag [I g,I d]) (Bp FM Mu Z (.cons Z Z Z (.cons Z Z Z .nil)))<|have ab:=Bs h m;Eu<|St HK ab Z Z Z Z fun ah ac ad=>AA ?_
 obtain rfl:=AK a
 refine M9 (B:=B) q<|M8 Z<|⟨l,[I g,I d],Z,Ho (Tn (Mo [1] m) ad) p,ac,(Ak (x:=(AD.mk g d)))⟩
 refine WC.skip ?_
 obtain rfl:=AK a
 refine M9 (B:=B) q<|M8 Z<|have ae:=Bs h m;⟨l,[I e.why,I e.at_],Z,Ho (Mo [] m) p,ae,(Ak (x:=e))⟩
theorem KG:D6.Spec D6:=lk1 (Qa)
def F1.At(G1 G2:Prop)(c:Col)(a:World)(f:AE→Aq→Aq→AD→AM→Option AD)(ad ae af ag d ah:Nat):Prop:=
 ∀{l m n o p q r s e u w y z aa ab},f l o r u z=some ab→G1→G2→AH.rep c.F a m l→Mp c a ad n o→Bk c a ae p [.map (some q)] 81→Mp c a af q r→Bk c a ag s [.func (.func 79) #[] [Pt e 0].toArray] 169→Bk c a d e w 63→An.rep c.F a w u→Bk c a ah y aa 28→CK.rep c.F a aa z→
  Calls PG 81 #[Ag m,.map (some n),Pt p 0,Pt s 0,Pt y 0] a fun ai g=>∃h ac,ai=.returned (.tuple #[])∧AS [d] c a h g∧Bk h g d e ac 63∧An.rep h.F g ac ab
def F1.Spec(f:AE→Aq→Aq→AD→AM→Option AD):Prop:=
 ∀l m {a c d e g h},F1.At ([a,c,d,e,g,h].Nodup) (0∉[a,c,d,e,g,h]) l m f a c d e g h
theorem Qb(ai:Col)(a5:World)(ab:∀b,ai b<10):F1.At True True ai a5 F1 1 2 3 4 5 6:=by
 intro d cu cv ac cw cx n aj ak o cy az a0 cz al a _ _ a6 a7 a8 a9 am ad ba bb bc
 rw [F1] at a
 obtain ⟨c1,c2,rfl,a1⟩:=E1 (Ae a6)
 obtain rfl:=As ba
 obtain ⟨c4,c5,rfl,a2⟩:=E1 (BV bc)
 refine Ay Tryz.func81 Z Tryz.ntmps81 Z fun B ae c=>Sr<|Ef<|A0 ai 20 Z Z fun an bd ao p h=>AA<|Sr<|have be:=Bs a8 h;Vx (Ld O7 Z (Bc be Z))<|Vx (Fd Di Z)<|Vx (Ld CG Z (Bc p Z))<|have bf:=Ms a9 h;Vx (v:=I (Cu n d.name)) (KM LQ Z Z bf)<|Va (I (Cu n d.name))<|AA<|Af<|Am (fun z af=>∃q u ap,z=Env.puts q [(3,Pt aj 0),(4,Pt az 0),(5,Pt ao 0),(7,I (Cu n d.name)),(12,.bool ap)]∧HW d n o a0 ap=some al∧AS [] an bd u af) ?_ ?_
 refine AL<|Vx (Fz C8 Z)<|Vx (Ld Ge Z (Bc p Z))<|Vr (.bool (d.op==6))<|Vm<|Bo a (fun m a=>?_) fun m a=>?_
 refine Gm m<|Gx m (Fd Di Z)<|Gx m (Ld CG Z (Bc p Z))<|have bg:=Ms a7 h;Gx m (v:=I (Cu ac d.name)) (KM LQ Z Z bg)<|Gr m (.bool ((Cu ac d.name)==0))<|Vp m<|Va (.bool ((Cu ac d.name)==0))<|AA<|⟨_,an,((Cu ac d.name)==0),Pu,a,Rf⟩
 refine Pg m<|Pg m<|Pg m<|Pg m<|Pg m<|Vp m<|Va (.bool false)<|AA<|⟨_,an,false,Pu,a,Rf⟩
 rintro _ af ⟨q,u,ap,rfl,a,g⟩
 rw [HW] at a
 refine Cn a (fun bh a=>?_) fun bh a=>?_
 refine AL<|have bi:=Y2 am h g;Vx (Ld QX Z (Bc bi Z))<|Vx (Fd Mi Z)<|have bj:=Bs p g;Vx (Ld BC Z (Bc bj Z))<|have bk:=Y2 ad h g;Bi a fun aq bl a=>Ca (Sz (vs:=[I 31,I d.at_]) (caps:=[Pt ak 0]) Z Z) (KG u af bl dcd dcd bk (Ak (x:=o))) ?_
 rintro _ c6 ⟨bm,c7,rfl,bn,bo,bp⟩
 obtain rfl:=As bp
 refine AA ?_
 obtain rfl:=AK a
 refine M9 (B:=B) ae<|M8 Z<|⟨bm,[I aq.why,I aq.at_],Z,Ho (T2 (Mo [5] h) g bn) ab,bo,(Ak (x:=aq))⟩
 refine Am (fun z ag=>∃q r ar,z=Env.puts q [(3,Pt aj 0),(4,Pt az 0),(5,Pt ao 0),(7,I (Cu n d.name)),(27,.bool ar)]∧GP d n o a0 ar=some al∧AS [] u af r ag) ?_ ?_
 refine AL<|Vx (Fz C8 Z)<|have bq:=Bs p g;Vx (Ld Ge Z (Bc bq Z))<|Vr (.bool (d.op==7))<|Vm<|Bo a (fun s a=>?_) fun s a=>?_
 refine Gm s<|Gr s (.bool ((Cu n d.name)==0))<|Vp s<|Va (.bool ((Cu n d.name)==0))<|AA<|⟨_,u,((Cu n d.name)==0),Pu,a,Rf⟩
 refine Pg s<|Pg s<|Vp s<|Va (.bool false)<|AA<|⟨_,u,false,Pu,a,Rf⟩
 rintro _ ag ⟨q,r,ar,rfl,a,l⟩
 rw [GP] at a
 refine Cn a (fun br a=>?_) fun br a=>?_
 refine AL<|have bt:=Y3 am h g l;Vx (Ld QX Z (Bc bt Z))<|Vx (Fd Mi Z)<|have bu:=Y2 p g l;Vx (Ld BC Z (Bc bu Z))<|have bv:=Y3 ad h g l;Bi a fun au bw a=>Ca (Sz (vs:=[I 32,I d.at_]) (caps:=[Pt ak 0]) Z Z) (KG r ag bw dcd dcd bv (Ak (x:=o))) ?_
 rintro _ c8 ⟨bx,c9,rfl,bz,b0,b1⟩
 obtain rfl:=As b1
 refine AA ?_
 obtain rfl:=AK a
 refine M9 (B:=B) ae<|M8 Z<|⟨bx,[I au.why,I au.at_],Z,Ho (T3 (Mo [5] h) g l bz) ab,b0,(Ak (x:=au))⟩
 refine Am (fun z av=>∃q ah aw,z=Env.puts q [(3,Pt aj 0),(5,Pt ao 0),(39,.bool aw)]∧HV d o aw=some al∧AS [] r ag ah av) ?_ ?_
 refine BW Cv (qs 0 18 .nil) [] [] r (by kernel_rfl) fun b2 w=>Qx c Z (fun _ _=>Fz C8 Z)<|have a3:=Y3 p g l w;Qx c Z (fun _ ⟨_,f⟩=>Ld Ge Z (Bc (Bs a3 f) Z))<|Qx c Z (v:=.bool (d.op==7)) (fun _ _=>Z)<|Qx c Z (v:=.bool (d.op==7)) (fun _ _=>Mv Z)<|Bo a (fun e a=>?_) fun e a=>?_
 refine Qg c Z e (fun _ _=>Fz EX Z)<|have b3:=Y4 bb h g l w;Qg c Z e (fun _ ⟨_,f⟩=>Ld G8 Z (Bc (Bs b3 f) Z))<|Qg c Z e (v:=I (Cu n d.name)) (fun _ _=>Mv Z)<|Qg c Z e (v:=I (Wr ((Cu n d.name) - 1))) (fun _ _=>Z)<|Bi a fun aa b4 a=>have b5:=K4 AI a2 h g l w; ?_
 obtain ⟨b6,b7,da,b8,b9,ca,cb,cc,ax⟩:=A8 (κ:=AI) b5 b4
 replace ax:Ax r b2 b6 (b7+((Wr ((Cu n d.name) - 1))).toNat*11) b8:=ax
 obtain ⟨db,dc,rfl,a4,cd⟩:=Cl cc
 obtain ⟨de,df,rfl⟩:=AT a4
 obtain ⟨dg,dh,rfl⟩:=AT cd
 refine Qg c Z e (fun _ _=>Ix GI b9 Z ca cb)<|Qg c Z e (fun _ _=>Fd EY Z)<|Qg c Z e (fun _ ⟨_,f⟩=>Ld Ey Z (Ax.cell (k:=1) (Es ax f) Z)) ?_
 obtain ⟨di,dj,cf⟩:=AT a4
 refine Qg c Z e (v:=I (aa.params.length:Int)) (fun _ _=>Ll D9 cf)<|Qg c Z e (fun _ _=>Fd BS Z)<|Qg c Z e (fun _ ⟨_,f⟩=>Ld Cf Z (Bc (Bs a3 f) Z))<|have cg:=K4 AH a1 h g l w; ?_
 obtain ⟨dk,dl,ch⟩:=AT cg
 refine Qg c Z e (v:=I (d.args.length:Int)) (fun _ _=>Ll CH ch)<|Qg c Z e (v:=.bool ((aa.params.length:Int) != (d.args.length:Int))) (fun _ _=>Z)<|Qx c Z (v:=.bool ((aa.params.length:Int) != (d.args.length:Int))) (fun _ _=>(Pk e))<|Qx c Z (v:=.bool ((aa.params.length:Int) != (d.args.length:Int))) (fun _ _=>Run.assign Z)<|B9<|⟨_,r,((aa.params.length:Int) != (d.args.length:Int)),Pu,a,(Mo [] w)⟩
 refine Qp c Z e<|Qp c Z e<|Qp c Z e<|Qp c Z e<|Qp c Z e<|Qp c Z e<|Qp c Z e<|Qp c Z e<|Qp c Z e<|Qp c Z e<|Qp c Z e<|Qp c Z e<|Qx c Z (v:=.bool false) (fun _ _=>(Pk e))<|Qx c Z (v:=.bool false) (fun _ _=>Run.assign Z)<|B9<|⟨_,r,false,Pu,a,(Mo [] w)⟩
 rintro _ av ⟨q,ah,aw,rfl,a,y⟩
 rw [HV] at a
 refine Cn a (fun ci a=>?_) fun ci a=>?_
 refine AL<|have cj:=Y4 am h g l y;Vx (Ld QX Z (Bc cj Z))<|Vx (Fd Mi Z)<|have ck:=Y3 p g l y;Vx (Ld BC Z (Bc ck Z))<|have cl:=Y4 ad h g l y;Bi a fun ay cm a=>Ca (Sz (vs:=[I 33,I d.at_]) (caps:=[Pt ak 0]) Z Z) (KG ah av cm dcd dcd cl (Ak (x:=o))) ?_
 rintro _ dm ⟨cn,dn,rfl,co,cq,cr⟩
 obtain rfl:=As cr
 refine AA ?_
 obtain rfl:=AK a
 refine M9 (B:=B) ae<|M8 Z<|⟨cn,[I ay.why,I ay.at_],Z,Ho (T4 (Mo [5] h) g l y co) ab,cq,(Ak (x:=ay))⟩
 refine WC.skip ?_
 obtain rfl:=AK a
 refine M9 (B:=B) ae<|M8 Z<|have ct:=Y4 ad h g l y;⟨ah,[I o.why,I o.at_],Z,Ho (T3 (Mo [] h) g l y) ab,ct,(Ak (x:=o))⟩
theorem RA:F1.Spec F1:=by
 intro h l a c d e f g af ag ah ai aj ak al am an ao ap aq ar au av n hnd hnz o p q r s m u w y
 refine Calls.mono (Qb (recol (see [a,c,d,e,f,g]) h) l (Fa (Nat.le_of_ble_eq_true Z) h) n trivial trivial (BY AH o [a,c,d,e,f,g]) (Fs p [a,c,d,e,f,g] (BP hnd hnz (i:=0) Z)) (BU q [a,c,d,e,f,g] (BP hnd hnz (i:=1) Z)) (Fs r [a,c,d,e,f,g] (BP hnd hnz (i:=2) Z)) (BU s [a,c,d,e,f,g] (BP hnd hnz (i:=3) Z)) (BU m [a,c,d,e,f,g] (BP hnd hnz (i:=4) Z)) (BY An u [a,c,d,e,f,g]) (BU w [a,c,d,e,f,g] (BP hnd hnz (i:=5) Z)) (BY CK y [a,c,d,e,f,g])) ?_
 rintro aw ax ⟨z,aa,ab,ac,ad,ae⟩
 exact ⟨glue [a,c,d,e,f,g] l h z,aa,ab,CA ac (Fb Z Z),ED m ad dcd,Dm An ae⟩
def Hv.At(c:Col)(a:World)(f:AE→Int→Option (List Bts)):Prop:=
 ∀{d e g h},f d g=some h→AH.rep c.F a e d→
  Calls PG 111 #[Ag e,I g] a fun o l=>∃m n,o=.returned n∧AS [] c a m l∧Slc DV m.F l n h
def Hv.Spec(f:AE→Int→Option (List Bts)):Prop:=
 ∀a c,Hv.At a c f
theorem R1(p:Col)(ah:World)(q:∀b,p b<10):Hv.At p ah Hv:=by
 intro c a8 d ad a ai
 rw [Hv] at a
 obtain ⟨ba,bb,rfl,aj⟩:=E1 (Ae ai)
 refine Ay Tryz.func111 Z Tryz.ntmps111 Z fun B r bc=>Sr<|Ef<|A0 p 20 Z Z fun n ak ae l s=>Va (.slice none 0 0)<|AA<|AR<|Af<|Am (fun u w=>∃m g y,u=Env.puts m [(1,I d),(2,Pt ae 0),(5,.bool y)]∧J2 c d y=some ad∧AS [] n ak g w) ?_ ?_
 refine Sr<|Vx (Fz C8 Z)<|Vx (Ld Ge Z (Bc l Z))<|Vr (.bool (c.op==21))<|Va (.bool (c.op==21))<|AA<|Cn a (fun al a=>?_) fun al a=>?_
 refine WC.skip<|⟨_,n,(c.op==21),Pu,a,Rf⟩
 refine AL<|Vx (Fz C8 Z)<|Vx (Ld Ge Z (Bc l Z))<|Vr (.bool (c.op==22))<|Vm<|Bo a (fun e a=>?_) fun e a=>?_
 refine Gm e<|Gr e (.bool (d==1))<|Vp e<|Va (.bool (d==1))<|AA<|⟨_,n,(d==1),Pu,a,Rf⟩
 refine Pg e<|Pg e<|Vp e<|Va (.bool false)<|AA<|⟨_,n,false,Pu,a,Rf⟩
 rintro _ w ⟨m,g,y,rfl,a,h⟩
 rw [J2] at a
 refine Cn a (fun am a=>?_) fun am a=>?_
 refine Sr<|Vx (Fd Di Z)<|have an:=Bs l h;Vx (Ld CG Z (Bc an Z))<|Ef<|Ch (cs:=[Sb c.name]) g 21 [[Sb c.name]] IR Pz Z Z (.cons Z Z Z .nil) Z fun ao ap z aq ar=>have au:Own DV 9 ao ap 21 (.slice (some ⟨z,0,none⟩) 1 1) ([c.name]:List Bts):=Own.lit (css:=[[Sb c.name]]) aq Z Z Z (Aa Z BA) (A4 Z D3) Z;Va (Sl (some ⟨z,0,none⟩) (([c.name]:List Bts)) 1)<|AA<|AQ ?_
 obtain ⟨av,aw,ax⟩:=Own.freeze (S:=[21]) au dcd dcd
 obtain rfl:=AK a
 refine O1 B r Z (.tmp Z)<|⟨av,Sl (some ⟨z,0,none⟩) (([c.name]:List Bts)) 1,Z,Ho (T3 (Mo [21] s) h ar aw) q,ax⟩
 refine Am (fun u af=>∃m o aa,u=Env.puts m [(2,Pt ae 0),(19,.bool aa)]∧Kt c aa=some ad∧AS [] g w o af) ?_ ?_
 refine AL<|Vx (Fz C8 Z)<|have ay:=Bs l h;Vx (Ld Ge Z (Bc ay Z))<|Vr (.bool (c.op==20))<|Vm<|Bo a (fun f a=>?_) fun f a=>?_
 refine Gm f<|Gr f (.bool (d==2))<|Vp f<|Va (.bool (d==2))<|AA<|⟨_,g,(d==2),Pu,a,Rf⟩
 refine Pg f<|Pg f<|Vp f<|Va (.bool false)<|AA<|⟨_,g,false,Pu,a,Rf⟩
 rintro _ af ⟨m,o,aa,rfl,a,ab⟩
 rw [Kt] at a
 refine Cn a (fun az a=>?_) fun az a=>?_
 refine Sr<|Vx (Fd Di Z)<|have ag:=Y2 l h ab;Vx (Ld CG Z (Bc ag Z))<|Vx (Fd NB Z)<|Vx (Ld CG Z (Bc ag Z))<|Ef<|Ch (cs:=[Sb c.name,Sb c.tail]) o 22 [[Sb c.name],[Sb c.tail]] IR Pz Z Z (.cons Z Z Z (.cons Z Z Z .nil)) Z fun a0 a1 ac a2 a3=>have a4:Own DV 9 a0 a1 22 (.slice (some ⟨ac,0,none⟩) 2 2) ([c.name,c.tail]:List Bts):=Own.lit (css:=[[Sb c.name],[Sb c.tail]]) a2 Z Z Z (Aa Z (Aa Z BA)) (A4 Z (A4 Z D3)) Z;Va (Sl (some ⟨ac,0,none⟩) (([c.name,c.tail]:List Bts)) 2)<|AA<|AQ ?_
 obtain ⟨a5,a6,a7⟩:=Own.freeze (S:=[22]) a4 dcd dcd
 obtain rfl:=AK a
 refine O1 B r Z (.tmp Z)<|⟨a5,Sl (some ⟨ac,0,none⟩) (([c.name,c.tail]:List Bts)) 2,Z,Ho (T4 (Mo [22] s) h ab a3 a6) q,a7⟩
 refine WC.skip<|Sr<|Va (.slice none 0 0)<|AA<|AQ ?_
 obtain rfl:=AK a
 refine O1 B r Z (.tmp Z)<|⟨o,.slice none 0 0,Z,Ho (T2 (Mo [] s) h ab) q,BK⟩
theorem TJ:Hv.Spec Hv:=lk0 (R1)
def scope_walk.At(G1 G2:Prop)(c:Col)(a:World)(f:AE→Aq→Aq→AD→AM→Option (Aq×AD))(g ae af ag h ah:Nat):Prop:=
 ∀{o p l q r s u w m y z aa ab ac n},f o q u y ab=some n→G1→G2→AH.rep c.F a p o→Mp c a g l q→Bk c a ae r [.map (some s)] 81→Mp c a af s u→Bk c a ag w [.func (.func 79) #[] [Pt m 0].toArray] 169→Bk c a h m z 63→An.rep c.F a z y→Bk c a ah aa ac 28→CK.rep c.F a ac ab→
  Calls PG 80 #[Ag p,.map (some l),.func (.func 81) #[] [Pt r 0,Pt w 0,Pt aa 0].toArray] a fun ai d=>∃e ad,ai=.returned (.tuple #[])∧AS [g,h] c a e d∧Mp e d g l n.1∧Bk e d h m ad 63∧An.rep e.F d ad n.2
def scope_walk.Spec(f:AE→Aq→Aq→AD→AM→Option (Aq×AD)):Prop:=
 ∀l m {a c d e g h},scope_walk.At ([a,c,d,e,g,h].Nodup) (0∉[a,c,d,e,g,h]) l m f a c d e g h
structure A2.Good(a:A2):Prop where
 scope_walk:scope_walk.Spec a.scope_walk
theorem TK(q:A2)(g:Nat)(cg:A2.Good q)(ba:Col)(ch:World)(ci:∀b,ba b<10):scope_walk.At True True ba ch (LH q g) 1 2 3 4 5 6:=by
 intro a ep h cj ao eq af ap ck cl er aq r es ax d _ _ cm cn co cq cr ct cu cv cw
 rw [LH] at d
 obtain ⟨u,w,rfl,bg⟩:=E1 (Ae cm)
 obtain rfl:=As cu
 obtain ⟨ew,ex,rfl,bh⟩:=E1 (BV cw)
 refine Ay Tryz.func80 Z Tryz.ntmps80 Z fun B cx ey=>?_
 refine Sr ?_
 refine Ef (A0 ba 20 Z Z fun cy cz a6 bi ab=>?_)
 refine AA ?_
 refine Sr ?_
 refine Vx (v:=.func (.func 81) #[] [Pt ao 0,Pt ap 0,Pt aq 0].toArray) (Mv Z) ?_
 refine Vx (v:=Ag [I a.op,Sb a.name,Sb a.tail,I a.type_,Cx a.num,Sl u a.args w,I a.at_]) (Lx A9 Z Z (Bw bi)) ?_
 refine Vx (v:=.map (some h)) (Mv Z) ?_
 have bj:=(Ss AH bg ab)
 have bk:=(Ms cn ab)
 have bl:=(Bs co ab)
 have bm:=(Ms cq ab)
 have bn:=(Bs cr ab)
 have c0:=(Bs ct ab)
 have bo:=(Bs cv ab)
 have bp:=(Ss AI bh ab)
 obtain ⟨bq,c1,d⟩:=bnd_sm d
 refine CT (.none Z) Z Z (ABe (vs:=[Ag [I a.op,Sb a.name,Sb a.tail,I a.type_,Cx a.num,Sl u a.args w,I a.at_],.map (some h)]) (caps:=[Pt ao 0,Pt ap 0,Pt aq 0]) Z Z) ?_
 refine Calls.mono (RA cy cz c1 dcd dcd (AW (x:=a) bj) bk bl bm bn c0 (Ak (x:=cl)) bo (BQ (x:=r) bp)) ?_
 rintro _ c2 ⟨br,ez,rfl,ac,c3,c4⟩
 obtain rfl:=As c4
 refine ⟨_,Z,?_⟩
 refine AA ?_
 refine Sr ?_
 refine Vx (v:=Pt a6 5) (Fd BS Z) ?_
 have bt:=(Bs bi ac)
 refine Vx (v:=Sl u a.args w) (Ld Cf Z (Bc bt Z)) ?_
 have bu:=(Ss AH bj ac)
 obtain ⟨e0,e1,c5⟩:=AT bu
 refine Vx (v:=I (a.args.length:Int)) (Ll CH c5) ?_
 refine Vx (v:=I 0) (Mv Z) ?_
 refine AA ?_
 refine Af ?_
 refine Bg (fun ag a2 a3=>∃ah ar e a4 m n,a2=Env.puts ah [(1,.map (some h)),(2,.func (.func 81) #[] [Pt ao 0,Pt ap 0,Pt aq 0].toArray),(3,Pt a6 0),(18,Sl u a.args w),(19,I (a.args.length:Int)),(20,I e)]∧Ck q g a af r ag e a4 m n=some ax∧AS [1,5,21] br c2 ar a3∧Mp ar a3 1 h a4∧Bk ar a3 5 ck [I m,I n] 63) g ?_ ?_
 have c6:=(Ms bk ac)
 exact ⟨_,br,0,cj,bq.why,bq.at_,Pu,d,(AS.refl [1,5,21] _ _),c6,c3⟩
 rintro ag _ a3 ⟨ah,ar,e,a4,m,n,rfl,d,ad,bv,bw⟩
 rcases ag with _|ag
 exact A5 d
 have d:I0 q g a af r (Ck q g a af r ag) e a4 m n=some ax:=d
 obtain ⟨ai,bx⟩:∃s,s=Ck q g a af r ag:=⟨_,rfl⟩
 rw [←bx,I0] at d
 refine Sr ?_
 refine Vr (.bool (decide (e< (a.args.length:Int)))) ?_
 refine AA ?_
 refine AR ?_
 refine Cn d (fun c7 d=>?_) fun c7 d=>?_
 refine WC.skip ?_
 refine AR ?_
 refine Af ?_
 refine Sr ?_
 refine Vx (v:=I e) (Mv Z) ?_
 obtain ⟨c,c8,d⟩:=bnd_sm d
 have bz:=(Ss AH bu ad)
 obtain ⟨b0,b1,e2,c9,da,db,dc,de,bb⟩:=A8 (κ:=AH) bz c8
 replace bb:Ax ar a3 b0 (b1+e.toNat*7) c9:=bb
 obtain ⟨au,av,rfl,b2⟩:=E1 (Ae de)
 refine Vx (v:=.pointer (some ⟨b0,b1+e.toNat*7,none⟩)) (Ix CH da Z db dc) ?_
 refine Vx (v:=Ag [I c.op,Sb c.name,Sb c.tail,I c.type_,Cx c.num,Sl au c.args av,I c.at_]) (Lx A9 Z Z (Ax.part0 bb [I c.op,Sb c.name,Sb c.tail,I c.type_,Cx c.num,Sl au c.args av,I c.at_] Z)) ?_
 refine Ef (AY ar 21 De Z fun df e4 dg dh o=>?_)
 refine Va (I e) ?_
 have di:=(Ss AH b2 o)
 refine Eu (St (vs:=[I c.op,Sb c.name,Sb c.tail,I c.type_,Cx c.num,Sl au c.args av,I c.at_]) (cs':=[I c.op,Sb c.name,Sb c.tail,I c.type_,Cx c.num,Sl au c.args av,I c.at_]) D1 dh Z Z Z Z fun dj dk p=>?_)
 refine AA ?_
 refine Sr ?_
 have dl:=(Y3 bt ad o p)
 refine Vx (v:=Ag [I a.op,Sb a.name,Sb a.tail,I a.type_,Cx a.num,Sl u a.args w,I a.at_]) (Lx A9 Z Z (Bw dl)) ?_
 refine Vx (v:=I e) (Mv Z) ?_
 have dm:=(K2 AH bz o p)
 obtain ⟨f,dn,d⟩:=bnd_sm d
 refine CT (.none Z) Z Z (Cg [Ag [I a.op,Sb a.name,Sb a.tail,I a.type_,Cx a.num,Sl u a.args w,I a.at_],I e] Z) ?_
 refine Calls.mono (TJ df dj dn (AW (x:=a) dm)) ?_
 rintro _ dp ⟨b3,e5,rfl,y,a7⟩
 obtain ⟨ay,az,rfl⟩:=AT a7
 refine ⟨_,Z,?_⟩
 refine Va (Sl ay f az) ?_
 refine AA ?_
 refine AR ?_
 refine Sr ?_
 refine Vx (v:=Sl ay f az) (Mv Z) ?_
 obtain ⟨e6,e7,dq⟩:=AT a7
 refine Vx (v:=I (f.length:Int)) (Ll IR dq) ?_
 refine Vx (v:=I 0) (Mv Z) ?_
 refine AA ?_
 refine Af ?_
 refine Bg (fun aj a2 a5=>∃ah a0 z ak,a2=Env.puts ah [(1,.map (some h)),(2,.func (.func 81) #[] [Pt ao 0,Pt ap 0,Pt aq 0].toArray),(3,Pt a6 0),(7,Pt dg 0),(8,Sl ay f az),(18,Sl u a.args w),(19,I (a.args.length:Int)),(20,I e),(28,Sl ay f az),(29,I (f.length:Int)),(30,I z)]∧If q g af r e m n ai c f aj z ak=some ax∧AS [1] b3 dp a0 a5∧Mp a0 a5 1 h ak) g ?_ ?_
 have dr:=(Ms (Ms (Ms bv o) p) y)
 exact ⟨_,b3,0,a4,Pu,d,(AS.refl [1] _ _),dr⟩
 rintro aj _ a5 ⟨ah,a0,z,ak,rfl,d,l,bc⟩
 rcases aj with _|aj
 exact A5 d
 have d:Iz q g af r e m n ai c f (If q g af r e m n ai c f aj) z ak=some ax:=d
 obtain ⟨e8,b4⟩:∃s,s=If q g af r e m n ai c f aj:=⟨_,rfl⟩
 rw [←b4,Iz] at d
 refine Sr ?_
 refine Vr (.bool (decide (z< (f.length:Int)))) ?_
 refine AA ?_
 refine AR ?_
 refine Cn d (fun ds d=>?_) fun ds d=>?_
 refine WC.skip ?_
 refine AR ?_
 refine Af ?_
 refine Sr ?_
 obtain ⟨al,dt,d⟩:=bnd_sm d
 have du:=(Ss DV a7 l)
 obtain ⟨b5,b6,e9,b7,dv,dw,dx,dy,bd⟩:=A8 (κ:=DV) du dt
 replace bd:Ax a0 a5 b5 (b6+z.toNat*1) b7:=bd
 obtain rfl:=(show b7=[Sb al] from dy)
 refine Vx (v:=.pointer (some ⟨b5,b6+z.toNat*1,none⟩)) (Ix IR dv Z dw dx) ?_
 refine Vx (v:=Sb al) (Ld CG Z (Ax.cell0 bd Z)) ?_
 refine Va (Sb al) ?_
 refine AA ?_
 refine AL ?_
 refine Vx (v:=.map (some h)) (Mv Z) ?_
 refine Vx (v:=Sb al) (Mv Z) ?_
 refine Vx (v:=I (Cu ak al)) (KM LQ Z Z bc) ?_
 refine Vr (I (Wr ((Cu ak al)+1))) ?_
 refine Eu (Kc LQ Z Z Z bc fun fa dz d0=>?_)
 refine AA ?_
 refine AL ?_
 refine Vr (I (Wr (z+1))) ?_
 refine Vx (v:=I (Wr (z+1))) (Mv Z) ?_
 refine AA ?_
 exact ⟨aj,Nat.lt_succ_self aj,_,a0,(Wr (z+1)),(MM al (Wr ((Cu ak al)+1)) ak),Pu,(b4▸d),(Tn (Mo [1] l) d0),dz⟩
 refine Ba ?_
 refine Sr ?_
 have d1:=(Y2 dk y l)
 refine Vx (v:=Ag [I c.op,Sb c.name,Sb c.tail,I c.type_,Cx c.num,Sl au c.args av,I c.at_]) (Lx A9 Z Z (Bw d1)) ?_
 refine Vx (v:=.map (some h)) (Mv Z) ?_
 refine Vx (v:=.func (.func 81) #[] [Pt ao 0,Pt ap 0,Pt aq 0].toArray) (Mv Z) ?_
 have d2:=(K3 AH di p y l)
 have d3:=(Y2 (Y4 bl ac ad o p) y l)
 have d4:=(Ms (Ms (Ms (Ms (Ms (Ms bm ac) ad) o) p) y) l)
 have d5:=(Y2 (Y4 bn ac ad o p) y l)
 have d6:=(Y4 bw o p y l)
 have d7:=(Y2 (Y4 bo ac ad o p) y l)
 have d8:=(K2 AI (K4 AI bp ac ad o p) y l)
 obtain ⟨aw,d9,d⟩:=bnd_sm d
 refine CT (.none Z) Z Z (Cg [Ag [I c.op,Sb c.name,Sb c.tail,I c.type_,Cx c.num,Sl au c.args av,I c.at_],.map (some h),.func (.func 81) #[] [Pt ao 0,Pt ap 0,Pt aq 0].toArray] Z) ?_
 refine Calls.mono (cg.scope_walk a0 a5 d9 dcd dcd (AW (x:=c) d2) bc d3 d4 d5 d6 (Ak (x:=(AD.mk m n))) d7 (BQ (x:=r) d8)) ?_
 rintro _ ea ⟨b8,fb,rfl,b9,eb,ec,ed⟩
 obtain rfl:=As ed
 refine ⟨_,Z,?_⟩
 refine AA ?_
 refine Sr ?_
 refine Vx (v:=Sl ay f az) (Mv Z) ?_
 have ca:=(K2 DV a7 l b9)
 obtain ⟨fc,fd,ee⟩:=AT ca
 refine Vx (v:=I (f.length:Int)) (Ll IR ee) ?_
 refine Vx (v:=I 0) (Mv Z) ?_
 refine AA ?_
 refine Af ?_
 refine Bg (fun am a2 a8=>∃ah a1 aa ae,a2=Env.puts ah [(1,.map (some h)),(2,.func (.func 81) #[] [Pt ao 0,Pt ap 0,Pt aq 0].toArray),(3,Pt a6 0),(18,Sl u a.args w),(19,I (a.args.length:Int)),(20,I e),(43,Sl ay f az),(44,I (f.length:Int)),(45,I aa)]∧Ie e ai f aw am aa ae=some ax∧AS [1] b8 ea a1 a8∧Mp a1 a8 1 h ae) g ?_ ?_
 exact ⟨_,b8,0,aw.1,Pu,d,(AS.refl [1] _ _),eb⟩
 rintro am _ a8 ⟨ah,a1,aa,ae,rfl,d,a9,be⟩
 rcases am with _|am
 exact A5 d
 have d:Iy e ai f aw (Ie e ai f aw am) aa ae=some ax:=d
 obtain ⟨fe,cb⟩:∃s,s=Ie e ai f aw am:=⟨_,rfl⟩
 rw [←cb,Iy] at d
 refine Sr ?_
 refine Vr (.bool (decide (aa< (f.length:Int)))) ?_
 refine AA ?_
 refine AR ?_
 refine Cn d (fun ef d=>?_) fun ef d=>?_
 refine WC.skip ?_
 refine AR ?_
 refine Af ?_
 refine Sr ?_
 obtain ⟨an,eg,d⟩:=bnd_sm d
 have eh:=(Ss DV ca a9)
 obtain ⟨cc,cd,ff,cf,ei,ej,ek,el,bf⟩:=A8 (κ:=DV) eh eg
 replace bf:Ax a1 a8 cc (cd+aa.toNat*1) cf:=bf
 obtain rfl:=(show cf=[Sb an] from el)
 refine Vx (v:=.pointer (some ⟨cc,cd+aa.toNat*1,none⟩)) (Ix IR ei Z ej ek) ?_
 refine Vx (v:=Sb an) (Ld CG Z (Ax.cell0 bf Z)) ?_
 refine Va (Sb an) ?_
 refine AA ?_
 refine AL ?_
 refine Vx (v:=.map (some h)) (Mv Z) ?_
 refine Vx (v:=Sb an) (Mv Z) ?_
 refine Vx (v:=I (Cu ae an)) (KM LQ Z Z be) ?_
 refine Vr (I (Wr ((Cu ae an) - 1))) ?_
 refine Eu (Kc LQ Z Z Z be fun fg em en=>?_)
 refine AA ?_
 refine AL ?_
 refine Vr (I (Wr (aa+1))) ?_
 refine Vx (v:=I (Wr (aa+1))) (Mv Z) ?_
 refine AA ?_
 exact ⟨am,Nat.lt_succ_self am,_,a1,(Wr (aa+1)),(MM an (Wr ((Cu ae an) - 1)) ae),Pu,(cb▸d),(Tn (Mo [1] a9) en),em⟩
 refine Ba ?_
 refine AL ?_
 refine Vr (I (Wr (e+1))) ?_
 refine Vx (v:=I (Wr (e+1))) (Mv Z) ?_
 refine AA ?_
 have eo:=(Bs ec a9)
 exact ⟨ag,Nat.lt_succ_self ag,_,a1,(Wr (e+1)),ae,aw.2.why,aw.2.at_,Pu,(bx▸d),(T2 (T4 (Mo [1,5,21] ad) o p y l) b9 a9),be,eo⟩
 refine Ba ?_
 obtain rfl:=AK d
 refine M9 (B:=B) cx (M8 Z ?_)
 exact ⟨ar,[I m,I n],Z,Ho (T2 (Mo [1,5,21] ab) ac ad) ci,bv,bw,(Ak (x:=(AD.mk m n)))⟩
theorem TL(h:A2)(m:Nat)(q:A2.Good h):scope_walk.Spec (LH h m):=by
 intro l n a c d e f g aj ak al am an ao ap aq ar au av aw ax ay az r hnd hnz s o u w y p z aa ab
 refine Calls.mono (TK h m q (recol (see [a,c,d,e,f,g]) l) n (Fa (Nat.le_of_ble_eq_true Z) l) r trivial trivial (BY AH s [a,c,d,e,f,g]) (Fs o [a,c,d,e,f,g] (BP hnd hnz (i:=0) Z)) (BU u [a,c,d,e,f,g] (BP hnd hnz (i:=1) Z)) (Fs w [a,c,d,e,f,g] (BP hnd hnz (i:=2) Z)) (BU y [a,c,d,e,f,g] (BP hnd hnz (i:=3) Z)) (BU p [a,c,d,e,f,g] (BP hnd hnz (i:=4) Z)) (BY An z [a,c,d,e,f,g]) (BU aa [a,c,d,e,f,g] (BP hnd hnz (i:=5) Z)) (BY CK ab [a,c,d,e,f,g])) ?_
 rintro a0 a1 ⟨ac,ad,ae,af,ag,ah,ai⟩
 exact ⟨glue [a,c,d,e,f,g] n l ac,ad,ae,CA af (Fb Z Z),VQ o ag dcd,ED p ah dcd,Dm An ai⟩
theorem A2.good:∀a,A2.Good (A2.at a)
 |0=>⟨by intro c d;intros;(try intro _);intros;exact A5 (by assumption)⟩
 |n+1=>⟨TL _ n (A2.good n)⟩
theorem US(a:Nat):scope_walk.Spec (scope_walk a):=(A2.good a).scope_walk
def Ig.At(c:Col)(a:World)(f:AM→Option AD):Prop:=
 ∀{d e g},f d=some g→CK.rep c.F a e d→
  Calls PG 50 #[Ag e] a fun n h=>∃l m,n=.returned (Ag m)∧AS [] c a l h∧An.rep l.F h m g
def Ig.Spec(f:AM→Option AD):Prop:=
 ∀a c,Ig.At a c f
theorem R2(h:Nat)(bw:Col)(di:World)(dj:∀b,bw b<10):Ig.At bw di (Ig h):=by
 intro e gb aj c dk
 rw [Ig] at c
 obtain ⟨ar,au,rfl,cf⟩:=E1 (BV dk)
 refine Ay Tryz.func50 Z Tryz.ntmps50 Z fun B dl gd=>?_
 refine Sr ?_
 refine Ef (A0 bw 20 Z Z fun dm ge aa dn cg=>?_)
 refine Ef (AY dm 21 FM Z fun dp gf bb dq bx=>?_)
 refine AA ?_
 refine Sr ?_
 refine Ef (AY dp 22 FM Z fun dr gg g ds bf=>?_)
 refine AA ?_
 refine Sr ?_
 refine Vx (v:=.func (.func 79) #[] [Pt g 0].toArray) (IV (vs:=[Pt g 0]) Z) ?_
 refine Ef (AY dr 23 AAn Z fun dt gh ak du bc=>?_)
 refine Eu (St (vs:=[.func (.func 79) #[] [Pt g 0].toArray]) (cs':=[.func (.func 79) #[] [Pt g 0].toArray]) AAc du Z Z Z Z fun gi bz bd=>?_)
 refine AA ?_
 refine Sr ?_
 refine Ef (NR dt 24 fun dv gj a6 dw al=>?_)
 refine Ef (AY dv 25 ABx Z fun ch gk am dx ad=>?_)
 refine Eu (St (vs:=[.map (some a6)]) (cs':=[.map (some a6)]) ABp dx Z Z Z Z fun dy ci ae=>?_)
 refine AA ?_
 refine AR ?_
 refine Sr ?_
 refine Vx (v:=Pt aa 0) (Fz EX Z) ?_
 have cj:=(Y3 (Y4 dn bx bf bc bd) al ad ae)
 refine Vx (v:=Sl ar e.funcs au) (Ld G8 Z (Bc cj Z)) ?_
 have b0:=(K4 AI (K4 AI cf cg bx bf bc) bd al ad ae)
 obtain ⟨gl,gm,dz⟩:=AT b0
 refine Vx (v:=I (e.funcs.length:Int)) (Ll GI dz) ?_
 refine Vx (v:=I 0) (Mv Z) ?_
 refine AA ?_
 refine Af ?_
 refine Bg (fun an af av=>∃o ag l aw ax m,af=Env.puts o [(1,Pt aa 0),(2,Pt bb 0),(3,Pt g 0),(4,Pt ak 0),(5,Pt am 0),(16,Sl ar e.funcs au),(17,I (e.funcs.length:Int)),(18,I l)]∧Hw h e an l aw ax m=some aj∧AS [22,24,26] ch dy ag av∧Bk ag av 22 g [I aw,I ax] 63∧Mp ag av 24 a6 m) h ?_ ?_
 have d0:=(Bs (Y4 ds bc bd al ad) ae)
 have d1:=(Ms (Ms dw ad) ae)
 exact ⟨_,ch,0,0,0,([]:Aq),Pu,c,(AS.refl [22,24,26] _ _),d0,d1⟩
 rintro an _ av ⟨o,ag,l,aw,ax,m,rfl,c,u,b1,ck⟩
 rcases an with _|an
 exact A5 c
 have c:ID h e (Hw h e an) l aw ax m=some aj:=c
 obtain ⟨d2,cl⟩:∃s,s=Hw h e an:=⟨_,rfl⟩
 rw [←cl,ID] at c
 refine Sr ?_
 refine Vr (.bool (decide (l< (e.funcs.length:Int)))) ?_
 refine AA ?_
 refine AR ?_
 refine Cn c (fun d3 c=>?_) fun d3 c=>?_
 refine WC.skip ?_
 refine Am (fun af bg=>∃o be bh bi bj,af=Env.puts o [(1,Pt aa 0),(2,Pt bb 0),(3,Pt g 0),(4,Pt ak 0),(5,Pt am 0),(16,Sl ar e.funcs au),(17,I (e.funcs.length:Int)),(18,I l)]∧J3 l d2 bh bi bj=some aj∧AS [22,24,26] ag av be bg∧Bk be bg 22 g [I bh,I bi] 63∧Mp be bg 24 a6 bj) ?_ ?_
 refine Af ?_
 refine Sr ?_
 refine Vx (v:=I l) (Mv Z) ?_
 obtain ⟨d,d4,c⟩:=bnd_sm c
 have d5:=(Ss AI b0 u)
 obtain ⟨cm,cn,gn,d6,d7,d8,d9,ea,b2⟩:=A8 (κ:=AI) d5 d4
 replace b2:Ax ag av cm (cn+l.toNat*11) d6:=b2
 obtain ⟨go,gp,rfl,co,cq⟩:=Cl ea
 obtain ⟨bk,bl,rfl⟩:=AT co
 obtain ⟨bm,bn,rfl⟩:=AT cq
 refine Vx (v:=.pointer (some ⟨cm,cn+l.toNat*11,none⟩)) (Ix GI d7 Z d8 d9) ?_
 refine Vx (v:=Ag [Sb d.name,Sl bk d.params bl,I d.type_,I d.body.op,Sb d.body.name,Sb d.body.tail,I d.body.type_,Cx d.body.num,Sl bm d.body.args bn,I d.body.at_,I d.at_]) (Lx MD Z Z (Ax.part0 b2 [Sb d.name,Sl bk d.params bl,I d.type_,I d.body.op,Sb d.body.name,Sb d.body.tail,I d.body.type_,Cx d.body.num,Sl bm d.body.args bn,I d.body.at_,I d.at_] Z)) ?_
 refine Ef (AY ag 26 KS Z fun cr gq b3 eb ah=>?_)
 refine Va (I l) ?_
 have gr:=(Ss Ab co ah)
 have gs:=(Ss AH cq ah)
 refine Eu (St (vs:=[Sb d.name,Sl bk d.params bl,I d.type_,I d.body.op,Sb d.body.name,Sb d.body.tail,I d.body.type_,Cx d.body.num,Sl bm d.body.args bn,I d.body.at_,I d.at_]) (cs':=[Sb d.name,Sl bk d.params bl,I d.type_,I d.body.op,Sb d.body.name,Sb d.body.tail,I d.body.type_,Cx d.body.num,Sl bm d.body.args bn,I d.body.at_,I d.at_]) LB eb Z Z Z Z fun ec b4 ay=>?_)
 refine AA ?_
 refine Sr ?_
 have ct:=(Y3 ci u ah ay)
 refine Vx (v:=.map (some a6)) (Ld O7 Z (Bc ct Z)) ?_
 refine Vx (v:=Pt b3 0) (Fz NC Z) ?_
 refine Vx (v:=Sb d.name) (Ld CG Z (Bc b4 Z)) ?_
 have b5:=(Ms (Ms ck ah) ay)
 refine Vx (v:=I (Cu m d.name)) (KM LQ Z Z b5) ?_
 refine Vr (.bool (decide ((Cu m d.name)>0))) ?_
 refine AA ?_
 refine Cn c (fun ed c=>?_) fun ed c=>?_
 refine AL ?_
 have ee:=(Y2 (Y4 bz al ad ae u) ah ay)
 refine Vx (v:=.func (.func 79) #[] [Pt g 0].toArray) (Ld QX Z (Bc ee Z)) ?_
 refine Vx (v:=Pt b3 10) (Fd W0 Z) ?_
 refine Vx (v:=I d.at_) (Ld BC Z (Bc b4 Z)) ?_
 have ef:=(Y2 b1 ah ay)
 obtain ⟨cu,eg,c⟩:=bnd_sm c
 refine CT (.none Z) Z Z (Sz (vs:=[I 30,I d.at_]) (caps:=[Pt g 0]) Z Z) ?_
 refine Calls.mono (KG cr ec eg dcd dcd ef (Ak (x:=(AD.mk aw ax)))) ?_
 rintro _ gt ⟨eh,gu,rfl,cv,ei,ej⟩
 obtain rfl:=As ej
 refine ⟨_,Z,?_⟩
 refine AA ?_
 have ek:=(Ms b5 cv)
 exact ⟨_,eh,cu.why,cu.at_,m,Pu,c,(T2 (Mo [22,24,26] ah) ay cv),ei,ek⟩
 refine AL ?_
 refine Vx (v:=.map (some a6)) (Ld O7 Z (Bc ct Z)) ?_
 refine Vx (v:=Pt b3 0) (Fz NC Z) ?_
 refine Vx (v:=Sb d.name) (Ld CG Z (Bc b4 Z)) ?_
 refine Vx (v:=I l) (Mv Z) ?_
 refine Vr (I (Wr (l+1))) ?_
 refine Eu (Kc LQ Z Z Z b5 fun gv el cw=>?_)
 refine AA ?_
 have em:=(Y3 b1 ah ay cw)
 exact ⟨_,cr,aw,ax,(MM d.name (Wr (l+1)) m),Pu,c,(T2 (Mo [22,24,26] ah) ay cw),em,el⟩
 rintro _ bg ⟨o,be,bh,bi,bj,rfl,c,en,eo,ep⟩
 rw [J3] at c
 refine AL ?_
 refine Vr (I (Wr (l+1))) ?_
 refine Vx (v:=I (Wr (l+1))) (Mv Z) ?_
 refine AA ?_
 exact ⟨an,Nat.lt_succ_self an,_,be,(Wr (l+1)),bh,bi,bj,Pu,(cl▸c),(Tn (Mo [22,24,26] u) en),eo,ep⟩
 refine Ba ?_
 refine AR ?_
 refine Sr ?_
 refine Vx (v:=Pt aa 0) (Fz EX Z) ?_
 have cx:=(Bs cj u)
 refine Vx (v:=Sl ar e.funcs au) (Ld G8 Z (Bc cx Z)) ?_
 have cy:=(Ss AI b0 u)
 obtain ⟨gw,gx,eq⟩:=AT cy
 refine Vx (v:=I (e.funcs.length:Int)) (Ll GI eq) ?_
 refine Vx (v:=I 0) (Mv Z) ?_
 refine AA ?_
 refine Af ?_
 refine Bg (fun ao af bo=>∃o a7 n p q,af=Env.puts o [(1,Pt aa 0),(2,Pt bb 0),(3,Pt g 0),(4,Pt ak 0),(5,Pt am 0),(39,Sl ar e.funcs au),(40,I (e.funcs.length:Int)),(41,I n)]∧DH h e m ao n p q=some aj∧AS [22,27,28,29] ag av a7 bo∧Bk a7 bo 22 g [I p,I q] 63) h ?_ ?_
 exact ⟨_,ag,0,aw,ax,Pu,c,(AS.refl [22,27,28,29] _ _),b1⟩
 rintro ao _ bo ⟨o,a7,n,p,q,rfl,c,ai,cz⟩
 rcases ao with _|ao
 exact A5 c
 have c:IC h e m (DH h e m ao) n p q=some aj:=c
 obtain ⟨bp,c0⟩:∃s,s=DH h e m ao:=⟨_,rfl⟩
 rw [←c0,IC] at c
 refine Sr ?_
 refine Vr (.bool (decide (n< (e.funcs.length:Int)))) ?_
 refine AA ?_
 refine AR ?_
 refine Cn c (fun er c=>?_) fun er c=>?_
 refine WC.skip ?_
 refine AR ?_
 refine Af ?_
 refine Sr ?_
 obtain ⟨a,es,c⟩:=bnd_sm c
 have c1:=(Ss AI cy ai)
 obtain ⟨c2,c3,gy,et,eu,ew,ex,ey,b6⟩:=A8 (κ:=AI) c1 es
 replace b6:Ax a7 bo c2 (c3+n.toNat*11) et:=b6
 obtain ⟨gz,g0,rfl,c4,c5⟩:=Cl ey
 obtain ⟨az,a0,rfl⟩:=AT c4
 obtain ⟨a1,a2,rfl⟩:=AT c5
 refine Vx (v:=.pointer (some ⟨c2,c3+n.toNat*11,none⟩)) (Ix GI eu Z ew ex) ?_
 refine Vx (v:=Ag [Sb a.name,Sl az a.params a0,I a.type_,I a.body.op,Sb a.body.name,Sb a.body.tail,I a.body.type_,Cx a.body.num,Sl a1 a.body.args a2,I a.body.at_,I a.at_]) (Lx MD Z Z (Ax.part0 b6 [Sb a.name,Sl az a.params a0,I a.type_,I a.body.op,Sb a.body.name,Sb a.body.tail,I a.body.type_,Cx a.body.num,Sl a1 a.body.args a2,I a.body.at_,I a.at_] Z)) ?_
 refine Ef (AY a7 27 KS Z fun ez g1 bq e0 ab=>?_)
 have e1:=(Ss Ab c4 ab)
 have e2:=(Ss AH c5 ab)
 refine Eu (St (vs:=[Sb a.name,Sl az a.params a0,I a.type_,I a.body.op,Sb a.body.name,Sb a.body.tail,I a.body.type_,Cx a.body.num,Sl a1 a.body.args a2,I a.body.at_,I a.at_]) (cs':=[Sb a.name,Sl az a.params a0,I a.type_,I a.body.op,Sb a.body.name,Sb a.body.tail,I a.body.type_,Cx a.body.num,Sl a1 a.body.args a2,I a.body.at_,I a.at_]) LB e0 Z Z Z Z fun g2 e3 ac=>?_)
 refine AA ?_
 refine Sr ?_
 refine Ef (NR ez 28 fun c6 e4 ap e5 w=>?_)
 refine Va (.map (some ap)) ?_
 refine AA ?_
 refine AR ?_
 refine Sr ?_
 refine Vx (v:=Pt bq 1) (Fd EY Z) ?_
 have c7:=(Bs e3 w)
 refine Vx (v:=Sl az a.params a0) (Ld Ey Z (Bc c7 Z)) ?_
 have c8:=(K2 Ab e1 ac w)
 obtain ⟨g3,g4,e6⟩:=AT c8
 refine Vx (v:=I (a.params.length:Int)) (Ll D9 e6) ?_
 refine Vx (v:=I 0) (Mv Z) ?_
 refine AA ?_
 refine Af ?_
 refine Bg (fun aq af a8=>∃o a3 r a4 a5 y,af=Env.puts o [(1,Pt aa 0),(2,Pt bb 0),(3,Pt g 0),(4,Pt ak 0),(5,Pt am 0),(9,Pt bq 0),(10,.map (some ap)),(39,Sl ar e.funcs au),(40,I (e.funcs.length:Int)),(41,I n),(47,Sl az a.params a0),(48,I (a.params.length:Int)),(49,I r)]∧F2 h e m n bp a aq r a4 a5 y=some aj∧AS [22,28,29] c6 e4 a3 a8∧Bk a3 a8 22 g [I a4,I a5] 63∧Mp a3 a8 28 ap y) h ?_ ?_
 have e7:=(Y3 cz ab ac w)
 exact ⟨_,c6,0,p,q,([]:Aq),Pu,c,(AS.refl [22,28,29] _ _),e7,e5⟩
 rintro aq _ a8 ⟨o,a3,r,a4,a5,y,rfl,c,z,b7,b8⟩
 rcases aq with _|aq
 exact A5 c
 have c:F8 h e m n bp a (F2 h e m n bp a aq) r a4 a5 y=some aj:=c
 obtain ⟨e8,c9⟩:∃s,s=F2 h e m n bp a aq:=⟨_,rfl⟩
 rw [←c9,F8] at c
 refine Sr ?_
 refine Vr (.bool (decide (r< (a.params.length:Int)))) ?_
 refine AA ?_
 refine AR ?_
 refine Cn c (fun e9 c=>?_) fun e9 c=>?_
 refine WC.skip ?_
 refine AR ?_
 refine Af ?_
 refine Sr ?_
 obtain ⟨f,fa,c⟩:=bnd_sm c
 have fb:=(Ss Ab c8 z)
 obtain ⟨da,db,g5,fc,fd,fe,ff,fg,b9⟩:=A8 (κ:=Ab) fb fa
 replace b9:Ax a3 a8 da (db+r.toNat*3) fc:=b9
 obtain rfl:=Ez fg
 refine Vx (v:=.pointer (some ⟨da,db+r.toNat*3,none⟩)) (Ix D9 fd Z fe ff) ?_
 refine Vx (v:=Ag [Sb f.name,I f.type_,I f.at_]) (Lx Xd Z Z (Ax.part0 b9 [Sb f.name,I f.type_,I f.at_] Z)) ?_
 refine Ef (AY a3 29 MG Z fun ca g6 br fh a9=>?_)
 refine Eu (St (vs:=[Sb f.name,I f.type_,I f.at_]) (cs':=[Sb f.name,I f.type_,I f.at_]) Xg fh Z Z Z Z fun dc cb ba=>?_)
 refine AA ?_
 refine Am (fun af cc=>∃o bt bu bv,af=Env.puts o [(1,Pt aa 0),(2,Pt bb 0),(3,Pt g 0),(4,Pt ak 0),(5,Pt am 0),(9,Pt bq 0),(10,.map (some ap)),(12,Pt br 0),(39,Sl ar e.funcs au),(40,I (e.funcs.length:Int)),(41,I n),(47,Sl az a.params a0),(48,I (a.params.length:Int)),(49,I r)]∧J4 r y e8 f bu bv=some aj∧AS [22] ca dc bt cc∧Bk bt cc 22 g [I bu,I bv] 63) ?_ ?_
 refine Sr ?_
 refine Vx (v:=.map (some ap)) (Mv Z) ?_
 refine Vx (v:=Pt br 0) (Fz Lh Z) ?_
 refine Vx (v:=Sb f.name) (Ld CG Z (Bc cb Z)) ?_
 have fi:=(Ms (Ms b8 a9) ba)
 refine Vx (v:=I (Cu y f.name)) (KM LQ Z Z fi) ?_
 refine Vr (.bool (decide ((Cu y f.name)>0))) ?_
 refine AA ?_
 refine Cn c (fun fj c=>?_) fun fj c=>?_
 refine AL ?_
 have fk:=(Y3 (Y4 (Y4 bz al ad ae u) ai ab ac w) z a9 ba)
 refine Vx (v:=.func (.func 79) #[] [Pt g 0].toArray) (Ld QX Z (Bc fk Z)) ?_
 refine Vx (v:=Pt br 2) (Fd W1 Z) ?_
 refine Vx (v:=I f.at_) (Ld BC Z (Bc cb Z)) ?_
 have fl:=(Y2 b7 a9 ba)
 obtain ⟨de,fm,c⟩:=bnd_sm c
 refine CT (.none Z) Z Z (Sz (vs:=[I 30,I f.at_]) (caps:=[Pt g 0]) Z Z) ?_
 refine Calls.mono (KG ca dc fm dcd dcd fl (Ak (x:=(AD.mk a4 a5)))) ?_
 rintro _ g7 ⟨fn,g8,rfl,fo,fp,fq⟩
 obtain rfl:=As fq
 refine ⟨_,Z,?_⟩
 refine AA ?_
 exact ⟨_,fn,de.why,de.at_,Pu,c,(Mo [22] fo),fp⟩
 refine WC.skip ?_
 have fr:=(Y2 b7 a9 ba)
 exact ⟨_,ca,a4,a5,Pu,c,(AS.refl [22] _ _),fr⟩
 rintro _ cc ⟨o,bt,bu,bv,rfl,c,cd,fs⟩
 rw [J4] at c
 refine AL ?_
 refine Vx (v:=.map (some ap)) (Mv Z) ?_
 refine Vx (v:=Pt br 0) (Fz Lh Z) ?_
 have ft:=(Bs cb cd)
 refine Vx (v:=Sb f.name) (Ld CG Z (Bc ft Z)) ?_
 have df:=(Ms (Ms (Ms b8 a9) ba) cd)
 refine Vx (v:=I (Cu y f.name)) (KM LQ Z Z df) ?_
 refine Vr (I (Wr ((Cu y f.name)+1))) ?_
 refine Eu (Kc LQ Z Z Z df fun g9 fu dg=>?_)
 refine AA ?_
 refine AL ?_
 refine Vr (I (Wr (r+1))) ?_
 refine Vx (v:=I (Wr (r+1))) (Mv Z) ?_
 refine AA ?_
 have fv:=(Bs fs dg)
 exact ⟨aq,Nat.lt_succ_self aq,_,bt,(Wr (r+1)),bu,bv,(MM f.name (Wr ((Cu y f.name)+1)) y),Pu,(c9▸c),(T4 (Mo [22,28,29] z) a9 ba cd dg),fv,fu⟩
 refine Ba ?_
 refine AL ?_
 refine Vx (v:=Pt bq 3) (Fd ME Z) ?_
 have fw:=(Bs c7 z)
 refine Vx (v:=Ag [I a.body.op,Sb a.body.name,Sb a.body.tail,I a.body.type_,Cx a.body.num,Sl a1 a.body.args a2,I a.body.at_]) (Lx A9 Z Z (Bk.part fw 3 [I a.body.op,Sb a.body.name,Sb a.body.tail,I a.body.type_,Cx a.body.num,Sl a1 a.body.args a2,I a.body.at_] Z)) ?_
 refine Vx (v:=.map (some ap)) (Mv Z) ?_
 refine Vx (v:=.func (.func 81) #[] [Pt am 0,Pt ak 0,Pt aa 0].toArray) (IV (vs:=[Pt am 0,Pt ak 0,Pt aa 0]) Z) ?_
 have fx:=(K3 AH e2 ac w z)
 have fy:=(Y2 (Y4 ci u ai ab ac) w z)
 have fz:=(Ms (Ms (Ms (Ms (Ms ck ai) ab) ac) w) z)
 have f0:=(Bs (Y4 (Y4 bz al ad ae u) ai ab ac w) z)
 have f1:=(Bs (Y4 cx ai ab ac w) z)
 have f2:=(K4 AI c1 ab ac w z)
 obtain ⟨dh,f3,c⟩:=bnd_sm c
 refine CT (.none Z) Z Z (Cg [Ag [I a.body.op,Sb a.body.name,Sb a.body.tail,I a.body.type_,Cx a.body.num,Sl a1 a.body.args a2,I a.body.at_],.map (some ap),.func (.func 81) #[] [Pt am 0,Pt ak 0,Pt aa 0].toArray] Z) ?_
 refine Calls.mono (US h a3 a8 f3 dcd dcd (AW (x:=(AE.mk a.body.op a.body.name a.body.tail a.body.type_ a.body.num a.body.args a.body.at_)) fx) b8 fy fz f0 b7 (Ak (x:=(AD.mk a4 a5))) f1 (BQ (x:=e) f2)) ?_
 rintro _ ha ⟨f4,hb,rfl,f5,hc,f6,f7⟩
 obtain rfl:=As f7
 refine ⟨_,Z,?_⟩
 refine AA ?_
 refine AL ?_
 refine Vr (I (Wr (n+1))) ?_
 refine Vx (v:=I (Wr (n+1))) (Mv Z) ?_
 refine AA ?_
 exact ⟨ao,Nat.lt_succ_self ao,_,f4,(Wr (n+1)),dh.2.why,dh.2.at_,Pu,(c0▸c),(Tn (T4 (Mo [22,27,28,29] ai) ab ac w z) f5),f6⟩
 refine Ba ?_
 refine Sr ?_
 refine Vx (v:=Ag [I p,I q]) (Lx K9 Z Z (Bw cz)) ?_
 have f8:=(Y4 (Y4 dq bf bc bd al) ad ae u ai)
 refine Eu (St (vs:=[I p,I q]) (cs':=[I p,I q]) HK f8 Z Z Z Z fun hd f9 ga=>?_)
 refine AA ?_
 refine AQ ?_
 obtain rfl:=AK c
 refine YP (B:=B) dl (Su Z (.agg K9 Z Z (Bw f9)) ?_)
 exact ⟨a7,[I p,I q],Z,Ho (T2 (T4 (T4 (Mo [21,22,23,24,25,26,27,28,29] cg) bx bf bc bd) al ad ae u) ai ga) dj,(Ak (x:=(AD.mk p q)))⟩
theorem TM(c:Nat):Ig.Spec (Ig c):=lk0 (R2 c)
def Ku.Spec(f:AM→AD→Option (Aq×(List AO)×(List AJ)×Aq)):Prop:=
 ∀g d {n o h l p q kn1 kn2 ko1_2 e},f n p=some e→[l,kn1,kn2,ko1_2].Nodup→0∉[l,kn1,kn2,ko1_2]→CK.rep g.F d o n→Bk g d l h q 63→An.rep g.F d q p→
  Calls PG 51 #[Ag o,.func (.func 52) #[] [Pt h 0].toArray] d fun w a=>∃c r m s u,w=.returned (Pt r 0)∧AS [kn1,kn2,ko1_2] g d c a∧Mp c a kn2 m e.1∧Bk c a kn1 r [.map (some m),s,u,.func (.func 52) #[] [Pt h 0].toArray] 134∧Slc AI c.F a s e.2.1∧Own Ab 87 c a ko1_2 u e.2.2.1∧Mp c a kn2 m e.2.2.2
theorem TN(ah:Nat)(n:Col)(q:World)(a0:∀b,n b<10){e:AM}{ai:List Value}{y:Nat}{aj:AD}{ak:List Value}{h:Aq×(List AO)×(List AJ)×Aq}(a1:CK.rep n.F q ai e)(_ho0:Bk n q 1 y ak 63)(a2:An.rep n.F q ak aj)(a:Ku ah e aj=some h):
  Calls PG 51 #[Ag ai,.func (.func 52) #[] [Pt y 0].toArray] q fun a3 o=>∃p al aa am an,a3=.returned (Pt al 0)∧AS [2,3,4] n q p o∧Mp p o 3 aa h.1∧Bk p o 2 al [.map (some aa),am,an,.func (.func 52) #[] [Pt y 0].toArray] 134∧Slc AI p.F o am h.2.1∧Own Ab 87 p o 4 an h.2.2.1∧Mp p o 3 aa h.2.2.2:=by
 rw [Ku] at a
 obtain ⟨ap,aq,rfl,ao⟩:=E1 (BV a1)
 obtain rfl:=As a2
 refine Ay Tryz.func51 Z Tryz.ntmps51 Z fun B a4 f=>Sr<|Ef<|A0 n 20 Z Z fun a5 b2 a6 a7 ar=>Va (.pointer none)<|AA<|Sr<|Ef<|NR a5 3 fun a8 b3 ab a9 ac=>Vx (Fz EX Z)<|have au:=Bs a7 ac;Vx (Ld G8 Z (Bc au Z))<|Vm<|Vx (v:=Ag [.map (some ab),Sl ap e.funcs aq,.slice none 0 0,.func (.func 52) #[] [Pt y 0].toArray]) (Bp AAm AAh Z (.cons Z Z Z (.cons Z Z Z (.cons Z Z Z .nil))))<|Ef<|A0 a8 2 Z Z fun av ba r aw z=>Va (Pt r 0)<|AA<|AR<|Sr<|Vx (Fz EX Z)<|have ax:=Bs au z;Vx (Ld G8 Z (Bc ax Z))<|have ad:=K3 AI ao ar ac z; ?_
 obtain ⟨b4,b5,bb⟩:=AT ad
 refine Vx (v:=I (e.funcs.length:Int)) (Ll GI bb)<|Vr (I (Wr ((e.funcs.length:Int) - 1)))<|Va (I (Wr ((e.funcs.length:Int) - 1)))<|AA<|Af<|Bg (fun g bc ae=>∃ay l d u,bc=Env.puts ay [(2,Pt a6 0),(5,Pt r 0),(6,I d)]∧Ih e g d u=some h∧AS [3] av ba l ae∧Mp l ae 3 ab u) ah ?_ ?_
 refine have bd:=Ms a9 z;⟨_,av,(Wr ((e.funcs.length:Int) - 1)),([]:Aq),Pu,a,(AS.refl [3] _ _),bd⟩
 rintro g _ ae ⟨ay,l,d,u,rfl,a,m,af⟩
 rcases g with _|g
 exact A5 a
 refine have a:I1 e (Ih e g) d u=some h:=a; ?_
 obtain ⟨b6,az⟩:∃s,s=Ih e g:=⟨_,rfl⟩
 rw [←az,I1] at a
 refine AR<|Sr<|Vm<|Vr (.bool (decide (d≥0)))<|AA<|Cn a (fun be a=>?_) fun be a=>?_
 refine WC.skip<|AR<|Af<|BW Cv (qs 0 12 (.one 12 .nil)) [12] [] l (by kernel_rfl) fun bf w=>Qx f Z (v:=Pt r 0) (fun _ _=>Mv Z)<|Qx f Z (fun _ _=>Nc Z)<|Qx f Z (fun _ _=>Fz U5 Z)<|have bg:=Y2 aw m w;Qx f Z (fun _ ⟨_,c⟩=>Ld O7 Z (Bc (Bs bg c) Z))<|Qx f Z (fun _ _=>Fz EX Z)<|have bh:=Y2 ax m w;Qx f Z (fun _ ⟨_,c⟩=>Ld G8 Z (Bc (Bs bh c) Z))<|Qx f Z (v:=I d) (fun _ _=>Mv Z)<|Bi a fun bi bj a=>have bk:=K2 AI ad m w; ?_
 obtain ⟨bl,bm,b7,bn,bo,bp,bq,br,ag⟩:=A8 (κ:=AI) bk bj
 replace ag:Ax l bf bl (bm+d.toNat*11) bn:=ag
 obtain ⟨b8,b9,rfl,bt,bu⟩:=Cl br
 obtain ⟨ca,cb,rfl⟩:=AT bt
 obtain ⟨cc,cd,rfl⟩:=AT bu
 refine Qx f Z (fun _ _=>Ix GI bo Z bp bq)<|Qx f Z (fun _ _=>Fz NC Z)<|Qx f Z (fun _ ⟨_,c⟩=>Ld CG Z (Ax.cell0 (Es ag c) Z))<|Qx f Z (v:=I d) (fun _ _=>Mv Z)<|Qx f Z (v:=I (Wr (d+1))) (fun _ _=>Z)<|ES dcd<|WY.one<|have bv:=Ms af w;BM Z (.none Z) Z<|Kc LQ Z Z Z bv fun cf bw bx=>WY.nil<|AL<|Vm<|Vr (I (Wr (d - 1)))<|Va (I (Wr (d - 1)))<|AA<|⟨g,Nat.lt_succ_self g,_,l,(Wr (d - 1)),(MM bi.name (Wr (d+1)) u),Pu,(az▸a),(T2 (Mo [3] m) w bx),bw⟩
 refine Ba<|Sr<|Vm<|Va (Pt r 0)<|AA<|AQ ?_
 obtain rfl:=AK a
 refine O1 B a4 Z (.tmp Z)<|have bz:=Bs aw m;have b0:=Ss AI ad m;⟨l,r,ab,Sl ap e.funcs aq,.slice none 0 0,Z,Ho (T3 (Mo [3] ar) ac z m) a0,af,bz,b0,Own.nil,af⟩
theorem UT(e:Nat):Ku.Spec (Ku e):=by
 intro d f ab ac ad a ae af kn1 kn2 ko1_2 ag g hnd hnz h l m
 refine Calls.mono (TN e (recol (see [a,kn1,kn2,ko1_2]) d) f (Fa (Nat.le_of_ble_eq_true Z) d) (BY CK h [a,kn1,kn2,ko1_2]) (BU l [a,kn1,kn2,ko1_2] (BP hnd hnz (i:=0) Z)) (BY An m [a,kn1,kn2,ko1_2]) g) ?_
 rintro ah ai ⟨n,o,p,q,r,s,c,u,w,y,z,aa⟩
 exact ⟨glue [a,kn1,kn2,ko1_2] f d n,o,p,q,r,s,CA c (Fb Z Z),Xv (j:=2) u Z Z c,VR (j:=1) w Z Z c,HO AI y,Jz (j:=3) z Z Z c,Xv (j:=2) aa Z Z c⟩
def F3.At(G1 G2:Prop)(c:Col)(a:World)(f:Int→AD→Option AD)(d:Nat):Prop:=
 ∀{l e m n o},f l m=some o→G1→G2→Bk c a d e n 63→An.rep c.F a n m→
  Calls PG 52 #[I l,Pt e 0] a fun q g=>∃h p,q=.returned (.tuple #[])∧AS [d] c a h g∧Bk h g d e p 63∧An.rep h.F g p o
def F3.Spec(f:Int→AD→Option AD):Prop:=
 ∀c d {a},F3.At ([a].Nodup) (0∉[a]) c d f a
theorem Qc(f:Col)(n:World)(o:∀b,f b<10):F3.At True True f n F3 1:=by
 intro d s e ae u a _ _ g w
 rw [F3] at a
 obtain rfl:=As w
 refine Ay Tryz.func52 Z Tryz.ntmps52 Z fun B p af=>Am (fun y q=>∃r h m,y=Env.puts r [(0,I d),(1,Pt s 0),(11,.bool m)]∧J5 d e m=some u∧AS [] f n h q) ?_ ?_
 refine AL<|Vx (Fz ND Z)<|Vx (Ld NE Z (Bc g Z))<|Vr (.bool (e.why==0))<|Vm<|Bo a (fun c a=>?_) fun c a=>?_
 refine Pg c<|Pg c<|Pg c<|Pg c<|Vp c<|AA<|⟨_,f,true,Pu,a,Rf⟩
 refine Gm c<|Gx c (Fd O3 Z)<|Gx c (Ld BC Z (Bc g Z))<|Gr c (.bool (decide (d<e.at_)))<|Vp c<|AA<|⟨_,f,(decide (d<e.at_)),Pu,a,Rf⟩
 rintro _ q ⟨r,h,m,rfl,a,l⟩
 rw [J5] at a
 refine Cn a (fun z a=>?_) fun z a=>?_
 refine AL<|Vm<|Vx (v:=Ag [I 34,I d]) (Bp FM Mu Z (.cons Z Z Z (.cons Z Z Z .nil)))<|have aa:=Bs g l;Eu<|St HK aa Z Z Z Z fun ag ab ac=>AA ?_
 obtain rfl:=AK a
 refine M9 (B:=B) p<|M8 Z<|⟨h,[I 34,I d],Z,Ho (Tn (Mo [1] l) ac) o,ab,(Ak (x:=(AD.mk 34 d)))⟩
 refine WC.skip ?_
 obtain rfl:=AK a
 refine M9 (B:=B) p<|M8 Z<|have ad:=Bs g l;⟨h,[I e.why,I e.at_],Z,Ho (Mo [] l) o,ad,(Ak (x:=e))⟩
theorem RB:F3.Spec F3:=lk1 (Qc)
def types_checker_want.Spec(f:(List AO)→(List AJ)→Aq→AD→AE→Int→Option ((List AO)×(List AJ)×AD)):Prop:=
 ∀c a {n g q r s u ko0_2 o p w l h y z aa ab ac m},f q s w y aa ac=some m→[g,p,h,ko0_2].Nodup→0∉[g,p,h,ko0_2]→Bk c a g n [.map (some o),r,u,.func (.func 52) #[] [Pt l 0].toArray] 134→Slc AI c.F a r q→Own Ab 87 c a ko0_2 u s→Mp c a p o w→Bk c a h l z 63→An.rep c.F a z y→AH.rep c.F a ab aa→
  Calls PG 53 #[Pt n 0,Ag ab,I ac] a fun ag d=>∃e ad ae af,ag=.returned (.tuple #[])∧AS [g,h,ko0_2] c a e d∧Bk e d g n [.map (some o),ad,ae,.func (.func 52) #[] [Pt l 0].toArray] 134∧Slc AI e.F d ad m.1∧Own Ab 87 e d ko0_2 ae m.2.1∧Bk e d h l af 63∧An.rep e.F d af m.2.2
def types_checker_all.Spec(f:(List AO)→(List AJ)→Aq→AD→Int→(List AE)→Option ((List AO)×(List AJ)×AD)):Prop:=
 ∀c a {n g q r s u ko0_2 o p w l h y z aa ab ac m},f q s w y aa ab=some m→[g,p,h,ko0_2].Nodup→0∉[g,p,h,ko0_2]→Bk c a g n [.map (some o),r,u,.func (.func 52) #[] [Pt l 0].toArray] 134→Slc AI c.F a r q→Own Ab 87 c a ko0_2 u s→Mp c a p o w→Bk c a h l z 63→An.rep c.F a z y→Slc AH c.F a ac ab→
  Calls PG 82 #[Pt n 0,I aa,ac] a fun ag d=>∃e ad ae af,ag=.returned (.tuple #[])∧AS [g,h,ko0_2] c a e d∧Bk e d g n [.map (some o),ad,ae,.func (.func 52) #[] [Pt l 0].toArray] 134∧Slc AI e.F d ad m.1∧Own Ab 87 e d ko0_2 ae m.2.1∧Bk e d h l af 63∧An.rep e.F d af m.2.2
def types_checker_in.Spec(f:(List AO)→(List AJ)→Aq→AD→AE→Int→(List AJ)→Option ((List AO)×(List AJ)×AD)):Prop:=
 ∀c a {l g u w y z ko0_2 o p aa m h ab ac ad q ae r af ag ah s ai aj ak n},f u y aa ab af ai aj=some n→[g,p,h,q,r,s,ko0_2].Nodup→0∉[g,p,h,q,r,s,ko0_2]→Bk c a g l [.map (some o),w,z,.func (.func 52) #[] [Pt m 0].toArray] 134→Slc AI c.F a w u→Own Ab 87 c a ko0_2 z y→Mp c a p o aa→Bk c a h m ac 63→An.rep c.F a ac ab→Bk c a q ad [Pt l 0] 130→Bk c a r ae ag 56→AH.rep c.F a ag af→Bk c a s ah [I ai] 34→Slc Ab c.F a ak aj→
  Calls PG 83 #[Pt l 0,.func (.func 84) #[] [Pt ad 0,Pt ae 0,Pt ah 0].toArray,ak] a fun ao d=>∃e al am an,ao=.returned (.tuple #[])∧AS [g,h,ko0_2] c a e d∧Bk e d g l [.map (some o),al,am,.func (.func 52) #[] [Pt m 0].toArray] 134∧Slc AI e.F d al n.1∧Own Ab 87 e d ko0_2 am n.2.1∧Bk e d h m an 63∧An.rep e.F d an n.2.2
def types_checker_in_2.Spec(f:(List AO)→(List AJ)→Aq→AD→AE→Int→(List AJ)→Option ((List AO)×(List AJ)×AD)):Prop:=
 ∀c a {l g u w y z ko0_2 o p aa m h ab ac ad q ae r af ag ah s ai aj ak n},f u y aa ab af ai aj=some n→[g,p,h,q,r,s,ko0_2].Nodup→0∉[g,p,h,q,r,s,ko0_2]→Bk c a g l [.map (some o),w,z,.func (.func 52) #[] [Pt m 0].toArray] 134→Slc AI c.F a w u→Own Ab 87 c a ko0_2 z y→Mp c a p o aa→Bk c a h m ac 63→An.rep c.F a ac ab→Bk c a q ad [Pt l 0] 130→Bk c a r ae ag 56→AH.rep c.F a ag af→Bk c a s ah [I ai] 34→Slc Ab c.F a ak aj→
  Calls PG 83 #[Pt l 0,.func (.func 85) #[] [Pt ad 0,Pt ae 0,Pt ah 0].toArray,ak] a fun ao d=>∃e al am an,ao=.returned (.tuple #[])∧AS [g,h,ko0_2] c a e d∧Bk e d g l [.map (some o),al,am,.func (.func 52) #[] [Pt m 0].toArray] 134∧Slc AI e.F d al n.1∧Own Ab 87 e d ko0_2 am n.2.1∧Bk e d h m an 63∧An.rep e.F d an n.2.2
def types_checker_in_3.Spec(f:(List AO)→(List AJ)→Aq→AD→AE→Int→(List AJ)→Option ((List AO)×(List AJ)×AD)):Prop:=
 ∀c a {l g u w y z ko0_2 o p aa m h ab ac ad q ae r af ag ah s ai aj ak n},f u y aa ab af ai aj=some n→[g,p,h,q,r,s,ko0_2].Nodup→0∉[g,p,h,q,r,s,ko0_2]→Bk c a g l [.map (some o),w,z,.func (.func 52) #[] [Pt m 0].toArray] 134→Slc AI c.F a w u→Own Ab 87 c a ko0_2 z y→Mp c a p o aa→Bk c a h m ac 63→An.rep c.F a ac ab→Bk c a q ad [Pt l 0] 130→Bk c a r ae ag 56→AH.rep c.F a ag af→Bk c a s ah [I ai] 34→Slc Ab c.F a ak aj→
  Calls PG 83 #[Pt l 0,.func (.func 86) #[] [Pt ad 0,Pt ae 0,Pt ah 0].toArray,ak] a fun ao d=>∃e al am an,ao=.returned (.tuple #[])∧AS [g,h,ko0_2] c a e d∧Bk e d g l [.map (some o),al,am,.func (.func 52) #[] [Pt m 0].toArray] 134∧Slc AI e.F d al n.1∧Own Ab 87 e d ko0_2 am n.2.1∧Bk e d h m an 63∧An.rep e.F d an n.2.2
def types_checker_own.Spec(f:(List AO)→(List AJ)→Aq→AD→AE→Option (Int×(List AO)×(List AJ)×AD)):Prop:=
 ∀c a {n g q r s u ko0_2 o p w m h y z aa ab l},f q s w y aa=some l→[g,p,h,ko0_2].Nodup→0∉[g,p,h,ko0_2]→Bk c a g n [.map (some o),r,u,.func (.func 52) #[] [Pt m 0].toArray] 134→Slc AI c.F a r q→Own Ab 87 c a ko0_2 u s→Mp c a p o w→Bk c a h m z 63→An.rep c.F a z y→AH.rep c.F a ab aa→
  Calls PG 87 #[Pt n 0,Ag ab] a fun af d=>∃e ac ad ae,af=.returned (I l.1)∧AS [g,h,ko0_2] c a e d∧Bk e d g n [.map (some o),ac,ad,.func (.func 52) #[] [Pt m 0].toArray] 134∧Slc AI e.F d ac l.2.1∧Own Ab 87 e d ko0_2 ad l.2.2.1∧Bk e d h m ae 63∧An.rep e.F d ae l.2.2.2
def types_checker_want_1.Spec(f:(List AO)→(List AJ)→Aq→AD→AE→Int→Option ((List AO)×(List AJ)×AD)):Prop:=
 ∀c a {u n o g w y z aa ko1_2 p q ab l h ac ad ae r af ag ah s ai m},f w z ab ac af ai=some m→[n,g,q,h,r,s,ko1_2].Nodup→0∉[n,g,q,h,r,s,ko1_2]→Bk c a n u [Pt o 0] 130→Bk c a g o [.map (some p),y,aa,.func (.func 52) #[] [Pt l 0].toArray] 134→Slc AI c.F a y w→Own Ab 87 c a ko1_2 aa z→Mp c a q p ab→Bk c a h l ad 63→An.rep c.F a ad ac→Bk c a r ae ag 56→AH.rep c.F a ag af→Bk c a s ah [I ai] 34→
  Calls PG 84 #[Pt u 0,Pt ae 0,Pt ah 0] a fun am d=>∃e aj ak al,am=.returned (.tuple #[])∧AS [g,h,ko1_2] c a e d∧Bk e d g o [.map (some p),aj,ak,.func (.func 52) #[] [Pt l 0].toArray] 134∧Slc AI e.F d aj m.1∧Own Ab 87 e d ko1_2 ak m.2.1∧Bk e d h l al 63∧An.rep e.F d al m.2.2
def types_checker_want_2.Spec(f:(List AO)→(List AJ)→Aq→AD→AE→Int→Option ((List AO)×(List AJ)×AD)):Prop:=
 ∀c a {u n o g w y z aa ko1_2 p q ab l h ac ad ae r af ag ah s ai m},f w z ab ac af ai=some m→[n,g,q,h,r,s,ko1_2].Nodup→0∉[n,g,q,h,r,s,ko1_2]→Bk c a n u [Pt o 0] 130→Bk c a g o [.map (some p),y,aa,.func (.func 52) #[] [Pt l 0].toArray] 134→Slc AI c.F a y w→Own Ab 87 c a ko1_2 aa z→Mp c a q p ab→Bk c a h l ad 63→An.rep c.F a ad ac→Bk c a r ae ag 56→AH.rep c.F a ag af→Bk c a s ah [I ai] 34→
  Calls PG 85 #[Pt u 0,Pt ae 0,Pt ah 0] a fun am d=>∃e aj ak al,am=.returned (.tuple #[])∧AS [g,h,ko1_2] c a e d∧Bk e d g o [.map (some p),aj,ak,.func (.func 52) #[] [Pt l 0].toArray] 134∧Slc AI e.F d aj m.1∧Own Ab 87 e d ko1_2 ak m.2.1∧Bk e d h l al 63∧An.rep e.F d al m.2.2
def types_checker_want_3.Spec(f:(List AO)→(List AJ)→Aq→AD→AE→Int→Option ((List AO)×(List AJ)×AD)):Prop:=
 ∀c a {u n o g w y z aa ko1_2 p q ab l h ac ad ae r af ag ah s ai m},f w z ab ac af ai=some m→[n,g,q,h,r,s,ko1_2].Nodup→0∉[n,g,q,h,r,s,ko1_2]→Bk c a n u [Pt o 0] 130→Bk c a g o [.map (some p),y,aa,.func (.func 52) #[] [Pt l 0].toArray] 134→Slc AI c.F a y w→Own Ab 87 c a ko1_2 aa z→Mp c a q p ab→Bk c a h l ad 63→An.rep c.F a ad ac→Bk c a r ae ag 56→AH.rep c.F a ag af→Bk c a s ah [I ai] 34→
  Calls PG 86 #[Pt u 0,Pt ae 0,Pt ah 0] a fun am d=>∃e aj ak al,am=.returned (.tuple #[])∧AS [g,h,ko1_2] c a e d∧Bk e d g o [.map (some p),aj,ak,.func (.func 52) #[] [Pt l 0].toArray] 134∧Slc AI e.F d aj m.1∧Own Ab 87 e d ko1_2 ak m.2.1∧Bk e d h l al 63∧An.rep e.F d al m.2.2
def types_checker_call.Spec(f:(List AO)→(List AJ)→Aq→AD→AE→Option (Int×(List AO)×(List AJ)×AD)):Prop:=
 ∀c a {n g q r s u ko0_2 o p w m h y z aa ab l},f q s w y aa=some l→[g,p,h,ko0_2].Nodup→0∉[g,p,h,ko0_2]→Bk c a g n [.map (some o),r,u,.func (.func 52) #[] [Pt m 0].toArray] 134→Slc AI c.F a r q→Own Ab 87 c a ko0_2 u s→Mp c a p o w→Bk c a h m z 63→An.rep c.F a z y→AH.rep c.F a ab aa→
  Calls PG 112 #[Pt n 0,Ag ab] a fun af d=>∃e ac ad ae,af=.returned (I l.1)∧AS [g,h,ko0_2] c a e d∧Bk e d g n [.map (some o),ac,ad,.func (.func 52) #[] [Pt m 0].toArray] 134∧Slc AI e.F d ac l.2.1∧Own Ab 87 e d ko0_2 ad l.2.2.1∧Bk e d h m ae 63∧An.rep e.F d ae l.2.2.2
structure AG.Good(a:AG):Prop where
 types_checker_want:types_checker_want.Spec a.types_checker_want
 types_checker_all:types_checker_all.Spec a.types_checker_all
 types_checker_in:types_checker_in.Spec a.types_checker_in
 types_checker_in_2:types_checker_in_2.Spec a.types_checker_in_2
 types_checker_in_3:types_checker_in_3.Spec a.types_checker_in_3
 types_checker_own:types_checker_own.Spec a.types_checker_own
 types_checker_want_1:types_checker_want_1.Spec a.types_checker_want_1
 types_checker_want_2:types_checker_want_2.Spec a.types_checker_want_2
 types_checker_want_3:types_checker_want_3.Spec a.types_checker_want_3
 types_checker_call:types_checker_call.Spec a.types_checker_call
theorem N9(cd:AG)(e0:Nat)(al:AG.Good cd)(w:Col)(am:World)(cf:∀b,w b<10){l:Nat}{cg:(List AO)}{ch:Value}{ci:(List AJ)}{cj:Value}{bo:Nat}{ck:Aq}{ao:Nat}{au:AD}{cl:List Value}{a:AE}{cm:List Value}{r:Int}{bd:(List AO)×(List AJ)×AD}(be:Bk w am 1 l [.map (some bo),ch,cj,.func (.func 52) #[] [Pt ao 0].toArray] 134)(a2:Slc AI w.F am ch cg)(a3:Own Ab 87 w am 4 cj ci)(bf:Mp w am 2 bo ck)(bg:Bk w am 3 ao cl 63)(e1:An.rep w.F am cl au)(e2:AH.rep w.F am cm a)(c:GQ cd e0 cg ci ck au a r=some bd):
  Calls PG 53 #[Pt l 0,Ag cm,I r] am fun e3 a4=>∃a5 cn co cq,e3=.returned (.tuple #[])∧AS [1,3,4] w am a5 a4∧Bk a5 a4 1 l [.map (some bo),cn,co,.func (.func 52) #[] [Pt ao 0].toArray] 134∧Slc AI a5.F a4 cn bd.1∧Own Ab 87 a5 a4 4 co bd.2.1∧Bk a5 a4 3 ao cq 63∧An.rep a5.F a4 cq bd.2.2:=by
 rw [GQ] at c
 obtain ⟨kn,ko,rfl⟩:=AT a2
 obtain ⟨kp,kq,rfl⟩:=Own.len a3
 obtain rfl:=As e1
 obtain ⟨ap,aq,rfl,a6⟩:=E1 (Ae e2)
 refine Ay Tryz.func53 Z Tryz.ntmps53 Z fun B cr g=>?_
 refine Sr ?_
 refine Ef (A0 w 20 Z Z fun e4 ks y a7 h=>?_)
 refine Ef (A0 e4 21 Z Z fun e5 kt m ct f=>?_)
 refine Ef (A0 e5 22 Z Z fun u cu z a8 e=>?_)
 refine AA ?_
 refine Sr ?_
 refine Vx (v:=I r) (Ld Ed Z (Bc a8 Z)) ?_
 refine Va (I r) ?_
 refine AA ?_
 refine Am (fun e6 a9=>∃cv an bh av bi bj aw bk bl ba bb,e6=Env.puts cv [(3,Pt y 0),(4,Pt m 0),(5,Pt z 0),(6,I bh)]∧Cc a r bh av aw ba bb=some bd∧AS [1,3,4,23,24,25] u cu an a9∧Slc AI an.F a9 (Sl bi av bj) av∧Own Ab 87 an a9 4 (Sl bk aw bl) aw∧Bk an a9 1 l [.map (some bo),Sl bi av bj,Sl bk aw bl,.func (.func 52) #[] [Pt ao 0].toArray] 134∧Bk an a9 3 ao [I ba,I bb] 63) ?_ ?_
 refine Sr ?_
 refine Vx (v:=Pt m 0) (Fz C8 Z) ?_
 have ar:=(Bs ct e)
 refine Vx (v:=I a.op) (Ld Ge Z (Bc ar Z)) ?_
 refine AA ?_
 refine Af ?_
 refine Sr ?_
 refine Vr (.bool (a.op==19)) ?_
 refine Va (.bool (a.op==19)) ?_
 refine AA ?_
 refine Cn c (fun e7 c=>?_) fun e7 c=>?_
 refine AR ?_
 refine BW Cv (qs 0 5 (.one 5 .nil)) [] [1,3,4] u (by kernel_rfl) fun cw aa=>?_
 have cx:=(Y3 a7 f e aa)
 refine Qx g Z (v:=Pt l 0) (fun _ ⟨_,d⟩=>Ld Ko Z (Bc (Bs cx d) Z)) ?_
 refine Qx g Z (v:=Pt m 5) (fun _ _=>Fd BS Z) ?_
 have cy:=(Bs ar aa)
 refine Qx g Z (v:=Sl ap a.args aq) (fun _ ⟨_,d⟩=>Ld Cf Z (Bc (Bs cy d) Z)) ?_
 obtain ⟨n,e8,c⟩:=bnd_sm c
 have cz:=(K4 AH a6 h f e aa)
 obtain ⟨c0,c1,ku,e9,fa,fb,fc,fd,bu⟩:=A8 (κ:=AH) cz e8
 replace bu:Ax u cw c0 (c1+(0:Int).toNat*7) e9:=bu
 obtain ⟨bv,bw,rfl,c2⟩:=E1 (Ae fd)
 refine Qx g Z (v:=.pointer (some ⟨c0,c1+(0:Int).toNat*7,none⟩)) (fun _ _=>Ix CH fa Z fb fc) ?_
 refine Qx g Z (v:=Ag [I n.op,Sb n.name,Sb n.tail,I n.type_,Cx n.num,Sl bv n.args bw,I n.at_]) (fun _ ⟨_,d⟩=>Lx A9 Z Z (Ax.part0 (Es bu d) [I n.op,Sb n.name,Sb n.tail,I n.type_,Cx n.num,Sl bv n.args bw,I n.at_] Z)) ?_
 refine A1 Z ?_
 have fe:=(Y4 be h f e aa)
 have ff:=(K4 AI a2 h f e aa)
 have fg:=(Os (Os (Os (Os a3 h) f) e) aa)
 have c3:=(Ms (Ms (Ms (Ms bf h) f) e) aa)
 have fh:=(Y4 bg h f e aa)
 obtain ⟨fi,fj,c⟩:=bnd_sm c
 refine A3 Z (.none Z) Z Z (Cg [Pt l 0,Ag [I n.op,Sb n.name,Sb n.tail,I n.type_,Cx n.num,Sl bv n.args bw,I n.at_],I 2] Z) ?_
 refine Calls.mono (al.types_checker_want u cw (ko0_2:=4) fj dcd dcd fe ff fg c3 fh (Ak (x:=au)) (AW (x:=n) c2)) ?_
 rintro _ kw ⟨c4,kx,ky,kz,rfl,ax,fk,c5,c6,fl,fm⟩
 obtain ⟨k0,k1,rfl⟩:=AT c5
 obtain ⟨k2,k3,rfl⟩:=Own.len c6
 obtain rfl:=As fm
 refine ⟨_,Z,⟨_,(Mo [1,3,4] ax)⟩,?_⟩
 refine B9 ?_
 refine BW Cv (qs 0 5 (.one 5 .nil)) [] [1,3,4] c4 (by kernel_rfl) fun fn ab=>?_
 have fo:=(Y2 cx ax ab)
 refine Qx g Z (v:=Pt l 0) (fun _ ⟨_,d⟩=>Ld Ko Z (Bc (Bs fo d) Z)) ?_
 have fp:=(Y3 a8 aa ax ab)
 refine Qx g Z (v:=I r) (fun _ ⟨_,d⟩=>Ld Ed Z (Bc (Bs fp d) Z)) ?_
 refine Qx g Z (v:=Pt m 5) (fun _ _=>Fd BS Z) ?_
 have fq:=(Y2 cy ax ab)
 refine Qx g Z (v:=Sl ap a.args aq) (fun _ ⟨_,d⟩=>Ld Cf Z (Bc (Bs fq d) Z)) ?_
 obtain ⟨c7,c8,c⟩:=bnd_sm c
 have fr:=(K2 AH cz ax ab)
 obtain ⟨c9,da,fs,ft,bx⟩:=VL fr c8
 obtain ⟨k4,db⟩:∃s,s=Value.slice (if da=(1:Int).toNat then c9 else c9.map (·.add ((1:Int).toNat*AH.size))) ((a.args.length:Int).toNat - (1:Int).toNat) (da - (1:Int).toNat):=⟨_,rfl⟩
 rw [←db] at bx
 obtain ⟨fu,fv,fw,_⟩:=Lu c8
 obtain ⟨dc,de,rfl⟩:=AT bx
 refine Qx g Z (v:=.slice dc c7.length de) (fun _ _=>(by rw [db];exact Run.sliceSlc CH fs ⟨_,Z⟩ Z fu fv fw ft)) ?_
 refine A1 Z ?_
 have fx:=(Bs fk ab)
 have fy:=(Ss AI c5 ab)
 have fz:=(Os c6 ab)
 have f0:=(Ms (Ms c3 ax) ab)
 have f1:=(Bs fl ab)
 obtain ⟨bp,f2,c⟩:=bnd_sm c
 refine A3 Z (.none Z) Z Z (Cg [Pt l 0,I r,Sl dc c7 de] Z) ?_
 refine Calls.mono (al.types_checker_all c4 fn (ko0_2:=4) f2 dcd dcd fx fy fz f0 f1 (Ak (x:=fi.2.2)) bx) ?_
 rintro _ k5 ⟨f3,k6,k7,k8,rfl,df,f4,dg,dh,f5,f6⟩
 obtain ⟨f7,f8,rfl⟩:=AT dg
 obtain ⟨f9,ga,rfl⟩:=Own.len dh
 obtain rfl:=As f6
 refine ⟨_,Z,⟨_,(Mo [1,3,4] df)⟩,?_⟩
 refine B9 ?_
 exact ⟨_,f3,r,bp.1,f7,f8,bp.2.1,f9,ga,bp.2.2.why,bp.2.2.at_,Pu,c,(T3 (Mo [1,3,4,23,24,25] aa) ax ab df),dg,dh,f4,f5⟩
 refine Sr ?_
 refine Vr (.bool (a.op==20)) ?_
 refine Va (.bool (a.op==20)) ?_
 refine AA ?_
 refine Cn c (fun gb c=>?_) fun gb c=>?_
 refine AR ?_
 refine BW Cv (qs 0 5 (.one 5 .nil)) [] [1,3,4] u (by kernel_rfl) fun di ac=>?_
 have dj:=(Y3 a7 f e ac)
 refine Qx g Z (v:=Pt l 0) (fun _ ⟨_,d⟩=>Ld Ko Z (Bc (Bs dj d) Z)) ?_
 refine Qx g Z (v:=Pt m 5) (fun _ _=>Fd BS Z) ?_
 have dk:=(Bs ar ac)
 refine Qx g Z (v:=Sl ap a.args aq) (fun _ ⟨_,d⟩=>Ld Cf Z (Bc (Bs dk d) Z)) ?_
 obtain ⟨o,gc,c⟩:=bnd_sm c
 have dl:=(K4 AH a6 h f e ac)
 obtain ⟨dm,dn,k9,gd,ge,gf,gg,gh,bz⟩:=A8 (κ:=AH) dl gc
 replace bz:Ax u di dm (dn+(0:Int).toNat*7) gd:=bz
 obtain ⟨b0,b1,rfl,dp⟩:=E1 (Ae gh)
 refine Qx g Z (v:=.pointer (some ⟨dm,dn+(0:Int).toNat*7,none⟩)) (fun _ _=>Ix CH ge Z gf gg) ?_
 refine Qx g Z (v:=Ag [I o.op,Sb o.name,Sb o.tail,I o.type_,Cx o.num,Sl b0 o.args b1,I o.at_]) (fun _ ⟨_,d⟩=>Lx A9 Z Z (Ax.part0 (Es bz d) [I o.op,Sb o.name,Sb o.tail,I o.type_,Cx o.num,Sl b0 o.args b1,I o.at_] Z)) ?_
 refine A1 Z ?_
 have gi:=(Y4 be h f e ac)
 have gj:=(K4 AI a2 h f e ac)
 have gk:=(Os (Os (Os (Os a3 h) f) e) ac)
 have dq:=(Ms (Ms (Ms (Ms bf h) f) e) ac)
 have gl:=(Y4 bg h f e ac)
 obtain ⟨gm,gn,c⟩:=bnd_sm c
 refine A3 Z (.none Z) Z Z (Cg [Pt l 0,Ag [I o.op,Sb o.name,Sb o.tail,I o.type_,Cx o.num,Sl b0 o.args b1,I o.at_],I 3] Z) ?_
 refine Calls.mono (al.types_checker_want u di (ko0_2:=4) gn dcd dcd gi gj gk dq gl (Ak (x:=au)) (AW (x:=o) dp)) ?_
 rintro _ lb ⟨b2,lc,ld,le,rfl,ay,go,dr,ds,gp,gq⟩
 obtain ⟨lf,lg,rfl⟩:=AT dr
 obtain ⟨lh,li,rfl⟩:=Own.len ds
 obtain rfl:=As gq
 refine ⟨_,Z,⟨_,(Mo [1,3,4] ay)⟩,?_⟩
 refine B9 ?_
 refine AR ?_
 refine BW Cv (qs 0 6 (.one 6 .nil)) [] [1,3,4] b2 (by kernel_rfl) fun dt ad=>?_
 have du:=(Y2 dj ay ad)
 refine Qx g Z (v:=Pt l 0) (fun _ ⟨_,d⟩=>Ld Ko Z (Bc (Bs du d) Z)) ?_
 refine Qx g Z (v:=Pt m 5) (fun _ _=>Fd BS Z) ?_
 have dv:=(Y2 dk ay ad)
 refine Qx g Z (v:=Sl ap a.args aq) (fun _ ⟨_,d⟩=>Ld Cf Z (Bc (Bs dv d) Z)) ?_
 obtain ⟨p,gr,c⟩:=bnd_sm c
 have dw:=(K2 AH dl ay ad)
 obtain ⟨dx,dy,lj,gs,gt,gu,gv,gw,b3⟩:=A8 (κ:=AH) dw gr
 replace b3:Ax b2 dt dx (dy+(1:Int).toNat*7) gs:=b3
 obtain ⟨b4,b5,rfl,dz⟩:=E1 (Ae gw)
 refine Qx g Z (v:=.pointer (some ⟨dx,dy+(1:Int).toNat*7,none⟩)) (fun _ _=>Ix CH gt Z gu gv) ?_
 refine Qx g Z (v:=Ag [I p.op,Sb p.name,Sb p.tail,I p.type_,Cx p.num,Sl b4 p.args b5,I p.at_]) (fun _ ⟨_,d⟩=>Lx A9 Z Z (Ax.part0 (Es b3 d) [I p.op,Sb p.name,Sb p.tail,I p.type_,Cx p.num,Sl b4 p.args b5,I p.at_] Z)) ?_
 have d0:=(Y3 a8 ac ay ad)
 refine Qx g Z (v:=I r) (fun _ ⟨_,d⟩=>Ld Ed Z (Bc (Bs d0 d) Z)) ?_
 refine A1 Z ?_
 have gx:=(Bs go ad)
 have gy:=(Ss AI dr ad)
 have gz:=(Os ds ad)
 have d1:=(Ms (Ms dq ay) ad)
 have g0:=(Bs gp ad)
 obtain ⟨g1,g2,c⟩:=bnd_sm c
 refine A3 Z (.none Z) Z Z (Cg [Pt l 0,Ag [I p.op,Sb p.name,Sb p.tail,I p.type_,Cx p.num,Sl b4 p.args b5,I p.at_],I r] Z) ?_
 refine Calls.mono (al.types_checker_want b2 dt (ko0_2:=4) g2 dcd dcd gx gy gz d1 g0 (Ak (x:=gm.2.2)) (AW (x:=p) dz)) ?_
 rintro _ ll ⟨g3,lm,ln,lo,rfl,az,g4,d2,d3,g5,g6⟩
 obtain ⟨lp,lq,rfl⟩:=AT d2
 obtain ⟨lr,ls,rfl⟩:=Own.len d3
 obtain rfl:=As g6
 refine ⟨_,Z,⟨_,(Mo [1,3,4] az)⟩,?_⟩
 refine B9 ?_
 refine AL ?_
 have d4:=(Bs du az)
 refine Vx (v:=Pt l 0) (Ld Ko Z (Bc d4 Z)) ?_
 refine Vx (v:=.func (.func 84) #[] [Pt y 0,Pt m 0,Pt z 0].toArray) (IV (vs:=[Pt y 0,Pt m 0,Pt z 0]) Z) ?_
 refine Vx (v:=Pt m 1) (Fd Di Z) ?_
 have b6:=(Bs dv az)
 refine Vx (v:=Sb a.name) (Ld CG Z (Bc b6 Z)) ?_
 refine Vx (v:=Ag [Sb a.name,I 1,I 0]) (Bp MG Q3 Z (.cons Z Z Z (.cons Z Z Z .nil))) ?_
 refine Vx (v:=Pt m 2) (Fd NB Z) ?_
 refine Vx (v:=Sb a.tail) (Ld CG Z (Bc b6 Z)) ?_
 refine Vx (v:=Ag [Sb a.tail,I 3,I 0]) (Bp MG Q3 Z (.cons Z Z Z (.cons Z Z Z .nil))) ?_
 refine Ef (Ch (cs:=[Sb a.name,I 1,I 0,Sb a.tail,I 3,I 0]) g3 23 [[Sb a.name,I 1,I 0],[Sb a.tail,I 3,I 0]] D9 MG Z Z (.cons Z Z Z (.cons Z Z Z .nil)) Z fun g7 d5 d6 g8 ae=>?_)
 have g9:Own Ab 87 g7 d5 23 (.slice (some ⟨d6,0,none⟩) 2 2) ([(AJ.mk a.name 1 0),(AJ.mk a.tail 3 0)]:List AJ):=Own.lit (css:=[[Sb a.name,I 1,I 0],[Sb a.tail,I 3,I 0]]) g8 rfl rfl rfl (Aa (LG (x:=(AJ.mk a.name 1 0))) (Aa (LG (x:=(AJ.mk a.tail 3 0))) BA)) (A4 rfl (A4 rfl D3)) rfl
 obtain ⟨ha,af,hb⟩:=Own.freeze (S:=[23]) g9 dcd dcd
 have hc:=(Y2 g4 ae af)
 have hd:=(K2 AI d2 ae af)
 have he:=(Os (Os d3 ae) af)
 have hf:=(Ms (Ms (Ms d1 az) ae) af)
 have hg:=(Y2 g5 ae af)
 have hh:=(Y2 d4 ae af)
 have hi:=(Y2 b6 ae af)
 have hj:=(K3 AH dw az ae af)
 have hk:=(Y3 d0 az ae af)
 obtain ⟨bq,hl,c⟩:=bnd_sm c
 refine CT (.none Z) Z Z (Cg [Pt l 0,.func (.func 84) #[] [Pt y 0,Pt m 0,Pt z 0].toArray,Sl (some ⟨d6,0,none⟩) (([(AJ.mk a.name 1 0),(AJ.mk a.tail 3 0)]:List AJ)) 2] Z) ?_
 refine Calls.mono (al.types_checker_in ha d5 (ko0_2:=4) hl dcd dcd hc hd he hf hg (Ak (x:=g1.2.2)) hh hi (AW (x:=a) hj) hk hb) ?_
 rintro _ lt ⟨hm,lu,lv,lw,rfl,hn,ho,d7,d8,hp,hq⟩
 obtain ⟨hr,hs,rfl⟩:=AT d7
 obtain ⟨ht,hu,rfl⟩:=Own.len d8
 obtain rfl:=As hq
 refine ⟨_,Z,?_⟩
 refine AA ?_
 exact ⟨_,hm,r,bq.1,hr,hs,bq.2.1,ht,hu,bq.2.2.why,bq.2.2.at_,Pu,c,(T2 (T4 (Mo [1,3,4,23,24,25] ac) ay ad az ae) af hn),d7,d8,ho,hp⟩
 refine Sr ?_
 refine Vr (.bool (a.op==21)) ?_
 refine Va (.bool (a.op==21)) ?_
 refine AA ?_
 refine Cn c (fun hw c=>?_) fun hw c=>?_
 refine AL ?_
 have d9:=(Y2 a7 f e)
 refine Vx (v:=Pt l 0) (Ld Ko Z (Bc d9 Z)) ?_
 refine Vx (v:=.func (.func 85) #[] [Pt y 0,Pt m 0,Pt z 0].toArray) (IV (vs:=[Pt y 0,Pt m 0,Pt z 0]) Z) ?_
 refine Vx (v:=Pt m 1) (Fd Di Z) ?_
 refine Vx (v:=Sb a.name) (Ld CG Z (Bc ar Z)) ?_
 refine Vx (v:=Pt m 3) (Fd Lg Z) ?_
 refine Vx (v:=I a.type_) (Ld Ed Z (Bc ar Z)) ?_
 refine Vx (v:=Ag [Sb a.name,I a.type_,I 0]) (Bp MG Q3 Z (.cons Z Z Z (.cons Z Z Z .nil))) ?_
 refine Ef (Ch (cs:=[Sb a.name,I a.type_,I 0]) u 24 [[Sb a.name,I a.type_,I 0]] D9 MG Z Z (.cons Z Z Z .nil) Z fun hx ea eb hy ag=>?_)
 have hz:Own Ab 87 hx ea 24 (.slice (some ⟨eb,0,none⟩) 1 1) ([(AJ.mk a.name a.type_ 0)]:List AJ):=Own.lit (css:=[[Sb a.name,I a.type_,I 0]]) hy rfl rfl rfl (Aa (LG (x:=(AJ.mk a.name a.type_ 0))) BA) (A4 rfl D3) rfl
 obtain ⟨h0,ah,h1⟩:=Own.freeze (S:=[24]) hz dcd dcd
 have h2:=(Bs (Y4 be h f e ag) ah)
 have h3:=(Ss AI (K4 AI a2 h f e ag) ah)
 have h4:=(Os (Os (Os (Os (Os a3 h) f) e) ag) ah)
 have h5:=(Ms (Ms (Ms (Ms (Ms bf h) f) e) ag) ah)
 have h6:=(Bs (Y4 bg h f e ag) ah)
 have h7:=(Y2 d9 ag ah)
 have h8:=(Y2 ar ag ah)
 have h9:=(Ss AH (K4 AH a6 h f e ag) ah)
 have ia:=(Y2 a8 ag ah)
 obtain ⟨br,ib,c⟩:=bnd_sm c
 refine CT (.none Z) Z Z (Cg [Pt l 0,.func (.func 85) #[] [Pt y 0,Pt m 0,Pt z 0].toArray,Sl (some ⟨eb,0,none⟩) (([(AJ.mk a.name a.type_ 0)]:List AJ)) 1] Z) ?_
 refine Calls.mono (al.types_checker_in_2 h0 ea (ko0_2:=4) ib dcd dcd h2 h3 h4 h5 h6 (Ak (x:=au)) h7 h8 (AW (x:=a) h9) ia h1) ?_
 rintro _ lx ⟨ic,ly,lz,l0,rfl,id,ie,ec,ed,ig,ih⟩
 obtain ⟨ii,ij,rfl⟩:=AT ec
 obtain ⟨ik,il,rfl⟩:=Own.len ed
 obtain rfl:=As ih
 refine ⟨_,Z,?_⟩
 refine AA ?_
 exact ⟨_,ic,r,br.1,ii,ij,br.2.1,ik,il,br.2.2.why,br.2.2.at_,Pu,c,(T2 (Mo [1,3,4,23,24,25] ag) ah id),ec,ed,ie,ig⟩
 refine Sr ?_
 refine Vr (.bool (a.op==22)) ?_
 refine Va (.bool (a.op==22)) ?_
 refine AA ?_
 refine Cn c (fun im c=>?_) fun im c=>?_
 refine AR ?_
 refine BW Cv (qs 0 7 (.one 7 .nil)) [] [1,3,4] u (by kernel_rfl) fun ee ai=>?_
 have ef:=(Y3 a7 f e ai)
 refine Qx g Z (v:=Pt l 0) (fun _ ⟨_,d⟩=>Ld Ko Z (Bc (Bs ef d) Z)) ?_
 refine Qx g Z (v:=Pt m 5) (fun _ _=>Fd BS Z) ?_
 have b7:=(Bs ar ai)
 refine Qx g Z (v:=Sl ap a.args aq) (fun _ ⟨_,d⟩=>Ld Cf Z (Bc (Bs b7 d) Z)) ?_
 obtain ⟨q,io,c⟩:=bnd_sm c
 have eg:=(K4 AH a6 h f e ai)
 obtain ⟨eh,ei,l1,ip,iq,ir,it,iu,b8⟩:=A8 (κ:=AH) eg io
 replace b8:Ax u ee eh (ei+(0:Int).toNat*7) ip:=b8
 obtain ⟨b9,ca,rfl,ej⟩:=E1 (Ae iu)
 refine Qx g Z (v:=.pointer (some ⟨eh,ei+(0:Int).toNat*7,none⟩)) (fun _ _=>Ix CH iq Z ir it) ?_
 refine Qx g Z (v:=Ag [I q.op,Sb q.name,Sb q.tail,I q.type_,Cx q.num,Sl b9 q.args ca,I q.at_]) (fun _ ⟨_,d⟩=>Lx A9 Z Z (Ax.part0 (Es b8 d) [I q.op,Sb q.name,Sb q.tail,I q.type_,Cx q.num,Sl b9 q.args ca,I q.at_] Z)) ?_
 refine Qx g Z (v:=Pt m 3) (fun _ _=>Fd Lg Z) ?_
 refine Qx g Z (v:=I a.type_) (fun _ ⟨_,d⟩=>Ld Ed Z (Bc (Bs b7 d) Z)) ?_
 refine A1 Z ?_
 have iv:=(Y4 be h f e ai)
 have iw:=(K4 AI a2 h f e ai)
 have ix:=(Os (Os (Os (Os a3 h) f) e) ai)
 have ek:=(Ms (Ms (Ms (Ms bf h) f) e) ai)
 have iy:=(Y4 bg h f e ai)
 obtain ⟨iz,i0,c⟩:=bnd_sm c
 refine A3 Z (.none Z) Z Z (Cg [Pt l 0,Ag [I q.op,Sb q.name,Sb q.tail,I q.type_,Cx q.num,Sl b9 q.args ca,I q.at_],I a.type_] Z) ?_
 refine Calls.mono (al.types_checker_want u ee (ko0_2:=4) i0 dcd dcd iv iw ix ek iy (Ak (x:=au)) (AW (x:=q) ej)) ?_
 rintro _ l3 ⟨i1,l4,l5,l6,rfl,a0,i2,el,em,i3,i4⟩
 obtain ⟨l7,l8,rfl⟩:=AT el
 obtain ⟨l9,ma,rfl⟩:=Own.len em
 obtain rfl:=As i4
 refine ⟨_,Z,⟨_,(Mo [1,3,4] a0)⟩,?_⟩
 refine B9 ?_
 refine AL ?_
 have en:=(Bs ef a0)
 refine Vx (v:=Pt l 0) (Ld Ko Z (Bc en Z)) ?_
 refine Vx (v:=.func (.func 86) #[] [Pt y 0,Pt m 0,Pt z 0].toArray) (IV (vs:=[Pt y 0,Pt m 0,Pt z 0]) Z) ?_
 refine Vx (v:=Pt m 1) (Fd Di Z) ?_
 have cb:=(Bs b7 a0)
 refine Vx (v:=Sb a.name) (Ld CG Z (Bc cb Z)) ?_
 refine Vx (v:=Pt m 3) (Fd Lg Z) ?_
 refine Vx (v:=I a.type_) (Ld Ed Z (Bc cb Z)) ?_
 refine Vx (v:=Ag [Sb a.name,I a.type_,I 0]) (Bp MG Q3 Z (.cons Z Z Z (.cons Z Z Z .nil))) ?_
 refine Ef (Ch (cs:=[Sb a.name,I a.type_,I 0]) i1 25 [[Sb a.name,I a.type_,I 0]] D9 MG Z Z (.cons Z Z Z .nil) Z fun i5 eo ep i6 aj=>?_)
 have i7:Own Ab 87 i5 eo 25 (.slice (some ⟨ep,0,none⟩) 1 1) ([(AJ.mk a.name a.type_ 0)]:List AJ):=Own.lit (css:=[[Sb a.name,I a.type_,I 0]]) i6 rfl rfl rfl (Aa (LG (x:=(AJ.mk a.name a.type_ 0))) BA) (A4 rfl D3) rfl
 obtain ⟨i8,ak,i9⟩:=Own.freeze (S:=[25]) i7 dcd dcd
 have ja:=(Y2 i2 aj ak)
 have jb:=(K2 AI el aj ak)
 have jc:=(Os (Os em aj) ak)
 have jd:=(Ms (Ms (Ms ek a0) aj) ak)
 have je:=(Y2 i3 aj ak)
 have jf:=(Y2 en aj ak)
 have jg:=(Y2 cb aj ak)
 have jh:=(K3 AH eg a0 aj ak)
 have ji:=(Y4 a8 ai a0 aj ak)
 obtain ⟨bt,jj,c⟩:=bnd_sm c
 refine CT (.none Z) Z Z (Cg [Pt l 0,.func (.func 86) #[] [Pt y 0,Pt m 0,Pt z 0].toArray,Sl (some ⟨ep,0,none⟩) (([(AJ.mk a.name a.type_ 0)]:List AJ)) 1] Z) ?_
 refine Calls.mono (al.types_checker_in_3 i8 eo (ko0_2:=4) jj dcd dcd ja jb jc jd je (Ak (x:=iz.2.2)) jf jg (AW (x:=a) jh) ji i9) ?_
 rintro _ mb ⟨jk,mc,md,me,rfl,jl,jm,eq,er,jn,jo⟩
 obtain ⟨jp,jq,rfl⟩:=AT eq
 obtain ⟨jr,js,rfl⟩:=Own.len er
 obtain rfl:=As jo
 refine ⟨_,Z,?_⟩
 refine AA ?_
 exact ⟨_,jk,r,bt.1,jp,jq,bt.2.1,jr,js,bt.2.2.why,bt.2.2.at_,Pu,c,(T4 (Mo [1,3,4,23,24,25] ai) a0 aj ak jl),eq,er,jm,jn⟩
 refine AL ?_
 have jt:=(Y2 a7 f e)
 refine Vx (v:=Pt l 0) (Ld Ko Z (Bc jt Z)) ?_
 refine Vx (v:=Ag [I a.op,Sb a.name,Sb a.tail,I a.type_,Cx a.num,Sl ap a.args aq,I a.at_]) (Lx A9 Z Z (Bw ar)) ?_
 have ju:=(Y3 be h f e)
 have jv:=(K3 AI a2 h f e)
 have jw:=(Os (Os (Os a3 h) f) e)
 have jx:=(Ms (Ms (Ms bf h) f) e)
 have jy:=(Y3 bg h f e)
 have jz:=(K3 AH a6 h f e)
 obtain ⟨bc,j0,c⟩:=bnd_sm c
 refine CT (.none Z) Z Z (Cg [Pt l 0,Ag [I a.op,Sb a.name,Sb a.tail,I a.type_,Cx a.num,Sl ap a.args aq,I a.at_]] Z) ?_
 refine Calls.mono (al.types_checker_own u cu (ko0_2:=4) j0 dcd dcd ju jv jw jx jy (Ak (x:=au)) (AW (x:=a) jz)) ?_
 rintro _ mf ⟨j1,mg,mh,mi,rfl,j2,j3,es,et,j4,j5⟩
 obtain ⟨j6,j7,rfl⟩:=AT es
 obtain ⟨j8,j9,rfl⟩:=Own.len et
 obtain rfl:=As j5
 refine ⟨_,Z,?_⟩
 refine Va (I bc.1) ?_
 refine AA ?_
 exact ⟨_,j1,bc.1,bc.2.1,j6,j7,bc.2.2.1,j8,j9,bc.2.2.2.why,bc.2.2.2.at_,Pu,c,(Mo [1,3,4,23,24,25] j2),es,et,j3,j4⟩
 rintro _ a9 ⟨cv,an,bh,av,bi,bj,aw,bk,bl,ba,bb,rfl,c,bm,eu,ew,ex,ey⟩
 rw [Cc] at c
 refine Sr ?_
 refine Vx (v:=I bh) (Mv Z) ?_
 have ka:=(Bs a8 bm)
 refine Vx (v:=I r) (Ld Ed Z (Bc ka Z)) ?_
 refine Vr (.bool (bh != r)) ?_
 refine AA ?_
 refine Cn c (fun kb c=>?_) fun kb c=>?_
 refine BW Cv (qs 0 6 (.one 6 .nil)) [] [3] an (by kernel_rfl) fun kc a1=>?_
 have kd:=(Y4 a7 f e bm a1)
 refine Qx g Z (v:=Pt l 0) (fun _ ⟨_,d⟩=>Ld Ko Z (Bc (Bs kd d) Z)) ?_
 refine Qx g Z (v:=Pt l 0) (fun _ _=>Nc Z) ?_
 refine Qx g Z (v:=Pt l 3) (fun _ _=>Fd YX Z) ?_
 have ez:=(Bs ex a1)
 refine Qx g Z (v:=.func (.func 52) #[] [Pt ao 0].toArray) (fun _ ⟨_,d⟩=>Ld AAe Z (Bc (Bs ez d) Z)) ?_
 refine Qx g Z (v:=Pt m 6) (fun _ _=>Fd Mi Z) ?_
 have ke:=(Y3 ct e bm a1)
 refine Qx g Z (v:=I a.at_) (fun _ ⟨_,d⟩=>Ld BC Z (Bc (Bs ke d) Z)) ?_
 refine A1 Z ?_
 have kf:=(Bs ey a1)
 obtain ⟨cc,kg,c⟩:=bnd_sm c
 refine A3 Z (.none Z) Z Z (ABd (vs:=[I a.at_]) (caps:=[Pt ao 0]) Z Z) ?_
 refine Calls.mono (RB an kc kg dcd dcd kf (Ak (x:=(AD.mk ba bb)))) ?_
 rintro _ mj ⟨kh,mk,rfl,bn,ki,kj⟩
 obtain rfl:=As kj
 refine ⟨_,Z,⟨_,(Mo [3] bn)⟩,?_⟩
 refine B9 ?_
 obtain rfl:=AK c
 refine M9 (B:=B) cr (M8 Z ?_)
 have kk:=(Bs ez bn)
 have kl:=(K2 AI eu a1 bn)
 have km:=(Os (Os ew a1) bn)
 exact ⟨kh,Sl bi av bj,Sl bk aw bl,[I cc.why,I cc.at_],Z,Ho (Tn (T4 (Mo [1,3,4,23,24,25] h) f e bm a1) bn) cf,kk,kl,km,ki,(Ak (x:=cc))⟩
 refine WC.skip ?_
 obtain rfl:=AK c
 refine M9 (B:=B) cr (M8 Z ?_)
 exact ⟨an,Sl bi av bj,Sl bk aw bl,[I ba,I bb],Z,Ho (T3 (Mo [1,3,4,23,24,25] h) f e bm) cf,ex,eu,ew,ey,(Ak (x:=(AD.mk ba bb)))⟩
theorem OA(e:AG)(g:Nat)(o:AG.Good e):types_checker_want.Spec (GQ e g):=by
 intro f h ai a aj ak al am ko0_2 an c ao ap d aq ar au av aw ax p hnd hnz l q r s m u w
 refine Calls.mono (N9 e g o (recol (see [a,c,d,ko0_2]) f) h (Fa (Nat.le_of_ble_eq_true Z) f) (BU l [a,c,d,ko0_2] (BP hnd hnz (i:=0) Z)) (Eo AI q [a,c,d,ko0_2]) (Im r [a,c,d,ko0_2] (BP hnd hnz (i:=3) Z)) (Fs s [a,c,d,ko0_2] (BP hnd hnz (i:=1) Z)) (BU m [a,c,d,ko0_2] (BP hnd hnz (i:=2) Z)) (BY An u [a,c,d,ko0_2]) (BY AH w [a,c,d,ko0_2]) p) ?_
 rintro ay az ⟨y,z,aa,ab,ac,n,ad,ae,af,ag,ah⟩
 exact ⟨glue [a,c,d,ko0_2] h f y,z,aa,ab,ac,CA n (Fb Z Z),ED l ad dcd,HO AI ae,Jz (j:=3) af Z Z n,ED m ag dcd,Dm An ah⟩
theorem Ol(w:AG)(au:Nat)(bd:AG.Good w)(d:Col)(e:World)(be:∀b,d b<10){y:Nat}{am:(List AO)}{av:Value}{an:(List AJ)}{aw:Value}{ae:Nat}{z:Aq}{aa:Nat}{af:AD}{ax:List Value}{h:Int}{f:(List AE)}{ay:Value}{ab:(List AO)×(List AJ)×AD}(bf:Bk d e 1 y [.map (some ae),av,aw,.func (.func 52) #[] [Pt aa 0].toArray] 134)(az:Slc AI d.F e av am)(a0:Own Ab 87 d e 4 aw an)(bg:Mp d e 2 ae z)(bh:Bk d e 3 aa ax 63)(bi:An.rep d.F e ax af)(ao:Slc AH d.F e ay f)(c:Jw w au am an z af h f=some ab):
  Calls PG 82 #[Pt y 0,I h,ay] e fun bj ac=>∃ad a1 a2 a3,bj=.returned (.tuple #[])∧AS [1,3,4] d e ad ac∧Bk ad ac 1 y [.map (some ae),a1,a2,.func (.func 52) #[] [Pt aa 0].toArray] 134∧Slc AI ad.F ac a1 ab.1∧Own Ab 87 ad ac 4 a2 ab.2.1∧Bk ad ac 3 aa a3 63∧An.rep ad.F ac a3 ab.2.2:=by
 rw [Jw] at c
 obtain ⟨bk,bl,rfl⟩:=AT az
 obtain ⟨bm,bn,rfl⟩:=Own.len a0
 obtain rfl:=As bi
 obtain ⟨bo,bp,rfl⟩:=AT ao
 refine Ay Tryz.func82 Z Tryz.ntmps82 Z fun B bq ct=>Sr<|Vm ?_
 obtain ⟨cu,cv,br⟩:=AT ao
 refine Vx (v:=I (f.length:Int)) (Ll CH br)<|Vm<|AA<|Af<|Bg (fun l bt m=>∃a4 g x93 n ag ah o ai aj p q,bt=Env.puts a4 [(0,Pt y 0),(1,I h),(8,Sl bo f bp),(9,I (f.length:Int)),(10,I x93)]∧Dy w z h f l x93 n o p q=some ab∧AS [1,3,4,20] d e g m∧Slc AI g.F m (Sl ag n ah) n∧Own Ab 87 g m 4 (Sl ai o aj) o∧Bk g m 1 y [.map (some ae),Sl ag n ah,Sl ai o aj,.func (.func 52) #[] [Pt aa 0].toArray] 134∧Bk g m 3 aa [I p,I q] 63) au ?_ ?_
 exact ⟨_,d,0,am,bk,bl,an,bm,bn,af.why,af.at_,Pu,c,(AS.refl [1,3,4,20] _ _),az,a0,bf,bh⟩
 rintro l _ m ⟨a4,g,x93,n,ag,ah,o,ai,aj,p,q,rfl,c,ak,a5,a6,a7,a8⟩
 rcases l with _|l
 exact A5 c
 refine have c:Ew w z h f (Dy w z h f l) x93 n o p q=some ab:=c; ?_
 obtain ⟨cw,a9⟩:∃s,s=Dy w z h f l:=⟨_,rfl⟩
 rw [←a9,Ew] at c
 refine Sr<|Vr (.bool (decide (x93< (f.length:Int))))<|AA<|AR<|Cn c (fun bu c=>?_) fun bu c=>?_
 refine WC.skip<|AR<|Af<|Sr<|Bi c fun a bv c=>have bw:=Ss AH ao ak; ?_
 obtain ⟨bx,bz,cx,b0,b1,b2,b3,b4,ap⟩:=A8 (κ:=AH) bw bv
 replace ap:Ax g m bx (bz+x93.toNat*7) b0:=ap
 obtain ⟨aq,ar,rfl,ba⟩:=E1 (Ae b4)
 refine Vx (Ix CH b1 Z b2 b3)<|Vx (Lx A9 Z Z (Ax.part0 ap [I a.op,Sb a.name,Sb a.tail,I a.type_,Cx a.num,Sl aq a.args ar,I a.at_] Z))<|Ef<|AY g 20 De Z fun b5 cz c0 b6 r=>have b7:=Ss AH ba r;Eu<|St D1 b6 Z Z Z Z fun b8 b9 u=>AA<|AL<|Vm<|Vx (Lx A9 Z Z (Bw b9))<|Vm<|have ca:=Y2 a7 r u;have cb:=K2 AI a5 r u;have cc:=Os (Os a6 r) u;have cd:=Ms (Ms (Ms bg ak) r) u;have cf:=Y2 a8 r u;have cg:=Ss AH b7 u;Bi c fun al ch c=>Ca (Cg [Pt y 0,Ag [I a.op,Sb a.name,Sb a.tail,I a.type_,Cx a.num,Sl aq a.args ar,I a.at_],I h] Z) (bd.types_checker_want b5 b8 (ko0_2:=4) ch dcd dcd ca cb cc cd cf (Ak (x:=(AD.mk p q))) (AW (x:=a) cg)) ?_
 rintro _ c1 ⟨ci,c2,c3,c4,rfl,cj,ck,bb,bc,cl,cm⟩
 obtain ⟨cn,co,rfl⟩:=AT bb
 obtain ⟨cq,cr,rfl⟩:=Own.len bc
 obtain rfl:=As cm
 refine AA<|AL<|Vr (I (Wr (x93+1)))<|Vm<|AA<|⟨l,Nat.lt_succ_self l,_,ci,(Wr (x93+1)),al.1,cn,co,al.2.1,cq,cr,al.2.2.why,al.2.2.at_,Pu,(a9▸c),(T3 (Mo [1,3,4,20] ak) r u cj),bb,bc,ck,cl⟩
 refine Ba ?_
 obtain rfl:=AK c
 refine M9 (B:=B) bq<|M8 Z<|⟨g,Sl ag n ah,Sl ai o aj,[I p,I q],Z,Ho (Mo [1,3,4,20] ak) be,a7,a5,a6,a8,(Ak (x:=(AD.mk p q)))⟩
theorem Om(e:AG)(g:Nat)(o:AG.Good e):types_checker_all.Spec (Jw e g):=by
 intro f h ai a aj ak al am ko0_2 an c ao ap d aq ar au av aw ax p hnd hnz l q r s m u w
 refine Calls.mono (Ol e g o (recol (see [a,c,d,ko0_2]) f) h (Fa (Nat.le_of_ble_eq_true Z) f) (BU l [a,c,d,ko0_2] (BP hnd hnz (i:=0) Z)) (Eo AI q [a,c,d,ko0_2]) (Im r [a,c,d,ko0_2] (BP hnd hnz (i:=3) Z)) (Fs s [a,c,d,ko0_2] (BP hnd hnz (i:=1) Z)) (BU m [a,c,d,ko0_2] (BP hnd hnz (i:=2) Z)) (BY An u [a,c,d,ko0_2]) (Eo AH w [a,c,d,ko0_2]) p) ?_
 rintro ay az ⟨y,z,aa,ab,ac,n,ad,ae,af,ag,ah⟩
 exact ⟨glue [a,c,d,ko0_2] h f y,z,aa,ab,ac,CA n (Fb Z Z),ED l ad dcd,HO AI ae,Jz (j:=3) af Z Z n,ED m ag dcd,Dm An ah⟩
theorem PJ(ak:AG)(bc:Nat)(bd:AG.Good ak)(a:Col)(c:World)(be:∀b,a b<10){p:Nat}{ab:(List AO)}{al:Value}{g:(List AJ)}{am:Value}{n:Nat}{an:Aq}{h:Nat}{ac:AD}{ao:List Value}{ad ae:Nat}{af:AE}{ap:List Value}{ag:Nat}{aq:Int}{q:(List AJ)}{ar:Value}{r:(List AO)×(List AJ)×AD}(ah:Bk a c 1 p [.map (some n),al,am,.func (.func 52) #[] [Pt h 0].toArray] 134)(au:Slc AI a.F c al ab)(ai:Own Ab 87 a c 7 am g)(bf:Mp a c 2 n an)(bg:Bk a c 3 h ao 63)(bh:An.rep a.F c ao ac)(bi:Bk a c 4 ad [Pt p 0] 130)(bj:Bk a c 5 ae ap 56)(bk:AH.rep a.F c ap af)(bl:Bk a c 6 ag [I aq] 34)(av:Slc Ab a.F c ar q)(f:HX ak bc ab g an ac af aq q=some r):
  Calls PG 83 #[Pt p 0,.func (.func 84) #[] [Pt ad 0,Pt ae 0,Pt ag 0].toArray,ar] c fun bm l=>∃m aw ax ay,bm=.returned (.tuple #[])∧AS [1,3,7] a c m l∧Bk m l 1 p [.map (some n),aw,ax,.func (.func 52) #[] [Pt h 0].toArray] 134∧Slc AI m.F l aw r.1∧Own Ab 87 m l 7 ax r.2.1∧Bk m l 3 h ay 63∧An.rep m.F l ay r.2.2:=by
 rw [HX] at f
 obtain ⟨bn,bo,rfl⟩:=AT au
 obtain ⟨ck,cl,rfl⟩:=Own.len ai
 obtain rfl:=As bh
 obtain ⟨cn,co,rfl,az⟩:=E1 (Ae bk)
 obtain ⟨cq,cr,rfl⟩:=AT av
 refine Ay Tryz.func83 Z Tryz.ntmps83 Z fun B bp ct=>Sr<|Vm<|Vx (Nc Z)<|Vx (Fd Fk Z)<|Vx (Ld Ey Z (Bc ah Z)) ?_
 obtain ⟨cu,cv,bq⟩:=Own.len ai
 refine Vx (v:=I (g.length:Int)) (Ll D9 bq)<|Va (I (g.length:Int))<|AA<|Sr<|Vm<|Vm<|Vx (Nc Z)<|Vx (Fd Fk Z)<|Vx (Ld Ey Z (Bc ah Z))<|Vm<|Bi f fun cw a0 f=>Ef<|Bu (κ:=Ab) Z Z ai dcd P7 (IU av) (Et a0) (E6 a0) fun cx br cy aj d=>?_
 obtain ⟨a1,a2,rfl⟩:=Own.len aj
 refine Vx (Nc Z)<|Vx (Fd Fk Z)<|have bt:=Bs ah d;Eu<|Bv (vs:=[Sl a1 ((g++q)) a2]) (cs':=[.map (some n),Sl bn ab bo,Sl a1 ((g++q)) a2,.func (.func 52) #[] [Pt h 0].toArray]) O6 Z Z Z Z (AX (Own.one aj) CJ) bt dcd Z Z fun bu bv e=>AA<|Sr<|Vm<|have bw:=Y2 bi d e;have bx:=K2 AI au d e;have bz:=Os aj e;have b0:=Ms (Ms bf d) e;have b1:=Y2 bg d e;have b2:=Y2 bj d e;have b3:=K2 AH az d e;have b4:=Y2 bl d e;Bi f fun o b5 f=>Ca (ABf (vs:=[]) (caps:=[Pt ad 0,Pt ae 0,Pt ag 0]) Z Z) (bd.types_checker_want_1 br bu (ko1_2:=7) b5 dcd dcd bw bv bx bz b0 b1 (Ak (x:=ac)) b2 (AW (x:=af) b3) b4) ?_
 rintro _ cz ⟨b6,c0,c1,c2,rfl,b7,a3,a4,a5,b8,b9⟩
 obtain ⟨a6,a7,rfl⟩:=AT a4
 obtain ⟨c3,c4,rfl⟩:=Own.len a5
 obtain rfl:=As b9
 refine AA<|AL<|Vm<|Vm<|Vx (Nc Z)<|Vx (Fd Fk Z)<|Vx (Ld Ey Z (Bc a3 Z))<|Vm<|Bi f fun u a8 f=>?_
 obtain ⟨a9,ba,ca,cb,w⟩:=Own.sub a5 a8
 obtain ⟨c5,bb⟩:∃s,s=Value.slice (if ba=(0:Int).toNat then a9 else a9.map (·.add ((0:Int).toNat*Ab.size))) ((g.length:Int).toNat - (0:Int).toNat) (ba - (0:Int).toNat):=⟨_,rfl⟩
 rw [←bb] at w
 obtain ⟨cc,cd,cf,_⟩:=Lu a8
 obtain ⟨y,z,rfl⟩:=Own.len w
 refine Vx (v:=.slice y u.length z) (by rw [bb];exact Run.sliceSlc D9 ca Z ⟨_,Z⟩ cc cd cf cb)<|Vx (Nc Z)<|Vx (Fd Fk Z)<|Eu<|Bv (vs:=[Sl y u z]) (cs':=[.map (some n),Sl a6 o.1 a7,Sl y u z,.func (.func 52) #[] [Pt h 0].toArray]) O6 Z Z Z Z (AX (Own.one w) CJ) a3 dcd Z Z fun c6 cg aa=>AA ?_
 obtain rfl:=AK f
 refine M9 (B:=B) bp<|M8 Z<|have ch:=Ss AI a4 aa;have ci:=Os w aa;have cj:=Bs b8 aa;⟨b6,Sl a6 o.1 a7,Sl y u z,[I o.2.2.why,I o.2.2.at_],Z,Ho (T3 (Mo [1,3,7] d) e b7 aa) be,cg,ch,ci,cj,(Ak (x:=o.2.2))⟩
theorem PK(h:AG)(m:Nat)(r:AG.Good h):types_checker_in.Spec (HX h m):=by
 intro l n ap a aq ar au av ko0_2 aw c ax ay d az a0 a1 e a2 f a3 a4 a5 g a6 a7 a8 a9 s hnd hnz o u w y p z aa ab ac ad ae
 refine Calls.mono (PJ h m r (recol (see [a,c,d,e,f,g,ko0_2]) l) n (Fa (Nat.le_of_ble_eq_true Z) l) (BU o [a,c,d,e,f,g,ko0_2] (BP hnd hnz (i:=0) Z)) (Eo AI u [a,c,d,e,f,g,ko0_2]) (Im w [a,c,d,e,f,g,ko0_2] (BP hnd hnz (i:=6) Z)) (Fs y [a,c,d,e,f,g,ko0_2] (BP hnd hnz (i:=1) Z)) (BU p [a,c,d,e,f,g,ko0_2] (BP hnd hnz (i:=2) Z)) (BY An z [a,c,d,e,f,g,ko0_2]) (BU aa [a,c,d,e,f,g,ko0_2] (BP hnd hnz (i:=3) Z)) (BU ab [a,c,d,e,f,g,ko0_2] (BP hnd hnz (i:=4) Z)) (BY AH ac [a,c,d,e,f,g,ko0_2]) (BU ad [a,c,d,e,f,g,ko0_2] (BP hnd hnz (i:=5) Z)) (Eo Ab ae [a,c,d,e,f,g,ko0_2]) s) ?_
 rintro ba bb ⟨af,ag,ah,ai,aj,q,ak,al,am,an,ao⟩
 exact ⟨glue [a,c,d,e,f,g,ko0_2] n l af,ag,ah,ai,aj,CA q (Fb Z Z),ED o ak dcd,HO AI al,Jz (j:=6) am Z Z q,ED p an dcd,Dm An ao⟩
theorem OB(ak:AG)(bc:Nat)(bd:AG.Good ak)(a:Col)(c:World)(be:∀b,a b<10){p:Nat}{ab:(List AO)}{al:Value}{g:(List AJ)}{am:Value}{n:Nat}{an:Aq}{h:Nat}{ac:AD}{ao:List Value}{ad ae:Nat}{af:AE}{ap:List Value}{ag:Nat}{aq:Int}{q:(List AJ)}{ar:Value}{r:(List AO)×(List AJ)×AD}(ah:Bk a c 1 p [.map (some n),al,am,.func (.func 52) #[] [Pt h 0].toArray] 134)(au:Slc AI a.F c al ab)(ai:Own Ab 87 a c 7 am g)(bf:Mp a c 2 n an)(bg:Bk a c 3 h ao 63)(bh:An.rep a.F c ao ac)(bi:Bk a c 4 ad [Pt p 0] 130)(bj:Bk a c 5 ae ap 56)(bk:AH.rep a.F c ap af)(bl:Bk a c 6 ag [I aq] 34)(av:Slc Ab a.F c ar q)(f:GR ak bc ab g an ac af aq q=some r):
  Calls PG 83 #[Pt p 0,.func (.func 85) #[] [Pt ad 0,Pt ae 0,Pt ag 0].toArray,ar] c fun bm l=>∃m aw ax ay,bm=.returned (.tuple #[])∧AS [1,3,7] a c m l∧Bk m l 1 p [.map (some n),aw,ax,.func (.func 52) #[] [Pt h 0].toArray] 134∧Slc AI m.F l aw r.1∧Own Ab 87 m l 7 ax r.2.1∧Bk m l 3 h ay 63∧An.rep m.F l ay r.2.2:=by
 rw [GR] at f
 obtain ⟨bn,bo,rfl⟩:=AT au
 obtain ⟨ck,cl,rfl⟩:=Own.len ai
 obtain rfl:=As bh
 obtain ⟨cn,co,rfl,az⟩:=E1 (Ae bk)
 obtain ⟨cq,cr,rfl⟩:=AT av
 refine Ay Tryz.func83 Z Tryz.ntmps83 Z fun B bp ct=>Sr<|Vm<|Vx (Nc Z)<|Vx (Fd Fk Z)<|Vx (Ld Ey Z (Bc ah Z)) ?_
 obtain ⟨cu,cv,bq⟩:=Own.len ai
 refine Vx (v:=I (g.length:Int)) (Ll D9 bq)<|Va (I (g.length:Int))<|AA<|Sr<|Vm<|Vm<|Vx (Nc Z)<|Vx (Fd Fk Z)<|Vx (Ld Ey Z (Bc ah Z))<|Vm<|Bi f fun cw a0 f=>Ef<|Bu (κ:=Ab) Z Z ai dcd P7 (IU av) (Et a0) (E6 a0) fun cx br cy aj d=>?_
 obtain ⟨a1,a2,rfl⟩:=Own.len aj
 refine Vx (Nc Z)<|Vx (Fd Fk Z)<|have bt:=Bs ah d;Eu<|Bv (vs:=[Sl a1 ((g++q)) a2]) (cs':=[.map (some n),Sl bn ab bo,Sl a1 ((g++q)) a2,.func (.func 52) #[] [Pt h 0].toArray]) O6 Z Z Z Z (AX (Own.one aj) CJ) bt dcd Z Z fun bu bv e=>AA<|Sr<|Vm<|have bw:=Y2 bi d e;have bx:=K2 AI au d e;have bz:=Os aj e;have b0:=Ms (Ms bf d) e;have b1:=Y2 bg d e;have b2:=Y2 bj d e;have b3:=K2 AH az d e;have b4:=Y2 bl d e;Bi f fun o b5 f=>Ca (ABg (vs:=[]) (caps:=[Pt ad 0,Pt ae 0,Pt ag 0]) Z Z) (bd.types_checker_want_2 br bu (ko1_2:=7) b5 dcd dcd bw bv bx bz b0 b1 (Ak (x:=ac)) b2 (AW (x:=af) b3) b4) ?_
 rintro _ cz ⟨b6,c0,c1,c2,rfl,b7,a3,a4,a5,b8,b9⟩
 obtain ⟨a6,a7,rfl⟩:=AT a4
 obtain ⟨c3,c4,rfl⟩:=Own.len a5
 obtain rfl:=As b9
 refine AA<|AL<|Vm<|Vm<|Vx (Nc Z)<|Vx (Fd Fk Z)<|Vx (Ld Ey Z (Bc a3 Z))<|Vm<|Bi f fun u a8 f=>?_
 obtain ⟨a9,ba,ca,cb,w⟩:=Own.sub a5 a8
 obtain ⟨c5,bb⟩:∃s,s=Value.slice (if ba=(0:Int).toNat then a9 else a9.map (·.add ((0:Int).toNat*Ab.size))) ((g.length:Int).toNat - (0:Int).toNat) (ba - (0:Int).toNat):=⟨_,rfl⟩
 rw [←bb] at w
 obtain ⟨cc,cd,cf,_⟩:=Lu a8
 obtain ⟨y,z,rfl⟩:=Own.len w
 refine Vx (v:=.slice y u.length z) (by rw [bb];exact Run.sliceSlc D9 ca Z ⟨_,Z⟩ cc cd cf cb)<|Vx (Nc Z)<|Vx (Fd Fk Z)<|Eu<|Bv (vs:=[Sl y u z]) (cs':=[.map (some n),Sl a6 o.1 a7,Sl y u z,.func (.func 52) #[] [Pt h 0].toArray]) O6 Z Z Z Z (AX (Own.one w) CJ) a3 dcd Z Z fun c6 cg aa=>AA ?_
 obtain rfl:=AK f
 refine M9 (B:=B) bp<|M8 Z<|have ch:=Ss AI a4 aa;have ci:=Os w aa;have cj:=Bs b8 aa;⟨b6,Sl a6 o.1 a7,Sl y u z,[I o.2.2.why,I o.2.2.at_],Z,Ho (T3 (Mo [1,3,7] d) e b7 aa) be,cg,ch,ci,cj,(Ak (x:=o.2.2))⟩
theorem OC(h:AG)(m:Nat)(r:AG.Good h):types_checker_in_2.Spec (GR h m):=by
 intro l n ap a aq ar au av ko0_2 aw c ax ay d az a0 a1 e a2 f a3 a4 a5 g a6 a7 a8 a9 s hnd hnz o u w y p z aa ab ac ad ae
 refine Calls.mono (OB h m r (recol (see [a,c,d,e,f,g,ko0_2]) l) n (Fa (Nat.le_of_ble_eq_true Z) l) (BU o [a,c,d,e,f,g,ko0_2] (BP hnd hnz (i:=0) Z)) (Eo AI u [a,c,d,e,f,g,ko0_2]) (Im w [a,c,d,e,f,g,ko0_2] (BP hnd hnz (i:=6) Z)) (Fs y [a,c,d,e,f,g,ko0_2] (BP hnd hnz (i:=1) Z)) (BU p [a,c,d,e,f,g,ko0_2] (BP hnd hnz (i:=2) Z)) (BY An z [a,c,d,e,f,g,ko0_2]) (BU aa [a,c,d,e,f,g,ko0_2] (BP hnd hnz (i:=3) Z)) (BU ab [a,c,d,e,f,g,ko0_2] (BP hnd hnz (i:=4) Z)) (BY AH ac [a,c,d,e,f,g,ko0_2]) (BU ad [a,c,d,e,f,g,ko0_2] (BP hnd hnz (i:=5) Z)) (Eo Ab ae [a,c,d,e,f,g,ko0_2]) s) ?_
 rintro ba bb ⟨af,ag,ah,ai,aj,q,ak,al,am,an,ao⟩
 exact ⟨glue [a,c,d,e,f,g,ko0_2] n l af,ag,ah,ai,aj,CA q (Fb Z Z),ED o ak dcd,HO AI al,Jz (j:=6) am Z Z q,ED p an dcd,Dm An ao⟩
theorem OD(ak:AG)(bc:Nat)(bd:AG.Good ak)(a:Col)(c:World)(be:∀b,a b<10){p:Nat}{ab:(List AO)}{al:Value}{g:(List AJ)}{am:Value}{n:Nat}{an:Aq}{h:Nat}{ac:AD}{ao:List Value}{ad ae:Nat}{af:AE}{ap:List Value}{ag:Nat}{aq:Int}{q:(List AJ)}{ar:Value}{r:(List AO)×(List AJ)×AD}(ah:Bk a c 1 p [.map (some n),al,am,.func (.func 52) #[] [Pt h 0].toArray] 134)(au:Slc AI a.F c al ab)(ai:Own Ab 87 a c 7 am g)(bf:Mp a c 2 n an)(bg:Bk a c 3 h ao 63)(bh:An.rep a.F c ao ac)(bi:Bk a c 4 ad [Pt p 0] 130)(bj:Bk a c 5 ae ap 56)(bk:AH.rep a.F c ap af)(bl:Bk a c 6 ag [I aq] 34)(av:Slc Ab a.F c ar q)(f:GS ak bc ab g an ac af aq q=some r):
  Calls PG 83 #[Pt p 0,.func (.func 86) #[] [Pt ad 0,Pt ae 0,Pt ag 0].toArray,ar] c fun bm l=>∃m aw ax ay,bm=.returned (.tuple #[])∧AS [1,3,7] a c m l∧Bk m l 1 p [.map (some n),aw,ax,.func (.func 52) #[] [Pt h 0].toArray] 134∧Slc AI m.F l aw r.1∧Own Ab 87 m l 7 ax r.2.1∧Bk m l 3 h ay 63∧An.rep m.F l ay r.2.2:=by
 rw [GS] at f
 obtain ⟨bn,bo,rfl⟩:=AT au
 obtain ⟨ck,cl,rfl⟩:=Own.len ai
 obtain rfl:=As bh
 obtain ⟨cn,co,rfl,az⟩:=E1 (Ae bk)
 obtain ⟨cq,cr,rfl⟩:=AT av
 refine Ay Tryz.func83 Z Tryz.ntmps83 Z fun B bp ct=>Sr<|Vm<|Vx (Nc Z)<|Vx (Fd Fk Z)<|Vx (Ld Ey Z (Bc ah Z)) ?_
 obtain ⟨cu,cv,bq⟩:=Own.len ai
 refine Vx (v:=I (g.length:Int)) (Ll D9 bq)<|Va (I (g.length:Int))<|AA<|Sr<|Vm<|Vm<|Vx (Nc Z)<|Vx (Fd Fk Z)<|Vx (Ld Ey Z (Bc ah Z))<|Vm<|Bi f fun cw a0 f=>Ef<|Bu (κ:=Ab) Z Z ai dcd P7 (IU av) (Et a0) (E6 a0) fun cx br cy aj d=>?_
 obtain ⟨a1,a2,rfl⟩:=Own.len aj
 refine Vx (Nc Z)<|Vx (Fd Fk Z)<|have bt:=Bs ah d;Eu<|Bv (vs:=[Sl a1 ((g++q)) a2]) (cs':=[.map (some n),Sl bn ab bo,Sl a1 ((g++q)) a2,.func (.func 52) #[] [Pt h 0].toArray]) O6 Z Z Z Z (AX (Own.one aj) CJ) bt dcd Z Z fun bu bv e=>AA<|Sr<|Vm<|have bw:=Y2 bi d e;have bx:=K2 AI au d e;have bz:=Os aj e;have b0:=Ms (Ms bf d) e;have b1:=Y2 bg d e;have b2:=Y2 bj d e;have b3:=K2 AH az d e;have b4:=Y2 bl d e;Bi f fun o b5 f=>Ca (ABh (vs:=[]) (caps:=[Pt ad 0,Pt ae 0,Pt ag 0]) Z Z) (bd.types_checker_want_3 br bu (ko1_2:=7) b5 dcd dcd bw bv bx bz b0 b1 (Ak (x:=ac)) b2 (AW (x:=af) b3) b4) ?_
 rintro _ cz ⟨b6,c0,c1,c2,rfl,b7,a3,a4,a5,b8,b9⟩
 obtain ⟨a6,a7,rfl⟩:=AT a4
 obtain ⟨c3,c4,rfl⟩:=Own.len a5
 obtain rfl:=As b9
 refine AA<|AL<|Vm<|Vm<|Vx (Nc Z)<|Vx (Fd Fk Z)<|Vx (Ld Ey Z (Bc a3 Z))<|Vm<|Bi f fun u a8 f=>?_
 obtain ⟨a9,ba,ca,cb,w⟩:=Own.sub a5 a8
 obtain ⟨c5,bb⟩:∃s,s=Value.slice (if ba=(0:Int).toNat then a9 else a9.map (·.add ((0:Int).toNat*Ab.size))) ((g.length:Int).toNat - (0:Int).toNat) (ba - (0:Int).toNat):=⟨_,rfl⟩
 rw [←bb] at w
 obtain ⟨cc,cd,cf,_⟩:=Lu a8
 obtain ⟨y,z,rfl⟩:=Own.len w
 refine Vx (v:=.slice y u.length z) (by rw [bb];exact Run.sliceSlc D9 ca Z ⟨_,Z⟩ cc cd cf cb)<|Vx (Nc Z)<|Vx (Fd Fk Z)<|Eu<|Bv (vs:=[Sl y u z]) (cs':=[.map (some n),Sl a6 o.1 a7,Sl y u z,.func (.func 52) #[] [Pt h 0].toArray]) O6 Z Z Z Z (AX (Own.one w) CJ) a3 dcd Z Z fun c6 cg aa=>AA ?_
 obtain rfl:=AK f
 refine M9 (B:=B) bp<|M8 Z<|have ch:=Ss AI a4 aa;have ci:=Os w aa;have cj:=Bs b8 aa;⟨b6,Sl a6 o.1 a7,Sl y u z,[I o.2.2.why,I o.2.2.at_],Z,Ho (T3 (Mo [1,3,7] d) e b7 aa) be,cg,ch,ci,cj,(Ak (x:=o.2.2))⟩
theorem OE(h:AG)(m:Nat)(r:AG.Good h):types_checker_in_3.Spec (GS h m):=by
 intro l n ap a aq ar au av ko0_2 aw c ax ay d az a0 a1 e a2 f a3 a4 a5 g a6 a7 a8 a9 s hnd hnz o u w y p z aa ab ac ad ae
 refine Calls.mono (OD h m r (recol (see [a,c,d,e,f,g,ko0_2]) l) n (Fa (Nat.le_of_ble_eq_true Z) l) (BU o [a,c,d,e,f,g,ko0_2] (BP hnd hnz (i:=0) Z)) (Eo AI u [a,c,d,e,f,g,ko0_2]) (Im w [a,c,d,e,f,g,ko0_2] (BP hnd hnz (i:=6) Z)) (Fs y [a,c,d,e,f,g,ko0_2] (BP hnd hnz (i:=1) Z)) (BU p [a,c,d,e,f,g,ko0_2] (BP hnd hnz (i:=2) Z)) (BY An z [a,c,d,e,f,g,ko0_2]) (BU aa [a,c,d,e,f,g,ko0_2] (BP hnd hnz (i:=3) Z)) (BU ab [a,c,d,e,f,g,ko0_2] (BP hnd hnz (i:=4) Z)) (BY AH ac [a,c,d,e,f,g,ko0_2]) (BU ad [a,c,d,e,f,g,ko0_2] (BP hnd hnz (i:=5) Z)) (Eo Ab ae [a,c,d,e,f,g,ko0_2]) s) ?_
 rintro ba bb ⟨af,ag,ah,ai,aj,q,ak,al,am,an,ao⟩
 exact ⟨glue [a,c,d,e,f,g,ko0_2] n l af,ag,ah,ai,aj,CA q (Fb Z Z),ED o ak dcd,HO AI al,Jz (j:=6) am Z Z q,ED p an dcd,Dm An ao⟩
end Fth
