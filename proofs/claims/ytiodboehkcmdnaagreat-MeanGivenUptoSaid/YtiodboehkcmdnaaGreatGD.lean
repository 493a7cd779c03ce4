/- Part 4 of the proof: what it says holds of the given program; no condition. -/
import Derived.Test.YtiodboehkcmdnaaGreatProg
import Derived.KernelRfl
import Derived.Test.YtiodboehkcmdnaaGreatGC
set_option linter.all false
set_option exponentiation.threshold 3000
namespace Fth
open Go Go.Proofs Sh
set_option maxRecDepth 100000
set_option maxHeartbeats 8000000
theorem Ol(r:Nat)(c7:Col)(er:World)(es:∀b,c7 b<10):Cp.At True True c7 er (Cp r) 1:=by
 intro e u ji dy av a _ _ c8 et
 rw [Cp] at a
 obtain ⟨eu,ew,rfl,b2⟩:=E1 (AX et)
 refine Ay Tryz.func74 rfl Tryz.ntmps74 rfl fun B ex c=>Sr<|Ef<|AU c7 20 Fs rfl fun c9 da a1 ey a2=>AA<|An (fun w bk=>∃m bl bb db dc b3 x63 b4 b5 b6 b7 b8 b9,w=Env.puts m [(0,Pt e 0),(4,Pt a1 0)]∧D2 r bb b3 x63 b4 b5 b6 b7 b8 b9=some av∧AS [1] c9 da bl bk∧Slc Ac bl.F bk (Sl db bb dc) bb∧Bk bl bk 1 e [Sl db bb dc,I b3,I x63,I b4,I b5,I b6,I b7,I b8,I b9] 126) ?_ ?_
 refine An (fun w de=>∃m ca df,w=Env.puts m [(0,Pt e 0),(4,Pt a1 0),(21,.bool df)]∧D3 r u df=some av∧AS [] c9 da ca de) ?_ ?_
 refine AM<|Vm<|have dz:=Bs c8 a2;have ez:=Ss Ac b2 a2;Bi a fun bc e0 a=>Ca (Cg [Pt e 0] rfl) (CN c9 da e0 dcd dcd dz (AO (x:=u) ez)) ?_
 rintro _ jk ⟨d0,jl,rfl,dg,e1⟩
 obtain rfl:=DB e1
 refine Vx (v:=I bc.kind) (Js (cs:=[I bc.kind,Sb bc.text,Cx bc.num,I bc.at_]) Qj rfl rfl)<|Vr (.bool (bc.kind==0))<|Vm<|Bo a (fun p a=>?_) fun p a=>?_
 refine Gm p<|Gm p<|Gx p (Nc rfl)<|Gx p (Fd Qh rfl)<|Gx p (Fd YC rfl)<|have e2:=Bs dz dg;Gx p (Ld CD rfl (Bc e2 rfl))<|Gr p (.bool (decide (dy≥u.l.funcs)))<|Vp p<|AA<|⟨_,d0,(decide (dy≥u.l.funcs)),Pu,a,(Mo [] dg)⟩
 refine Pg p<|Pg p<|Pg p<|Pg p<|Pg p<|Pg p<|Pg p<|Vp p<|AA<|⟨_,d0,false,Pu,a,(Mo [] dg)⟩
 rintro _ de ⟨m,ca,df,rfl,a,bd⟩
 rw [D3] at a
 refine Cn a (fun e3 a=>?_) fun e3 a=>?_
 refine AM<|Vm<|have e4:=Y2 c8 a2 bd;have e5:=K2 Ac b2 a2 bd;Bi a fun ad e6 a=>Ca (Cg [Pt e 0,I 22] rfl) (E4 ca de e6 dcd dcd e4 (AO (x:=u) e5)) ?_
 rintro _ jm ⟨e7,jn,rfl,e8,e9,fa⟩
 obtain ⟨fb,fc,rfl,d1⟩:=E1 (AX fa)
 refine AA<|⟨_,e7,ad.marks,fb,fc,ad.at_,ad.why,ad.where_,ad.l.text,ad.l.funcs,ad.l.arity,ad.l.nest,ad.nest,Pu,a,(Tn (Mo [1] bd) e8),d1,e9⟩
 refine WC.skip<|have fd:=K2 Ac b2 a2 bd;have fe:=Y2 c8 a2 bd;⟨_,ca,u.marks,eu,ew,u.at_,u.why,u.where_,u.l.text,u.l.funcs,u.l.arity,u.l.nest,u.nest,Pu,a,(Mo [1] bd),fd,fe⟩
 rintro _ bk ⟨m,bl,bb,db,dc,b3,x63,b4,b5,b6,b7,b8,b9,rfl,a,d2,ff,fg⟩
 rw [D2] at a
 refine Sr<|Vm<|Bi a fun h fh a=>Ca (Cg [Pt e 0] rfl) (Ht bl bk fh dcd dcd fg (AO (x:=(AD.mk bb b3 x63 b4 (Ae.mk b5 b6 b7 b8) b9)) ff)) ?_
 rintro _ jp ⟨fi,jq,jr,rfl,d3,fj,fk,fl⟩
 obtain rfl:=DB fj
 obtain ⟨jt,ju,rfl,d4⟩:=E1 (AX fl)
 refine Ef<|AU fi 21 Gs rfl fun fm jv jw fn cb=>Eu<|St G7 fn rfl rfl rfl rfl fun jx d5 cc=>AA<|Sr<|Vx (Fd FT rfl)<|Vx (Ld CS rfl (Bc d5 rfl))<|Vx (Fd LI rfl)<|Vx (Ld CD rfl (Bc d5 rfl))<|Vx (v:=Ag [Sb h.1.text,.slice none 0 0,I 0,I 0,Sb ([]:Bts),Sb ([]:Bts),I 0,Cx (((0,0):Nat×Nat)),.slice none 0 0,I 0,I h.1.at_]) (Bp Fs Wm rfl (.cons rfl rfl rfl (.cons rfl rfl rfl .nil)))<|Ef<|AU fm 22 Fs rfl fun fo jy be fp cd=>Eu<|St LD fp rfl rfl rfl rfl fun fq fr cf=>AA<|Sr<|Vm<|have fs:=Y4 fk cb cc cd cf;have ft:=K4 Ac d4 cb cc cd cf;Bi a fun ae fu a=>Ca (Cg [Pt e 0,Sb ([40]:Bts)] rfl) (BP fo fq fu dcd dcd fs (AO (x:=h.2) ft)) ?_
 rintro _ fv ⟨d6,jz,rfl,dh,fw,fx⟩
 obtain ⟨fy,fz,rfl,d7⟩:=E1 (AX fx)
 refine AA<|AY<|Ad<|Bj (fun aw w ax=>∃m af y cg ch ag aa ah ai aj ak al am g ay az,w=Env.puts m [(0,Pt e 0),(4,Pt a1 0),(6,Pt be 0)]∧BY r h aw y ag aa ah ai aj ak al am g=some av∧AS [1,22,23,25] d6 fv af ax∧Slc Ac af.F ax (Sl cg y ch) y∧Own Aa 87 af ax 25 (Sl ay g az) g∧Bk af ax 1 e [Sl cg y ch,I ag,I aa,I ah,I ai,I aj,I ak,I al,I am] 126∧Bk af ax 22 be [Sb h.1.text,Sl ay g az,I 0,I 0,Sb ([]:Bts),Sb ([]:Bts),I 0,Cx (((0,0):Nat×Nat)),.slice none 0 0,I 0,I h.1.at_] 58) r ?_ ?_
 refine have f0:=Bs fr dh;⟨_,d6,ae.marks,fy,fz,ae.at_,ae.why,ae.where_,ae.l.text,ae.l.funcs,ae.l.arity,ae.l.nest,ae.nest,([]:List AK),none,0,Pu,a,(AS.refl [1,22,23,25] _ _),d7,Own.nil,fw,f0⟩
 rintro aw _ ax ⟨m,af,y,cg,ch,ag,aa,ah,ai,aj,ak,al,am,g,ay,az,rfl,a,di,ci,cj,bm,ck⟩
 rcases aw with _|aw
 exact A6 a
 refine have a:DG r h (BY r h aw) y ag aa ah ai aj ak al am g=some av:=a; ?_
 obtain ⟨cl,d8⟩:∃s,s=BY r h aw:=⟨_,rfl⟩
 rw [←d8,DG] at a
 refine AY<|An (fun w bn=>∃m bf dj,w=Env.puts m [(0,Pt e 0),(4,Pt a1 0),(6,Pt be 0),(42,.bool dj)]∧DU r h y ag aa ah ai aj ak al am g cl dj=some av∧AS [] af ax bf bn) ?_ ?_
 refine AM<|Vm<|Vx (Nc rfl)<|Vx (Fd Iz rfl)<|Vx (Ld CD rfl (Bc bm rfl))<|Vr (.bool (aa==0))<|Vm<|Bo a (fun an a=>?_) fun an a=>?_
 refine Gm an<|Bi a fun d9 f1 a=>B7 (.guard (t:=true) (b:=true) rfl rfl rfl rfl (Cb an)) rfl rfl (Cg [Pt e 0,Sb ([41]:Bts)] rfl)<|Calls.mono (Cs af ax f1 dcd dcd bm (AO (x:=(AD.mk y ag aa ah (Ae.mk ai aj ak al) am)) ci)) ?_
 rintro _ j1 ⟨f2,rfl,f3⟩
 refine ⟨_,rfl,?_⟩
 refine Gr an (.bool (!d9))<|Vp an<|AA<|⟨_,f2,(!d9),Pu,a,(Mo [] f3)⟩
 refine Pg an<|Pg an<|Pg an<|Vp an<|AA<|⟨_,af,false,Pu,a,Rf⟩
 rintro _ bn ⟨m,bf,dj,rfl,a,q⟩
 rw [DU] at a
 refine Cn a (fun f4 a=>?_) fun f4 a=>?_
 refine WC.skip<|Ad<|An (fun w bg=>∃m ao ap cm cn a3 aq a4 a5 a6 ab a7 a8,w=Env.puts m [(0,Pt e 0),(4,Pt a1 0),(6,Pt be 0)]∧D1 r g cl ap a3 aq a4 a5 a6 ab a7 a8=some av∧AS [1] bf bn ao bg∧Slc Ac ao.F bg (Sl cm ap cn) ap∧Bk ao bg 1 e [Sl cm ap cn,I a3,I aq,I a4,I a5,I a6,I ab,I a7,I a8] 126) ?_ ?_
 refine Sr<|Vx (Fd Eh rfl)<|have f5:=Bs ck q;Vx (Ld E0 rfl (Bc f5 rfl))<|have f6:=Os cj q; ?_
 obtain ⟨j2,j3,f7⟩:=Own.len f6
 refine Vx (v:=I (g.length:Int)) (Ll ED f7)<|Vr (.bool (decide ((g.length:Int)>0)))<|AA<|Cn a (fun f8 a=>?_) fun f8 a=>?_
 refine AM<|Vm<|have f9:=Bs bm q;have ga:=Ss Ac ci q;Bi a fun ar gb a=>Ca (Cg [Pt e 0,Sb ([44]:Bts)] rfl) (BP bf bn gb dcd dcd f9 (AO (x:=(AD.mk y ag aa ah (Ae.mk ai aj ak al) am)) ga)) ?_
 rintro _ j4 ⟨gc,j5,rfl,gd,ge,gf⟩
 obtain ⟨gg,gh,rfl,ea⟩:=E1 (AX gf)
 refine AA<|⟨_,gc,ar.marks,gg,gh,ar.at_,ar.why,ar.where_,ar.l.text,ar.l.funcs,ar.l.arity,ar.l.nest,ar.nest,Pu,a,(Mo [1] gd),ea,ge⟩
 refine WC.skip<|have gi:=Ss Ac ci q;have gj:=Bs bm q;⟨_,bf,y,cg,ch,ag,aa,ah,ai,aj,ak,al,am,Pu,a,(AS.refl [1] _ _),gi,gj⟩
 rintro _ bg ⟨m,ao,ap,cm,cn,a3,aq,a4,a5,a6,ab,a7,a8,rfl,a,bo,dk,dl⟩
 rw [D1] at a
 refine An (fun w bp=>∃m bq bh dm dn co cq cr ct cu cv cw cx,w=Env.puts m [(0,Pt e 0),(4,Pt a1 0),(6,Pt be 0)]∧D0 r g cl bh co cq cr ct cu cv cw cx=some av∧AS [1] ao bg bq bp∧Slc Ac bq.F bp (Sl dm bh dn) bh∧Bk bq bp 1 e [Sl dm bh dn,I co,I cq,I cr,I ct,I cu,I cv,I cw,I cx] 126) ?_ ?_
 refine An (fun w dp=>∃m cy dq,w=Env.puts m [(0,Pt e 0),(4,Pt a1 0),(6,Pt be 0),(70,.bool dq)]∧DT r g cl ap a3 aq a4 a5 a6 ab a7 a8 dq=some av∧AS [] ao bg cy dp) ?_ ?_
 refine B8 Eg (qs 0 7 (.one 7 (qs 8 14 .nil))) [] [] ao (by kernel_rfl) fun gk a9=>Qx c rfl (v:=Pt e 0) (fun _ _=>Mv rfl)<|Qx c rfl (fun _ _=>Nc rfl)<|Qx c rfl (fun _ _=>Fd Iz rfl)<|have dr:=Bs dl a9;Qx c rfl (fun _ ⟨_,f⟩=>Ld CD rfl (Bc (Bs dr f) rfl))<|Qx c rfl (v:=.bool (aq==0)) (fun _ _=>rfl)<|Qx c rfl (v:=.bool (aq==0)) (fun _ _=>Mv rfl)<|Bo a (fun z a=>?_) fun z a=>?_
 refine Qg c rfl z (v:=Pt e 0) (fun _ _=>Mv rfl)<|A5 rfl<|have gl:=Ss Ac dk a9;Bi a fun a0 gm a=>BM rfl (.guard (t:=true) (b:=true) rfl rfl rfl rfl (Cb z)) rfl rfl (Cg [Pt e 0] rfl)<|Calls.mono (CN ao gk gm dcd dcd dr (AO (x:=(AD.mk ap a3 aq a4 (Ae.mk a5 a6 ab a7) a8)) gl)) ?_
 rintro _ j7 ⟨eb,j8,rfl,ds,gn⟩
 obtain rfl:=DB gn
 refine ⟨_,rfl,⟨_,(Mo [] ds)⟩,?_⟩
 refine Qg c rfl z (v:=I a0.kind) (fun _ _=>Js (cs:=[I a0.kind,Sb a0.text,Cx a0.num,I a0.at_]) Qj rfl rfl)<|Qg c rfl z (v:=.bool (a0.kind==0)) (fun _ _=>rfl)<|Qx c rfl (v:=.bool (a0.kind==0)) (fun _ _=>(Pk z))<|Qx c rfl (v:=.bool (a0.kind==0)) (fun _ _=>Mv rfl)<|Bo a (fun l a=>?_) fun l a=>?_
 refine Qg c rfl l (fun _ _=>Fd Eh rfl)<|Qg c rfl l (fun _ ⟨_,f⟩=>Ld E0 rfl (Bc (Y4 ck q bo a9 f) rfl)) ?_
 obtain ⟨j9,ka,go⟩:=Own.len (Os (Os (Os cj q) bo) a9)
 refine Qg c rfl l (v:=I (g.length:Int)) (fun _ _=>Ll ED go)<|Qg c rfl l (v:=Pt e 0) (fun _ _=>Mv rfl)<|Qg c rfl l (fun _ _=>Nc rfl)<|Qg c rfl l (fun _ _=>Fd Qh rfl)<|Qg c rfl l (fun _ _=>Fd YD rfl)<|Qg c rfl l (fun _ ⟨_,f⟩=>Ld CD rfl (Bc (Bs dr f) rfl))<|Qg c rfl l (v:=.bool (decide ((g.length:Int)≥ab))) (fun _ _=>rfl)<|Qx c rfl (v:=.bool (decide ((g.length:Int)≥ab))) (fun _ _=>(Pk l))<|Dt<|⟨_,eb,(decide ((g.length:Int)≥ab)),Pu,a,(Tn (Mo [] a9) ds)⟩
 refine Qp c rfl l<|Qp c rfl l<|Qp c rfl l<|Qp c rfl l<|Qp c rfl l<|Qp c rfl l<|Qp c rfl l<|Qp c rfl l<|Qp c rfl l<|Qx c rfl (v:=.bool false) (fun _ _=>(Pk l))<|Dt<|⟨_,eb,false,Pu,a,(Tn (Mo [] a9) ds)⟩
 refine Qp c rfl z<|A5 rfl<|O8 rfl (.guard (t:=false) (b:=true) rfl rfl rfl rfl (Cb z)) rfl rfl<|⟨⟨_,Rf⟩,?_⟩
 refine Qp c rfl z<|Qp c rfl z<|Qx c rfl (v:=.bool false) (fun _ _=>(Pk z))<|Qx c rfl (v:=.bool false) (fun _ _=>Mv rfl)<|Qp c rfl rfl<|Qp c rfl rfl<|Qp c rfl rfl<|Qp c rfl rfl<|Qp c rfl rfl<|Qp c rfl rfl<|Qp c rfl rfl<|Qp c rfl rfl<|Qp c rfl rfl<|Qx c rfl (v:=.bool false) (fun _ _=>rfl)<|Dt<|⟨_,ao,false,Pu,a,(Mo [] a9)⟩
 rintro _ dp ⟨m,cy,dq,rfl,a,bi⟩
 rw [DT] at a
 refine Cn a (fun gp a=>?_) fun gp a=>?_
 refine AM<|Vm<|have gq:=Bs dl bi;have gr:=Ss Ac dk bi;Bi a fun au gs a=>Ca (Cg [Pt e 0,I 22] rfl) (E4 cy dp gs dcd dcd gq (AO (x:=(AD.mk ap a3 aq a4 (Ae.mk a5 a6 ab a7) a8)) gr)) ?_
 rintro _ kb ⟨gt,kc,rfl,gu,gv,gw⟩
 obtain ⟨gx,gy,rfl,ec⟩:=E1 (AX gw)
 refine AA<|⟨_,gt,au.marks,gx,gy,au.at_,au.why,au.where_,au.l.text,au.l.funcs,au.l.arity,au.l.nest,au.nest,Pu,a,(Tn (Mo [1] bi) gu),ec,gv⟩
 refine WC.skip<|have gz:=Ss Ac dk bi;have g0:=Bs dl bi;⟨_,cy,ap,cm,cn,a3,aq,a4,a5,a6,ab,a7,a8,Pu,a,(Mo [1] bi),gz,g0⟩
 rintro _ bp ⟨m,bq,bh,dm,dn,co,cq,cr,ct,cu,cv,cw,cx,rfl,a,dt,g1,g2⟩
 rw [D0] at a
 refine Sr<|Vm<|Bi a fun n g3 a=>Ca (Cg [Pt e 0] rfl) (Ht bq bp g3 dcd dcd g2 (AO (x:=(AD.mk bh co cq cr (Ae.mk ct cu cv cw) cx)) g1)) ?_
 rintro _ ke ⟨g4,kf,kg,rfl,du,g5,g6,g7⟩
 obtain rfl:=DB g5
 obtain ⟨ki,kj,rfl,ed⟩:=E1 (AX g7)
 refine Ef<|AU g4 23 Gs rfl fun g8 kk kl g9 br=>Eu<|St G7 g9 rfl rfl rfl rfl fun ha hb bt=>AA<|Sr<|Vm<|have hc:=Y2 g6 br bt;have hd:=K2 Ac ed br bt;Bi a fun o he a=>Ca (Cg [Pt e 0] rfl) (JS r g8 ha he dcd dcd hc (AO (x:=n.2) hd)) ?_
 rintro _ km ⟨hf,kn,rfl,cz,hg,hh⟩
 obtain ⟨hi,hj,rfl,ee⟩:=E1 (AX hh)
 refine Va (I o.1)<|AA<|AM<|Vx (Fd Eh rfl)<|have ef:=Y3 (Y4 ck q bo dt du) br bt cz;Vx (Ld E0 rfl (Bc ef rfl))<|Vx (Fd FT rfl)<|have eg:=Bs hb cz;Vx (Ld CS rfl (Bc eg rfl))<|Vm<|Vx (Fd LI rfl)<|Vx (Ld CD rfl (Bc eg rfl))<|Vx (v:=Ag [Sb n.1.text,I o.1,I n.1.at_]) (Bp Lf Qn rfl (.cons rfl rfl rfl (.cons rfl rfl rfl (.cons rfl rfl rfl .nil))))<|Ef<|Bf (cs:=[Sb n.1.text,I o.1,I n.1.at_]) hf 24 [[Sb n.1.text,I o.1,I n.1.at_]] ED Lf rfl rfl (.cons rfl rfl rfl .nil) rfl fun hk hl hm hn bu=>have ho:Own Aa 87 hk hl 24 (.slice (some ⟨hm,0,none⟩) 1 1) ([(AK.mk n.1.text o.1 n.1.at_)]:List AK):=Own.lit (css:=[[Sb n.1.text,I o.1,I n.1.at_]]) hn rfl rfl rfl (AQ (Kg (x:=(AK.mk n.1.text o.1 n.1.at_))) Au) (Av rfl CP) rfl;have hp:=Os (Os (Os (Os (Os (Os (Os (Os cj q) bo) dt) du) br) bt) cz) bu;Bi a fun kp eh a=>Ef<|Az (κ:=Aa) rfl rfl hp dcd Pj (BL ho) (CF eh) (CK eh) fun kq hq kr dv c0=>?_
 obtain ⟨dw,dx,rfl⟩:=Own.len dv
 refine Vx (Fd Eh rfl)<|have hr:=Y2 ef bu c0;Eu<|BB (vs:=[Sl dw ((g++([(AK.mk n.1.text o.1 n.1.at_)]:List AK))) dx]) (cs':=[Sb h.1.text,Sl dw ((g++([(AK.mk n.1.text o.1 n.1.at_)]:List AK))) dx,I 0,I 0,Sb ([]:Bts),Sb ([]:Bts),I 0,Cx (((0,0):Nat×Nat)),.slice none 0 0,I 0,I h.1.at_]) Ob rfl rfl rfl rfl (AP (Own.one dv) BO) hr dcd rfl rfl fun ks hs c1=>AA<|have ht:=K3 Ac ee bu c0 c1;have hu:=Os dv c1;have hw:=Y3 hg bu c0 c1;⟨aw,Nat.lt_succ_self aw,_,hq,o.2.marks,hi,hj,o.2.at_,o.2.why,o.2.where_,o.2.l.text,o.2.l.funcs,o.2.l.arity,o.2.l.nest,o.2.nest,(g++([(AK.mk n.1.text o.1 n.1.at_)]:List AK)),dw,dx,Pu,(d8▸a),(T2 (T4 (T4 (Mo [1,22,23,25] di) q bo dt du) br bt cz bu) c0 c1),ht,hu,hw,hs⟩
 refine BZ<|Sr<|Vm<|have hx:=Bs bm q;have hy:=Ss Ac ci q;Bi a fun hz h0 a=>Ca (Cg [Pt e 0,Sb ([41]:Bts)] rfl) (BP bf bn h0 dcd dcd hx (AO (x:=(AD.mk y ag aa ah (Ae.mk ai aj ak al) am)) hy)) ?_
 rintro _ h1 ⟨h2,kt,rfl,c2,h3,h4⟩
 obtain ⟨kv,kw,rfl,ei⟩:=E1 (AX h4)
 refine AA<|Sr<|Vm<|Bi a fun h5 h6 a=>Ca (Cg [Pt e 0,Sb ([58]:Bts)] rfl) (BP h2 h1 h6 dcd dcd h3 (AO (x:=hz) ei)) ?_
 rintro _ h7 ⟨h8,kx,rfl,c3,h9,ia⟩
 obtain ⟨kz,k0,rfl,ej⟩:=E1 (AX ia)
 refine AA<|Sr<|Vm<|Bi a fun ba ib a=>Ca (Cg [Pt e 0] rfl) (JS r h8 h7 ib dcd dcd h9 (AO (x:=h5) ej)) ?_
 rintro _ k1 ⟨ic,k2,rfl,c4,id,ie⟩
 obtain ⟨k4,k5,rfl,ek⟩:=E1 (AX ie)
 refine Vx (Fd NS rfl)<|have ig:=Y4 ck q c2 c3 c4;Eu<|St Wj ig rfl rfl rfl rfl fun ih ii bv=>AA<|Sr<|Vm<|have ij:=Bs id bv;have ik:=Ss Ac ek bv;Bi a fun il im a=>Ca (Cg [Pt e 0,Sb ([61]:Bts)] rfl) (BP ic ih im dcd dcd ij (AO (x:=ba.2) ik)) ?_
 rintro _ io ⟨ip,k6,rfl,c5,iq,ir⟩
 obtain ⟨k8,k9,rfl,el⟩:=E1 (AX ir)
 refine AA<|Sr<|Vm<|Bi a fun d it a=>Ca (Cg [Pt e 0] rfl) (Ok r ip io it dcd dcd iq (AO (x:=il) el)) ?_
 rintro _ la ⟨iu,lb,lc,rfl,c6,iv,iw,ix⟩
 obtain ⟨bw,bx,rfl,em⟩:=E1 (Ai iv)
 obtain ⟨lf,lg,rfl,en⟩:=E1 (AX ix)
 refine Vx (Fd Mb rfl)<|have iy:=Y2 ii c5 c6;Eu<|St CV iy rfl rfl rfl rfl fun iz i0 bj=>AA<|Sr<|Vm<|have i1:=Bs iw bj;have i2:=Ss Ac en bj;Bi a fun ac i3 a=>Ca (Cg [Pt e 0,Sb ([59]:Bts)] rfl) (BP iu iz i3 dcd dcd i1 (AO (x:=d.2) i2)) ?_
 rintro _ lh ⟨li,lj,rfl,bz,i4,i5⟩
 obtain ⟨i6,i7,rfl,eo⟩:=E1 (AX i5)
 refine AA<|Sr<|have i8:=Bs i0 bz;Vx (Lx Lc rfl rfl (Bw i8))<|have i9:=Bs (Y4 (Y4 (Y4 (Y4 ey d2 d3 cb cc) cd cf dh di) q c2 c3 c4) bv c5 c6 bj) bz;have ep:=Os (Os (Os (Os (Os (Os (Os (Os (Os cj q) c2) c3) c4) bv) c5) c6) bj) bz;have eq:=K2 AJ em bj bz;Eu<|BB (vs:=[Sb h.1.text,Sl ay g az,I ba.1,I d.1.op,Sb d.1.name,Sb d.1.tail,I d.1.type_,Cx d.1.num,Sl bw d.1.args bx,I d.1.at_,I h.1.at_]) (cs':=[Sb h.1.text,Sl ay g az,I ba.1,I d.1.op,Sb d.1.name,Sb d.1.tail,I d.1.type_,Cx d.1.num,Sl bw d.1.args bx,I d.1.at_,I h.1.at_]) LD rfl rfl rfl rfl (AP rfl (AP (Own.one ep) (AP rfl (AP rfl (AP rfl (AP rfl (AP rfl (AP rfl (AP (FZ eq) (AP rfl (AP rfl BO))))))))))) i9 dcd rfl rfl fun ll ja b0=>AA<|AW<|have jb:=Os ep b0; ?_
 obtain ⟨jc,b1,jd⟩:=Own.freeze (S:=[25]) jb dcd dcd
 obtain rfl:=AN a
 refine have je:=Bs ja b1;O1 B ex rfl (.agg Lc rfl rfl (Bw je))<|have jf:=K2 AJ eq b0 b1;have jg:=Y2 i4 b0 b1;have jh:=K2 Ac eo b0 b1;⟨jc,[Sb h.1.text,Sl ay g az,I ba.1,I d.1.op,Sb d.1.name,Sb d.1.tail,I d.1.type_,Cx d.1.num,Sl bw d.1.args bx,I d.1.at_,I h.1.at_],[Sl i6 ac.marks i7,I ac.at_,I ac.why,I ac.where_,I ac.l.text,I ac.l.funcs,I ac.l.arity,I ac.l.nest,I ac.nest],rfl,Ho (T3 (T4 (T4 (T4 (T4 (Mo [1,20,21,22,23,25] a2) d2 d3 cb cc) cd cf dh di) q c2 c3 c4) bv c5 c6 bj) bz b0 b1) es,(Fa (x:=(AE.mk h.1.text g ba.1 d.1 h.1.at_)) jd jf),jg,(AO (x:=ac) jh)⟩
theorem PL(d:Nat):Cp.Spec (Cp d):=lk1 (Ol d)
def Bu.At(G1 G2:Prop)(e:Col)(a:World)(f:AD→Option (AL×AD))(g:Nat):Prop:=
 ∀{h m n l},f m=some l→G1→G2→Bk e a g h n 126→BE.rep e.F a n m→
  Calls PG 48 #[Pt h 0] a fun q c=>∃d o p,q=.returned (Ag o)∧AS [g] e a d c∧Cd.rep d.F c o l.1∧Bk d c g h p 126∧BE.rep d.F c p l.2
def Bu.Spec(f:AD→Option (AL×AD)):Prop:=
 ∀c d {a},Bu.At ([a].Nodup) (0∉[a]) c d f a
theorem NA(z:Nat)(ay:Col)(bq:World)(br:∀b,ay b<10):Bu.At True True ay bq (Bu z) 1:=by
 intro ai n di az c _ _ bt bu
 rw [Bu] at c
 obtain ⟨bv,bw,rfl,be⟩:=E1 (AX bu)
 refine Ay Tryz.func48 rfl Tryz.ntmps48 rfl fun B bx dk=>Sr<|Ef<|AU ay 20 DS rfl fun bz dl bf b0 a0=>AA<|Sr<|Ef<|AU bz 21 DS rfl fun bg b1 a1 b2 ak=>AA<|AY<|Ad<|Bj (fun aa a2 ab=>∃aj l f al am o m p q r u w y d ac ad,a2=Env.puts aj [(0,Pt ai 0),(2,Pt bf 0),(3,Pt a1 0)]∧BS z aa f o m p q r u w y d=some az∧AS [1,21,22,24] bg b1 l ab∧Slc Ac l.F ab (Sl al f am) f∧Own AI 58 l ab 24 (Sl ac d ad) d∧Bk l ab 1 ai [Sl al f am,I o,I m,I p,I q,I r,I u,I w,I y] 126∧Bk l ab 21 a1 [Sl ac d ad] 28) z ?_ ?_
 refine have b3:=K2 Ac be a0 ak;have b4:=Y2 bt a0 ak;⟨_,bg,n.marks,bv,bw,n.at_,n.why,n.where_,n.l.text,n.l.funcs,n.l.arity,n.l.nest,n.nest,([]:List AE),none,0,Pu,c,(AS.refl [1,21,22,24] _ _),b3,Own.nil,b4,b2⟩
 rintro aa _ ab ⟨aj,l,f,al,am,o,m,p,q,r,u,w,y,d,ac,ad,rfl,c,a3,a4,a5,an,a6⟩
 rcases aa with _|aa
 exact A6 c
 refine have c:CE z (BS z aa) f o m p q r u w y d=some az:=c; ?_
 obtain ⟨b5,bh⟩:∃s,s=BS z aa:=⟨_,rfl⟩
 rw [←bh,CE] at c
 refine AY<|An (fun a2 a7=>∃aj a8 a9,a2=Env.puts aj [(0,Pt ai 0),(2,Pt bf 0),(3,Pt a1 0),(21,.bool a9)]∧B3 z f o m p q r u w y d b5 a9=some az∧AS [] l ab a8 a7) ?_ ?_
 refine AM<|Vm<|Vx (Nc rfl)<|Vx (Fd Iz rfl)<|Vx (Ld CD rfl (Bc an rfl))<|Vr (.bool (m==0))<|Vm<|Bo c (fun e c=>?_) fun e c=>?_
 refine Gx e (Fz EA rfl)<|Gx e (Ld GP rfl (Bc a6 rfl)) ?_
 obtain ⟨dm,dn,b6⟩:=Own.len a5
 refine Gx e (v:=I (d.length:Int)) (Ll DY b6)<|Gr e (.bool ((d.length:Int)==0))<|Gm e<|Bo c (fun g c=>?_) fun g c=>?_
 refine Pg g<|Pg g<|Pg g<|Pg g<|Gp e g<|Vp e<|AA<|⟨_,l,true,Pu,c,Rf⟩
 refine Gm g<|Bi c fun ae b7 c=>B7 (.guard (t:=false) (b:=false) rfl rfl rfl rfl (Cb g)) rfl rfl (Cg [Pt ai 0] rfl)<|Calls.mono (CN l ab b7 dcd dcd an (AO (x:=(AD.mk f o m p (Ae.mk q r u w) y)) a4)) ?_
 rintro _ dp ⟨b8,dq,rfl,b9,ca⟩
 obtain rfl:=DB ca
 refine ⟨_,rfl,?_⟩
 refine Gx g (v:=I ae.kind) (Js (cs:=[I ae.kind,Sb ae.text,Cx ae.num,I ae.at_]) Qj rfl rfl)<|Gr g (.bool (ae.kind != 4))<|Gp e g<|Vp e<|AA<|⟨_,b8,(ae.kind != 4),Pu,c,(Mo [] b9)⟩
 refine Pg e<|Pg e<|Pg e<|Pg e<|Pg e<|Po<|Po<|Po<|Po<|Pg e<|Vp e<|AA<|⟨_,l,false,Pu,c,Rf⟩
 rintro _ a7 ⟨aj,a8,a9,rfl,c,h⟩
 rw [B3] at c
 refine Cn c (fun cb c=>?_) fun cb c=>?_
 refine WC.skip<|Ad<|Sr<|Vm<|Vx (Fz EA rfl)<|have bi:=Bs a6 h;Vx (Ld GP rfl (Bc bi rfl))<|have bj:=Os a5 h; ?_
 obtain ⟨dr,ds,cc⟩:=Own.len bj
 refine Vx (v:=I (d.length:Int)) (Ll DY cc)<|have cd:=Bs an h;have cf:=Ss Ac a4 h;Bi c fun a cg c=>Ca (Cg [Pt ai 0,I (d.length:Int)] rfl) (PL z a8 a7 cg dcd dcd cd (AO (x:=(AD.mk f o m p (Ae.mk q r u w) y)) cf)) ?_
 rintro _ dt ⟨ch,du,dv,rfl,ba,ci,cj,ck⟩
 obtain ⟨dw,dx,rfl,bk,bl⟩:=DA ci
 obtain ⟨ao,ap,rfl⟩:=AR bk
 obtain ⟨aq,ar,rfl⟩:=AR bl
 obtain ⟨cl,cm,rfl,bm⟩:=E1 (AX ck)
 refine Ef<|AU ch 22 Fs rfl fun cn dz d0 co af=>have cq:=Ss Aa bk af;have cr:=Ss AJ bl af;Eu<|St LD co rfl rfl rfl rfl fun d1 ct ag=>AA<|AM<|Vx (Fz EA rfl)<|have bn:=Y3 bi ba af ag;Vx (Ld GP rfl (Bc bn rfl))<|Vx (Lx Lc rfl rfl (Bw ct))<|Ef<|Bf (cs:=[Sb a.1.name,Sl ao a.1.params ap,I a.1.type_,I a.1.body.op,Sb a.1.body.name,Sb a.1.body.tail,I a.1.body.type_,Cx a.1.body.num,Sl aq a.1.body.args ar,I a.1.body.at_,I a.1.at_]) cn 23 [[Sb a.1.name,Sl ao a.1.params ap,I a.1.type_,I a.1.body.op,Sb a.1.body.name,Sb a.1.body.tail,I a.1.body.type_,Cx a.1.body.num,Sl aq a.1.body.args ar,I a.1.body.at_,I a.1.at_]] DY Fs rfl rfl (.cons rfl rfl rfl .nil) rfl fun cu cv cw cx ah=>have cy:=K2 Aa cq ag ah;have cz:=K2 AJ cr ag ah;have c0:Own AI 58 cu cv 23 (.slice (some ⟨cw,0,none⟩) 1 1) ([a.1]:List AE):=Own.lit (css:=[[Sb a.1.name,Sl ao a.1.params ap,I a.1.type_,I a.1.body.op,Sb a.1.body.name,Sb a.1.body.tail,I a.1.body.type_,Cx a.1.body.num,Sl aq a.1.body.args ar,I a.1.body.at_,I a.1.at_]]) cx rfl rfl rfl (AQ (Fa (x:=a.1) cy cz) Au) (Av rfl CP) rfl;have c1:=Os (Os (Os (Os bj ba) af) ag) ah;Bi c fun d2 bo c=>Ef<|Az (κ:=AI) rfl rfl c1 dcd HK (BL c0) (CF bo) (CK bo) fun d3 c2 d4 bb au=>?_
 obtain ⟨bc,bd,rfl⟩:=Own.len bb
 refine Vx (Fz EA rfl)<|have c3:=Y2 bn ah au;Eu<|BB (vs:=[Sl bc ((d++([a.1]:List AE))) bd]) (cs':=[Sl bc ((d++([a.1]:List AE))) bd]) AAa rfl rfl rfl rfl (AP (Own.one bb) BO) c3 dcd rfl rfl fun d5 c4 av=>AA<|have c5:=Ss Ac (K4 Ac bm af ag ah au) av;have c6:=Os bb av;have c7:=Bs (Y4 cj af ag ah au) av;⟨aa,Nat.lt_succ_self aa,_,c2,a.2.marks,cl,cm,a.2.at_,a.2.why,a.2.where_,a.2.l.text,a.2.l.funcs,a.2.l.arity,a.2.l.nest,a.2.nest,(d++([a.1]:List AE)),bc,bd,Pu,(bh▸c),(T3 (T4 (Mo [1,21,22,24] a3) h ba af ag) ah au av),c5,c6,c7,c4⟩
 refine BZ<|Sr<|have c8:=Bs a6 h;Vx (Lx Gl rfl rfl (Bw c8))<|have c9:=Y3 b0 ak a3 h;have bp:=Os a5 h;Eu<|BB (vs:=[Sl ac d ad]) (cs':=[Sl ac d ad]) EZ rfl rfl rfl rfl (AP (Own.one bp) BO) c9 dcd rfl rfl fun d6 da aw=>AA<|AW<|have db:=Os bp aw; ?_
 obtain ⟨dc,ax,de⟩:=Own.freeze (S:=[24]) db dcd dcd
 obtain rfl:=AN c
 refine have df:=Bs da ax;O1 B bx rfl (.agg Gl rfl rfl (Bw df))<|have dg:=Y3 an h aw ax;have dh:=K3 Ac a4 h aw ax;⟨dc,[Sl ac d ad],[Sl al f am,I o,I m,I p,I q,I r,I u,I w,I y],rfl,Ho (Tn (T4 (Mo [1,20,21,22,24] a0) ak a3 h aw) ax) br,(BH (x:=(AL.mk d)) de),dg,(AO (x:=(AD.mk f o m p (Ae.mk q r u w) y)) dh)⟩
theorem NU(d:Nat):Bu.Spec (Bu d):=lk1 (NA d)
def Fc.At(c:Col)(a:World)(f:Bts→Ae→Option (AL×AF)):Prop:=
 ∀{h v0 l m d},f h l=some d→Slc Kd.u8 c.F a v0 h→NZ.rep c.F a m l→
  Calls PG 26 #[v0,Ag m] a fun o e=>∃g n u1,o=.returned (.tuple #[Ag n,Ag u1])∧AS [] c a g e∧Cd.rep g.F e n d.1∧Am.rep g.F e u1 d.2
def Fc.Spec(f:Bts→Ae→Option (AL×AF)):Prop:=
 ∀a c,Fc.At a c f
theorem Rg(ad:Nat)(ae:Col)(a5:World)(u:∀b,ae b<10):Fc.At ae a5 (Fc ad):=by
 intro af v0 a cm cn c ar a6
 rw [Fc] at c
 obtain ⟨a7,a8,rfl⟩:=AR ar
 obtain rfl:=KB a6
 refine Ay Tryz.func26 rfl Tryz.ntmps26 rfl fun B w f=>Sr<|Ef<|BX ae 20 rfl rfl fun a9 co cq ba s=>Ef<|AU a9 21 DS rfl fun bb cr ct y q=>Ef<|AU bb 22 E3 rfl fun ag cu cv z l=>AA<|Sr<|Vx (Fz QA rfl)<|have au:=Y2 ba q l;Vx (Ld CD rfl (Bc au rfl))<|Vx (v:=I (if a.text<0 then 0 else a.text)) (Run.max rfl rfl)<|Vx (v:=I (if 32768< (if a.text<0 then 0 else a.text) then 32768 else (if a.text<0 then 0 else a.text))) (Run.min rfl rfl)<|Vx (Fz QA rfl)<|Eu<|St Md au rfl rfl rfl rfl fun bc ah g=>AA<|AY<|Sr<|Vm<|have av:=K4 Kd.u8 ar s q l g; ?_
 obtain ⟨cw,cx,bd⟩:=AR av
 refine Vx (v:=I (af.length:Int)) (Ll Hs bd)<|Vx (Fz QA rfl)<|Vx (Ld CD rfl (Bc ah rfl))<|Vr (.bool (decide ((af.length:Int)>(if 32768< (if a.text<0 then 0 else a.text) then 32768 else (if a.text<0 then 0 else a.text)))))<|AA<|Cn c (fun be c=>?_) fun be c=>?_
 refine AY<|B8 Eg (qs 0 4 (.one 4 (.one 5 .nil))) [5] [21] ag (by kernel_rfl) fun cy aa=>Qx f rfl (v:=Ag [.slice none 0 0]) (fun _ _=>Bv (cs:=[.slice none 0 0]) [.slice none 0 0] DS KF rfl .nil rfl rfl)<|Qx f rfl (fun _ _=>Fz QA rfl)<|have bf:=Bs ah aa;Qx f rfl (fun _ ⟨_,d⟩=>Ld CD rfl (Bc (Bs bf d) rfl))<|Qx f rfl (v:=Ag [I 22,I (if 32768< (if a.text<0 then 0 else a.text) then 32768 else (if a.text<0 then 0 else a.text))]) (fun _ _=>Bv (cs:=[I 22,I (if 32768< (if a.text<0 then 0 else a.text) then 32768 else (if a.text<0 then 0 else a.text))]) [I 0,I 0] E3 MF rfl (.cons rfl rfl rfl (.cons rfl rfl rfl .nil)) rfl rfl)<|A5 rfl<|have bg:=Y3 y l g aa;BC rfl (.none rfl) rfl<|St EZ bg rfl rfl rfl rfl fun cz bh ai=>⟨⟨_,(Mo [21] ai)⟩,?_⟩
 refine CX dcd<|WY.one<|have bi:=Y3 z g aa ai;BC rfl (.none rfl) rfl<|St G6 bi rfl rfl rfl rfl fun c0 bj aw=>WY.nil<|AW ?_
 obtain rfl:=AN c
 refine have bk:=Bs bh aw;O2 B w rfl (.agg Gl rfl rfl (Bw bk)) (.agg KZ rfl rfl (Bw bj))<|⟨ag,[.slice none 0 0],[I 22,I (if 32768< (if a.text<0 then 0 else a.text) then 32768 else (if a.text<0 then 0 else a.text))],rfl,Ho (T2 (T4 (Mo [20,21,22] s) q l g aa) ai aw) u,(BH (x:=(AL.mk [])) Bd),(Ah (x:=(AF.mk 22 (if 32768< (if a.text<0 then 0 else a.text) then 32768 else (if a.text<0 then 0 else a.text)))))⟩
 refine WC.skip<|Sr<|Vm<|Bi c fun h bl c=>Ca (Cg [Sl a7 af a8] rfl) (Sk ad ag bc bl av) ?_
 rintro _ c1 ⟨ax,c2,rfl,m,ay⟩
 obtain ⟨aj,ak,rfl⟩:=AR ay
 refine Vm<|Vr (Sl aj h.1 ak)<|Vr (I h.2)<|Va (Sl aj h.1 ak)<|Va (I h.2)<|AA<|AY<|Sr<|Vm<|Vr (.bool (decide (h.2≥0)))<|AA<|Cn c (fun bm c=>?_) fun bm c=>?_
 refine Sr<|Vx (v:=Ag [.slice none 0 0]) (Bp DS KF rfl .nil)<|Vm<|Vx (v:=Ag [I 20,I h.2]) (Bp E3 MF rfl (.cons rfl rfl rfl (.cons rfl rfl rfl .nil)))<|have bn:=Y3 y l g m;Eu<|St EZ bn rfl rfl rfl rfl fun c3 bo az=>have bp:=Y3 z g m az;Eu<|St G6 bp rfl rfl rfl rfl fun c4 bq a0=>AA<|AW ?_
 obtain rfl:=AN c
 refine have br:=Bs bo a0;O2 B w rfl (.agg Gl rfl rfl (Bw br)) (.agg KZ rfl rfl (Bw bq))<|⟨ax,[.slice none 0 0],[I 20,I h.2],rfl,Ho (T2 (T4 (Mo [20,21,22] s) q l g m) az a0) u,(BH (x:=(AL.mk [])) Bd),(Ah (x:=(AF.mk 20 h.2)))⟩
 refine WC.skip<|Sr<|Vm<|have bt:=Bs ah m;Vx (Lx X5 rfl rfl (Bw bt))<|Vx (v:=Ag [Sl aj h.1 ak,I 0,I 0,I 0,I (if 32768< (if a.text<0 then 0 else a.text) then 32768 else (if a.text<0 then 0 else a.text)),I a.funcs,I a.arity,I a.nest,I 0]) (Bp Zd Za rfl (.cons rfl rfl rfl (.cons rfl rfl rfl .nil)))<|Ef<|BX ax 23 rfl rfl fun bu bv ab bw p=>Va (Pt ab 0)<|AA<|Sr<|Vm<|have bx:=Ss Ac ay p;Bi c fun e bz c=>Ca (Cg [Pt ab 0] rfl) (NU ad bu bv bz dcd dcd bw (AO (x:=(AD.mk h.1 0 0 0 (Ae.mk (if 32768< (if a.text<0 then 0 else a.text) then 32768 else (if a.text<0 then 0 else a.text)) a.funcs a.arity a.nest) 0)) bx)) ?_
 rintro _ c5 ⟨b0,c6,c7,rfl,r,b1,b2,b3⟩
 obtain ⟨al,am,rfl,a1⟩:=E1 (BN b1)
 obtain ⟨da,db,rfl,b4⟩:=E1 (AX b3)
 refine Ef<|AU b0 24 DS rfl fun an dc de b5 n=>have b6:=Ss AI a1 n;Eu<|St EZ b5 rfl rfl rfl rfl fun df b7 o=>AA<|AY<|Sr<|Vm<|Vx (Nc rfl)<|Vx (Fd Iz rfl)<|have a2:=Y2 b2 n o;Vx (Ld CD rfl (Bc a2 rfl))<|Vr (.bool (e.2.why != 0))<|AA<|Cn c (fun b8 c=>?_) fun b8 c=>?_
 refine AY<|B8 Eg (qs 0 10 (.one 10 (.one 11 .nil))) [11] [21] an (by kernel_rfl) fun dg ac=>Qx f rfl (v:=Ag [.slice none 0 0]) (fun _ _=>Bv (cs:=[.slice none 0 0]) [.slice none 0 0] DS KF rfl .nil rfl rfl)<|Qx f rfl (v:=Pt ab 0) (fun _ _=>Mv rfl)<|Qx f rfl (fun _ _=>Nc rfl)<|Qx f rfl (fun _ _=>Fd Iz rfl)<|have a3:=Bs a2 ac;Qx f rfl (fun _ ⟨_,d⟩=>Ld CD rfl (Bc (Bs a3 d) rfl))<|Qx f rfl (v:=Pt ab 0) (fun _ _=>Mv rfl)<|Qx f rfl (fun _ _=>Nc rfl)<|Qx f rfl (fun _ _=>Fd UV rfl)<|Qx f rfl (fun _ ⟨_,d⟩=>Ld CD rfl (Bc (Bs a3 d) rfl))<|Qx f rfl (v:=Ag [I e.2.why,I e.2.where_]) (fun _ _=>Bv (cs:=[I e.2.why,I e.2.where_]) [I 0,I 0] E3 MF rfl (.cons rfl rfl rfl (.cons rfl rfl rfl .nil)) rfl rfl)<|A5 rfl<|have b9:=Y4 (Y4 y l g m p) r n o ac;BC rfl (.none rfl) rfl<|St EZ b9 rfl rfl rfl rfl fun dh ca ao=>⟨⟨_,(Mo [21] ao)⟩,?_⟩
 refine CX dcd<|WY.one<|have cb:=Y4 (Y4 z g m p r) n o ac ao;BC rfl (.none rfl) rfl<|St G6 cb rfl rfl rfl rfl fun di cc a4=>WY.nil<|AW ?_
 obtain rfl:=AN c
 refine have cd:=Bs ca a4;O2 B w rfl (.agg Gl rfl rfl (Bw cd)) (.agg KZ rfl rfl (Bw cc))<|⟨an,[.slice none 0 0],[I e.2.why,I e.2.where_],rfl,Ho (T3 (T4 (T4 (Mo [20,21,22,23,24] s) q l g m) p r n o) ac ao a4) u,(BH (x:=(AL.mk [])) Bd),(Ah (x:=(AF.mk e.2.why e.2.where_)))⟩
 refine WC.skip<|Sr<|Vx (Lx Gl rfl rfl (Bw b7))<|Vx (v:=Ag [I 0,I 0]) (Bp E3 MF rfl .nil)<|have cf:=Y3 (Y4 y l g m p) r n o;have cg:=Ss AI b6 o;Eu<|St EZ cf rfl rfl rfl rfl fun dj ch ap=>have ci:=Y3 (Y4 z g m p r) n o ap;Eu<|St G6 ci rfl rfl rfl rfl fun dk cj aq=>AA<|AW ?_
 obtain rfl:=AN c
 refine have ck:=Bs ch aq;O2 B w rfl (.agg Gl rfl rfl (Bw ck)) (.agg KZ rfl rfl (Bw cj))<|have cl:=K2 AI cg ap aq;⟨an,[Sl al e.1.funcs am],[I 0,I 0],rfl,Ho (T2 (T4 (T4 (Mo [20,21,22,23,24] s) q l g m) p r n o) ap aq) u,(BH (x:=e.1) cl),(Ah (x:=(AF.mk 0 0)))⟩
theorem E6(c:Nat):Fc.Spec (Fc c):=lk0 (Rg c)
def GB.At(l:Col)(a:World)(f:Bts→Option (List Bts)):Prop:=
 ∀{c d},f c=some d→
  Calls PG 77 #[Sb c] a fun m e=>∃g h,m=.returned h∧AS [] l a g e∧Slc DK g.F e h d
def GB.Spec(f:Bts→Option (List Bts)):Prop:=
 ∀a c,GB.At a c f
theorem Rh(aq:Nat)(ab:Col)(ar:World)(a1:∀b,ab b<10):GB.At ab ar (GB aq):=by
 intro e y a
 rw [GB] at a
 refine Ay Tryz.func77 rfl Tryz.ntmps77 rfl fun B a2 bp=>Sr<|Va (.slice none 0 0)<|AA<|Sr<|Va (.slice none 0 0)<|AA<|Sr<|Va (I 0)<|AA<|AY<|Sr<|Va (I 0)<|AA<|Ad<|Bj (fun h o z=>∃f p d l m n c,o=Env.puts f [(0,Sb e),(3,Sl l d m),(4,I n),(5,I c)]∧EK e h d n c=some y∧AS [21] ab ar p z∧Own DK 9 p z 21 (Sl l d m) d) aq ?_ ?_
 exact ⟨_,ab,([]:List Bts),none,0,0,0,Pu,a,(AS.refl [21] _ _),Own.nil⟩
 rintro h _ z ⟨f,p,d,l,m,n,c,rfl,a,au,ac⟩
 rcases h with _|h
 exact A6 a
 refine have a:FB e (EK e h) d n c=some y:=a; ?_
 obtain ⟨ak,av⟩:∃s,s=EK e h:=⟨_,rfl⟩
 rw [←av,FB] at a
 refine AY<|Sr<|Vm<|Vm<|Vx (v:=I (e.length:Int)) (Run.lenStr JP rfl)<|Vr (.bool (decide (c≤(e.length:Int))))<|AA<|Cn a (fun a3 a=>?_) fun a3 a=>?_
 refine WC.skip<|An (fun o al=>∃f ad r ae af ag,o=Env.puts f [(0,Sb e),(3,Sl ae r af),(4,I ag),(5,I c)]∧Ha c ak r ag=some y∧AS [21] p z ad al∧Own DK 9 ad al 21 (Sl ae r af) r) ?_ ?_
 refine Ad<|AY<|An (fun o am=>∃f u an,o=Env.puts f [(0,Sb e),(3,Sl l d m),(4,I n),(5,I c),(21,.bool an)]∧GY e d n c ak an=some y∧AS [] p z u am) ?_ ?_
 refine AM<|Vm<|Vm<|Vx (v:=I (e.length:Int)) (Run.lenStr JP rfl)<|Vr (.bool (decide (c< (e.length:Int))))<|Vm<|Bo a (fun g a=>?_) fun g a=>?_
 refine Gm g<|Gm g<|Bi a fun ao a4 a=>Gx g (v:=U8 ao) (Run.indexBs JP rfl rfl a4)<|Gr g (.bool ((ao.toNat:Int) != ((32:UInt8).toNat:Int)))<|Vp g<|AA<|⟨_,p,((ao.toNat:Int) != ((32:UInt8).toNat:Int)),Pu,a,Rf⟩
 refine Pg g<|Pg g<|Pg g<|Pg g<|Vp g<|AA<|⟨_,p,false,Pu,a,Rf⟩
 rintro _ am ⟨f,u,an,rfl,a,aa⟩
 rw [GY] at a
 refine Cn a (fun a5 a=>?_) fun a5 a=>?_
 refine BZ<|have a6:=Os ac aa;⟨_,u,d,l,m,n,Pu,a,(Mo [21] aa),a6⟩
 refine WC.skip<|An (fun o ap=>∃f ah w ai aj,o=Env.puts f [(0,Sb e),(3,Sl ai w aj),(5,I c)]∧Hb c ak w=some y∧AS [21] u am ah ap∧Own DK 9 ah ap 21 (Sl ai w aj) w) ?_ ?_
 refine Sr<|Vm<|Vm<|Vr (.bool (decide (c>n)))<|AA<|Cn a (fun a7 a=>?_) fun a7 a=>?_
 refine AM<|Vm<|Vm<|Vm<|Vm<|Bi a fun q a8 a=>Vx (v:=Sb q) (Run.sliceStr JP rfl ⟨_,rfl⟩ ⟨_,rfl⟩ a8)<|Ef<|Bf (cs:=[Sb q]) u 20 [[Sb q]] H8 PV rfl rfl (.cons rfl rfl rfl .nil) rfl fun a9 ba bb bc aw=>have bd:Own DK 9 a9 ba 20 (.slice (some ⟨bb,0,none⟩) 1 1) ([q]:List Bts):=Own.lit (css:=[[Sb q]]) bc rfl rfl rfl (AQ rfl Au) (Av rfl CP) rfl;have be:=Os (Os ac aa) aw;Bi a fun bq ax a=>Ef<|Az (κ:=DK) rfl rfl be dcd Ux (BL bd) (CF ax) (CK ax) fun br bf bt ay bg=>?_
 obtain ⟨az,a0,rfl⟩:=Own.len ay
 refine Va (Sl az ((d++([q]:List Bts))) a0)<|AA<|⟨_,bf,(d++([q]:List Bts)),az,a0,Pu,a,(Tn (Mo [21] aw) bg),ay⟩
 refine WC.skip<|have bh:=Os ac aa;⟨_,u,d,l,m,Pu,a,(AS.refl [21] _ _),bh⟩
 rintro _ ap ⟨f,ah,w,ai,aj,rfl,a,bi,bj⟩
 rw [Hb] at a
 refine AM<|Vm<|Vr (I (Wr (c+1)))<|Va (I (Wr (c+1)))<|AA<|⟨_,ah,w,ai,aj,(Wr (c+1)),Pu,a,(Tn (Mo [21] aa) bi),bj⟩
 rintro _ al ⟨f,ad,r,ae,af,ag,rfl,a,bk,bl⟩
 rw [Ha] at a
 refine AM<|Vm<|Vr (I (Wr (c+1)))<|Va (I (Wr (c+1)))<|AA<|⟨h,Nat.lt_succ_self h,_,ad,r,ae,af,ag,(Wr (c+1)),Pu,(av▸a),(Tn (Mo [21] au) bk),bl⟩
 refine BZ<|Sr<|Vm<|Va (Sl l d m)<|AA<|AW ?_
 obtain ⟨bm,bn,bo⟩:=Own.freeze (S:=[21]) ac dcd dcd
 obtain rfl:=AN a
 refine O1 B a2 rfl (.tmp rfl)<|⟨bm,Sl l d m,rfl,Ho (Tn (Mo [21] au) bn) a1,bo⟩
theorem Sn(c:Nat):GB.Spec (GB c):=lk0 (Rh c)
def Hy.At(e:Col)(c:World)(f:Nat→Option (Int×Bool)):Prop:=
 ∀{d a},f d=some a→
  Calls PG 64 #[Fl d] c fun g h=>∃l,g=.returned (.tuple #[I a.1,.bool a.2])∧AS [] e c l h
def Hy.Spec(f:Nat→Option (Int×Bool)):Prop:=
 ∀a c,Hy.At a c f
theorem So(f:Col)(p:World)(q:∀b,f b<10):Hy.At f p Hy:=by
 intro c y a
 rw [Hy] at a
 refine Ay Tryz.func64 rfl Tryz.ntmps64 rfl fun B r ac=>Sr<|Va (I 0)<|Va (.bool false)<|AA<|AY<|An (fun z s=>∃u n o,z=Env.puts u [(0,Fl c),(20,.bool o)]∧HN c o=some y∧AS [] f p n s) ?_ ?_
 refine AM<|Vm<|Vr (.bool (fge c (13938640846711685120:Nat)))<|Vm<|Bo a (fun l a=>?_) fun l a=>?_
 refine Gm l<|Gr l (.bool (fle c (4715268809856909312:Nat)))<|Vp l<|Vr (.bool (!(fle c (4715268809856909312:Nat))))<|Vm<|Bo a (fun d a=>?_) fun d a=>?_
 refine Pg d<|Pg d<|Pg d<|Po<|Po<|Po<|Pg d<|Vp d<|AA<|⟨_,f,true,Pu,a,Rf⟩
 refine Gm d<|Gr d (.bool (feq c (0:Nat)))<|Gm d<|Bo a (fun g a=>?_) fun g a=>?_
 refine Gm g<|Gx g (v:=.int .u64 ((c:Nat):Int)) (Oe (vs:=[Fl c]) rfl rfl)<|Gr g (.bool (((c:Nat):Int) != 0))<|Gp d g<|Vp d<|AA<|⟨_,f,(((c:Nat):Int) != 0),Pu,a,Rf⟩
 refine Pg g<|Pg g<|Pg g<|Gp d g<|Vp d<|AA<|⟨_,f,false,Pu,a,Rf⟩
 refine Pg l<|Pg l<|Vp l<|Vr (.bool (!false))<|Vm<|Bo a (fun e a=>?_) fun e a=>?_
 refine Pg e<|Pg e<|Pg e<|Po<|Po<|Po<|Pg e<|Vp e<|AA<|⟨_,f,true,Pu,a,Rf⟩
 refine Gm e<|Gr e (.bool (feq c (0:Nat)))<|Gm e<|Bo a (fun h a=>?_) fun h a=>?_
 refine Gm h<|Gx h (v:=.int .u64 ((c:Nat):Int)) (Oe (vs:=[Fl c]) rfl rfl)<|Gr h (.bool (((c:Nat):Int) != 0))<|Gp e h<|Vp e<|AA<|⟨_,f,(((c:Nat):Int) != 0),Pu,a,Rf⟩
 refine Pg h<|Pg h<|Pg h<|Gp e h<|Vp e<|AA<|⟨_,f,false,Pu,a,Rf⟩
 rintro _ s ⟨u,n,o,rfl,a,w⟩
 rw [HN] at a
 refine Cn a (fun aa a=>?_) fun aa a=>?_
 refine Sr<|Va (I 0)<|Va (.bool false)<|AA<|AW ?_
 obtain rfl:=AN a
 refine O2 B r rfl (.tmp rfl) (.tmp rfl)<|⟨n,rfl,Ho (Mo [] w) q⟩
 refine WC.skip<|Sr<|Vm<|Bi a fun m ab a=>Vx (v:=I m) (Run.f2i rfl Wg ab)<|Va (I m)<|AA<|Sr<|Vm<|Vm<|Vr (Fl (FloatKind.f64.nearest m))<|Vm<|Vr (.bool (feq (FloatKind.f64.nearest m) c))<|Va (I m)<|Va (.bool (feq (FloatKind.f64.nearest m) c))<|AA<|AW ?_
 obtain rfl:=AN a
 refine O2 B r rfl (.tmp rfl) (.tmp rfl)<|⟨n,rfl,Ho (Mo [] w) q⟩
theorem PX:Hy.Spec Hy:=lk0 (So)
def Ec.At(l:Col)(c:World)(f:(Nat×Nat)→Option (Aj×Bool)):Prop:=
 ∀{d a},f d=some a→
  Calls PG 39 #[Cx d] c fun m e=>∃g h,m=.returned (.tuple #[Ag h,.bool a.2])∧AS [] l c g e∧LG.rep g.F e h a.1
def Ec.Spec(f:(Nat×Nat)→Option (Aj×Bool)):Prop:=
 ∀a c,Ec.At a c f
theorem U6(n:Col)(z:World)(q:∀b,n b<10):Ec.At n z Ec:=by
 intro f aa a
 rw [Ec] at a
 refine Ay Tryz.func39 rfl Tryz.ntmps39 rfl fun B r ar=>Sr<|Ef<|AU n 20 I8 rfl fun ab ac ad s u=>Va (.bool false)<|AA<|Sr<|Vm<|Vx (v:=Fl f.1) (Run.real rfl)<|Bi a fun d ae a=>Ca (Cg [Fl f.1] rfl) (PX ab ac ae) ?_
 rintro _ af ⟨ag,rfl,g⟩
 refine Vm<|Vr (I d.1)<|Vr (.bool d.2)<|Va (I d.1)<|Va (.bool d.2)<|AA<|Sr<|Vm<|Vx (v:=Fl f.2) (Run.imag rfl)<|Bi a fun c ah a=>Ca (Cg [Fl f.2] rfl) (PX ag af ah) ?_
 rintro _ ai ⟨o,rfl,h⟩
 refine Vm<|Vr (I c.1)<|Vr (.bool c.2)<|Va (I c.1)<|Va (.bool c.2)<|AA<|AY<|An (fun aj w=>∃y l p,aj=Env.puts y [(2,Pt ad 0),(4,I d.1),(6,I c.1),(25,.bool p)]∧Mx d c p=some aa∧AS [] o ai l w) ?_ ?_
 refine AM<|Vm<|Vr (.bool (!d.2))<|Vm<|Bo a (fun e a=>?_) fun e a=>?_
 refine Pg e<|Pg e<|Vp e<|AA<|⟨_,o,true,Pu,a,Rf⟩
 refine Gm e<|Gr e (.bool (!c.2))<|Vp e<|AA<|⟨_,o,(!c.2),Pu,a,Rf⟩
 rintro _ w ⟨y,l,p,rfl,a,m⟩
 rw [Mx] at a
 refine Cn a (fun ak a=>?_) fun ak a=>?_
 refine Sr<|Vx (v:=Ag [I 0,I 0]) (Bp I8 Nf rfl .nil)<|have al:=Y3 s g h m;Eu<|St JR al rfl rfl rfl rfl fun au am an=>Va (.bool false)<|AA<|AW ?_
 obtain rfl:=AN a
 refine O2 B r rfl (.agg Jz rfl rfl (Bw am)) (.tmp rfl)<|⟨l,[I 0,I 0],rfl,Ho (T4 (Mo [20] u) g h m an) q,(FH (x:=(Aj.mk 0 0)))⟩
 refine WC.skip<|Sr<|Vm<|Vm<|Vx (v:=Ag [I d.1,I c.1]) (Bp I8 Nf rfl (.cons rfl rfl rfl (.cons rfl rfl rfl .nil)))<|have ao:=Y3 s g h m;Eu<|St JR ao rfl rfl rfl rfl fun av ap aq=>Va (.bool true)<|AA<|AW ?_
 obtain rfl:=AN a
 refine O2 B r rfl (.agg Jz rfl rfl (Bw ap)) (.tmp rfl)<|⟨l,[I d.1,I c.1],rfl,Ho (T4 (Mo [20] u) g h m aq) q,(FH (x:=(Aj.mk d.1 c.1)))⟩
theorem Om:Ec.Spec Ec:=lk0 (U6)
def B4.At(c:Col)(a:World)(f:AH→Option Bool):Prop:=
 ∀{d e g},f d=some g→A1.rep c.F a e d→
  Calls PG 17 #[Ag e] a fun h l=>∃m,h=.returned (.bool g)∧AS [] c a m l
def B4.Spec(f:AH→Option Bool):Prop:=
 ∀a c,B4.At a c f
theorem Ri(aw:Nat)(al:Col)(bc:World)(ag:∀b,al b<10):B4.At al bc (B4 aw):=by
 intro c ca y a bd
 rw [B4] at a
 obtain ⟨cc,cd,rfl,ax⟩:=E1 (Bm bd)
 refine Ay Tryz.func17 rfl Tryz.ntmps17 rfl fun B ah cf=>Sr<|Ef<|BX al 20 rfl rfl fun be bf ay az ad=>Va (.bool false)<|AA<|Sr<|Vx (Fd Hp rfl)<|Vx (Ld Hq rfl (Bc az rfl))<|Bi a fun ae bg a=>Ca (Cg [Cx c.num] rfl) (Om be bf bg) ?_
 rintro _ cg ⟨bh,ch,rfl,z,bi⟩
 obtain rfl:=HM bi
 refine Vm<|Vr (Ag [I ae.1.re,I ae.1.im])<|Vr (.bool ae.2)<|Ef<|AU bh 21 I8 rfl fun a0 ci cj bj aa=>Eu<|St JR bj rfl rfl rfl rfl fun bk ck ab=>Va (.bool ae.2)<|AA<|AY<|Sr<|Va (I 0)<|AA<|Ad<|Bj (fun r l u=>∃e d ai f,l=Env.puts e [(1,Pt ay 0),(4,.bool ai),(5,I f)]∧Ep c r ai f=some y∧AS [22] a0 bk d u) aw ?_ ?_
 exact ⟨_,a0,ae.2,0,Pu,a,(AS.refl [22] _ _)⟩
 rintro r _ u ⟨e,d,ai,f,rfl,a,w⟩
 rcases r with _|r
 exact A6 a
 refine have a:FC c (Ep c r) ai f=some y:=a; ?_
 obtain ⟨bl,a1⟩:∃s,s=Ep c r:=⟨_,rfl⟩
 rw [←a1,FC] at a
 refine AY<|Sr<|Vm<|Vx (Fd EU rfl)<|have m:=Y4 az z aa ab w;Vx (Ld In rfl (Bc m rfl))<|have aj:=Ss Kd.cpx (K4 Kd.cpx ax ad z aa ab) w; ?_
 obtain ⟨cl,cm,bm⟩:=AR aj
 refine Vx (v:=I (c.list.length:Int)) (Ll IH bm)<|Vr (.bool (decide (f< (c.list.length:Int))))<|AA<|Cn a (fun bn a=>?_) fun bn a=>?_
 refine WC.skip<|An (fun l a2=>∃e am ak,l=Env.puts e [(1,Pt ay 0),(4,.bool ak),(5,I f)]∧Hc f bl ak=some y∧AS [22] d u am a2) ?_ ?_
 refine Ad<|Sr<|Vx (Fd EU rfl)<|Vx (Ld In rfl (Bc m rfl))<|Vm<|Bi a fun a3 bo a=>?_
 obtain ⟨bp,bq,cn,a4,br,bt,bu,bv,an⟩:=BG (κ:=Kd.cpx) aj bo
 replace an:A3 d u bp (bq+f.toNat*1) a4:=an
 obtain rfl:=(show a4=[Cx a3] from bv)
 refine Vx (Ix IH br rfl bt bu)<|Vx (Ld Hq rfl (A3.cell0 an rfl))<|Bi a fun ac bw a=>Ca (Cg [Cx a3] rfl) (Om d u bw) ?_
 rintro _ co ⟨bx,cq,rfl,a5,bz⟩
 obtain rfl:=HM bz
 refine Vm<|Vr (Ag [I ac.1.re,I ac.1.im])<|Vr (.bool ac.2)<|Ef<|AU bx 22 I8 rfl fun a6 cr ct b0 a7=>Eu<|St JR b0 rfl rfl rfl rfl fun cu cv a8=>Va (.bool ac.2)<|AA<|AM<|Vm<|Vm<|Bo a (fun af a=>?_) fun af a=>?_
 refine Gm af<|Vp af<|Va (.bool ac.2)<|AA<|⟨_,a6,ac.2,Pu,a,(T2 (Mo [22] a5) a7 a8)⟩
 refine Pg af<|Vp af<|Va (.bool false)<|AA<|⟨_,a6,false,Pu,a,(T2 (Mo [22] a5) a7 a8)⟩
 rintro _ a2 ⟨e,am,ak,rfl,a,b1⟩
 rw [Hc] at a
 refine AM<|Vm<|Vr (I (Wr (f+1)))<|Va (I (Wr (f+1)))<|AA<|⟨r,Nat.lt_succ_self r,_,am,ak,(Wr (f+1)),Pu,(a1▸a),(Tn (Mo [22] w) b1)⟩
 refine BZ<|AY<|Sr<|Vx (Fz I7 rfl)<|Vx (Ld EB rfl (Bc m rfl))<|AA<|Ad<|Sr<|Vr (.bool (c.type_==1))<|Va (.bool (c.type_==1))<|AA<|Cn a (fun b2 a=>?_) fun b2 a=>?_
 refine An (fun l a9=>∃e ao ap,l=Env.puts e [(2,.bool ap)]∧JT ap=some y∧AS [] d u ao a9) ?_ ?_
 refine AM<|Vm<|Vm<|Bo a (fun n a=>?_) fun n a=>?_
 refine Gx n (Fd Ka rfl)<|Gx n (Ld N2 rfl (Bc m rfl))<|Gr n (.bool (!c.bool))<|Vp n<|Vm<|Bo a (fun g a=>?_) fun g a=>?_
 refine Gx g (Fd EU rfl)<|Gx g (Ld In rfl (Bc m rfl)) ?_
 obtain ⟨cw,cx,b3⟩:=AR aj
 refine Gx g (v:=I (c.list.length:Int)) (Ll IH b3)<|Gr g (.bool ((c.list.length:Int)==0))<|Vp g<|Va (.bool ((c.list.length:Int)==0))<|AA<|⟨_,d,((c.list.length:Int)==0),Pu,a,Rf⟩
 refine Pg g<|Pg g<|Pg g<|Pg g<|Vp g<|Va (.bool false)<|AA<|⟨_,d,false,Pu,a,Rf⟩
 refine Pg n<|Pg n<|Pg n<|Vp n<|Vm<|Pg rfl<|Pg rfl<|Pg rfl<|Pg rfl<|Vr (.bool false)<|Va (.bool false)<|AA<|⟨_,d,false,Pu,a,Rf⟩
 rintro _ a9 ⟨e,ao,ap,rfl,a,b4⟩
 rw [JT] at a
 refine AW ?_
 obtain rfl:=AN a
 refine O1 B ah rfl (.tmp rfl)<|⟨ao,rfl,Ho (Tn (T4 (Mo [21,22] ad) z aa ab w) b4) ag⟩
 refine Sr<|Vr (.bool (c.type_==2))<|Va (.bool (c.type_==2))<|AA<|Cn a (fun b5 a=>?_) fun b5 a=>?_
 refine An (fun l ba=>∃e aq ar,l=Env.puts e [(2,.bool ar)]∧JU ar=some y∧AS [] d u aq ba) ?_ ?_
 refine AM<|Vm<|Vm<|Bo a (fun o a=>?_) fun o a=>?_
 refine Gx o (Fd Hp rfl)<|Gx o (Ld Hq rfl (Bc m rfl))<|Gx o (v:=.bool (ceq c.num ((0,0):Nat×Nat))) (Run.ceq rfl rfl)<|Vp o<|Vm<|Bo a (fun h a=>?_) fun h a=>?_
 refine Gx h (Fd EU rfl)<|Gx h (Ld In rfl (Bc m rfl)) ?_
 obtain ⟨cy,cz,b6⟩:=AR aj
 refine Gx h (v:=I (c.list.length:Int)) (Ll IH b6)<|Gr h (.bool ((c.list.length:Int)==0))<|Vp h<|Va (.bool ((c.list.length:Int)==0))<|AA<|⟨_,d,((c.list.length:Int)==0),Pu,a,Rf⟩
 refine Pg h<|Pg h<|Pg h<|Pg h<|Vp h<|Va (.bool false)<|AA<|⟨_,d,false,Pu,a,Rf⟩
 refine Pg o<|Pg o<|Pg o<|Vp o<|Vm<|Pg rfl<|Pg rfl<|Pg rfl<|Pg rfl<|Vr (.bool false)<|Va (.bool false)<|AA<|⟨_,d,false,Pu,a,Rf⟩
 rintro _ ba ⟨e,aq,ar,rfl,a,b7⟩
 rw [JU] at a
 refine AW ?_
 obtain rfl:=AN a
 refine O1 B ah rfl (.tmp rfl)<|⟨aq,rfl,Ho (Tn (T4 (Mo [21,22] ad) z aa ab w) b7) ag⟩
 refine Sr<|Vr (.bool (c.type_==3))<|Va (.bool (c.type_==3))<|AA<|Cn a (fun b8 a=>?_) fun b8 a=>?_
 refine An (fun l bb=>∃e au av,l=Env.puts e [(2,.bool av)]∧JV av=some y∧AS [] d u au bb) ?_ ?_
 refine AM<|Vm<|Vm<|Bo a (fun p a=>?_) fun p a=>?_
 refine Gx p (Fd Hp rfl)<|Gx p (Ld Hq rfl (Bc m rfl))<|Gx p (v:=.bool (ceq c.num ((0,0):Nat×Nat))) (Run.ceq rfl rfl)<|Vp p<|Vm<|Bo a (fun q a=>?_) fun q a=>?_
 refine Gx q (Fd Ka rfl)<|Gx q (Ld N2 rfl (Bc m rfl))<|Gr q (.bool (!c.bool))<|Vp q<|Va (.bool (!c.bool))<|AA<|⟨_,d,(!c.bool),Pu,a,Rf⟩
 refine Pg q<|Pg q<|Pg q<|Vp q<|Va (.bool false)<|AA<|⟨_,d,false,Pu,a,Rf⟩
 refine Pg p<|Pg p<|Pg p<|Vp p<|Vm<|Pg rfl<|Pg rfl<|Pg rfl<|Vr (.bool false)<|Va (.bool false)<|AA<|⟨_,d,false,Pu,a,Rf⟩
 rintro _ bb ⟨e,au,av,rfl,a,b9⟩
 rw [JV] at a
 refine AW ?_
 obtain rfl:=AN a
 refine O1 B ah rfl (.tmp rfl)<|⟨au,rfl,Ho (Tn (T4 (Mo [21,22] ad) z aa ab w) b9) ag⟩
 refine WC.skip<|Sr<|Va (.bool false)<|AA<|AW ?_
 obtain rfl:=AN a
 refine O1 B ah rfl (.tmp rfl)<|⟨d,rfl,Ho (T4 (Mo [21,22] ad) z aa ab w) ag⟩
theorem Lg(c:Nat):B4.Spec (B4 c):=lk0 (Ri c)
def EF.At(e:Col)(a:World)(f:(Nat×Nat)→Option Bts):Prop:=
 ∀{c d},f c=some d→
  Calls PG 110 #[Cx c] a fun g h=>∃l,g=.returned (Sb d)∧AS [] e a l h
def EF.Spec(f:(Nat×Nat)→Option Bts):Prop:=
 ∀a c,EF.At a c f
theorem Qv(e:Nat)(d:Col)(f:World)(g:∀b,d b<10):EF.At d f (EF e):=by
 intro h ad c
 rw [EF] at c
 refine Ay Tryz.func110 rfl Tryz.ntmps110 rfl fun B l ae=>Sr<|Va (Sb ([]:Bts))<|AA<|Sr<|Vm<|Bi c fun a m c=>Ca (Cg [Cx h] rfl) (Om d f m) ?_
 rintro _ af ⟨n,ag,rfl,o,p⟩
 obtain rfl:=HM p
 refine Vm<|Vr (Ag [I a.1.re,I a.1.im])<|Vr (.bool a.2)<|Ef<|AU n 20 I8 rfl fun q ah ai r s=>Eu<|St JR r rfl rfl rfl rfl fun u w y=>Va (.bool a.2)<|AA<|Sr<|Vx (Lx Jz rfl rfl (Bw w))<|Bi c fun z aa c=>Ca (Cg [Ag [I a.1.re,I a.1.im]] rfl) (PW e q u aa (FH (x:=a.1))) ?_
 rintro _ aj ⟨ab,rfl,ac⟩
 refine Va (Sb z)<|AA<|AW ?_
 obtain rfl:=AN c
 refine O1 B l rfl (.tmp rfl)<|⟨ab,rfl,Ho (T3 (Mo [20] o) s y ac) g⟩
theorem N3(c:Nat):EF.Spec (EF c):=lk0 (Qv c)
def GZ.At(d:Col)(a:World)(f:AH→Option (Bts×Int)):Prop:=
 ∀{e g c},f e=some c→A1.rep d.F a g e→
  Calls PG 78 #[Ag g] a fun h l=>∃m,h=.returned (.tuple #[Sb c.1,I c.2])∧AS [] d a m l
def GZ.Spec(f:AH→Option (Bts×Int)):Prop:=
 ∀a c,GZ.At a c f
theorem Sp(e:Nat)(ad:Col)(ba:World)(p:∀b,ad b<10):GZ.At ad ba (GZ e):=by
 intro c co ae a bb
 rw [GZ] at a
 obtain ⟨am,an,rfl,al⟩:=E1 (Bm bb)
 refine Ay Tryz.func78 rfl Tryz.ntmps78 rfl fun B q cr=>Sr<|Ef<|BX ad 20 rfl rfl fun bc bd ao ap m=>Va (Sb ([]:Bts))<|Va (I 0)<|AA<|AY<|Sr<|Vx (Lx DX rfl rfl (Bw ap))<|have aq:=Ss Kd.cpx al m;Bi a fun be bf a=>Ca (Cg [Ag [I c.type_,Cx c.num,.bool c.bool,Sl am c.list an]] rfl) (Lg e bc bd bf (BD (x:=c) aq)) ?_
 rintro _ ar ⟨n,rfl,h⟩
 refine Vr (.bool (!be))<|AA<|Cn a (fun bg a=>?_) fun bg a=>?_
 refine Sr<|Va (Sb ([]:Bts))<|Va (I 3)<|AA<|AW ?_
 obtain rfl:=AN a
 refine O2 B q rfl (.tmp rfl) (.tmp rfl)<|⟨n,rfl,Ho (Tn (Mo [] m) h) p⟩
 refine WC.skip<|AY<|Sr<|Vx (Fz I7 rfl)<|have y:=Bs ap h;Vx (Ld EB rfl (Bc y rfl))<|AA<|Ad<|Sr<|Vr (.bool (c.type_==1))<|Va (.bool (c.type_==1))<|AA<|Cn a (fun bh a=>?_) fun bh a=>?_
 refine Sr<|Vx (Fd Hp rfl)<|Vx (Ld Hq rfl (Bc y rfl))<|Bi a fun bi bj a=>Ca (Cg [Cx c.num] rfl) (N3 e n ar bj) ?_
 rintro _ ct ⟨bk,rfl,bl⟩
 refine Va (Sb bi)<|Va (I 0)<|AA<|AW ?_
 obtain rfl:=AN a
 refine O2 B q rfl (.tmp rfl) (.tmp rfl)<|⟨bk,rfl,Ho (T2 (Mo [] m) h bl) p⟩
 refine Sr<|Vr (.bool (c.type_==2))<|Va (.bool (c.type_==2))<|AA<|Cn a (fun bm a=>?_) fun bm a=>?_
 refine AY<|Sr<|Vx (Fd Ka rfl)<|Vx (Ld N2 rfl (Bc y rfl))<|AA<|Cn a (fun bn a=>?_) fun bn a=>?_
 refine Sr<|Va (Sb ([116,114,117,101]:Bts))<|Va (I 0)<|AA<|AW ?_
 obtain rfl:=AN a
 refine O2 B q rfl (.tmp rfl) (.tmp rfl)<|⟨n,rfl,Ho (Tn (Mo [] m) h) p⟩
 refine WC.skip<|Sr<|Va (Sb ([102,97,108,115,101]:Bts))<|Va (I 0)<|AA<|AW ?_
 obtain rfl:=AN a
 refine O2 B q rfl (.tmp rfl) (.tmp rfl)<|⟨n,rfl,Ho (Tn (Mo [] m) h) p⟩
 refine WC.skip<|Sr<|Va (.slice none 0 0)<|AA<|AY<|Sr<|Va (I 0)<|AA<|Ad<|Bj (fun g af z=>∃r o f aa ab d,af=Env.puts r [(1,Pt ao 0),(4,Sl aa f ab),(5,I d)]∧FD e c g f d=some ae∧AS [22] n ar o z∧Own Kd.u8 5 o z 22 (Sl aa f ab) f) e ?_ ?_
 exact ⟨_,n,([]:Bts),none,0,0,Pu,a,(AS.refl [22] _ _),Own.nil⟩
 rintro g _ z ⟨r,o,f,aa,ab,d,rfl,a,ac,ag⟩
 rcases g with _|g
 exact A6 a
 refine have a:Fk e c (FD e c g) f d=some ae:=a; ?_
 obtain ⟨bo,au⟩:∃s,s=FD e c g:=⟨_,rfl⟩
 rw [←au,Fk] at a
 refine AY<|Sr<|Vm<|Vx (Fd EU rfl)<|have av:=Bs y ac;Vx (Ld In rfl (Bc av rfl))<|have aw:=K2 Kd.cpx aq h ac; ?_
 obtain ⟨cu,cv,bp⟩:=AR aw
 refine Vx (v:=I (c.list.length:Int)) (Ll IH bp)<|Vr (.bool (decide (d< (c.list.length:Int))))<|AA<|Cn a (fun bq a=>?_) fun bq a=>?_
 refine WC.skip<|AY<|Ad<|An (fun af u=>∃r w l ah ai,af=Env.puts r [(1,Pt ao 0),(4,Sl ah l ai),(5,I d)]∧HO e c d bo l=some ae∧AS [22] o z w u∧Own Kd.u8 5 w u 22 (Sl ah l ai) l) ?_ ?_
 refine Sr<|Vm<|Vr (.bool (decide (d>0)))<|AA<|Cn a (fun br a=>?_) fun br a=>?_
 refine AM<|Vm<|Ef<|Bf (cs:=[U8 32]) o 21 [[U8 32]] Hs YQ rfl rfl (.cons rfl rfl rfl .nil) rfl fun bt bu bv bw ax=>have bx:Own Kd.u8 5 bt bu 21 (.slice (some ⟨bv,0,none⟩) 1 1) ([32]:Bts):=Own.lit (css:=[[U8 32]]) bw rfl rfl rfl (AQ rfl Au) (Av rfl CP) rfl;have bz:=Os ag ax;Bi a fun cw ay a=>Ef<|Az (κ:=Kd.u8) rfl rfl bz dcd X6 (BL bx) (CF ay) (CK ay) fun cx b0 cy az b1=>?_
 obtain ⟨a0,a1,rfl⟩:=Own.len az
 refine Va (Sl a0 ((f++([32]:Bts))) a1)<|AA<|⟨_,b0,(f++([32]:Bts)),a0,a1,Pu,a,(Tn (Mo [22] ax) b1),az⟩
 refine WC.skip<|⟨_,o,f,aa,ab,Pu,a,(AS.refl [22] _ _),ag⟩
 rintro _ u ⟨r,w,l,ah,ai,rfl,a,aj,b2⟩
 rw [HO] at a
 refine AM<|Vm<|Vx (Fd EU rfl)<|have b3:=Bs av aj;Vx (Ld In rfl (Bc b3 rfl))<|Vm<|Bi a fun a2 b4 a=>have b5:=Ss Kd.cpx aw aj; ?_
 obtain ⟨b6,b7,cz,a3,b8,b9,ca,cb,ak⟩:=BG (κ:=Kd.cpx) b5 b4
 replace ak:A3 w u b6 (b7+d.toNat*1) a3:=ak
 obtain rfl:=(show a3=[Cx a2] from cb)
 refine Vx (Ix IH b8 rfl b9 ca)<|Vx (Ld Hq rfl (A3.cell0 ak rfl))<|Bi a fun a4 cc a=>Ca (Cg [Cx a2] rfl) (N3 e w u cc) ?_
 rintro _ c0 ⟨c1,rfl,a5⟩
 refine have cd:=Os b2 a5;Bi a fun c2 cf a=>Ef<|To rfl rfl cd dcd X6 AAo JP (CF cf) fun c3 cg c4 a6 ch=>?_
 obtain ⟨a7,a8,rfl⟩:=Own.len a6
 refine Va (Sl a7 ((l++a4)) a8)<|AA<|AM<|Vm<|Vr (I (Wr (d+1)))<|Va (I (Wr (d+1)))<|AA<|⟨g,Nat.lt_succ_self g,_,cg,(l++a4),a7,a8,(Wr (d+1)),Pu,(au▸a),(T3 (Mo [22] ac) aj a5 ch),a6⟩
 refine BZ<|Sr<|Vm ?_
 obtain ⟨ci,cj,ck⟩:=Own.freeze (S:=[22]) ag dcd dcd
 refine Vx (v:=Sb f) (Run.bytesStr PF rfl ck)<|Bi a fun cl cm a=>Vx (v:=Sb cl) (Run.strAdd rfl rfl cm)<|Bi a fun a9 cn a=>Vx (v:=Sb a9) (Run.strAdd rfl rfl cn)<|Va (Sb a9)<|Va (I 0)<|AA<|AW ?_
 obtain rfl:=AN a
 refine O2 B q rfl (.tmp rfl) (.tmp rfl)<|⟨ci,rfl,Ho (T3 (Mo [22] m) h ac cj) p⟩
theorem Ty(c:Nat):GZ.Spec (GZ c):=lk0 (Sp c)
def Fe.At(l:Col)(c:World)(f:Bts→Option (AH×Int)):Prop:=
 ∀{d a},f d=some a→
  Calls PG 49 #[Sb d] c fun m e=>∃g h,m=.returned (.tuple #[Ag h,I a.2])∧AS [] l c g e∧A1.rep g.F e h a.1
def Fe.Spec(f:Bts→Option (AH×Int)):Prop:=
 ∀a c,Fe.At a c f
theorem Rj(g:Nat)(a7:Col)(ca:World)(ak:∀b,a7 b<10):Fe.At a7 ca (Fe g):=by
 intro c ay a
 rw [Fe] at a
 refine Ay Tryz.func49 rfl Tryz.ntmps49 rfl fun B al az=>Sr<|Ef<|AU a7 20 FU rfl fun a8 cb a9 am an=>Va (I 0)<|AA<|AY<|An (fun ar ba=>∃y a0 bb,ar=Env.puts y [(0,Sb c),(2,Pt a9 0),(16,.bool bb)]∧Ga g c bb=some ay∧AS [] a8 cb a0 ba) ?_ ?_
 refine AM<|Vm<|Vx (v:=.bool (c==([116,114,117,101]:Bts))) (Run.strEq rfl rfl)<|Vm<|Bo a (fun ae a=>?_) fun ae a=>?_
 refine Pg ae<|Pg ae<|Vp ae<|AA<|⟨_,a8,true,Pu,a,Rf⟩
 refine Gm ae<|Gx ae (v:=.bool (c==([102,97,108,115,101]:Bts))) (Run.strEq rfl rfl)<|Vp ae<|AA<|⟨_,a8,(c==([102,97,108,115,101]:Bts)),Pu,a,Rf⟩
 rintro _ ba ⟨y,a0,bb,rfl,a,h⟩
 rw [Ga] at a
 refine Cn a (fun cc a=>?_) fun cc a=>?_
 refine Sr<|Vm<|Vx (v:=.bool (c==([116,114,117,101]:Bts))) (Run.strEq rfl rfl)<|Vx (v:=Ag [I 2,Cx (((0,0):Nat×Nat)),.bool (c==([116,114,117,101]:Bts)),.slice none 0 0]) (Bp FU Jm rfl (.cons rfl rfl rfl (.cons rfl rfl rfl .nil)))<|have cd:=Bs am h;Eu<|St GO cd rfl rfl rfl rfl fun en cf cg=>Va (I 0)<|AA<|AW ?_
 obtain rfl:=AN a
 refine O2 B al rfl (.agg DX rfl rfl (Bw cf)) (.tmp rfl)<|⟨a0,[I 2,Cx (((0,0):Nat×Nat)),.bool (c==([116,114,117,101]:Bts)),.slice none 0 0],rfl,Ho (T2 (Mo [20] an) h cg) ak,(BD (x:=(AH.mk 2 ((0,0):Nat×Nat) (c==([116,114,117,101]:Bts)) [])) Bd)⟩
 refine WC.skip<|Sr<|Vm<|Bi a fun f ch a=>Ca (Cg [Sb c] rfl) (Mh g a0 ba ch) ?_
 rintro _ eo ⟨ci,ep,rfl,m,cj⟩
 obtain rfl:=HM cj
 refine Vm<|Vr (Ag [I f.1.re,I f.1.im])<|Vr (I f.2)<|Ef<|AU ci 21 I8 rfl fun au eq bc ck n=>Eu<|St JR ck rfl rfl rfl rfl fun bn bo o=>Va (I f.2)<|AA<|AY<|Sr<|Vm<|Vr (.bool (f.2==0))<|AA<|Cn a (fun cl a=>?_) fun cl a=>?_
 refine Sr<|Vx (Lx Jz rfl rfl (Bw bo))<|Bi a fun a1 cm a=>Ca (Cg [Ag [I f.1.re,I f.1.im]] rfl) (Mi au bn cm (FH (x:=f.1))) ?_
 rintro _ er ⟨cn,rfl,bp⟩
 refine Vx (v:=Ag [I 1,Cx a1,.bool false,.slice none 0 0]) (Bp FU Jm rfl (.cons rfl rfl rfl (.cons rfl rfl rfl .nil)))<|have co:=Bs (Y4 am h m n o) bp;Eu<|St GO co rfl rfl rfl rfl fun es cq cr=>Va (I 0)<|AA<|AW ?_
 obtain rfl:=AN a
 refine O2 B al rfl (.agg DX rfl rfl (Bw cq)) (.tmp rfl)<|⟨cn,[I 1,Cx a1,.bool false,.slice none 0 0],rfl,Ho (T2 (T4 (Mo [20,21] an) h m n o) bp cr) ak,(BD (x:=(AH.mk 1 a1 false [])) Bd)⟩
 refine WC.skip<|AY<|An (fun ar bq=>∃y a2 bd,ar=Env.puts y [(0,Sb c),(2,Pt a9 0),(4,Pt bc 0),(45,.bool bd)]∧Fm g c f bd=some ay∧AS [] au bn a2 bq) ?_ ?_
 refine AM<|Vm<|Vx (v:=I (c.length:Int)) (Run.lenStr JP rfl)<|Vr (.bool (decide ((c.length:Int)<2)))<|Vm<|Bo a (fun r a=>?_) fun r a=>?_
 refine Pg r<|Pg r<|Pg r<|Vp r<|Vm<|Pg rfl<|Pg rfl<|Pg rfl<|Pg rfl<|Pg rfl<|Pg rfl<|Vr (.bool true)<|AA<|⟨_,au,true,Pu,a,Rf⟩
 refine Gm r<|Bi a fun br ct a=>Gx r (v:=U8 br) (Run.indexBs JP rfl rfl ct)<|Gr r (.bool ((br.toNat:Int) != ((91:UInt8).toNat:Int)))<|Vp r<|Vm<|Bo a (fun e a=>?_) fun e a=>?_
 refine Pg e<|Pg e<|Pg e<|Pg e<|Pg e<|Pg e<|Vp e<|AA<|⟨_,au,true,Pu,a,Rf⟩
 refine Gm e<|Gm e<|Gx e (v:=I (c.length:Int)) (Run.lenStr JP rfl)<|Gr e (I (Wr ((c.length:Int) - 1)))<|Bi a fun be cu a=>Gx e (v:=U8 be) (Run.indexBs JP rfl rfl cu)<|Gr e (.bool ((be.toNat:Int) != ((93:UInt8).toNat:Int)))<|Vp e<|AA<|⟨_,au,((be.toNat:Int) != ((93:UInt8).toNat:Int)),Pu,a,Rf⟩
 rintro _ bq ⟨y,a2,bd,rfl,a,u⟩
 rw [Fm] at a
 refine Cn a (fun cv a=>?_) fun cv a=>?_
 refine Sr<|Vx (v:=Ag [I 0,Cx (((0,0):Nat×Nat)),.bool false,.slice none 0 0]) (Bp FU Jm rfl .nil)<|have cw:=Bs (Y4 am h m n o) u;Eu<|St GO cw rfl rfl rfl rfl fun et cx cy=>Va (I 11)<|AA<|AW ?_
 obtain rfl:=AN a
 refine O2 B al rfl (.agg DX rfl rfl (Bw cx)) (.tmp rfl)<|⟨a2,[I 0,Cx (((0,0):Nat×Nat)),.bool false,.slice none 0 0],rfl,Ho (T2 (T4 (Mo [20,21] an) h m n o) u cy) ak,(BD (x:=(AH.mk 0 ((0,0):Nat×Nat) false [])) Bd)⟩
 refine WC.skip<|Sr<|Vx (v:=Ag [I 3,Cx (((0,0):Nat×Nat)),.bool false,.slice none 0 0]) (Bp FU Jm rfl (.cons rfl rfl rfl .nil))<|Ef<|AU a2 22 FU rfl fun cz eu bt c0 af=>Eu<|St GO c0 rfl rfl rfl rfl fun c1 c2 ag=>AA<|Sr<|Vm<|Vm<|Vx (v:=I (c.length:Int)) (Run.lenStr JP rfl)<|Vr (I (Wr ((c.length:Int) - 1)))<|Bi a fun bu c3 a=>Vx (v:=Sb bu) (Run.sliceStr JP rfl ⟨_,rfl⟩ ⟨_,rfl⟩ c3)<|Bi a fun z c4 a=>Ca (Cg [Sb bu] rfl) (Sn g cz c1 c4) ?_
 rintro _ c5 ⟨bv,ew,rfl,aa,bw⟩
 obtain ⟨bx,bz,rfl⟩:=AR bw
 refine Va (Sl bx z bz)<|AA<|AY<|Sr<|Va (I 0)<|AA<|Ad<|Bj (fun ab ar ac=>∃y ah w a3 a4 d p q,ar=Env.puts y [(0,Sb c),(2,Pt a9 0),(4,Pt bc 0),(6,Pt bt 0),(7,Sl bx z bz),(8,I w)]∧Er g c z ab w a3 a4 d=some ay∧AS [21,22,24] bv c5 ah ac∧Own Kd.cpx 35 ah ac 24 (Sl p d q) d∧Bk ah ac 21 bc [I a3,I a4] 111∧Bk ah ac 22 bt [I 3,Cx (((0,0):Nat×Nat)),.bool false,Sl p d q] 38) g ?_ ?_
 refine have c6:=Y4 bo u af ag aa;have c7:=Bs c2 aa;⟨_,bv,0,f.1.re,f.1.im,([]:List (Nat×Nat)),none,0,Pu,a,(AS.refl [21,22,24] _ _),Own.nil,c6,c7⟩
 rintro ab _ ac ⟨y,ah,w,a3,a4,d,p,q,rfl,a,ad,bf,c8,bg⟩
 rcases ab with _|ab
 exact A6 a
 refine have a:FE g c z (Er g c z ab) w a3 a4 d=some ay:=a; ?_
 obtain ⟨ex,b0⟩:∃s,s=Er g c z ab:=⟨_,rfl⟩
 rw [←b0,FE] at a
 refine AY<|Sr<|Vm<|Vm<|have b1:=Ss DK bw ad; ?_
 obtain ⟨ey,ez,c9⟩:=AR b1
 refine Vx (v:=I (z.length:Int)) (Ll H8 c9)<|Vr (.bool (decide (w< (z.length:Int))))<|AA<|Cn a (fun da a=>?_) fun da a=>?_
 refine WC.skip<|AY<|Ad<|Sr<|Vm<|Vm<|Bi a fun b2 db a=>?_
 obtain ⟨dc,de,e0,b3,df,dg,dh,di,bh⟩:=BG (κ:=DK) b1 db
 replace bh:A3 ah ac dc (de+w.toNat*1) b3:=bh
 obtain rfl:=(show b3=[Sb b2] from di)
 refine Vx (Ix H8 df rfl dg dh)<|Vx (Ld CS rfl (A3.cell0 bh rfl))<|Bi a fun l dj a=>Ca (Cg [Sb b2] rfl) (Mh g ah ac dj) ?_
 rintro _ e1 ⟨bi,e2,rfl,ao,dk⟩
 obtain rfl:=HM dk
 refine Vm<|Vr (Ag [I l.1.re,I l.1.im])<|Vr (I l.2)<|have dl:=Bs c8 ao;Eu<|St JR dl rfl rfl rfl rfl fun e3 dm av=>Va (I l.2)<|AA<|AY<|Sr<|Vm<|Vr (.bool (l.2 != 0))<|AA<|Cn a (fun dn a=>?_) fun dn a=>?_
 refine Sr<|Vx (v:=Ag [I 0,Cx (((0,0):Nat×Nat)),.bool false,.slice none 0 0]) (Bp FU Jm rfl .nil)<|have dp:=Y3 (Y4 (Y4 am h m n o) u af ag aa) ad ao av;Eu<|St GO dp rfl rfl rfl rfl fun e4 dq dr=>Va (I 11)<|AA<|AW ?_
 obtain rfl:=AN a
 refine O2 B al rfl (.agg DX rfl rfl (Bw dq)) (.tmp rfl)<|⟨bi,[I 0,Cx (((0,0):Nat×Nat)),.bool false,.slice none 0 0],rfl,Ho (T4 (T4 (T4 (Mo [20,21,22,24] an) h m n o) u af ag aa) ad ao av dr) ak,(BD (x:=(AH.mk 0 ((0,0):Nat×Nat) false [])) Bd)⟩
 refine WC.skip<|B8 Eg (qs 0 3 (.one 3 (.one 4 (.one 5 (.q 6 (.one 7 .nil)))))) [7] [24] bi (by kernel_rfl) fun ds a5=>Qx az rfl (fun _ _=>Fd EU rfl)<|have b4:=Y3 bg ao av a5;Qx az rfl (fun _ ⟨_,aw⟩=>Ld In rfl (Bc (Bs b4 aw) rfl))<|have b5:=Bs dm a5;Qx az rfl (fun _ ⟨_,aw⟩=>Lx Jz rfl rfl (Bw (Bs b5 aw)))<|A5 rfl<|Bi a fun ai dt a=>BM rfl (.none rfl) rfl rfl (Cg [Ag [I l.1.re,I l.1.im]] rfl)<|Calls.mono (Mi bi ds dt (FH (x:=l.1))) ?_
 rintro _ e5 ⟨du,rfl,aj⟩
 refine ⟨_,rfl,⟨_,(Mo [24] aj)⟩,?_⟩
 refine A5 rfl<|Aw rfl (.none rfl) rfl rfl<|Bf (cs:=[Cx ai]) du 23 [[Cx ai]] IH YP rfl rfl (.cons rfl rfl rfl .nil) rfl fun dv dw dx dy ap=>have dz:Own Kd.cpx 35 dv dw 23 (.slice (some ⟨dx,0,none⟩) 1 1) ([ai]:List (Nat×Nat)):=Own.lit (css:=[[Cx ai]]) dy rfl rfl rfl (AQ rfl Au) (Av rfl CP) rfl;⟨⟨_,(Tn (Mo [24] aj) ap)⟩,?_⟩
 refine A5 rfl<|have d0:=Os (Os (Os (Os (Os bf ao) av) a5) aj) ap;Bi a fun e6 b6 a=>Aw rfl (.none rfl) rfl rfl<|Az (κ:=Kd.cpx) rfl rfl d0 dcd X8 (BL dz) (CF b6) (CK b6) fun e7 d1 e8 bj a6=>?_
 obtain ⟨bk,bl,rfl⟩:=Own.len bj
 refine ⟨⟨_,(T2 (Mo [24] aj) ap a6)⟩,?_⟩
 refine Qx az rfl (fun _ _=>Fd EU rfl)<|CX dcd<|WY.one<|have d2:=Y3 b4 aj ap a6;BC rfl (.none rfl) rfl<|BB (vs:=[Sl bk ((d++([ai]:List (Nat×Nat)))) bl]) (cs':=[I 3,Cx (((0,0):Nat×Nat)),.bool false,Sl bk ((d++([ai]:List (Nat×Nat)))) bl]) YM rfl rfl rfl rfl (AP (Own.one bj) BO) d2 dcd rfl rfl fun e9 d3 bm=>WY.nil<|AM<|Vm<|Vr (I (Wr (w+1)))<|Va (I (Wr (w+1)))<|AA<|have d4:=Os bj bm;have d5:=Y4 b5 aj ap a6 bm;⟨ab,Nat.lt_succ_self ab,_,d1,(Wr (w+1)),l.1.re,l.1.im,(d++([ai]:List (Nat×Nat))),bk,bl,Pu,(b0▸a),(T3 (T4 (Mo [21,22,24] ad) ao av a5 aj) ap a6 bm),d4,d5,d3⟩
 refine BZ<|Sr<|Vx (Lx DX rfl rfl (Bw bg)) ?_
 obtain ⟨d6,fa,d7,d8⟩:=Own.lend bf dcd
 refine Bi a fun ax d9 a=>Ca (Cg [Ag [I 3,Cx (((0,0):Nat×Nat)),.bool false,Sl p d q]] rfl) (Ty g d6 ac d9 (BD (x:=(AH.mk 3 ((0,0):Nat×Nat) false d)) d7)) ?_
 rintro _ fb ⟨fc,rfl,ea⟩
 obtain ⟨eb,aq⟩:=d8 [] _ _ ea dcd
 refine Vm<|Vr (Sb ax.1)<|Vr (I ax.2)<|Va (Sb ax.1)<|Va (I ax.2)<|AA<|AY<|Sr<|Vm<|Vm<|Vx (v:=.bool (!(ax.1==c))) (Run.strNe rfl rfl)<|AA<|Cn a (fun ec a=>?_) fun ec a=>?_
 refine Sr<|Vx (v:=Ag [I 0,Cx (((0,0):Nat×Nat)),.bool false,.slice none 0 0]) (Bp FU Jm rfl .nil)<|have ed:=Y2 (Y4 (Y4 am h m n o) u af ag aa) ad aq;Eu<|St GO ed rfl rfl rfl rfl fun fd ee ef=>Va (I 11)<|AA<|AW ?_
 obtain rfl:=AN a
 refine O2 B al rfl (.agg DX rfl rfl (Bw ee)) (.tmp rfl)<|⟨eb,[I 0,Cx (((0,0):Nat×Nat)),.bool false,.slice none 0 0],rfl,Ho (T3 (T4 (T4 (Mo [20,21,22,24] an) h m n o) u af ag aa) ad aq ef) ak,(BD (x:=(AH.mk 0 ((0,0):Nat×Nat) false [])) Bd)⟩
 refine WC.skip<|Sr<|have eg:=Bs bg aq;Vx (Lx DX rfl rfl (Bw eg))<|have eh:=Y2 (Y4 (Y4 am h m n o) u af ag aa) ad aq;have b7:=Os bf aq;Eu<|BB (vs:=[I 3,Cx (((0,0):Nat×Nat)),.bool false,Sl p d q]) (cs':=[I 3,Cx (((0,0):Nat×Nat)),.bool false,Sl p d q]) GO rfl rfl rfl rfl (AP rfl (AP rfl (AP rfl (AP (Own.one b7) BO)))) eh dcd rfl rfl fun fe ei b8=>Va (I 0)<|AA<|AW<|have ej:=Os b7 b8; ?_
 obtain ⟨ek,b9,el⟩:=Own.freeze (S:=[24]) ej dcd dcd
 obtain rfl:=AN a
 refine have em:=Bs ei b9;O2 B al rfl (.agg DX rfl rfl (Bw em)) (.tmp rfl)<|⟨ek,[I 3,Cx (((0,0):Nat×Nat)),.bool false,Sl p d q],rfl,Ho (T4 (T4 (T4 (Mo [20,21,22,24] an) h m n o) u af ag aa) ad aq b8 b9) ak,(BD (x:=(AH.mk 3 ((0,0):Nat×Nat) false d)) el)⟩
theorem Sq(c:Nat):Fe.Spec (Fe c):=lk0 (Rj c)
def GC.At(l:Col)(c:World)(f:Bts→Option ((List AH)×Int)):Prop:=
 ∀{d a},f d=some a→
  Calls PG 28 #[Sb d] c fun m e=>∃g h,m=.returned (.tuple #[h,I a.2])∧AS [] l c g e∧Slc A1 g.F e h a.1
def GC.Spec(f:Bts→Option ((List AH)×Int)):Prop:=
 ∀a c,GC.At a c f
theorem Rk(g:Nat)(af:Col)(az:World)(a0:∀b,af b<10):GC.At af az (GC g):=by
 intro f y a
 rw [GC] at a
 refine Ay Tryz.func28 rfl Tryz.ntmps28 rfl fun B a1 b9=>Sr<|Va (.slice none 0 0)<|Va (I 0)<|AA<|Sr<|Va (.slice none 0 0)<|AA<|Sr<|Va (I 0)<|AA<|AY<|Ad<|Bj (fun o u ag=>∃l z d p q e,u=Env.puts l [(0,Sb f),(4,Sl p d q),(5,I e)]∧CQ g f o d e=some y∧AS [20,22] af az z ag∧Own A1 38 z ag 22 (Sl p d q) d) g ?_ ?_
 exact ⟨_,af,([]:List AH),none,0,0,Pu,a,(AS.refl [20,22] _ _),Own.nil⟩
 rintro o _ ag ⟨l,z,d,p,q,e,rfl,a,ah,ap⟩
 rcases o with _|o
 exact A6 a
 refine have a:FG g f (CQ g f o) d e=some y:=a; ?_
 obtain ⟨ac,aq⟩:∃s,s=CQ g f o:=⟨_,rfl⟩
 rw [←aq,FG] at a
 refine AY<|Sr<|Vm<|Vm<|Vx (v:=I (f.length:Int)) (Run.lenStr JP rfl)<|Vr (.bool (decide (e< (f.length:Int))))<|AA<|Cn a (fun be a=>?_) fun be a=>?_
 refine WC.skip<|Ad<|AY<|Sr<|Vm<|Vm<|Bi a fun a2 bf a=>Vx (v:=U8 a2) (Run.indexBs JP rfl rfl bf)<|Vr (.bool ((a2.toNat:Int)==((32:UInt8).toNat:Int)))<|AA<|Cn a (fun bg a=>?_) fun bg a=>?_
 refine Sr<|Vm<|Vr (I (Wr (e+1)))<|Va (I (Wr (e+1)))<|AA<|BZ<|⟨o,Nat.lt_succ_self o,_,z,d,p,q,(Wr (e+1)),Pu,(aq▸a),(Mo [20,22] ah),ap⟩
 refine WC.skip<|Sr<|Vm<|Va (I e)<|AA<|Sr<|Vm<|Vm<|Bi a fun ai bh a=>Vx (v:=U8 ai) (Run.indexBs JP rfl rfl bh)<|Vr (.bool ((ai.toNat:Int)==((91:UInt8).toNat:Int)))<|Va (.bool ((ai.toNat:Int)==((91:UInt8).toNat:Int)))<|AA<|AY<|Ad<|Bj (fun r u ar=>∃l aa h w,u=Env.puts l [(0,Sb f),(4,Sl p d q),(5,I h),(6,I e),(7,.bool w)]∧D6 g f d e ac r h w=some y∧AS [] z ag aa ar) g ?_ ?_
 exact ⟨_,z,e,((ai.toNat:Int)==((91:UInt8).toNat:Int)),Pu,a,Rf⟩
 rintro r _ ar ⟨l,aa,h,w,rfl,a,aj⟩
 rcases r with _|r
 exact A6 a
 refine have a:FF g f d e ac (D6 g f d e ac r) h w=some y:=a; ?_
 obtain ⟨a3,a4⟩:∃s,s=D6 g f d e ac r:=⟨_,rfl⟩
 rw [←a4,FF] at a
 refine AY<|An (fun u ak=>∃l ab au,u=Env.puts l [(0,Sb f),(4,Sl p d q),(5,I h),(6,I e),(7,.bool w),(37,.bool au)]∧EM g f d e ac h w a3 au=some y∧AS [] aa ar ab ak) ?_ ?_
 refine AM<|Vm<|Vm<|Vx (v:=I (f.length:Int)) (Run.lenStr JP rfl)<|Vr (.bool (decide (h< (f.length:Int))))<|Vm<|Bo a (fun m a=>?_) fun m a=>?_
 refine Gm m<|Gm m<|Bo a (fun n a=>?_) fun n a=>?_
 refine Pg n<|Pg n<|Pg n<|Pg n<|Gp m n<|Vp m<|AA<|⟨_,aa,true,Pu,a,Rf⟩
 refine Gm n<|Gm n<|Bi a fun av bi a=>Gx n (v:=U8 av) (Run.indexBs JP rfl rfl bi)<|Gr n (.bool ((av.toNat:Int) != ((32:UInt8).toNat:Int)))<|Gp m n<|Vp m<|AA<|⟨_,aa,((av.toNat:Int) != ((32:UInt8).toNat:Int)),Pu,a,Rf⟩
 refine Pg m<|Pg m<|Po<|Po<|Po<|Po<|Pg m<|Vp m<|AA<|⟨_,aa,false,Pu,a,Rf⟩
 rintro _ ak ⟨l,ab,au,rfl,a,al⟩
 rw [EM] at a
 refine Cn a (fun bj a=>?_) fun bj a=>?_
 refine WC.skip<|Ad<|An (fun u a5=>∃l aw am,u=Env.puts l [(0,Sb f),(4,Sl p d q),(5,I h),(6,I e),(7,.bool am)]∧Hd h a3 am=some y∧AS [] ab ak aw a5) ?_ ?_
 refine Sr<|Vm<|Vm<|Bi a fun a6 bk a=>Vx (v:=U8 a6) (Run.indexBs JP rfl rfl bk)<|Vr (.bool ((a6.toNat:Int)==((93:UInt8).toNat:Int)))<|AA<|Cn a (fun bl a=>?_) fun bl a=>?_
 refine AM<|Va (.bool false)<|AA<|⟨_,ab,false,Pu,a,Rf⟩
 refine WC.skip<|⟨_,ab,w,Pu,a,Rf⟩
 rintro _ a5 ⟨l,aw,am,rfl,a,bm⟩
 rw [Hd] at a
 refine AM<|Vm<|Vr (I (Wr (h+1)))<|Va (I (Wr (h+1)))<|AA<|⟨r,Nat.lt_succ_self r,_,aw,(Wr (h+1)),am,Pu,(a4▸a),(T2 (Mo [] aj) al bm)⟩
 refine BZ<|Sr<|Vm<|Vm<|Vm<|Bi a fun a7 bn a=>Vx (v:=Sb a7) (Run.sliceStr JP rfl ⟨_,rfl⟩ ⟨_,rfl⟩ bn)<|Bi a fun c bo a=>Ca (Cg [Sb a7] rfl) (Sq g ab ak bo) ?_
 rintro _ ca ⟨bp,cb,rfl,ax,bq⟩
 obtain ⟨ad,ae,rfl,a8⟩:=E1 (Bm bq)
 refine Vm<|Vr (Ag [I c.1.type_,Cx c.1.num,.bool c.1.bool,Sl ad c.1.list ae])<|Vr (I c.2)<|Ef<|AU bp 20 FU rfl fun a9 cd cf br an=>have bt:=Ss Kd.cpx a8 an;Eu<|St GO br rfl rfl rfl rfl fun cg bu ao=>Va (I c.2)<|AA<|AY<|Sr<|Vm<|Vr (.bool (c.2 != 0))<|AA<|Cn a (fun bv a=>?_) fun bv a=>?_
 refine Sr<|Va (.slice none 0 0)<|Va (I 11)<|AA<|AW ?_
 obtain rfl:=AN a
 refine O2 B a1 rfl (.tmp rfl) (.tmp rfl)<|⟨a9,.slice none 0 0,rfl,Ho (Tn (T4 (Mo [20,22] ah) aj al ax an) ao) a0,Bd⟩
 refine WC.skip<|AM<|Vm<|Vx (Lx DX rfl rfl (Bw bu))<|Ef<|Bf (cs:=[I c.1.type_,Cx c.1.num,.bool c.1.bool,Sl ad c.1.list ae]) a9 21 [[I c.1.type_,Cx c.1.num,.bool c.1.bool,Sl ad c.1.list ae]] KG FU rfl rfl (.cons rfl rfl rfl .nil) rfl fun bw bx bz b0 ay=>have b1:=K2 Kd.cpx bt ao ay;have b2:Own A1 38 bw bx 21 (.slice (some ⟨bz,0,none⟩) 1 1) ([c.1]:List AH):=Own.lit (css:=[[I c.1.type_,Cx c.1.num,.bool c.1.bool,Sl ad c.1.list ae]]) b0 rfl rfl rfl (AQ (BD (x:=c.1) b1) Au) (Av rfl CP) rfl;have b3:=Os (Os (Os (Os (Os (Os ap aj) al) ax) an) ao) ay;Bi a fun ch ba a=>Ef<|Az (κ:=A1) rfl rfl b3 dcd X7 (BL b2) (CF ba) (CK ba) fun ci b4 cj bb b5=>?_
 obtain ⟨bc,bd,rfl⟩:=Own.len bb
 refine Va (Sl bc ((d++([c.1]:List AH))) bd)<|AA<|⟨o,Nat.lt_succ_self o,_,b4,(d++([c.1]:List AH)),bc,bd,h,Pu,(aq▸a),(T3 (T4 (Mo [20,22] ah) aj al ax an) ao ay b5),bb⟩
 refine BZ<|Sr<|Vm<|Va (Sl p d q)<|Va (I 0)<|AA<|AW ?_
 obtain ⟨b6,b7,b8⟩:=Own.freeze (S:=[22]) ap dcd dcd
 obtain rfl:=AN a
 refine O2 B a1 rfl (.tmp rfl) (.tmp rfl)<|⟨b6,Sl p d q,rfl,Ho (Tn (Mo [20,22] ah) b7) a0,b8⟩
theorem Su(c:Nat):GC.Spec (GC c):=lk0 (Rk c)
def B5.At(g:Col)(c:World)(f:D5→Option (AL×(List AH)×Bool)):Prop:=
 ∀{h l a},f h=some a→NP.rep g.F c l h→
  Calls PG 11 #[Ag l] c fun n d=>∃e m u1,n=.returned (.tuple #[Ag m,u1,.bool a.2.2])∧AS [] g c e d∧Cd.rep e.F d m a.1∧Slc A1 e.F d u1 a.2.1
def B5.Spec(f:D5→Option (AL×(List AH)×Bool)):Prop:=
 ∀a c,B5.At a c f
theorem Pn(m:Nat)(cl:Col)(er:World)(es:∀b,cl b<10):B5.At cl er (B5 m):=by
 intro o k8 d1 a et
 rw [B5] at a
 obtain ⟨w,y,rfl,r⟩:=E1 (P6 et)
 refine Ay Tryz.func11 rfl Tryz.ntmps11 rfl fun B eu c=>Sr<|Ef<|BX cl 20 rfl rfl fun ew la ex d2 s=>Ef<|AU ew 21 DS rfl fun bb ey cm d3 n=>Va (.slice none 0 0)<|Va (.bool false)<|AA<|An (fun cn az=>∃bc a0 co cq ap a1 a2 b2 d4,cn=Env.puts bc [(1,Pt ex 0),(2,Pt cm 0),(5,Pt co 0),(6,Pt cq 0)]∧Gb m o ap b2=some d1∧AS [22,23] bb ey a0 az∧Slc AI a0.F az (Sl a1 ap a2) ap∧Bk a0 az 22 co [Sl a1 ap a2] 28∧Bk a0 az 23 cq [I b2,I d4] 63) ?_ ?_
 refine B8 Eg (.q 0 (.q 1 (.three 2 7 8 (.three 3 7 8 (qs 4 3 (.two 7 8 (.one 8 (.one 9 (.one 10 .nil))) (.one 7 (.one 9 (.one 10 .nil))))) (.two 3 8 (qs 4 3 (.one 8 (.one 9 (.one 10 .nil)))) (.one 3 (qs 4 3 (.one 9 (.one 10 .nil))))) (.two 3 7 (qs 4 3 (.one 7 (.one 9 (.one 10 .nil)))) (.one 3 (qs 4 3 (.one 9 (.one 10 .nil)))))) (.two 2 8 (.two 3 8 (qs 4 3 (.one 8 (.one 9 (.one 10 .nil)))) (.one 3 (qs 4 3 (.one 9 (.one 10 .nil))))) (.one 2 (.one 3 (qs 4 3 (.one 9 (.one 10 .nil)))))) (.two 2 7 (.two 3 7 (qs 4 3 (.one 7 (.one 9 (.one 10 .nil)))) (.one 3 (qs 4 3 (.one 9 (.one 10 .nil))))) (.one 2 (.one 3 (qs 4 3 (.one 9 (.one 10 .nil))))))))) [10] [22] bb (by kernel_rfl) fun ez g=>Qx c rfl (fun _ _=>Fz X9 rfl)<|have e0:=Y2 d2 n g;Qx c rfl (fun _ ⟨_,d⟩=>Ld AAg rfl (Bc (Bs e0 d) rfl))<|P4 rfl rfl rfl ?_ ?_ ?_
 refine Bi a fun f e1 a=>BM rfl (.none rfl) rfl rfl (Cg [] rfl)<|Calls.mono (K1 bb ez e1) ?_
 rintro _ e2 ⟨cr,lb,rfl,e,e3⟩
 obtain rfl:=KB e3
 refine ⟨_,rfl,⟨_,(Mo [22] e)⟩,?_⟩
 refine P4 rfl rfl rfl ?_ ?_ ?_
 refine have e4:=K4 Kd.u8 r s n g e;Bi a fun u e5 a=>BM rfl (.none rfl) rfl rfl (Cg [Sl w o.text y,Ag [I f.text,I f.funcs,I f.arity,I f.nest]] rfl)<|Calls.mono (E6 m cr e2 e5 e4 (E7 (x:=f))) ?_
 rintro _ lc ⟨d5,ld,le,rfl,ae,e6,e7⟩
 obtain ⟨b3,b4,rfl,ct⟩:=E1 (BN e6)
 obtain rfl:=Aq e7
 refine ⟨_,rfl,⟨_,(Tn (Mo [22] e) ae)⟩,?_⟩
 refine Qx c rfl (v:=.tuple #[Ag [Sl b3 u.1.funcs b4],Ag [I u.2.why,I u.2.at_]]) (fun _ _=>Mv rfl)<|Qx c rfl (v:=Ag [Sl b3 u.1.funcs b4]) (fun _ _=>rfl)<|Qx c rfl (v:=Ag [I u.2.why,I u.2.at_]) (fun _ _=>rfl)<|KE rfl rfl ?_ ?_
 refine Aw rfl (.none rfl) rfl rfl<|AU d5 22 DS rfl fun e8 lg e9 fa bd=>⟨⟨_,(T2 (Mo [22] e) ae bd)⟩,?_⟩
 refine A5 rfl<|Aw rfl (.none rfl) rfl rfl<|AU e8 23 E3 rfl fun fb lh fc fd be=>⟨⟨_,(T3 (Mo [22] e) ae bd be)⟩,?_⟩
 refine A5 rfl<|have fe:=Bs fa be;have ff:=K2 AI ct bd be;BC rfl (.none rfl) rfl<|St EZ fe rfl rfl rfl rfl fun li fg b5=>⟨⟨_,(T4 (Mo [22] e) ae bd be b5)⟩,?_⟩
 refine CX dcd<|WY.one<|have fh:=Bs fd b5;BC rfl (.none rfl) rfl<|St G6 fh rfl rfl rfl rfl fun lj fi cu=>WY.nil<|have fj:=K2 AI ff b5 cu;have fk:=Bs fg cu;⟨_,fb,e9,fc,u.1.funcs,b3,b4,u.2.why,u.2.at_,Pu,a,(T2 (T4 (Mo [22,23] g) e ae bd be) b5 cu),fj,fk,fi⟩
 refine Aw rfl (.none rfl) rfl rfl<|AU d5 23 E3 rfl fun fl lk fm fn bf=>⟨⟨_,(T2 (Mo [22] e) ae bf)⟩,?_⟩
 refine A5 rfl<|Aw rfl (.none rfl) rfl rfl<|AU fl 22 DS rfl fun fo ll fp fq bg=>⟨⟨_,(T3 (Mo [22] e) ae bf bg)⟩,?_⟩
 refine A5 rfl<|have fr:=K2 AI ct bf bg;BC rfl (.none rfl) rfl<|St EZ fq rfl rfl rfl rfl fun lm fs b6=>⟨⟨_,(T4 (Mo [22] e) ae bf bg b6)⟩,?_⟩
 refine CX dcd<|WY.one<|have ft:=Y2 fn bg b6;BC rfl (.none rfl) rfl<|St G6 ft rfl rfl rfl rfl fun ln fu cv=>WY.nil<|have fv:=K2 AI fr b6 cv;have fw:=Bs fs cv;⟨_,fo,fp,fm,u.1.funcs,b3,b4,u.2.why,u.2.at_,Pu,a,(T2 (T4 (Mo [22,23] g) e ae bf bg) b6 cv),fv,fw,fu⟩
 refine Aw rfl (.none rfl) rfl rfl<|AU cr 22 DS rfl fun d6 fx d7 d8 z=>⟨⟨_,(Tn (Mo [22] e) z)⟩,?_⟩
 refine KE rfl rfl ?_ ?_
 refine have fy:=Ss Kd.u8 (K4 Kd.u8 r s n g e) z;Bi a fun af fz a=>BM rfl (.none rfl) rfl rfl (Cg [Sl w o.text y,Ag [I f.text,I f.funcs,I f.arity,I f.nest]] rfl)<|Calls.mono (E6 m d6 fx fz fy (E7 (x:=f))) ?_
 rintro _ lo ⟨f0,lp,lq,rfl,bh,f1,f2⟩
 obtain ⟨cw,cx,rfl,d9⟩:=E1 (BN f1)
 obtain rfl:=Aq f2
 refine ⟨_,rfl,⟨_,(T2 (Mo [22] e) z bh)⟩,?_⟩
 refine Qx c rfl (v:=.tuple #[Ag [Sl cw af.1.funcs cx],Ag [I af.2.why,I af.2.at_]]) (fun _ _=>Mv rfl)<|Qx c rfl (v:=Ag [Sl cw af.1.funcs cx]) (fun _ _=>rfl)<|Qx c rfl (v:=Ag [I af.2.why,I af.2.at_]) (fun _ _=>rfl)<|A5 rfl<|Aw rfl (.none rfl) rfl rfl<|AU f0 23 E3 rfl fun f3 ls f4 f5 bi=>⟨⟨_,(T3 (Mo [22] e) z bh bi)⟩,?_⟩
 refine A5 rfl<|have f6:=Y2 d8 bh bi;have f7:=Ss AI d9 bi;BC rfl (.none rfl) rfl<|St EZ f6 rfl rfl rfl rfl fun lt f8 b7=>⟨⟨_,(T4 (Mo [22] e) z bh bi b7)⟩,?_⟩
 refine CX dcd<|WY.one<|have f9:=Bs f5 b7;BC rfl (.none rfl) rfl<|St G6 f9 rfl rfl rfl rfl fun lu ga cy=>WY.nil<|have gb:=K2 AI f7 b7 cy;have gc:=Bs f8 cy;⟨_,f3,d7,f4,af.1.funcs,cw,cx,af.2.why,af.2.at_,Pu,a,(T2 (T4 (Mo [22,23] g) e z bh bi) b7 cy),gb,gc,ga⟩
 refine Aw rfl (.none rfl) rfl rfl<|AU d6 23 E3 rfl fun gd ge gf gg a3=>⟨⟨_,(T2 (Mo [22] e) z a3)⟩,?_⟩
 refine A5 rfl<|have gh:=K2 Kd.u8 (K4 Kd.u8 r s n g e) z a3;Bi a fun ag gi a=>BM rfl (.none rfl) rfl rfl (Cg [Sl w o.text y,Ag [I f.text,I f.funcs,I f.arity,I f.nest]] rfl)<|Calls.mono (E6 m gd ge gi gh (E7 (x:=f))) ?_
 rintro _ lv ⟨gj,lw,lx,rfl,bj,gk,gl⟩
 obtain ⟨cz,c0,rfl,ea⟩:=E1 (BN gk)
 obtain rfl:=Aq gl
 refine ⟨_,rfl,⟨_,(T3 (Mo [22] e) z a3 bj)⟩,?_⟩
 refine Qx c rfl (v:=.tuple #[Ag [Sl cz ag.1.funcs c0],Ag [I ag.2.why,I ag.2.at_]]) (fun _ _=>Mv rfl)<|Qx c rfl (v:=Ag [Sl cz ag.1.funcs c0]) (fun _ _=>rfl)<|Qx c rfl (v:=Ag [I ag.2.why,I ag.2.at_]) (fun _ _=>rfl)<|A5 rfl<|have gm:=Y2 d8 a3 bj;BC rfl (.none rfl) rfl<|St EZ gm rfl rfl rfl rfl fun lz gn b8=>⟨⟨_,(T4 (Mo [22] e) z a3 bj b8)⟩,?_⟩
 refine CX dcd<|WY.one<|have go:=Y2 gg bj b8;BC rfl (.none rfl) rfl<|St G6 go rfl rfl rfl rfl fun l0 gp c1=>WY.nil<|have gq:=K2 AI ea b8 c1;have gr:=Bs gn c1;⟨_,gj,d7,gf,ag.1.funcs,cz,c0,ag.2.why,ag.2.at_,Pu,a,(T2 (T4 (Mo [22,23] g) e z a3 bj) b8 c1),gq,gr,gp⟩
 refine Aw rfl (.none rfl) rfl rfl<|AU cr 23 E3 rfl fun eb gs ec ed aa=>⟨⟨_,(Tn (Mo [22] e) aa)⟩,?_⟩
 refine KE rfl rfl ?_ ?_
 refine have gt:=Ss Kd.u8 (K4 Kd.u8 r s n g e) aa;Bi a fun ah gu a=>BM rfl (.none rfl) rfl rfl (Cg [Sl w o.text y,Ag [I f.text,I f.funcs,I f.arity,I f.nest]] rfl)<|Calls.mono (E6 m eb gs gu gt (E7 (x:=f))) ?_
 rintro _ l1 ⟨gv,l2,l3,rfl,bk,gw,gx⟩
 obtain ⟨c2,c3,rfl,ee⟩:=E1 (BN gw)
 obtain rfl:=Aq gx
 refine ⟨_,rfl,⟨_,(T2 (Mo [22] e) aa bk)⟩,?_⟩
 refine Qx c rfl (v:=.tuple #[Ag [Sl c2 ah.1.funcs c3],Ag [I ah.2.why,I ah.2.at_]]) (fun _ _=>Mv rfl)<|Qx c rfl (v:=Ag [Sl c2 ah.1.funcs c3]) (fun _ _=>rfl)<|Qx c rfl (v:=Ag [I ah.2.why,I ah.2.at_]) (fun _ _=>rfl)<|A5 rfl<|Aw rfl (.none rfl) rfl rfl<|AU gv 22 DS rfl fun gy l5 gz g0 bl=>⟨⟨_,(T3 (Mo [22] e) aa bk bl)⟩,?_⟩
 refine A5 rfl<|have g1:=Ss AI ee bl;BC rfl (.none rfl) rfl<|St EZ g0 rfl rfl rfl rfl fun l6 g2 b9=>⟨⟨_,(T4 (Mo [22] e) aa bk bl b9)⟩,?_⟩
 refine CX dcd<|WY.one<|have g3:=Y3 ed bk bl b9;BC rfl (.none rfl) rfl<|St G6 g3 rfl rfl rfl rfl fun l7 g4 c4=>WY.nil<|have g5:=K2 AI g1 b9 c4;have g6:=Bs g2 c4;⟨_,gy,gz,ec,ah.1.funcs,c2,c3,ah.2.why,ah.2.at_,Pu,a,(T2 (T4 (Mo [22,23] g) e aa bk bl) b9 c4),g5,g6,g4⟩
 refine Aw rfl (.none rfl) rfl rfl<|AU eb 22 DS rfl fun g7 g8 g9 ha a4=>⟨⟨_,(T2 (Mo [22] e) aa a4)⟩,?_⟩
 refine A5 rfl<|have hb:=K2 Kd.u8 (K4 Kd.u8 r s n g e) aa a4;Bi a fun ai hc a=>BM rfl (.none rfl) rfl rfl (Cg [Sl w o.text y,Ag [I f.text,I f.funcs,I f.arity,I f.nest]] rfl)<|Calls.mono (E6 m g7 g8 hc hb (E7 (x:=f))) ?_
 rintro _ l8 ⟨hd,l9,ma,rfl,bm,he,hf⟩
 obtain ⟨c5,c6,rfl,ef⟩:=E1 (BN he)
 obtain rfl:=Aq hf
 refine ⟨_,rfl,⟨_,(T3 (Mo [22] e) aa a4 bm)⟩,?_⟩
 refine Qx c rfl (v:=.tuple #[Ag [Sl c5 ai.1.funcs c6],Ag [I ai.2.why,I ai.2.at_]]) (fun _ _=>Mv rfl)<|Qx c rfl (v:=Ag [Sl c5 ai.1.funcs c6]) (fun _ _=>rfl)<|Qx c rfl (v:=Ag [I ai.2.why,I ai.2.at_]) (fun _ _=>rfl)<|A5 rfl<|have hg:=Bs ha bm;BC rfl (.none rfl) rfl<|St EZ hg rfl rfl rfl rfl fun mc hh ca=>⟨⟨_,(T4 (Mo [22] e) aa a4 bm ca)⟩,?_⟩
 refine CX dcd<|WY.one<|have hi:=Y3 ed a4 bm ca;BC rfl (.none rfl) rfl<|St G6 hi rfl rfl rfl rfl fun md hj c7=>WY.nil<|have hk:=K2 AI ef ca c7;have hl:=Bs hh c7;⟨_,hd,g9,ec,ai.1.funcs,c5,c6,ai.2.why,ai.2.at_,Pu,a,(T2 (T4 (Mo [22,23] g) e aa a4 bm) ca c7),hk,hl,hj⟩
 refine Aw rfl (.none rfl) rfl rfl<|AU bb 22 DS rfl fun eg hm c8 c9 h=>⟨⟨_,(Mo [22] h)⟩,?_⟩
 refine KE rfl rfl ?_ ?_
 refine Bi a fun ac hn a=>BM rfl (.none rfl) rfl rfl (Cg [] rfl)<|Calls.mono (K1 eg hm hn) ?_
 rintro _ ho ⟨eh,me,rfl,p,hp⟩
 obtain rfl:=KB hp
 refine ⟨_,rfl,⟨_,(Tn (Mo [22] h) p)⟩,?_⟩
 refine KE rfl rfl ?_ ?_
 refine have hq:=Ss Kd.u8 (K4 Kd.u8 r s n g h) p;Bi a fun aj hr a=>BM rfl (.none rfl) rfl rfl (Cg [Sl w o.text y,Ag [I ac.text,I ac.funcs,I ac.arity,I ac.nest]] rfl)<|Calls.mono (E6 m eh ho hr hq (E7 (x:=ac))) ?_
 rintro _ mf ⟨hs,mg,mh,rfl,bn,ht,hu⟩
 obtain ⟨da,db,rfl,ei⟩:=E1 (BN ht)
 obtain rfl:=Aq hu
 refine ⟨_,rfl,⟨_,(T2 (Mo [22] h) p bn)⟩,?_⟩
 refine Qx c rfl (v:=.tuple #[Ag [Sl da aj.1.funcs db],Ag [I aj.2.why,I aj.2.at_]]) (fun _ _=>Mv rfl)<|Qx c rfl (v:=Ag [Sl da aj.1.funcs db]) (fun _ _=>rfl)<|Qx c rfl (v:=Ag [I aj.2.why,I aj.2.at_]) (fun _ _=>rfl)<|A5 rfl<|Aw rfl (.none rfl) rfl rfl<|AU hs 23 E3 rfl fun hw mj hx hy bo=>⟨⟨_,(T3 (Mo [22] h) p bn bo)⟩,?_⟩
 refine A5 rfl<|have hz:=Y3 c9 p bn bo;have h0:=Ss AI ei bo;BC rfl (.none rfl) rfl<|St EZ hz rfl rfl rfl rfl fun mk h1 cb=>⟨⟨_,(T4 (Mo [22] h) p bn bo cb)⟩,?_⟩
 refine CX dcd<|WY.one<|have h2:=Bs hy cb;BC rfl (.none rfl) rfl<|St G6 h2 rfl rfl rfl rfl fun ml h3 dc=>WY.nil<|have h4:=K2 AI h0 cb dc;have h5:=Bs h1 dc;⟨_,hw,c8,hx,aj.1.funcs,da,db,aj.2.why,aj.2.at_,Pu,a,(T2 (T4 (Mo [22,23] g) h p bn bo) cb dc),h4,h5,h3⟩
 refine Aw rfl (.none rfl) rfl rfl<|AU eh 23 E3 rfl fun h6 h7 h8 h9 a5=>⟨⟨_,(T2 (Mo [22] h) p a5)⟩,?_⟩
 refine A5 rfl<|have ia:=K2 Kd.u8 (K4 Kd.u8 r s n g h) p a5;Bi a fun ak ib a=>BM rfl (.none rfl) rfl rfl (Cg [Sl w o.text y,Ag [I ac.text,I ac.funcs,I ac.arity,I ac.nest]] rfl)<|Calls.mono (E6 m h6 h7 ib ia (E7 (x:=ac))) ?_
 rintro _ mm ⟨ic,mn,mo,rfl,bp,id,ie⟩
 obtain ⟨de,df,rfl,ej⟩:=E1 (BN id)
 obtain rfl:=Aq ie
 refine ⟨_,rfl,⟨_,(T3 (Mo [22] h) p a5 bp)⟩,?_⟩
 refine Qx c rfl (v:=.tuple #[Ag [Sl de ak.1.funcs df],Ag [I ak.2.why,I ak.2.at_]]) (fun _ _=>Mv rfl)<|Qx c rfl (v:=Ag [Sl de ak.1.funcs df]) (fun _ _=>rfl)<|Qx c rfl (v:=Ag [I ak.2.why,I ak.2.at_]) (fun _ _=>rfl)<|A5 rfl<|have ig:=Y3 c9 p a5 bp;BC rfl (.none rfl) rfl<|St EZ ig rfl rfl rfl rfl fun mq ih cc=>⟨⟨_,(T4 (Mo [22] h) p a5 bp cc)⟩,?_⟩
 refine CX dcd<|WY.one<|have ii:=Y2 h9 bp cc;BC rfl (.none rfl) rfl<|St G6 ii rfl rfl rfl rfl fun mr ij dg=>WY.nil<|have ik:=K2 AI ej cc dg;have il:=Bs ih dg;⟨_,ic,c8,h8,ak.1.funcs,de,df,ak.2.why,ak.2.at_,Pu,a,(T2 (T4 (Mo [22,23] g) h p a5 bp) cc dg),ik,il,ij⟩
 refine Aw rfl (.none rfl) rfl rfl<|AU eg 23 E3 rfl fun im io ip iq ar=>⟨⟨_,(Tn (Mo [22] h) ar)⟩,?_⟩
 refine A5 rfl<|Bi a fun bq ir a=>BM rfl (.none rfl) rfl rfl (Cg [] rfl)<|Calls.mono (K1 im io ir) ?_
 rintro _ it ⟨iu,ms,rfl,au,iv⟩
 obtain rfl:=KB iv
 refine ⟨_,rfl,⟨_,(T2 (Mo [22] h) ar au)⟩,?_⟩
 refine A5 rfl<|have iw:=K2 Kd.u8 (K4 Kd.u8 r s n g h) ar au;Bi a fun al ix a=>BM rfl (.none rfl) rfl rfl (Cg [Sl w o.text y,Ag [I bq.text,I bq.funcs,I bq.arity,I bq.nest]] rfl)<|Calls.mono (E6 m iu it ix iw (E7 (x:=bq))) ?_
 rintro _ mt ⟨iy,mu,mv,rfl,br,iz,i0⟩
 obtain ⟨dh,di,rfl,ek⟩:=E1 (BN iz)
 obtain rfl:=Aq i0
 refine ⟨_,rfl,⟨_,(T3 (Mo [22] h) ar au br)⟩,?_⟩
 refine Qx c rfl (v:=.tuple #[Ag [Sl dh al.1.funcs di],Ag [I al.2.why,I al.2.at_]]) (fun _ _=>Mv rfl)<|Qx c rfl (v:=Ag [Sl dh al.1.funcs di]) (fun _ _=>rfl)<|Qx c rfl (v:=Ag [I al.2.why,I al.2.at_]) (fun _ _=>rfl)<|A5 rfl<|have i1:=Y3 c9 ar au br;BC rfl (.none rfl) rfl<|St EZ i1 rfl rfl rfl rfl fun mx i2 cd=>⟨⟨_,(T4 (Mo [22] h) ar au br cd)⟩,?_⟩
 refine CX dcd<|WY.one<|have i3:=Y3 iq au br cd;BC rfl (.none rfl) rfl<|St G6 i3 rfl rfl rfl rfl fun my i4 dj=>WY.nil<|have i5:=K2 AI ek cd dj;have i6:=Bs i2 dj;⟨_,iy,c8,ip,al.1.funcs,dh,di,al.2.why,al.2.at_,Pu,a,(T2 (T4 (Mo [22,23] g) h ar au br) cd dj),i5,i6,i4⟩
 refine Aw rfl (.none rfl) rfl rfl<|AU bb 23 E3 rfl fun el i7 dk dl l=>⟨⟨_,(Mo [22] l)⟩,?_⟩
 refine KE rfl rfl ?_ ?_
 refine Bi a fun ad i8 a=>BM rfl (.none rfl) rfl rfl (Cg [] rfl)<|Calls.mono (K1 el i7 i8) ?_
 rintro _ i9 ⟨em,mz,rfl,q,ja⟩
 obtain rfl:=KB ja
 refine ⟨_,rfl,⟨_,(Tn (Mo [22] l) q)⟩,?_⟩
 refine KE rfl rfl ?_ ?_
 refine have jb:=Ss Kd.u8 (K4 Kd.u8 r s n g l) q;Bi a fun am jc a=>BM rfl (.none rfl) rfl rfl (Cg [Sl w o.text y,Ag [I ad.text,I ad.funcs,I ad.arity,I ad.nest]] rfl)<|Calls.mono (E6 m em i9 jc jb (E7 (x:=ad))) ?_
 rintro _ m0 ⟨jd,m1,m2,rfl,bt,je,jf⟩
 obtain ⟨dm,dn,rfl,en⟩:=E1 (BN je)
 obtain rfl:=Aq jf
 refine ⟨_,rfl,⟨_,(T2 (Mo [22] l) q bt)⟩,?_⟩
 refine Qx c rfl (v:=.tuple #[Ag [Sl dm am.1.funcs dn],Ag [I am.2.why,I am.2.at_]]) (fun _ _=>Mv rfl)<|Qx c rfl (v:=Ag [Sl dm am.1.funcs dn]) (fun _ _=>rfl)<|Qx c rfl (v:=Ag [I am.2.why,I am.2.at_]) (fun _ _=>rfl)<|A5 rfl<|Aw rfl (.none rfl) rfl rfl<|AU jd 22 DS rfl fun jg m4 jh ji bu=>⟨⟨_,(T3 (Mo [22] l) q bt bu)⟩,?_⟩
 refine A5 rfl<|have jj:=Ss AI en bu;BC rfl (.none rfl) rfl<|St EZ ji rfl rfl rfl rfl fun m5 jk cf=>⟨⟨_,(T4 (Mo [22] l) q bt bu cf)⟩,?_⟩
 refine CX dcd<|WY.one<|have jl:=Y4 dl q bt bu cf;BC rfl (.none rfl) rfl<|St G6 jl rfl rfl rfl rfl fun m6 jm dp=>WY.nil<|have jn:=K2 AI jj cf dp;have jo:=Bs jk dp;⟨_,jg,jh,dk,am.1.funcs,dm,dn,am.2.why,am.2.at_,Pu,a,(T2 (T4 (Mo [22,23] g) l q bt bu) cf dp),jn,jo,jm⟩
 refine Aw rfl (.none rfl) rfl rfl<|AU em 22 DS rfl fun jp jq jr js a6=>⟨⟨_,(T2 (Mo [22] l) q a6)⟩,?_⟩
 refine A5 rfl<|have jt:=K2 Kd.u8 (K4 Kd.u8 r s n g l) q a6;Bi a fun an ju a=>BM rfl (.none rfl) rfl rfl (Cg [Sl w o.text y,Ag [I ad.text,I ad.funcs,I ad.arity,I ad.nest]] rfl)<|Calls.mono (E6 m jp jq ju jt (E7 (x:=ad))) ?_
 rintro _ m7 ⟨jv,m8,m9,rfl,bv,jw,jx⟩
 obtain ⟨dq,dr,rfl,eo⟩:=E1 (BN jw)
 obtain rfl:=Aq jx
 refine ⟨_,rfl,⟨_,(T3 (Mo [22] l) q a6 bv)⟩,?_⟩
 refine Qx c rfl (v:=.tuple #[Ag [Sl dq an.1.funcs dr],Ag [I an.2.why,I an.2.at_]]) (fun _ _=>Mv rfl)<|Qx c rfl (v:=Ag [Sl dq an.1.funcs dr]) (fun _ _=>rfl)<|Qx c rfl (v:=Ag [I an.2.why,I an.2.at_]) (fun _ _=>rfl)<|A5 rfl<|have jy:=Bs js bv;BC rfl (.none rfl) rfl<|St EZ jy rfl rfl rfl rfl fun nb jz cg=>⟨⟨_,(T4 (Mo [22] l) q a6 bv cg)⟩,?_⟩
 refine CX dcd<|WY.one<|have j0:=Y4 dl q a6 bv cg;BC rfl (.none rfl) rfl<|St G6 j0 rfl rfl rfl rfl fun nc j1 ds=>WY.nil<|have j2:=K2 AI eo cg ds;have j3:=Bs jz ds;⟨_,jv,jr,dk,an.1.funcs,dq,dr,an.2.why,an.2.at_,Pu,a,(T2 (T4 (Mo [22,23] g) l q a6 bv) cg ds),j2,j3,j1⟩
 refine Aw rfl (.none rfl) rfl rfl<|AU el 22 DS rfl fun j4 j5 j6 j7 av=>⟨⟨_,(Tn (Mo [22] l) av)⟩,?_⟩
 refine A5 rfl<|Bi a fun bw j8 a=>BM rfl (.none rfl) rfl rfl (Cg [] rfl)<|Calls.mono (K1 j4 j5 j8) ?_
 rintro _ j9 ⟨ka,nd,rfl,aw,kb⟩
 obtain rfl:=KB kb
 refine ⟨_,rfl,⟨_,(T2 (Mo [22] l) av aw)⟩,?_⟩
 refine A5 rfl<|have kc:=K2 Kd.u8 (K4 Kd.u8 r s n g l) av aw;Bi a fun ao kd a=>BM rfl (.none rfl) rfl rfl (Cg [Sl w o.text y,Ag [I bw.text,I bw.funcs,I bw.arity,I bw.nest]] rfl)<|Calls.mono (E6 m ka j9 kd kc (E7 (x:=bw))) ?_
 rintro _ ne ⟨ke,nf,ng,rfl,bx,kf,kg⟩
 obtain ⟨dt,du,rfl,ep⟩:=E1 (BN kf)
 obtain rfl:=Aq kg
 refine ⟨_,rfl,⟨_,(T3 (Mo [22] l) av aw bx)⟩,?_⟩
 refine Qx c rfl (v:=.tuple #[Ag [Sl dt ao.1.funcs du],Ag [I ao.2.why,I ao.2.at_]]) (fun _ _=>Mv rfl)<|Qx c rfl (v:=Ag [Sl dt ao.1.funcs du]) (fun _ _=>rfl)<|Qx c rfl (v:=Ag [I ao.2.why,I ao.2.at_]) (fun _ _=>rfl)<|A5 rfl<|have kh:=Y2 j7 aw bx;BC rfl (.none rfl) rfl<|St EZ kh rfl rfl rfl rfl fun ni ki ch=>⟨⟨_,(T4 (Mo [22] l) av aw bx ch)⟩,?_⟩
 refine CX dcd<|WY.one<|have kj:=Y4 dl av aw bx ch;BC rfl (.none rfl) rfl<|St G6 kj rfl rfl rfl rfl fun nj kk dv=>WY.nil<|have kl:=K2 AI ep ch dv;have km:=Bs ki dv;⟨_,ke,j6,dk,ao.1.funcs,dt,du,ao.2.why,ao.2.at_,Pu,a,(T2 (T4 (Mo [22,23] g) l av aw bx) ch dv),kl,km,kk⟩
 rintro _ az ⟨bc,a0,co,cq,ap,a1,a2,b2,d4,rfl,a,ci,eq,kn,ko⟩
 rw [Gb] at a
 refine Sr<|Vx (Fd YA rfl)<|have kp:=Y2 d2 n ci;Vx (Ld CS rfl (Bc kp rfl))<|Bi a fun ab kq a=>Ca (Cg [Sb o.args] rfl) (Su m a0 az kq) ?_
 rintro _ kr ⟨dw,nk,rfl,ax,dx⟩
 obtain ⟨a7,a8,rfl⟩:=AR dx
 refine Vm<|Vr (Sl a7 ab.1 a8)<|Vr (I ab.2)<|Va (Sl a7 ab.1 a8)<|Va (I ab.2)<|AA<|An (fun cn bz=>∃bc a9 ba cj ck dy aq b0 b1,cn=Env.puts bc [(2,Pt cm 0),(3,Sl cj ba ck),(4,.bool dy)]∧I2 ba dy aq=some d1∧AS [21] dw kr a9 bz∧Slc A1 a9.F bz (Sl cj ba ck) ba∧Slc AI a9.F bz (Sl b0 aq b1) aq∧Bk a9 bz 21 cm [Sl b0 aq b1] 28) ?_ ?_
 refine AM<|have ks:=Bs kn ax;Vx (Lx Gl rfl rfl (Bw ks))<|Vm<|Vx (Fz Mc rfl)<|have kt:=Bs ko ax;Vx (Ld LE rfl (Bc kt rfl))<|Vr (.bool (b2==0))<|Vm<|Bo a (fun ay a=>?_) fun ay a=>?_
 refine Gm ay<|Gr ay (.bool (ab.2==0))<|Vp ay<|have ku:=Y2 d3 ci ax;have kv:=Ss AI eq ax;Eu<|St EZ ku rfl rfl rfl rfl fun nl kw dz=>Va (Sl a7 ab.1 a8)<|Va (.bool (ab.2==0))<|AA<|have kx:=Ss A1 dx dz;have ky:=Ss AI kv dz;⟨_,dw,ab.1,a7,a8,(ab.2==0),ap,a1,a2,Pu,a,(Mo [21] dz),kx,ky,kw⟩
 refine Pg ay<|Pg ay<|Vp ay<|have kz:=Y2 d3 ci ax;have k0:=Ss AI eq ax;Eu<|St EZ kz rfl rfl rfl rfl fun nm k1 d0=>Va (Sl a7 ab.1 a8)<|Va (.bool false)<|AA<|have k2:=Ss A1 dx d0;have k3:=Ss AI k0 d0;⟨_,dw,ab.1,a7,a8,false,ap,a1,a2,Pu,a,(Mo [21] d0),k2,k3,k1⟩
 rintro _ bz ⟨bc,a9,ba,cj,ck,dy,aq,b0,b1,rfl,a,k4,k5,k6,k7⟩
 rw [I2] at a
 refine AW ?_
 obtain rfl:=AN a
 refine Xb (B:=B) eu<|ABh rfl (.agg Gl rfl rfl (Bw k7)) (.tmp rfl) (.tmp rfl)<|⟨a9,[Sl b0 aq b1],Sl cj ba ck,rfl,Ho (T4 (Mo [21,22,23] s) n ci ax k4) es,(BH (x:=(AL.mk aq)) k6),k5⟩
theorem M3(c:Nat):B5.Spec (B5 c):=lk0 (Pn c)
def Dr.At(G1 G2:Prop)(c:Col)(a:World)(f:Int→Int→AF→Option AF)(d:Nat):Prop:=
 ∀{l m e n o p},f l m n=some p→G1→G2→Bk c a d e o 63→Am.rep c.F a o n→
  Calls PG 79 #[I l,I m,Pt e 0] a fun r g=>∃h q,r=.returned (.tuple #[])∧AS [d] c a h g∧Bk h g d e q 63∧Am.rep h.F g q p
def Dr.Spec(f:Int→Int→AF→Option AF):Prop:=
 ∀c d {a},Dr.At ([a].Nodup) (0∉[a]) c d f a
theorem QE(f:Col)(o:World)(p:∀b,f b<10):Dr.At True True f o Dr 1:=by
 intro g d u e af w a _ _ h y
 rw [Dr] at a
 obtain rfl:=Aq y
 refine Ay Tryz.func79 rfl Tryz.ntmps79 rfl fun B q ag=>An (fun z r=>∃s l n,z=Env.puts s [(0,I g),(1,I d),(2,Pt u 0),(13,.bool n)]∧JW g d e n=some w∧AS [] f o l r) ?_ ?_
 refine AM<|Vx (Fz Mc rfl)<|Vx (Ld LE rfl (Bc h rfl))<|Vr (.bool (e.why==0))<|Vm<|Bo a (fun c a=>?_) fun c a=>?_
 refine Pg c<|Pg c<|Pg c<|Pg c<|Vp c<|AA<|⟨_,f,true,Pu,a,Rf⟩
 refine Gm c<|Gx c (Fd OY rfl)<|Gx c (Ld CD rfl (Bc h rfl))<|Gr c (.bool (decide (d<e.at_)))<|Vp c<|AA<|⟨_,f,(decide (d<e.at_)),Pu,a,Rf⟩
 rintro _ r ⟨s,l,n,rfl,a,m⟩
 rw [JW] at a
 refine Cn a (fun aa a=>?_) fun aa a=>?_
 refine AM<|Vm<|Vm<|Vx (v:=Ag [I g,I d]) (Bp E3 MF rfl (.cons rfl rfl rfl (.cons rfl rfl rfl .nil)))<|have ab:=Bs h m;Eu<|St G6 ab rfl rfl rfl rfl fun ah ac ad=>AA ?_
 obtain rfl:=AN a
 refine MX (B:=B) q<|MW rfl<|⟨l,[I g,I d],rfl,Ho (Tn (Mo [1] m) ad) p,ac,(Ah (x:=(AF.mk g d)))⟩
 refine WC.skip ?_
 obtain rfl:=AN a
 refine MX (B:=B) q<|MW rfl<|have ae:=Bs h m;⟨l,[I e.why,I e.at_],rfl,Ho (Mo [] m) p,ae,(Ah (x:=e))⟩
theorem Jo:Dr.Spec Dr:=lk1 (QE)
def Fn.At(G1 G2:Prop)(c:Col)(a:World)(f:AB→Ao→Ao→AF→AL→Option AF)(ad ae af ag d ah:Nat):Prop:=
 ∀{l m n o p q r s e u w y z aa ab},f l o r u z=some ab→G1→G2→AJ.rep c.F a m l→Mp c a ad n o→Bk c a ae p [.map (some q)] 81→Mp c a af q r→Bk c a ag s [.func (.func 79) #[] [Pt e 0].toArray] 169→Bk c a d e w 63→Am.rep c.F a w u→Bk c a ah y aa 28→Cd.rep c.F a aa z→
  Calls PG 81 #[Ag m,.map (some n),Pt p 0,Pt s 0,Pt y 0] a fun ai g=>∃h ac,ai=.returned (.tuple #[])∧AS [d] c a h g∧Bk h g d e ac 63∧Am.rep h.F g ac ab
def Fn.Spec(f:AB→Ao→Ao→AF→AL→Option AF):Prop:=
 ∀l m {a c d e g h},Fn.At ([a,c,d,e,g,h].Nodup) (0∉[a,c,d,e,g,h]) l m f a c d e g h
theorem QF(ai:Col)(a5:World)(ab:∀b,ai b<10):Fn.At True True ai a5 Fn 1 2 3 4 5 6:=by
 intro d cu cv ac cw cx n aj ak o cy az a0 cz al a _ _ a6 a7 a8 a9 am ad ba bb bc
 rw [Fn] at a
 obtain ⟨c1,c2,rfl,a1⟩:=E1 (Ai a6)
 obtain rfl:=Aq ba
 obtain ⟨c4,c5,rfl,a2⟩:=E1 (BN bc)
 refine Ay Tryz.func81 rfl Tryz.ntmps81 rfl fun B ae c=>Sr<|Ef<|BX ai 20 rfl rfl fun an bd ao p h=>AA<|Sr<|have be:=Bs a8 h;Vx (Ld Oc rfl (Bc be rfl))<|Vx (Fd EV rfl)<|Vx (Ld CS rfl (Bc p rfl))<|have bf:=Ms a9 h;Vx (v:=I (Ck n d.name)) (Jt Ko rfl rfl bf)<|Va (I (Ck n d.name))<|AA<|Ad<|An (fun z af=>∃q u ap,z=Env.puts q [(3,Pt aj 0),(4,Pt az 0),(5,Pt ao 0),(7,I (Ck n d.name)),(12,.bool ap)]∧HE d n o a0 ap=some al∧AS [] an bd u af) ?_ ?_
 refine AM<|Vx (Fz DW rfl)<|Vx (Ld Hr rfl (Bc p rfl))<|Vr (.bool (d.op==6))<|Vm<|Bo a (fun m a=>?_) fun m a=>?_
 refine Gm m<|Gx m (Fd EV rfl)<|Gx m (Ld CS rfl (Bc p rfl))<|have bg:=Ms a7 h;Gx m (v:=I (Ck ac d.name)) (Jt Ko rfl rfl bg)<|Gr m (.bool ((Ck ac d.name)==0))<|Vp m<|Va (.bool ((Ck ac d.name)==0))<|AA<|⟨_,an,((Ck ac d.name)==0),Pu,a,Rf⟩
 refine Pg m<|Pg m<|Pg m<|Pg m<|Pg m<|Vp m<|Va (.bool false)<|AA<|⟨_,an,false,Pu,a,Rf⟩
 rintro _ af ⟨q,u,ap,rfl,a,g⟩
 rw [HE] at a
 refine Cn a (fun bh a=>?_) fun bh a=>?_
 refine AM<|have bi:=Y2 am h g;Vx (Ld QB rfl (Bc bi rfl))<|Vx (Fd L8 rfl)<|have bj:=Bs p g;Vx (Ld CD rfl (Bc bj rfl))<|have bk:=Y2 ad h g;Bi a fun aq bl a=>Ca (SX (vs:=[I 31,I d.at_]) (caps:=[Pt ak 0]) rfl rfl) (Jo u af bl dcd dcd bk (Ah (x:=o))) ?_
 rintro _ c6 ⟨bm,c7,rfl,bn,bo,bp⟩
 obtain rfl:=Aq bp
 refine AA ?_
 obtain rfl:=AN a
 refine MX (B:=B) ae<|MW rfl<|⟨bm,[I aq.why,I aq.at_],rfl,Ho (T2 (Mo [5] h) g bn) ab,bo,(Ah (x:=aq))⟩
 refine An (fun z ag=>∃q r ar,z=Env.puts q [(3,Pt aj 0),(4,Pt az 0),(5,Pt ao 0),(7,I (Ck n d.name)),(27,.bool ar)]∧GD d n o a0 ar=some al∧AS [] u af r ag) ?_ ?_
 refine AM<|Vx (Fz DW rfl)<|have bq:=Bs p g;Vx (Ld Hr rfl (Bc bq rfl))<|Vr (.bool (d.op==7))<|Vm<|Bo a (fun s a=>?_) fun s a=>?_
 refine Gm s<|Gr s (.bool ((Ck n d.name)==0))<|Vp s<|Va (.bool ((Ck n d.name)==0))<|AA<|⟨_,u,((Ck n d.name)==0),Pu,a,Rf⟩
 refine Pg s<|Pg s<|Vp s<|Va (.bool false)<|AA<|⟨_,u,false,Pu,a,Rf⟩
 rintro _ ag ⟨q,r,ar,rfl,a,l⟩
 rw [GD] at a
 refine Cn a (fun br a=>?_) fun br a=>?_
 refine AM<|have bt:=Y3 am h g l;Vx (Ld QB rfl (Bc bt rfl))<|Vx (Fd L8 rfl)<|have bu:=Y2 p g l;Vx (Ld CD rfl (Bc bu rfl))<|have bv:=Y3 ad h g l;Bi a fun au bw a=>Ca (SX (vs:=[I 32,I d.at_]) (caps:=[Pt ak 0]) rfl rfl) (Jo r ag bw dcd dcd bv (Ah (x:=o))) ?_
 rintro _ c8 ⟨bx,c9,rfl,bz,b0,b1⟩
 obtain rfl:=Aq b1
 refine AA ?_
 obtain rfl:=AN a
 refine MX (B:=B) ae<|MW rfl<|⟨bx,[I au.why,I au.at_],rfl,Ho (T3 (Mo [5] h) g l bz) ab,b0,(Ah (x:=au))⟩
 refine An (fun z av=>∃q ah aw,z=Env.puts q [(3,Pt aj 0),(5,Pt ao 0),(39,.bool aw)]∧HD d o aw=some al∧AS [] r ag ah av) ?_ ?_
 refine B8 Eg (qs 0 18 .nil) [] [] r (by kernel_rfl) fun b2 w=>Qx c rfl (fun _ _=>Fz DW rfl)<|have a3:=Y3 p g l w;Qx c rfl (fun _ ⟨_,f⟩=>Ld Hr rfl (Bc (Bs a3 f) rfl))<|Qx c rfl (v:=.bool (d.op==7)) (fun _ _=>rfl)<|Qx c rfl (v:=.bool (d.op==7)) (fun _ _=>Mv rfl)<|Bo a (fun e a=>?_) fun e a=>?_
 refine Qg c rfl e (fun _ _=>Fz EA rfl)<|have b3:=Y4 bb h g l w;Qg c rfl e (fun _ ⟨_,f⟩=>Ld GP rfl (Bc (Bs b3 f) rfl))<|Qg c rfl e (v:=I (Ck n d.name)) (fun _ _=>Mv rfl)<|Qg c rfl e (v:=I (Wr ((Ck n d.name) - 1))) (fun _ _=>rfl)<|Bi a fun aa b4 a=>have b5:=K4 AI a2 h g l w; ?_
 obtain ⟨b6,b7,da,b8,b9,ca,cb,cc,ax⟩:=BG (κ:=AI) b5 b4
 replace ax:A3 r b2 b6 (b7+((Wr ((Ck n d.name) - 1))).toNat*11) b8:=ax
 obtain ⟨db,dc,rfl,a4,cd⟩:=DA cc
 obtain ⟨de,df,rfl⟩:=AR a4
 obtain ⟨dg,dh,rfl⟩:=AR cd
 refine Qg c rfl e (fun _ _=>Ix DY b9 rfl ca cb)<|Qg c rfl e (fun _ _=>Fd Eh rfl)<|Qg c rfl e (fun _ ⟨_,f⟩=>Ld E0 rfl (A3.cell (k:=1) (Es ax f) rfl)) ?_
 obtain ⟨di,dj,cf⟩:=AR a4
 refine Qg c rfl e (v:=I (aa.params.length:Int)) (fun _ _=>Ll ED cf)<|Qg c rfl e (fun _ _=>Fd Bh rfl)<|Qg c rfl e (fun _ ⟨_,f⟩=>Ld EC rfl (Bc (Bs a3 f) rfl))<|have cg:=K4 AJ a1 h g l w; ?_
 obtain ⟨dk,dl,ch⟩:=AR cg
 refine Qg c rfl e (v:=I (d.args.length:Int)) (fun _ _=>Ll C9 ch)<|Qg c rfl e (v:=.bool ((aa.params.length:Int) != (d.args.length:Int))) (fun _ _=>rfl)<|Qx c rfl (v:=.bool ((aa.params.length:Int) != (d.args.length:Int))) (fun _ _=>(Pk e))<|Qx c rfl (v:=.bool ((aa.params.length:Int) != (d.args.length:Int))) (fun _ _=>Run.assign rfl)<|Dt<|⟨_,r,((aa.params.length:Int) != (d.args.length:Int)),Pu,a,(Mo [] w)⟩
 refine Qp c rfl e<|Qp c rfl e<|Qp c rfl e<|Qp c rfl e<|Qp c rfl e<|Qp c rfl e<|Qp c rfl e<|Qp c rfl e<|Qp c rfl e<|Qp c rfl e<|Qp c rfl e<|Qp c rfl e<|Qx c rfl (v:=.bool false) (fun _ _=>(Pk e))<|Qx c rfl (v:=.bool false) (fun _ _=>Run.assign rfl)<|Dt<|⟨_,r,false,Pu,a,(Mo [] w)⟩
 rintro _ av ⟨q,ah,aw,rfl,a,y⟩
 rw [HD] at a
 refine Cn a (fun ci a=>?_) fun ci a=>?_
 refine AM<|have cj:=Y4 am h g l y;Vx (Ld QB rfl (Bc cj rfl))<|Vx (Fd L8 rfl)<|have ck:=Y3 p g l y;Vx (Ld CD rfl (Bc ck rfl))<|have cl:=Y4 ad h g l y;Bi a fun ay cm a=>Ca (SX (vs:=[I 33,I d.at_]) (caps:=[Pt ak 0]) rfl rfl) (Jo ah av cm dcd dcd cl (Ah (x:=o))) ?_
 rintro _ dm ⟨cn,dn,rfl,co,cq,cr⟩
 obtain rfl:=Aq cr
 refine AA ?_
 obtain rfl:=AN a
 refine MX (B:=B) ae<|MW rfl<|⟨cn,[I ay.why,I ay.at_],rfl,Ho (T4 (Mo [5] h) g l y co) ab,cq,(Ah (x:=ay))⟩
 refine WC.skip ?_
 obtain rfl:=AN a
 refine MX (B:=B) ae<|MW rfl<|have ct:=Y4 ad h g l y;⟨ah,[I o.why,I o.at_],rfl,Ho (T3 (Mo [] h) g l y) ab,ct,(Ah (x:=o))⟩
theorem Qw:Fn.Spec Fn:=by
 intro h l a c d e f g af ag ah ai aj ak al am an ao ap aq ar au av n hnd hnz o p q r s m u w y
 refine Calls.mono (QF (recol (see [a,c,d,e,f,g]) h) l (Hw lbr h) n trivial trivial (Bl AJ o [a,c,d,e,f,g]) (Fh p [a,c,d,e,f,g] (BJ hnd hnz (i:=0) rfl)) (BV q [a,c,d,e,f,g] (BJ hnd hnz (i:=1) rfl)) (Fh r [a,c,d,e,f,g] (BJ hnd hnz (i:=2) rfl)) (BV s [a,c,d,e,f,g] (BJ hnd hnz (i:=3) rfl)) (BV m [a,c,d,e,f,g] (BJ hnd hnz (i:=4) rfl)) (Bl Am u [a,c,d,e,f,g]) (BV w [a,c,d,e,f,g] (BJ hnd hnz (i:=5) rfl)) (Bl Cd y [a,c,d,e,f,g])) ?_
 rintro aw ax ⟨z,aa,ab,ac,ad,ae⟩
 exact ⟨glue [a,c,d,e,f,g] l h z,aa,ab,DI ac (Hu rfl rfl),Ei m ad dcd,FW Am ae⟩
def He.At(c:Col)(a:World)(f:AB→Int→Option (List Bts)):Prop:=
 ∀{d e g h},f d g=some h→AJ.rep c.F a e d→
  Calls PG 111 #[Ag e,I g] a fun o l=>∃m n,o=.returned n∧AS [] c a m l∧Slc DK m.F l n h
def He.Spec(f:AB→Int→Option (List Bts)):Prop:=
 ∀a c,He.At a c f
theorem Rl(p:Col)(ah:World)(q:∀b,p b<10):He.At p ah He:=by
 intro c a8 d ad a ai
 rw [He] at a
 obtain ⟨ba,bb,rfl,aj⟩:=E1 (Ai ai)
 refine Ay Tryz.func111 rfl Tryz.ntmps111 rfl fun B r bc=>Sr<|Ef<|BX p 20 rfl rfl fun n ak ae l s=>Va (.slice none 0 0)<|AA<|AY<|Ad<|An (fun u w=>∃m g y,u=Env.puts m [(1,I d),(2,Pt ae 0),(5,.bool y)]∧JX c d y=some ad∧AS [] n ak g w) ?_ ?_
 refine Sr<|Vx (Fz DW rfl)<|Vx (Ld Hr rfl (Bc l rfl))<|Vr (.bool (c.op==21))<|Va (.bool (c.op==21))<|AA<|Cn a (fun al a=>?_) fun al a=>?_
 refine WC.skip<|⟨_,n,(c.op==21),Pu,a,Rf⟩
 refine AM<|Vx (Fz DW rfl)<|Vx (Ld Hr rfl (Bc l rfl))<|Vr (.bool (c.op==22))<|Vm<|Bo a (fun e a=>?_) fun e a=>?_
 refine Gm e<|Gr e (.bool (d==1))<|Vp e<|Va (.bool (d==1))<|AA<|⟨_,n,(d==1),Pu,a,Rf⟩
 refine Pg e<|Pg e<|Vp e<|Va (.bool false)<|AA<|⟨_,n,false,Pu,a,Rf⟩
 rintro _ w ⟨m,g,y,rfl,a,h⟩
 rw [JX] at a
 refine Cn a (fun am a=>?_) fun am a=>?_
 refine Sr<|Vx (Fd EV rfl)<|have an:=Bs l h;Vx (Ld CS rfl (Bc an rfl))<|Ef<|Bf (cs:=[Sb c.name]) g 21 [[Sb c.name]] H8 PV rfl rfl (.cons rfl rfl rfl .nil) rfl fun ao ap z aq ar=>have au:Own DK 9 ao ap 21 (.slice (some ⟨z,0,none⟩) 1 1) ([c.name]:List Bts):=Own.lit (css:=[[Sb c.name]]) aq rfl rfl rfl (AQ rfl Au) (Av rfl CP) rfl;Va (Sl (some ⟨z,0,none⟩) (([c.name]:List Bts)) 1)<|AA<|AW ?_
 obtain ⟨av,aw,ax⟩:=Own.freeze (S:=[21]) au dcd dcd
 obtain rfl:=AN a
 refine O1 B r rfl (.tmp rfl)<|⟨av,Sl (some ⟨z,0,none⟩) (([c.name]:List Bts)) 1,rfl,Ho (T3 (Mo [21] s) h ar aw) q,ax⟩
 refine An (fun u af=>∃m o aa,u=Env.puts m [(2,Pt ae 0),(19,.bool aa)]∧KM c aa=some ad∧AS [] g w o af) ?_ ?_
 refine AM<|Vx (Fz DW rfl)<|have ay:=Bs l h;Vx (Ld Hr rfl (Bc ay rfl))<|Vr (.bool (c.op==20))<|Vm<|Bo a (fun f a=>?_) fun f a=>?_
 refine Gm f<|Gr f (.bool (d==2))<|Vp f<|Va (.bool (d==2))<|AA<|⟨_,g,(d==2),Pu,a,Rf⟩
 refine Pg f<|Pg f<|Vp f<|Va (.bool false)<|AA<|⟨_,g,false,Pu,a,Rf⟩
 rintro _ af ⟨m,o,aa,rfl,a,ab⟩
 rw [KM] at a
 refine Cn a (fun az a=>?_) fun az a=>?_
 refine Sr<|Vx (Fd EV rfl)<|have ag:=Y2 l h ab;Vx (Ld CS rfl (Bc ag rfl))<|Vx (Fd NR rfl)<|Vx (Ld CS rfl (Bc ag rfl))<|Ef<|Bf (cs:=[Sb c.name,Sb c.tail]) o 22 [[Sb c.name],[Sb c.tail]] H8 PV rfl rfl (.cons rfl rfl rfl (.cons rfl rfl rfl .nil)) rfl fun a0 a1 ac a2 a3=>have a4:Own DK 9 a0 a1 22 (.slice (some ⟨ac,0,none⟩) 2 2) ([c.name,c.tail]:List Bts):=Own.lit (css:=[[Sb c.name],[Sb c.tail]]) a2 rfl rfl rfl (AQ rfl (AQ rfl Au)) (Av rfl (Av rfl CP)) rfl;Va (Sl (some ⟨ac,0,none⟩) (([c.name,c.tail]:List Bts)) 2)<|AA<|AW ?_
 obtain ⟨a5,a6,a7⟩:=Own.freeze (S:=[22]) a4 dcd dcd
 obtain rfl:=AN a
 refine O1 B r rfl (.tmp rfl)<|⟨a5,Sl (some ⟨ac,0,none⟩) (([c.name,c.tail]:List Bts)) 2,rfl,Ho (T4 (Mo [22] s) h ab a3 a6) q,a7⟩
 refine WC.skip<|Sr<|Va (.slice none 0 0)<|AA<|AW ?_
 obtain rfl:=AN a
 refine O1 B r rfl (.tmp rfl)<|⟨o,.slice none 0 0,rfl,Ho (T2 (Mo [] s) h ab) q,Bd⟩
theorem Sv:He.Spec He:=lk0 (Rl)
def scope_walk.At(G1 G2:Prop)(c:Col)(a:World)(f:AB→Ao→Ao→AF→AL→Option (Ao×AF))(g ae af ag h ah:Nat):Prop:=
 ∀{o p l q r s u w m y z aa ab ac n},f o q u y ab=some n→G1→G2→AJ.rep c.F a p o→Mp c a g l q→Bk c a ae r [.map (some s)] 81→Mp c a af s u→Bk c a ag w [.func (.func 79) #[] [Pt m 0].toArray] 169→Bk c a h m z 63→Am.rep c.F a z y→Bk c a ah aa ac 28→Cd.rep c.F a ac ab→
  Calls PG 80 #[Ag p,.map (some l),.func (.func 81) #[] [Pt r 0,Pt w 0,Pt aa 0].toArray] a fun ai d=>∃e ad,ai=.returned (.tuple #[])∧AS [g,h] c a e d∧Mp e d g l n.1∧Bk e d h m ad 63∧Am.rep e.F d ad n.2
def scope_walk.Spec(f:AB→Ao→Ao→AF→AL→Option (Ao×AF)):Prop:=
 ∀l m {a c d e g h},scope_walk.At ([a,c,d,e,g,h].Nodup) (0∉[a,c,d,e,g,h]) l m f a c d e g h
structure Ax.Good(a:Ax):Prop where
 scope_walk:scope_walk.Spec a.scope_walk
theorem Sw(q:Ax)(g:Nat)(cg:Ax.Good q)(ba:Col)(ch:World)(ci:∀b,ba b<10):scope_walk.At True True ba ch (Kh q g) 1 2 3 4 5 6:=by
 intro a ep h cj ao eq af ap ck cl er aq r es ax d _ _ cm cn co cq cr ct cu cv cw
 rw [Kh] at d
 obtain ⟨u,w,rfl,bg⟩:=E1 (Ai cm)
 obtain rfl:=Aq cu
 obtain ⟨ew,ex,rfl,bh⟩:=E1 (BN cw)
 refine Ay Tryz.func80 rfl Tryz.ntmps80 rfl fun B cx ey=>?_
 refine Sr ?_
 refine Ef (BX ba 20 rfl rfl fun cy cz a6 bi ab=>?_)
 refine AA ?_
 refine Sr ?_
 refine Vx (v:=.func (.func 81) #[] [Pt ao 0,Pt ap 0,Pt aq 0].toArray) (Mv rfl) ?_
 refine Vx (v:=Ag [I a.op,Sb a.name,Sb a.tail,I a.type_,Cx a.num,Sl u a.args w,I a.at_]) (Lx BA rfl rfl (Bw bi)) ?_
 refine Vx (v:=.map (some h)) (Mv rfl) ?_
 have bj:=(Ss AJ bg ab)
 have bk:=(Ms cn ab)
 have bl:=(Bs co ab)
 have bm:=(Ms cq ab)
 have bn:=(Bs cr ab)
 have c0:=(Bs ct ab)
 have bo:=(Bs cv ab)
 have bp:=(Ss AI bh ab)
 obtain ⟨bq,c1,d⟩:=bnd_sm d
 refine B7 (.none rfl) rfl rfl (AAU (vs:=[Ag [I a.op,Sb a.name,Sb a.tail,I a.type_,Cx a.num,Sl u a.args w,I a.at_],.map (some h)]) (caps:=[Pt ao 0,Pt ap 0,Pt aq 0]) rfl rfl) ?_
 refine Calls.mono (Qw cy cz c1 dcd dcd (Ab (x:=a) bj) bk bl bm bn c0 (Ah (x:=cl)) bo (BH (x:=r) bp)) ?_
 rintro _ c2 ⟨br,ez,rfl,ac,c3,c4⟩
 obtain rfl:=Aq c4
 refine ⟨_,rfl,?_⟩
 refine AA ?_
 refine Sr ?_
 refine Vx (v:=Pt a6 5) (Fd Bh rfl) ?_
 have bt:=(Bs bi ac)
 refine Vx (v:=Sl u a.args w) (Ld EC rfl (Bc bt rfl)) ?_
 have bu:=(Ss AJ bj ac)
 obtain ⟨e0,e1,c5⟩:=AR bu
 refine Vx (v:=I (a.args.length:Int)) (Ll C9 c5) ?_
 refine Vx (v:=I 0) (Mv rfl) ?_
 refine AA ?_
 refine Ad ?_
 refine Bj (fun ag a2 a3=>∃ah ar e a4 m n,a2=Env.puts ah [(1,.map (some h)),(2,.func (.func 81) #[] [Pt ao 0,Pt ap 0,Pt aq 0].toArray),(3,Pt a6 0),(18,Sl u a.args w),(19,I (a.args.length:Int)),(20,I e)]∧Cc q g a af r ag e a4 m n=some ax∧AS [1,5,21] br c2 ar a3∧Mp ar a3 1 h a4∧Bk ar a3 5 ck [I m,I n] 63) g ?_ ?_
 have c6:=(Ms bk ac)
 exact ⟨_,br,0,cj,bq.why,bq.at_,Pu,d,(AS.refl [1,5,21] _ _),c6,c3⟩
 rintro ag _ a3 ⟨ah,ar,e,a4,m,n,rfl,d,ad,bv,bw⟩
 rcases ag with _|ag
 exact A6 d
 have d:Ia q g a af r (Cc q g a af r ag) e a4 m n=some ax:=d
 obtain ⟨ai,bx⟩:∃s,s=Cc q g a af r ag:=⟨_,rfl⟩
 rw [←bx,Ia] at d
 refine Sr ?_
 refine Vr (.bool (decide (e< (a.args.length:Int)))) ?_
 refine AA ?_
 refine AY ?_
 refine Cn d (fun c7 d=>?_) fun c7 d=>?_
 refine WC.skip ?_
 refine AY ?_
 refine Ad ?_
 refine Sr ?_
 refine Vx (v:=I e) (Mv rfl) ?_
 obtain ⟨c,c8,d⟩:=bnd_sm d
 have bz:=(Ss AJ bu ad)
 obtain ⟨b0,b1,e2,c9,da,db,dc,de,bb⟩:=BG (κ:=AJ) bz c8
 replace bb:A3 ar a3 b0 (b1+e.toNat*7) c9:=bb
 obtain ⟨au,av,rfl,b2⟩:=E1 (Ai de)
 refine Vx (v:=.pointer (some ⟨b0,b1+e.toNat*7,none⟩)) (Ix C9 da rfl db dc) ?_
 refine Vx (v:=Ag [I c.op,Sb c.name,Sb c.tail,I c.type_,Cx c.num,Sl au c.args av,I c.at_]) (Lx BA rfl rfl (A3.part0 bb [I c.op,Sb c.name,Sb c.tail,I c.type_,Cx c.num,Sl au c.args av,I c.at_] rfl)) ?_
 refine Ef (AU ar 21 By rfl fun df e4 dg dh o=>?_)
 refine Va (I e) ?_
 have di:=(Ss AJ b2 o)
 refine Eu (St (vs:=[I c.op,Sb c.name,Sb c.tail,I c.type_,Cx c.num,Sl au c.args av,I c.at_]) (cs':=[I c.op,Sb c.name,Sb c.tail,I c.type_,Cx c.num,Sl au c.args av,I c.at_]) CV dh rfl rfl rfl rfl fun dj dk p=>?_)
 refine AA ?_
 refine Sr ?_
 have dl:=(Y3 bt ad o p)
 refine Vx (v:=Ag [I a.op,Sb a.name,Sb a.tail,I a.type_,Cx a.num,Sl u a.args w,I a.at_]) (Lx BA rfl rfl (Bw dl)) ?_
 refine Vx (v:=I e) (Mv rfl) ?_
 have dm:=(K2 AJ bz o p)
 obtain ⟨f,dn,d⟩:=bnd_sm d
 refine B7 (.none rfl) rfl rfl (Cg [Ag [I a.op,Sb a.name,Sb a.tail,I a.type_,Cx a.num,Sl u a.args w,I a.at_],I e] rfl) ?_
 refine Calls.mono (Sv df dj dn (Ab (x:=a) dm)) ?_
 rintro _ dp ⟨b3,e5,rfl,y,a7⟩
 obtain ⟨ay,az,rfl⟩:=AR a7
 refine ⟨_,rfl,?_⟩
 refine Va (Sl ay f az) ?_
 refine AA ?_
 refine AY ?_
 refine Sr ?_
 refine Vx (v:=Sl ay f az) (Mv rfl) ?_
 obtain ⟨e6,e7,dq⟩:=AR a7
 refine Vx (v:=I (f.length:Int)) (Ll H8 dq) ?_
 refine Vx (v:=I 0) (Mv rfl) ?_
 refine AA ?_
 refine Ad ?_
 refine Bj (fun aj a2 a5=>∃ah a0 z ak,a2=Env.puts ah [(1,.map (some h)),(2,.func (.func 81) #[] [Pt ao 0,Pt ap 0,Pt aq 0].toArray),(3,Pt a6 0),(7,Pt dg 0),(8,Sl ay f az),(18,Sl u a.args w),(19,I (a.args.length:Int)),(20,I e),(28,Sl ay f az),(29,I (f.length:Int)),(30,I z)]∧IJ q g af r e m n ai c f aj z ak=some ax∧AS [1] b3 dp a0 a5∧Mp a0 a5 1 h ak) g ?_ ?_
 have dr:=(Ms (Ms (Ms bv o) p) y)
 exact ⟨_,b3,0,a4,Pu,d,(AS.refl [1] _ _),dr⟩
 rintro aj _ a5 ⟨ah,a0,z,ak,rfl,d,l,bc⟩
 rcases aj with _|aj
 exact A6 d
 have d:IZ q g af r e m n ai c f (IJ q g af r e m n ai c f aj) z ak=some ax:=d
 obtain ⟨e8,b4⟩:∃s,s=IJ q g af r e m n ai c f aj:=⟨_,rfl⟩
 rw [←b4,IZ] at d
 refine Sr ?_
 refine Vr (.bool (decide (z< (f.length:Int)))) ?_
 refine AA ?_
 refine AY ?_
 refine Cn d (fun ds d=>?_) fun ds d=>?_
 refine WC.skip ?_
 refine AY ?_
 refine Ad ?_
 refine Sr ?_
 obtain ⟨al,dt,d⟩:=bnd_sm d
 have du:=(Ss DK a7 l)
 obtain ⟨b5,b6,e9,b7,dv,dw,dx,dy,bd⟩:=BG (κ:=DK) du dt
 replace bd:A3 a0 a5 b5 (b6+z.toNat*1) b7:=bd
 obtain rfl:=(show b7=[Sb al] from dy)
 refine Vx (v:=.pointer (some ⟨b5,b6+z.toNat*1,none⟩)) (Ix H8 dv rfl dw dx) ?_
 refine Vx (v:=Sb al) (Ld CS rfl (A3.cell0 bd rfl)) ?_
 refine Va (Sb al) ?_
 refine AA ?_
 refine AM ?_
 refine Vx (v:=.map (some h)) (Mv rfl) ?_
 refine Vx (v:=Sb al) (Mv rfl) ?_
 refine Vx (v:=I (Ck ak al)) (Jt Ko rfl rfl bc) ?_
 refine Vr (I (Wr ((Ck ak al)+1))) ?_
 refine Eu (KA Ko rfl rfl rfl bc fun fa dz d0=>?_)
 refine AA ?_
 refine AM ?_
 refine Vr (I (Wr (z+1))) ?_
 refine Vx (v:=I (Wr (z+1))) (Mv rfl) ?_
 refine AA ?_
 exact ⟨aj,Nat.lt_succ_self aj,_,a0,(Wr (z+1)),(Lm al (Wr ((Ck ak al)+1)) ak),Pu,(b4▸d),(Tn (Mo [1] l) d0),dz⟩
 refine BZ ?_
 refine Sr ?_
 have d1:=(Y2 dk y l)
 refine Vx (v:=Ag [I c.op,Sb c.name,Sb c.tail,I c.type_,Cx c.num,Sl au c.args av,I c.at_]) (Lx BA rfl rfl (Bw d1)) ?_
 refine Vx (v:=.map (some h)) (Mv rfl) ?_
 refine Vx (v:=.func (.func 81) #[] [Pt ao 0,Pt ap 0,Pt aq 0].toArray) (Mv rfl) ?_
 have d2:=(K3 AJ di p y l)
 have d3:=(Y2 (Y4 bl ac ad o p) y l)
 have d4:=(Ms (Ms (Ms (Ms (Ms (Ms bm ac) ad) o) p) y) l)
 have d5:=(Y2 (Y4 bn ac ad o p) y l)
 have d6:=(Y4 bw o p y l)
 have d7:=(Y2 (Y4 bo ac ad o p) y l)
 have d8:=(K2 AI (K4 AI bp ac ad o p) y l)
 obtain ⟨aw,d9,d⟩:=bnd_sm d
 refine B7 (.none rfl) rfl rfl (Cg [Ag [I c.op,Sb c.name,Sb c.tail,I c.type_,Cx c.num,Sl au c.args av,I c.at_],.map (some h),.func (.func 81) #[] [Pt ao 0,Pt ap 0,Pt aq 0].toArray] rfl) ?_
 refine Calls.mono (cg.scope_walk a0 a5 d9 dcd dcd (Ab (x:=c) d2) bc d3 d4 d5 d6 (Ah (x:=(AF.mk m n))) d7 (BH (x:=r) d8)) ?_
 rintro _ ea ⟨b8,fb,rfl,b9,eb,ec,ed⟩
 obtain rfl:=Aq ed
 refine ⟨_,rfl,?_⟩
 refine AA ?_
 refine Sr ?_
 refine Vx (v:=Sl ay f az) (Mv rfl) ?_
 have ca:=(K2 DK a7 l b9)
 obtain ⟨fc,fd,ee⟩:=AR ca
 refine Vx (v:=I (f.length:Int)) (Ll H8 ee) ?_
 refine Vx (v:=I 0) (Mv rfl) ?_
 refine AA ?_
 refine Ad ?_
 refine Bj (fun am a2 a8=>∃ah a1 aa ae,a2=Env.puts ah [(1,.map (some h)),(2,.func (.func 81) #[] [Pt ao 0,Pt ap 0,Pt aq 0].toArray),(3,Pt a6 0),(18,Sl u a.args w),(19,I (a.args.length:Int)),(20,I e),(43,Sl ay f az),(44,I (f.length:Int)),(45,I aa)]∧II e ai f aw am aa ae=some ax∧AS [1] b8 ea a1 a8∧Mp a1 a8 1 h ae) g ?_ ?_
 exact ⟨_,b8,0,aw.1,Pu,d,(AS.refl [1] _ _),eb⟩
 rintro am _ a8 ⟨ah,a1,aa,ae,rfl,d,a9,be⟩
 rcases am with _|am
 exact A6 d
 have d:IY e ai f aw (II e ai f aw am) aa ae=some ax:=d
 obtain ⟨fe,cb⟩:∃s,s=II e ai f aw am:=⟨_,rfl⟩
 rw [←cb,IY] at d
 refine Sr ?_
 refine Vr (.bool (decide (aa< (f.length:Int)))) ?_
 refine AA ?_
 refine AY ?_
 refine Cn d (fun ef d=>?_) fun ef d=>?_
 refine WC.skip ?_
 refine AY ?_
 refine Ad ?_
 refine Sr ?_
 obtain ⟨an,eg,d⟩:=bnd_sm d
 have eh:=(Ss DK ca a9)
 obtain ⟨cc,cd,ff,cf,ei,ej,ek,el,bf⟩:=BG (κ:=DK) eh eg
 replace bf:A3 a1 a8 cc (cd+aa.toNat*1) cf:=bf
 obtain rfl:=(show cf=[Sb an] from el)
 refine Vx (v:=.pointer (some ⟨cc,cd+aa.toNat*1,none⟩)) (Ix H8 ei rfl ej ek) ?_
 refine Vx (v:=Sb an) (Ld CS rfl (A3.cell0 bf rfl)) ?_
 refine Va (Sb an) ?_
 refine AA ?_
 refine AM ?_
 refine Vx (v:=.map (some h)) (Mv rfl) ?_
 refine Vx (v:=Sb an) (Mv rfl) ?_
 refine Vx (v:=I (Ck ae an)) (Jt Ko rfl rfl be) ?_
 refine Vr (I (Wr ((Ck ae an) - 1))) ?_
 refine Eu (KA Ko rfl rfl rfl be fun fg em en=>?_)
 refine AA ?_
 refine AM ?_
 refine Vr (I (Wr (aa+1))) ?_
 refine Vx (v:=I (Wr (aa+1))) (Mv rfl) ?_
 refine AA ?_
 exact ⟨am,Nat.lt_succ_self am,_,a1,(Wr (aa+1)),(Lm an (Wr ((Ck ae an) - 1)) ae),Pu,(cb▸d),(Tn (Mo [1] a9) en),em⟩
 refine BZ ?_
 refine AM ?_
 refine Vr (I (Wr (e+1))) ?_
 refine Vx (v:=I (Wr (e+1))) (Mv rfl) ?_
 refine AA ?_
 have eo:=(Bs ec a9)
 exact ⟨ag,Nat.lt_succ_self ag,_,a1,(Wr (e+1)),ae,aw.2.why,aw.2.at_,Pu,(bx▸d),(T2 (T4 (Mo [1,5,21] ad) o p y l) b9 a9),be,eo⟩
 refine BZ ?_
 obtain rfl:=AN d
 refine MX (B:=B) cx (MW rfl ?_)
 exact ⟨ar,[I m,I n],rfl,Ho (T2 (Mo [1,5,21] ab) ac ad) ci,bv,bw,(Ah (x:=(AF.mk m n)))⟩
theorem Sx(h:Ax)(m:Nat)(q:Ax.Good h):scope_walk.Spec (Kh h m):=by
 intro l n a c d e f g aj ak al am an ao ap aq ar au av aw ax ay az r hnd hnz s o u w y p z aa ab
 refine Calls.mono (Sw h m q (recol (see [a,c,d,e,f,g]) l) n (Hw lbr l) r trivial trivial (Bl AJ s [a,c,d,e,f,g]) (Fh o [a,c,d,e,f,g] (BJ hnd hnz (i:=0) rfl)) (BV u [a,c,d,e,f,g] (BJ hnd hnz (i:=1) rfl)) (Fh w [a,c,d,e,f,g] (BJ hnd hnz (i:=2) rfl)) (BV y [a,c,d,e,f,g] (BJ hnd hnz (i:=3) rfl)) (BV p [a,c,d,e,f,g] (BJ hnd hnz (i:=4) rfl)) (Bl Am z [a,c,d,e,f,g]) (BV aa [a,c,d,e,f,g] (BJ hnd hnz (i:=5) rfl)) (Bl Cd ab [a,c,d,e,f,g])) ?_
 rintro a0 a1 ⟨ac,ad,ae,af,ag,ah,ai⟩
 exact ⟨glue [a,c,d,e,f,g] n l ac,ad,ae,DI af (Hu rfl rfl),Uq o ag dcd,Ei p ah dcd,FW Am ai⟩
theorem Ax.good:∀a,Ax.Good (Ax.at a)
 |0=>⟨by intro c d;intros;(try intro _);intros;exact A6 (by assumption)⟩
 |n+1=>⟨Sx _ n (Ax.good n)⟩
theorem Tz(a:Nat):scope_walk.Spec (scope_walk a):=(Ax.good a).scope_walk
def IK.At(c:Col)(a:World)(f:AL→Option AF):Prop:=
 ∀{d e g},f d=some g→Cd.rep c.F a e d→
  Calls PG 50 #[Ag e] a fun n h=>∃l m,n=.returned (Ag m)∧AS [] c a l h∧Am.rep l.F h m g
def IK.Spec(f:AL→Option AF):Prop:=
 ∀a c,IK.At a c f
theorem Rm(h:Nat)(bw:Col)(di:World)(dj:∀b,bw b<10):IK.At bw di (IK h):=by
 intro e gb aj c dk
 rw [IK] at c
 obtain ⟨ar,au,rfl,cf⟩:=E1 (BN dk)
 refine Ay Tryz.func50 rfl Tryz.ntmps50 rfl fun B dl gd=>?_
 refine Sr ?_
 refine Ef (BX bw 20 rfl rfl fun dm ge aa dn cg=>?_)
 refine Ef (AU dm 21 E3 rfl fun dp gf bb dq bx=>?_)
 refine AA ?_
 refine Sr ?_
 refine Ef (AU dp 22 E3 rfl fun dr gg g ds bf=>?_)
 refine AA ?_
 refine Sr ?_
 refine Vx (v:=.func (.func 79) #[] [Pt g 0].toArray) (IB (vs:=[Pt g 0]) rfl) ?_
 refine Ef (AU dr 23 Zf rfl fun dt gh ak du bc=>?_)
 refine Eu (St (vs:=[.func (.func 79) #[] [Pt g 0].toArray]) (cs':=[.func (.func 79) #[] [Pt g 0].toArray]) ZX du rfl rfl rfl rfl fun gi bz bd=>?_)
 refine AA ?_
 refine Sr ?_
 refine Ef (Mw dt 24 fun dv gj a6 dw al=>?_)
 refine Ef (AU dv 25 AAm rfl fun ch gk am dx ad=>?_)
 refine Eu (St (vs:=[.map (some a6)]) (cs':=[.map (some a6)]) AAe dx rfl rfl rfl rfl fun dy ci ae=>?_)
 refine AA ?_
 refine AY ?_
 refine Sr ?_
 refine Vx (v:=Pt aa 0) (Fz EA rfl) ?_
 have cj:=(Y3 (Y4 dn bx bf bc bd) al ad ae)
 refine Vx (v:=Sl ar e.funcs au) (Ld GP rfl (Bc cj rfl)) ?_
 have b0:=(K4 AI (K4 AI cf cg bx bf bc) bd al ad ae)
 obtain ⟨gl,gm,dz⟩:=AR b0
 refine Vx (v:=I (e.funcs.length:Int)) (Ll DY dz) ?_
 refine Vx (v:=I 0) (Mv rfl) ?_
 refine AA ?_
 refine Ad ?_
 refine Bj (fun an af av=>∃o ag l aw ax m,af=Env.puts o [(1,Pt aa 0),(2,Pt bb 0),(3,Pt g 0),(4,Pt ak 0),(5,Pt am 0),(16,Sl ar e.funcs au),(17,I (e.funcs.length:Int)),(18,I l)]∧Hf h e an l aw ax m=some aj∧AS [22,24,26] ch dy ag av∧Bk ag av 22 g [I aw,I ax] 63∧Mp ag av 24 a6 m) h ?_ ?_
 have d0:=(Bs (Y4 ds bc bd al ad) ae)
 have d1:=(Ms (Ms dw ad) ae)
 exact ⟨_,ch,0,0,0,([]:Ao),Pu,c,(AS.refl [22,24,26] _ _),d0,d1⟩
 rintro an _ av ⟨o,ag,l,aw,ax,m,rfl,c,u,b1,ck⟩
 rcases an with _|an
 exact A6 c
 have c:H0 h e (Hf h e an) l aw ax m=some aj:=c
 obtain ⟨d2,cl⟩:∃s,s=Hf h e an:=⟨_,rfl⟩
 rw [←cl,H0] at c
 refine Sr ?_
 refine Vr (.bool (decide (l< (e.funcs.length:Int)))) ?_
 refine AA ?_
 refine AY ?_
 refine Cn c (fun d3 c=>?_) fun d3 c=>?_
 refine WC.skip ?_
 refine An (fun af bg=>∃o be bh bi bj,af=Env.puts o [(1,Pt aa 0),(2,Pt bb 0),(3,Pt g 0),(4,Pt ak 0),(5,Pt am 0),(16,Sl ar e.funcs au),(17,I (e.funcs.length:Int)),(18,I l)]∧JY l d2 bh bi bj=some aj∧AS [22,24,26] ag av be bg∧Bk be bg 22 g [I bh,I bi] 63∧Mp be bg 24 a6 bj) ?_ ?_
 refine Ad ?_
 refine Sr ?_
 refine Vx (v:=I l) (Mv rfl) ?_
 obtain ⟨d,d4,c⟩:=bnd_sm c
 have d5:=(Ss AI b0 u)
 obtain ⟨cm,cn,gn,d6,d7,d8,d9,ea,b2⟩:=BG (κ:=AI) d5 d4
 replace b2:A3 ag av cm (cn+l.toNat*11) d6:=b2
 obtain ⟨go,gp,rfl,co,cq⟩:=DA ea
 obtain ⟨bk,bl,rfl⟩:=AR co
 obtain ⟨bm,bn,rfl⟩:=AR cq
 refine Vx (v:=.pointer (some ⟨cm,cn+l.toNat*11,none⟩)) (Ix DY d7 rfl d8 d9) ?_
 refine Vx (v:=Ag [Sb d.name,Sl bk d.params bl,I d.type_,I d.body.op,Sb d.body.name,Sb d.body.tail,I d.body.type_,Cx d.body.num,Sl bm d.body.args bn,I d.body.at_,I d.at_]) (Lx Lc rfl rfl (A3.part0 b2 [Sb d.name,Sl bk d.params bl,I d.type_,I d.body.op,Sb d.body.name,Sb d.body.tail,I d.body.type_,Cx d.body.num,Sl bm d.body.args bn,I d.body.at_,I d.at_] rfl)) ?_
 refine Ef (AU ag 26 Fs rfl fun cr gq b3 eb ah=>?_)
 refine Va (I l) ?_
 have gr:=(Ss Aa co ah)
 have gs:=(Ss AJ cq ah)
 refine Eu (St (vs:=[Sb d.name,Sl bk d.params bl,I d.type_,I d.body.op,Sb d.body.name,Sb d.body.tail,I d.body.type_,Cx d.body.num,Sl bm d.body.args bn,I d.body.at_,I d.at_]) (cs':=[Sb d.name,Sl bk d.params bl,I d.type_,I d.body.op,Sb d.body.name,Sb d.body.tail,I d.body.type_,Cx d.body.num,Sl bm d.body.args bn,I d.body.at_,I d.at_]) LD eb rfl rfl rfl rfl fun ec b4 ay=>?_)
 refine AA ?_
 refine Sr ?_
 have ct:=(Y3 ci u ah ay)
 refine Vx (v:=.map (some a6)) (Ld Oc rfl (Bc ct rfl)) ?_
 refine Vx (v:=Pt b3 0) (Fz L9 rfl) ?_
 refine Vx (v:=Sb d.name) (Ld CS rfl (Bc b4 rfl)) ?_
 have b5:=(Ms (Ms ck ah) ay)
 refine Vx (v:=I (Ck m d.name)) (Jt Ko rfl rfl b5) ?_
 refine Vr (.bool (decide ((Ck m d.name)>0))) ?_
 refine AA ?_
 refine Cn c (fun ed c=>?_) fun ed c=>?_
 refine AM ?_
 have ee:=(Y2 (Y4 bz al ad ae u) ah ay)
 refine Vx (v:=.func (.func 79) #[] [Pt g 0].toArray) (Ld QB rfl (Bc ee rfl)) ?_
 refine Vx (v:=Pt b3 10) (Fd Vo rfl) ?_
 refine Vx (v:=I d.at_) (Ld CD rfl (Bc b4 rfl)) ?_
 have ef:=(Y2 b1 ah ay)
 obtain ⟨cu,eg,c⟩:=bnd_sm c
 refine B7 (.none rfl) rfl rfl (SX (vs:=[I 30,I d.at_]) (caps:=[Pt g 0]) rfl rfl) ?_
 refine Calls.mono (Jo cr ec eg dcd dcd ef (Ah (x:=(AF.mk aw ax)))) ?_
 rintro _ gt ⟨eh,gu,rfl,cv,ei,ej⟩
 obtain rfl:=Aq ej
 refine ⟨_,rfl,?_⟩
 refine AA ?_
 have ek:=(Ms b5 cv)
 exact ⟨_,eh,cu.why,cu.at_,m,Pu,c,(T2 (Mo [22,24,26] ah) ay cv),ei,ek⟩
 refine AM ?_
 refine Vx (v:=.map (some a6)) (Ld Oc rfl (Bc ct rfl)) ?_
 refine Vx (v:=Pt b3 0) (Fz L9 rfl) ?_
 refine Vx (v:=Sb d.name) (Ld CS rfl (Bc b4 rfl)) ?_
 refine Vx (v:=I l) (Mv rfl) ?_
 refine Vr (I (Wr (l+1))) ?_
 refine Eu (KA Ko rfl rfl rfl b5 fun gv el cw=>?_)
 refine AA ?_
 have em:=(Y3 b1 ah ay cw)
 exact ⟨_,cr,aw,ax,(Lm d.name (Wr (l+1)) m),Pu,c,(T2 (Mo [22,24,26] ah) ay cw),em,el⟩
 rintro _ bg ⟨o,be,bh,bi,bj,rfl,c,en,eo,ep⟩
 rw [JY] at c
 refine AM ?_
 refine Vr (I (Wr (l+1))) ?_
 refine Vx (v:=I (Wr (l+1))) (Mv rfl) ?_
 refine AA ?_
 exact ⟨an,Nat.lt_succ_self an,_,be,(Wr (l+1)),bh,bi,bj,Pu,(cl▸c),(Tn (Mo [22,24,26] u) en),eo,ep⟩
 refine BZ ?_
 refine AY ?_
 refine Sr ?_
 refine Vx (v:=Pt aa 0) (Fz EA rfl) ?_
 have cx:=(Bs cj u)
 refine Vx (v:=Sl ar e.funcs au) (Ld GP rfl (Bc cx rfl)) ?_
 have cy:=(Ss AI b0 u)
 obtain ⟨gw,gx,eq⟩:=AR cy
 refine Vx (v:=I (e.funcs.length:Int)) (Ll DY eq) ?_
 refine Vx (v:=I 0) (Mv rfl) ?_
 refine AA ?_
 refine Ad ?_
 refine Bj (fun ao af bo=>∃o a7 n p q,af=Env.puts o [(1,Pt aa 0),(2,Pt bb 0),(3,Pt g 0),(4,Pt ak 0),(5,Pt am 0),(39,Sl ar e.funcs au),(40,I (e.funcs.length:Int)),(41,I n)]∧Cz h e m ao n p q=some aj∧AS [22,27,28,29] ag av a7 bo∧Bk a7 bo 22 g [I p,I q] 63) h ?_ ?_
 exact ⟨_,ag,0,aw,ax,Pu,c,(AS.refl [22,27,28,29] _ _),b1⟩
 rintro ao _ bo ⟨o,a7,n,p,q,rfl,c,ai,cz⟩
 rcases ao with _|ao
 exact A6 c
 have c:Hz h e m (Cz h e m ao) n p q=some aj:=c
 obtain ⟨bp,c0⟩:∃s,s=Cz h e m ao:=⟨_,rfl⟩
 rw [←c0,Hz] at c
 refine Sr ?_
 refine Vr (.bool (decide (n< (e.funcs.length:Int)))) ?_
 refine AA ?_
 refine AY ?_
 refine Cn c (fun er c=>?_) fun er c=>?_
 refine WC.skip ?_
 refine AY ?_
 refine Ad ?_
 refine Sr ?_
 obtain ⟨a,es,c⟩:=bnd_sm c
 have c1:=(Ss AI cy ai)
 obtain ⟨c2,c3,gy,et,eu,ew,ex,ey,b6⟩:=BG (κ:=AI) c1 es
 replace b6:A3 a7 bo c2 (c3+n.toNat*11) et:=b6
 obtain ⟨gz,g0,rfl,c4,c5⟩:=DA ey
 obtain ⟨az,a0,rfl⟩:=AR c4
 obtain ⟨a1,a2,rfl⟩:=AR c5
 refine Vx (v:=.pointer (some ⟨c2,c3+n.toNat*11,none⟩)) (Ix DY eu rfl ew ex) ?_
 refine Vx (v:=Ag [Sb a.name,Sl az a.params a0,I a.type_,I a.body.op,Sb a.body.name,Sb a.body.tail,I a.body.type_,Cx a.body.num,Sl a1 a.body.args a2,I a.body.at_,I a.at_]) (Lx Lc rfl rfl (A3.part0 b6 [Sb a.name,Sl az a.params a0,I a.type_,I a.body.op,Sb a.body.name,Sb a.body.tail,I a.body.type_,Cx a.body.num,Sl a1 a.body.args a2,I a.body.at_,I a.at_] rfl)) ?_
 refine Ef (AU a7 27 Fs rfl fun ez g1 bq e0 ab=>?_)
 have e1:=(Ss Aa c4 ab)
 have e2:=(Ss AJ c5 ab)
 refine Eu (St (vs:=[Sb a.name,Sl az a.params a0,I a.type_,I a.body.op,Sb a.body.name,Sb a.body.tail,I a.body.type_,Cx a.body.num,Sl a1 a.body.args a2,I a.body.at_,I a.at_]) (cs':=[Sb a.name,Sl az a.params a0,I a.type_,I a.body.op,Sb a.body.name,Sb a.body.tail,I a.body.type_,Cx a.body.num,Sl a1 a.body.args a2,I a.body.at_,I a.at_]) LD e0 rfl rfl rfl rfl fun g2 e3 ac=>?_)
 refine AA ?_
 refine Sr ?_
 refine Ef (Mw ez 28 fun c6 e4 ap e5 w=>?_)
 refine Va (.map (some ap)) ?_
 refine AA ?_
 refine AY ?_
 refine Sr ?_
 refine Vx (v:=Pt bq 1) (Fd Eh rfl) ?_
 have c7:=(Bs e3 w)
 refine Vx (v:=Sl az a.params a0) (Ld E0 rfl (Bc c7 rfl)) ?_
 have c8:=(K2 Aa e1 ac w)
 obtain ⟨g3,g4,e6⟩:=AR c8
 refine Vx (v:=I (a.params.length:Int)) (Ll ED e6) ?_
 refine Vx (v:=I 0) (Mv rfl) ?_
 refine AA ?_
 refine Ad ?_
 refine Bj (fun aq af a8=>∃o a3 r a4 a5 y,af=Env.puts o [(1,Pt aa 0),(2,Pt bb 0),(3,Pt g 0),(4,Pt ak 0),(5,Pt am 0),(9,Pt bq 0),(10,.map (some ap)),(39,Sl ar e.funcs au),(40,I (e.funcs.length:Int)),(41,I n),(47,Sl az a.params a0),(48,I (a.params.length:Int)),(49,I r)]∧Fo h e m n bp a aq r a4 a5 y=some aj∧AS [22,28,29] c6 e4 a3 a8∧Bk a3 a8 22 g [I a4,I a5] 63∧Mp a3 a8 28 ap y) h ?_ ?_
 have e7:=(Y3 cz ab ac w)
 exact ⟨_,c6,0,p,q,([]:Ao),Pu,c,(AS.refl [22,28,29] _ _),e7,e5⟩
 rintro aq _ a8 ⟨o,a3,r,a4,a5,y,rfl,c,z,b7,b8⟩
 rcases aq with _|aq
 exact A6 c
 have c:Fw h e m n bp a (Fo h e m n bp a aq) r a4 a5 y=some aj:=c
 obtain ⟨e8,c9⟩:∃s,s=Fo h e m n bp a aq:=⟨_,rfl⟩
 rw [←c9,Fw] at c
 refine Sr ?_
 refine Vr (.bool (decide (r< (a.params.length:Int)))) ?_
 refine AA ?_
 refine AY ?_
 refine Cn c (fun e9 c=>?_) fun e9 c=>?_
 refine WC.skip ?_
 refine AY ?_
 refine Ad ?_
 refine Sr ?_
 obtain ⟨f,fa,c⟩:=bnd_sm c
 have fb:=(Ss Aa c8 z)
 obtain ⟨da,db,g5,fc,fd,fe,ff,fg,b9⟩:=BG (κ:=Aa) fb fa
 replace b9:A3 a3 a8 da (db+r.toNat*3) fc:=b9
 obtain rfl:=Fv fg
 refine Vx (v:=.pointer (some ⟨da,db+r.toNat*3,none⟩)) (Ix ED fd rfl fe ff) ?_
 refine Vx (v:=Ag [Sb f.name,I f.type_,I f.at_]) (Lx Wf rfl rfl (A3.part0 b9 [Sb f.name,I f.type_,I f.at_] rfl)) ?_
 refine Ef (AU a3 29 Lf rfl fun ca g6 br fh a9=>?_)
 refine Eu (St (vs:=[Sb f.name,I f.type_,I f.at_]) (cs':=[Sb f.name,I f.type_,I f.at_]) Wk fh rfl rfl rfl rfl fun dc cb ba=>?_)
 refine AA ?_
 refine An (fun af cc=>∃o bt bu bv,af=Env.puts o [(1,Pt aa 0),(2,Pt bb 0),(3,Pt g 0),(4,Pt ak 0),(5,Pt am 0),(9,Pt bq 0),(10,.map (some ap)),(12,Pt br 0),(39,Sl ar e.funcs au),(40,I (e.funcs.length:Int)),(41,I n),(47,Sl az a.params a0),(48,I (a.params.length:Int)),(49,I r)]∧JZ r y e8 f bu bv=some aj∧AS [22] ca dc bt cc∧Bk bt cc 22 g [I bu,I bv] 63) ?_ ?_
 refine Sr ?_
 refine Vx (v:=.map (some ap)) (Mv rfl) ?_
 refine Vx (v:=Pt br 0) (Fz MA rfl) ?_
 refine Vx (v:=Sb f.name) (Ld CS rfl (Bc cb rfl)) ?_
 have fi:=(Ms (Ms b8 a9) ba)
 refine Vx (v:=I (Ck y f.name)) (Jt Ko rfl rfl fi) ?_
 refine Vr (.bool (decide ((Ck y f.name)>0))) ?_
 refine AA ?_
 refine Cn c (fun fj c=>?_) fun fj c=>?_
 refine AM ?_
 have fk:=(Y3 (Y4 (Y4 bz al ad ae u) ai ab ac w) z a9 ba)
 refine Vx (v:=.func (.func 79) #[] [Pt g 0].toArray) (Ld QB rfl (Bc fk rfl)) ?_
 refine Vx (v:=Pt br 2) (Fd Vq rfl) ?_
 refine Vx (v:=I f.at_) (Ld CD rfl (Bc cb rfl)) ?_
 have fl:=(Y2 b7 a9 ba)
 obtain ⟨de,fm,c⟩:=bnd_sm c
 refine B7 (.none rfl) rfl rfl (SX (vs:=[I 30,I f.at_]) (caps:=[Pt g 0]) rfl rfl) ?_
 refine Calls.mono (Jo ca dc fm dcd dcd fl (Ah (x:=(AF.mk a4 a5)))) ?_
 rintro _ g7 ⟨fn,g8,rfl,fo,fp,fq⟩
 obtain rfl:=Aq fq
 refine ⟨_,rfl,?_⟩
 refine AA ?_
 exact ⟨_,fn,de.why,de.at_,Pu,c,(Mo [22] fo),fp⟩
 refine WC.skip ?_
 have fr:=(Y2 b7 a9 ba)
 exact ⟨_,ca,a4,a5,Pu,c,(AS.refl [22] _ _),fr⟩
 rintro _ cc ⟨o,bt,bu,bv,rfl,c,cd,fs⟩
 rw [JZ] at c
 refine AM ?_
 refine Vx (v:=.map (some ap)) (Mv rfl) ?_
 refine Vx (v:=Pt br 0) (Fz MA rfl) ?_
 have ft:=(Bs cb cd)
 refine Vx (v:=Sb f.name) (Ld CS rfl (Bc ft rfl)) ?_
 have df:=(Ms (Ms (Ms b8 a9) ba) cd)
 refine Vx (v:=I (Ck y f.name)) (Jt Ko rfl rfl df) ?_
 refine Vr (I (Wr ((Ck y f.name)+1))) ?_
 refine Eu (KA Ko rfl rfl rfl df fun g9 fu dg=>?_)
 refine AA ?_
 refine AM ?_
 refine Vr (I (Wr (r+1))) ?_
 refine Vx (v:=I (Wr (r+1))) (Mv rfl) ?_
 refine AA ?_
 have fv:=(Bs fs dg)
 exact ⟨aq,Nat.lt_succ_self aq,_,bt,(Wr (r+1)),bu,bv,(Lm f.name (Wr ((Ck y f.name)+1)) y),Pu,(c9▸c),(T4 (Mo [22,28,29] z) a9 ba cd dg),fv,fu⟩
 refine BZ ?_
 refine AM ?_
 refine Vx (v:=Pt bq 3) (Fd Mb rfl) ?_
 have fw:=(Bs c7 z)
 refine Vx (v:=Ag [I a.body.op,Sb a.body.name,Sb a.body.tail,I a.body.type_,Cx a.body.num,Sl a1 a.body.args a2,I a.body.at_]) (Lx BA rfl rfl (Bk.part fw 3 [I a.body.op,Sb a.body.name,Sb a.body.tail,I a.body.type_,Cx a.body.num,Sl a1 a.body.args a2,I a.body.at_] rfl)) ?_
 refine Vx (v:=.map (some ap)) (Mv rfl) ?_
 refine Vx (v:=.func (.func 81) #[] [Pt am 0,Pt ak 0,Pt aa 0].toArray) (IB (vs:=[Pt am 0,Pt ak 0,Pt aa 0]) rfl) ?_
 have fx:=(K3 AJ e2 ac w z)
 have fy:=(Y2 (Y4 ci u ai ab ac) w z)
 have fz:=(Ms (Ms (Ms (Ms (Ms ck ai) ab) ac) w) z)
 have f0:=(Bs (Y4 (Y4 bz al ad ae u) ai ab ac w) z)
 have f1:=(Bs (Y4 cx ai ab ac w) z)
 have f2:=(K4 AI c1 ab ac w z)
 obtain ⟨dh,f3,c⟩:=bnd_sm c
 refine B7 (.none rfl) rfl rfl (Cg [Ag [I a.body.op,Sb a.body.name,Sb a.body.tail,I a.body.type_,Cx a.body.num,Sl a1 a.body.args a2,I a.body.at_],.map (some ap),.func (.func 81) #[] [Pt am 0,Pt ak 0,Pt aa 0].toArray] rfl) ?_
 refine Calls.mono (Tz h a3 a8 f3 dcd dcd (Ab (x:=(AB.mk a.body.op a.body.name a.body.tail a.body.type_ a.body.num a.body.args a.body.at_)) fx) b8 fy fz f0 b7 (Ah (x:=(AF.mk a4 a5))) f1 (BH (x:=e) f2)) ?_
 rintro _ ha ⟨f4,hb,rfl,f5,hc,f6,f7⟩
 obtain rfl:=Aq f7
 refine ⟨_,rfl,?_⟩
 refine AA ?_
 refine AM ?_
 refine Vr (I (Wr (n+1))) ?_
 refine Vx (v:=I (Wr (n+1))) (Mv rfl) ?_
 refine AA ?_
 exact ⟨ao,Nat.lt_succ_self ao,_,f4,(Wr (n+1)),dh.2.why,dh.2.at_,Pu,(c0▸c),(Tn (T4 (Mo [22,27,28,29] ai) ab ac w z) f5),f6⟩
 refine BZ ?_
 refine Sr ?_
 refine Vx (v:=Ag [I p,I q]) (Lx KZ rfl rfl (Bw cz)) ?_
 have f8:=(Y4 (Y4 dq bf bc bd al) ad ae u ai)
 refine Eu (St (vs:=[I p,I q]) (cs':=[I p,I q]) G6 f8 rfl rfl rfl rfl fun hd f9 ga=>?_)
 refine AA ?_
 refine AW ?_
 obtain rfl:=AN c
 refine Xb (B:=B) dl (SR rfl (.agg KZ rfl rfl (Bw f9)) ?_)
 exact ⟨a7,[I p,I q],rfl,Ho (T2 (T4 (T4 (Mo [21,22,23,24,25,26,27,28,29] cg) bx bf bc bd) al ad ae u) ai ga) dj,(Ah (x:=(AF.mk p q)))⟩
theorem Sy(c:Nat):IK.Spec (IK c):=lk0 (Rm c)
def KN.Spec(f:AL→AF→Option (Ao×(List AE)×(List AK)×Ao)):Prop:=
 ∀g d {n o h l p q kn1 kn2 ko1_2 e},f n p=some e→[l,kn1,kn2,ko1_2].Nodup→0∉[l,kn1,kn2,ko1_2]→Cd.rep g.F d o n→Bk g d l h q 63→Am.rep g.F d q p→
  Calls PG 51 #[Ag o,.func (.func 52) #[] [Pt h 0].toArray] d fun w a=>∃c r m s u,w=.returned (Pt r 0)∧AS [kn1,kn2,ko1_2] g d c a∧Mp c a kn2 m e.1∧Bk c a kn1 r [.map (some m),s,u,.func (.func 52) #[] [Pt h 0].toArray] 134∧Slc AI c.F a s e.2.1∧Own Aa 87 c a ko1_2 u e.2.2.1∧Mp c a kn2 m e.2.2.2
theorem Sz(ah:Nat)(n:Col)(q:World)(a0:∀b,n b<10){e:AL}{ai:List Value}{y:Nat}{aj:AF}{ak:List Value}{h:Ao×(List AE)×(List AK)×Ao}(a1:Cd.rep n.F q ai e)(_ho0:Bk n q 1 y ak 63)(a2:Am.rep n.F q ak aj)(a:KN ah e aj=some h):
  Calls PG 51 #[Ag ai,.func (.func 52) #[] [Pt y 0].toArray] q fun a3 o=>∃p al aa am an,a3=.returned (Pt al 0)∧AS [2,3,4] n q p o∧Mp p o 3 aa h.1∧Bk p o 2 al [.map (some aa),am,an,.func (.func 52) #[] [Pt y 0].toArray] 134∧Slc AI p.F o am h.2.1∧Own Aa 87 p o 4 an h.2.2.1∧Mp p o 3 aa h.2.2.2:=by
 rw [KN] at a
 obtain ⟨ap,aq,rfl,ao⟩:=E1 (BN a1)
 obtain rfl:=Aq a2
 refine Ay Tryz.func51 rfl Tryz.ntmps51 rfl fun B a4 f=>Sr<|Ef<|BX n 20 rfl rfl fun a5 b2 a6 a7 ar=>Va (.pointer none)<|AA<|Sr<|Ef<|Mw a5 3 fun a8 b3 ab a9 ac=>Vx (Fz EA rfl)<|have au:=Bs a7 ac;Vx (Ld GP rfl (Bc au rfl))<|Vm<|Vx (v:=Ag [.map (some ab),Sl ap e.funcs aq,.slice none 0 0,.func (.func 52) #[] [Pt y 0].toArray]) (Bp Ze Zb rfl (.cons rfl rfl rfl (.cons rfl rfl rfl (.cons rfl rfl rfl .nil))))<|Ef<|BX a8 2 rfl rfl fun av ba r aw z=>Va (Pt r 0)<|AA<|AY<|Sr<|Vx (Fz EA rfl)<|have ax:=Bs au z;Vx (Ld GP rfl (Bc ax rfl))<|have ad:=K3 AI ao ar ac z; ?_
 obtain ⟨b4,b5,bb⟩:=AR ad
 refine Vx (v:=I (e.funcs.length:Int)) (Ll DY bb)<|Vr (I (Wr ((e.funcs.length:Int) - 1)))<|Va (I (Wr ((e.funcs.length:Int) - 1)))<|AA<|Ad<|Bj (fun g bc ae=>∃ay l d u,bc=Env.puts ay [(2,Pt a6 0),(5,Pt r 0),(6,I d)]∧IL e g d u=some h∧AS [3] av ba l ae∧Mp l ae 3 ab u) ah ?_ ?_
 refine have bd:=Ms a9 z;⟨_,av,(Wr ((e.funcs.length:Int) - 1)),([]:Ao),Pu,a,(AS.refl [3] _ _),bd⟩
 rintro g _ ae ⟨ay,l,d,u,rfl,a,m,af⟩
 rcases g with _|g
 exact A6 a
 refine have a:Ib e (IL e g) d u=some h:=a; ?_
 obtain ⟨b6,az⟩:∃s,s=IL e g:=⟨_,rfl⟩
 rw [←az,Ib] at a
 refine AY<|Sr<|Vm<|Vr (.bool (decide (d≥0)))<|AA<|Cn a (fun be a=>?_) fun be a=>?_
 refine WC.skip<|AY<|Ad<|B8 Eg (qs 0 12 (.one 12 .nil)) [12] [] l (by kernel_rfl) fun bf w=>Qx f rfl (v:=Pt r 0) (fun _ _=>Mv rfl)<|Qx f rfl (fun _ _=>Nc rfl)<|Qx f rfl (fun _ _=>Fz UW rfl)<|have bg:=Y2 aw m w;Qx f rfl (fun _ ⟨_,c⟩=>Ld Oc rfl (Bc (Bs bg c) rfl))<|Qx f rfl (fun _ _=>Fz EA rfl)<|have bh:=Y2 ax m w;Qx f rfl (fun _ ⟨_,c⟩=>Ld GP rfl (Bc (Bs bh c) rfl))<|Qx f rfl (v:=I d) (fun _ _=>Mv rfl)<|Bi a fun bi bj a=>have bk:=K2 AI ad m w; ?_
 obtain ⟨bl,bm,b7,bn,bo,bp,bq,br,ag⟩:=BG (κ:=AI) bk bj
 replace ag:A3 l bf bl (bm+d.toNat*11) bn:=ag
 obtain ⟨b8,b9,rfl,bt,bu⟩:=DA br
 obtain ⟨ca,cb,rfl⟩:=AR bt
 obtain ⟨cc,cd,rfl⟩:=AR bu
 refine Qx f rfl (fun _ _=>Ix DY bo rfl bp bq)<|Qx f rfl (fun _ _=>Fz L9 rfl)<|Qx f rfl (fun _ ⟨_,c⟩=>Ld CS rfl (A3.cell0 (Es ag c) rfl))<|Qx f rfl (v:=I d) (fun _ _=>Mv rfl)<|Qx f rfl (v:=I (Wr (d+1))) (fun _ _=>rfl)<|CX dcd<|WY.one<|have bv:=Ms af w;BC rfl (.none rfl) rfl<|KA Ko rfl rfl rfl bv fun cf bw bx=>WY.nil<|AM<|Vm<|Vr (I (Wr (d - 1)))<|Va (I (Wr (d - 1)))<|AA<|⟨g,Nat.lt_succ_self g,_,l,(Wr (d - 1)),(Lm bi.name (Wr (d+1)) u),Pu,(az▸a),(T2 (Mo [3] m) w bx),bw⟩
 refine BZ<|Sr<|Vm<|Va (Pt r 0)<|AA<|AW ?_
 obtain rfl:=AN a
 refine O1 B a4 rfl (.tmp rfl)<|have bz:=Bs aw m;have b0:=Ss AI ad m;⟨l,r,ab,Sl ap e.funcs aq,.slice none 0 0,rfl,Ho (T3 (Mo [3] ar) ac z m) a0,af,bz,b0,Own.nil,af⟩
theorem T0(e:Nat):KN.Spec (KN e):=by
 intro d f ab ac ad a ae af kn1 kn2 ko1_2 ag g hnd hnz h l m
 refine Calls.mono (Sz e (recol (see [a,kn1,kn2,ko1_2]) d) f (Hw lbr d) (Bl Cd h [a,kn1,kn2,ko1_2]) (BV l [a,kn1,kn2,ko1_2] (BJ hnd hnz (i:=0) rfl)) (Bl Am m [a,kn1,kn2,ko1_2]) g) ?_
 rintro ah ai ⟨n,o,p,q,r,s,c,u,w,y,z,aa⟩
 exact ⟨glue [a,kn1,kn2,ko1_2] f d n,o,p,q,r,s,DI c (Hu rfl rfl),W5 (j:=2) u rfl rfl c,Ur (j:=1) w rfl rfl c,G8 AI y,KK (j:=3) z rfl rfl c,W5 (j:=2) aa rfl rfl c⟩
def Fp.At(G1 G2:Prop)(c:Col)(a:World)(f:Int→AF→Option AF)(d:Nat):Prop:=
 ∀{l e m n o},f l m=some o→G1→G2→Bk c a d e n 63→Am.rep c.F a n m→
  Calls PG 52 #[I l,Pt e 0] a fun q g=>∃h p,q=.returned (.tuple #[])∧AS [d] c a h g∧Bk h g d e p 63∧Am.rep h.F g p o
def Fp.Spec(f:Int→AF→Option AF):Prop:=
 ∀c d {a},Fp.At ([a].Nodup) (0∉[a]) c d f a
theorem QG(f:Col)(n:World)(o:∀b,f b<10):Fp.At True True f n Fp 1:=by
 intro d s e ae u a _ _ g w
 rw [Fp] at a
 obtain rfl:=Aq w
 refine Ay Tryz.func52 rfl Tryz.ntmps52 rfl fun B p af=>An (fun y q=>∃r h m,y=Env.puts r [(0,I d),(1,Pt s 0),(11,.bool m)]∧Ja d e m=some u∧AS [] f n h q) ?_ ?_
 refine AM<|Vx (Fz Mc rfl)<|Vx (Ld LE rfl (Bc g rfl))<|Vr (.bool (e.why==0))<|Vm<|Bo a (fun c a=>?_) fun c a=>?_
 refine Pg c<|Pg c<|Pg c<|Pg c<|Vp c<|AA<|⟨_,f,true,Pu,a,Rf⟩
 refine Gm c<|Gx c (Fd OY rfl)<|Gx c (Ld CD rfl (Bc g rfl))<|Gr c (.bool (decide (d<e.at_)))<|Vp c<|AA<|⟨_,f,(decide (d<e.at_)),Pu,a,Rf⟩
 rintro _ q ⟨r,h,m,rfl,a,l⟩
 rw [Ja] at a
 refine Cn a (fun z a=>?_) fun z a=>?_
 refine AM<|Vm<|Vx (v:=Ag [I 34,I d]) (Bp E3 MF rfl (.cons rfl rfl rfl (.cons rfl rfl rfl .nil)))<|have aa:=Bs g l;Eu<|St G6 aa rfl rfl rfl rfl fun ag ab ac=>AA ?_
 obtain rfl:=AN a
 refine MX (B:=B) p<|MW rfl<|⟨h,[I 34,I d],rfl,Ho (Tn (Mo [1] l) ac) o,ab,(Ah (x:=(AF.mk 34 d)))⟩
 refine WC.skip ?_
 obtain rfl:=AN a
 refine MX (B:=B) p<|MW rfl<|have ad:=Bs g l;⟨h,[I e.why,I e.at_],rfl,Ho (Mo [] l) o,ad,(Ah (x:=e))⟩
theorem Qy:Fp.Spec Fp:=lk1 (QG)
def types_checker_want.Spec(f:(List AE)→(List AK)→Ao→AF→AB→Int→Option ((List AE)×(List AK)×AF)):Prop:=
 ∀c a {n g q r s u ko0_2 o p w l h y z aa ab ac m},f q s w y aa ac=some m→[g,p,h,ko0_2].Nodup→0∉[g,p,h,ko0_2]→Bk c a g n [.map (some o),r,u,.func (.func 52) #[] [Pt l 0].toArray] 134→Slc AI c.F a r q→Own Aa 87 c a ko0_2 u s→Mp c a p o w→Bk c a h l z 63→Am.rep c.F a z y→AJ.rep c.F a ab aa→
  Calls PG 53 #[Pt n 0,Ag ab,I ac] a fun ag d=>∃e ad ae af,ag=.returned (.tuple #[])∧AS [g,h,ko0_2] c a e d∧Bk e d g n [.map (some o),ad,ae,.func (.func 52) #[] [Pt l 0].toArray] 134∧Slc AI e.F d ad m.1∧Own Aa 87 e d ko0_2 ae m.2.1∧Bk e d h l af 63∧Am.rep e.F d af m.2.2
def types_checker_all.Spec(f:(List AE)→(List AK)→Ao→AF→Int→(List AB)→Option ((List AE)×(List AK)×AF)):Prop:=
 ∀c a {n g q r s u ko0_2 o p w l h y z aa ab ac m},f q s w y aa ab=some m→[g,p,h,ko0_2].Nodup→0∉[g,p,h,ko0_2]→Bk c a g n [.map (some o),r,u,.func (.func 52) #[] [Pt l 0].toArray] 134→Slc AI c.F a r q→Own Aa 87 c a ko0_2 u s→Mp c a p o w→Bk c a h l z 63→Am.rep c.F a z y→Slc AJ c.F a ac ab→
  Calls PG 82 #[Pt n 0,I aa,ac] a fun ag d=>∃e ad ae af,ag=.returned (.tuple #[])∧AS [g,h,ko0_2] c a e d∧Bk e d g n [.map (some o),ad,ae,.func (.func 52) #[] [Pt l 0].toArray] 134∧Slc AI e.F d ad m.1∧Own Aa 87 e d ko0_2 ae m.2.1∧Bk e d h l af 63∧Am.rep e.F d af m.2.2
def types_checker_in.Spec(f:(List AE)→(List AK)→Ao→AF→AB→Int→(List AK)→Option ((List AE)×(List AK)×AF)):Prop:=
 ∀c a {l g u w y z ko0_2 o p aa m h ab ac ad q ae r af ag ah s ai aj ak n},f u y aa ab af ai aj=some n→[g,p,h,q,r,s,ko0_2].Nodup→0∉[g,p,h,q,r,s,ko0_2]→Bk c a g l [.map (some o),w,z,.func (.func 52) #[] [Pt m 0].toArray] 134→Slc AI c.F a w u→Own Aa 87 c a ko0_2 z y→Mp c a p o aa→Bk c a h m ac 63→Am.rep c.F a ac ab→Bk c a q ad [Pt l 0] 130→Bk c a r ae ag 56→AJ.rep c.F a ag af→Bk c a s ah [I ai] 34→Slc Aa c.F a ak aj→
  Calls PG 83 #[Pt l 0,.func (.func 84) #[] [Pt ad 0,Pt ae 0,Pt ah 0].toArray,ak] a fun ao d=>∃e al am an,ao=.returned (.tuple #[])∧AS [g,h,ko0_2] c a e d∧Bk e d g l [.map (some o),al,am,.func (.func 52) #[] [Pt m 0].toArray] 134∧Slc AI e.F d al n.1∧Own Aa 87 e d ko0_2 am n.2.1∧Bk e d h m an 63∧Am.rep e.F d an n.2.2
def types_checker_in_2.Spec(f:(List AE)→(List AK)→Ao→AF→AB→Int→(List AK)→Option ((List AE)×(List AK)×AF)):Prop:=
 ∀c a {l g u w y z ko0_2 o p aa m h ab ac ad q ae r af ag ah s ai aj ak n},f u y aa ab af ai aj=some n→[g,p,h,q,r,s,ko0_2].Nodup→0∉[g,p,h,q,r,s,ko0_2]→Bk c a g l [.map (some o),w,z,.func (.func 52) #[] [Pt m 0].toArray] 134→Slc AI c.F a w u→Own Aa 87 c a ko0_2 z y→Mp c a p o aa→Bk c a h m ac 63→Am.rep c.F a ac ab→Bk c a q ad [Pt l 0] 130→Bk c a r ae ag 56→AJ.rep c.F a ag af→Bk c a s ah [I ai] 34→Slc Aa c.F a ak aj→
  Calls PG 83 #[Pt l 0,.func (.func 85) #[] [Pt ad 0,Pt ae 0,Pt ah 0].toArray,ak] a fun ao d=>∃e al am an,ao=.returned (.tuple #[])∧AS [g,h,ko0_2] c a e d∧Bk e d g l [.map (some o),al,am,.func (.func 52) #[] [Pt m 0].toArray] 134∧Slc AI e.F d al n.1∧Own Aa 87 e d ko0_2 am n.2.1∧Bk e d h m an 63∧Am.rep e.F d an n.2.2
def types_checker_in_3.Spec(f:(List AE)→(List AK)→Ao→AF→AB→Int→(List AK)→Option ((List AE)×(List AK)×AF)):Prop:=
 ∀c a {l g u w y z ko0_2 o p aa m h ab ac ad q ae r af ag ah s ai aj ak n},f u y aa ab af ai aj=some n→[g,p,h,q,r,s,ko0_2].Nodup→0∉[g,p,h,q,r,s,ko0_2]→Bk c a g l [.map (some o),w,z,.func (.func 52) #[] [Pt m 0].toArray] 134→Slc AI c.F a w u→Own Aa 87 c a ko0_2 z y→Mp c a p o aa→Bk c a h m ac 63→Am.rep c.F a ac ab→Bk c a q ad [Pt l 0] 130→Bk c a r ae ag 56→AJ.rep c.F a ag af→Bk c a s ah [I ai] 34→Slc Aa c.F a ak aj→
  Calls PG 83 #[Pt l 0,.func (.func 86) #[] [Pt ad 0,Pt ae 0,Pt ah 0].toArray,ak] a fun ao d=>∃e al am an,ao=.returned (.tuple #[])∧AS [g,h,ko0_2] c a e d∧Bk e d g l [.map (some o),al,am,.func (.func 52) #[] [Pt m 0].toArray] 134∧Slc AI e.F d al n.1∧Own Aa 87 e d ko0_2 am n.2.1∧Bk e d h m an 63∧Am.rep e.F d an n.2.2
def types_checker_own.Spec(f:(List AE)→(List AK)→Ao→AF→AB→Option (Int×(List AE)×(List AK)×AF)):Prop:=
 ∀c a {n g q r s u ko0_2 o p w m h y z aa ab l},f q s w y aa=some l→[g,p,h,ko0_2].Nodup→0∉[g,p,h,ko0_2]→Bk c a g n [.map (some o),r,u,.func (.func 52) #[] [Pt m 0].toArray] 134→Slc AI c.F a r q→Own Aa 87 c a ko0_2 u s→Mp c a p o w→Bk c a h m z 63→Am.rep c.F a z y→AJ.rep c.F a ab aa→
  Calls PG 87 #[Pt n 0,Ag ab] a fun af d=>∃e ac ad ae,af=.returned (I l.1)∧AS [g,h,ko0_2] c a e d∧Bk e d g n [.map (some o),ac,ad,.func (.func 52) #[] [Pt m 0].toArray] 134∧Slc AI e.F d ac l.2.1∧Own Aa 87 e d ko0_2 ad l.2.2.1∧Bk e d h m ae 63∧Am.rep e.F d ae l.2.2.2
def types_checker_want_1.Spec(f:(List AE)→(List AK)→Ao→AF→AB→Int→Option ((List AE)×(List AK)×AF)):Prop:=
 ∀c a {u n o g w y z aa ko1_2 p q ab l h ac ad ae r af ag ah s ai m},f w z ab ac af ai=some m→[n,g,q,h,r,s,ko1_2].Nodup→0∉[n,g,q,h,r,s,ko1_2]→Bk c a n u [Pt o 0] 130→Bk c a g o [.map (some p),y,aa,.func (.func 52) #[] [Pt l 0].toArray] 134→Slc AI c.F a y w→Own Aa 87 c a ko1_2 aa z→Mp c a q p ab→Bk c a h l ad 63→Am.rep c.F a ad ac→Bk c a r ae ag 56→AJ.rep c.F a ag af→Bk c a s ah [I ai] 34→
  Calls PG 84 #[Pt u 0,Pt ae 0,Pt ah 0] a fun am d=>∃e aj ak al,am=.returned (.tuple #[])∧AS [g,h,ko1_2] c a e d∧Bk e d g o [.map (some p),aj,ak,.func (.func 52) #[] [Pt l 0].toArray] 134∧Slc AI e.F d aj m.1∧Own Aa 87 e d ko1_2 ak m.2.1∧Bk e d h l al 63∧Am.rep e.F d al m.2.2
def types_checker_want_2.Spec(f:(List AE)→(List AK)→Ao→AF→AB→Int→Option ((List AE)×(List AK)×AF)):Prop:=
 ∀c a {u n o g w y z aa ko1_2 p q ab l h ac ad ae r af ag ah s ai m},f w z ab ac af ai=some m→[n,g,q,h,r,s,ko1_2].Nodup→0∉[n,g,q,h,r,s,ko1_2]→Bk c a n u [Pt o 0] 130→Bk c a g o [.map (some p),y,aa,.func (.func 52) #[] [Pt l 0].toArray] 134→Slc AI c.F a y w→Own Aa 87 c a ko1_2 aa z→Mp c a q p ab→Bk c a h l ad 63→Am.rep c.F a ad ac→Bk c a r ae ag 56→AJ.rep c.F a ag af→Bk c a s ah [I ai] 34→
  Calls PG 85 #[Pt u 0,Pt ae 0,Pt ah 0] a fun am d=>∃e aj ak al,am=.returned (.tuple #[])∧AS [g,h,ko1_2] c a e d∧Bk e d g o [.map (some p),aj,ak,.func (.func 52) #[] [Pt l 0].toArray] 134∧Slc AI e.F d aj m.1∧Own Aa 87 e d ko1_2 ak m.2.1∧Bk e d h l al 63∧Am.rep e.F d al m.2.2
def types_checker_want_3.Spec(f:(List AE)→(List AK)→Ao→AF→AB→Int→Option ((List AE)×(List AK)×AF)):Prop:=
 ∀c a {u n o g w y z aa ko1_2 p q ab l h ac ad ae r af ag ah s ai m},f w z ab ac af ai=some m→[n,g,q,h,r,s,ko1_2].Nodup→0∉[n,g,q,h,r,s,ko1_2]→Bk c a n u [Pt o 0] 130→Bk c a g o [.map (some p),y,aa,.func (.func 52) #[] [Pt l 0].toArray] 134→Slc AI c.F a y w→Own Aa 87 c a ko1_2 aa z→Mp c a q p ab→Bk c a h l ad 63→Am.rep c.F a ad ac→Bk c a r ae ag 56→AJ.rep c.F a ag af→Bk c a s ah [I ai] 34→
  Calls PG 86 #[Pt u 0,Pt ae 0,Pt ah 0] a fun am d=>∃e aj ak al,am=.returned (.tuple #[])∧AS [g,h,ko1_2] c a e d∧Bk e d g o [.map (some p),aj,ak,.func (.func 52) #[] [Pt l 0].toArray] 134∧Slc AI e.F d aj m.1∧Own Aa 87 e d ko1_2 ak m.2.1∧Bk e d h l al 63∧Am.rep e.F d al m.2.2
def types_checker_call.Spec(f:(List AE)→(List AK)→Ao→AF→AB→Option (Int×(List AE)×(List AK)×AF)):Prop:=
 ∀c a {n g q r s u ko0_2 o p w m h y z aa ab l},f q s w y aa=some l→[g,p,h,ko0_2].Nodup→0∉[g,p,h,ko0_2]→Bk c a g n [.map (some o),r,u,.func (.func 52) #[] [Pt m 0].toArray] 134→Slc AI c.F a r q→Own Aa 87 c a ko0_2 u s→Mp c a p o w→Bk c a h m z 63→Am.rep c.F a z y→AJ.rep c.F a ab aa→
  Calls PG 112 #[Pt n 0,Ag ab] a fun af d=>∃e ac ad ae,af=.returned (I l.1)∧AS [g,h,ko0_2] c a e d∧Bk e d g n [.map (some o),ac,ad,.func (.func 52) #[] [Pt m 0].toArray] 134∧Slc AI e.F d ac l.2.1∧Own Aa 87 e d ko0_2 ad l.2.2.1∧Bk e d h m ae 63∧Am.rep e.F d ae l.2.2.2
structure AG.Good(a:AG):Prop where
 types_checker_want:types_checker_want.Spec a.types_checker_want
 types_checker_all:types_checker_all.Spec a.types_checker_all
 types_checker_in:types_checker_in.Spec a.types_checker_in
 types_checker_in_2:types_checker_in_2.Spec a.types_checker_in_2
 types_checker_in_3:types_checker_in_3.Spec a.types_checker_in_3
 types_checker_own:types_checker_own.Spec a.types_checker_own
 types_checker_want_1:types_checker_want_1.Spec a.types_checker_want_1
 types_checker_want_2:types_checker_want_2.Spec a.types_checker_want_2
 types_checker_want_3:types_checker_want_3.Spec a.types_checker_want_3
 types_checker_call:types_checker_call.Spec a.types_checker_call
theorem Nk(cd:AG)(e0:Nat)(al:AG.Good cd)(w:Col)(am:World)(cf:∀b,w b<10){l:Nat}{cg:(List AE)}{ch:Value}{ci:(List AK)}{cj:Value}{bo:Nat}{ck:Ao}{ao:Nat}{au:AF}{cl:List Value}{a:AB}{cm:List Value}{r:Int}{bd:(List AE)×(List AK)×AF}(be:Bk w am 1 l [.map (some bo),ch,cj,.func (.func 52) #[] [Pt ao 0].toArray] 134)(a2:Slc AI w.F am ch cg)(a3:Own Aa 87 w am 4 cj ci)(bf:Mp w am 2 bo ck)(bg:Bk w am 3 ao cl 63)(e1:Am.rep w.F am cl au)(e2:AJ.rep w.F am cm a)(c:GE cd e0 cg ci ck au a r=some bd):
  Calls PG 53 #[Pt l 0,Ag cm,I r] am fun e3 a4=>∃a5 cn co cq,e3=.returned (.tuple #[])∧AS [1,3,4] w am a5 a4∧Bk a5 a4 1 l [.map (some bo),cn,co,.func (.func 52) #[] [Pt ao 0].toArray] 134∧Slc AI a5.F a4 cn bd.1∧Own Aa 87 a5 a4 4 co bd.2.1∧Bk a5 a4 3 ao cq 63∧Am.rep a5.F a4 cq bd.2.2:=by
 rw [GE] at c
 obtain ⟨kn,ko,rfl⟩:=AR a2
 obtain ⟨kp,kq,rfl⟩:=Own.len a3
 obtain rfl:=Aq e1
 obtain ⟨ap,aq,rfl,a6⟩:=E1 (Ai e2)
 refine Ay Tryz.func53 rfl Tryz.ntmps53 rfl fun B cr g=>?_
 refine Sr ?_
 refine Ef (BX w 20 rfl rfl fun e4 ks y a7 h=>?_)
 refine Ef (BX e4 21 rfl rfl fun e5 kt m ct f=>?_)
 refine Ef (BX e5 22 rfl rfl fun u cu z a8 e=>?_)
 refine AA ?_
 refine Sr ?_
 refine Vx (v:=I r) (Ld EB rfl (Bc a8 rfl)) ?_
 refine Va (I r) ?_
 refine AA ?_
 refine An (fun e6 a9=>∃cv an bh av bi bj aw bk bl ba bb,e6=Env.puts cv [(3,Pt y 0),(4,Pt m 0),(5,Pt z 0),(6,I bh)]∧CR a r bh av aw ba bb=some bd∧AS [1,3,4,23,24,25] u cu an a9∧Slc AI an.F a9 (Sl bi av bj) av∧Own Aa 87 an a9 4 (Sl bk aw bl) aw∧Bk an a9 1 l [.map (some bo),Sl bi av bj,Sl bk aw bl,.func (.func 52) #[] [Pt ao 0].toArray] 134∧Bk an a9 3 ao [I ba,I bb] 63) ?_ ?_
 refine Sr ?_
 refine Vx (v:=Pt m 0) (Fz DW rfl) ?_
 have ar:=(Bs ct e)
 refine Vx (v:=I a.op) (Ld Hr rfl (Bc ar rfl)) ?_
 refine AA ?_
 refine Ad ?_
 refine Sr ?_
 refine Vr (.bool (a.op==19)) ?_
 refine Va (.bool (a.op==19)) ?_
 refine AA ?_
 refine Cn c (fun e7 c=>?_) fun e7 c=>?_
 refine AY ?_
 refine B8 Eg (qs 0 5 (.one 5 .nil)) [] [1,3,4] u (by kernel_rfl) fun cw aa=>?_
 have cx:=(Y3 a7 f e aa)
 refine Qx g rfl (v:=Pt l 0) (fun _ ⟨_,d⟩=>Ld KJ rfl (Bc (Bs cx d) rfl)) ?_
 refine Qx g rfl (v:=Pt m 5) (fun _ _=>Fd Bh rfl) ?_
 have cy:=(Bs ar aa)
 refine Qx g rfl (v:=Sl ap a.args aq) (fun _ ⟨_,d⟩=>Ld EC rfl (Bc (Bs cy d) rfl)) ?_
 obtain ⟨n,e8,c⟩:=bnd_sm c
 have cz:=(K4 AJ a6 h f e aa)
 obtain ⟨c0,c1,ku,e9,fa,fb,fc,fd,bu⟩:=BG (κ:=AJ) cz e8
 replace bu:A3 u cw c0 (c1+(0:Int).toNat*7) e9:=bu
 obtain ⟨bv,bw,rfl,c2⟩:=E1 (Ai fd)
 refine Qx g rfl (v:=.pointer (some ⟨c0,c1+(0:Int).toNat*7,none⟩)) (fun _ _=>Ix C9 fa rfl fb fc) ?_
 refine Qx g rfl (v:=Ag [I n.op,Sb n.name,Sb n.tail,I n.type_,Cx n.num,Sl bv n.args bw,I n.at_]) (fun _ ⟨_,d⟩=>Lx BA rfl rfl (A3.part0 (Es bu d) [I n.op,Sb n.name,Sb n.tail,I n.type_,Cx n.num,Sl bv n.args bw,I n.at_] rfl)) ?_
 refine A5 rfl ?_
 have fe:=(Y4 be h f e aa)
 have ff:=(K4 AI a2 h f e aa)
 have fg:=(Os (Os (Os (Os a3 h) f) e) aa)
 have c3:=(Ms (Ms (Ms (Ms bf h) f) e) aa)
 have fh:=(Y4 bg h f e aa)
 obtain ⟨fi,fj,c⟩:=bnd_sm c
 refine BM rfl (.none rfl) rfl rfl (Cg [Pt l 0,Ag [I n.op,Sb n.name,Sb n.tail,I n.type_,Cx n.num,Sl bv n.args bw,I n.at_],I 2] rfl) ?_
 refine Calls.mono (al.types_checker_want u cw (ko0_2:=4) fj dcd dcd fe ff fg c3 fh (Ah (x:=au)) (Ab (x:=n) c2)) ?_
 rintro _ kw ⟨c4,kx,ky,kz,rfl,ax,fk,c5,c6,fl,fm⟩
 obtain ⟨k0,k1,rfl⟩:=AR c5
 obtain ⟨k2,k3,rfl⟩:=Own.len c6
 obtain rfl:=Aq fm
 refine ⟨_,rfl,⟨_,(Mo [1,3,4] ax)⟩,?_⟩
 refine Dt ?_
 refine B8 Eg (qs 0 5 (.one 5 .nil)) [] [1,3,4] c4 (by kernel_rfl) fun fn ab=>?_
 have fo:=(Y2 cx ax ab)
 refine Qx g rfl (v:=Pt l 0) (fun _ ⟨_,d⟩=>Ld KJ rfl (Bc (Bs fo d) rfl)) ?_
 have fp:=(Y3 a8 aa ax ab)
 refine Qx g rfl (v:=I r) (fun _ ⟨_,d⟩=>Ld EB rfl (Bc (Bs fp d) rfl)) ?_
 refine Qx g rfl (v:=Pt m 5) (fun _ _=>Fd Bh rfl) ?_
 have fq:=(Y2 cy ax ab)
 refine Qx g rfl (v:=Sl ap a.args aq) (fun _ ⟨_,d⟩=>Ld EC rfl (Bc (Bs fq d) rfl)) ?_
 obtain ⟨c7,c8,c⟩:=bnd_sm c
 have fr:=(K2 AJ cz ax ab)
 obtain ⟨c9,da,fs,ft,bx⟩:=Uj fr c8
 obtain ⟨k4,db⟩:∃s,s=Value.slice (if da=(1:Int).toNat then c9 else c9.map (·.add ((1:Int).toNat*AJ.size))) ((a.args.length:Int).toNat - (1:Int).toNat) (da - (1:Int).toNat):=⟨_,rfl⟩
 rw [←db] at bx
 obtain ⟨fu,fv,fw,_⟩:=LK c8
 obtain ⟨dc,de,rfl⟩:=AR bx
 refine Qx g rfl (v:=.slice dc c7.length de) (fun _ _=>(by rw [db];exact Run.sliceSlc C9 fs ⟨_,rfl⟩ rfl fu fv fw ft)) ?_
 refine A5 rfl ?_
 have fx:=(Bs fk ab)
 have fy:=(Ss AI c5 ab)
 have fz:=(Os c6 ab)
 have f0:=(Ms (Ms c3 ax) ab)
 have f1:=(Bs fl ab)
 obtain ⟨bp,f2,c⟩:=bnd_sm c
 refine BM rfl (.none rfl) rfl rfl (Cg [Pt l 0,I r,Sl dc c7 de] rfl) ?_
 refine Calls.mono (al.types_checker_all c4 fn (ko0_2:=4) f2 dcd dcd fx fy fz f0 f1 (Ah (x:=fi.2.2)) bx) ?_
 rintro _ k5 ⟨f3,k6,k7,k8,rfl,df,f4,dg,dh,f5,f6⟩
 obtain ⟨f7,f8,rfl⟩:=AR dg
 obtain ⟨f9,ga,rfl⟩:=Own.len dh
 obtain rfl:=Aq f6
 refine ⟨_,rfl,⟨_,(Mo [1,3,4] df)⟩,?_⟩
 refine Dt ?_
 exact ⟨_,f3,r,bp.1,f7,f8,bp.2.1,f9,ga,bp.2.2.why,bp.2.2.at_,Pu,c,(T3 (Mo [1,3,4,23,24,25] aa) ax ab df),dg,dh,f4,f5⟩
 refine Sr ?_
 refine Vr (.bool (a.op==20)) ?_
 refine Va (.bool (a.op==20)) ?_
 refine AA ?_
 refine Cn c (fun gb c=>?_) fun gb c=>?_
 refine AY ?_
 refine B8 Eg (qs 0 5 (.one 5 .nil)) [] [1,3,4] u (by kernel_rfl) fun di ac=>?_
 have dj:=(Y3 a7 f e ac)
 refine Qx g rfl (v:=Pt l 0) (fun _ ⟨_,d⟩=>Ld KJ rfl (Bc (Bs dj d) rfl)) ?_
 refine Qx g rfl (v:=Pt m 5) (fun _ _=>Fd Bh rfl) ?_
 have dk:=(Bs ar ac)
 refine Qx g rfl (v:=Sl ap a.args aq) (fun _ ⟨_,d⟩=>Ld EC rfl (Bc (Bs dk d) rfl)) ?_
 obtain ⟨o,gc,c⟩:=bnd_sm c
 have dl:=(K4 AJ a6 h f e ac)
 obtain ⟨dm,dn,k9,gd,ge,gf,gg,gh,bz⟩:=BG (κ:=AJ) dl gc
 replace bz:A3 u di dm (dn+(0:Int).toNat*7) gd:=bz
 obtain ⟨b0,b1,rfl,dp⟩:=E1 (Ai gh)
 refine Qx g rfl (v:=.pointer (some ⟨dm,dn+(0:Int).toNat*7,none⟩)) (fun _ _=>Ix C9 ge rfl gf gg) ?_
 refine Qx g rfl (v:=Ag [I o.op,Sb o.name,Sb o.tail,I o.type_,Cx o.num,Sl b0 o.args b1,I o.at_]) (fun _ ⟨_,d⟩=>Lx BA rfl rfl (A3.part0 (Es bz d) [I o.op,Sb o.name,Sb o.tail,I o.type_,Cx o.num,Sl b0 o.args b1,I o.at_] rfl)) ?_
 refine A5 rfl ?_
 have gi:=(Y4 be h f e ac)
 have gj:=(K4 AI a2 h f e ac)
 have gk:=(Os (Os (Os (Os a3 h) f) e) ac)
 have dq:=(Ms (Ms (Ms (Ms bf h) f) e) ac)
 have gl:=(Y4 bg h f e ac)
 obtain ⟨gm,gn,c⟩:=bnd_sm c
 refine BM rfl (.none rfl) rfl rfl (Cg [Pt l 0,Ag [I o.op,Sb o.name,Sb o.tail,I o.type_,Cx o.num,Sl b0 o.args b1,I o.at_],I 3] rfl) ?_
 refine Calls.mono (al.types_checker_want u di (ko0_2:=4) gn dcd dcd gi gj gk dq gl (Ah (x:=au)) (Ab (x:=o) dp)) ?_
 rintro _ lb ⟨b2,lc,ld,le,rfl,ay,go,dr,ds,gp,gq⟩
 obtain ⟨lf,lg,rfl⟩:=AR dr
 obtain ⟨lh,li,rfl⟩:=Own.len ds
 obtain rfl:=Aq gq
 refine ⟨_,rfl,⟨_,(Mo [1,3,4] ay)⟩,?_⟩
 refine Dt ?_
 refine AY ?_
 refine B8 Eg (qs 0 6 (.one 6 .nil)) [] [1,3,4] b2 (by kernel_rfl) fun dt ad=>?_
 have du:=(Y2 dj ay ad)
 refine Qx g rfl (v:=Pt l 0) (fun _ ⟨_,d⟩=>Ld KJ rfl (Bc (Bs du d) rfl)) ?_
 refine Qx g rfl (v:=Pt m 5) (fun _ _=>Fd Bh rfl) ?_
 have dv:=(Y2 dk ay ad)
 refine Qx g rfl (v:=Sl ap a.args aq) (fun _ ⟨_,d⟩=>Ld EC rfl (Bc (Bs dv d) rfl)) ?_
 obtain ⟨p,gr,c⟩:=bnd_sm c
 have dw:=(K2 AJ dl ay ad)
 obtain ⟨dx,dy,lj,gs,gt,gu,gv,gw,b3⟩:=BG (κ:=AJ) dw gr
 replace b3:A3 b2 dt dx (dy+(1:Int).toNat*7) gs:=b3
 obtain ⟨b4,b5,rfl,dz⟩:=E1 (Ai gw)
 refine Qx g rfl (v:=.pointer (some ⟨dx,dy+(1:Int).toNat*7,none⟩)) (fun _ _=>Ix C9 gt rfl gu gv) ?_
 refine Qx g rfl (v:=Ag [I p.op,Sb p.name,Sb p.tail,I p.type_,Cx p.num,Sl b4 p.args b5,I p.at_]) (fun _ ⟨_,d⟩=>Lx BA rfl rfl (A3.part0 (Es b3 d) [I p.op,Sb p.name,Sb p.tail,I p.type_,Cx p.num,Sl b4 p.args b5,I p.at_] rfl)) ?_
 have d0:=(Y3 a8 ac ay ad)
 refine Qx g rfl (v:=I r) (fun _ ⟨_,d⟩=>Ld EB rfl (Bc (Bs d0 d) rfl)) ?_
 refine A5 rfl ?_
 have gx:=(Bs go ad)
 have gy:=(Ss AI dr ad)
 have gz:=(Os ds ad)
 have d1:=(Ms (Ms dq ay) ad)
 have g0:=(Bs gp ad)
 obtain ⟨g1,g2,c⟩:=bnd_sm c
 refine BM rfl (.none rfl) rfl rfl (Cg [Pt l 0,Ag [I p.op,Sb p.name,Sb p.tail,I p.type_,Cx p.num,Sl b4 p.args b5,I p.at_],I r] rfl) ?_
 refine Calls.mono (al.types_checker_want b2 dt (ko0_2:=4) g2 dcd dcd gx gy gz d1 g0 (Ah (x:=gm.2.2)) (Ab (x:=p) dz)) ?_
 rintro _ ll ⟨g3,lm,ln,lo,rfl,az,g4,d2,d3,g5,g6⟩
 obtain ⟨lp,lq,rfl⟩:=AR d2
 obtain ⟨lr,ls,rfl⟩:=Own.len d3
 obtain rfl:=Aq g6
 refine ⟨_,rfl,⟨_,(Mo [1,3,4] az)⟩,?_⟩
 refine Dt ?_
 refine AM ?_
 have d4:=(Bs du az)
 refine Vx (v:=Pt l 0) (Ld KJ rfl (Bc d4 rfl)) ?_
 refine Vx (v:=.func (.func 84) #[] [Pt y 0,Pt m 0,Pt z 0].toArray) (IB (vs:=[Pt y 0,Pt m 0,Pt z 0]) rfl) ?_
 refine Vx (v:=Pt m 1) (Fd EV rfl) ?_
 have b6:=(Bs dv az)
 refine Vx (v:=Sb a.name) (Ld CS rfl (Bc b6 rfl)) ?_
 refine Vx (v:=Ag [Sb a.name,I 1,I 0]) (Bp Lf Qn rfl (.cons rfl rfl rfl (.cons rfl rfl rfl .nil))) ?_
 refine Vx (v:=Pt m 2) (Fd NR rfl) ?_
 refine Vx (v:=Sb a.tail) (Ld CS rfl (Bc b6 rfl)) ?_
 refine Vx (v:=Ag [Sb a.tail,I 3,I 0]) (Bp Lf Qn rfl (.cons rfl rfl rfl (.cons rfl rfl rfl .nil))) ?_
 refine Ef (Bf (cs:=[Sb a.name,I 1,I 0,Sb a.tail,I 3,I 0]) g3 23 [[Sb a.name,I 1,I 0],[Sb a.tail,I 3,I 0]] ED Lf rfl rfl (.cons rfl rfl rfl (.cons rfl rfl rfl .nil)) rfl fun g7 d5 d6 g8 ae=>?_)
 have g9:Own Aa 87 g7 d5 23 (.slice (some ⟨d6,0,none⟩) 2 2) ([(AK.mk a.name 1 0),(AK.mk a.tail 3 0)]:List AK):=Own.lit (css:=[[Sb a.name,I 1,I 0],[Sb a.tail,I 3,I 0]]) g8 rfl rfl rfl (AQ (Kg (x:=(AK.mk a.name 1 0))) (AQ (Kg (x:=(AK.mk a.tail 3 0))) Au)) (Av rfl (Av rfl CP)) rfl
 obtain ⟨ha,af,hb⟩:=Own.freeze (S:=[23]) g9 dcd dcd
 have hc:=(Y2 g4 ae af)
 have hd:=(K2 AI d2 ae af)
 have he:=(Os (Os d3 ae) af)
 have hf:=(Ms (Ms (Ms d1 az) ae) af)
 have hg:=(Y2 g5 ae af)
 have hh:=(Y2 d4 ae af)
 have hi:=(Y2 b6 ae af)
 have hj:=(K3 AJ dw az ae af)
 have hk:=(Y3 d0 az ae af)
 obtain ⟨bq,hl,c⟩:=bnd_sm c
 refine B7 (.none rfl) rfl rfl (Cg [Pt l 0,.func (.func 84) #[] [Pt y 0,Pt m 0,Pt z 0].toArray,Sl (some ⟨d6,0,none⟩) (([(AK.mk a.name 1 0),(AK.mk a.tail 3 0)]:List AK)) 2] rfl) ?_
 refine Calls.mono (al.types_checker_in ha d5 (ko0_2:=4) hl dcd dcd hc hd he hf hg (Ah (x:=g1.2.2)) hh hi (Ab (x:=a) hj) hk hb) ?_
 rintro _ lt ⟨hm,lu,lv,lw,rfl,hn,ho,d7,d8,hp,hq⟩
 obtain ⟨hr,hs,rfl⟩:=AR d7
 obtain ⟨ht,hu,rfl⟩:=Own.len d8
 obtain rfl:=Aq hq
 refine ⟨_,rfl,?_⟩
 refine AA ?_
 exact ⟨_,hm,r,bq.1,hr,hs,bq.2.1,ht,hu,bq.2.2.why,bq.2.2.at_,Pu,c,(T2 (T4 (Mo [1,3,4,23,24,25] ac) ay ad az ae) af hn),d7,d8,ho,hp⟩
 refine Sr ?_
 refine Vr (.bool (a.op==21)) ?_
 refine Va (.bool (a.op==21)) ?_
 refine AA ?_
 refine Cn c (fun hw c=>?_) fun hw c=>?_
 refine AM ?_
 have d9:=(Y2 a7 f e)
 refine Vx (v:=Pt l 0) (Ld KJ rfl (Bc d9 rfl)) ?_
 refine Vx (v:=.func (.func 85) #[] [Pt y 0,Pt m 0,Pt z 0].toArray) (IB (vs:=[Pt y 0,Pt m 0,Pt z 0]) rfl) ?_
 refine Vx (v:=Pt m 1) (Fd EV rfl) ?_
 refine Vx (v:=Sb a.name) (Ld CS rfl (Bc ar rfl)) ?_
 refine Vx (v:=Pt m 3) (Fd K0 rfl) ?_
 refine Vx (v:=I a.type_) (Ld EB rfl (Bc ar rfl)) ?_
 refine Vx (v:=Ag [Sb a.name,I a.type_,I 0]) (Bp Lf Qn rfl (.cons rfl rfl rfl (.cons rfl rfl rfl .nil))) ?_
 refine Ef (Bf (cs:=[Sb a.name,I a.type_,I 0]) u 24 [[Sb a.name,I a.type_,I 0]] ED Lf rfl rfl (.cons rfl rfl rfl .nil) rfl fun hx ea eb hy ag=>?_)
 have hz:Own Aa 87 hx ea 24 (.slice (some ⟨eb,0,none⟩) 1 1) ([(AK.mk a.name a.type_ 0)]:List AK):=Own.lit (css:=[[Sb a.name,I a.type_,I 0]]) hy rfl rfl rfl (AQ (Kg (x:=(AK.mk a.name a.type_ 0))) Au) (Av rfl CP) rfl
 obtain ⟨h0,ah,h1⟩:=Own.freeze (S:=[24]) hz dcd dcd
 have h2:=(Bs (Y4 be h f e ag) ah)
 have h3:=(Ss AI (K4 AI a2 h f e ag) ah)
 have h4:=(Os (Os (Os (Os (Os a3 h) f) e) ag) ah)
 have h5:=(Ms (Ms (Ms (Ms (Ms bf h) f) e) ag) ah)
 have h6:=(Bs (Y4 bg h f e ag) ah)
 have h7:=(Y2 d9 ag ah)
 have h8:=(Y2 ar ag ah)
 have h9:=(Ss AJ (K4 AJ a6 h f e ag) ah)
 have ia:=(Y2 a8 ag ah)
 obtain ⟨br,ib,c⟩:=bnd_sm c
 refine B7 (.none rfl) rfl rfl (Cg [Pt l 0,.func (.func 85) #[] [Pt y 0,Pt m 0,Pt z 0].toArray,Sl (some ⟨eb,0,none⟩) (([(AK.mk a.name a.type_ 0)]:List AK)) 1] rfl) ?_
 refine Calls.mono (al.types_checker_in_2 h0 ea (ko0_2:=4) ib dcd dcd h2 h3 h4 h5 h6 (Ah (x:=au)) h7 h8 (Ab (x:=a) h9) ia h1) ?_
 rintro _ lx ⟨ic,ly,lz,l0,rfl,id,ie,ec,ed,ig,ih⟩
 obtain ⟨ii,ij,rfl⟩:=AR ec
 obtain ⟨ik,il,rfl⟩:=Own.len ed
 obtain rfl:=Aq ih
 refine ⟨_,rfl,?_⟩
 refine AA ?_
 exact ⟨_,ic,r,br.1,ii,ij,br.2.1,ik,il,br.2.2.why,br.2.2.at_,Pu,c,(T2 (Mo [1,3,4,23,24,25] ag) ah id),ec,ed,ie,ig⟩
 refine Sr ?_
 refine Vr (.bool (a.op==22)) ?_
 refine Va (.bool (a.op==22)) ?_
 refine AA ?_
 refine Cn c (fun im c=>?_) fun im c=>?_
 refine AY ?_
 refine B8 Eg (qs 0 7 (.one 7 .nil)) [] [1,3,4] u (by kernel_rfl) fun ee ai=>?_
 have ef:=(Y3 a7 f e ai)
 refine Qx g rfl (v:=Pt l 0) (fun _ ⟨_,d⟩=>Ld KJ rfl (Bc (Bs ef d) rfl)) ?_
 refine Qx g rfl (v:=Pt m 5) (fun _ _=>Fd Bh rfl) ?_
 have b7:=(Bs ar ai)
 refine Qx g rfl (v:=Sl ap a.args aq) (fun _ ⟨_,d⟩=>Ld EC rfl (Bc (Bs b7 d) rfl)) ?_
 obtain ⟨q,io,c⟩:=bnd_sm c
 have eg:=(K4 AJ a6 h f e ai)
 obtain ⟨eh,ei,l1,ip,iq,ir,it,iu,b8⟩:=BG (κ:=AJ) eg io
 replace b8:A3 u ee eh (ei+(0:Int).toNat*7) ip:=b8
 obtain ⟨b9,ca,rfl,ej⟩:=E1 (Ai iu)
 refine Qx g rfl (v:=.pointer (some ⟨eh,ei+(0:Int).toNat*7,none⟩)) (fun _ _=>Ix C9 iq rfl ir it) ?_
 refine Qx g rfl (v:=Ag [I q.op,Sb q.name,Sb q.tail,I q.type_,Cx q.num,Sl b9 q.args ca,I q.at_]) (fun _ ⟨_,d⟩=>Lx BA rfl rfl (A3.part0 (Es b8 d) [I q.op,Sb q.name,Sb q.tail,I q.type_,Cx q.num,Sl b9 q.args ca,I q.at_] rfl)) ?_
 refine Qx g rfl (v:=Pt m 3) (fun _ _=>Fd K0 rfl) ?_
 refine Qx g rfl (v:=I a.type_) (fun _ ⟨_,d⟩=>Ld EB rfl (Bc (Bs b7 d) rfl)) ?_
 refine A5 rfl ?_
 have iv:=(Y4 be h f e ai)
 have iw:=(K4 AI a2 h f e ai)
 have ix:=(Os (Os (Os (Os a3 h) f) e) ai)
 have ek:=(Ms (Ms (Ms (Ms bf h) f) e) ai)
 have iy:=(Y4 bg h f e ai)
 obtain ⟨iz,i0,c⟩:=bnd_sm c
 refine BM rfl (.none rfl) rfl rfl (Cg [Pt l 0,Ag [I q.op,Sb q.name,Sb q.tail,I q.type_,Cx q.num,Sl b9 q.args ca,I q.at_],I a.type_] rfl) ?_
 refine Calls.mono (al.types_checker_want u ee (ko0_2:=4) i0 dcd dcd iv iw ix ek iy (Ah (x:=au)) (Ab (x:=q) ej)) ?_
 rintro _ l3 ⟨i1,l4,l5,l6,rfl,a0,i2,el,em,i3,i4⟩
 obtain ⟨l7,l8,rfl⟩:=AR el
 obtain ⟨l9,ma,rfl⟩:=Own.len em
 obtain rfl:=Aq i4
 refine ⟨_,rfl,⟨_,(Mo [1,3,4] a0)⟩,?_⟩
 refine Dt ?_
 refine AM ?_
 have en:=(Bs ef a0)
 refine Vx (v:=Pt l 0) (Ld KJ rfl (Bc en rfl)) ?_
 refine Vx (v:=.func (.func 86) #[] [Pt y 0,Pt m 0,Pt z 0].toArray) (IB (vs:=[Pt y 0,Pt m 0,Pt z 0]) rfl) ?_
 refine Vx (v:=Pt m 1) (Fd EV rfl) ?_
 have cb:=(Bs b7 a0)
 refine Vx (v:=Sb a.name) (Ld CS rfl (Bc cb rfl)) ?_
 refine Vx (v:=Pt m 3) (Fd K0 rfl) ?_
 refine Vx (v:=I a.type_) (Ld EB rfl (Bc cb rfl)) ?_
 refine Vx (v:=Ag [Sb a.name,I a.type_,I 0]) (Bp Lf Qn rfl (.cons rfl rfl rfl (.cons rfl rfl rfl .nil))) ?_
 refine Ef (Bf (cs:=[Sb a.name,I a.type_,I 0]) i1 25 [[Sb a.name,I a.type_,I 0]] ED Lf rfl rfl (.cons rfl rfl rfl .nil) rfl fun i5 eo ep i6 aj=>?_)
 have i7:Own Aa 87 i5 eo 25 (.slice (some ⟨ep,0,none⟩) 1 1) ([(AK.mk a.name a.type_ 0)]:List AK):=Own.lit (css:=[[Sb a.name,I a.type_,I 0]]) i6 rfl rfl rfl (AQ (Kg (x:=(AK.mk a.name a.type_ 0))) Au) (Av rfl CP) rfl
 obtain ⟨i8,ak,i9⟩:=Own.freeze (S:=[25]) i7 dcd dcd
 have ja:=(Y2 i2 aj ak)
 have jb:=(K2 AI el aj ak)
 have jc:=(Os (Os em aj) ak)
 have jd:=(Ms (Ms (Ms ek a0) aj) ak)
 have je:=(Y2 i3 aj ak)
 have jf:=(Y2 en aj ak)
 have jg:=(Y2 cb aj ak)
 have jh:=(K3 AJ eg a0 aj ak)
 have ji:=(Y4 a8 ai a0 aj ak)
 obtain ⟨bt,jj,c⟩:=bnd_sm c
 refine B7 (.none rfl) rfl rfl (Cg [Pt l 0,.func (.func 86) #[] [Pt y 0,Pt m 0,Pt z 0].toArray,Sl (some ⟨ep,0,none⟩) (([(AK.mk a.name a.type_ 0)]:List AK)) 1] rfl) ?_
 refine Calls.mono (al.types_checker_in_3 i8 eo (ko0_2:=4) jj dcd dcd ja jb jc jd je (Ah (x:=iz.2.2)) jf jg (Ab (x:=a) jh) ji i9) ?_
 rintro _ mb ⟨jk,mc,md,me,rfl,jl,jm,eq,er,jn,jo⟩
 obtain ⟨jp,jq,rfl⟩:=AR eq
 obtain ⟨jr,js,rfl⟩:=Own.len er
 obtain rfl:=Aq jo
 refine ⟨_,rfl,?_⟩
 refine AA ?_
 exact ⟨_,jk,r,bt.1,jp,jq,bt.2.1,jr,js,bt.2.2.why,bt.2.2.at_,Pu,c,(T4 (Mo [1,3,4,23,24,25] ai) a0 aj ak jl),eq,er,jm,jn⟩
 refine AM ?_
 have jt:=(Y2 a7 f e)
 refine Vx (v:=Pt l 0) (Ld KJ rfl (Bc jt rfl)) ?_
 refine Vx (v:=Ag [I a.op,Sb a.name,Sb a.tail,I a.type_,Cx a.num,Sl ap a.args aq,I a.at_]) (Lx BA rfl rfl (Bw ar)) ?_
 have ju:=(Y3 be h f e)
 have jv:=(K3 AI a2 h f e)
 have jw:=(Os (Os (Os a3 h) f) e)
 have jx:=(Ms (Ms (Ms bf h) f) e)
 have jy:=(Y3 bg h f e)
 have jz:=(K3 AJ a6 h f e)
 obtain ⟨bc,j0,c⟩:=bnd_sm c
 refine B7 (.none rfl) rfl rfl (Cg [Pt l 0,Ag [I a.op,Sb a.name,Sb a.tail,I a.type_,Cx a.num,Sl ap a.args aq,I a.at_]] rfl) ?_
 refine Calls.mono (al.types_checker_own u cu (ko0_2:=4) j0 dcd dcd ju jv jw jx jy (Ah (x:=au)) (Ab (x:=a) jz)) ?_
 rintro _ mf ⟨j1,mg,mh,mi,rfl,j2,j3,es,et,j4,j5⟩
 obtain ⟨j6,j7,rfl⟩:=AR es
 obtain ⟨j8,j9,rfl⟩:=Own.len et
 obtain rfl:=Aq j5
 refine ⟨_,rfl,?_⟩
 refine Va (I bc.1) ?_
 refine AA ?_
 exact ⟨_,j1,bc.1,bc.2.1,j6,j7,bc.2.2.1,j8,j9,bc.2.2.2.why,bc.2.2.2.at_,Pu,c,(Mo [1,3,4,23,24,25] j2),es,et,j3,j4⟩
 rintro _ a9 ⟨cv,an,bh,av,bi,bj,aw,bk,bl,ba,bb,rfl,c,bm,eu,ew,ex,ey⟩
 rw [CR] at c
 refine Sr ?_
 refine Vx (v:=I bh) (Mv rfl) ?_
 have ka:=(Bs a8 bm)
 refine Vx (v:=I r) (Ld EB rfl (Bc ka rfl)) ?_
 refine Vr (.bool (bh != r)) ?_
 refine AA ?_
 refine Cn c (fun kb c=>?_) fun kb c=>?_
 refine B8 Eg (qs 0 6 (.one 6 .nil)) [] [3] an (by kernel_rfl) fun kc a1=>?_
 have kd:=(Y4 a7 f e bm a1)
 refine Qx g rfl (v:=Pt l 0) (fun _ ⟨_,d⟩=>Ld KJ rfl (Bc (Bs kd d) rfl)) ?_
 refine Qx g rfl (v:=Pt l 0) (fun _ _=>Nc rfl) ?_
 refine Qx g rfl (v:=Pt l 3) (fun _ _=>Fd Xf rfl) ?_
 have ez:=(Bs ex a1)
 refine Qx g rfl (v:=.func (.func 52) #[] [Pt ao 0].toArray) (fun _ ⟨_,d⟩=>Ld ZZ rfl (Bc (Bs ez d) rfl)) ?_
 refine Qx g rfl (v:=Pt m 6) (fun _ _=>Fd L8 rfl) ?_
 have ke:=(Y3 ct e bm a1)
 refine Qx g rfl (v:=I a.at_) (fun _ ⟨_,d⟩=>Ld CD rfl (Bc (Bs ke d) rfl)) ?_
 refine A5 rfl ?_
 have kf:=(Bs ey a1)
 obtain ⟨cc,kg,c⟩:=bnd_sm c
 refine BM rfl (.none rfl) rfl rfl (AAT (vs:=[I a.at_]) (caps:=[Pt ao 0]) rfl rfl) ?_
 refine Calls.mono (Qy an kc kg dcd dcd kf (Ah (x:=(AF.mk ba bb)))) ?_
 rintro _ mj ⟨kh,mk,rfl,bn,ki,kj⟩
 obtain rfl:=Aq kj
 refine ⟨_,rfl,⟨_,(Mo [3] bn)⟩,?_⟩
 refine Dt ?_
 obtain rfl:=AN c
 refine MX (B:=B) cr (MW rfl ?_)
 have kk:=(Bs ez bn)
 have kl:=(K2 AI eu a1 bn)
 have km:=(Os (Os ew a1) bn)
 exact ⟨kh,Sl bi av bj,Sl bk aw bl,[I cc.why,I cc.at_],rfl,Ho (Tn (T4 (Mo [1,3,4,23,24,25] h) f e bm a1) bn) cf,kk,kl,km,ki,(Ah (x:=cc))⟩
 refine WC.skip ?_
 obtain rfl:=AN c
 refine MX (B:=B) cr (MW rfl ?_)
 exact ⟨an,Sl bi av bj,Sl bk aw bl,[I ba,I bb],rfl,Ho (T3 (Mo [1,3,4,23,24,25] h) f e bm) cf,ex,eu,ew,ey,(Ah (x:=(AF.mk ba bb)))⟩
theorem Nl(e:AG)(g:Nat)(o:AG.Good e):types_checker_want.Spec (GE e g):=by
 intro f h ai a aj ak al am ko0_2 an c ao ap d aq ar au av aw ax p hnd hnz l q r s m u w
 refine Calls.mono (Nk e g o (recol (see [a,c,d,ko0_2]) f) h (Hw lbr f) (BV l [a,c,d,ko0_2] (BJ hnd hnz (i:=0) rfl)) (EW AI q [a,c,d,ko0_2]) (IR r [a,c,d,ko0_2] (BJ hnd hnz (i:=3) rfl)) (Fh s [a,c,d,ko0_2] (BJ hnd hnz (i:=1) rfl)) (BV m [a,c,d,ko0_2] (BJ hnd hnz (i:=2) rfl)) (Bl Am u [a,c,d,ko0_2]) (Bl AJ w [a,c,d,ko0_2]) p) ?_
 rintro ay az ⟨y,z,aa,ab,ac,n,ad,ae,af,ag,ah⟩
 exact ⟨glue [a,c,d,ko0_2] h f y,z,aa,ab,ac,DI n (Hu rfl rfl),Ei l ad dcd,G8 AI ae,KK (j:=3) af rfl rfl n,Ei m ag dcd,FW Am ah⟩
theorem OM(w:AG)(au:Nat)(bd:AG.Good w)(d:Col)(e:World)(be:∀b,d b<10){y:Nat}{am:(List AE)}{av:Value}{an:(List AK)}{aw:Value}{ae:Nat}{z:Ao}{aa:Nat}{af:AF}{ax:List Value}{h:Int}{f:(List AB)}{ay:Value}{ab:(List AE)×(List AK)×AF}(bf:Bk d e 1 y [.map (some ae),av,aw,.func (.func 52) #[] [Pt aa 0].toArray] 134)(az:Slc AI d.F e av am)(a0:Own Aa 87 d e 4 aw an)(bg:Mp d e 2 ae z)(bh:Bk d e 3 aa ax 63)(bi:Am.rep d.F e ax af)(ao:Slc AJ d.F e ay f)(c:JQ w au am an z af h f=some ab):
  Calls PG 82 #[Pt y 0,I h,ay] e fun bj ac=>∃ad a1 a2 a3,bj=.returned (.tuple #[])∧AS [1,3,4] d e ad ac∧Bk ad ac 1 y [.map (some ae),a1,a2,.func (.func 52) #[] [Pt aa 0].toArray] 134∧Slc AI ad.F ac a1 ab.1∧Own Aa 87 ad ac 4 a2 ab.2.1∧Bk ad ac 3 aa a3 63∧Am.rep ad.F ac a3 ab.2.2:=by
 rw [JQ] at c
 obtain ⟨bk,bl,rfl⟩:=AR az
 obtain ⟨bm,bn,rfl⟩:=Own.len a0
 obtain rfl:=Aq bi
 obtain ⟨bo,bp,rfl⟩:=AR ao
 refine Ay Tryz.func82 rfl Tryz.ntmps82 rfl fun B bq ct=>Sr<|Vm ?_
 obtain ⟨cu,cv,br⟩:=AR ao
 refine Vx (v:=I (f.length:Int)) (Ll C9 br)<|Vm<|AA<|Ad<|Bj (fun l bt m=>∃a4 g x93 n ag ah o ai aj p q,bt=Env.puts a4 [(0,Pt y 0),(1,I h),(8,Sl bo f bp),(9,I (f.length:Int)),(10,I x93)]∧Dm w z h f l x93 n o p q=some ab∧AS [1,3,4,20] d e g m∧Slc AI g.F m (Sl ag n ah) n∧Own Aa 87 g m 4 (Sl ai o aj) o∧Bk g m 1 y [.map (some ae),Sl ag n ah,Sl ai o aj,.func (.func 52) #[] [Pt aa 0].toArray] 134∧Bk g m 3 aa [I p,I q] 63) au ?_ ?_
 exact ⟨_,d,0,am,bk,bl,an,bm,bn,af.why,af.at_,Pu,c,(AS.refl [1,3,4,20] _ _),az,a0,bf,bh⟩
 rintro l _ m ⟨a4,g,x93,n,ag,ah,o,ai,aj,p,q,rfl,c,ak,a5,a6,a7,a8⟩
 rcases l with _|l
 exact A6 c
 refine have c:EY w z h f (Dm w z h f l) x93 n o p q=some ab:=c; ?_
 obtain ⟨cw,a9⟩:∃s,s=Dm w z h f l:=⟨_,rfl⟩
 rw [←a9,EY] at c
 refine Sr<|Vr (.bool (decide (x93< (f.length:Int))))<|AA<|AY<|Cn c (fun bu c=>?_) fun bu c=>?_
 refine WC.skip<|AY<|Ad<|Sr<|Bi c fun a bv c=>have bw:=Ss AJ ao ak; ?_
 obtain ⟨bx,bz,cx,b0,b1,b2,b3,b4,ap⟩:=BG (κ:=AJ) bw bv
 replace ap:A3 g m bx (bz+x93.toNat*7) b0:=ap
 obtain ⟨aq,ar,rfl,ba⟩:=E1 (Ai b4)
 refine Vx (Ix C9 b1 rfl b2 b3)<|Vx (Lx BA rfl rfl (A3.part0 ap [I a.op,Sb a.name,Sb a.tail,I a.type_,Cx a.num,Sl aq a.args ar,I a.at_] rfl))<|Ef<|AU g 20 By rfl fun b5 cz c0 b6 r=>have b7:=Ss AJ ba r;Eu<|St CV b6 rfl rfl rfl rfl fun b8 b9 u=>AA<|AM<|Vm<|Vx (Lx BA rfl rfl (Bw b9))<|Vm<|have ca:=Y2 a7 r u;have cb:=K2 AI a5 r u;have cc:=Os (Os a6 r) u;have cd:=Ms (Ms (Ms bg ak) r) u;have cf:=Y2 a8 r u;have cg:=Ss AJ b7 u;Bi c fun al ch c=>Ca (Cg [Pt y 0,Ag [I a.op,Sb a.name,Sb a.tail,I a.type_,Cx a.num,Sl aq a.args ar,I a.at_],I h] rfl) (bd.types_checker_want b5 b8 (ko0_2:=4) ch dcd dcd ca cb cc cd cf (Ah (x:=(AF.mk p q))) (Ab (x:=a) cg)) ?_
 rintro _ c1 ⟨ci,c2,c3,c4,rfl,cj,ck,bb,bc,cl,cm⟩
 obtain ⟨cn,co,rfl⟩:=AR bb
 obtain ⟨cq,cr,rfl⟩:=Own.len bc
 obtain rfl:=Aq cm
 refine AA<|AM<|Vr (I (Wr (x93+1)))<|Vm<|AA<|⟨l,Nat.lt_succ_self l,_,ci,(Wr (x93+1)),al.1,cn,co,al.2.1,cq,cr,al.2.2.why,al.2.2.at_,Pu,(a9▸c),(T3 (Mo [1,3,4,20] ak) r u cj),bb,bc,ck,cl⟩
 refine BZ ?_
 obtain rfl:=AN c
 refine MX (B:=B) bq<|MW rfl<|⟨g,Sl ag n ah,Sl ai o aj,[I p,I q],rfl,Ho (Mo [1,3,4,20] ak) be,a7,a5,a6,a8,(Ah (x:=(AF.mk p q)))⟩
theorem ON(e:AG)(g:Nat)(o:AG.Good e):types_checker_all.Spec (JQ e g):=by
 intro f h ai a aj ak al am ko0_2 an c ao ap d aq ar au av aw ax p hnd hnz l q r s m u w
 refine Calls.mono (OM e g o (recol (see [a,c,d,ko0_2]) f) h (Hw lbr f) (BV l [a,c,d,ko0_2] (BJ hnd hnz (i:=0) rfl)) (EW AI q [a,c,d,ko0_2]) (IR r [a,c,d,ko0_2] (BJ hnd hnz (i:=3) rfl)) (Fh s [a,c,d,ko0_2] (BJ hnd hnz (i:=1) rfl)) (BV m [a,c,d,ko0_2] (BJ hnd hnz (i:=2) rfl)) (Bl Am u [a,c,d,ko0_2]) (EW AJ w [a,c,d,ko0_2]) p) ?_
 rintro ay az ⟨y,z,aa,ab,ac,n,ad,ae,af,ag,ah⟩
 exact ⟨glue [a,c,d,ko0_2] h f y,z,aa,ab,ac,DI n (Hu rfl rfl),Ei l ad dcd,G8 AI ae,KK (j:=3) af rfl rfl n,Ei m ag dcd,FW Am ah⟩
theorem Oo(ak:AG)(bc:Nat)(bd:AG.Good ak)(a:Col)(c:World)(be:∀b,a b<10){p:Nat}{ab:(List AE)}{al:Value}{g:(List AK)}{am:Value}{n:Nat}{an:Ao}{h:Nat}{ac:AF}{ao:List Value}{ad ae:Nat}{af:AB}{ap:List Value}{ag:Nat}{aq:Int}{q:(List AK)}{ar:Value}{r:(List AE)×(List AK)×AF}(ah:Bk a c 1 p [.map (some n),al,am,.func (.func 52) #[] [Pt h 0].toArray] 134)(au:Slc AI a.F c al ab)(ai:Own Aa 87 a c 7 am g)(bf:Mp a c 2 n an)(bg:Bk a c 3 h ao 63)(bh:Am.rep a.F c ao ac)(bi:Bk a c 4 ad [Pt p 0] 130)(bj:Bk a c 5 ae ap 56)(bk:AJ.rep a.F c ap af)(bl:Bk a c 6 ag [I aq] 34)(av:Slc Aa a.F c ar q)(f:HF ak bc ab g an ac af aq q=some r):
  Calls PG 83 #[Pt p 0,.func (.func 84) #[] [Pt ad 0,Pt ae 0,Pt ag 0].toArray,ar] c fun bm l=>∃m aw ax ay,bm=.returned (.tuple #[])∧AS [1,3,7] a c m l∧Bk m l 1 p [.map (some n),aw,ax,.func (.func 52) #[] [Pt h 0].toArray] 134∧Slc AI m.F l aw r.1∧Own Aa 87 m l 7 ax r.2.1∧Bk m l 3 h ay 63∧Am.rep m.F l ay r.2.2:=by
 rw [HF] at f
 obtain ⟨bn,bo,rfl⟩:=AR au
 obtain ⟨ck,cl,rfl⟩:=Own.len ai
 obtain rfl:=Aq bh
 obtain ⟨cn,co,rfl,az⟩:=E1 (Ai bk)
 obtain ⟨cq,cr,rfl⟩:=AR av
 refine Ay Tryz.func83 rfl Tryz.ntmps83 rfl fun B bp ct=>Sr<|Vm<|Vx (Nc rfl)<|Vx (Fd FS rfl)<|Vx (Ld E0 rfl (Bc ah rfl)) ?_
 obtain ⟨cu,cv,bq⟩:=Own.len ai
 refine Vx (v:=I (g.length:Int)) (Ll ED bq)<|Va (I (g.length:Int))<|AA<|Sr<|Vm<|Vm<|Vx (Nc rfl)<|Vx (Fd FS rfl)<|Vx (Ld E0 rfl (Bc ah rfl))<|Vm<|Bi f fun cw a0 f=>Ef<|Az (κ:=Aa) rfl rfl ai dcd Pj (Cl av) (CF a0) (CK a0) fun cx br cy aj d=>?_
 obtain ⟨a1,a2,rfl⟩:=Own.len aj
 refine Vx (Nc rfl)<|Vx (Fd FS rfl)<|have bt:=Bs ah d;Eu<|BB (vs:=[Sl a1 ((g++q)) a2]) (cs':=[.map (some n),Sl bn ab bo,Sl a1 ((g++q)) a2,.func (.func 52) #[] [Pt h 0].toArray]) Ob rfl rfl rfl rfl (AP (Own.one aj) BO) bt dcd rfl rfl fun bu bv e=>AA<|Sr<|Vm<|have bw:=Y2 bi d e;have bx:=K2 AI au d e;have bz:=Os aj e;have b0:=Ms (Ms bf d) e;have b1:=Y2 bg d e;have b2:=Y2 bj d e;have b3:=K2 AJ az d e;have b4:=Y2 bl d e;Bi f fun o b5 f=>Ca (AAV (vs:=[]) (caps:=[Pt ad 0,Pt ae 0,Pt ag 0]) rfl rfl) (bd.types_checker_want_1 br bu (ko1_2:=7) b5 dcd dcd bw bv bx bz b0 b1 (Ah (x:=ac)) b2 (Ab (x:=af) b3) b4) ?_
 rintro _ cz ⟨b6,c0,c1,c2,rfl,b7,a3,a4,a5,b8,b9⟩
 obtain ⟨a6,a7,rfl⟩:=AR a4
 obtain ⟨c3,c4,rfl⟩:=Own.len a5
 obtain rfl:=Aq b9
 refine AA<|AM<|Vm<|Vm<|Vx (Nc rfl)<|Vx (Fd FS rfl)<|Vx (Ld E0 rfl (Bc a3 rfl))<|Vm<|Bi f fun u a8 f=>?_
 obtain ⟨a9,ba,ca,cb,w⟩:=Own.sub a5 a8
 obtain ⟨c5,bb⟩:∃s,s=Value.slice (if ba=(0:Int).toNat then a9 else a9.map (·.add ((0:Int).toNat*Aa.size))) ((g.length:Int).toNat - (0:Int).toNat) (ba - (0:Int).toNat):=⟨_,rfl⟩
 rw [←bb] at w
 obtain ⟨cc,cd,cf,_⟩:=LK a8
 obtain ⟨y,z,rfl⟩:=Own.len w
 refine Vx (v:=.slice y u.length z) (by rw [bb];exact Run.sliceSlc ED ca rfl ⟨_,rfl⟩ cc cd cf cb)<|Vx (Nc rfl)<|Vx (Fd FS rfl)<|Eu<|BB (vs:=[Sl y u z]) (cs':=[.map (some n),Sl a6 o.1 a7,Sl y u z,.func (.func 52) #[] [Pt h 0].toArray]) Ob rfl rfl rfl rfl (AP (Own.one w) BO) a3 dcd rfl rfl fun c6 cg aa=>AA ?_
 obtain rfl:=AN f
 refine MX (B:=B) bp<|MW rfl<|have ch:=Ss AI a4 aa;have ci:=Os w aa;have cj:=Bs b8 aa;⟨b6,Sl a6 o.1 a7,Sl y u z,[I o.2.2.why,I o.2.2.at_],rfl,Ho (T3 (Mo [1,3,7] d) e b7 aa) be,cg,ch,ci,cj,(Ah (x:=o.2.2))⟩
theorem Oq(h:AG)(m:Nat)(r:AG.Good h):types_checker_in.Spec (HF h m):=by
 intro l n ap a aq ar au av ko0_2 aw c ax ay d az a0 a1 e a2 f a3 a4 a5 g a6 a7 a8 a9 s hnd hnz o u w y p z aa ab ac ad ae
 refine Calls.mono (Oo h m r (recol (see [a,c,d,e,f,g,ko0_2]) l) n (Hw lbr l) (BV o [a,c,d,e,f,g,ko0_2] (BJ hnd hnz (i:=0) rfl)) (EW AI u [a,c,d,e,f,g,ko0_2]) (IR w [a,c,d,e,f,g,ko0_2] (BJ hnd hnz (i:=6) rfl)) (Fh y [a,c,d,e,f,g,ko0_2] (BJ hnd hnz (i:=1) rfl)) (BV p [a,c,d,e,f,g,ko0_2] (BJ hnd hnz (i:=2) rfl)) (Bl Am z [a,c,d,e,f,g,ko0_2]) (BV aa [a,c,d,e,f,g,ko0_2] (BJ hnd hnz (i:=3) rfl)) (BV ab [a,c,d,e,f,g,ko0_2] (BJ hnd hnz (i:=4) rfl)) (Bl AJ ac [a,c,d,e,f,g,ko0_2]) (BV ad [a,c,d,e,f,g,ko0_2] (BJ hnd hnz (i:=5) rfl)) (EW Aa ae [a,c,d,e,f,g,ko0_2]) s) ?_
 rintro ba bb ⟨af,ag,ah,ai,aj,q,ak,al,am,an,ao⟩
 exact ⟨glue [a,c,d,e,f,g,ko0_2] n l af,ag,ah,ai,aj,DI q (Hu rfl rfl),Ei o ak dcd,G8 AI al,KK (j:=6) am rfl rfl q,Ei p an dcd,FW Am ao⟩
theorem Nn(ak:AG)(bc:Nat)(bd:AG.Good ak)(a:Col)(c:World)(be:∀b,a b<10){p:Nat}{ab:(List AE)}{al:Value}{g:(List AK)}{am:Value}{n:Nat}{an:Ao}{h:Nat}{ac:AF}{ao:List Value}{ad ae:Nat}{af:AB}{ap:List Value}{ag:Nat}{aq:Int}{q:(List AK)}{ar:Value}{r:(List AE)×(List AK)×AF}(ah:Bk a c 1 p [.map (some n),al,am,.func (.func 52) #[] [Pt h 0].toArray] 134)(au:Slc AI a.F c al ab)(ai:Own Aa 87 a c 7 am g)(bf:Mp a c 2 n an)(bg:Bk a c 3 h ao 63)(bh:Am.rep a.F c ao ac)(bi:Bk a c 4 ad [Pt p 0] 130)(bj:Bk a c 5 ae ap 56)(bk:AJ.rep a.F c ap af)(bl:Bk a c 6 ag [I aq] 34)(av:Slc Aa a.F c ar q)(f:GG ak bc ab g an ac af aq q=some r):
  Calls PG 83 #[Pt p 0,.func (.func 85) #[] [Pt ad 0,Pt ae 0,Pt ag 0].toArray,ar] c fun bm l=>∃m aw ax ay,bm=.returned (.tuple #[])∧AS [1,3,7] a c m l∧Bk m l 1 p [.map (some n),aw,ax,.func (.func 52) #[] [Pt h 0].toArray] 134∧Slc AI m.F l aw r.1∧Own Aa 87 m l 7 ax r.2.1∧Bk m l 3 h ay 63∧Am.rep m.F l ay r.2.2:=by
 rw [GG] at f
 obtain ⟨bn,bo,rfl⟩:=AR au
 obtain ⟨ck,cl,rfl⟩:=Own.len ai
 obtain rfl:=Aq bh
 obtain ⟨cn,co,rfl,az⟩:=E1 (Ai bk)
 obtain ⟨cq,cr,rfl⟩:=AR av
 refine Ay Tryz.func83 rfl Tryz.ntmps83 rfl fun B bp ct=>Sr<|Vm<|Vx (Nc rfl)<|Vx (Fd FS rfl)<|Vx (Ld E0 rfl (Bc ah rfl)) ?_
 obtain ⟨cu,cv,bq⟩:=Own.len ai
 refine Vx (v:=I (g.length:Int)) (Ll ED bq)<|Va (I (g.length:Int))<|AA<|Sr<|Vm<|Vm<|Vx (Nc rfl)<|Vx (Fd FS rfl)<|Vx (Ld E0 rfl (Bc ah rfl))<|Vm<|Bi f fun cw a0 f=>Ef<|Az (κ:=Aa) rfl rfl ai dcd Pj (Cl av) (CF a0) (CK a0) fun cx br cy aj d=>?_
 obtain ⟨a1,a2,rfl⟩:=Own.len aj
 refine Vx (Nc rfl)<|Vx (Fd FS rfl)<|have bt:=Bs ah d;Eu<|BB (vs:=[Sl a1 ((g++q)) a2]) (cs':=[.map (some n),Sl bn ab bo,Sl a1 ((g++q)) a2,.func (.func 52) #[] [Pt h 0].toArray]) Ob rfl rfl rfl rfl (AP (Own.one aj) BO) bt dcd rfl rfl fun bu bv e=>AA<|Sr<|Vm<|have bw:=Y2 bi d e;have bx:=K2 AI au d e;have bz:=Os aj e;have b0:=Ms (Ms bf d) e;have b1:=Y2 bg d e;have b2:=Y2 bj d e;have b3:=K2 AJ az d e;have b4:=Y2 bl d e;Bi f fun o b5 f=>Ca (AAW (vs:=[]) (caps:=[Pt ad 0,Pt ae 0,Pt ag 0]) rfl rfl) (bd.types_checker_want_2 br bu (ko1_2:=7) b5 dcd dcd bw bv bx bz b0 b1 (Ah (x:=ac)) b2 (Ab (x:=af) b3) b4) ?_
 rintro _ cz ⟨b6,c0,c1,c2,rfl,b7,a3,a4,a5,b8,b9⟩
 obtain ⟨a6,a7,rfl⟩:=AR a4
 obtain ⟨c3,c4,rfl⟩:=Own.len a5
 obtain rfl:=Aq b9
 refine AA<|AM<|Vm<|Vm<|Vx (Nc rfl)<|Vx (Fd FS rfl)<|Vx (Ld E0 rfl (Bc a3 rfl))<|Vm<|Bi f fun u a8 f=>?_
 obtain ⟨a9,ba,ca,cb,w⟩:=Own.sub a5 a8
 obtain ⟨c5,bb⟩:∃s,s=Value.slice (if ba=(0:Int).toNat then a9 else a9.map (·.add ((0:Int).toNat*Aa.size))) ((g.length:Int).toNat - (0:Int).toNat) (ba - (0:Int).toNat):=⟨_,rfl⟩
 rw [←bb] at w
 obtain ⟨cc,cd,cf,_⟩:=LK a8
 obtain ⟨y,z,rfl⟩:=Own.len w
 refine Vx (v:=.slice y u.length z) (by rw [bb];exact Run.sliceSlc ED ca rfl ⟨_,rfl⟩ cc cd cf cb)<|Vx (Nc rfl)<|Vx (Fd FS rfl)<|Eu<|BB (vs:=[Sl y u z]) (cs':=[.map (some n),Sl a6 o.1 a7,Sl y u z,.func (.func 52) #[] [Pt h 0].toArray]) Ob rfl rfl rfl rfl (AP (Own.one w) BO) a3 dcd rfl rfl fun c6 cg aa=>AA ?_
 obtain rfl:=AN f
 refine MX (B:=B) bp<|MW rfl<|have ch:=Ss AI a4 aa;have ci:=Os w aa;have cj:=Bs b8 aa;⟨b6,Sl a6 o.1 a7,Sl y u z,[I o.2.2.why,I o.2.2.at_],rfl,Ho (T3 (Mo [1,3,7] d) e b7 aa) be,cg,ch,ci,cj,(Ah (x:=o.2.2))⟩
theorem No(h:AG)(m:Nat)(r:AG.Good h):types_checker_in_2.Spec (GG h m):=by
 intro l n ap a aq ar au av ko0_2 aw c ax ay d az a0 a1 e a2 f a3 a4 a5 g a6 a7 a8 a9 s hnd hnz o u w y p z aa ab ac ad ae
 refine Calls.mono (Nn h m r (recol (see [a,c,d,e,f,g,ko0_2]) l) n (Hw lbr l) (BV o [a,c,d,e,f,g,ko0_2] (BJ hnd hnz (i:=0) rfl)) (EW AI u [a,c,d,e,f,g,ko0_2]) (IR w [a,c,d,e,f,g,ko0_2] (BJ hnd hnz (i:=6) rfl)) (Fh y [a,c,d,e,f,g,ko0_2] (BJ hnd hnz (i:=1) rfl)) (BV p [a,c,d,e,f,g,ko0_2] (BJ hnd hnz (i:=2) rfl)) (Bl Am z [a,c,d,e,f,g,ko0_2]) (BV aa [a,c,d,e,f,g,ko0_2] (BJ hnd hnz (i:=3) rfl)) (BV ab [a,c,d,e,f,g,ko0_2] (BJ hnd hnz (i:=4) rfl)) (Bl AJ ac [a,c,d,e,f,g,ko0_2]) (BV ad [a,c,d,e,f,g,ko0_2] (BJ hnd hnz (i:=5) rfl)) (EW Aa ae [a,c,d,e,f,g,ko0_2]) s) ?_
 rintro ba bb ⟨af,ag,ah,ai,aj,q,ak,al,am,an,ao⟩
 exact ⟨glue [a,c,d,e,f,g,ko0_2] n l af,ag,ah,ai,aj,DI q (Hu rfl rfl),Ei o ak dcd,G8 AI al,KK (j:=6) am rfl rfl q,Ei p an dcd,FW Am ao⟩
theorem Np(ak:AG)(bc:Nat)(bd:AG.Good ak)(a:Col)(c:World)(be:∀b,a b<10){p:Nat}{ab:(List AE)}{al:Value}{g:(List AK)}{am:Value}{n:Nat}{an:Ao}{h:Nat}{ac:AF}{ao:List Value}{ad ae:Nat}{af:AB}{ap:List Value}{ag:Nat}{aq:Int}{q:(List AK)}{ar:Value}{r:(List AE)×(List AK)×AF}(ah:Bk a c 1 p [.map (some n),al,am,.func (.func 52) #[] [Pt h 0].toArray] 134)(au:Slc AI a.F c al ab)(ai:Own Aa 87 a c 7 am g)(bf:Mp a c 2 n an)(bg:Bk a c 3 h ao 63)(bh:Am.rep a.F c ao ac)(bi:Bk a c 4 ad [Pt p 0] 130)(bj:Bk a c 5 ae ap 56)(bk:AJ.rep a.F c ap af)(bl:Bk a c 6 ag [I aq] 34)(av:Slc Aa a.F c ar q)(f:GH ak bc ab g an ac af aq q=some r):
  Calls PG 83 #[Pt p 0,.func (.func 86) #[] [Pt ad 0,Pt ae 0,Pt ag 0].toArray,ar] c fun bm l=>∃m aw ax ay,bm=.returned (.tuple #[])∧AS [1,3,7] a c m l∧Bk m l 1 p [.map (some n),aw,ax,.func (.func 52) #[] [Pt h 0].toArray] 134∧Slc AI m.F l aw r.1∧Own Aa 87 m l 7 ax r.2.1∧Bk m l 3 h ay 63∧Am.rep m.F l ay r.2.2:=by
 rw [GH] at f
 obtain ⟨bn,bo,rfl⟩:=AR au
 obtain ⟨ck,cl,rfl⟩:=Own.len ai
 obtain rfl:=Aq bh
 obtain ⟨cn,co,rfl,az⟩:=E1 (Ai bk)
 obtain ⟨cq,cr,rfl⟩:=AR av
 refine Ay Tryz.func83 rfl Tryz.ntmps83 rfl fun B bp ct=>Sr<|Vm<|Vx (Nc rfl)<|Vx (Fd FS rfl)<|Vx (Ld E0 rfl (Bc ah rfl)) ?_
 obtain ⟨cu,cv,bq⟩:=Own.len ai
 refine Vx (v:=I (g.length:Int)) (Ll ED bq)<|Va (I (g.length:Int))<|AA<|Sr<|Vm<|Vm<|Vx (Nc rfl)<|Vx (Fd FS rfl)<|Vx (Ld E0 rfl (Bc ah rfl))<|Vm<|Bi f fun cw a0 f=>Ef<|Az (κ:=Aa) rfl rfl ai dcd Pj (Cl av) (CF a0) (CK a0) fun cx br cy aj d=>?_
 obtain ⟨a1,a2,rfl⟩:=Own.len aj
 refine Vx (Nc rfl)<|Vx (Fd FS rfl)<|have bt:=Bs ah d;Eu<|BB (vs:=[Sl a1 ((g++q)) a2]) (cs':=[.map (some n),Sl bn ab bo,Sl a1 ((g++q)) a2,.func (.func 52) #[] [Pt h 0].toArray]) Ob rfl rfl rfl rfl (AP (Own.one aj) BO) bt dcd rfl rfl fun bu bv e=>AA<|Sr<|Vm<|have bw:=Y2 bi d e;have bx:=K2 AI au d e;have bz:=Os aj e;have b0:=Ms (Ms bf d) e;have b1:=Y2 bg d e;have b2:=Y2 bj d e;have b3:=K2 AJ az d e;have b4:=Y2 bl d e;Bi f fun o b5 f=>Ca (AAX (vs:=[]) (caps:=[Pt ad 0,Pt ae 0,Pt ag 0]) rfl rfl) (bd.types_checker_want_3 br bu (ko1_2:=7) b5 dcd dcd bw bv bx bz b0 b1 (Ah (x:=ac)) b2 (Ab (x:=af) b3) b4) ?_
 rintro _ cz ⟨b6,c0,c1,c2,rfl,b7,a3,a4,a5,b8,b9⟩
 obtain ⟨a6,a7,rfl⟩:=AR a4
 obtain ⟨c3,c4,rfl⟩:=Own.len a5
 obtain rfl:=Aq b9
 refine AA<|AM<|Vm<|Vm<|Vx (Nc rfl)<|Vx (Fd FS rfl)<|Vx (Ld E0 rfl (Bc a3 rfl))<|Vm<|Bi f fun u a8 f=>?_
 obtain ⟨a9,ba,ca,cb,w⟩:=Own.sub a5 a8
 obtain ⟨c5,bb⟩:∃s,s=Value.slice (if ba=(0:Int).toNat then a9 else a9.map (·.add ((0:Int).toNat*Aa.size))) ((g.length:Int).toNat - (0:Int).toNat) (ba - (0:Int).toNat):=⟨_,rfl⟩
 rw [←bb] at w
 obtain ⟨cc,cd,cf,_⟩:=LK a8
 obtain ⟨y,z,rfl⟩:=Own.len w
 refine Vx (v:=.slice y u.length z) (by rw [bb];exact Run.sliceSlc ED ca rfl ⟨_,rfl⟩ cc cd cf cb)<|Vx (Nc rfl)<|Vx (Fd FS rfl)<|Eu<|BB (vs:=[Sl y u z]) (cs':=[.map (some n),Sl a6 o.1 a7,Sl y u z,.func (.func 52) #[] [Pt h 0].toArray]) Ob rfl rfl rfl rfl (AP (Own.one w) BO) a3 dcd rfl rfl fun c6 cg aa=>AA ?_
 obtain rfl:=AN f
 refine MX (B:=B) bp<|MW rfl<|have ch:=Ss AI a4 aa;have ci:=Os w aa;have cj:=Bs b8 aa;⟨b6,Sl a6 o.1 a7,Sl y u z,[I o.2.2.why,I o.2.2.at_],rfl,Ho (T3 (Mo [1,3,7] d) e b7 aa) be,cg,ch,ci,cj,(Ah (x:=o.2.2))⟩
theorem Nq(h:AG)(m:Nat)(r:AG.Good h):types_checker_in_3.Spec (GH h m):=by
 intro l n ap a aq ar au av ko0_2 aw c ax ay d az a0 a1 e a2 f a3 a4 a5 g a6 a7 a8 a9 s hnd hnz o u w y p z aa ab ac ad ae
 refine Calls.mono (Np h m r (recol (see [a,c,d,e,f,g,ko0_2]) l) n (Hw lbr l) (BV o [a,c,d,e,f,g,ko0_2] (BJ hnd hnz (i:=0) rfl)) (EW AI u [a,c,d,e,f,g,ko0_2]) (IR w [a,c,d,e,f,g,ko0_2] (BJ hnd hnz (i:=6) rfl)) (Fh y [a,c,d,e,f,g,ko0_2] (BJ hnd hnz (i:=1) rfl)) (BV p [a,c,d,e,f,g,ko0_2] (BJ hnd hnz (i:=2) rfl)) (Bl Am z [a,c,d,e,f,g,ko0_2]) (BV aa [a,c,d,e,f,g,ko0_2] (BJ hnd hnz (i:=3) rfl)) (BV ab [a,c,d,e,f,g,ko0_2] (BJ hnd hnz (i:=4) rfl)) (Bl AJ ac [a,c,d,e,f,g,ko0_2]) (BV ad [a,c,d,e,f,g,ko0_2] (BJ hnd hnz (i:=5) rfl)) (EW Aa ae [a,c,d,e,f,g,ko0_2]) s) ?_
 rintro ba bb ⟨af,ag,ah,ai,aj,q,ak,al,am,an,ao⟩
 exact ⟨glue [a,c,d,e,f,g,ko0_2] n l af,ag,ah,ai,aj,DI q (Hu rfl rfl),Ei o ak dcd,G8 AI al,KK (j:=6) am rfl rfl q,Ei p an dcd,FW Am ao⟩
end Fth
