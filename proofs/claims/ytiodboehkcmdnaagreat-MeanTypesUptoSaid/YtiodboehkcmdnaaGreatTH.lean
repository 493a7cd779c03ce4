/-
  fathomlaw11.MeanTypes, WHERE WHAT IT READS IS OF BULK AT MOST 1048576: for every text, name and line of arguments the Go function returns true, and its input reads as it did. No condition beside the statement's own.
-/
import Derived.KernelRfl
import Derived.Test.YtiodboehkcmdnaaGreatRows
import Derived.WalkKit
import Derived.ProofKit
import Derived.OpenShut
import Derived.JoinedCond
import Derived.Lib.SmallJoins
import Derived.Test.YtiodboehkcmdnaaGreatTG
set_option linter.all false
set_option exponentiation.threshold 3000
namespace Fth
open Go
theorem AAE(k:Nat):HO (k+200)=some true:=by kernel_rfl
theorem VP:Ev fun N=>HO N=some true:=Ev.down 200 (Ev.all AAE)
theorem AAF{a:FK}(h:a.args.length≤1048576): ∃x:AM×List AI×Bool,(x.2.2=true→WP x.1∧LV x.2.1)∧Ev fun N=>B3 N a=some x:=by
 obtain ⟨x,hx,hq⟩:=Zy (N:=20000000) h (Nat.le_refl _)
 exact ⟨x,hq,⟨20000000,fun N hN=>Pr hN x hx⟩⟩
theorem XP{p:AM}{nm:List UInt8}{args:List AI}{m:Nat}{r:BM}(h:Tp p nm args m r):r.thunks=0∧r.updates=0∧r.calls=0∧0≤r.moves∧r.moves≤m:=by
 cases h with
 |shape=>exact ⟨rfl,rfl,rfl,Int.le_refl _,by show (0:Int)≤m;omega⟩
 |func=>exact ⟨rfl,rfl,rfl,Int.le_refl _,by show (0:Int)≤m;omega⟩
 |args=>exact ⟨rfl,rfl,rfl,Int.le_refl _,by show (0:Int)≤m;omega⟩
 | @run f r c _ _ _ _ hc _=>cases r<;>exact ⟨rfl,rfl,rfl,by show (0:Int)≤c;omega,by show (c:Int)≤m;omega⟩
theorem Sv(a:FK)(h:a.args.length≤1048576): ∃N,DE N a=some true:=by
 obtain ⟨x,hx,er⟩:=AAF h
 cases hb:x.2.2
 ·refine ((VP.and er).mono (q:=fun N=>DE N a=some true) fun N hN=>?_).get
  unfold DE
  rw [hN.1,Option.bind_some,Bool.not_true,cond_false,hN.2,Option.bind_some,hb];rfl
 ·obtain ⟨hp,hl⟩:=hx hb
  have hlen:=hp.len
  obtain ⟨r,hr,ec⟩:=AAD (nm:=a.name) hp hl.av 16384
  have hw:=XP hr
  have eh:Ev fun N=>FO N x.1 a.name=some (hdR (hd x.1 a.name)):=(Ls (x.1.funcs.length+2)).mono fun N hN=>Pj (by omega) hN
  have goal:(Ev fun N=>DH N a x r false=some true)→∃N,DE N a=some true:=fun hj=>by
   refine (((VP.and er).and (ec.and hj)).mono (q:=fun N=>DE N a=some true) fun N hN=>?_).get
   unfold DE
   rw [hN.1.1,Option.bind_some,Bool.not_true,cond_false,hN.1.2,Option.bind_some,hb,Bool.not_true,cond_false,hN.2.1.1,Option.bind_some,show (r.thunks != 0)=false by rw [hw.1];rfl,cond_false,show (r.updates != 0)=false by rw [hw.2.1];rfl,cond_false,show (r.calls != 0)=false by rw [hw.2.2.1];rfl]
   exact hN.2.2
  refine goal ?_
  cases hr with
  |shape hS=>
   obtain ⟨fr,hfr,e2⟩:=VN hp
   replace e2:Ev fun N=>Em N x.1=some fr:=e2
   refine (eh.and e2).mono fun N hN=>?_
   unfold DH
   rw [cond_false,hN.1,Option.bind_some]
   show ((Em N x.1).bind fun x164=>bif (x164.why != 0) then _ else _)=_
   rw [hN.2,Option.bind_some,show (fr.why != 0)=true by simp;exact fun h=>hS (hfr.1 h)];rfl
  |func _ hf=>
   refine eh.mono fun N hN=>?_
   unfold DH
   rw [cond_false,hN,hf];rfl
  | @args f hS hf ha=>
   have hfm:=List.mem_of_find?_eq_some hf
   obtain ⟨b,hb',e2⟩:=W0 (f:=f) hl.av (hp.fns f hfm).pars
   replace e2:Ev fun N=>En N f x.2.1=some b:=e2
   refine (eh.and e2).mono fun N hN=>?_
   unfold DH
   rw [cond_false,hN.1,hf,Option.bind_some]
   show ((En N f x.2.1).bind fun x198=>bif !x198 then _ else _)=_
   rw [hN.2,Option.bind_some,show b=false by cases h:b;rfl;exact absurd (hb'.1 h) ha];rfl
  | @run f q c hS hf ha hrn hc hv=>
   cases q with
   |ok v=>
    have hg:GV v:=hv.1.gv (by have:=hv.2.2;omega)
    have hcv:chk v=true:=(YT hg).2 (hv.1.type▸hv.1)
    refine (eh.and (Ls (v.list.length+2))).mono fun N hN=>?_
    unfold DH
    rw [cond_false,hN.1,hf,Option.bind_some]
    show (bif (v.type_==f.type_) then ((B1 N v).bind fun x139=>bif x139 then Fo (decide ((c:Int)>0)) else _) else _)=_
    rw [show (v.type_==f.type_)=true by rw [hv.1.type];simp,cond_true,Ll hg hN.2,Option.bind_some,hcv,cond_true,show decide ((c:Int)>0)=true from decide_eq_true (by have:=hv.2.1;omega)];rfl
   |error y=>
    refine eh.mono fun N hN=>?_
    unfold DH
    rw [cond_false,hN,hf,Option.bind_some]
    rcases hv with ⟨rfl,_⟩| ⟨rfl|rfl|rfl,_⟩<;>rfl
end Fth
namespace Fth
open Go Go.Proofs Go.ChangeShapes Go.WideShapes Go.ChangeAt Go.RowKit
open Go.Proofs.YtiodboehkcmdnaaGreat
open Go.ChangeMaps (open_string shut_string)
open Go.Deep (trod_struct3_mk)
theorem ABk{n:Int}(h:(Lit.int .u8 n).wf=true):((UInt8.ofNat n.toNat).toNat:Int)=n:=by
 have h:0≤n∧n≤255:=by simpa [Lit.wf,IntKind.min,IntKind.max,IntKind.signed,IntKind.bits] using h
 simp only [UInt8.toNat_ofNat']
 omega
theorem RS(s:ByteArray):bs s.data.toList=s:=by cases s;simp [bs]
section
variable{H:Type}{enc:TypeId×Value→H}{W:World}{base:Nat}
theorem AQ.old{C C':Col}{W':World}(h:AQ [] C W C' W'): ∀b,b<W.heap.size→W'.heap[b]?=W.heap[b]?:=fun b hb=>h.same b hb (by simp)
theorem AQ.keptBut{C C':Col}{W':World}(h:AQ [] C W C' W')(may:MemPlace→Prop):W.keptBut W' may:=by
 refine ⟨h.os,h.output,fun i hi=>?_⟩
 rw [h.old i hi]
 exact (World.keptBut_refl W may).2.2 i hi
theorem XQ{P:Program}{f:Func}{s:ChangeSpec}{apart fresh handsOn again:Bool}{W':World}{args:Array Value}{v:Value}{ds gs:List (DataW H)}{before pa:List MemPlace}{C C':Col}
  (hW:DataW.Whole enc P f.params.toList s.vars apart W args.toList ds gs before)
  (hres: ∀(b:Nat) (sp:Nat→Bool) (hd:Bool),DataW.TrodAll enc P W' b sp hd f.resultTypes.toList (v.resultList f.resultTypes.size) (s.fn H (ds++gs)).results [])
  (hargs: ∀sp:Nat→Bool,(∀p∈before,sp p.block=true)→DataW.TrodAll enc P W' 0 sp true f.params.toList args.toList (s.fn H (ds++gs)).args pa)
  (hvars: ∀sp:Nat→Bool,DataW.TrodVars enc P W' sp s.vars (s.fn H (ds++gs)).vars [])
  (hps:before=pa) (st:AQ [] C W C' W')
  (hok: ∀(j:Nat) (t:TypeId) (r:Value),f.resultTypes[j]?=some t→(v.resultList f.resultTypes.size)[j]?=some r→Value.okWide P W' .any 0 t r):
  s.post enc P f apart fresh handsOn again W args v W':=by
 have hold: ∀p∈before,(fun b=>decide (b<W.heap.size)) p.block=true:=fun p hp=>by simpa using hW.lt p hp
 refine ⟨ds,gs,before,[],pa,[],hW,hres _ _ _,hargs _ hold,hvars _,World.keptBut_mono (fun p hp=>⟨hp,?_⟩) (st.keptBut (· ∈before)),fun _=>?_⟩
 ·rw [hps] at hp
  exact Or.inr (by simpa using hp)
 ·have hlt:=hW.lt
  obtain ⟨_,_,_,_,_,hz,hn⟩:=hW
  refine ⟨hok,_,_,([]++pa)++[],⟨[]++pa,[],trodAll_append (hargs _ (fun _ _=>rfl)) (hres _ _ _),hvars _,rfl,?_,?_⟩,?_⟩
  ·intro b off hp
   have hp':MemPlace.cell b off∈before:=by rw [hps];simpa using hp
   have hb:b<W.heap.size:=hlt _ hp'
   have:=hz b off hp'
   unfold World.frozen? at this ⊢
   rw [st.old b hb]
   exact this
  ·intro ha
   have:=hn ha
   rw [hps] at this
   simpa using this
  ·intro p hp _
   rw [hps]
   simpa using hp
set_option maxRecDepth 100000 in
theorem Yr{v:Value}{d:DataW H}{p:List MemPlace}(hv:Value.okWide Tryz.prog W .any base 24 v)(h:DataW.Trod enc Tryz.prog W 0 (fun _=>true) true 24 v d p):
  ∃(a:FK) (c0:List Value),v= .agg c0.toArray∧LM.rep (Col.F fun _=>0) W c0 a∧a.args.length≤Rows.uptoBulk d∧a.text.length≤Rows.uptoBulk d∧a.name.length≤Rows.uptoBulk d∧
   ∀W':World,(∀b,b<W.heap.size→W'.heap[b]?=W.heap[b]?)→∀sp:Nat→Bool,(∀q∈p,sp q.block=true)→DataW.Trod enc Tryz.prog W' 0 sp true 24 v d p:=by
 obtain ⟨c0,c1,c2,y0,y1,y2,m,rfl,rfl,rfl,h0,h1,h2⟩:=Go.Joins.open_agg3 Tryz.underlying24 (by kernel_rfl) (by kernel_rfl) hv h
 obtain ⟨s1,e1,rfl,k1⟩:=DataW.trod_string Tryz.underlying9 h1
 obtain ⟨s2,e2,rfl,k2⟩:=DataW.trod_string Tryz.underlying9 h2
 simp only [List.cons.injEq,and_true] at e1 e2
 subst e1 e2
 have hstr: ∀(n:Nat) (W':World) (sp:Nat→Bool) (s:ByteArray),s.size≤maxLen→DataW.trod enc Tryz.prog W' 0 sp true (n+1) 9 [.string s]=some (.lit (.string s.data.toList),[]):=fun n W' sp s hs=>by
  obtain ⟨n',hn⟩:=shut_string (enc:=enc) (P:=Tryz.prog) (w:=W') (base:=0) (sp:=sp) (held:=true) Tryz.underlying9 hs
  cases n' with
  |zero=>simp [DataW.trod] at hn
  |succ n'=>
   simp only [DataW.trod,Value.cells,Tryz.underlying9] at hn ⊢
   exact hn
 have hcells:Tryz.prog.cellsOf 24=3:=by kernel_rfl
 have close: ∀(n:Nat) (W':World) (sp:Nat→Bool),DataW.trod enc Tryz.prog W' 0 sp true (n+1) 22 [c0]=some y0→
   DataW.Trod enc Tryz.prog W' 0 sp true 24 (.agg #[c0,.string s1,.string s2]) (.agg [y0.1,.lit (.string s1.data.toList),.lit (.string s2.data.toList)]) (y0.2++([]++[])):=fun n W' sp hn=>
  ⟨n+1+1,trod_struct3_mk (y1:=(.lit (.string s1.data.toList),[])) (y2:=(.lit (.string s2.data.toList),[])) Tryz.underlying24 (by rw [hcells];rfl) (by rw [show Tryz.prog.cellsOf 22=1 from by kernel_rfl];exact hn) (hstr n W' sp s1 k1) (hstr n W' sp s2 k2)⟩
 have l1:Rows.uptoBulk (.agg [y0.1,.lit (.string s1.data.toList),.lit (.string s2.data.toList)]:DataW H)=Rows.uptoBulk y0.1+(s1.data.toList.length+1)+(s2.data.toList.length+1)+1:=by
  simp only [Rows.uptoBulk,Rows.uptoBulkAll];omega
 rcases open_ints Tryz.underlying22 Tryz.underlying5 (by kernel_rfl) h0 with ⟨e,rfl⟩| ⟨a,len,cap,zs,e,hb,hl,hm,hz,rfl,hcell,hw⟩
 ·simp only [List.cons.injEq,and_true] at e
  subst e
  refine ⟨⟨[],s1.data.toList,s2.data.toList⟩,[.slice none 0 0,.string s1,.string s2],rfl,⟨_,by rw [RS,RS];rfl,none,0,rfl,Nat.le_refl _,.inl rfl⟩,?_,?_,?_,?_⟩
  ·rw [l1];show s2.data.toList.length≤_;omega
  ·rw [l1];show 0≤_;omega
  ·rw [l1];show s1.data.toList.length≤_;omega
  ·intro W' hW' sp hsp
   refine close 1 W' sp ?_
   rw [DataW.trod_step]
   simp only [DataW.trodStep,Tryz.underlying22]
 ·simp only [List.cons.injEq,and_true] at e
  subst e
  simp only [if_true] at hz
  have hlt: ∀i,i<zs.length→a.block<W.heap.size:=fun i hi=>by
   have:=World.block_lt_of_cell? _ _ (hcell i hi)
   simpa [block_add] using this
  refine ⟨⟨(zs.take len).map fun n=>UInt8.ofNat n.toNat,s1.data.toList,s2.data.toList⟩,[.slice (some a) len cap,.string s1,.string s2],rfl,⟨_,by rw [RS,RS],some a,cap,?_,?_,?_⟩,?_,?_,?_,?_⟩
  ·simp [hz,Nat.min_eq_left hl]
  ·simp [hz];omega
  ·by_cases h0:len=0
   ·subst h0;left;rfl
   ·right
    have h00:=hcell 0 (by omega)
    have hs:a.spot=none:=by simpa [Addr.add] using World.cell?_spot h00
    obtain ⟨b,off,spot⟩:=a
    simp only at hs
    subst hs
    refine ⟨b,off,rfl,rfl,hlt 0 (by omega),fun i x hx=>?_⟩
    rw [List.getElem?_map] at hx
    obtain ⟨n,hn,rfl⟩:=Option.map_eq_some_iff.1 hx
    have hi:i<len:=by
     have:=(List.getElem?_eq_some_iff.1 hn).1
     simp at this;omega
    rw [List.getElem?_take_of_lt hi] at hn
    have hm':n∈zs:=List.mem_of_getElem? hn
    refine ⟨_,rfl,rfl,fun j c hj=>?_⟩
    match j,hj with
    |0,hj=>
     simp only [List.getElem?_cons_zero,Option.some.injEq] at hj
     subst hj
     have:=hcell i (by omega)
     rw [add_plain,show zs.getD i 0=n by simp [List.getD,hn]] at this
     show W.cell? ⟨b,off+i*1+0,none⟩=_
     rw [ABk (hw n hm')]
     simpa using this
  ·rw [l1];show s2.data.toList.length≤_;omega
  ·rw [l1]
   show ((zs.take len).map _).length≤_
   have h1:Rows.uptoBulk (.slice (lits .u8 (zs.take len)) (lits .u8 (zs.drop len)):DataW H)≥(zs.take len).length:=by
    have: ∀l:List Int,Rows.uptoBulkAll (lits .u8 l:List (DataW H))=l.length:=fun l=>by
     induction l with
     |nil=>rfl
     |cons x l ih=>
      have e:(lits .u8 (x::l):List (DataW H))= .lit (.int .u8 x)::lits .u8 l:=rfl
      rw [e];simp only [Rows.uptoBulkAll,Rows.uptoBulk,ih,List.length_cons];omega
    simp only [Rows.uptoBulk,this]
    omega
   rw [List.length_map]
   simp only
   omega
  ·rw [l1];show s1.data.toList.length≤_;omega
  ·intro W' hW' sp hsp
   refine close 1 W' sp ?_
   refine shut_ints 0 Tryz.underlying22 Tryz.underlying5 (by kernel_rfl) (Nat.zero_le _) hl hm ?_ ?_ hw
   ·by_cases h0:zs.length=0
    ·split<;>omega
    ·have:sp a.block=true:=hsp (.cell a.block (a.off+0)) (by
      simp only [List.append_nil,MemPlace.row,List.mem_map,List.mem_range]
      exact ⟨0,by omega,rfl⟩)
     rw [if_pos this];exact hz
   ·intro i hi
    rw [World.cell?_of_block (w:=W) (a:=a.add i) (by rw [block_add];exact hW' _ (hlt i hi))]
    exact hcell i hi
end
end Fth
namespace Go.Proofs.YtiodboehkcmdnaaGreat.meanTypes
open Go Go.ChangeShapes Go.WideShapes Go.ChangeAt Go.RowKit Fth
set_option linter.unusedVariables false
theorem own:ownKnob Tryz.prog.godebug=none:=by kernel_rfl
set_option maxRecDepth 100000 in
theorem contract(H:Type)(enc:TypeId×Value→H)(W:World)(base:Nat)(args:Array Value)(ds gs:List (DataW H))(before:List MemPlace)
  (hval: ∀(j:Nat) t v,Tryz.f6.params[j]?=some t→args[j]?=some v→Value.okWide Tryz.prog W .any base t v)
  (hW:DataW.Whole enc Tryz.prog Tryz.f6.params.toList Rows.meanTypesSpec.vars false W args.toList ds gs before) (hk:Rows.uptoSmall H (ds++gs)=true):
  Calls Tryz.prog 6 args W fun e W'=>∃v,e= .returned v∧Rows.meanTypesSpec.post enc Tryz.prog Tryz.f6 false true false false W args v W':=by
 have hW':=hW
 obtain ⟨p,q,hA0,hV,rfl,hfz,hnd⟩:=hW
 have hA:DataW.TrodAll enc Tryz.prog W 0 (fun _=>true) true Tryz.f6.params.toList args.toList ds p:=hA0
 rw [Tryz.params6] at hA hval
 obtain ⟨v0,vs0,d0,ds0,p0,q0,hargs,rfl,rfl,h0,r0⟩:=trodAll_cons hA
 obtain ⟨rfl,rfl,rfl⟩:=trodAll_nil r0
 obtain rfl:args=#[v0]:=by cases args;simp_all
 obtain ⟨rfl,rfl⟩:=trodVars_none hV
 obtain ⟨a,c0,rfl,ha,l1,_,_,hcl⟩:=Yr (hval 0 24 v0 rfl rfl) h0
 clear hA0
 have hb:Rows.uptoBulkAll (d0::[])≤1048576:=by
  have h:Rows.uptoBulkAll (d0::[]++[])≤1048576:=of_decide_eq_true hk
  simpa using h
 have hl:a.args.length≤1048576:=by
  rw [Rows.uptoBulkAll] at hb
  omega
 obtain ⟨N,hN⟩:=Sv a hl
 refine (PG N (fun _=>0) W hN ha).mono ?_
 rintro e W' ⟨C',rfl,st⟩
 refine ⟨_,rfl,XQ (pa:=p0++[]) hW' (fun _ _ _=>trodAll_cons_mk (shut_bool Tryz.underlying4 _) trodAll_mk0) (fun sp hsp=>?_) (fun _=>rfl) (by simp) st (ok_one (by kernel_rfl) rfl (okWide_bool_mk Tryz.underlying4 _))⟩
 exact trodAll_cons_mk (hcl W' st.old sp (fun q hq=>hsp q (by simp [hq]))) trodAll_mk0
set_option maxRecDepth 100000 in
theorem lifted(os:Os)(started:os.Started)(H:Type)(enc:TypeId×Value→H)(F:Stop.Interp):
  ReturnsInHanded {} Tryz.checked os 6 .any ((Rows.OpenSpec.upto Rows.meanTypesSpec).pre6 enc Tryz.prog Tryz.f6 Rows.meanTypesUptoRow.domain false) (((Rows.OpenSpec.upto Rows.meanTypesSpec).at F).post enc Tryz.prog Tryz.f6 false true false false):=by
 refine returnsInHanded_of_cond (C:=Tryz.checked) (s:=Rows.OpenSpec.upto Rows.meanTypesSpec) (k:=Rows.uptoSmall) rfl own started (by kernel_rfl) Tryz.func6
  (OpenSpec.witness (enc:=enc) (C:=Tryz.checked) (s:=Rows.OpenSpec.upto Rows.meanTypesSpec) (k:=Rows.uptoSmall) rfl false ⟨#[],#[.agg #[.slice none 0 0,.string .empty,.string .empty]],[]⟩ 8 (by kernel_rfl) (by kernel_rfl) (by kernel_rfl)
   (x:=([.agg [.nil,.lit (.string []),.lit (.string [])]],[],[])) (by kernel_rfl) rfl (by kernel_rfl)) ?_
 intro W base args ds gs before hval hW _ hk _
 exact contract H enc W base args ds gs before hval hW hk
theorem proved:Rows.MeanTypesUptoSaid:=
 OpenClaim.holds_of_cond 6 Tryz.f6 rfl rfl rfl rfl rfl rfl rfl ⟨rfl,rfl,rfl,rfl,rfl⟩ rfl rfl rfl rfl rfl (by kernel_rfl) Tryz.func6 (by kernel_rfl)
  (of_decide_eq_true (by kernel_rfl)) (by unfold Func.isWrapper;first| (rw [if_pos (by decide+kernel)];kernel_rfl)| (rw [if_neg (by decide+kernel)];exact ⟨rfl,rfl⟩))
  (fun os started H enc _ F=>lifted os started H enc F)
end Go.Proofs.YtiodboehkcmdnaaGreat.meanTypes
