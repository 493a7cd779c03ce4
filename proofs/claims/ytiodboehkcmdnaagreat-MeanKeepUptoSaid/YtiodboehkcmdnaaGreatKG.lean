/-
  fathomlaw11.MeanKeep, WHERE WHAT IT READS IS OF BULK AT MOST 1048576: for every text, name and line of arguments the Go function returns true, and its input reads as it did. No condition beside the statement's own.
-/
import Derived.KernelRfl
import Derived.Test.YtiodboehkcmdnaaGreatRows
import Derived.WalkKit
import Derived.ProofKit
import Derived.OpenShut
import Derived.JoinedCond
import Derived.Lib.SmallJoins
import Derived.Test.YtiodboehkcmdnaaGreatKF
set_option linter.all false
set_option exponentiation.threshold 3000
namespace Fth
open Go
def gv(v:AD):Th:=if v.type_=3 then v.list.foldr (λz t=> .done v0 (.done ⟨1,z,false,[]⟩ .nil .nil) t) (.done ⟨3,(0,0),false,[]⟩ .nil .nil) else .done v .nil .nil
theorem Xb{v:AD}{N:Nat}(hl:v.list.length<=1000000000)(hN:v.list.length+2<=N):I3 N v=some (gv v)/\H9 N v=some (gv v):=by
 have loop: ∀(l2 l1:List Cpl),v.list=l1++l2->∀k,l1.length<k->
   Jr v k (l2.foldr (λz t=> .done v0 (.done ⟨1,z,false,[]⟩ .nil .nil) t) (.done ⟨3,(0,0),false,[]⟩ .nil .nil)) ((l1.length:Int) - 1)=some (v.list.foldr (λz t=> .done v0 (.done ⟨1,z,false,[]⟩ .nil .nil) t) (.done ⟨3,(0,0),false,[]⟩ .nil .nil))/\
   JF v k (l2.foldr (λz t=> .done v0 (.done ⟨1,z,false,[]⟩ .nil .nil) t) (.done ⟨3,(0,0),false,[]⟩ .nil .nil)) ((l1.length:Int) - 1)=some (v.list.foldr (λz t=> .done v0 (.done ⟨1,z,false,[]⟩ .nil .nil) t) (.done ⟨3,(0,0),false,[]⟩ .nil .nil)):=by
  intro l2 l1
  induction hn:l1.length generalizing l1 l2 with
  |zero=>
   intro h k hk
   obtain ⟨k,rfl⟩: ∃j,k=j+1:=⟨k - 1,om⟩
   have:l1=[]:=List.length_eq_zero_iff.1 hn
   subst this
   rw [h]
   exact ⟨rfl,rfl⟩
  |succ n ih=>
   intro h k hk
   obtain ⟨k,rfl⟩: ∃j,k=j+1:=⟨k - 1,om⟩
   have hne:l1≠[]:=λe=>by subst e;cases hn
   obtain ⟨l0,z,rfl⟩: ∃l0 z,l1=l0++[z]:=⟨l1.dropLast,l1.getLast hne,(List.dropLast_concat_getLast hne).symm⟩
   have hl0:l0.length=n:=by simp at hn;exact hn
   have hz:v.list[n]?=some z:=by rw [h,List.append_assoc,List.getElem?_append_right om,hl0];simp
   have hnl:n<v.list.length:=(List.getElem?_eq_some_iff.1 hz).1
   have ihh:=ih (z::l2) l0 hl0 (by rw [h];simp) k om
   have e1:((n+1:Nat):Int) - 1=(n:Int):=om
   rw [e1]
   constructor
   ·show LB v (Jr v k) _ (n:Int)=_
    unfold LB
    rw [show decide ((n:Int)>=0)=true from decide_eq_true om,cond_true,CC hz,BP,wr om om]
    exact ihh.1
   ·show Ki v (JF v k) _ (n:Int)=_
    unfold Ki
    rw [show decide ((n:Int)>=0)=true from decide_eq_true om,cond_true,CC hz,BP,wr om om]
    exact ihh.2
 unfold I3 H9 gv
 cases h:(v.type_ != 3)
 ·have h:=KR h
  rw [if_pos h,wr om om]
  have:=loop [] v.list (by simp) N om
  exact this
 ·have h:=Ma h
  rw [if_neg h]
  exact ⟨rfl,rfl⟩
theorem ACZ{p:AL}{L:Nat}{v:AD}(h:VV v.type_ v)(hl:v.list.length+1<L):TOK p L v.type_ (gv v):=by
 unfold gv
 rcases Decidable.em (v.type_=3) with h3|h3
 ·rw [if_pos h3]
  have hg: ∀z∈v.list,Gn z:=by
   rcases h with ⟨e,_⟩| ⟨e,_⟩| ⟨_,_,_,_,h⟩
   ·omega
   ·omega
   ·exact h
  rw [h3]
  have key: ∀l:List Cpl,(∀z∈l,Gn z)->l.length+1<L->TOK p L 3 (l.foldr (λz t=> .done v0 (.done ⟨1,z,false,[]⟩ .nil .nil) t) (.done ⟨3,(0,0),false,[]⟩ .nil .nil))/\ch (l.foldr (λz t=> .done v0 (.done ⟨1,z,false,[]⟩ .nil .nil) t) (.done ⟨3,(0,0),false,[]⟩ .nil .nil))=l.length+1:=by
   intro l
   induction l with
   |nil=>intro _ _;exact ⟨.val 3 _ (.inr (.inr ⟨rfl,rfl,rfl,rfl,by simp⟩)) λ_=>rfl,rfl⟩
   |cons z l ih=>
    intro hz hl
    have:=ih (λw hw=>hz w (List.mem_cons_of_mem _ hw)) (by simp at hl;omega)
    refine ⟨.pair _ _ (.val 1 _ (.inl ⟨rfl,rfl,hz z (List.mem_cons_self ..),rfl,rfl⟩) λh=>by cases h) this.1 (by rw [this.2];simp at hl;omega),?_⟩
    simp only [List.foldr_cons,ch,this.2,List.length_cons];omega
  exact (key v.list hg hl).1
 ·rw [if_neg h3]
  exact .val _ v h λe=>absurd e h3
def Sn:List AJ->List AD->Nm->Nm
 |x::ps,v::vs,acc=>Sn ps vs (.bind x.name (gv v) acc)
 |_,_,acc=>acc
theorem ABU{p:AL}{L:Nat}: ∀(ps:List AJ) (vs:List AD) (Δ:List AJ) (acc:Nm),ps.length=vs.length->EOK p L Δ acc->(∀(i:Nat) (x:AJ) (v:AD),ps[i]?=some x->vs[i]?=some v->v.type_=x.type_/\VV v.type_ v/\v.list.length+1<L)->EOK p L (ps.reverse++Δ) (Sn ps vs acc):=by
 intro ps
 induction ps with
 |nil=>intro vs Δ acc h he _;cases vs with
  |nil=>exact he
  |cons=>cases h
 |cons x ps ih=>
  intro vs Δ acc h he ha
  cases vs with
  |nil=>cases h
  |cons v vs=>
   have h0:=ha 0 x v rfl rfl
   have:=ih vs (x::Δ) (.bind x.name (gv v) acc) (by simpa using h) (.bind x Δ _ acc (h0.1▸ACZ h0.2.1 h0.2.2) he) λi y w h1 h2=>ha (i+1) y w h1 h2
   rw [List.reverse_cons,List.append_assoc]
   exact this
def VI(most:Int):Nat:=(if (16384:Int)< (if most<0 then 0 else most) then 16384 else (if most<0 then 0 else most)).toNat
theorem Sz(most:Int):(if (16384:Int)< (if most<0 then 0 else most) then 16384 else (if most<0 then 0 else most))=(VI most:Int):=by
 unfold VI;split<;>split<;>omega
theorem YW(most:Int):VI most<=16384:=by unfold VI;split<;>split<;>omega
def YX(f:AN)(args:List AD):Prop:=args.length=f.params.length/\∀(i:Nat) (v:AD) (x:AJ),args[i]?=some v->f.params[i]?=some x->v.type_=x.type_/\chk v=true
def Rl(y:Int):BK:=⟨y,v0,0,0,0,0⟩
def ACv(r:Except Int AD)(c:Nat):BK:=match r with
 | .ok v=>⟨0,v,c,0,0,0⟩
 | .error y=>⟨y,v0,c,0,0,0⟩
inductive Vg(p:AL)(nm:List UInt8)(args:List AD)(m:Nat):BK->Prop
 |shape (h: ¬Ub p):Vg p nm args m (Rl 3)
 |func (h:Ub p) (hf:hd p nm=none):Vg p nm args m (Rl 32)
 |args {f:AN} (h:Ub p) (hf:hd p nm=some f) (ha: ¬YX f args):Vg p nm args m (Rl 40)
 |run {f:AN} {r:Except Int AD} {c:Nat} (h:Ub p) (hf:hd p nm=some f) (ha:YX f args) (hr:Rn p m f.body (Sn f.params args .nil) r c) (hc:c<=m) (hv:Rv m f.type_ r c):Vg p nm args m (ACv r c)
def AV(args:List AD):Prop:=(∀v∈args,GV v/\v.list.length<=1048577)/\args.length<=1000000000
theorem LV.av{l:List AD}(h:LV l):AV l:=⟨λv hv=>⟨(h.1 v hv).1.gv (by have:=(h.1 v hv).2;omega),(h.1 v hv).2⟩,by have:=h.2;omega⟩
section
variable{p:AL}{nm:List UInt8}{args:List AD}
theorem ACa(hlen:p.funcs.length<=50000)(hS:FN p): ∀(j i:Nat),i+j=p.funcs.length->∀(m:As),(∀s,Oj m s=decide (s∈(p.funcs.take i).map (·.name))/\∀k f,k<i->p.funcs[k]?=some f->f.name=s->Cz m s=(k:Int))->
  ∃mp,Mpp p mp/\(∀s,Oj mp s=(hd p s).isSome)/\∃n0,∀N k most,n0<=k->Ji N p nm args most k (i:Int) m=(bif !(Oj mp nm) then some (Rl 32) else ((idx p.funcs (Cz mp nm)).bind λx239=>bif ((args.length:Int) != (x239.params.length:Int)) then some (Rl 40) else E7 N p args most mp x239 N Nm.nil 0)):=by
 intro j
 induction j with
 |zero=>
  intro i hi m hm
  have htk:p.funcs.take i=p.funcs:=List.take_of_length_le om
  refine ⟨m,λs f hf=>?_,λs=>?_,1,λN k most hk=>?_⟩
  ·have hfm:=List.mem_of_find?_eq_some hf
   obtain ⟨k,hk⟩:=List.mem_iff_getElem?.1 hfm
   have hfn:f.name=s:=by have:=List.find?_some hf;simpa using this
   have:=(hm s).2 k f (by have:=(List.getElem?_eq_some_iff.1 hk).1;omega) hk hfn
   rw [this]
   exact CC hk
  ·rw [(hm s).1,htk]
   cases hh:hd p s with
   |none=>
    rw [decide_eq_false];rfl
    intro h
    obtain ⟨f,hf,hfn⟩:=List.mem_map.1 h
    unfold hd at hh
    rw [List.find?_eq_none] at hh
    exact hh f hf (by simpa using hfn)
   |some f=>
    rw [decide_eq_true];rfl
    have hfn:f.name=s:=by have:=List.find?_some hh;simpa using this
    exact List.mem_map.2 ⟨f,List.mem_of_find?_eq_some hh,hfn⟩
  ·obtain ⟨k,rfl⟩: ∃j,k=j+1:=⟨k - 1,om⟩
   show Jv N p nm args most (Ji N p nm args most k) i m=_
   unfold Jv
   rw [show decide ((i:Int)< (p.funcs.length:Int))=false from decide_eq_false om,cond_false]
   rfl
 |succ j ihj=>
  intro i hi m hm
  obtain ⟨f,hf⟩: ∃f,p.funcs[i]?=some f:=⟨_,List.getElem?_eq_getElem om⟩
  have htk:(p.funcs.take (i+1)).map (·.name)=(p.funcs.take i).map (·.name)++[f.name]:=by rw [List.take_add_one,hf];simp
  obtain ⟨mp,h1,h2,n0,h3⟩:=ihj (i+1) om (Mc f.name i m) λs=>by
   rw [Y7,NH,htk]
   cases hn:(s==f.name)
   ·have hne:s≠f.name:=by simpa using hn
    rw [cond_false,cond_false]
    refine ⟨?_,λk g hk hg hgn=>?_⟩
    ·rw [(hm s).1];congr 1;simp [hne]
    ·rcases Nat.eq_or_lt_of_le (Nat.le_of_lt_succ hk) with rfl|hlt
     ·rw [hf] at hg;cases hg;exact absurd hgn.symm hne
     ·exact (hm s).2 k g hlt hg hgn
   ·have hne:s=f.name:=by simpa using hn
    rw [cond_true,cond_true]
    refine ⟨?_,λk g hk hg hgn=>?_⟩
    ·rw [decide_eq_true];rw [hne];simp
    ·rcases Nat.eq_or_lt_of_le (Nat.le_of_lt_succ hk) with rfl|hlt
     ·rfl
     ·refine absurd (List.mem_map.2 ⟨g,?_,hgn.trans hne⟩) (hS i f hf)
      rw [List.mem_take_iff_getElem]
      obtain ⟨a1,a2⟩:=List.getElem?_eq_some_iff.1 hg
      exact ⟨k,om,a2⟩
  refine ⟨mp,h1,h2,n0+1,λN k most hk=>?_⟩
  obtain ⟨k,rfl⟩: ∃j,k=j+1:=⟨k - 1,om⟩
  show Jv N p nm args most (Ji N p nm args most k) i m=_
  unfold Jv
  rw [show decide ((i:Int)< (p.funcs.length:Int))=true from decide_eq_true om,cond_true,CC hf,BP,wr om om,show (i:Int)+1=((i+1:Nat):Int) by omega]
  exact h3 N k most om
theorem ABV(hA:AV args){f:AN}(hf:f.params.length<=1000000):ET (λN=>G5 N f args) λb=>b=true↔YX f args:=by
 unfold G5
 refine ET.cond (λh=> .some ⟨λh=>(by cases h),λh'=>absurd (congrArg Int.ofNat h'.1) (Ma h)⟩) λh=>?_
 have h:=KR h
 have hlen:args.length=f.params.length:=om
 have loop: ∀(j i:Nat),i+j=args.length->EL (λN k=>In N f args k (i:Int)) λb=>b=true↔∀(i':Nat) (v:AD) (x:AJ),i<=i'->args[i']?=some v->f.params[i']?=some x->v.type_=x.type_/\chk v=true:=by
  intro j
  induction j with
  |zero=>
   intro i hi
   refine EL.down ?_
   show EL (λN k=>JE N f args (In N f args k) i) _
   unfold JE
   exact EL.cond (λh=>by have:=CS h;omega) λ_=> .some ⟨λ_ i' v x hi' hv _=>by have:=(List.getElem?_eq_some_iff.1 hv).1;omega,λ_=>rfl⟩
  |succ j ihj=>
   intro i hi
   obtain ⟨v,hv⟩: ∃v,args[i]?=some v:=⟨_,List.getElem?_eq_getElem om⟩
   obtain ⟨x,hx⟩: ∃x,f.params[i]?=some x:=⟨_,List.getElem?_eq_getElem om⟩
   have hg:=hA.1 v (List.mem_of_getElem? hv)
   refine EL.down ?_
   show EL (λN k=>JE N f args (In N f args k) i) _
   unfold JE L1
   rw [wr om om,show (i:Int)+1=((i+1:Nat):Int) by omega]
   refine EL.cond (λ_=>?_) λh=>by have:=EE h;omega
   refine EL.eq (CC hv) (EL.eq (CC hx) (EL.cond (λh=>?_) λh=>?_))
   ·exact EL.cond (λ_=> .some ⟨λh=>(by cases h),λh'=>absurd (h' i v x (Nat.le_refl _) hv hx).1 (Ma h)⟩) λh=>by cases h
   ·refine EL.bind (P:=λb=>b=chk v) (R0 (v.list.length+2) ⟨_,rfl,λN hN=>M3 hg.1 hN⟩) λb hb=>?_
    subst hb
    refine EL.cond (λhc=> .some ⟨λh=>(by cases h),λh'=>?_⟩) λhc=>(ihj (i+1) om).mono λb hb=>hb.trans ?_
    ·have:=(h' i v x (Nat.le_refl _) hv hx).2;rw [this] at hc;cases hc
    ·constructor
     ·intro h' i' w y hi' hw hy
      rcases Nat.eq_or_lt_of_le hi' with rfl|hlt
      ·rw [hv] at hw;cases hw;rw [hx] at hy;cases hy;exact ⟨KR h,by simpa using hc⟩
      ·exact h' i' w y hlt hw hy
     ·intro h' i' w y hi' hw hy;exact h' i' w y om hw hy
 refine (loop args.length 0 om).diag.mono λb hb=>hb.trans ⟨λh=>⟨hlen,λi v x hv hx=>h i v x (Nat.zero_le _) hv hx⟩,λh i v x _ hv hx=>h.2 i v x hv hx⟩
theorem ABW(hp:WP p)(hA:AV args)(most:Int): ∃r,Vg p nm args (VI most) r/\Ev λN=>Ha N p nm args most=some r/\GI N p nm args most=some r:=by
 have hlen:=hp.len
 obtain ⟨ft,hft,et⟩:=ABT hp
 obtain ⟨fr,hfr,er⟩:=AAK hp
 replace et:Ev λN=>HH N p=some ft:=et
 replace er:Ev λN=>HK N p=some fr:=er
 rcases Classical.em (Ub p) with hS|hS
 rotate_left
 ·refine ⟨_,.shape hS,(et.and er).mono λN hN=>⟨?_,?_⟩⟩
  ·unfold Ha
   rw [hN.1,BP,show (ft.why != 0)=true by simp;exact λh=>hS (hft.1 h)];rfl
  ·unfold GI
   rw [hN.2,BP,show (fr.why != 0)=true by simp;exact λh=>hS (hfr.1 h)];rfl
 have zt:(ft.why != 0)=false:=by simp;exact hft.2 hS
 have zr:(fr.why != 0)=false:=by simp;exact hfr.2 hS
 obtain ⟨mp,hmpp,hmh,n0,hmap⟩:=ACa (nm:=nm) (args:=args) hlen hS.1.1 p.funcs.length 0 om [] λs=>⟨by simp;rfl,λk f hk=>om⟩
 have mean0:Ev λN=>Ha N p nm args most=(bif !(Oj mp nm) then some (Rl 32) else ((idx p.funcs (Cz mp nm)).bind λx239=>bif ((args.length:Int) != (x239.params.length:Int)) then some (Rl 40) else E7 N p args most mp x239 N Nm.nil 0)):=
  (et.and (M2 n0)).mono λN hN=>by
   unfold Ha
   rw [hN.1,BP,zt,cond_false]
   exact hmap N N most hN.2
 have ref0:Ev λN=>GI N p nm args most=(bif (!(hdR (hd p nm)).2) then some (Rl 32) else ((G5 N (hdR (hd p nm)).1 args).bind λx80=>bif (!x80) then some (Rl 40) else (Gh N p args most (hdR (hd p nm)) N Nm.nil 0))):=
  (er.and (M2 (p.funcs.length+2))).mono λN hN=>by
   unfold GI
   rw [hN.1,BP,zr,cond_false,Sx om hN.2,BP];rfl
 cases hh:hd p nm with
 |none=>
  refine ⟨_,.func hS hh,(mean0.and ref0).mono λN hN=>⟨?_,?_⟩⟩
  ·rw [hN.1,hmh,hh];rfl
  ·rw [hN.2,hh];rfl
 |some f=>
  have hfm:=List.mem_of_find?_eq_some hh
  have hfn:=hp.fns f hfm
  have hfp:=hfn.pars
  obtain ⟨b,hb,eb⟩:=ABV (f:=f) hA hfp
  replace eb:Ev λN=>G5 N f args=some b:=eb
  have mean1:Ev λN=>Ha N p nm args most=(bif ((args.length:Int) != (f.params.length:Int)) then some (Rl 40) else E7 N p args most mp f N Nm.nil 0):=mean0.mono λN hN=>by
   rw [hN,hmh,hh,hmpp nm f hh];rfl
  have ref1:Ev λN=>GI N p nm args most=(bif (!b) then some (Rl 40) else (Gh N p args most (f,true) N Nm.nil 0)):=(ref0.and eb).mono λN hN=>by
   rw [hN.1,hh]
   show (bif (!true) then _ else ((G5 N f args).bind λx80=>_))=_
   rw [hN.2];rfl
  have loopM: ∀(Z:Option BK),args.length=f.params.length->∀(j i:Nat),i+j=args.length->∀(acc:Nm),
    ((∀(i':Nat) (v:AD) (x:AJ),i<=i'->args[i']?=some v->f.params[i']?=some x->v.type_=x.type_/\chk v=true)->
     ∃n1,∀N k,n1<=N->n1<=k->E7 N p args most mp f k acc (i:Int)=GB N p args most mp f (λ_ _=>Z) (Sn (f.params.drop i) (args.drop i) acc) (args.length:Int))/\
    ((¬∀(i':Nat) (v:AD) (x:AJ),i<=i'->args[i']?=some v->f.params[i']?=some x->v.type_=x.type_/\chk v=true)->
     ∃n1,∀N k,n1<=N->n1<=k->E7 N p args most mp f k acc (i:Int)=some (Rl 40)):=by
   intro Z hlen2 j
   induction j with
   |zero=>
    intro i hi acc
    refine ⟨λ_=>⟨1,λN k _ hk=>?_⟩,λh=>absurd (λi' v x hi' hv _=>by have:=(List.getElem?_eq_some_iff.1 hv).1;omega) h⟩
    obtain ⟨k,rfl⟩: ∃j,k=j+1:=⟨k - 1,om⟩
    show GB N p args most mp f (E7 N p args most mp f k) acc i=_
    have e1:f.params.drop i=[]:=List.drop_eq_nil_of_le om
    have e2:args.drop i=[]:=List.drop_eq_nil_of_le om
    rw [e1,e2]
    unfold GB
    rw [show decide ((i:Int)< (args.length:Int))=false from decide_eq_false om,show decide ((args.length:Int)< (args.length:Int))=false from decide_eq_false om]
    rfl
   |succ j ihj=>
    intro i hi acc
    obtain ⟨v,hv⟩: ∃v,args[i]?=some v:=⟨_,List.getElem?_eq_getElem om⟩
    obtain ⟨x,hx⟩: ∃x,f.params[i]?=some x:=⟨_,List.getElem?_eq_getElem om⟩
    have hg:=hA.1 v (List.mem_of_getElem? hv)
    have step: ∀N k,v.list.length+2<=N->E7 N p args most mp f (k+1) acc (i:Int)=(bif (v.type_==x.type_&&chk v) then E7 N p args most mp f k (.bind x.name (gv v) acc) ((i+1:Nat):Int) else some (Rl 40)):=by
     intro N k hN
     show GB N p args most mp f (E7 N p args most mp f k) acc i=_
     unfold GB MS
     rw [show decide ((i:Int)< (args.length:Int))=true from decide_eq_true om,cond_true,CC hv,BP,CC hx,BP,OD hg.1 hN,BP,(Xb (v:=v) (N:=N) (by have:=hg.2;omega) hN).1,wr om om,show (i:Int)+1=((i+1:Nat):Int) by omega,BP,BP]
     cases h1:(v.type_==x.type_)
     ·rw [show (v.type_ != x.type_)=true by simp only [bne,h1];rfl];rfl
     ·rw [show (v.type_ != x.type_)=false by simp only [bne,h1];rfl]
      cases chk v<;>rfl
    have ihh:=ihj (i+1) om (.bind x.name (gv v) acc)
    have heq:v.type_=x.type_/\chk v=true↔(v.type_==x.type_&&chk v)=true:=by simp
    have henv:Sn (f.params.drop i) (args.drop i) acc=Sn (f.params.drop (i+1)) (args.drop (i+1)) (.bind x.name (gv v) acc):=by rw [ME hx,ME hv];rfl
    constructor
    ·intro h
     have h0:=h i v x (Nat.le_refl _) hv hx
     obtain ⟨n1,hn1⟩:=ihh.1 λi' w y hi' hw hy=>h i' w y om hw hy
     refine ⟨n1+v.list.length+3,λN k hN hk=>?_⟩
     obtain ⟨k,rfl⟩: ∃j,k=j+1:=⟨k - 1,om⟩
     rw [step N k om,heq.1 h0,cond_true,hn1 N k om om,henv]
    ·intro h
     cases hc:(v.type_==x.type_&&chk v)
     ·refine ⟨v.list.length+3,λN k hN hk=>?_⟩
      obtain ⟨k,rfl⟩: ∃j,k=j+1:=⟨k - 1,om⟩
      rw [step N k om,hc];rfl
     ·obtain ⟨n1,hn1⟩:=ihh.2 λh'=>h λi' w y hi' hw hy=>by
       rcases Nat.eq_or_lt_of_le hi' with rfl|hlt
       ·rw [hv] at hw;cases hw;rw [hx] at hy;cases hy;exact heq.2 hc
       ·exact h' i' w y hlt hw hy
      refine ⟨n1+v.list.length+3,λN k hN hk=>?_⟩
      obtain ⟨k,rfl⟩: ∃j,k=j+1:=⟨k - 1,om⟩
      rw [step N k om,hc]
      exact hn1 N k om om
  rcases Classical.em (YX f args) with hF|hF
  ·
   have hEnv:EOK p 1100000 f.params.reverse (Sn f.params args .nil):=by
    have:=ABU (p:=p) (L:=1100000) f.params args [] .nil hF.1.symm .nil λi x v hx hv=>by
     have h1:=hF.2 i v x hv hx
     have h2:=hA.1 v (List.mem_of_getElem? hv)
     exact ⟨h1.1,(Z0 h2.1).1 h1.2,om⟩
    rwa [List.append_nil] at this
   obtain ⟨r,c,hr,hc,hv⟩:=ACV hp hS.2 om (Nat.le_refl 1100000) (YW most) hEnv (hS.2 f hfm) hfn.body hfn.typ
   refine ⟨_,.run hS hh hF hr hc hv,?_⟩
   obtain ⟨n1,hn1⟩:=(loopM none hF.1 args.length 0 om .nil).1 λi v x _ hv hx=>hF.2 i v x hv hx
   have mean2:Ev λN=>Ha N p nm args most=GB N p args most mp f (λ_ _=>none) (Sn f.params args .nil) (args.length:Int):=(mean1.and (M2 n1)).mono λN hN=>by
    rw [hN.1,show ((args.length:Int) != (f.params.length:Int))=false by simp;have:=hF.1;omega,cond_false]
    exact hn1 N N hN.2 hN.2
   have hbt:b=true:=hb.2 hF
   have loopR: ∀(j i:Nat),i+j=args.length->∀(acc:Nm),∃n1,∀N k,n1<=N->n1<=k->Gh N p args most (f,true) k acc (i:Int)=FP N p args most (f,true) (λ_ _=>none) (Sn (f.params.drop i) (args.drop i) acc) (args.length:Int):=by
    intro j
    induction j with
    |zero=>
     intro i hi acc
     refine ⟨1,λN k _ hk=>?_⟩
     obtain ⟨k,rfl⟩: ∃j,k=j+1:=⟨k - 1,om⟩
     show FP N p args most (f,true) (Gh N p args most (f,true) k) acc i=_
     have e1:f.params.drop i=[]:=List.drop_eq_nil_of_le (by have:=hF.1;omega)
     have e2:args.drop i=[]:=List.drop_eq_nil_of_le om
     rw [e1,e2]
     unfold FP
     rw [show decide ((i:Int)< (args.length:Int))=false from decide_eq_false om,show decide ((args.length:Int)< (args.length:Int))=false from decide_eq_false om]
     rfl
    |succ j ihj=>
     intro i hi acc
     obtain ⟨v,hv⟩: ∃v,args[i]?=some v:=⟨_,List.getElem?_eq_getElem om⟩
     obtain ⟨x,hx⟩: ∃x,f.params[i]?=some x:=⟨_,List.getElem?_eq_getElem (by have:=hF.1;omega)⟩
     have hg:=hA.1 v (List.mem_of_getElem? hv)
     obtain ⟨n1,hn1⟩:=ihj (i+1) om (.bind x.name (gv v) acc)
     refine ⟨n1+v.list.length+3,λN k hN hk=>?_⟩
     obtain ⟨k,rfl⟩: ∃j,k=j+1:=⟨k - 1,om⟩
     show FP N p args most (f,true) (Gh N p args most (f,true) k) acc i=_
     have henv:Sn (f.params.drop i) (args.drop i) acc=Sn (f.params.drop (i+1)) (args.drop (i+1)) (.bind x.name (gv v) acc):=by rw [ME hx,ME hv];rfl
     rw [henv,<-hn1 N k om om]
     conv=>lhs;unfold FP
     have hx':idx (f,true).1.params (i:Int)=some x:=CC hx
     have hai:(i:Int)< (args.length:Int):=om
     have hfl:=hF.1
     rw [show decide ((i:Int)< (args.length:Int))=true from decide_eq_true hai,cond_true,hx',BP,CC hv,BP,(Xb (v:=v) (N:=N) (by have:=hg.2;omega) om).2,BP,wr om om,show (i:Int)+1=((i+1:Nat):Int) by omega]
   obtain ⟨n2,hn2⟩:=loopR args.length 0 om .nil
   have ref2:Ev λN=>GI N p nm args most=FP N p args most (f,true) (λ_ _=>none) (Sn f.params args .nil) (args.length:Int):=(ref1.and (M2 n2)).mono λN hN=>by
    rw [hN.1,hbt]
    exact hn2 N N hN.2 hN.2
   have hm:=YW most
   have dl:decide ((args.length:Int)< (args.length:Int))=false:=decide_eq_false om
   cases hr with
   |err h=>
    rename_i y
    have hy:=Pn h y rfl
    refine (((mean2.and ref2).and (Wk hp hmpp hm h)).and ((X6 hp hm h).and (M2 1))).mono λN hN=>⟨?_,?_⟩
    ·rw [hN.1.1.1]
     unfold GB
     rw [dl,cond_false,QW,Sz]
     have:=hN.1.2
     rw [show ((0:Nat):Int)=0 from rfl] at this
     rw [this];rfl
    ·rw [hN.1.1.2]
     unfold FP
     rw [dl,cond_false,QW,Sz]
     have:=hN.2.1
     rw [show ((0:Nat):Int)=0 from rfl] at this
     rw [this]
     obtain ⟨M,hM⟩: ∃M,N=M+1:=⟨N - 1,by have:=hN.2.2;omega⟩
     subst hM
     show ((CY (M+1) ⟨p,VI most,c,y⟩ th0).bind λx312=>_)=_
     unfold CY Ee
     rw [show ((AX.mk p (VI most) c y).why==0)=false by simpa using hy,cond_false,cond_false]
     show ((DA (M+1) (Bx (M+1) M) th0 p.funcs (VI most) c y []).bind λx312=>_)=_
     unfold DA
     rw [show (y==0)=false by simpa using hy]
     show (bif (y != 0) then _ else _)=_
     rw [show (y != 0)=true by simpa using hy];rfl
   |val h h2=>
    rename_i x c1
    refine (((mean2.and ref2).and ((Wk hp hmpp hm h).and (ABJ hp hmpp hm h2))).and ((X6 hp hm h).and (ACT hp hm h2))).mono λN hN=>⟨?_,?_⟩
    ·rw [hN.1.1.1]
     unfold GB
     rw [dl,cond_false,QW,Sz]
     have:=hN.1.2.1
     rw [show ((0:Nat):Int)=0 from rfl] at this
     rw [this]
     show ((GA N p.funcs c1 (VI most) mp x).bind λx757=>_)=_
     rw [hN.1.2.2]
     cases r<;>rfl
    ·rw [hN.1.1.2]
     unfold FP
     rw [dl,cond_false,QW,Sz]
     have:=hN.2.1
     rw [show ((0:Nat):Int)=0 from rfl] at this
     rw [this]
     obtain ⟨v,hv1,hv2⟩:=hN.2.2
     show ((CY N ⟨p,VI most,c1,0⟩ (.done x.plain x.head x.tail)).bind λx312=>_)=_
     rw [hv1,BP]
     cases r with
     |ok u=>rw [hv2 u rfl];rfl
     |error y=>
      have hy:y≠0:=by rcases hv with ⟨h,_⟩| ⟨h,_⟩<;>omega
      show (bif (y != 0) then _ else _)=_
      rw [show (y != 0)=true by simpa using hy];rfl
  ·
   have hbf:b=false:=by cases hbb:b;rfl;exact absurd (hb.1 hbb) hF
   refine ⟨_,.args hS hh hF,?_⟩
   rcases Decidable.em (args.length=f.params.length) with hl2|hl2
   ·obtain ⟨n1,hn1⟩:=(loopM none hl2 args.length 0 om .nil).2 λh=>hF ⟨hl2,λi v x hv hx=>h i v x (Nat.zero_le _) hv hx⟩
    refine ((mean1.and ref1).and (M2 n1)).mono λN hN=>⟨?_,?_⟩
    ·rw [hN.1.1,show ((args.length:Int) != (f.params.length:Int))=false by simp;omega,cond_false]
     exact hn1 N N hN.2 hN.2
    ·rw [hN.1.2,hbf];rfl
   ·refine (mean1.and ref1).mono λN hN=>⟨?_,?_⟩
    ·rw [hN.1,show ((args.length:Int) != (f.params.length:Int))=true by simp;omega];rfl
    ·rw [hN.2,hbf];rfl
end
end Fth
namespace Fth
open Go
def Rvv(v:AD):Prop:=v=v0∨(VV v.type_ v/\GV v)
theorem AAO{v:AD}(h:VV v.type_ v)(hg:GV v){N:Nat}(hN:v.list.length+2<=N):IN N v v=some true:=by
  have hl:=hg.2.2
  have cself: ∀z,Gn z->cne z z=false:=λz hz=>by
   obtain ⟨n,hn,rfl⟩:=(QY z).1 hz
   have:=X1 hn hn
   simp only [decide_true,Bool.and_self] at this
   unfold ceq at this
   unfold cne
   rw [this];rfl
  have loop: ∀(k i:Nat),i<=v.list.length->v.list.length<i+k->Jw v v k (i:Int)=some true:=by
   intro k
   induction k with
   |zero=>intro i _ _;omega
   |succ k ih=>
    intro i hi hk
    show LE v v (Jw v v k) i=_
    unfold LE
    cases hc:decide ((i:Int)< (v.list.length:Int))
    ·rfl
    ·have hc:=CS hc
     obtain ⟨z,hz⟩: ∃z,v.list[i]?=some z:=⟨_,List.getElem?_eq_getElem om⟩
     rw [cond_true,CC hz,BP,BP,cself z (hg.2.1 z (List.mem_of_getElem? hz)),cond_false,wr om om,show (i:Int)+1=((i+1:Nat):Int) by omega]
     exact ih (i+1) om om
  have hch:=(Z0 hg).2 h
  unfold IN Hi
  rw [M3 hg hN,BP,hch,Bool.not_true,cond_false,BP,Bool.not_true,cond_false,show (v.type_ != v.type_)=false by simp,cond_false,cself v.num hg.1,cond_false,show (!(v.bool==v.bool))=false by simp,cond_false,show ((v.list.length:Int) != (v.list.length:Int))=false by simp,cond_false]
  have:=loop N 0 om om
  rw [show ((0:Nat):Int)=0 from rfl] at this
  exact this
theorem Y9{v:AD}(h:Rvv v):Ev λN=>GZ N v v=some true:=by
 rcases h with rfl| ⟨h,hg⟩
 ·refine Ev.all λN=>?_
  have c0:ceq ((0,0):Cpl) (0,0)=true:=by decide
  unfold GZ KN
  rw [show (v0.type_==0)=true from rfl,cond_true,cond_true,show v0.num=(0,0) from rfl,c0]
  rfl
 ·have ht:v.type_≠0:=by rcases h with ⟨e,_⟩| ⟨e,_⟩| ⟨e,_⟩<;>omega
  refine (M2 (v.list.length+2)).mono λN hN=>?_
  unfold GZ KN
  rw [show (v.type_==0)=false by simpa using ht,cond_false,cond_false,AAO h hg hN];rfl
theorem ABX{r:BK}(h:Rvv r.value):Ev λN=>JG N r r=some true:=by
 refine (Y9 h).mono λN hN=>?_
 unfold JG Hk
 rw [show (r.why==r.why)=true by simp,cond_true]
 show ((GZ N r.value r.value).bind λx48=>_)=_
 rw [hN,BP,cond_true,show (r.moves==r.moves)=true by simp,show (r.thunks==r.thunks)=true by simp,show (r.updates==r.updates)=true by simp,show (r.calls==r.calls)=true by simp]
 rfl
section
variable{p:AL}{nm:List UInt8}{args:List AD}{m:Nat}
theorem AAP{r:BK}(h:Vg p nm args m r):Rvv r.value:=by
 cases h with
 |shape=>exact .inl rfl
 |func=>exact .inl rfl
 |args=>exact .inl rfl
 | @run f r c h hf ha hr hc hv=>
  cases r with
  |error y=>exact .inl rfl
  |ok v=>exact .inr ⟨hv.1.type▸hv.1,hv.1.gv (by have:=hv.2.2;omega)⟩
end
end Fth
namespace Fth
open Go
class OL{α:Type}(x y:Option α):Prop where
 le: ∀a,x=some a->y=some a
class Up(N M:Nat):Prop where
 le:N<=M
instance OL.refl {α:Type} {x:Option α}:OL x x:=⟨λ_ h=>h⟩
theorem OL.none{α:Type}{x:Option α}:OL none x:=⟨λ_ h=>by cases h⟩
instance OL.bind {α β:Type} {x y:Option α} {f g:α->Option β} [h:OL x y] [k: ∀a,OL (f a) (g a)]:OL (x.bind f) (y.bind g):=⟨λb hb=>by
 cases x with
 |none=>cases hb
 |some a=>rw [h.le a rfl];exact (k a).le b hb⟩
instance OL.cond {α:Type} {c:Bool} {x y x' y':Option α} [h1:OL x x'] [h2:OL y y']:OL (bif c then x else y) (bif c then x' else y'):=by
 cases c
 ·exact h2
 ·exact h1
theorem Up.go{P:Nat->Nat->Prop}(h0: ∀M,P 0 M)(hs: ∀n m [Up n m],P n m->P (n+1) (m+1)){N M:Nat}[h:Up N M]:P N M:=by
 have: ∀N M,N<=M->P N M:=by
  intro N
  induction N with
  |zero=>intro M _;exact h0 M
  |succ n ih=>
   intro M hM
   cases M with
   |zero=>exact absurd hM (Nat.not_succ_le_zero n)
   |succ m=>exact @hs n m ⟨Nat.le_of_succ_le_succ hM⟩ (ih m (Nat.le_of_succ_le_succ hM))
 exact this N M h.le
set_option linter.unusedVariables false
set_option synthInstance.maxHeartbeats 400000
set_option synthInstance.maxSize 4000
theorem AAQ{α0 β:Type}{f f':Nat->α0->Option β}(hs: ∀n m [Up n m] [∀y0,OL (f n y0) (f' m y0)] y0,OL (f (n+1) y0) (f' (m+1) y0))(h0: ∀y0,f 0 y0=none:=by intros;rfl){N M}[Up N M]{y0}:OL (f N y0) (f' M y0):=Up.go (P:=λN M=>∀y0,OL (f N y0) (f' M y0)) (λ_ _=>by rw [h0];exact .none) (λn m _ h=>@hs n m _ h) y0
theorem Vh{α0 α1 β:Type}{f f':Nat->α0->α1->Option β}(hs: ∀n m [Up n m] [∀y0 y1,OL (f n y0 y1) (f' m y0 y1)] y0 y1,OL (f (n+1) y0 y1) (f' (m+1) y0 y1))(h0: ∀y0 y1,f 0 y0 y1=none:=by intros;rfl){N M}[Up N M]{y0 y1}:OL (f N y0 y1) (f' M y0 y1):=Up.go (P:=λN M=>∀y0 y1,OL (f N y0 y1) (f' M y0 y1)) (λ_ _ _=>by rw [h0];exact .none) (λn m _ h=>@hs n m _ h) y0 y1
theorem ACn{α0 α1 α2 β:Type}{f f':Nat->α0->α1->α2->Option β}(hs: ∀n m [Up n m] [∀y0 y1 y2,OL (f n y0 y1 y2) (f' m y0 y1 y2)] y0 y1 y2,OL (f (n+1) y0 y1 y2) (f' (m+1) y0 y1 y2))(h0: ∀y0 y1 y2,f 0 y0 y1 y2=none:=by intros;rfl){N M}[Up N M]{y0 y1 y2}:OL (f N y0 y1 y2) (f' M y0 y1 y2):=Up.go (P:=λN M=>∀y0 y1 y2,OL (f N y0 y1 y2) (f' M y0 y1 y2)) (λ_ _ _ _=>by rw [h0];exact .none) (λn m _ h=>@hs n m _ h) y0 y1 y2
theorem ACo{α0 α1 α2 α3 β:Type}{f f':Nat->α0->α1->α2->α3->Option β}(hs: ∀n m [Up n m] [∀y0 y1 y2 y3,OL (f n y0 y1 y2 y3) (f' m y0 y1 y2 y3)] y0 y1 y2 y3,OL (f (n+1) y0 y1 y2 y3) (f' (m+1) y0 y1 y2 y3))(h0: ∀y0 y1 y2 y3,f 0 y0 y1 y2 y3=none:=by intros;rfl){N M}[Up N M]{y0 y1 y2 y3}:OL (f N y0 y1 y2 y3) (f' M y0 y1 y2 y3):=Up.go (P:=λN M=>∀y0 y1 y2 y3,OL (f N y0 y1 y2 y3) (f' M y0 y1 y2 y3)) (λ_ _ _ _ _=>by rw [h0];exact .none) (λn m _ h=>@hs n m _ h) y0 y1 y2 y3
instance {p0 p2} {s1 s1'} [∀x0,OL (s1 x0) (s1' x0)]:OL (Gk p0 s1 p2) (Gk p0 s1' p2):=by unfold Gk;infer_instance
instance {p0 p1 p3} {s2 s2'} [∀x0,OL (s2 x0) (s2' x0)]:OL (Gg p0 p1 s2 p3) (Gg p0 p1 s2' p3):=by unfold Gg;infer_instance
instance {p0 p1} {k j} [Up k j] {y0}:OL (E5 p0 p1 k y0) (E5 p0 p1 j y0):=AAQ λn m _ _ y0=>inferInstanceAs (OL (Gg p0 p1 (E5 p0 p1 n) y0) (Gg p0 p1 (E5 p0 p1 m) y0))
instance {p1 p2} {N M} [Up N M]:OL (Ip N p1 p2) (Ip M p1 p2):=by unfold Ip;infer_instance
instance {p0 p1 p2 p3 p5} {s4 s4'} [∀x0 x1,OL (s4 x0 x1) (s4' x0 x1)]:OL (FC p0 p1 p2 p3 s4 p5) (FC p0 p1 p2 p3 s4' p5):=by unfold FC;infer_instance
instance {p0 p1 p3 p4} {s2 s2'} [∀x0 x1,OL (s2 x0 x1) (s2' x0 x1)]:OL (FW p0 p1 s2 p3 p4) (FW p0 p1 s2' p3 p4):=by unfold FW;infer_instance
instance {p0 p1} {k j} [Up k j] {y0 y1}:OL (Ei p0 p1 k y0 y1) (Ei p0 p1 j y0 y1):=Vh λn m _ _ y0 y1=>inferInstanceAs (OL (FW p0 p1 (Ei p0 p1 n) y0 y1) (FW p0 p1 (Ei p0 p1 m) y0 y1))
instance {p1 p2} {N M} [Up N M]:OL (Iu N p1 p2) (Iu M p1 p2):=by unfold Iu;infer_instance
instance {p1 p2} {N M} [Up N M]:OL (Hq N p1 p2) (Hq M p1 p2):=by unfold Hq;infer_instance
instance {p1} {N M} [Up N M]:OL (FD N p1) (FD M p1):=by unfold FD;infer_instance
class BG.Le(φ ψ:BG):Prop where
 ref01_digits: ∀x0,OL (φ.ref01_digits x0) (ψ.ref01_digits x0)
attribute [instance] BG.Le.ref01_digits
instance {p2} {φ ψ} [BG.Le φ ψ] {N M} [Up N M]:OL (Da φ N p2) (Da ψ M p2):=by unfold Da;infer_instance
instance {N M} [Up N M]:BG.Le (BG.at N) (BG.at M):=Up.go (P:=λN M=>BG.Le (BG.at N) (BG.at M)) (λ_=>⟨λ_=> .none⟩) λn m _ _=>⟨λx0=>inferInstanceAs (OL (Da (BG.at n) n x0) (Da (BG.at m) m x0))⟩
instance {N M} [Up N M] {y0}:OL (ref01_digits N y0) (ref01_digits M y0):=BG.Le.ref01_digits _
instance {p1} {N M} [Up N M]:OL (GH N p1) (GH M p1):=by unfold GH;infer_instance
instance {p1 p2 p3} {N M} [Up N M]:OL (F3 N p1 p2 p3) (F3 M p1 p2 p3):=by unfold F3;infer_instance
instance {p1 p2 p3} {N M} [Up N M]:OL (Hs N p1 p2 p3) (Hs M p1 p2 p3):=by unfold Hs;infer_instance
instance {p1} {N M} [Up N M]:OL (Et N p1) (Et M p1):=by unfold Et;infer_instance
instance {p0 p1 p3} {s2 s2'} [∀x0,OL (s2 x0) (s2' x0)]:OL (D9 p0 p1 s2 p3) (D9 p0 p1 s2' p3):=by unfold D9;infer_instance
instance {p0 p1} {k j} [Up k j] {y0}:OL (Dt p0 p1 k y0) (Dt p0 p1 j y0):=AAQ λn m _ _ y0=>inferInstanceAs (OL (D9 p0 p1 (Dt p0 p1 n) y0) (D9 p0 p1 (Dt p0 p1 m) y0))
instance {p1} {N M} [Up N M]:OL (Du N p1) (Du M p1):=by unfold Du;infer_instance
instance {p1 p2 p3 p4 p5} {N M} [Up N M]:OL (Ia N p1 p2 p3 p4 p5) (Ia M p1 p2 p3 p4 p5):=by unfold Ia;infer_instance
instance {p1 p2 p3 p4 p5} {N M} [Up N M]:OL (Ib N p1 p2 p3 p4 p5) (Ib M p1 p2 p3 p4 p5):=by unfold Ib;infer_instance
instance {p1 p2} {N M} [Up N M]:OL (IE N p1 p2) (IE M p1 p2):=by unfold IE;infer_instance
instance {p0 p2 p4} {s1 s1'} [∀x0 x1,OL (s1 x0 x1) (s1' x0 x1)] {s3 s3'} [∀x0,OL (s3 x0) (s3' x0)]:OL (Ht p0 s1 p2 s3 p4) (Ht p0 s1' p2 s3' p4):=by unfold Ht;infer_instance
instance {p0 p1 p4} {s2 s2'} [∀x0 x1,OL (s2 x0 x1) (s2' x0 x1)] {s3 s3'} [∀x0,OL (s3 x0) (s3' x0)]:OL (FX p0 p1 s2 s3 p4) (FX p0 p1 s2' s3' p4):=by unfold FX;infer_instance
instance {p0 p1} {s2 s2'} [∀x0 x1,OL (s2 x0 x1) (s2' x0 x1)] {k j} [Up k j] {y0}:OL (FE p0 p1 s2 k y0) (FE p0 p1 s2' j y0):=AAQ λn m _ _ y0=>inferInstanceAs (OL (FX p0 p1 s2 (FE p0 p1 s2 n) y0) (FX p0 p1 s2' (FE p0 p1 s2' m) y0))
instance {p1 p3 p4} {N M} [Up N M] {s2 s2'} [∀x0 x1,OL (s2 x0 x1) (s2' x0 x1)]:OL (FY N p1 s2 p3 p4) (FY M p1 s2' p3 p4):=by unfold FY;infer_instance
instance {p1} {N M} [Up N M] {k j} [Up k j] {y0 y1}:OL (Dv N p1 k y0 y1) (Dv M p1 j y0 y1):=Vh λn m _ _ y0 y1=>inferInstanceAs (OL (FY N p1 (Dv N p1 n) y0 y1) (FY M p1 (Dv M p1 m) y0 y1))
instance {p1} {N M} [Up N M]:OL (GN N p1) (GN M p1):=by unfold GN;infer_instance
instance {p1 p2 p3 p4 p5 p6 p7 p8 p9 p10} {s0 s0'} [∀x0 x1 x2 x3 x4 x5 x6 x7 x8 x9,OL (s0 x0 x1 x2 x3 x4 x5 x6 x7 x8 x9) (s0' x0 x1 x2 x3 x4 x5 x6 x7 x8 x9)]:OL (DP s0 p1 p2 p3 p4 p5 p6 p7 p8 p9 p10) (DP s0' p1 p2 p3 p4 p5 p6 p7 p8 p9 p10):=by unfold DP;infer_instance
instance {k j} [Up k j] {y0 y1 y2 y3 y4 y5 y6 y7 y8 y9}:OL (CW k y0 y1 y2 y3 y4 y5 y6 y7 y8 y9) (CW j y0 y1 y2 y3 y4 y5 y6 y7 y8 y9):=Up.go (P:=λk j=>∀y0 y1 y2 y3 y4 y5 y6 y7 y8 y9,OL (CW k y0 y1 y2 y3 y4 y5 y6 y7 y8 y9) (CW j y0 y1 y2 y3 y4 y5 y6 y7 y8 y9)) (λ_ _ _ _ _ _ _ _ _ _ _=> .none) (λn m _ _ y0 y1 y2 y3 y4 y5 y6 y7 y8 y9=>inferInstanceAs (OL (DP (CW n) y0 y1 y2 y3 y4 y5 y6 y7 y8 y9) (DP (CW m) y0 y1 y2 y3 y4 y5 y6 y7 y8 y9))) y0 y1 y2 y3 y4 y5 y6 y7 y8 y9
instance {p1} {N M} [Up N M]:OL (CX N p1) (CX M p1):=by unfold CX;infer_instance
class AB.Le(φ ψ:AB):Prop where
 ref04_reader_expr: ∀x0,OL (φ.ref04_reader_expr x0) (ψ.ref04_reader_expr x0)
 ref04_reader_cons: ∀x0,OL (φ.ref04_reader_cons x0) (ψ.ref04_reader_cons x0)
 ref04_reader_parts: ∀x0 x1,OL (φ.ref04_reader_parts x0 x1) (ψ.ref04_reader_parts x0 x1)
 ref04_reader_branches: ∀x0 x1,OL (φ.ref04_reader_branches x0 x1) (ψ.ref04_reader_branches x0 x1)
 ref04_reader_comp: ∀x0,OL (φ.ref04_reader_comp x0) (ψ.ref04_reader_comp x0)
 ref04_reader_sum: ∀x0,OL (φ.ref04_reader_sum x0) (ψ.ref04_reader_sum x0)
 ref04_reader_term: ∀x0,OL (φ.ref04_reader_term x0) (ψ.ref04_reader_term x0)
 ref04_reader_unit: ∀x0,OL (φ.ref04_reader_unit x0) (ψ.ref04_reader_unit x0)
 ref04_reader_named: ∀x0 x1,OL (φ.ref04_reader_named x0 x1) (ψ.ref04_reader_named x0 x1)
attribute [instance] AB.Le.ref04_reader_expr AB.Le.ref04_reader_cons AB.Le.ref04_reader_parts AB.Le.ref04_reader_branches AB.Le.ref04_reader_comp AB.Le.ref04_reader_sum AB.Le.ref04_reader_term AB.Le.ref04_reader_unit AB.Le.ref04_reader_named
instance {p2 p3 p4 p5 p6 p7 p8 p9 p10 p11 p12 p13} {φ ψ} [AB.Le φ ψ] {N M} [Up N M]:OL (Dw φ N p2 p3 p4 p5 p6 p7 p8 p9 p10 p11 p12 p13) (Dw ψ M p2 p3 p4 p5 p6 p7 p8 p9 p10 p11 p12 p13):=by unfold Dw;infer_instance
instance {p2 p3 p4 p5 p6 p7 p8 p9 p10 p11 p12} {φ ψ} [AB.Le φ ψ] {N M} [Up N M]:OL (Dx φ N p2 p3 p4 p5 p6 p7 p8 p9 p10 p11 p12) (Dx ψ M p2 p3 p4 p5 p6 p7 p8 p9 p10 p11 p12):=by unfold Dx;infer_instance
instance {p2 p3 p4 p5 p6 p7 p8 p9 p10 p11 p12 p13} {φ ψ} [AB.Le φ ψ] {N M} [Up N M]:OL (Dy φ N p2 p3 p4 p5 p6 p7 p8 p9 p10 p11 p12 p13) (Dy ψ M p2 p3 p4 p5 p6 p7 p8 p9 p10 p11 p12 p13):=by unfold Dy;infer_instance
instance {p2 p3 p4 p5 p6 p7 p8 p9 p10 p11 p12} {φ ψ} [AB.Le φ ψ] {N M} [Up N M]:OL (Dz φ N p2 p3 p4 p5 p6 p7 p8 p9 p10 p11 p12) (Dz ψ M p2 p3 p4 p5 p6 p7 p8 p9 p10 p11 p12):=by unfold Dz;infer_instance
instance {p2 p3 p4 p5} {φ ψ} [AB.Le φ ψ] {N M} [Up N M]:OL (D0 φ N p2 p3 p4 p5) (D0 ψ M p2 p3 p4 p5):=by unfold D0;infer_instance
instance {p2 p3 p4} {φ ψ} [AB.Le φ ψ] {N M} [Up N M]:OL (DQ φ N p2 p3 p4) (DQ ψ M p2 p3 p4):=by unfold DQ;infer_instance
instance {p2} {φ ψ} [AB.Le φ ψ] {N M} [Up N M]:OL (DE φ N p2) (DE ψ M p2):=by unfold DE;infer_instance
instance {p2} {φ ψ} [AB.Le φ ψ] {N M} [Up N M]:OL (DF φ N p2) (DF ψ M p2):=by unfold DF;infer_instance
instance {p1 p2 p4 p5 p6 p7 p8 p9 p10 p11 p12} {φ ψ} [AB.Le φ ψ] {s3 s3'} [∀x0 x1 x2 x3 x4 x5 x6 x7 x8 x9 x10,OL (s3 x0 x1 x2 x3 x4 x5 x6 x7 x8 x9 x10) (s3' x0 x1 x2 x3 x4 x5 x6 x7 x8 x9 x10)]:OL (Dg φ p1 p2 s3 p4 p5 p6 p7 p8 p9 p10 p11 p12) (Dg ψ p1 p2 s3' p4 p5 p6 p7 p8 p9 p10 p11 p12):=by unfold Dg;infer_instance
instance {p1 p3 p4 p5 p6 p7 p8 p9 p10 p11 p12 p13} {φ ψ} [AB.Le φ ψ] {s2 s2'} [∀x0 x1 x2 x3 x4 x5 x6 x7 x8 x9 x10,OL (s2 x0 x1 x2 x3 x4 x5 x6 x7 x8 x9 x10) (s2' x0 x1 x2 x3 x4 x5 x6 x7 x8 x9 x10)]:OL (Cq φ p1 s2 p3 p4 p5 p6 p7 p8 p9 p10 p11 p12 p13) (Cq ψ p1 s2' p3 p4 p5 p6 p7 p8 p9 p10 p11 p12 p13):=by unfold Cq;infer_instance
instance {p1} {φ ψ} [AB.Le φ ψ] {k j} [Up k j] {y0 y1 y2 y3 y4 y5 y6 y7 y8 y9 y10}:OL (B3 φ p1 k y0 y1 y2 y3 y4 y5 y6 y7 y8 y9 y10) (B3 ψ p1 j y0 y1 y2 y3 y4 y5 y6 y7 y8 y9 y10):=Up.go (P:=λk j=>∀y0 y1 y2 y3 y4 y5 y6 y7 y8 y9 y10,OL (B3 φ p1 k y0 y1 y2 y3 y4 y5 y6 y7 y8 y9 y10) (B3 ψ p1 j y0 y1 y2 y3 y4 y5 y6 y7 y8 y9 y10)) (λ_ _ _ _ _ _ _ _ _ _ _ _=> .none) (λn m _ _ y0 y1 y2 y3 y4 y5 y6 y7 y8 y9 y10=>inferInstanceAs (OL (Cq φ p1 (B3 φ p1 n) y0 y1 y2 y3 y4 y5 y6 y7 y8 y9 y10) (Cq ψ p1 (B3 ψ p1 m) y0 y1 y2 y3 y4 y5 y6 y7 y8 y9 y10))) y0 y1 y2 y3 y4 y5 y6 y7 y8 y9 y10
instance {p2 p3} {φ ψ} [AB.Le φ ψ] {N M} [Up N M]:OL (Ct φ N p2 p3) (Ct ψ M p2 p3):=by unfold Ct;infer_instance
instance {p2 p3} {φ ψ} [AB.Le φ ψ] {N M} [Up N M]:OL (CM φ N p2 p3) (CM ψ M p2 p3):=by unfold CM;infer_instance
instance {p1 p2 p3 p4 p5 p6 p7 p8 p9 p10 p11 p12 p13} {φ ψ} [AB.Le φ ψ]:OL (EY φ p1 p2 p3 p4 p5 p6 p7 p8 p9 p10 p11 p12 p13) (EY ψ p1 p2 p3 p4 p5 p6 p7 p8 p9 p10 p11 p12 p13):=by unfold EY;infer_instance
instance {p1 p2 p3} {φ ψ} [AB.Le φ ψ]:OL (D1 φ p1 p2 p3) (D1 ψ p1 p2 p3):=by unfold D1;infer_instance
instance {p2} {φ ψ} [AB.Le φ ψ] {N M} [Up N M]:OL (DG φ N p2) (DG ψ M p2):=by unfold DG;infer_instance
instance {p0 p1 p2 p3 p4 p5 p6 p8 p9 p10} {s7 s7'} [∀x0 x1 x2 x3 x4 x5 x6 x7 x8 x9 x10 x11 x12 x13 x14 x15,OL (s7 x0 x1 x2 x3 x4 x5 x6 x7 x8 x9 x10 x11 x12 x13 x14 x15) (s7' x0 x1 x2 x3 x4 x5 x6 x7 x8 x9 x10 x11 x12 x13 x14 x15)]:OL (EM p0 p1 p2 p3 p4 p5 p6 s7 p8 p9 p10) (EM p0 p1 p2 p3 p4 p5 p6 s7' p8 p9 p10):=by unfold EM;infer_instance
instance {p1 p2 p3 p4 p5 p6 p7 p8 p9 p10 p11 p12 p13 p14 p15 p16 p18} {φ ψ} [AB.Le φ ψ] {s17 s17'} [∀x0 x1 x2 x3 x4 x5 x6 x7 x8 x9 x10 x11 x12 x13 x14 x15,OL (s17 x0 x1 x2 x3 x4 x5 x6 x7 x8 x9 x10 x11 x12 x13 x14 x15) (s17' x0 x1 x2 x3 x4 x5 x6 x7 x8 x9 x10 x11 x12 x13 x14 x15)]:OL (EN φ p1 p2 p3 p4 p5 p6 p7 p8 p9 p10 p11 p12 p13 p14 p15 p16 s17 p18) (EN ψ p1 p2 p3 p4 p5 p6 p7 p8 p9 p10 p11 p12 p13 p14 p15 p16 s17' p18):=by unfold EN;infer_instance
instance {p2 p3 p4 p5 p6 p7 p8 p9 p10 p11 p12 p13 p14 p15 p16 p17} {φ ψ} [AB.Le φ ψ] {s1 s1'} [∀x0 x1 x2 x3 x4 x5 x6 x7 x8 x9 x10 x11 x12 x13 x14 x15,OL (s1 x0 x1 x2 x3 x4 x5 x6 x7 x8 x9 x10 x11 x12 x13 x14 x15) (s1' x0 x1 x2 x3 x4 x5 x6 x7 x8 x9 x10 x11 x12 x13 x14 x15)]:OL (DR φ s1 p2 p3 p4 p5 p6 p7 p8 p9 p10 p11 p12 p13 p14 p15 p16 p17) (DR ψ s1' p2 p3 p4 p5 p6 p7 p8 p9 p10 p11 p12 p13 p14 p15 p16 p17):=by unfold DR;infer_instance
instance {φ ψ} [AB.Le φ ψ] {k j} [Up k j] {y0 y1 y2 y3 y4 y5 y6 y7 y8 y9 y10 y11 y12 y13 y14 y15}:OL (CB φ k y0 y1 y2 y3 y4 y5 y6 y7 y8 y9 y10 y11 y12 y13 y14 y15) (CB ψ j y0 y1 y2 y3 y4 y5 y6 y7 y8 y9 y10 y11 y12 y13 y14 y15):=Up.go (P:=λk j=>∀y0 y1 y2 y3 y4 y5 y6 y7 y8 y9 y10 y11 y12 y13 y14 y15,OL (CB φ k y0 y1 y2 y3 y4 y5 y6 y7 y8 y9 y10 y11 y12 y13 y14 y15) (CB ψ j y0 y1 y2 y3 y4 y5 y6 y7 y8 y9 y10 y11 y12 y13 y14 y15)) (λ_ _ _ _ _ _ _ _ _ _ _ _ _ _ _ _ _=> .none) (λn m _ _ y0 y1 y2 y3 y4 y5 y6 y7 y8 y9 y10 y11 y12 y13 y14 y15=>inferInstanceAs (OL (DR φ (CB φ n) y0 y1 y2 y3 y4 y5 y6 y7 y8 y9 y10 y11 y12 y13 y14 y15) (DR ψ (CB ψ m) y0 y1 y2 y3 y4 y5 y6 y7 y8 y9 y10 y11 y12 y13 y14 y15))) y0 y1 y2 y3 y4 y5 y6 y7 y8 y9 y10 y11 y12 y13 y14 y15
instance {p2} {φ ψ} [AB.Le φ ψ] {N M} [Up N M]:OL (Db φ N p2) (Db ψ M p2):=by unfold Db;infer_instance
instance {p0 p1 p2 p3 p4 p5 p6 p8 p9 p10} {s7 s7'} [∀x0 x1 x2 x3 x4 x5 x6 x7 x8 x9 x10 x11 x12 x13 x14 x15,OL (s7 x0 x1 x2 x3 x4 x5 x6 x7 x8 x9 x10 x11 x12 x13 x14 x15) (s7' x0 x1 x2 x3 x4 x5 x6 x7 x8 x9 x10 x11 x12 x13 x14 x15)]:OL (D2 p0 p1 p2 p3 p4 p5 p6 s7 p8 p9 p10) (D2 p0 p1 p2 p3 p4 p5 p6 s7' p8 p9 p10):=by unfold D2;infer_instance
instance {p1 p2 p3 p4 p5 p6 p7 p8 p9 p10 p11 p12 p13 p14 p15 p16 p18} {φ ψ} [AB.Le φ ψ] {s17 s17'} [∀x0 x1 x2 x3 x4 x5 x6 x7 x8 x9 x10 x11 x12 x13 x14 x15,OL (s17 x0 x1 x2 x3 x4 x5 x6 x7 x8 x9 x10 x11 x12 x13 x14 x15) (s17' x0 x1 x2 x3 x4 x5 x6 x7 x8 x9 x10 x11 x12 x13 x14 x15)]:OL (D3 φ p1 p2 p3 p4 p5 p6 p7 p8 p9 p10 p11 p12 p13 p14 p15 p16 s17 p18) (D3 ψ p1 p2 p3 p4 p5 p6 p7 p8 p9 p10 p11 p12 p13 p14 p15 p16 s17' p18):=by unfold D3;infer_instance
instance {p2 p3 p4 p5 p6 p7 p8 p9 p10 p11 p12 p13 p14 p15 p16 p17} {φ ψ} [AB.Le φ ψ] {s1 s1'} [∀x0 x1 x2 x3 x4 x5 x6 x7 x8 x9 x10 x11 x12 x13 x14 x15,OL (s1 x0 x1 x2 x3 x4 x5 x6 x7 x8 x9 x10 x11 x12 x13 x14 x15) (s1' x0 x1 x2 x3 x4 x5 x6 x7 x8 x9 x10 x11 x12 x13 x14 x15)]:OL (DB φ s1 p2 p3 p4 p5 p6 p7 p8 p9 p10 p11 p12 p13 p14 p15 p16 p17) (DB ψ s1' p2 p3 p4 p5 p6 p7 p8 p9 p10 p11 p12 p13 p14 p15 p16 p17):=by unfold DB;infer_instance
instance {φ ψ} [AB.Le φ ψ] {k j} [Up k j] {y0 y1 y2 y3 y4 y5 y6 y7 y8 y9 y10 y11 y12 y13 y14 y15}:OL (B0 φ k y0 y1 y2 y3 y4 y5 y6 y7 y8 y9 y10 y11 y12 y13 y14 y15) (B0 ψ j y0 y1 y2 y3 y4 y5 y6 y7 y8 y9 y10 y11 y12 y13 y14 y15):=Up.go (P:=λk j=>∀y0 y1 y2 y3 y4 y5 y6 y7 y8 y9 y10 y11 y12 y13 y14 y15,OL (B0 φ k y0 y1 y2 y3 y4 y5 y6 y7 y8 y9 y10 y11 y12 y13 y14 y15) (B0 ψ j y0 y1 y2 y3 y4 y5 y6 y7 y8 y9 y10 y11 y12 y13 y14 y15)) (λ_ _ _ _ _ _ _ _ _ _ _ _ _ _ _ _ _=> .none) (λn m _ _ y0 y1 y2 y3 y4 y5 y6 y7 y8 y9 y10 y11 y12 y13 y14 y15=>inferInstanceAs (OL (DB φ (B0 φ n) y0 y1 y2 y3 y4 y5 y6 y7 y8 y9 y10 y11 y12 y13 y14 y15) (DB ψ (B0 ψ m) y0 y1 y2 y3 y4 y5 y6 y7 y8 y9 y10 y11 y12 y13 y14 y15))) y0 y1 y2 y3 y4 y5 y6 y7 y8 y9 y10 y11 y12 y13 y14 y15
instance {p2} {φ ψ} [AB.Le φ ψ] {N M} [Up N M]:OL (DH φ N p2) (DH ψ M p2):=by unfold DH;infer_instance
instance {p1 p2 p3 p4 p5 p6 p7 p8} {φ ψ} [AB.Le φ ψ]:OL (CZ φ p1 p2 p3 p4 p5 p6 p7 p8) (CZ ψ p1 p2 p3 p4 p5 p6 p7 p8):=by unfold CZ;infer_instance
instance {p2 p3 p4 p5 p6 p7 p8} {φ ψ} [AB.Le φ ψ] {N M} [Up N M]:OL (FG φ N p2 p3 p4 p5 p6 p7 p8) (FG ψ M p2 p3 p4 p5 p6 p7 p8):=by unfold FG;infer_instance
instance {p2 p3 p4} {φ ψ} [AB.Le φ ψ] {N M} [Up N M]:OL (DS φ N p2 p3 p4) (DS ψ M p2 p3 p4):=by unfold DS;infer_instance
instance {p2} {φ ψ} [AB.Le φ ψ] {N M} [Up N M]:OL (DI φ N p2) (DI ψ M p2):=by unfold DI;infer_instance
instance {p1 p3 p4 p5 p6 p7 p8 p9 p10 p11} {φ ψ} [AB.Le φ ψ] {s2 s2'} [∀x0 x1 x2 x3 x4 x5 x6 x7 x8 x9,OL (s2 x0 x1 x2 x3 x4 x5 x6 x7 x8 x9) (s2' x0 x1 x2 x3 x4 x5 x6 x7 x8 x9)]:OL (Dh φ p1 s2 p3 p4 p5 p6 p7 p8 p9 p10 p11) (Dh ψ p1 s2' p3 p4 p5 p6 p7 p8 p9 p10 p11):=by unfold Dh;infer_instance
instance {p1 p2 p3 p4 p5 p6 p7 p8 p9 p10 p11 p13} {φ ψ} [AB.Le φ ψ] {s12 s12'} [∀x0 x1 x2 x3 x4 x5 x6 x7 x8 x9,OL (s12 x0 x1 x2 x3 x4 x5 x6 x7 x8 x9) (s12' x0 x1 x2 x3 x4 x5 x6 x7 x8 x9)]:OL (Di φ p1 p2 p3 p4 p5 p6 p7 p8 p9 p10 p11 s12 p13) (Di ψ p1 p2 p3 p4 p5 p6 p7 p8 p9 p10 p11 s12' p13):=by unfold Di;infer_instance
instance {p1 p3 p4 p5 p6 p7 p8 p9 p10 p11 p12} {φ ψ} [AB.Le φ ψ] {s2 s2'} [∀x0 x1 x2 x3 x4 x5 x6 x7 x8 x9,OL (s2 x0 x1 x2 x3 x4 x5 x6 x7 x8 x9) (s2' x0 x1 x2 x3 x4 x5 x6 x7 x8 x9)]:OL (Cr φ p1 s2 p3 p4 p5 p6 p7 p8 p9 p10 p11 p12) (Cr ψ p1 s2' p3 p4 p5 p6 p7 p8 p9 p10 p11 p12):=by unfold Cr;infer_instance
instance {p1} {φ ψ} [AB.Le φ ψ] {k j} [Up k j] {y0 y1 y2 y3 y4 y5 y6 y7 y8 y9}:OL (Bt φ p1 k y0 y1 y2 y3 y4 y5 y6 y7 y8 y9) (Bt ψ p1 j y0 y1 y2 y3 y4 y5 y6 y7 y8 y9):=Up.go (P:=λk j=>∀y0 y1 y2 y3 y4 y5 y6 y7 y8 y9,OL (Bt φ p1 k y0 y1 y2 y3 y4 y5 y6 y7 y8 y9) (Bt ψ p1 j y0 y1 y2 y3 y4 y5 y6 y7 y8 y9)) (λ_ _ _ _ _ _ _ _ _ _ _=> .none) (λn m _ _ y0 y1 y2 y3 y4 y5 y6 y7 y8 y9=>inferInstanceAs (OL (Cr φ p1 (Bt φ p1 n) y0 y1 y2 y3 y4 y5 y6 y7 y8 y9) (Cr ψ p1 (Bt ψ p1 m) y0 y1 y2 y3 y4 y5 y6 y7 y8 y9))) y0 y1 y2 y3 y4 y5 y6 y7 y8 y9
instance {p2 p3} {φ ψ} [AB.Le φ ψ] {N M} [Up N M]:OL (Cu φ N p2 p3) (Cu ψ M p2 p3):=by unfold Cu;infer_instance
instance {N M} [Up N M]:AB.Le (AB.at N) (AB.at M):=Up.go (P:=λN M=>AB.Le (AB.at N) (AB.at M)) (λ_=>⟨λ_=> .none,λ_=> .none,λ_ _=> .none,λ_ _=> .none,λ_=> .none,λ_=> .none,λ_=> .none,λ_=> .none,λ_ _=> .none⟩) λn m _ _=>⟨λx0=>inferInstanceAs (OL (DE (AB.at n) n x0) (DE (AB.at m) m x0)),λx0=>inferInstanceAs (OL (DF (AB.at n) n x0) (DF (AB.at m) m x0)),λx0 x1=>inferInstanceAs (OL (Ct (AB.at n) n x0 x1) (Ct (AB.at m) m x0 x1)),λx0 x1=>inferInstanceAs (OL (CM (AB.at n) n x0 x1) (CM (AB.at m) m x0 x1)),λx0=>inferInstanceAs (OL (DG (AB.at n) n x0) (DG (AB.at m) m x0)),λx0=>inferInstanceAs (OL (Db (AB.at n) n x0) (Db (AB.at m) m x0)),λx0=>inferInstanceAs (OL (DH (AB.at n) n x0) (DH (AB.at m) m x0)),λx0=>inferInstanceAs (OL (DI (AB.at n) n x0) (DI (AB.at m) m x0)),λx0 x1=>inferInstanceAs (OL (Cu (AB.at n) n x0 x1) (Cu (AB.at m) m x0 x1))⟩
instance {N M} [Up N M] {y0}:OL (ref04_reader_expr N y0) (ref04_reader_expr M y0):=AB.Le.ref04_reader_expr _
instance {N M} [Up N M] {y0}:OL (ref04_reader_cons N y0) (ref04_reader_cons M y0):=AB.Le.ref04_reader_cons _
instance {N M} [Up N M] {y0 y1}:OL (ref04_reader_parts N y0 y1) (ref04_reader_parts M y0 y1):=AB.Le.ref04_reader_parts _ _
instance {N M} [Up N M] {y0 y1}:OL (ref04_reader_branches N y0 y1) (ref04_reader_branches M y0 y1):=AB.Le.ref04_reader_branches _ _
instance {N M} [Up N M] {y0}:OL (ref04_reader_comp N y0) (ref04_reader_comp M y0):=AB.Le.ref04_reader_comp _
instance {N M} [Up N M] {y0}:OL (ref04_reader_sum N y0) (ref04_reader_sum M y0):=AB.Le.ref04_reader_sum _
instance {N M} [Up N M] {y0}:OL (ref04_reader_term N y0) (ref04_reader_term M y0):=AB.Le.ref04_reader_term _
instance {N M} [Up N M] {y0}:OL (ref04_reader_unit N y0) (ref04_reader_unit M y0):=AB.Le.ref04_reader_unit _
instance {N M} [Up N M] {y0 y1}:OL (ref04_reader_named N y0 y1) (ref04_reader_named M y0 y1):=AB.Le.ref04_reader_named _ _
instance {p1 p3 p4 p5 p6 p7 p8 p9 p10 p11} {N M} [Up N M] {s2 s2'} [∀x0 x1 x2 x3 x4 x5 x6 x7 x8 x9,OL (s2 x0 x1 x2 x3 x4 x5 x6 x7 x8 x9) (s2' x0 x1 x2 x3 x4 x5 x6 x7 x8 x9)]:OL (EO N p1 s2 p3 p4 p5 p6 p7 p8 p9 p10 p11) (EO M p1 s2' p3 p4 p5 p6 p7 p8 p9 p10 p11):=by unfold EO;infer_instance
instance {p1 p3 p4 p5 p6 p7 p8 p9 p10 p11 p12} {N M} [Up N M] {s2 s2'} [∀x0 x1 x2 x3 x4 x5 x6 x7 x8 x9,OL (s2 x0 x1 x2 x3 x4 x5 x6 x7 x8 x9) (s2' x0 x1 x2 x3 x4 x5 x6 x7 x8 x9)]:OL (Dn N p1 s2 p3 p4 p5 p6 p7 p8 p9 p10 p11 p12) (Dn M p1 s2' p3 p4 p5 p6 p7 p8 p9 p10 p11 p12):=by unfold Dn;infer_instance
instance {p1 p3 p4 p5 p6 p7 p8 p9 p10 p11} {N M} [Up N M] {s2 s2'} [∀x0 x1 x2 x3 x4 x5 x6 x7 x8 x9,OL (s2 x0 x1 x2 x3 x4 x5 x6 x7 x8 x9) (s2' x0 x1 x2 x3 x4 x5 x6 x7 x8 x9)]:OL (EQ N p1 s2 p3 p4 p5 p6 p7 p8 p9 p10 p11) (EQ M p1 s2' p3 p4 p5 p6 p7 p8 p9 p10 p11):=by unfold EQ;infer_instance
instance {p1 p2 p3 p4 p5 p6 p7 p8 p9 p10 p11 p13} {N M} [Up N M] {s12 s12'} [∀x0 x1 x2 x3 x4 x5 x6 x7 x8 x9,OL (s12 x0 x1 x2 x3 x4 x5 x6 x7 x8 x9) (s12' x0 x1 x2 x3 x4 x5 x6 x7 x8 x9)]:OL (Do N p1 p2 p3 p4 p5 p6 p7 p8 p9 p10 p11 s12 p13) (Do M p1 p2 p3 p4 p5 p6 p7 p8 p9 p10 p11 s12' p13):=by unfold Do;infer_instance
instance {p1 p3 p4 p5 p6 p7 p8 p9 p10 p11 p12} {N M} [Up N M] {s2 s2'} [∀x0 x1 x2 x3 x4 x5 x6 x7 x8 x9,OL (s2 x0 x1 x2 x3 x4 x5 x6 x7 x8 x9) (s2' x0 x1 x2 x3 x4 x5 x6 x7 x8 x9)]:OL (DT N p1 s2 p3 p4 p5 p6 p7 p8 p9 p10 p11 p12) (DT M p1 s2' p3 p4 p5 p6 p7 p8 p9 p10 p11 p12):=by unfold DT;infer_instance
instance {p1} {N M} [Up N M] {k j} [Up k j] {y0 y1 y2 y3 y4 y5 y6 y7 y8 y9}:OL (Bq N p1 k y0 y1 y2 y3 y4 y5 y6 y7 y8 y9) (Bq M p1 j y0 y1 y2 y3 y4 y5 y6 y7 y8 y9):=Up.go (P:=λk j=>∀y0 y1 y2 y3 y4 y5 y6 y7 y8 y9,OL (Bq N p1 k y0 y1 y2 y3 y4 y5 y6 y7 y8 y9) (Bq M p1 j y0 y1 y2 y3 y4 y5 y6 y7 y8 y9)) (λ_ _ _ _ _ _ _ _ _ _ _=> .none) (λn m _ _ y0 y1 y2 y3 y4 y5 y6 y7 y8 y9=>inferInstanceAs (OL (DT N p1 (Bq N p1 n) y0 y1 y2 y3 y4 y5 y6 y7 y8 y9) (DT M p1 (Bq M p1 m) y0 y1 y2 y3 y4 y5 y6 y7 y8 y9))) y0 y1 y2 y3 y4 y5 y6 y7 y8 y9
instance {p1 p2 p3 p4 p5 p6 p7 p8 p9} {N M} [Up N M]:OL (ER N p1 p2 p3 p4 p5 p6 p7 p8 p9) (ER M p1 p2 p3 p4 p5 p6 p7 p8 p9):=by unfold ER;infer_instance
instance {p1 p2} {N M} [Up N M]:OL (ES N p1 p2) (ES M p1 p2):=by unfold ES;infer_instance
instance {p1 p2} {N M} [Up N M]:OL (C9 N p1 p2) (C9 M p1 p2):=by unfold C9;infer_instance
instance {p1 p2 p3 p4 p5 p6 p7 p8 p9 p10 p12} {N M} [Up N M] {s11 s11'} [∀x0 x1 x2 x3 x4 x5 x6 x7 x8 x9,OL (s11 x0 x1 x2 x3 x4 x5 x6 x7 x8 x9) (s11' x0 x1 x2 x3 x4 x5 x6 x7 x8 x9)]:OL (CN N p1 p2 p3 p4 p5 p6 p7 p8 p9 p10 s11 p12) (CN M p1 p2 p3 p4 p5 p6 p7 p8 p9 p10 s11' p12):=by unfold CN;infer_instance
instance {p2 p3 p4 p5 p6 p7 p8 p9 p10 p11} {N M} [Up N M] {s1 s1'} [∀x0 x1 x2 x3 x4 x5 x6 x7 x8 x9,OL (s1 x0 x1 x2 x3 x4 x5 x6 x7 x8 x9) (s1' x0 x1 x2 x3 x4 x5 x6 x7 x8 x9)]:OL (CT N s1 p2 p3 p4 p5 p6 p7 p8 p9 p10 p11) (CT M s1' p2 p3 p4 p5 p6 p7 p8 p9 p10 p11):=by unfold CT;infer_instance
instance {N M} [Up N M] {k j} [Up k j] {y0 y1 y2 y3 y4 y5 y6 y7 y8 y9}:OL (Bg N k y0 y1 y2 y3 y4 y5 y6 y7 y8 y9) (Bg M j y0 y1 y2 y3 y4 y5 y6 y7 y8 y9):=Up.go (P:=λk j=>∀y0 y1 y2 y3 y4 y5 y6 y7 y8 y9,OL (Bg N k y0 y1 y2 y3 y4 y5 y6 y7 y8 y9) (Bg M j y0 y1 y2 y3 y4 y5 y6 y7 y8 y9)) (λ_ _ _ _ _ _ _ _ _ _ _=> .none) (λn m _ _ y0 y1 y2 y3 y4 y5 y6 y7 y8 y9=>inferInstanceAs (OL (CT N (Bg N n) y0 y1 y2 y3 y4 y5 y6 y7 y8 y9) (CT M (Bg M m) y0 y1 y2 y3 y4 y5 y6 y7 y8 y9))) y0 y1 y2 y3 y4 y5 y6 y7 y8 y9
instance {p1} {N M} [Up N M]:OL (CF N p1) (CF M p1):=by unfold CF;infer_instance
instance {p1 p2} {N M} [Up N M]:OL (Fy N p1 p2) (Fy M p1 p2):=by unfold Fy;infer_instance
instance {p0 p2 p3} {s1 s1'} [∀x0 x1 x2,OL (s1 x0 x1 x2) (s1' x0 x1 x2)]:OL (Hv p0 s1 p2 p3) (Hv p0 s1' p2 p3):=by unfold Hv;infer_instance
instance {p0 p2} {s1 s1'} [∀x0 x1 x2,OL (s1 x0 x1 x2) (s1' x0 x1 x2)]:OL (Hw p0 s1 p2) (Hw p0 s1' p2):=by unfold Hw;infer_instance
instance {p0 p1 p2 p3 p5} {s4 s4'} [∀x0 x1 x2,OL (s4 x0 x1 x2) (s4' x0 x1 x2)]:OL (Gl p0 p1 p2 p3 s4 p5) (Gl p0 p1 p2 p3 s4' p5):=by unfold Gl;infer_instance
instance {p0 p2 p3 p4} {s1 s1'} [∀x0 x1 x2,OL (s1 x0 x1 x2) (s1' x0 x1 x2)]:OL (FZ p0 s1 p2 p3 p4) (FZ p0 s1' p2 p3 p4):=by unfold FZ;infer_instance
instance {p0} {k j} [Up k j] {y0 y1 y2}:OL (Ej p0 k y0 y1 y2) (Ej p0 j y0 y1 y2):=ACn λn m _ _ y0 y1 y2=>inferInstanceAs (OL (FZ p0 (Ej p0 n) y0 y1 y2) (FZ p0 (Ej p0 m) y0 y1 y2))
instance {p1} {N M} [Up N M]:OL (GQ N p1) (GQ M p1):=by unfold GQ;infer_instance
instance {p0 p2} {s1 s1'} [∀x0 x1,OL (s1 x0 x1) (s1' x0 x1)]:OL (Hx p0 s1 p2) (Hx p0 s1' p2):=by unfold Hx;infer_instance
instance {p0 p2 p3} {s1 s1'} [∀x0 x1,OL (s1 x0 x1) (s1' x0 x1)]:OL (Fa p0 s1 p2 p3) (Fa p0 s1' p2 p3):=by unfold Fa;infer_instance
instance {p0} {k j} [Up k j] {y0 y1}:OL (FH p0 k y0 y1) (FH p0 j y0 y1):=Vh λn m _ _ y0 y1=>inferInstanceAs (OL (Fa p0 (FH p0 n) y0 y1) (Fa p0 (FH p0 m) y0 y1))
instance {p1} {N M} [Up N M]:OL (CO N p1) (CO M p1):=by unfold CO;infer_instance
instance {p1} {N M} [Up N M]:OL (Eb N p1) (Eb M p1):=by unfold Eb;infer_instance
instance {p1 p2 p4} {N M} [Up N M] {s3 s3'} [∀x0 x1,OL (s3 x0 x1) (s3' x0 x1)]:OL (Hg N p1 p2 s3 p4) (Hg M p1 p2 s3' p4):=by unfold Hg;infer_instance
instance {p1 p3 p4} {N M} [Up N M] {s2 s2'} [∀x0 x1,OL (s2 x0 x1) (s2' x0 x1)]:OL (F5 N p1 s2 p3 p4) (F5 M p1 s2' p3 p4):=by unfold F5;infer_instance
instance {p1} {N M} [Up N M] {k j} [Up k j] {y0 y1}:OL (Fb N p1 k y0 y1) (Fb M p1 j y0 y1):=Vh λn m _ _ y0 y1=>inferInstanceAs (OL (F5 N p1 (Fb N p1 n) y0 y1) (F5 M p1 (Fb M p1 m) y0 y1))
instance {p1} {N M} [Up N M]:OL (Gq N p1) (Gq M p1):=by unfold Gq;infer_instance
instance {p1 p2 p4 p5 p6 p7} {N M} [Up N M] {s3 s3'} [∀x0 x1 x2 x3,OL (s3 x0 x1 x2 x3) (s3' x0 x1 x2 x3)]:OL (Fc N p1 p2 s3 p4 p5 p6 p7) (Fc M p1 p2 s3' p4 p5 p6 p7):=by unfold Fc;infer_instance
instance {p1 p2} {N M} [Up N M] {k j} [Up k j] {y0 y1 y2 y3}:OL (FI N p1 p2 k y0 y1 y2 y3) (FI M p1 p2 j y0 y1 y2 y3):=ACo λn m _ _ y0 y1 y2 y3=>inferInstanceAs (OL (Fc N p1 p2 (FI N p1 p2 n) y0 y1 y2 y3) (Fc M p1 p2 (FI M p1 p2 m) y0 y1 y2 y3))
instance {p1 p2 p3} {N M} [Up N M]:OL (F6 N p1 p2 p3) (F6 M p1 p2 p3):=by unfold F6;infer_instance
instance {p1 p2} {N M} [Up N M]:OL (Gs N p1 p2) (Gs M p1 p2):=by unfold Gs;infer_instance
instance {p1} {N M} [Up N M]:OL (Hy N p1) (Hy M p1):=by unfold Hy;infer_instance
instance {p0 p2} {s1 s1'} [∀x0 x1,OL (s1 x0 x1) (s1' x0 x1)]:OL (Hz p0 s1 p2) (Hz p0 s1' p2):=by unfold Hz;infer_instance
instance {p1 p2 p3 p5 p6 p8} {N M} [Up N M] {s4 s4'} [∀x0 x1,OL (s4 x0 x1) (s4' x0 x1)] {s7 s7'} [∀x0 x1,OL (s7 x0 x1) (s7' x0 x1)]:OL (Ek N p1 p2 p3 s4 p5 p6 s7 p8) (Ek M p1 p2 p3 s4' p5 p6 s7' p8):=by unfold Ek;infer_instance
instance {p1 p2 p3 p6 p7} {N M} [Up N M] {s4 s4'} [∀x0 x1,OL (s4 x0 x1) (s4' x0 x1)] {s5 s5'} [∀x0 x1,OL (s5 x0 x1) (s5' x0 x1)]:OL (Fe N p1 p2 p3 s4 s5 p6 p7) (Fe M p1 p2 p3 s4' s5' p6 p7):=by unfold Fe;infer_instance
instance {p1 p2 p3} {N M} [Up N M] {s4 s4'} [∀x0 x1,OL (s4 x0 x1) (s4' x0 x1)] {k j} [Up k j] {y0 y1}:OL (EV N p1 p2 p3 s4 k y0 y1) (EV M p1 p2 p3 s4' j y0 y1):=Vh λn m _ _ y0 y1=>inferInstanceAs (OL (Fe N p1 p2 p3 s4 (EV N p1 p2 p3 s4 n) y0 y1) (Fe M p1 p2 p3 s4' (EV M p1 p2 p3 s4' m) y0 y1))
instance {p1 p3 p4} {N M} [Up N M] {s2 s2'} [∀x0 x1,OL (s2 x0 x1) (s2' x0 x1)]:OL (Ff N p1 s2 p3 p4) (Ff M p1 s2' p3 p4):=by unfold Ff;infer_instance
instance {p1} {N M} [Up N M] {k j} [Up k j] {y0 y1}:OL (Ch N p1 k y0 y1) (Ch M p1 j y0 y1):=Vh λn m _ _ y0 y1=>inferInstanceAs (OL (Ff N p1 (Ch N p1 n) y0 y1) (Ff M p1 (Ch M p1 m) y0 y1))
instance {p1} {N M} [Up N M]:OL (If N p1) (If M p1):=by unfold If;infer_instance
instance {p1 p2 p3} {N M} [Up N M]:OL (Gt N p1 p2 p3) (Gt M p1 p2 p3):=by unfold Gt;infer_instance
instance {p1} {N M} [Up N M]:OL (CH N p1) (CH M p1):=by unfold CH;infer_instance
theorem RA{N M}(h:N<=M){a}: ∀x,CH N a=some x->CH M a=some x:=haveI:Up N M:=⟨h⟩;(inferInstance:OL (CH N a) (CH M a)).le
end Fth
namespace Fth
open Go
theorem Xc{z:Cpl}(hz:Gn z):cne z z=false:=by
 obtain ⟨n,hn,rfl⟩:=(QY z).1 hz
 have:=X1 hn hn
 simp only [decide_true,Bool.and_self] at this
 unfold ceq at this
 unfold cne
 rw [this];rfl
theorem ACb{e:AE}(h:WE e):cne e.num e.num=false:=by
 rcases h.zer with h1|h1
 ·exact Xc (h.num h1)
 ·rw [h1];exact Xc gn0
theorem QG(b:Bool): ∀(n:Nat) (e:AE),WE e->D8 e<n->D8 e<=1000000000->(BV.at n).ref04_SameExpr e e b=some true
 |0,_,_,h,_=>om
 |n+1,e,he,h,hn=>by
  have ih:=QG b n
  have hs:D8 e=Cy e.args+1:=by cases e;simp only [D8];omega
  have hl: ∀(l:List AE),l.length<=Cy l/\∀a∈l,D8 a<=Cy l:=by
   intro l
   induction l with
   |nil=>exact ⟨Nat.zero_le _,λa h=>by cases h⟩
   |cons x l ih=>
    have hx:1<=D8 x:=by cases x;simp [D8]
    simp only [Cy,List.length_cons]
    refine ⟨om,λa ha=>?_⟩
    rcases List.mem_cons.1 ha with rfl|ha
    ·omega
    ·have:=ih.2 a ha;omega
  have h1:=(hl e.args).1
  have loop: ∀(k i:Nat),i<=e.args.length->e.args.length<i+k->Gw (BV.at n) e e b k (i:Int)=some true:=by
   intro k
   induction k with
   |zero=>intro i _ _;omega
   |succ k ihk=>
    intro i hi hk
    show I6 _ e e b (Gw _ e e b k) i=_
    unfold I6
    cases hc:decide ((i:Int)< (e.args.length:Int))
    ·rfl
    ·have hc:=CS hc
     obtain ⟨a,ha⟩: ∃a,e.args[i]?=some a:=⟨_,List.getElem?_eq_getElem om⟩
     have hm:=List.mem_of_getElem? ha
     have:=(hl e.args).2 a hm
     rw [cond_true,CC ha,BP,BP,ih a (he.sub a hm) om om,BP,Bool.not_true,cond_false,wr om om,show (i:Int)+1=((i+1:Nat):Int) by omega]
     exact ihk (i+1) om om
  show Ir (BV.at n) n e e b=some true
  unfold Ir D6
  have hlo:=loop n 0 om om
  rw [show ((0:Nat):Int)=0 from rfl] at hlo
  simp only [bne_self_eq_false,cond_false,beq_self_eq_true,Bool.not_true,ACb he,hlo]
  cases b<;>rfl
theorem ABY(e:AE):AE.mk e.op e.name e.tail e.type_ e.num e.args e.at_=e:=by cases e;rfl
theorem VJ{N:Nat}{f:AN}(hb:WE f.body)(hs:D8 f.body<N)(hs2:D8 f.body<=1000000000)(hp:f.params.length<N)(hp2:f.params.length<=1000000000):FM N f f true=some true:=by
 have loop: ∀(k i:Nat),i<=f.params.length->f.params.length<i+k->Gz N f f true k (i:Int)=some true:=by
  intro k
  induction k with
  |zero=>intro i _ _;omega
  |succ k ihk=>
   intro i hi hk
   show I7 N f f true (Gz N f f true k) i=_
   unfold I7
   cases hc:decide ((i:Int)< (f.params.length:Int))
   ·rw [cond_false]
    rw [ABY]
    unfold ref04_SameExpr
    rw [QG true N f.body hb hs hs2];rfl
   ·have hc:=CS hc
    obtain ⟨a,ha⟩: ∃a,f.params[i]?=some a:=⟨_,List.getElem?_eq_getElem om⟩
    rw [cond_true,CC ha,BP,BP]
    unfold Gy
    simp only [bne_self_eq_false,cond_false,beq_self_eq_true,Bool.not_true,cond_true]
    rw [wr om om,show (i:Int)+1=((i+1:Nat):Int) by omega]
    exact ihk (i+1) om om
 have hlo:=loop N 0 om om
 rw [show ((0:Nat):Int)=0 from rfl] at hlo
 unfold FM F0
 simp only [bne_self_eq_false,cond_false,beq_self_eq_true,Bool.not_true,cond_true,hlo]
theorem ZA{p:AL}(hp:WPt p):Ev λN=>I8 N p p true=some true:=by
 refine (M2 1000000).mono λN hN=>?_
 have hlen:=hp.len
 have loop: ∀(k i:Nat),i<=p.funcs.length->p.funcs.length<i+k->Jx N p p true k (i:Int)=some true:=by
  intro k
  induction k with
  |zero=>intro i _ _;omega
  |succ k ihk=>
   intro i hi hk
   show LF N p p true (Jx N p p true k) i=_
   unfold LF
   cases hc:decide ((i:Int)< (p.funcs.length:Int))
   ·rfl
   ·have hc:=CS hc
    obtain ⟨f,hf⟩: ∃f,p.funcs[i]?=some f:=⟨_,List.getElem?_eq_getElem om⟩
    have hw:=hp.fns f (List.mem_of_getElem? hf)
    have h1:=hw.size
    have h2:=hw.pars
    rw [cond_true,CC hf,BP,BP,VJ hw.body om om om om,BP,Bool.not_true,cond_false,wr om om,show (i:Int)+1=((i+1:Nat):Int) by omega]
    exact ihk (i+1) om om
 have hlo:=loop N 0 om om
 rw [show ((0:Nat):Int)=0 from rfl] at hlo
 unfold I8
 simp only [bne_self_eq_false,cond_false,hlo]
theorem ABZ{i0:Int}{self:Int->Option Bool}{v:AD}(hv:v.list.length<=1000000000): ∀(k i:Nat),i<=v.list.length->v.list.length<i+k->G8 i0 self v k (i:Int)=self (IntKind.i64.wrap (i0+1)):=by
 intro k
 induction k with
 |zero=>intro i _ _;omega
 |succ k ih=>
  intro i hi hk
  show JH i0 self v (G8 i0 self v k) i=_
  unfold JH
  cases hc:decide ((i:Int)< (v.list.length:Int))
  ·rfl
  ·have hc:=CS hc
   obtain ⟨a,ha⟩: ∃a,v.list[i]?=some a:=⟨_,List.getElem?_eq_getElem om⟩
   rw [cond_true,CC ha,BP,wr om om,show (i:Int)+1=((i+1:Nat):Int) by omega]
   exact ih (i+1) om om
theorem Ws{α:Type}{b:Nat}{xs ys:List α}(h1:(xs.length+ys.length)*b<=140737488355328)(h2:xs.length+ys.length<=9223372036854775807):Gd b xs ys=some ():=if_pos ⟨h1,h2⟩
theorem ABa{N:Nat}{a:Eh}{x:AL×List AD×Bool}{l:List AD}{r:BK}{R:Option Bool}(hl:l=x.2.1)(hlv:LV x.2.1)(hN:20000000<=N)
  (hend: ∀self,GJ N a x x l r self (l.length:Int)=R): ∀(k i:Nat),i<=l.length->l.length<i+k->E8 N a x x l r k (i:Int)=R:=by
 intro k
 induction k with
 |zero=>intro i _ _;omega
 |succ k ih=>
  intro i hi hk
  show GJ N a x x l r (E8 N a x x l r k) i=_
  by_cases hc:i=l.length
  ·subst hc;exact hend _
  ·have hlt:i<l.length:=om
   obtain ⟨v,hv⟩: ∃v,l[i]?=some v:=⟨_,List.getElem?_eq_getElem om⟩
   have hm:=List.mem_of_getElem? hv
   rw [hl] at hm
   have hvv:=hlv.1 v hm
   have hlen:=hlv.2
   rw [<-hl] at hlen
   have hl3:=ABZ (i0:=(i:Int)) (self:=E8 N a x x l r k) (v:=v) om N 0 om om
   rw [show ((0:Nat):Int)=0 from rfl] at hl3
   unfold GJ
   rw [show decide ((i:Int)< (l.length:Int))=true from decide_eq_true om,cond_true,CC hv,BP,CC (hl▸hv),BP,AAO hvv.1 (hvv.1.gv om) om,BP,Bool.not_true,cond_false,hl3,wr om om,show (i:Int)+1=((i+1:Nat):Int) by omega]
   exact ih (i+1) om om
theorem ABb{N:Nat}{a:Eh}{x y:AL×List AD×Bool}{l:List AD}{r:BK}(n:Nat)(hn:n<=1000000000000): ∀(k i:Nat) (xs:List Cpl),xs.length=n->i<=n->n<i+k->G9 N a x y l r k (i:Int) xs=E8 N a x y l r N 0:=by
 intro k
 induction k with
 |zero=>intro i _ _ _ _;omega
 |succ k ih=>
  intro i xs hx hi hk
  show JI N a x y l r (G9 N a x y l r k) i xs=_
  unfold JI
  cases hc:decide ((i:Int)< (xs.length:Int))
  ·rw [cond_false,Ws (by simp;omega) (by simp;omega),BP]
  ·have hc:=CS hc
   obtain ⟨v,hv⟩: ∃v,xs[i]?=some v:=⟨_,List.getElem?_eq_getElem om⟩
   rw [cond_true,CC hv,BP,wr om om,show (i:Int)+1=((i+1:Nat):Int) by omega]
   exact ih (i+1) _ (by simp [hx]) om om
theorem AAR(k:Nat):H5 (k+200)=some true:=by kernel_rfl
theorem VK(a:Eh)(h:a.args.length<=1048576): ∃N,FQ N a=some true:=by
 obtain ⟨x,hx,hq⟩:=ABG (N:=20000000) h (Nat.le_refl _)
 have er:Ev λN=>CH N a=some x:=⟨20000000,λN hN=>RA hN x hx⟩
 have aw:Ev λN=>H5 N=some true:=Ev.down 200 (Ev.all AAR)
 have hp:=hq.1.wp
 have hlv:=hq.2
 obtain ⟨r,hr,ec⟩:=ABW (nm:=a.name) hp hlv.av 2000
 have hrv:=AAP hr
 have hrl:r.value.list.length<=1000000000000:=by
  rcases hrv with e| ⟨_,e⟩
  ·rw [e];exact Nat.zero_le _
  ·exact e.2.2
 have hlen:=hlv.2
 refine (((aw.and er).and (ec.and ((ABX hrv).and ((ZA hq.1).and (M2 1000000000002))))).mono (q:=λN=>FQ N a=some true) λN hN=>?_).get
 obtain ⟨⟨h1,h2⟩,⟨h3,h4⟩,h5,h6,h7⟩:=hN
 unfold FQ
 rw [h1,BP,Bool.not_true,cond_false,h2,BP,BP]
 cases hb:x.2.2
 ·rfl
 ·rw [Bool.not_true,cond_false,Ws (by simp;omega) (by simp;omega),BP,Ws (by simp;omega) (by simp;omega),BP,
   show sub ((([]:List AD)++x.2.1)++([(AD.mk (77:Int) ((0,0):Cpl) false [])]:List AD)) 0 (x.2.1.length:Int)=some x.2.1 from by unfold sub;rw [if_pos ⟨om,om,by simp;omega⟩];simp,
   BP,h3,BP,BP]
  have k1:=ABb (N:=N) (a:=a) (x:=x) (y:=x) (l:=x.2.1) (r:=r) r.value.list.length hrl N 0 r.value.list rfl om om
  rw [show ((0:Nat):Int)=0 from rfl] at k1
  rw [k1]
  have k2:=ABa (N:=N) (a:=a) (x:=x) (l:=x.2.1) (r:=r) (R:=some true) rfl hlv om (λself=>by
   unfold GJ
   rw [show decide ((x.2.1.length:Int)< (x.2.1.length:Int))=false from decide_eq_false om,cond_false,
    show idx ((([]:List AD)++x.2.1)++([(AD.mk (77:Int) ((0,0):Cpl) false [])]:List AD)) (x.2.1.length:Int)=some (AD.mk (77:Int) ((0,0):Cpl) false []) from CC (by simp),
    BP,show ((77:Int)==77)=true from rfl,cond_true,h6,BP,cond_true,h4,BP,h5];rfl) N 0 om om
  rw [show ((0:Nat):Int)=0 from rfl] at k2
  exact k2
end Fth
namespace Fth
open Go Go.Proofs Go.ChangeShapes Go.WideShapes Go.ChangeAt Go.RowKit
open Go.Proofs.YtiodboehkcmdnaaGreat
open Go.ChangeMaps (open_string shut_string)
open Go.Deep (trod_struct3_mk)
theorem ACc{n:Int}(h:(Lit.int .u8 n).wf=true):((UInt8.ofNat n.toNat).toNat:Int)=n:=by
 have h:0<=n/\n<=255:=by simpa [Lit.wf,IntKind.min,IntKind.max,IntKind.signed,IntKind.bits] using h
 simp only [UInt8.toNat_ofNat']
 omega
theorem S0(s:ByteArray):bs s.data.toList=s:=by cases s;simp [bs]
section
variable{H:Type}{enc:TypeId×Value->H}{W:World}{base:Nat}
theorem AU.old{C C':Col}{W':World}(h:AU [] C W C' W'): ∀b,b<W.heap.size->W'.heap[b]?=W.heap[b]?:=λb hb=>h.same b hb (by simp)
theorem AU.keptBut{C C':Col}{W':World}(h:AU [] C W C' W')(may:MemPlace->Prop):W.keptBut W' may:=by
 refine ⟨h.os,h.output,λi hi=>?_⟩
 rw [h.old i hi]
 exact (World.keptBut_refl W may).2.2 i hi
theorem ZB{P:Program}{f:Func}{s:ChangeSpec}{apart fresh handsOn again:Bool}{W':World}{args:Array Value}{v:Value}{ds gs:List (DataW H)}{before pa:List MemPlace}{C C':Col}
  (hW:DataW.Whole enc P f.params.toList s.vars apart W args.toList ds gs before)
  (hres: ∀(b:Nat) (sp:Nat->Bool) (hd:Bool),DataW.TrodAll enc P W' b sp hd f.resultTypes.toList (v.resultList f.resultTypes.size) (s.fn H (ds++gs)).results [])
  (hargs: ∀sp:Nat->Bool,(∀p∈before,sp p.block=true)->DataW.TrodAll enc P W' 0 sp true f.params.toList args.toList (s.fn H (ds++gs)).args pa)
  (hvars: ∀sp:Nat->Bool,DataW.TrodVars enc P W' sp s.vars (s.fn H (ds++gs)).vars [])
  (hps:before=pa) (st:AU [] C W C' W')
  (hok: ∀(j:Nat) (t:TypeId) (r:Value),f.resultTypes[j]?=some t->(v.resultList f.resultTypes.size)[j]?=some r->Value.okWide P W' .any 0 t r):
  s.post enc P f apart fresh handsOn again W args v W':=by
 have hold: ∀p∈before,(λb=>decide (b<W.heap.size)) p.block=true:=λp hp=>by simpa using hW.lt p hp
 refine ⟨ds,gs,before,[],pa,[],hW,hres _ _ _,hargs _ hold,hvars _,World.keptBut_mono (λp hp=>⟨hp,?_⟩) (st.keptBut (· ∈before)),λ_=>?_⟩
 ·rw [hps] at hp
  exact Or.inr (by simpa using hp)
 ·have hlt:=hW.lt
  obtain ⟨_,_,_,_,_,hz,hn⟩:=hW
  refine ⟨hok,_,_,([]++pa)++[],⟨[]++pa,[],trodAll_append (hargs _ (λ_ _=>rfl)) (hres _ _ _),hvars _,rfl,?_,?_⟩,?_⟩
  ·intro b off hp
   have hp':MemPlace.cell b off∈before:=by rw [hps];simpa using hp
   have hb:b<W.heap.size:=hlt _ hp'
   have:=hz b off hp'
   unfold World.frozen? at this ⊢
   rw [st.old b hb]
   exact this
  ·intro ha
   have:=hn ha
   rw [hps] at this
   simpa using this
  ·intro p hp _
   rw [hps]
   simpa using hp
set_option maxRecDepth 100000 in
theorem AAS{v:Value}{d:DataW H}{p:List MemPlace}(hv:Value.okWide Tryz.prog W .any base 24 v)(h:DataW.Trod enc Tryz.prog W 0 (λ_=>true) true 24 v d p):
  ∃(a:Eh) (c0:List Value),v= .agg c0.toArray/\J7.rep (Col.F λ_=>0) W c0 a/\a.args.length<=Rows.uptoBulk d/\a.text.length<=Rows.uptoBulk d/\a.name.length<=Rows.uptoBulk d/\
   ∀W':World,(∀b,b<W.heap.size->W'.heap[b]?=W.heap[b]?)->∀sp:Nat->Bool,(∀q∈p,sp q.block=true)->DataW.Trod enc Tryz.prog W' 0 sp true 24 v d p:=by
 obtain ⟨c0,c1,c2,y0,y1,y2,m,rfl,rfl,rfl,h0,h1,h2⟩:=Go.Joins.open_agg3 Tryz.underlying24 (by kernel_rfl) (by kernel_rfl) hv h
 obtain ⟨s1,e1,rfl,k1⟩:=DataW.trod_string Tryz.underlying9 h1
 obtain ⟨s2,e2,rfl,k2⟩:=DataW.trod_string Tryz.underlying9 h2
 simp only [List.cons.injEq,and_true] at e1 e2
 subst e1 e2
 have hstr: ∀(n:Nat) (W':World) (sp:Nat->Bool) (s:ByteArray),s.size<=maxLen->DataW.trod enc Tryz.prog W' 0 sp true (n+1) 9 [.string s]=some (.lit (.string s.data.toList),[]):=λn W' sp s hs=>by
  obtain ⟨n',hn⟩:=shut_string (enc:=enc) (P:=Tryz.prog) (w:=W') (base:=0) (sp:=sp) (held:=true) Tryz.underlying9 hs
  cases n' with
  |zero=>simp [DataW.trod] at hn
  |succ n'=>
   simp only [DataW.trod,Value.cells,Tryz.underlying9] at hn ⊢
   exact hn
 have hcells:Tryz.prog.cellsOf 24=3:=by kernel_rfl
 have close: ∀(n:Nat) (W':World) (sp:Nat->Bool),DataW.trod enc Tryz.prog W' 0 sp true (n+1) 22 [c0]=some y0->
   DataW.Trod enc Tryz.prog W' 0 sp true 24 (.agg #[c0,.string s1,.string s2]) (.agg [y0.1,.lit (.string s1.data.toList),.lit (.string s2.data.toList)]) (y0.2++([]++[])):=λn W' sp hn=>
  ⟨n+1+1,trod_struct3_mk (y1:=(.lit (.string s1.data.toList),[])) (y2:=(.lit (.string s2.data.toList),[])) Tryz.underlying24 (by rw [hcells];rfl) (by rw [show Tryz.prog.cellsOf 22=1 from by kernel_rfl];exact hn) (hstr n W' sp s1 k1) (hstr n W' sp s2 k2)⟩
 have l1:Rows.uptoBulk (.agg [y0.1,.lit (.string s1.data.toList),.lit (.string s2.data.toList)]:DataW H)=Rows.uptoBulk y0.1+(s1.data.toList.length+1)+(s2.data.toList.length+1)+1:=by
  simp only [Rows.uptoBulk,Rows.uptoBulkAll];omega
 rcases open_ints Tryz.underlying22 Tryz.underlying5 (by kernel_rfl) h0 with ⟨e,rfl⟩| ⟨a,len,cap,zs,e,hb,hl,hm,hz,rfl,hcell,hw⟩
 ·simp only [List.cons.injEq,and_true] at e
  subst e
  refine ⟨⟨[],s1.data.toList,s2.data.toList⟩,[.slice none 0 0,.string s1,.string s2],rfl,⟨_,by rw [S0,S0];rfl,none,0,rfl,Nat.le_refl _,λhx=>absurd hx (Kd.NoCx.no (rep:=Kd.u8.rep)),.inl rfl⟩,?_,?_,?_,?_⟩
  ·rw [l1];show s2.data.toList.length<=_;omega
  ·rw [l1];show 0<=_;omega
  ·rw [l1];show s1.data.toList.length<=_;omega
  ·intro W' hW' sp hsp
   refine close 1 W' sp ?_
   rw [DataW.trod_step]
   simp only [DataW.trodStep,Tryz.underlying22]
 ·simp only [List.cons.injEq,and_true] at e
  subst e
  simp only [if_true] at hz
  have hlt: ∀i,i<zs.length->a.block<W.heap.size:=λi hi=>by
   have:=World.block_lt_of_cell? _ _ (hcell i hi)
   simpa [block_add] using this
  refine ⟨⟨(zs.take len).map λn=>UInt8.ofNat n.toNat,s1.data.toList,s2.data.toList⟩,[.slice (some a) len cap,.string s1,.string s2],rfl,⟨_,by rw [S0,S0],some a,cap,?_,?_,λhx=>absurd hx (Kd.NoCx.no (rep:=Kd.u8.rep)),?_⟩,?_,?_,?_,?_⟩
  ·simp [hz,Nat.min_eq_left hl]
  ·simp [hz];omega
  ·by_cases h0:len=0
   ·subst h0;left;rfl
   ·right
    have h00:=hcell 0 om
    have hs:a.spot=none:=by simpa [Addr.add] using World.cell?_spot h00
    obtain ⟨b,off,spot⟩:=a
    simp only at hs
    subst hs
    refine ⟨b,off,rfl,rfl,hlt 0 om,λi x hx=>?_⟩
    rw [List.getElem?_map] at hx
    obtain ⟨n,hn,rfl⟩:=Option.map_eq_some_iff.1 hx
    have hi:i<len:=by
     have:=(List.getElem?_eq_some_iff.1 hn).1
     simp at this;omega
    rw [List.getElem?_take_of_lt hi] at hn
    have hm':n∈zs:=List.mem_of_getElem? hn
    refine ⟨_,rfl,rfl,λj c hj=>?_⟩
    match j,hj with
    |0,hj=>
     simp only [List.getElem?_cons_zero,Option.some.injEq] at hj
     subst hj
     have:=hcell i om
     rw [add_plain,show zs.getD i 0=n by simp [List.getD,hn]] at this
     show W.cell? ⟨b,off+i*1+0,none⟩=_
     rw [ACc (hw n hm')]
     simpa using this
  ·rw [l1];show s2.data.toList.length<=_;omega
  ·rw [l1]
   show ((zs.take len).map _).length<=_
   have h1:Rows.uptoBulk (.slice (lits .u8 (zs.take len)) (lits .u8 (zs.drop len)):DataW H)>=(zs.take len).length:=by
    have: ∀l:List Int,Rows.uptoBulkAll (lits .u8 l:List (DataW H))=l.length:=λl=>by
     induction l with
     |nil=>rfl
     |cons x l ih=>
      have e:(lits .u8 (x::l):List (DataW H))= .lit (.int .u8 x)::lits .u8 l:=rfl
      rw [e];simp only [Rows.uptoBulkAll,Rows.uptoBulk,ih,List.length_cons];omega
    simp only [Rows.uptoBulk,this]
    omega
   rw [List.length_map]
   simp only
   omega
  ·rw [l1];show s1.data.toList.length<=_;omega
  ·intro W' hW' sp hsp
   refine close 1 W' sp ?_
   refine shut_ints 0 Tryz.underlying22 Tryz.underlying5 (by kernel_rfl) (Nat.zero_le _) hl hm ?_ ?_ hw
   ·by_cases h0:zs.length=0
    ·split<;>omega
    ·have:sp a.block=true:=hsp (.cell a.block (a.off+0)) (by
      simp only [List.append_nil,MemPlace.row,List.mem_map,List.mem_range]
      exact ⟨0,om,rfl⟩)
     rw [if_pos this];exact hz
   ·intro i hi
    rw [World.cell?_of_block (w:=W) (a:=a.add i) (by rw [block_add];exact hW' _ (hlt i hi))]
    exact hcell i hi
end
end Fth
namespace Go.Proofs.YtiodboehkcmdnaaGreat.meanKeep
open Go Go.ChangeShapes Go.WideShapes Go.ChangeAt Go.RowKit Fth
set_option linter.unusedVariables false
theorem own:ownKnob Tryz.prog.godebug=none:=by kernel_rfl
set_option maxRecDepth 100000 in
theorem contract(H:Type)(enc:TypeId×Value->H)(W:World)(base:Nat)(args:Array Value)(ds gs:List (DataW H))(before:List MemPlace)
  (hval: ∀(j:Nat) t v,Tryz.f8.params[j]?=some t->args[j]?=some v->Value.okWide Tryz.prog W .any base t v)
  (hW:DataW.Whole enc Tryz.prog Tryz.f8.params.toList Rows.meanKeepSpec.vars false W args.toList ds gs before) (hk:Rows.uptoSmall H (ds++gs)=true):
  Calls Tryz.prog 8 args W λe W'=>∃v,e= .returned v/\Rows.meanKeepSpec.post enc Tryz.prog Tryz.f8 false true false false W args v W':=by
 have hW':=hW
 obtain ⟨p,q,hA0,hV,rfl,hfz,hnd⟩:=hW
 have hA:DataW.TrodAll enc Tryz.prog W 0 (λ_=>true) true Tryz.f8.params.toList args.toList ds p:=hA0
 rw [Tryz.params8] at hA hval
 obtain ⟨v0,vs0,d0,ds0,p0,q0,hargs,rfl,rfl,h0,r0⟩:=trodAll_cons hA
 obtain ⟨rfl,rfl,rfl⟩:=trodAll_nil r0
 obtain rfl:args=#[v0]:=by cases args;simp_all
 obtain ⟨rfl,rfl⟩:=trodVars_none hV
 obtain ⟨a,c0,rfl,ha,l1,_,_,hcl⟩:=AAS (hval 0 24 v0 rfl rfl) h0
 clear hA0
 have hb:Rows.uptoBulkAll (d0::[])<=1048576:=by
  have h:Rows.uptoBulkAll (d0::[]++[])<=1048576:=of_decide_eq_true hk
  simpa using h
 have hl:a.args.length<=1048576:=by
  rw [Rows.uptoBulkAll] at hb
  omega
 obtain ⟨N,hN⟩:=VK a hl
 refine (Q2 N (λ_=>0) W hN ha).mono ?_
 rintro e W' ⟨C',rfl,st⟩
 refine ⟨_,rfl,ZB (pa:=p0++[]) hW' (λ_ _ _=>trodAll_cons_mk (shut_bool Tryz.underlying4 _) trodAll_mk0) (λsp hsp=>?_) (λ_=>rfl) (by simp) st (ok_one (by kernel_rfl) rfl (okWide_bool_mk Tryz.underlying4 _))⟩
 exact trodAll_cons_mk (hcl W' st.old sp (λq hq=>hsp q (by simp [hq]))) trodAll_mk0
set_option maxRecDepth 100000 in
theorem lifted(os:Os)(started:os.Started)(H:Type)(enc:TypeId×Value->H)(F:Stop.Interp):
  ReturnsInHanded {} Tryz.checked os 8 .any ((Rows.OpenSpec.upto Rows.meanKeepSpec).pre6 enc Tryz.prog Tryz.f8 Rows.meanKeepUptoRow.domain false) (((Rows.OpenSpec.upto Rows.meanKeepSpec).at F).post enc Tryz.prog Tryz.f8 false true false false):=by
 refine returnsInHanded_of_cond (C:=Tryz.checked) (s:=Rows.OpenSpec.upto Rows.meanKeepSpec) (k:=Rows.uptoSmall) rfl own started (by kernel_rfl) Tryz.func8
  (OpenSpec.witness (enc:=enc) (C:=Tryz.checked) (s:=Rows.OpenSpec.upto Rows.meanKeepSpec) (k:=Rows.uptoSmall) rfl false ⟨#[],#[.agg #[.slice none 0 0,.string .empty,.string .empty]],[]⟩ 8 (by kernel_rfl) (by kernel_rfl) (by kernel_rfl)
   (x:=([.agg [.nil,.lit (.string []),.lit (.string [])]],[],[])) (by kernel_rfl) rfl (by kernel_rfl)) ?_
 intro W base args ds gs before hval hW _ hk _
 exact contract H enc W base args ds gs before hval hW hk
theorem proved:Rows.MeanKeepUptoSaid:=
 OpenClaim.holds_of_cond 8 Tryz.f8 rfl rfl rfl rfl rfl rfl rfl ⟨rfl,rfl,rfl,rfl,rfl⟩ rfl rfl rfl rfl rfl (by kernel_rfl) Tryz.func8 (by kernel_rfl)
  (of_decide_eq_true (by kernel_rfl)) (by unfold Func.isWrapper;first| (rw [if_pos (by decide+kernel)];kernel_rfl)| (rw [if_neg (by decide+kernel)];exact ⟨rfl,rfl⟩))
  (λos started H enc _ F=>lifted os started H enc F)
end Go.Proofs.YtiodboehkcmdnaaGreat.meanKeep
