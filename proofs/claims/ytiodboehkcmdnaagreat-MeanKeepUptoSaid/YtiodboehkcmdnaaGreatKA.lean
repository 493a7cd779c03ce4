/- Part 1 of the proof: what it says holds of the given program; no condition. -/
import Derived.ProofKit
import Derived.WalkKit
import Derived.WalkSpells
import Derived.Deep.Quiet
import Derived.Below
import Derived.OneCell
import Derived.OrdersHeld
import Derived.Laws.NewFold
import Derived.Laws.AppendOwn
import Derived.Laws.AppendOwnNone
import Derived.Laws.OwnMore
import Derived.ArgAppend
import Derived.Laws.StructEq
import Derived.Laws.IdiomStrings
import Derived.Lib.AppendStr
import Derived.WideMake
import Derived.Defers
import Derived.Recover
import Derived.KernelRfl
set_option linter.all false
set_option exponentiation.threshold 3000
namespace Fth
abbrev Bts:=List UInt8
theorem dcd{p:Prop}[Decidable p](h:decide p=true:=by rfl):p:=of_decide_eq_true h
theorem lbr{a b:Nat}(h:Nat.ble a b=true:=by rfl):a<=b:=Nat.le_of_ble_eq_true h
theorem om{p:Prop}(h:p:=by omega):p:=h
abbrev Cpl:=Nat×Nat
theorem BP{α β:Type}(a:α)(f:α->Option β):(some a).bind f=f a:=rfl
end Fth
namespace Fth
open Go
abbrev Env:=Nat->Value
def Env.put(ρ:Env)(d:Nat)(v:Value):Env:=λt=>bif Nat.beq t d then v else ρ t
def ev(ρ:Env):Operand->Value
 | .tmp t=>ρ t
 | .const v=>v
 | .global g=> .pointer (some ⟨g,0,none⟩)
 | .func f=> .func (.func f) #[] #[]
structure Hm(ds:List Deferred)(n:Nat)(a:Act)(ρ:Env):Prop where
 size:a.tmps.size=n
 eq: ∀t,a.tmps.getD t undef=ρ t
 defers:a.defers=ds
theorem Hm.eval{ds:List Deferred}{n:Nat}{a:Act}{ρ:Env}(h:Hm ds n a ρ):a.eval=ev ρ:=by
 funext x;cases x<;>simp only [Act.eval,ev];exact h.eq _
theorem Hm.put{ds:List Deferred}{n:Nat}{a:Act}{ρ:Env}(h:Hm ds n a ρ){d:Nat}(hd:Nat.blt d n=true)(v:Value):Hm ds n (a.put (some d) v) (ρ.put d v):=by
 have hd':d<a.tmps.size:=by rw [h.size];simpa [Nat.blt_eq] using hd
 refine ⟨by simp [Act.put,h.size],λt=>?_,h.defers⟩
 simp only [Act.put,Env.put,Array.getD_eq_getD_getElem?,Array.getElem?_setIfInBounds]
 by_cases ht:t=d
 ·subst ht;simp [hd']
 ·have hb:Nat.beq t d=false:=Bool.eq_false_iff.2 λh=>ht (Nat.eq_of_beq_eq_true h)
  have:=h.eq t
  simp only [Array.getD_eq_getD_getElem?] at this
  simp [Ne.symm ht,hb,this]
abbrev Gb:=Exit->Env->World->Prop
def Wt(ds:List Deferred)(n:Nat)(Q:Gb):Exit->Act->World->Prop:=λe a w=>∃ρ,Hm ds n a ρ/\Q e ρ w
def WL(P:Program)(ds:List Deferred)(n:Nat)(ops:Array Oper)(Q:Gb)(l:List Oper)(ρ:Env)(w:World):Prop:=∀a,Hm ds n a ρ->wpList P ops (Wt ds n Q) l a w
def WC(P:Program)(ds:List Deferred)(n:Nat)(c:Code)(Q:Gb)(ρ:Env)(w:World):Prop:=∀a,Hm ds n a ρ->c.wp P (Wt ds n Q) a w
def PB(K:Env->World->Prop)(Q:Gb):Gb
 | .normal,ρ,w=>K ρ w
 |e,ρ,w=>Q e ρ w
def Wu(id:Nat)(Q:Gb):Gb
 | .exit i,ρ,w=>bif Nat.beq i id then Q .normal ρ w else Q (.exit i) ρ w
 |e,ρ,w=>Q e ρ w
section
variable{P:Program}{ds:List Deferred}{n:Nat}{ops:Array Oper}{Q Q':Gb}{ρ:Env}{w:World}{l:List Oper}{o:Oper}
theorem WC.mono{c:Code}(h:WC P ds n c Q ρ w)(hq: ∀e ρ w,Q e ρ w->Q' e ρ w):WC P ds n c Q' ρ w:=
 λa ha=>wp_mono (h a ha) λ_ _ _ ⟨r,hr,hQ⟩=>⟨r,hr,hq _ _ _ hQ⟩
theorem AR(h:Q .normal ρ w):WC P ds n .skip Q ρ w:=λ_ ha=>wp_skip ⟨ρ,ha,h⟩
theorem AS(h:Q .ret ρ w):WC P ds n .ret Q ρ w:=λ_ ha=>wp_ret ⟨ρ,ha,h⟩
theorem BX{id:Nat}(h:Q (.exit id) ρ w):WC P ds n (.exit id) Q ρ w:=λ_ ha=>wp_exit ⟨ρ,ha,h⟩
theorem AT{x y:Code}(h:WC P ds n x (PB (WC P ds n y Q) Q) ρ w):WC P ds n (.seq x y) Q ρ w:=λa ha=>wp_seq (wp_mono (h a ha) λe a' w' ⟨r,hr,hQ⟩=>by
 cases e with
 |normal=>exact hQ a' hr
 |_=>exact ⟨r,hr,hQ⟩)
theorem Ah{id:Nat}{c:Code}(h:WC P ds n c (Wu id Q) ρ w):WC P ds n (.block id c) Q ρ w:=λa ha=>wp_block (wp_mono (h a ha) λe a' w' ⟨r,hr,hQ⟩=>by
 cases e with
 |exit i=>
  simp only [Exit.inBlock,Wu] at*
  by_cases hi:i=id
  ·subst hi;simp only [if_true];exact ⟨r,hr,by simpa using hQ⟩
  ·have hb:Nat.beq i id=false:=Bool.eq_false_iff.2 λh=>hi (Nat.eq_of_beq_eq_true h)
   simp only [hi,if_false];exact ⟨r,hr,by simpa [hb] using hQ⟩
 |_=>exact ⟨r,hr,hQ⟩)
theorem OG{c:Operand}{x y:Code}{t:Bool}(hc:ev ρ c= .bool t)(ht:t=true->WC P ds n x Q ρ w)(hf:t=false->WC P ds n y Q ρ w):WC P ds n (.cond c x y) Q ρ w:=by
 intro a ha
 refine wp_cond_split (t:=t) (by rw [ha.eval];exact hc) (λh=>ht h a ha) (λh=>hf h a ha)
theorem AM{id:Nat}{l:List Oper}(h:WL P ds n l.toArray Q l ρ w):WC P ds n (.region id l.toArray false) Q ρ w:=λa ha=>wp_region_lit (h a ha)
theorem Bj{c:Code}(I:Nat->Env->World->Prop)(k:Nat)(h0:I k ρ w)
  (round: ∀k ρ w,I k ρ w->WC P ds n c (PB (λρ' w'=>∃m,m<k/\I m ρ' w') Q) ρ w):WC P ds n (.loop c) Q ρ w:=by
 intro a ha
 have hex: ∀(J:Nat->Prop),(∃k,J k)->∃k,J k/\∀m,J m->k<=m:=λJ ⟨k,hk⟩=>by
  induction k using Nat.strongRecOn with
  |_ k ih=>
   by_cases h: ∃m,m<k/\J m
   ·obtain ⟨m,hm,hJ⟩:=h;exact ih m hm hJ
   ·exact ⟨k,hk,λm hm=>Nat.le_of_not_lt λhlt=>h ⟨m,hlt,hm⟩⟩
 have hex': ∀a w,∃k,(∃k ρ,Hm ds n a ρ/\I k ρ w)->(∃ρ,Hm ds n a ρ/\I k ρ w)/\∀m,(∃ρ,Hm ds n a ρ/\I m ρ w)->k<=m:=λa w=>by
  by_cases h: ∃k ρ,Hm ds n a ρ/\I k ρ w
  ·obtain ⟨k,hk,hm⟩:=hex (λk=>∃ρ,Hm ds n a ρ/\I k ρ w) h
   exact ⟨k,λ_=>⟨hk,hm⟩⟩
  ·exact ⟨0,λh'=>absurd h' h⟩
 have hμ: ∃μ:Act->World->Nat,∀a w,(∃k ρ,Hm ds n a ρ/\I k ρ w)->(∃ρ,Hm ds n a ρ/\I (μ a w) ρ w)/\∀m,(∃ρ,Hm ds n a ρ/\I m ρ w)->μ a w<=m:=
  ⟨λa w=>(hex' a w).choose,λa w=>(hex' a w).choose_spec⟩
 obtain ⟨μ,hμ⟩:=hμ
 refine wp_loop (λa w=>∃k ρ,Hm ds n a ρ/\I k ρ w) μ ⟨k,ρ,ha,h0⟩ λa w hI=>?_
 obtain ⟨⟨r,hr,hIr⟩,_⟩:=hμ a w hI
 refine wp_mono (round _ r w hIr a hr) λe a' w' ⟨r',hr',hQ⟩=>?_
 cases e with
 |normal=>
  obtain ⟨m,hm,hIm⟩:=hQ
  exact ⟨⟨m,r',hr',hIm⟩,Nat.lt_of_le_of_lt ((hμ a' w' ⟨m,r',hr',hIm⟩).2 m ⟨r',hr',hIm⟩) hm⟩
 |_=>exact ⟨r',hr',hQ⟩
theorem AA(h:Q .normal ρ w):WL P ds n ops Q [] ρ w:=λ_ ha=>⟨ρ,ha,h⟩
inductive Hn(ops:Array Oper)(ρ:Env)(n:Nat)(o:Oper):Bool->Prop
 |none (h:o.guard=none):Hn ops ρ n o true
 |guard {j:Nat} {b t:Bool} {oj:Oper} {d:Nat} (h:o.guard=some (j,b)) (hj:ops[j]?=some oj) (hd:oj.dst=some d) (hn:Nat.blt d n=true) (hv:ρ d= .bool t):Hn ops ρ n o (t==b)
 |off {j:Nat} {b:Bool} {oj:Oper} {d:Nat} (h:o.guard=some (j,b)) (hj:ops[j]?=some oj) (hd:oj.dst=some d) (hn:Nat.blt d n=true) (hv:ρ d=undef):Hn ops ρ n o false
theorem Hn.wanted{b:Bool}(h:Hn ops ρ n o b){a:Act}(ha:Hm ds n a ρ):Region.wanted o (yielded ops a.tmps)=b:=by
 cases h with
 |none h=>simp [Region.wanted,h]
 | @guard j b t oj d h hj hd hn hv=>
  have hd':d<a.tmps.size:=by rw [ha.size];simpa [Nat.blt_eq] using hn
  have h1:=ha.eq d
  rw [hv,Array.getD_eq_getD_getElem?,Array.getElem?_eq_getElem hd'] at h1
  simp only [Option.getD_some] at h1
  simp [Region.wanted,h,yielded,hj,hd,Array.getElem?_eq_getElem hd',h1]
 | @off j b oj d h hj hd hn hv=>
  have hd':d<a.tmps.size:=by rw [ha.size];simpa [Nat.blt_eq] using hn
  have h1:=ha.eq d
  rw [hv,Array.getD_eq_getD_getElem?,Array.getElem?_eq_getElem hd'] at h1
  simp only [Option.getD_some] at h1
  simp [Region.wanted,h,yielded,hj,hd,Array.getElem?_eq_getElem hd',h1,undef]
theorem PC{d:Nat}{v:Value}{w':World}(hg:Hn ops ρ n o true)(hd:o.dst=some d)(hn:Nat.blt d n=true)
  (hr:(execOp (ev ρ) o).run P w= .ok (.value v) w') (h:WL P ds n ops Q l (ρ.put d v) w'):WL P ds n ops Q (o::l) ρ w:=by
 intro a ha
 unfold wpList
 rw [if_pos (hg.wanted ha)]
 refine .inl ?_
 unfold Oper.wp
 rw [ha.eval,hr,Oper.upon_value,hd]
 exact h _ (ha.put hn v)
theorem AAT{w':World}(hg:Hn ops ρ n o true)(hd:o.dst=none)(hr:(execOp (ev ρ) o).run P w= .ok .skip w')(h:WL P ds n ops Q l ρ w'):WL P ds n ops Q (o::l) ρ w:=by
 intro a ha
 unfold wpList
 rw [if_pos (hg.wanted ha)]
 refine .inl ?_
 unfold Oper.wp
 rw [ha.eval,hr,Oper.upon_skip,hd]
 exact h _ ha
theorem CQ{d f:Nat}{args:Array Value}{w':World}(hg:Hn ops ρ n o true)(hd:o.dst=some d)(hn:Nat.blt d n=true)
  (hr:(execOp (ev ρ) o).run P w= .ok (.enter f args) w')
  (h:Calls P f args w' λe w''=>∃v,e= .returned v/\WL P ds n ops Q l (ρ.put d v) w''):WL P ds n ops Q (o::l) ρ w:=by
 intro a ha
 unfold wpList
 rw [if_pos (hg.wanted ha)]
 refine .inl ?_
 unfold Oper.wp
 rw [ha.eval,hr,Oper.upon_enter,hd]
 exact h.mono λe w'' ⟨v,he,hw⟩=>by subst he;exact hw _ (ha.put hn v)
theorem X7{d:Nat}(hg:Hn ops ρ n o false)(hd:o.dst=some d)(hn:Nat.blt d n=true)(h:WL P ds n ops Q l (ρ.put d undef) w):WL P ds n ops Q (o::l) ρ w:=by
 intro a ha
 unfold wpList
 rw [if_neg (by rw [hg.wanted ha];simp),hd]
 exact h _ (ha.put hn undef)
end
def Mf(args:List Value):Env:=λt=>args.getD t undef
theorem PD(args:Array Value)(k n:Nat)(hk:args.size+k=n):Hm [] n {tmps:=args++Array.replicate k undef,defers:=[]} (Mf args.toList):=by
 refine ⟨by simp [hk],λt=>?_,rfl⟩
 simp only [Mf,Array.getD_eq_getD_getElem?,Array.getElem?_append,List.getD_eq_getElem?_getD,Array.getElem?_toList]
 by_cases h:t<args.size
 ·simp [h]
 ·simp only [h,if_false,Array.getElem?_eq_none (Nat.le_of_not_lt h),Option.getD_none]
  by_cases h2:t - args.size<k
  ·simp [h2]
  ·simp [h2]
def M7(P:Program)(fn:Func)(R:Ending->World->Prop):Gb
 | .normal,ρ,w| .ret,ρ,w=>∃v,(∀tmps:Array Value,(∀t,tmps.getD t undef=ρ t)->(results fn tmps).run P w= .ok v w)/\R (.returned v) w
 | .panic chain,_,w=>R (.panicked chain) w
 | .outgrown,_,w=>R .outgrown w
 |_,_,_=>False
theorem ZC{P:Program}{f:FuncId}{fn:Func}{c:Code}{args:Array Value}{w:World}{R:Ending->World->Prop}{n:Nat}
  (hf:P.funcs[f]?=some fn) (hb:fn.body=some c) (hn:fn.ntmps=n) (hs:Nat.ble args.size n=true)
  (h:WC P [] n c (M7 P fn R) (Mf args.toList) w):Calls P f args w R:=by
 refine calls_of_wp hf hb ?_
 have hs':args.size<=n:=by simpa using hs
 refine wp_mono (h _ (PD args _ n (by rw [hn];omega))) λe a' w' ⟨r,hr,hQ⟩=>?_
 cases e with
 |normal=>obtain ⟨v,hv,hR⟩:=hQ;exact ⟨hr.defers,v,hv _ hr.eq,hR⟩
 |ret=>obtain ⟨v,hv,hR⟩:=hQ;exact ⟨hr.defers,v,hv _ hr.eq,hR⟩
 |panic ch=>exact ⟨hr.defers,hQ⟩
 |outgrown=>exact hQ
 |exit id=>exact hQ.elim
 |goto l=>exact hQ.elim
end Fth
namespace Fth
open Go Go.RowKit
abbrev Col:=Nat->Nat
def Col.put(C:Col)(b k:Nat):Col:=λt=>if t=b then k else C t
structure AU(S:List Nat)(C:Col)(w:World)(C':Col)(w':World):Prop where
 os:w'.os=w.os
 tape:w'.tape=w.tape
 output:w'.output=w.output
 size:w.heap.size<=w'.heap.size
 col: ∀b,b<w.heap.size->C' b=C b∨(C b∈S/\C' b=0)
 same: ∀b,b<w.heap.size->C b∉S->w'.heap[b]?=w.heap[b]?
theorem AU.refl(S:List Nat)(C:Col)(w:World):AU S C w C w:=⟨rfl,rfl,rfl,Nat.le_refl _,λ_ _=> .inl rfl,λ_ _ _=>rfl⟩
theorem AU.trans{S:List Nat}{C C' C'':Col}{w w' w'':World}(h:AU S C w C' w')(k:AU S C' w' C'' w'')(h0:0∉S):AU S C w C'' w'':=by
 refine ⟨k.os.trans h.os,k.tape.trans h.tape,k.output.trans h.output,Nat.le_trans h.size k.size,λb hb=>?_,λb hb hs=>?_⟩
 ·have hb':=Nat.lt_of_lt_of_le hb h.size
  rcases h.col b hb with h1| ⟨h1,h2⟩
  ·rcases k.col b hb' with h3| ⟨h3,h4⟩
   ·exact .inl (h3.trans h1)
   ·exact .inr ⟨h1▸h3,h4⟩
  ·rcases k.col b hb' with h3| ⟨h3,h4⟩
   ·exact .inr ⟨h1,h3.trans h2⟩
   ·rw [h2] at h3;exact absurd h3 h0
 ·have hb':=Nat.lt_of_lt_of_le hb h.size
  have hc:C' b=C b:=(h.col b hb).resolve_right λhx=>hs hx.1
  exact (k.same b hb' (by rw [hc];exact hs)).trans (h.same b hb hs)
theorem AU.mono{S S':List Nat}{C C':Col}{w w':World}(h:AU S C w C' w')(hs: ∀x∈S,x∈S'):AU S' C w C' w':=
 ⟨h.os,h.tape,h.output,h.size,λb hb=>(h.col b hb).imp id λhx=>⟨hs _ hx.1,hx.2⟩,λb hb hn=>h.same b hb λhx=>hn (hs _ hx)⟩
theorem AU.strike{S S':List Nat}{C C':Col}{w w':World}(h:AU S C w C' w')(hs: ∀b,b<w.heap.size->C b∈S->C b∈S'):AU S' C w C' w':=
 ⟨h.os,h.tape,h.output,h.size,λb hb=>(h.col b hb).imp id λhx=>⟨hs b hb hx.1,hx.2⟩,λb hb hn=>h.same b hb λhx=>hn (hs b hb hx)⟩
theorem AU.alloc(S:List Nat)(C:Col)(w:World)(o:Obj)(k:Nat):AU S C w (C.put w.heap.size k) (w.alloc o):=
 ⟨rfl,rfl,rfl,by simp,λb hb=> .inl (by simp [Col.put,Nat.ne_of_lt hb]),λb hb _=>Below.heap_alloc _ _ _ hb⟩
theorem AU.set{S:List Nat}{C:Col}{w:World}{a:Addr}{k:Nat}(hk:C a.block=k)(hs:k∈S)(u:Value):AU S C w C (w.setCell a u):=
 ⟨rfl,rfl,rfl,by simp [World.setCell],λ_ _=> .inl rfl,λb _ hn=>Below.heap_setCell _ _ _ _ λe=>hn (by rw [e,hk];exact hs)⟩
theorem Xd(S:List Nat)(C:Col)(w:World)(n:Nat):AU S C w C {w with drawn:=n}:=⟨rfl,rfl,rfl,Nat.le_refl _,λ_ _=> .inl rfl,λ_ _ _=>rfl⟩
theorem P5{S:List Nat}{C:Col}{w w':World}{row:Option Nat}(h:w.grownBy w' row)(hr: ∀b,row=some b->C b∈S):AU S C w C w':=
 ⟨h.os,h.tape,h.output,h.size,λ_ _=> .inl rfl,λb hb hn=>h.block b hb λe=>hn (hr b e.symm)⟩
theorem AU.of_new{S:List Nat}{C C' C'':Col}{w w':World}(h:AU S C w C' w')(hn: ∀b,b<w.heap.size->C'' b=C' b):AU S C w C'' w':=
 ⟨h.os,h.tape,h.output,h.size,λb hb=>(h.col b hb).imp (hn b hb).trans λhx=>⟨hx.1,(hn b hb).trans hx.2⟩,h.same⟩
theorem AU.freeze{S:List Nat}(C:Col)(w:World){b:Nat}(hb:C b∈S):AU S C w (C.put b 0) w:=
 ⟨rfl,rfl,rfl,Nat.le_refl _,λc _=>by
  by_cases h:c=b
  ·subst h;exact .inr ⟨hb,by simp [Col.put]⟩
  ·exact .inl (by simp [Col.put,h]),λ_ _ _=>rfl⟩
def Col.F(C:Col):Nat->Prop:=λb=>C b=0
structure Bk(C:Col)(w:World)(k b:Nat)(cs:List Value)(T:Nat):Prop where
 col:C b=k
 heap:w.heap[b]?=some (.cells cs.toArray T (0,0))
section
variable{C C':Col}{w w':World}{k b T:Nat}{cs:List Value}{S:List Nat}
theorem Bk.lt(h:Bk C w k b cs T):b<w.heap.size:=lt_of_block h.heap
theorem Bk.cell(h:Bk C w k b cs T){o:Nat}{v:Value}(ho:cs[o]?=some v):w.cell? ⟨b,o,none⟩=some v:=by simp [World.cell?,h.heap,ho]
theorem Bk.free(h:Bk C w k b cs T)(o:Nat):w.frozen? ⟨b,o,none⟩=false:=by simp [World.frozen?,h.heap]
theorem Bk.step(h:Bk C w k b cs T)(s:AU S C w C' w')(hk:k∉S):Bk C' w' k b cs T:=
 ⟨((s.col b h.lt).resolve_right λhx=>hk (by rw [<-h.col];exact hx.1)).trans h.col,(s.same b h.lt (by rw [h.col];exact hk)).trans h.heap⟩
theorem Bk.set(h:Bk C w k b cs T)(o:Nat)(u:Value):Bk C (w.setCell ⟨b,o,none⟩ u) k b (cs.set o u) T:=by
 refine ⟨h.col,?_⟩
 have hlt:=h.lt
 have h':w.heap[b]= .cells cs.toArray T (0,0):=by simpa [Array.getElem?_eq_getElem hlt] using h.heap
 show (w.heap.modify b _)[b]?=_
 rw [Array.getElem?_eq_getElem (by simpa using hlt),Array.getElem_modify_self,h']
 simp
theorem Xe(C:Col)(w:World)(k:Nat)(cs:List Value)(T:Nat):Bk (C.put w.heap.size k) (w.alloc (.cells cs.toArray T)) k w.heap.size cs T:=
 ⟨by simp [Col.put],by show (w.heap.push _)[w.heap.size]?=_;simp⟩
end
structure Kd(α:Type) where
 size:Nat
 rep:(Nat->Prop)->World->List Value->α->Prop
 len: ∀{F w cs x},rep F w cs x->cs.length=size
 ones: ∀{F w cs x},rep F w cs x->∀c∈cs,c.oneCell'=true
 mono: ∀{F F':Nat->Prop} {w w':World} {cs x},rep F w cs x->(∀b,b<w.heap.size->F b->F' b)->(∀b,b<w.heap.size->F b->w'.heap[b]?=w.heap[b]?)->rep F' w' cs x
namespace Kd
def one{α:Type}(f:α->Value)(hf: ∀x,(f x).oneCell'=true):Kd α where
 size:=1
 rep _ _ cs x:=cs=[f x]
 len h:=by subst h;rfl
 ones h:=by subst h;intro c hc;simp at hc;subst hc;exact hf _
 mono h _ _:=h
def int(k:IntKind):Kd Int:=one (Value.int k) λ_=>rfl
def cpx:Kd Cpl:=one (λz=>Value.complex .f64 z.1 z.2) λ_=>rfl
def At(w:World)(b o:Nat)(cs:List Value):Prop:=∀j c,cs[j]?=some c->w.cell? ⟨b,o+j,none⟩=some c
theorem At.mono{w w':World}{b o:Nat}{cs:List Value}(h:At w b o cs)(hs:w'.heap[b]?=w.heap[b]?):At w' b o cs:=
 λj c hj=>(World.cell?_of_block (a:=⟨b,o+j,none⟩) hs).trans (h j c hj)
def Cx{α:Type}(rep:(Nat->Prop)->World->List Value->α->Prop):Prop:=∃F w x,rep F w [.complex .f64 0 0] x
class NoCx{α:Type}(rep:(Nat->Prop)->World->List Value->α->Prop):Prop where
 no: ¬Cx rep
def slcRep{α:Type}(size:Nat)(rep:(Nat->Prop)->World->List Value->α->Prop)(F:Nat->Prop)(w:World)(s:Value)(xs:List α):Prop:=
 ∃a cap,s= .slice a xs.length cap/\xs.length<=cap/\(Cx rep->xs=[]->a=none/\cap=0)/\(xs=[]∨∃b off,a=some ⟨b,off,none⟩/\F b/\b<w.heap.size/\
  ∀(i:Nat) (x:α),xs[i]?=some x->∃cs,rep F w cs x/\cs.length=size/\At w b (off+i*size) cs)
def slc{α:Type}(κ:Kd α):Kd (List α) where
 size:=1
 rep F w cs xs:=∃s,cs=[s]/\slcRep κ.size κ.rep F w s xs
 len:=by rintro F w cs x ⟨s,rfl,_⟩;rfl
 ones:=by rintro F w cs x ⟨s,rfl,a,cap,rfl,_⟩ c hc;simp at hc;subst hc;rfl
 mono:=by
  rintro F F' w w' cs x ⟨s,rfl,a,cap,rfl,hc,hz,h⟩ hF hs
  refine ⟨_,rfl,a,cap,rfl,hc,hz,?_⟩
  rcases h with h| ⟨b,off,ha,hb,hlt,h⟩
  ·exact .inl h
  ·refine .inr ⟨b,off,ha,hF b hlt hb,?_,λi x hx=>?_⟩
   ·have:=hs b hlt hb
    rcases Nat.lt_or_ge b w'.heap.size with h'|h'
    ·exact h'
    ·rw [Array.getElem?_eq_none h',Array.getElem?_eq_getElem hlt] at this;cases this
   ·obtain ⟨cs,hr,hl,hat⟩:=h i x hx
    exact ⟨cs,κ.mono hr hF hs,hl,hat.mono (hs b hlt hb)⟩
theorem At.part{w:World}{b o:Nat}{cs:List Value}(h:At w b o cs)(k:Nat)(cs':List Value)(hk:(cs.drop k).take cs'.length=cs'):At w b (o+k) cs':=λj c hj=>by
 have hlt:=(List.getElem?_eq_some_iff.1 hj).1
 rw [<-hk,List.getElem?_take_of_lt hlt,List.getElem?_drop] at hj
 have:=h _ _ hj
 rwa [<-Nat.add_assoc] at this
theorem step{α:Type}(κ:Kd α){S:List Nat}{C C':Col}{w w':World}{cs:List Value}{x:α}(h:κ.rep C.F w cs x)(s:AU S C w C' w')(h0:0∉S):κ.rep C'.F w' cs x:=
 κ.mono h (λb hb hF=>((s.col b hb).resolve_right λhx=>h0 (by rw [show C b=0 from hF] at hx;exact hx.1)).trans hF) λb hb hF=>s.same b hb (by rw [show C b=0 from hF];exact h0)
end Kd
theorem Bk.part{C:Col}{w:World}{k b T:Nat}{cs:List Value}(h:Bk C w k b cs T)(o:Nat)(cs':List Value)(hk:(cs.drop o).take cs'.length=cs'):Kd.At w b o cs':=λj c hj=>by
 have hlt:=(List.getElem?_eq_some_iff.1 hj).1
 rw [<-hk,List.getElem?_take_of_lt hlt,List.getElem?_drop] at hj
 exact h.cell hj
end Fth
namespace Fth
open Go Go.RowKit
def Ky(P:Program)(T:Nat):Bool:=(match P.underlying T with |some (.struct _)|some (.array _ _)|none=>false|_=>true)&&((P.info? T).map (·.size)==some 1)
def NW(P:Program)(T n:Nat):Bool:=(match P.underlying T with |some (.struct _)|some (.array _ _)=>true|_=>false)&&((P.info? T).map (·.size)==some n)
def EX(P:Program)(T f off:Nat):Bool:=
 match P.underlying T with
 |some (.struct fs)=>match fs[f]? with |some fd=>fd.offset==off&&(match P.info? fd.type with |some i=>i.size != 0|none=>false)|none=>false
 |_=>false
def Rm(P:Program)(T f off:Nat):Bool:=
 match P.underlying T with
 |some (.struct fs)=>match fs[f]? with |some fd=>fd.offset==off&&Ky P fd.type|none=>false
 |_=>false
def X8(P:Program)(T f off n:Nat):Bool:=
 match P.underlying T with
 |some (.struct fs)=>match fs[f]? with |some fd=>fd.offset==off&&NW P fd.type n|none=>false
 |_=>false
def Np(P:Program)(T E n:Nat):Bool:=(match P.underlying T with |some (.slice e)=>e==E|_=>false)&&((P.info? E).map (·.size)==some n)&&n != 0
section
variable{P:Program}{n:Nat}{ops:Array Oper}{Q:Gb}{ρ:Env}{w:World}{l:List Oper}{d:Option Nat}{ty:Nat}{pos:String}{af:Array Edge}{g:Option (Nat×Bool)}{T:Nat}
theorem YY(h:Ky P T=true): ∃t,P.underlying T=some t/\(∀fs,t≠ .struct fs)/\(∀k e,t≠ .array k e)/\∃i,P.info? T=some i/\i.size=1:=by
 unfold Ky at h
 simp only [Bool.and_eq_true,beq_iff_eq,Option.map_eq_some_iff] at h
 obtain ⟨h1,i,hi,hs⟩:=h
 cases hu:P.underlying T with
 |none=>simp [hu] at h1
 |some t=>refine ⟨t,rfl,?_,?_,i,hi,hs⟩<;>(intros;rintro rfl;simp [hu] at h1)
theorem VL{m:Nat}(h:NW P T m=true): ∃t,P.underlying T=some t/\((∃fs,t= .struct fs)∨(∃k e,t= .array k e))/\∃i,P.info? T=some i/\i.size=m:=by
 unfold NW at h
 simp only [Bool.and_eq_true,beq_iff_eq,Option.map_eq_some_iff] at h
 obtain ⟨h1,i,hi,hs⟩:=h
 cases hu:P.underlying T with
 |none=>simp [hu] at h1
 |some t=>
  refine ⟨t,rfl,?_,i,hi,hs⟩
  cases t<;>simp [hu] at h1<;>first|exact .inl ⟨_,rfl⟩|exact .inr ⟨_,_,rfl⟩
theorem P6(h:Ky P T=true)(w:World):(isAgg T).run P w= .ok false w:=by
 obtain ⟨t,ht,h1,h2,_⟩:=YY h
 cases t<;>simp [isAgg,run_underlying ht]<;>first|exact (h1 _ rfl).elim|exact (h2 _ _ rfl).elim
theorem P7{m:Nat}(h:NW P T m=true)(w:World):(isAgg T).run P w= .ok true w:=by
 obtain ⟨t,ht,h1,_⟩:=VL h
 rcases h1 with ⟨fs,rfl⟩| ⟨k,e,rfl⟩<;>simp [isAgg,run_underlying ht]
theorem He{m:Nat}(h:(P.info? T).map (·.size)=some m)(w:World):(Go.sizeOf T).run P w= .ok m w:=by
 obtain ⟨i,hi,hs⟩:=Option.map_eq_some_iff.1 h
 simp [Go.sizeOf,typeInfo,hi,hs]
theorem VM{m:Nat}(h:NW P T m=true):(P.info? T).map (·.size)=some m:=by
 obtain ⟨_,_,_,i,hi,hs⟩:=VL h;simp [hi,hs]
theorem Oe(h:Ky P T=true){a:Addr}{v:Value}(hc:w.cell? a=some v):(loadVar T a).run P w= .ok v w:=by
 simp [loadVar,P6 h,hc]
theorem Of{m b o:Nat}(h:NW P T m=true){cs:List Value}(hl:cs.length=m)(hc:Kd.At w b o cs):(loadVar T ⟨b,o,none⟩).run P w= .ok (.agg cs.toArray) w:=by
 have:=run_loadCells_list (P:=P) w ⟨b,o,none⟩ cs (λj v hj=>by
  have:=hc j v hj
  unfold Addr.add;split
  ·rename_i h0;subst h0;exact this
  ·exact this)
 rw [hl] at this
 simp [loadVar,P7 h,He (VM h),this]
namespace Run
theorem move{x:Operand}{v:Value}(hv:ev ρ x=v):(execOp (ev ρ) ⟨d,.move x,ty,pos,af,g⟩).run P w= .ok (.value v) w:=by subst hv;rfl
theorem assign{x:Operand}{v:Value}(hv:ev ρ x=v):(execOp (ev ρ) ⟨d,.assign x,ty,pos,af,g⟩).run P w= .ok (.value v) w:=by subst hv;rfl
theorem load1{x:Operand}{b o:Nat}{v:Value}(hT:Ky P T=true)(hx:ev ρ x= .pointer (some ⟨b,o,none⟩))(hc:w.cell? ⟨b,o,none⟩=some v):
  (execOp (ev ρ) ⟨d,.load T x,ty,pos,af,g⟩).run P w= .ok (.value v) w:=by
 simp [execOp,Instr.loadAt,hx,Instr.sureAddr,Oe hT hc]
theorem loadN{x:Operand}{b o m:Nat}{cs:List Value}(hT:NW P T m=true)(hx:ev ρ x= .pointer (some ⟨b,o,none⟩))(hl:cs.length=m)(hc:Kd.At w b o cs):
  (execOp (ev ρ) ⟨d,.load T x,ty,pos,af,g⟩).run P w= .ok (.value (.agg cs.toArray)) w:=by
 simp [execOp,Instr.loadAt,hx,Instr.sureAddr,Of hT hl hc]
theorem add_spot(b o k:Nat):(⟨b,o,none⟩:Addr).add k=⟨b,o+k,none⟩:=by
 unfold Addr.add;split
 ·rename_i h0;rw [h0];rfl
 ·rfl
theorem fieldAddr{x:Operand}{f b o off:Nat}(hT:EX P T f off=true)(hx:ev ρ x= .pointer (some ⟨b,o,none⟩)):
  (execOp (ev ρ) ⟨d,.fieldAddr T x f,ty,pos,af,g⟩).run P w= .ok (.value (.pointer (some ⟨b,o+off,none⟩))) w:=by
 unfold EX at hT
 cases hu:P.underlying T with
 |none=>simp [hu] at hT
 |some t=>
  cases t<;>simp [hu] at hT
  rename_i fs
  cases hf:fs[f]? with
  |none=>simp [hf] at hT
  |some fd=>
   simp only [hf,Bool.and_eq_true,beq_iff_eq] at hT
   obtain ⟨h1,h2⟩:=hT
   cases hi:P.info? fd.type with
   |none=>simp [hi] at h2
   |some i=>
    simp only [hi,bne_iff_ne,ne_eq] at h2
    have hsz: ¬i.size=0:=h2
    subst h1
    have hso:=λw=>He (P:=P) (T:=fd.type) (m:=i.size) (by simp [hi]) w
    simp only [execOp,Instr.fieldAt,hx,Instr.sureAddr]
    simp [run_underlying hu,hf,fieldPlace,hso,hsz,add_spot]
theorem nilCheck{x:Operand}{a:Addr}(hx:ev ρ x= .pointer (some a)):(execOp (ev ρ) ⟨d,.nilCheck x,ty,pos,af,g⟩).run P w= .ok (.value (.pointer (some a))) w:=by simp [execOp,hx]
theorem indexAddr{x ix:Operand}{b off E m len cap:Nat}{i:Int}{k:IntKind}(hT:Np P T E m=true)
  (hx:ev ρ x= .slice (some ⟨b,off,none⟩) len cap) (hi:ev ρ ix= .int k i) (h0:0<=i) (h1:i<len):
  (execOp (ev ρ) ⟨d,.indexAddr T x ix,ty,pos,af,g⟩).run P w= .ok (.value (.pointer (some ⟨b,off+i.toNat*m,none⟩))) w:=by
 unfold Np at hT
 simp only [Bool.and_eq_true,beq_iff_eq] at hT
 obtain ⟨⟨hT,hs⟩,hm⟩:=hT
 cases hu:P.underlying T with
 |none=>simp [hu] at hT
 |some t=>
  cases t<;>simp [hu] at hT
  subst hT
  simp [execOp,Instr.indexAt,hx,hi,asIntOf,run_underlying hu,h0,h1,He hs,add_spot]
theorem indexStr{x ix:Operand}{s:ByteArray}{i:Int}{k:IntKind}{c:UInt8}(hT:P.underlying T=some .string)(hx:ev ρ x= .string s)(hi:ev ρ ix= .int k i)(h0:0<=i)(hc:s[i.toNat]?=some c):
  (execOp (ev ρ) ⟨d,.index T x ix,ty,pos,af,g⟩).run P w= .ok (.value (.int .u8 c.toNat)) w:=by
 simp [execOp,Instr.index,hx,hi,asIntOf,run_underlying hT,h0,hc]
theorem alloc{E:Nat}{z:Value}{cs:List Value}(hz:(P.info? E).map (·.zero)=some (some z))(hc:z.cells=cs.toArray):
  (execOp (ev ρ) ⟨d,.alloc E,ty,pos,af,g⟩).run P w= .ok (.value (.pointer (some ⟨w.heap.size,0,none⟩))) (w.alloc (.cells cs.toArray E)):=by
 obtain ⟨i,hi,hs⟩:=Option.map_eq_some_iff.1 hz
 rw [<-hc]
 simp [execOp,Instr.alloc,zeroValue,typeInfo,hi,hs,newVar,newRow]
theorem box{E:Nat}{x:Operand}{v:Value}{cs:List Value}(hx:ev ρ x=v)(hv:v.cells=cs.toArray):
  (execOp (ev ρ) ⟨d,.box E x,ty,pos,af,g⟩).run P w= .ok (.value (.pointer (some ⟨w.heap.size,0,none⟩))) (w.alloc (.cells cs.toArray E)):=by
 rw [<-hv];simp [execOp,Instr.box,hx,newVar,newRow]
end Run
end
end Fth
namespace Fth
open Go
section
variable{P:Program}{ops:Array Oper}{Q:Exit->Act->World->Prop}{md:Region.Mode}{S:World->Prop}{E:Nat->Bool}
def S5(E:Nat->Bool)(listed:Array Bool):Prop:=∀t,E t=true->listed.getD t true=false
def RB(P:Program)(md:Region.Mode)(ops:Array Oper)(Q:Exit->Act->World->Prop)(S:World->Prop)(E:Nat->Bool):Nat->Array Bool->Act->World->Prop
 |0,listed,a,w=>Region.ready md ops listed=[]/\Q .normal a w
 |fuel+1,listed,a,w=>
  (Region.ready md ops listed=[]->Q .normal a w)/\
  ∀i∈Region.ready md ops listed,wpOp P ops Q i (λa' w'=>(S5 E (listed.setIfInBounds i true)->S w')/\RB P md ops Q S E fuel (listed.setIfInBounds i true) a' w') a w
theorem S6: ∀(fuel:Nat) (listed:Array Bool) (a:Act) (w:World),RB P md ops Q S E fuel listed a w->wpAny P md ops Q fuel listed a w
 |0,_,_,_,h=>h
 |fuel+1,_,_,_,h=>⟨h.1,λi hi=>wpOp_mono (λa' w' h'=>S6 fuel _ a' w' h'.2) (h.2 i hi)⟩
theorem Mj{listed:Array Bool}{i:Nat}(h:listed.getD i true=false):(listed.setIfInBounds i true).getD i true=true:=by
 rcases Nat.lt_or_ge i listed.size with h'|h'
 ·simp [h']
 ·simp [Array.getElem?_eq_none h'] at h
theorem P8: ∀(fuel:Nat) (listed:Array Bool) (a:Act) (w:World),(∀j,listed.getD j true=false->E j=true)->wpAny P md ops Q fuel listed a w->RB P md ops Q S E fuel listed a w
 |0,_,_,_,_,h=>h
 |fuel+1,listed,_,_,hE,h=>⟨h.1,λi hi=>wpOp_mono (λa' w' h'=>by
   have hun:=(mem_ready.1 hi).1
   refine ⟨λhno=>?_,P8 fuel _ a' w' (λj hj=>?_) h'⟩
   ·have:=hno i (hE i hun);rw [Mj hun] at this;cases this
   ·by_cases hij:i=j
    ·subst hij;rw [Mj hun] at hj;cases hj
    ·rw [getD_set_ne true hij] at hj;exact hE j hj) (h.2 i hi)⟩
theorem Vi{i:Nat}{oi:Oper}{v:Value}(hi:ops[i]?=some oi)(hsel: ∀(j:Nat) (o:Oper) cs b,ops[j]?=some o->o.op≠ .select cs b)
  (hQ: ∀c a w,Q (.panic c) (a.put oi.dst v) w->Q (.panic c) a w) (hE:E i=false)
  (hwait: ∀t ot,E t=true->ops[t]?=some ot->∃e∈ot.after,Region.binds md e=true/\e.on=i):
  ∀(fuel:Nat) (listed:Array Bool) (a:Act) (w:World),
   (∀j oj,ops[j]?=some oj->j≠i->listed.getD j true=false->(∀e∈oj.after,Region.binds md e=true->e.on≠i)->oi.apart ops oj=true)->
   i∈Region.ready md ops listed->YieldsIf P ops S oi v a->S w->S5 E listed->
   RB P md ops Q S E fuel (listed.setIfInBounds i true) (a.put oi.dst v) w->RB P md ops Q S E (fuel+1) listed a w:=by
 intro fuel
 induction fuel with
 |zero=>
  intro listed a w _ hr hy hS _ H
  refine ⟨λh=>(by rw [h] at hr;cases hr),λj hj=>?_⟩
  by_cases hji:j=i
  ·subst hji;exact hy.wpOp hi hS ⟨λ_=>hS,H⟩
  ·have:=ready_mono hj hji
   rw [H.1] at this
   cases this
 |succ fuel ih=>
  intro listed a w hfree hr hy hS hno H
  refine ⟨λh=>(by rw [h] at hr;cases hr),λj hj=>?_⟩
  by_cases hji:j=i
  ·subst hji;exact hy.wpOp hi hS ⟨λ_=>hS,H⟩
  ·have h1:=H.2 j (ready_mono hj hji)
   obtain ⟨hjun,oj,hoj,hall⟩:=mem_ready.1 hj
   have hiun:=(mem_ready.1 hr).1
   have hnot: ∀e∈oj.after,Region.binds md e=true->e.on≠i:=λe he hb heq=>by
    have h1:=hall e he hb
    have h0:=hiun
    rw [heq] at h1
    rcases Nat.lt_or_ge i listed.size with h'|h'
    ·simp [h'] at h0 h1;rw [h0] at h1;cases h1
    ·simp [Array.getElem?_eq_none h'] at h1
   have hEj:E j=false:=by
    cases hEj:E j with
    |false=>rfl
    |true=>
     obtain ⟨e,he,hb,hon⟩:=hwait j oj hEj hoj
     exact absurd hon (hnot e he hb)
   have h2:=wpOp_putIf hoj (hfree j oj hoj hji hjun hnot) (λcs b=>hsel i oi cs b hi) (λcs b=>hsel j oj cs b hoj) hQ hy h1
   have hfree': ∀k ok,ops[k]?=some ok->k≠i->(listed.setIfInBounds j true).getD k true=false->
     (∀e∈ok.after,Region.binds md e=true->e.on≠i)->oi.apart ops ok=true:=λk ok hk hki hun hno=>by
    refine hfree k ok hk hki ?_ hno
    by_cases hjk:j=k
    ·subst hjk;exact hjun
    ·rw [getD_set_ne true hjk] at hun;exact hun
   have hnoj:S5 E (listed.setIfInBounds j true):=λt ht=>by
    have:j≠t:=λe=>by subst e;rw [hEj] at ht;cases ht
    rw [getD_set_ne true this];exact hno t ht
   have hnoij:S5 E ((listed.setIfInBounds i true).setIfInBounds j true):=λt ht=>by
    have h1:j≠t:=λe=>by subst e;rw [hEj] at ht;cases ht
    have h2:i≠t:=λe=>by subst e;rw [hE] at ht;cases ht
    rw [getD_set_ne true h1,getD_set_ne true h2];exact hno t ht
   refine wpOp_mono (λa' w' h3=>⟨λ_=>h3.2.1 hnoij,ih (listed.setIfInBounds j true) a' w' hfree' (ready_mono hr (Ne.symm hji)) h3.1 (h3.2.1 hnoij) hnoj ?_⟩) h2
   rw [Array.setIfInBounds_comm _ _ hji]
   exact h3.2.2
end
section
variable{P:Program}{ds:List Deferred}{n:Nat}{ops:Array Oper}{Q:Gb}{ρ:Env}{w:World}{S:World->Prop}{E:List Nat}{f:Nat}{listed:Array Bool}
def WT(P:Program)(ds:List Deferred)(n:Nat)(ops:Array Oper)(Q:Gb)(S:World->Prop)(E:List Nat)(f:Nat)(listed:Array Bool)(ρ:Env)(w:World):Prop:=
 ∀a,Hm ds n a ρ->RB P .any ops (Wt ds n Q) S (λt=>E.contains t) f listed a w
def WA(P:Program)(ds:List Deferred)(n:Nat)(ops:Array Oper)(Q:Gb)(f:Nat)(listed:Array Bool)(ρ:Env)(w:World):Prop:=
 ∀a,Hm ds n a ρ->wpAny P .any ops (Wt ds n Q) f listed a w
def M9(Q:Gb):Prop:=∀c ρ ρ' w,Q (.panic c) ρ w->Q (.panic c) ρ' w
theorem Xf(hP:M9 Q){d:Option Nat}{v:Value}: ∀c a w,Wt ds n Q (.panic c) (a.put d v) w->Wt ds n Q (.panic c) a w:=by
 rintro c a w ⟨r,hr,h⟩
 refine ⟨λt=>a.tmps.getD t undef,⟨?_,λ_=>rfl,?_⟩,hP _ _ _ _ h⟩
 ·have:=hr.size;cases d<;>simpa [Act.put] using this
 ·have:=hr.defers;cases d<;>simpa [Act.put] using this
inductive Tr where
 |nil
 |q (i:Nat) (r:Tr)
 |one (i:Nat) (r:Tr)
 |two (i j:Nat) (r s:Tr)
 |three (i j k:Nat) (r s t:Tr)
def Tr.depth:Tr->Nat
 | .nil=>0
 | .q _ r| .one _ r| .two _ _ r _| .three _ _ _ r _ _=>r.depth+1
def Tr.has:Tr->Nat->Bool
 | .nil,_=>false
 | .q i r,k| .one i r,k| .two i _ r _,k| .three i _ _ r _ _,k=>Nat.beq i k||r.has k
def Tr.all(p:Nat->Bool):Tr->Bool
 | .nil=>true
 | .q i r| .one i r=>p i&&r.all p
 | .two i j r s=>p i&&p j&&r.all p&&s.all p
 | .three i j k r s t=>p i&&p j&&p k&&r.all p&&s.all p&&t.all p
def Tr.ok(ops:Array Oper):Tr->Array Bool->Bool
 | .nil,L=>(Region.ready .any ops L).isEmpty
 | .q i r,L=>Region.free .any ops L i&&(Region.ready .any ops L).contains i&&r.ok ops (L.setIfInBounds i true)
 | .one i r,L=>decide (Region.ready .any ops L=[i])&&r.ok ops (L.setIfInBounds i true)
 | .two i j r s,L=>decide (Region.ready .any ops L=[i,j])&&r.ok ops (L.setIfInBounds i true)&&s.ok ops (L.setIfInBounds j true)&&Nat.beq r.depth s.depth&&
   (List.range ops.size).all λk=>L.getD k true||Nat.beq j k||s.has k
 | .three i j k r s t,L=>decide (Region.ready .any ops L=[i,j,k])&&r.ok ops (L.setIfInBounds i true)&&(s.ok ops (L.setIfInBounds j true)&&Nat.beq r.depth s.depth&&
   (List.range ops.size).all λn=>L.getD n true||Nat.beq j n||s.has n)&&(t.ok ops (L.setIfInBounds k true)&&Nat.beq r.depth t.depth&&
   (List.range ops.size).all λn=>L.getD n true||Nat.beq k n||t.has n)
def S7(ops:Array Oper)(E:List Nat):Bool:=
 Region.noSelect ops&&E.all λt=>match ops[t]? with
  |some ot=>(List.range ops.size).all λi=>E.contains i||ot.after.any λe=>Region.binds .any e&&e.on==i
  |none=>false
theorem Xg(h:S7 ops E=true){i:Nat}{oi:Oper}(hi:ops[i]?=some oi)(hE:E.contains i=false)(t:Nat)(ot:Oper)(ht:E.contains t=true)(hot:ops[t]?=some ot):
  ∃e∈ot.after,Region.binds .any e=true/\e.on=i:=by
 simp only [S7,Bool.and_eq_true,List.all_eq_true] at h
 have h1:=h.2 t (by simpa using ht)
 simp only [hot,List.all_eq_true,List.mem_range,Bool.or_eq_true] at h1
 rcases h1 i (Array.getElem?_eq_some_iff.1 hi).1 with h2|h2
 ·rw [hE] at h2;cases h2
 ·obtain ⟨e,he,hb⟩:=Array.any_eq_true'.1 h2
  simp only [Bool.and_eq_true,beq_iff_eq] at hb
  exact ⟨e,he,hb.1,hb.2⟩
theorem VN(h:S7 ops E=true):Region.noSelect ops=true:=by simp only [S7,Bool.and_eq_true] at h;exact h.1
structure Ord(ops:Array Oper)(E:List Nat)(r:Tr)(listed:Array Bool):Prop where
 ord:r.ok ops listed=true
 tail:S7 ops E=true
 no:S5 (λt=>E.contains t) listed
 left: ∀j,listed.getD j true=false->r.has j=true
theorem Qc{i:Nat}{r t:Tr}(ht:t= .q i r∨t= .one i r∨(∃j s,t= .two i j r s)∨∃j k s u,t= .three i j k r s u)(h:t.ok ops listed=true):r.ok ops (listed.setIfInBounds i true)=true/\i∈Region.ready .any ops listed:=by
 rcases ht with rfl|rfl| ⟨j,s,rfl⟩| ⟨j,k,s,u,rfl⟩<;>simp only [Tr.ok,Bool.and_eq_true,decide_eq_true_eq] at h
 ·exact ⟨h.2,by simpa using h.1.2⟩
 ·exact ⟨h.2,by rw [h.1];simp⟩
 ·exact ⟨h.1.1.1.2,by rw [h.1.1.1.1];simp⟩
 ·exact ⟨h.1.1.2,by rw [h.1.1.1];simp⟩
theorem Ord.next{i:Nat}{r t:Tr}(ht:t= .q i r∨t= .one i r∨(∃j s,t= .two i j r s)∨∃j k s u,t= .three i j k r s u)(h:Ord ops E t listed)(hE:E.contains i=false):Ord ops E r (listed.setIfInBounds i true):=by
 obtain ⟨h1,h2⟩:=Qc ht h.ord
 refine ⟨h1,h.tail,λt ht=>?_,λj hj=>?_⟩
 ·have:i≠t:=λe=>by subst e;have ht':E.contains i=true:=ht;rw [hE] at ht';cases ht'
  rw [getD_set_ne true this];exact h.no t ht
 ·by_cases hij:i=j
  ·subst hij
   rw [Mj (mem_ready.1 h2).1] at hj;cases hj
  ·rw [getD_set_ne true hij] at hj
   have:=h.left j hj
   have hb:Nat.beq i j=false:=Bool.eq_false_iff.2 λh=>hij (Nat.eq_of_beq_eq_true h)
   rcases ht with rfl|rfl| ⟨_,_,rfl⟩| ⟨_,_,_,_,rfl⟩<;>simpa [Tr.has,hb] using this
theorem N8{ops:Array Oper}{j:Nat}: ∀{t:Tr} {L:Array Bool},t.has j=true->t.ok ops L=true->j<ops.size
 | .nil,_,h,_=>by simp [Tr.has] at h
 | .q i r,L,h,ho=>by
  obtain ⟨h1,h2⟩:=Qc (.inl rfl) ho
  simp only [Tr.has,Bool.or_eq_true] at h
  rcases h with h|h
  ·have:=Nat.eq_of_beq_eq_true h;subst this
   obtain ⟨_,o,hoo,_⟩:=mem_ready.1 h2
   exact (Array.getElem?_eq_some_iff.1 hoo).1
  ·exact N8 h h1
 | .one i r,L,h,ho=>by
  obtain ⟨h1,h2⟩:=Qc (.inr (.inl rfl)) ho
  simp only [Tr.has,Bool.or_eq_true] at h
  rcases h with h|h
  ·have:=Nat.eq_of_beq_eq_true h;subst this
   obtain ⟨_,o,hoo,_⟩:=mem_ready.1 h2
   exact (Array.getElem?_eq_some_iff.1 hoo).1
  ·exact N8 h h1
 | .two i k r s,L,h,ho=>by
  obtain ⟨h1,h2⟩:=Qc (.inr (.inr (.inl ⟨_,_,rfl⟩))) ho
  simp only [Tr.has,Bool.or_eq_true] at h
  rcases h with h|h
  ·have:=Nat.eq_of_beq_eq_true h;subst this
   obtain ⟨_,o,hoo,_⟩:=mem_ready.1 h2
   exact (Array.getElem?_eq_some_iff.1 hoo).1
  ·exact N8 h h1
 | .three i _ _ r _ _,L,h,ho=>by
  obtain ⟨h1,h2⟩:=Qc (.inr (.inr (.inr ⟨_,_,_,_,rfl⟩))) ho
  simp only [Tr.has,Bool.or_eq_true] at h
  rcases h with h|h
  ·have:=Nat.eq_of_beq_eq_true h;subst this
   obtain ⟨_,o,hoo,_⟩:=mem_ready.1 h2
   exact (Array.getElem?_eq_some_iff.1 hoo).1
  ·exact N8 h h1
theorem Ord.other{k:Nat}{s t:Tr}(h:Ord ops E t listed)(hk:k∈Region.ready .any ops listed)(h3:s.ok ops (listed.setIfInBounds k true)=true)(h5:((List.range ops.size).all λn=>listed.getD n true||Nat.beq k n||s.has n)=true)(hE:E.contains k=false):Ord ops E s (listed.setIfInBounds k true):=by
 refine ⟨h3,h.tail,λt ht=>?_,λj hj=>?_⟩
 ·have:k≠t:=λe=>by subst e;have ht':E.contains k=true:=ht;rw [hE] at ht';cases ht'
  rw [getD_set_ne true this];exact h.no t ht
 ·by_cases hij:k=j
  ·subst hij
   rw [Mj (mem_ready.1 hk).1] at hj;cases hj
  ·rw [getD_set_ne true hij] at hj
   have hb:Nat.beq k j=false:=Bool.eq_false_iff.2 λh=>hij (Nat.eq_of_beq_eq_true h)
   have hlt:j<ops.size:=N8 (h.left j hj) h.ord
   have:=List.all_eq_true.1 h5 j (List.mem_range.2 hlt)
   simpa [hj,hb] using this
theorem Ord.next2{i k:Nat}{r s:Tr}(h:Ord ops E (.two i k r s) listed)(hE:E.contains k=false):Ord ops E s (listed.setIfInBounds k true)/\r.depth=s.depth:=by
 have ho:=h.ord
 simp only [Tr.ok,Bool.and_eq_true,decide_eq_true_eq] at ho
 obtain ⟨⟨⟨⟨h1,h2⟩,h3⟩,h4⟩,h5⟩:=ho
 exact ⟨h.other (by rw [h1];simp) h3 h5 hE,Nat.eq_of_beq_eq_true h4⟩
theorem Ord.next3{i k l:Nat}{r s t:Tr}(h:Ord ops E (.three i k l r s t) listed)(hE:E.contains k=false)(hE':E.contains l=false):
  (Ord ops E s (listed.setIfInBounds k true)/\r.depth=s.depth)/\Ord ops E t (listed.setIfInBounds l true)/\r.depth=t.depth:=by
 have ho:=h.ord
 simp only [Tr.ok,Bool.and_eq_true,decide_eq_true_eq] at ho
 obtain ⟨⟨⟨h1,h2⟩,⟨h3,h4⟩,h5⟩,⟨h6,h7⟩,h8⟩:=ho
 exact ⟨⟨h.other (by rw [h1];simp) h3 h5 hE,Nat.eq_of_beq_eq_true h4⟩,h.other (by rw [h1];simp) h6 h8 hE',Nat.eq_of_beq_eq_true h7⟩
def Sd(S:List Nat)(C:Col)(w:World):World->Prop:=λw'=>∃C',AU S C w C' w'
def WX(P:Program)(ds:List Deferred)(n:Nat)(ops:Array Oper)(Q:Gb)(S:World->Prop)(E:List Nat)(r:Tr)(ρ:Env)(w:World):Prop:=
 ∀listed,Ord ops E r listed->S w->WT P ds n ops Q S E r.depth listed ρ w
def WY(P:Program)(ds:List Deferred)(n:Nat)(ops:Array Oper)(Q:Gb)(r:Tr)(ρ:Env)(w:World):Prop:=
 ∀listed,Region.noSelect ops=true->r.ok ops listed=true->WA P ds n ops Q r.depth listed ρ w
theorem BZ{id:Nat}{l:List Oper}(hm:P.follows .mixedOrders=true)(r:Tr)(E S:List Nat)(C:Col)
  (hB:(r.ok l.toArray (Array.replicate l.length false)&&S7 l.toArray E&&Nat.beq r.depth l.length&&(List.range l.length).all λj=>r.has j)=true)
  (h: ∀w',AU [] C w C w'->WX P ds n l.toArray Q (Sd S C w') E r ρ w'):WC P ds n (.region id l.toArray true) Q ρ w:=by
 intro a ha
 simp only [Bool.and_eq_true] at hB
 obtain ⟨⟨⟨h1,h2⟩,h3⟩,h4⟩:=hB
 have h3:=Nat.eq_of_beq_eq_true h3
 refine wp_region_any hm (S6 _ _ _ _ (S:=Sd S C {w with drawn:=w.drawn+1}) (E:=λt=>E.contains t) ?_)
 have:=h {w with drawn:=w.drawn+1} (Xd _ _ _ _) (Array.replicate l.length false) ⟨h1,h2,λt ht=>?_,λj hj=>?_⟩ ⟨C,AU.refl _ _ _⟩ a ha
 ·simpa [h3] using this
 ·simp only [S7,Bool.and_eq_true,List.all_eq_true] at h2
  have h5:=h2.2 t (by simpa using ht)
  cases hot:l.toArray[t]? with
  |none=>simp [hot] at h5
  |some ot=>
   have:t<l.length:=by simpa using (Array.getElem?_eq_some_iff.1 hot).1
   simp [this]
 ·have hj':j<l.length:=by
   rcases Nat.lt_or_ge j l.length with h'|h'
   ·exact h'
   ·simp [h'] at hj
  exact List.all_eq_true.1 h4 j (List.mem_range.2 hj')
section
variable{i j:Nat}{r s:Tr}{o:Oper}
theorem Wv{v:Value}(hP:M9 Q)(ho:ops[i]?=some o)(hE:E.contains i=false)(hy: ∀a,Hm ds n a ρ->YieldsIf P ops S o v a){ρ':Env}(hρ: ∀a,Hm ds n a ρ->Hm ds n (a.put o.dst v) ρ')
  (h:WX P ds n ops Q S E r ρ' w):WX P ds n ops Q S E (.q i r) ρ w:=by
 intro listed hO hS a ha
 have hB:=hO.ord
 simp only [Tr.ok,Bool.and_eq_true] at hB
 exact Vi ho (Region.noSelect_spec (VN hO.tail)) (Xf hP) hE (λt ot ht hot=>Xg hO.tail ho hE t ot ht hot) r.depth listed a w (Region.free_spec ho hB.1.1) (by simpa using hB.1.2) (hy a ha) hS hO.no
  (h _ (hO.next (.inl rfl) hE) hS _ (hρ a ha))
theorem Ww{d:Nat}{v:Value}(hP:M9 Q)(ho:ops[i]?=some o)(hE:E.contains i=false)(hg:Hn ops ρ n o true)(hd:o.dst=some d)(hn:Nat.blt d n=true)
  (hr: ∀w,S w->(execOp (ev ρ) o).run P w= .ok (.value v) w) (h:WX P ds n ops Q S E r (ρ.put d v) w):WX P ds n ops Q S E (.q i r) ρ w:=
 Wv (v:=v) hP ho hE (λa ha=> .inl ⟨hg.wanted ha,λw hw=>by rw [ha.eval];exact hr w hw⟩) (λa ha=>by rw [hd];exact ha.put hn v) h
theorem AAU{d:Nat}(hP:M9 Q)(ho:ops[i]?=some o)(hE:E.contains i=false)(hg:Hn ops ρ n o false)(hd:o.dst=some d)(hn:Nat.blt d n=true)
  (h:WX P ds n ops Q S E r (ρ.put d undef) w):WX P ds n ops Q S E (.q i r) ρ w:=
 Wv (v:=undef) hP ho hE (λa ha=> .inr ⟨hg.wanted ha,rfl⟩) (λa ha=>by rw [hd];exact ha.put hn undef) h
theorem Vj{j:Nat}(h:Region.ready .any ops listed=[i])(hj:j∈Region.ready .any ops listed):j=i:=by rw [h] at hj;simpa using hj
def BI(P:Program)(ds:List Deferred)(n:Nat)(ops:Array Oper)(i:Nat)(K:Env->World->Prop)(ρ:Env)(w:World):Prop:=
 ∀(Q:Gb) a,Hm ds n a ρ->wpOp P ops (Wt ds n Q) i (λa' w'=>∃ρ',Hm ds n a' ρ'/\K ρ' w') a w
theorem A2(hE:E.contains i=false)(h:BI P ds n ops i (λρ' w'=>S w'/\WX P ds n ops Q S E r ρ' w') ρ w):WX P ds n ops Q S E (.one i r) ρ w:=by
 intro listed hO hS a ha
 have hB:=hO.ord
 simp only [Tr.ok,Bool.and_eq_true,decide_eq_true_eq] at hB
 refine ⟨λh0=>(by rw [hB.1] at h0;cases h0),λj hj=>?_⟩
 have:=Vj hB.1 hj;subst this
 exact wpOp_mono (λa' w' ⟨ρ',ha',hS',hX⟩=>⟨λ_=>hS',hX _ (hO.next (.inr (.inl rfl)) hE) hS' a' ha'⟩) (h Q a ha)
theorem Nq(hE:E.contains i=false)(hE':E.contains j=false)(h:BI P ds n ops i (λρ' w'=>S w'/\WX P ds n ops Q S E r ρ' w') ρ w)(h':BI P ds n ops j (λρ' w'=>S w'/\WX P ds n ops Q S E s ρ' w') ρ w):WX P ds n ops Q S E (.two i j r s) ρ w:=by
 intro listed hO hS a ha
 have hB:=hO.ord
 simp only [Tr.ok,Bool.and_eq_true,decide_eq_true_eq] at hB
 refine ⟨λh0=>(by rw [hB.1.1.1.1] at h0;cases h0),λk hk=>?_⟩
 rw [hB.1.1.1.1] at hk
 simp only [List.mem_cons,List.not_mem_nil,or_false] at hk
 rcases hk with rfl|rfl
 ·exact wpOp_mono (λa' w' ⟨ρ',ha',hS',hX⟩=>⟨λ_=>hS',hX _ (hO.next (.inr (.inr (.inl ⟨_,_,rfl⟩))) hE) hS' a' ha'⟩) (h Q a ha)
 ·obtain ⟨hO',hd⟩:=hO.next2 hE'
  exact wpOp_mono (λa' w' ⟨ρ',ha',hS',hX⟩=>⟨λ_=>hS',by have:=hX _ hO' hS' a' ha';rw [<-hd] at this;exact this⟩) (h' Q a ha)
theorem Wx{k:Nat}{t:Tr}(hE:E.contains i=false)(hE':E.contains j=false)(hE'':E.contains k=false)(h:BI P ds n ops i (λρ' w'=>S w'/\WX P ds n ops Q S E r ρ' w') ρ w)(h':BI P ds n ops j (λρ' w'=>S w'/\WX P ds n ops Q S E s ρ' w') ρ w)
  (h'':BI P ds n ops k (λρ' w'=>S w'/\WX P ds n ops Q S E t ρ' w') ρ w):WX P ds n ops Q S E (.three i j k r s t) ρ w:=by
 intro listed hO hS a ha
 have hB:=hO.ord
 simp only [Tr.ok,Bool.and_eq_true,decide_eq_true_eq] at hB
 refine ⟨λh0=>(by rw [hB.1.1.1] at h0;cases h0),λm hm=>?_⟩
 rw [hB.1.1.1] at hm
 simp only [List.mem_cons,List.not_mem_nil,or_false] at hm
 obtain ⟨⟨hO',hd⟩,hO'',hd'⟩:=hO.next3 hE' hE''
 rcases hm with rfl|rfl|rfl
 ·exact wpOp_mono (λa' w' ⟨ρ',ha',hS',hX⟩=>⟨λ_=>hS',hX _ (hO.next (.inr (.inr (.inr ⟨_,_,_,_,rfl⟩))) hE) hS' a' ha'⟩) (h Q a ha)
 ·exact wpOp_mono (λa' w' ⟨ρ',ha',hS',hX⟩=>⟨λ_=>hS',by have:=hX _ hO' hS' a' ha';rw [<-hd] at this;exact this⟩) (h' Q a ha)
 ·exact wpOp_mono (λa' w' ⟨ρ',ha',hS',hX⟩=>⟨λ_=>hS',by have:=hX _ hO'' hS' a' ha';rw [<-hd'] at this;exact this⟩) (h'' Q a ha)
theorem E3(hr:(r.all λx=>E.contains x)=true)(h:WY P ds n ops Q r ρ w):WX P ds n ops Q S E r ρ w:=by
 intro listed hO _ a ha
 refine P8 _ _ _ _ (λj hj=>?_) (h listed (VN hO.tail) hO.ord a ha)
 exact all_has hr (hO.left j hj)
where
 all_has {p:Nat->Bool} {j:Nat}: ∀{t:Tr},t.all p=true->t.has j=true->p j=true
  | .nil,_,h=>by simp [Tr.has] at h
  | .q i r,ha,h=>by
   simp only [Tr.all,Bool.and_eq_true] at ha
   simp only [Tr.has,Bool.or_eq_true] at h
   rcases h with h|h
   ·have:=Nat.eq_of_beq_eq_true h;subst this;exact ha.1
   ·exact all_has ha.2 h
  | .one i r,ha,h=>by
   simp only [Tr.all,Bool.and_eq_true] at ha
   simp only [Tr.has,Bool.or_eq_true] at h
   rcases h with h|h
   ·have:=Nat.eq_of_beq_eq_true h;subst this;exact ha.1
   ·exact all_has ha.2 h
  | .two i k r s,ha,h=>by
   simp only [Tr.all,Bool.and_eq_true] at ha
   simp only [Tr.has,Bool.or_eq_true] at h
   rcases h with h|h
   ·have:=Nat.eq_of_beq_eq_true h;subst this;exact ha.1.1.1
   ·exact all_has ha.1.2 h
  | .three i _ _ r _ _,ha,h=>by
   simp only [Tr.all,Bool.and_eq_true] at ha
   simp only [Tr.has,Bool.or_eq_true] at h
   rcases h with h|h
   ·have:=Nat.eq_of_beq_eq_true h;subst this;exact ha.1.1.1.1.1
   ·exact all_has ha.1.1.2 h
theorem WY.nil(h:Q .normal ρ w):WY P ds n ops Q .nil ρ w:=λlisted _ hB a ha=>⟨by simpa [Tr.ok] using hB,ρ,ha,h⟩
theorem CA(h:Q .normal ρ w):WX P ds n ops Q S E .nil ρ w:=λlisted hO _ a ha=>⟨by simpa [Tr.ok] using hO.ord,ρ,ha,h⟩
theorem WY.one(h:BI P ds n ops i (λρ' w'=>WY P ds n ops Q r ρ' w') ρ w):WY P ds n ops Q (.one i r) ρ w:=by
 intro listed hs hB a ha
 simp only [Tr.ok,Bool.and_eq_true,decide_eq_true_eq] at hB
 refine ⟨λh0=>(by rw [hB.1] at h0;cases h0),λj hj=>?_⟩
 have:=Vj hB.1 hj;subst this
 exact wpOp_mono (λa' w' ⟨ρ',ha',hX⟩=>hX _ hs hB.2 a' ha') (h Q a ha)
theorem ZD{K:Env->World->Prop}{d:Nat}{v:Value}{w':World}(ho:ops[i]?=some o)(hg:Hn ops ρ n o true)(hd:o.dst=some d)(hn:Nat.blt d n=true)
  (hr:(execOp (ev ρ) o).run P w= .ok (.value v) w') (h:K (ρ.put d v) w'):BI P ds n ops i K ρ w:=by
 intro Q a ha
 unfold wpOp
 simp only [ho,hg.wanted ha,if_true]
 refine .inl ?_
 unfold Oper.wp
 rw [ha.eval,hr,Oper.upon_value,hd]
 exact ⟨_,ha.put hn v,h⟩
theorem YZ{K:Env->World->Prop}{w':World}(ho:ops[i]?=some o)(hg:Hn ops ρ n o true)(hd:o.dst=none)
  (hr:(execOp (ev ρ) o).run P w= .ok .skip w') (h:K ρ w'):BI P ds n ops i K ρ w:=by
 intro Q a ha
 unfold wpOp
 simp only [ho,hg.wanted ha,if_true]
 refine .inl ?_
 unfold Oper.wp
 rw [ha.eval,hr,Oper.upon_skip,hd]
 exact ⟨_,ha,h⟩
theorem LY{K:Env->World->Prop}{d:Nat}(ho:ops[i]?=some o)(hg:Hn ops ρ n o false)(hd:o.dst=some d)(hn:Nat.blt d n=true)(h:K (ρ.put d undef) w):BI P ds n ops i K ρ w:=by
 intro Q a ha
 unfold wpOp
 simp only [ho,hg.wanted ha,hd]
 exact ⟨_,ha.put hn undef,h⟩
theorem A4{K:Env->World->Prop}{d f:Nat}{args:Array Value}{w':World}(ho:ops[i]?=some o)(hg:Hn ops ρ n o true)(hd:o.dst=some d)(hn:Nat.blt d n=true)
  (hr:(execOp (ev ρ) o).run P w= .ok (.enter f args) w') (h:Calls P f args w' λe w''=>∃v,e= .returned v/\K (ρ.put d v) w''):BI P ds n ops i K ρ w:=by
 intro Q a ha
 unfold wpOp
 simp only [ho,hg.wanted ha,if_true]
 refine .inl ?_
 unfold Oper.wp
 rw [ha.eval,hr,Oper.upon_enter,hd]
 exact h.mono λe w'' ⟨v,he,hw⟩=>by subst he;exact ⟨_,ha.put hn v,hw⟩
end
end
end Fth
namespace Fth
open Go Go.RowKit
def bs(l:List UInt8):ByteArray:=⟨l.toArray⟩
theorem Pp(l:List UInt8):(bs l).toList=l:=by
 exact ByteArray.toList_mk l
theorem NZ(l:List UInt8):(bs l).size=l.length:=by simp [bs,ByteArray.size]
theorem Ya(l m:List UInt8):bs l++bs m=bs (l++m):=by
 apply ByteArray.ext
 simp [bs]
theorem ABf(l:List UInt8)(i:Nat):(bs l)[i]?=l[i]?:=by
 by_cases h:i<l.length
 ·have h':i< (bs l).size:=by rw [NZ];exact h
  rw [getElem?_pos (bs l) i h',List.getElem?_eq_getElem h];rfl
 ·have h': ¬i< (bs l).size:=by rw [NZ];exact h
  rw [getElem?_neg (bs l) i h',List.getElem?_eq_none om]
theorem Xh(l:List UInt8)(i j:Nat):(bs l).extract i j=bs ((l.drop i).take (j - i)):=by
 apply ByteArray.ext
 simp [bs,List.extract_eq_take_drop]
def idx{α:Type}(xs:List α)(i:Int):Option α:=if 0<=i then xs[i.toNat]? else none
def sub{α:Type}(xs:List α)(lo hi:Int):Option (List α):=if 0<=lo/\lo<=hi/\hi<=xs.length then some ((xs.drop lo.toNat).take (hi.toNat - lo.toNat)) else none
def QH(l m:List UInt8):Option (List UInt8):=if l.length+m.length<=9223372036854775807 then some (l++m) else none
theorem MF{α:Type}{xs:List α}{i:Int}{x:α}(h:idx xs i=some x):0<=i/\i<xs.length/\xs[i.toNat]?=some x:=by
 unfold idx at h
 split at h
 ·rename_i h0
  refine ⟨h0,?_,h⟩
  have:=(List.getElem?_eq_some_iff.1 h).1
  omega
 ·cases h
theorem Lp{α:Type}{xs ys:List α}{lo hi:Int}(h:sub xs lo hi=some ys):0<=lo/\lo<=hi/\hi<=xs.length/\ys=(xs.drop lo.toNat).take (hi.toNat - lo.toNat):=by
 unfold sub at h
 split at h
 ·rename_i h0;simp only [Option.some.injEq] at h;exact ⟨h0.1,h0.2.1,h0.2.2,h.symm⟩
 ·cases h
theorem Yb{l m r:List UInt8}(h:QH l m=some r):l.length+m.length<=9223372036854775807/\r=l++m:=by
 unfold QH at h
 split at h
 ·rename_i h0;simp only [Option.some.injEq] at h;exact ⟨h0,h.symm⟩
 ·cases h
def Kd.u8:Kd UInt8:=Kd.one (λc=>Value.int .u8 (c.toNat:Int)) λ_=>rfl
def Kd.bts:Kd (List UInt8):=Kd.one (λl=>Value.string (bs l)) λ_=>rfl
theorem AAV{α:Type}{size:Nat}{rep:(Nat->Prop)->World->List Value->α->Prop}{F:Nat->Prop}{w:World}{s:Value}{xs:List α}{i:Int}{x:α}(h:Kd.slcRep size rep F w s xs)(hi:idx xs i=some x):
  ∃b off cap cs,s= .slice (some ⟨b,off,none⟩) xs.length cap/\F b/\b<w.heap.size/\0<=i/\i<xs.length/\rep F w cs x/\cs.length=size/\Kd.At w b (off+i.toNat*size) cs:=by
 obtain ⟨a,cap,rfl,hc,_,h⟩:=h
 obtain ⟨h0,h1,h2⟩:=MF hi
 rcases h with rfl| ⟨b,off,rfl,hF,hlt,h⟩
 ·simp at h2
 ·obtain ⟨cs,hr,hl,hat⟩:=h _ _ h2
  exact ⟨b,off,cap,cs,rfl,hF,hlt,h0,h1,hr,hl,hat⟩
theorem Ba{α:Type}{size:Nat}{rep:(Nat->Prop)->World->List Value->α->Prop}{F:Nat->Prop}{w:World}:Kd.slcRep size rep F w (.slice none 0 0) ([]:List α):=⟨none,0,rfl,Nat.le_refl _,λ_ _=>⟨rfl,rfl⟩,.inl rfl⟩
instance:Kd.NoCx Kd.u8.rep:=⟨λ⟨_,_,_,h⟩=>by simp [Kd.u8,Kd.one] at h⟩
instance:Kd.NoCx Kd.bts.rep:=⟨λ⟨_,_,_,h⟩=>by simp [Kd.bts,Kd.one] at h⟩
theorem Yc{F:Nat->Prop}{w:World}{s:Value}(h:Kd.slcRep Kd.cpx.size Kd.cpx.rep F w s []):s= .slice none 0 0:=by
 obtain ⟨a,cap,rfl,_,hz,_⟩:=h
 obtain ⟨rfl,rfl⟩:=hz ⟨λ_=>True,w,(0,0),rfl⟩ rfl;rfl
abbrev Slc{α:Type}(κ:Kd α)(F:Nat->Prop)(w:World)(s:Value)(xs:List α):Prop:=Kd.slcRep κ.size κ.rep F w s xs
theorem Fg{α:Type}{size:Nat}{rep:(Nat->Prop)->World->List Value->α->Prop}{F:Nat->Prop}{w:World}{s:Value}{xs:List α}(h:Kd.slcRep size rep F w s xs):s.oneCell'=true:=by obtain ⟨a,cap,rfl,_⟩:=h;rfl
theorem AW{α:Type}{size:Nat}{rep:(Nat->Prop)->World->List Value->α->Prop}{F:Nat->Prop}{w:World}{s:Value}{xs:List α}(h:Kd.slcRep size rep F w s xs): ∃a cap,s= .slice a xs.length cap:=let ⟨a,cap,h,_⟩:=h;⟨a,cap,h⟩
theorem J6{α:Type}(κ:Kd α){F F':Nat->Prop}{w w':World}{s:Value}{xs:List α}(h:Kd.slcRep κ.size κ.rep F w s xs)(hF: ∀b,b<w.heap.size->F b->F' b)(hs: ∀b,b<w.heap.size->F b->w'.heap[b]?=w.heap[b]?):Kd.slcRep κ.size κ.rep F' w' s xs:=by
 obtain ⟨s',he,h'⟩:=(Kd.slc κ).mono (x:=xs) (cs:=[s]) ⟨s,rfl,h⟩ hF hs
 simp only [List.cons.injEq,and_true] at he;subst he;exact h'
theorem Wy{α:Type}(κ:Kd α){S:List Nat}{C C':Col}{w w':World}{s:Value}{xs:List α}(h:Kd.slcRep κ.size κ.rep C.F w s xs)(st:AU S C w C' w')(h0:0∉S):Kd.slcRep κ.size κ.rep C'.F w' s xs:=
 J6 κ h (λb hb hF=>((st.col b hb).resolve_right λhx=>h0 (by rw [show C b=0 from hF] at hx;exact hx.1)).trans hF) λb hb hF=>st.same b hb (by rw [show C b=0 from hF];exact h0)
section
variable{P:Program}{n:Nat}{ρ:Env}{w:World}{d:Option Nat}{ty:Nat}{pos:String}{af:Array Edge}{g:Option (Nat×Bool)}{T:Nat}
theorem So{α:Type}{size:Nat}{rep:(Nat->Prop)->World->List Value->α->Prop}[hno:Kd.NoCx rep]{F:Nat->Prop}{w:World}{s:Value}{xs ys:List α}{lo hi:Int}(h:Kd.slcRep size rep F w s xs)(hs:sub xs lo hi=some ys):
  ∃a cap,s= .slice a xs.length cap/\xs.length<=cap/\Kd.slcRep size rep F w (.slice (if cap=lo.toNat then a else a.map (·.add (lo.toNat*size))) (hi.toNat - lo.toNat) (cap - lo.toNat)) ys:=by
 obtain ⟨a,cap,rfl,hc,_,h⟩:=h
 obtain ⟨h0,h1,h2,rfl⟩:=Lp hs
 refine ⟨a,cap,rfl,hc,?_⟩
 have hlen:((xs.drop lo.toNat).take (hi.toNat - lo.toNat)).length=hi.toNat - lo.toNat:=by simp;omega
 refine ⟨_,_,by rw [hlen],by rw [hlen];omega,λhx=>absurd hx hno.no,?_⟩
 by_cases hn:hi.toNat - lo.toNat=0
 ·exact .inl (by rw [hn];simp)
 ·rcases h with rfl| ⟨b,off,rfl,hF,hlt,h⟩
  ·simp at h2;omega
  ·right
   have hne: ¬cap=lo.toNat:=om
   refine ⟨b,off+lo.toNat*size,by simp [hne,Run.add_spot],hF,hlt,λi x hx=>?_⟩
   have hi':i<hi.toNat - lo.toNat:=by
    have:=(List.getElem?_eq_some_iff.1 hx).1;rw [hlen] at this;exact this
   rw [List.getElem?_take_of_lt hi',List.getElem?_drop] at hx
   obtain ⟨cs,hr,hl,hat⟩:=h _ _ hx
   refine ⟨cs,hr,hl,?_⟩
   rw [show off+lo.toNat*size+i*size=off+(lo.toNat+i)*size by rw [Nat.add_mul];omega]
   exact hat
def X9(x:Option Operand)(ρ:Env)(lo:Int):Prop:=match x with |none=>lo=0|some x=>∃k,ev ρ x= .int k lo
def Wz(x:Option Operand)(ρ:Env)(len:Nat)(hi:Int):Prop:=match x with |none=>hi=len|some x=>∃k,ev ρ x= .int k hi
theorem S8{lo hi:Int}{xl xh:Option Operand}{len cap:Nat}{b:Bool}(hl:X9 xl ρ lo)(hh:Wz xh ρ len hi)(h0:0<=lo)(h1:lo<=hi)(h2:hi<=len)(hc:len<=cap):
  (Instr.sliceBounds b len cap (xl.map (ev ρ)) (xh.map (ev ρ)) none).run P w= .ok (lo.toNat,hi.toNat,cap) w:=by
 have hh':hi<=(cap:Int):=om
 have hz:0<=hi:=om
 cases xl with
 |none=>
  simp only [X9] at hl;subst hl
  cases xh with
  |none=>simp only [Wz] at hh;subst hh;simp [Instr.sliceBounds]
  |some x=>obtain ⟨k,hx⟩:=hh;simp [Instr.sliceBounds,hx,Instr.sliceBound,asIntOf,hz,hh']
 |some y=>
  obtain ⟨k',hy⟩:=hl
  cases xh with
  |none=>
   simp only [Wz] at hh;subst hh
   have:lo<=(len:Int):=h1
   simp [Instr.sliceBounds,hy,Instr.sliceBound,asIntOf,h0,this]
  |some x=>
   obtain ⟨k,hx⟩:=hh
   have:lo<=((hi.toNat:Nat):Int):=om
   simp [Instr.sliceBounds,hx,hy,Instr.sliceBound,asIntOf,hz,hh',h0]
   intro hc;omega
namespace Run
theorem sliceStr{x:Operand}{xl xh:Option Operand}{l r:List UInt8}{lo hi:Int}(hT:P.underlying T=some .string)(hx:ev ρ x= .string (bs l))(hl:X9 xl ρ lo)(hh:Wz xh ρ l.length hi)(hs:sub l lo hi=some r):
  (execOp (ev ρ) ⟨d,.slice T x xl xh none,ty,pos,af,g⟩).run P w= .ok (.value (.string (bs r))) w:=by
 obtain ⟨h0,h1,h2,rfl⟩:=Lp hs
 have hb:=S8 (P:=P) (w:=w) (b:=false) hl (by rw [<-NZ] at hh;exact hh) h0 h1 (by rw [NZ];exact h2) (Nat.le_refl _)
 simp [execOp,Instr.sliceAt,run_underlying hT,Instr.slice,hx,hb,Xh]
theorem sliceSlc{x:Operand}{xl xh:Option Operand}{a:Option Addr}{len cap E m:Nat}{lo hi:Int}(hT:Np P T E m=true)(hx:ev ρ x= .slice a len cap)(hl:X9 xl ρ lo)(hh:Wz xh ρ len hi)
  (h0:0<=lo) (h1:lo<=hi) (h2:hi<=len) (hc:len<=cap):
  (execOp (ev ρ) ⟨d,.slice T x xl xh none,ty,pos,af,g⟩).run P w= .ok (.value (.slice (if cap=lo.toNat then a else a.map (·.add (lo.toNat*m))) (hi.toNat - lo.toNat) (cap - lo.toNat))) w:=by
 unfold Np at hT
 simp only [Bool.and_eq_true,beq_iff_eq] at hT
 obtain ⟨⟨hT,hs⟩,hm⟩:=hT
 cases hu:P.underlying T with
 |none=>simp [hu] at hT
 |some t=>
  cases t<;>simp [hu] at hT
  subst hT
  have hb:=S8 (P:=P) (w:=w) (b:=true) hl hh h0 h1 h2 hc
  simp [execOp,Instr.sliceAt,run_underlying hu,Instr.slice,hx,hb,He hs]
theorem strEq{x y:Operand}{l m:List UInt8}{t2:Nat}(hx:ev ρ x= .string (bs l))(hy:ev ρ y= .string (bs m)):
  (execOp (ev ρ) ⟨d,.binOp .eql T x y t2,ty,pos,af,g⟩).run P w= .ok (.value (.bool (l==m))) w:=by
 simp [execOp,hx,hy,eqGuard,binOp,Op.stringOp,Pp]
theorem strNe{x y:Operand}{l m:List UInt8}{t2:Nat}(hx:ev ρ x= .string (bs l))(hy:ev ρ y= .string (bs m)):
  (execOp (ev ρ) ⟨d,.binOp .neq T x y t2,ty,pos,af,g⟩).run P w= .ok (.value (.bool (!(l==m)))) w:=by
 simp [execOp,hx,hy,eqGuard,binOp,Op.stringOp,Pp]
theorem strAdd{x y:Operand}{l m r:List UInt8}{t2:Nat}(hx:ev ρ x= .string (bs l))(hy:ev ρ y= .string (bs m))(h:QH l m=some r):
  (execOp (ev ρ) ⟨d,.binOp .add T x y t2,ty,pos,af,g⟩).run P w= .ok (.value (.string (bs r))) w:=by
 obtain ⟨h0,rfl⟩:=Yb h
 have: ¬((9223372036854775807:Int)< ((bs l).size:Int)+((bs m).size:Int)):=by rw [NZ,NZ];omega
 simp [execOp,hx,hy,eqGuard,binOp,Op.stringOp,this,Ya,IntKind.max,IntKind.signed,IntKind.bits]
theorem indexBs{x ix:Operand}{l:List UInt8}{i:Int}{k:IntKind}{c:UInt8}(hT:P.underlying T=some .string)(hx:ev ρ x= .string (bs l))(hi:ev ρ ix= .int k i)(hc:idx l i=some c):
  (execOp (ev ρ) ⟨d,.index T x ix,ty,pos,af,g⟩).run P w= .ok (.value (.int .u8 c.toNat)) w:=
 let ⟨h0,_,h2⟩:=MF hc
 indexStr hT hx hi h0 (by rw [ABf];exact h2)
theorem lenStr{x:Operand}{l:List UInt8}{t:Nat}(hT:P.underlying t=some .string)(hx:ev ρ x= .string (bs l)):
  (execOp (ev ρ) ⟨d,.call {callee:= .builtin .len,args:=#[x],argTypes:=#[t]},ty,pos,af,g⟩).run P w= .ok (.value (.int .i64 l.length)) w:=by
 simp [execOp,resolve,hx,invoke,builtin,Builtin.len_,run_underlying hT,goInt,NZ]
theorem lenSlc{x:Operand}{a:Option Addr}{len cap t E m:Nat}(hT:Np P t E m=true)(hx:ev ρ x= .slice a len cap):
  (execOp (ev ρ) ⟨d,.call {callee:= .builtin .len,args:=#[x],argTypes:=#[t]},ty,pos,af,g⟩).run P w= .ok (.value (.int .i64 len)) w:=by
 unfold Np at hT
 simp only [Bool.and_eq_true,beq_iff_eq] at hT
 obtain ⟨⟨hT,hs⟩,hm⟩:=hT
 cases hu:P.underlying t with
 |none=>simp [hu] at hT
 |some u=>
  cases u<;>simp [hu] at hT
  simp [execOp,resolve,hx,invoke,builtin,Builtin.len_,run_underlying hu,goInt]
theorem real{x:Operand}{re im:Nat}{k:FloatKind}{ts:Array Nat}(hx:ev ρ x= .complex k re im):
  (execOp (ev ρ) ⟨d,.call {callee:= .builtin .real,args:=#[x],argTypes:=ts},ty,pos,af,g⟩).run P w= .ok (.value (.float k re)) w:=by
 simp only [execOp,resolve,List.map_toArray,List.map_cons,List.map_nil,hx];rfl
theorem imag{x:Operand}{re im:Nat}{k:FloatKind}{ts:Array Nat}(hx:ev ρ x= .complex k re im):
  (execOp (ev ρ) ⟨d,.call {callee:= .builtin .imag,args:=#[x],argTypes:=ts},ty,pos,af,g⟩).run P w= .ok (.value (.float k im)) w:=by
 simp only [execOp,resolve,List.map_toArray,List.map_cons,List.map_nil,hx];rfl
theorem complex{x y:Operand}{re im:Nat}{k:FloatKind}{ts:Array Nat}(hx:ev ρ x= .float k re)(hy:ev ρ y= .float k im):
  (execOp (ev ρ) ⟨d,.call {callee:= .builtin .complex,args:=#[x,y],argTypes:=ts},ty,pos,af,g⟩).run P w= .ok (.value (.complex k re im)) w:=by
 simp only [execOp,resolve,List.map_toArray,List.map_cons,List.map_nil,hx,hy];cases k<;>rfl
theorem min{x y:Operand}{a b:Int}{k:IntKind}{ts:Array Nat}(hx:ev ρ x= .int k a)(hy:ev ρ y= .int k b):
  (execOp (ev ρ) ⟨d,.call {callee:= .builtin .min,args:=#[x,y],argTypes:=ts},ty,pos,af,g⟩).run P w= .ok (.value (.int k (if b<a then b else a))) w:=by
 simp [execOp,resolve,hx,hy,invoke,builtin,Builtin.min_,Builtin.min2]
theorem max{x y:Operand}{a b:Int}{k:IntKind}{ts:Array Nat}(hx:ev ρ x= .int k a)(hy:ev ρ y= .int k b):
  (execOp (ev ρ) ⟨d,.call {callee:= .builtin .max,args:=#[x,y],argTypes:=ts},ty,pos,af,g⟩).run P w= .ok (.value (.int k (if a<b then b else a))) w:=by
 simp [execOp,resolve,hx,hy,invoke,builtin,Builtin.max_,Builtin.max2]
theorem enter{f:Nat}{fn:Func}{c:Code}{xs:List Operand}{vs:List Value}{ts:Array Nat}(hf:P.funcs[f]?=some fn)(hb:fn.body=some c)(hnm:(fn.name== "runtime.NumGoroutine")=false)(hv:xs.map (ev ρ)=vs):
  (execOp (ev ρ) ⟨d,.call {callee:= .value (.func f),args:=xs.toArray,argTypes:=ts},ty,pos,af,g⟩).run P w= .ok (.enter f vs.toArray) w:=by
 subst hv
 simp [execOp,resolve,ev,Deferred.ofValue,invoke,callFunc,hf,hb]
 intro h;simp [h] at hnm
theorem enterV{f:Nat}{fn:Func}{c:Code}{x:Operand}{xs:List Operand}{vs:List Value}{ts:Array Nat}{caps:List Value}(hf:P.funcs[f]?=some fn)(hb:fn.body=some c)(hnm:(fn.name== "runtime.NumGoroutine")=false)
  (hx:ev ρ x= .func (.func f) #[] caps.toArray) (hv:xs.map (ev ρ)=vs):
  (execOp (ev ρ) ⟨d,.call {callee:= .value x,args:=xs.toArray,argTypes:=ts},ty,pos,af,g⟩).run P w= .ok (.enter f (vs++caps).toArray) w:=by
 subst hv
 simp [execOp,resolve,hx,Deferred.ofValue,invoke,callFunc,hf,hb]
 intro h;simp [h] at hnm
end Run
def plc(P:Program)(T:Nat):Option (List Cpl):=
 match P.underlying T with
 |some (.struct fs)=>fs.toList.mapM λf=>(P.info? f.type).map λi=>(f.offset,i.size)
 |_=>none
theorem Xi(w:World)(fs:List Field)(pl:List Cpl)(h:fs.mapM (λf=>(P.info? f.type).map λi=>(f.offset,i.size))=some pl):
  (fs.mapM (m:=Sem) λf=>do pure (f.offset,<-Go.sizeOf f.type)).run P w= .ok pl w:=by
 induction fs generalizing pl with
 |nil=>simp at h;subst h;rfl
 |cons f fs ih=>
  simp only [List.mapM_cons,Option.bind_eq_bind,Option.bind_eq_some_iff,Option.map_eq_some_iff,Option.pure_def,Option.some.injEq] at h
  obtain ⟨_,⟨i,hi,rfl⟩,pl',hpl,rfl⟩:=h
  simp only [List.mapM_cons,Sem.run_bind]
  rw [He (P:=P) (T:=f.type) (m:=i.size) (by simp [hi])]
  simp only [Result.andThen,show (Sem.run P (pure (f.offset,i.size):Sem Cpl) w)= .ok (f.offset,i.size) w from rfl]
  rw [ih pl' hpl];rfl
theorem Yd{z:Value}{pl:List Cpl}{ps:List (Nat×Operand)}{cs:List Value}(hz:(P.info? T).map (·.zero)=some (some z))(hp:plc P T=some pl)
  (hf:Instr.fill (λi=>pl[i]?) z.cells (ps.map λx=>(x.1,ev ρ x.2))=some cs.toArray):
  (execOp (ev ρ) ⟨d,.build T ps.toArray,ty,pos,af,g⟩).run P w= .ok (.value (.agg cs.toArray)) w:=by
 obtain ⟨i,hi,hs⟩:=Option.map_eq_some_iff.1 hz
 unfold plc at hp
 cases hu:P.underlying T with
 |none=>simp [hu] at hp
 |some t=>
  cases t<;>simp only [hu] at hp<;>try (cases hp)
  rename_i fs
  have h1:=Xi w fs.toList pl hp
  have h2:(fs.mapM (m:=Sem) λf=>do pure (f.offset,<-Go.sizeOf f.type)).run P w= .ok pl.toArray w:=by
   rw [Array.mapM_eq_mapM_toList,Sem.run_map,h1];rfl
  have h3:(Instr.build T (ps.map λx=>(x.1,ev ρ x.2)).toArray).run P w= .ok (.agg cs.toArray) w:=by
   unfold Instr.build
   have hz':(zeroValue T).run P w= .ok z w:=by simp [zeroValue,typeInfo,hi,hs]
   rw [Sem.run_bind,hz']
   show (Sem.run P (underlying T>>= _) w)=_
   rw [Sem.run_bind,run_underlying hu]
   show (Sem.run P ((fs.mapM (m:=Sem) λf=>do pure (f.offset,<-Go.sizeOf f.type))>>= _) w)=_
   rw [Sem.run_bind,h2]
   simp [Result.andThen,hf]
  simp only [execOp,List.map_toArray]
  simp [h3]
theorem MG{cs:List Value}{off:Nat}{v:Value}(h:Ky P T=true)(hc:cs[off]?=some v):(part T cs.toArray off).run P w= .ok v w:=by
 simp [part,P6 h,hc]
theorem Vk{cs:List Value}{off m:Nat}(h:NW P T m=true):(part T cs.toArray off).run P w= .ok (.agg ((cs.drop off).take m).toArray) w:=by
 simp [part,P7 h,He (VM h),List.extract_eq_take_drop]
theorem Xj{f off:Nat}(h:Rm P T f off=true): ∃fs fd,P.underlying T=some (.struct fs)/\fs[f]?=some fd/\fd.offset=off/\Ky P fd.type=true:=by
 unfold Rm at h
 cases hu:P.underlying T with
 |none=>simp [hu] at h
 |some t=>
  cases t<;>simp [hu] at h
  rename_i fs
  cases hf:fs[f]? with
  |none=>simp [hf] at h
  |some fd=>simp only [hf,Bool.and_eq_true,beq_iff_eq] at h;exact ⟨fs,fd,rfl,hf,h.1,h.2⟩
theorem Xk{f off m:Nat}(h:X8 P T f off m=true): ∃fs fd,P.underlying T=some (.struct fs)/\fs[f]?=some fd/\fd.offset=off/\NW P fd.type m=true:=by
 unfold X8 at h
 cases hu:P.underlying T with
 |none=>simp [hu] at h
 |some t=>
  cases t<;>simp [hu] at h
  rename_i fs
  cases hf:fs[f]? with
  |none=>simp [hf] at h
  |some fd=>simp only [hf,Bool.and_eq_true,beq_iff_eq] at h;exact ⟨fs,fd,rfl,hf,h.1,h.2⟩
theorem Kz{x:Operand}{f off:Nat}{cs:List Value}{v:Value}(hT:Rm P T f off=true)(hx:ev ρ x= .agg cs.toArray)(hc:cs[off]?=some v):
  (execOp (ev ρ) ⟨d,.field T x f,ty,pos,af,g⟩).run P w= .ok (.value v) w:=by
 obtain ⟨fs,fd,hu,hf,rfl,h1⟩:=Xj hT
 simp [execOp,Instr.field,hx,run_underlying hu,hf,asAgg,MG h1 hc]
theorem QI{x:Operand}{f off m:Nat}{cs:List Value}(hT:X8 P T f off m=true)(hx:ev ρ x= .agg cs.toArray):
  (execOp (ev ρ) ⟨d,.field T x f,ty,pos,af,g⟩).run P w= .ok (.value (.agg ((cs.drop off).take m).toArray)) w:=by
 obtain ⟨fs,fd,hu,hf,rfl,h1⟩:=Xk hT
 simp only [execOp,Instr.field,hx]
 simp [run_underlying hu,hf,asAgg,Vk (P:=P) (w:=w) h1 (cs:=cs) (off:=fd.offset)]
def IX(cs:List Value)(o:Nat)(vs:List Value):List Value:=cs.take o++vs++cs.drop (o+vs.length)
theorem Na{C:Col}{k b Tb:Nat}(hk:k≠0): ∀(vs:List Value) (w:World) (cs:List Value) (o i:Nat),Bk C w k b cs Tb->o+i+vs.length<=cs.length->(∀v∈vs,v.oneCell'=true)->
  ∃w',(storeCells ⟨b,o,none⟩ vs i).run P w= .ok () w'/\Bk C w' k b (IX cs (o+i) vs) Tb/\AU [k] C w C w'
 | [],w,cs,o,i,hb,_,_=>⟨w,by simp [storeCells],by simpa [IX] using hb,AU.refl _ _ _⟩
 |v::vs,w,cs,o,i,hb,hl,h1=>by
  simp only [List.length_cons] at hl
  have hlt:o+i<cs.length:=om
  have hc:w.cell? ⟨b,o+i,none⟩=some cs[o+i]:=hb.cell (List.getElem?_eq_getElem hlt)
  have hb1:=hb.set (o+i) v
  obtain ⟨w',hr,hb',hs⟩:=Na hk vs (w.setCell ⟨b,o+i,none⟩ v) (cs.set (o+i) v) o (i+1) hb1 (by simp;omega) (λu hu=>h1 u (List.mem_cons_of_mem _ hu))
  refine ⟨w',?_,?_,(AU.set (C:=C) (k:=k) (a:=⟨b,o+i,none⟩) hb.col (by simp) v).trans hs (by simpa using hk.symm)⟩
  ·have hv:=h1 v (List.mem_cons_self ..)
   simp only [storeCells,Sem.run_bind,Run.add_spot]
   rw [run_store P w _ v .plain hv]
   simp [hc,hb.free,hr]
  ·have:IX (cs.set (o+i) v) (o+(i+1)) vs=IX cs (o+i) (v::vs):=by
    simp only [IX,List.length_cons]
    rw [show o+(i+1)=o+i+1 by omega,List.take_succ_eq_append_getElem (by simp;exact hlt),List.getElem_set_self,List.take_set_of_le (Nat.le_refl _),List.drop_set_of_lt om]
    simp only [List.append_assoc,List.cons_append,List.nil_append]
    rw [show o+i+1+vs.length=o+i+(vs.length+1) by omega]
   rw [this] at hb';exact hb'
theorem VO{C:Col}{x y:Operand}{k b o m Tb:Nat}{cs vs:List Value}{v:Value}(hT:(P.info? T).map (·.size)=some m)(hx:ev ρ x= .pointer (some ⟨b,o,none⟩))(hy:ev ρ y=v)(hv:v.cells=vs.toArray)
  (hl:vs.length=m) (h1: ∀v∈vs,v.oneCell'=true) (hb:Bk C w k b cs Tb) (hk:k≠0) (ho:Nat.ble (o+m) cs.length=true):
  ∃w',(execOp (ev ρ) ⟨d,.store T x y,ty,pos,af,g⟩).run P w= .ok .skip w'/\Bk C w' k b (IX cs o vs) Tb/\AU [k] C w C w':=by
 obtain ⟨w',hr,hb',hs⟩:=Na (P:=P) hk vs w cs o 0 hb (by have:=Nat.le_of_ble_eq_true ho;omega) h1
 refine ⟨w',?_,hb',hs⟩
 have h2:(storeVar T ⟨b,o,none⟩ v).run P w= .ok () w':=by
  simp [storeVar,He hT,hl,hv,hr]
 simp only [execOp,Instr.storeAt,hx,hy,Instr.sureAddr]
 simp [h2]
end
end Fth
namespace Fth
open Go Go.RowKit
def recol(f:Nat->Nat)(C:Col):Col:=λb=>f (C b)
def glue(rs:List Nat)(w:World)(C C'':Col):Col:=λb=>if b<w.heap.size then (if C'' b=0 then 0 else C b) else (if C'' b=0 then 0 else (rs[C'' b - 1]?).getD 9)
def see(rs:List Nat)(c:Nat):Nat:=if c=0 then 0 else match rs.idxOf? c with |some i=>i+1|none=>9
theorem W0{rs:List Nat}{c:Nat}(h:see rs c=0):c=0:=by
 unfold see at h
 split at h
 ·assumption
 ·split at h<;>omega
theorem E9{rs:List Nat}(hl:rs.length<=8)(C:Col)(b:Nat):recol (see rs) C b<10:=by
 unfold recol see
 split
 ·omega
 ·split
  ·rename_i i hi
   have:i<rs.length:=by
    rw [List.idxOf?_eq_some_iff] at hi
    exact hi.1
   omega
  ·omega
theorem Bd{α:Type}(κ:Kd α){C:Col}{w:World}{cs:List Value}{x:α}(h:κ.rep C.F w cs x)(rs:List Nat):κ.rep (recol (see rs) C).F w cs x:=
 κ.mono h (λb _ hF=>by show see rs (C b)=0;rw [show C b=0 from hF];rfl) (λ_ _ _=>rfl)
theorem EZ{α:Type}(κ:Kd α){C:Col}{w:World}{s:Value}{xs:List α}(h:Kd.slcRep κ.size κ.rep C.F w s xs)(rs:List Nat):Kd.slcRep κ.size κ.rep (recol (see rs) C).F w s xs:=
 J6 κ h (λb _ hF=>by show see rs (C b)=0;rw [show C b=0 from hF];rfl) (λ_ _ _=>rfl)
theorem BY{C:Col}{w:World}{k b T:Nat}{cs:List Value}(h:Bk C w k b cs T)(rs:List Nat){j:Nat}(hj:see rs k=j):Bk (recol (see rs) C) w j b cs T:=
 ⟨by show see rs (C b)=j;rw [h.col,hj],h.heap⟩
theorem Pq{rs:List Nat}{w:World}{C C'':Col}{b:Nat}(h:C'' b=0):glue rs w C C'' b=0:=by simp [glue,h]
theorem ED{α:Type}(κ:Kd α){rs:List Nat}{C C'':Col}{w w':World}{cs:List Value}{x:α}(h:κ.rep C''.F w' cs x):κ.rep (glue rs w C C'').F w' cs x:=
 κ.mono h (λ_ _ hF=>Pq hF) (λ_ _ _=>rfl)
theorem HR{α:Type}(κ:Kd α){rs:List Nat}{C C'':Col}{w w':World}{s:Value}{xs:List α}(h:Kd.slcRep κ.size κ.rep C''.F w' s xs):Kd.slcRep κ.size κ.rep (glue rs w C C'').F w' s xs:=
 J6 κ h (λ_ _ hF=>Pq hF) (λ_ _ _=>rfl)
theorem B8{rs S S':List Nat}{C C'':Col}{w w':World}(h:AU S (recol (see rs) C) w C'' w')(hS: ∀c,see rs c∈S->c∈S'):AU S' C w (glue rs w C C'') w':=by
 refine ⟨h.os,h.tape,h.output,h.size,λb hb=>?_,λb hb hn=>h.same b hb λhx=>hn (hS _ hx)⟩
 simp only [glue,hb,if_true]
 by_cases hz:C'' b=0
 ·simp only [hz,if_true]
  rcases h.col b hb with h1| ⟨h1,_⟩
  ·have h2:see rs (C b)=0:=by rw [hz] at h1;exact h1.symm
   exact .inl (W0 h2).symm
  ·exact .inr ⟨hS _ h1,trivial⟩
 ·simp only [hz,if_false];exact .inl trivial
theorem EJ{rs:List Nat}{C C'':Col}{w w':World}{k j b T:Nat}{cs cs':List Value}(h:Bk C w k b cs T)(h':Bk C'' w' j b cs' T)(hj:j≠0):Bk (glue rs w C C'') w' k b cs' T:=
 ⟨by simp [glue,h.lt,h'.col,hj,h.col],h'.heap⟩
theorem AU.home{S S':List Nat}{C C':Col}{w w':World}(h:AU S C w C' w')(hC: ∀b,C b<10)(hS: ∀c,c<10->c∈S->c∈S'):AU S' C w C' w':=
 h.strike λb _ hb=>hS _ (hC b) hb
section
variable{P:Program}{ds:List Deferred}{n:Nat}{ops:Array Oper}{Q:Gb}{ρ:Env}{w:World}{l:List Oper}{d:Option Nat}{ty:Nat}{pos:String}{af:Array Edge}{g:Option (Nat×Bool)}{T:Nat}
def P9(P:Program)(ρ:Env)(o:Oper)(w:World)(K:Value->World->Prop):Prop:=∃v w',(execOp (ev ρ) o).run P w= .ok (.value v) w'/\K v w'
def Xl(P:Program)(ρ:Env)(o:Oper)(w:World)(K:World->Prop):Prop:=∃w',(execOp (ev ρ) o).run P w= .ok .skip w'/\K w'
theorem ABg{o:Oper}{d:Nat}(hg:Hn ops ρ n o true)(hd:o.dst=some d)(hn:Nat.blt d n=true)(h:P9 P ρ o w λv w'=>WL P ds n ops Q l (ρ.put d v) w'):WL P ds n ops Q (o::l) ρ w:=
 let ⟨_,_,hr,hK⟩:=h;PC hg hd hn hr hK
theorem AAW{o:Oper}(hg:Hn ops ρ n o true)(hd:o.dst=none)(h:Xl P ρ o w λw'=>WL P ds n ops Q l ρ w'):WL P ds n ops Q (o::l) ρ w:=
 let ⟨_,hr,hK⟩:=h;AAT hg hd hr hK
theorem Aa{E:Nat}{z:Value}{cs:List Value}(C:Col)(k:Nat){K:Value->World->Prop}(hz:(P.info? E).map (·.zero)=some (some z))(hc:z.cells=cs.toArray)
  (h: ∀C' w' b,Bk C' w' k b cs E->AU [] C w C' w'->K (.pointer (some ⟨b,0,none⟩)) w'):P9 P ρ ⟨d,.alloc E,ty,pos,af,g⟩ w K:=
 ⟨_,_,Run.alloc hz hc,h _ _ _ (Xe C w k cs E) (AU.alloc [] C w _ k)⟩
theorem A0{E:Nat}{x:Operand}{v:Value}{cs:List Value}(C:Col)(k:Nat){K:Value->World->Prop}(hx:ev ρ x=v)(hv:v.cells=cs.toArray)
  (h: ∀C' w' b,Bk C' w' k b cs E->AU [] C w C' w'->K (.pointer (some ⟨b,0,none⟩)) w'):P9 P ρ ⟨d,.box E x,ty,pos,af,g⟩ w K:=
 ⟨_,_,Run.box hx hv,h _ _ _ (Xe C w k cs E) (AU.alloc [] C w _ k)⟩
theorem Bf{C:Col}{x y:Operand}{k b o m Tb:Nat}{cs vs cs':List Value}{v:Value}{K:World->Prop}(hT:(P.info? T).map (·.size)=some m)(hx:ev ρ x= .pointer (some ⟨b,o,none⟩))(hy:ev ρ y=v)(hv:v.cells=vs.toArray)
  (hl:vs.length=m) (h1: ∀v∈vs,v.oneCell'=true) (hb:Bk C w k b cs Tb) (hk:k≠0) (ho:Nat.ble (o+m) cs.length=true) (hs:IX cs o vs=cs')
  (h: ∀w',Bk C w' k b cs' Tb->AU [k] C w C w'->K w'):Xl P ρ ⟨d,.store T x y,ty,pos,af,g⟩ w K:=by
 obtain ⟨w',hr,hb',hst⟩:=VO (P:=P) (T:=T) (d:=d) (ty:=ty) (pos:=pos) (af:=af) (g:=g) hT hx hy hv hl h1 hb hk ho
 exact ⟨w',hr,h w' (hs▸hb') hst⟩
theorem S9{E m len:Nat}{z:Value}{ps:List (Nat×Operand)}{cs:List Value}(hT:Np P T E m=true)(hz:(P.info? E).map (·.zero)=some (some z))(hn:Nat.ble (len*m) 16777216=true)
  (hf:Instr.fill (λi=>some (i*m,m)) ((Array.range (len*m)).map λi=>(if len*m=0 then #[] else z.cells)[i % (if len*m=0 then #[] else z.cells).size]!) (ps.map λx=>(x.1,ev ρ x.2))=some cs.toArray):
  (execOp (ev ρ) ⟨d,.buildSlice T len ps.toArray,ty,pos,af,g⟩).run P w= .ok (.value (.slice (some ⟨w.heap.size,0,none⟩) len len)) (w.alloc (.cells cs.toArray E)):=by
 unfold Np at hT
 simp only [Bool.and_eq_true,beq_iff_eq] at hT
 obtain ⟨⟨hT,hs⟩,hm⟩:=hT
 obtain ⟨i,hi,hz'⟩:=Option.map_eq_some_iff.1 hz
 cases hu:P.underlying T with
 |none=>simp [hu] at hT
 |some t=>
  cases t<;>simp [hu] at hT
  rename_i e
  subst hT
  have hle: ¬(16777216<len*m):=by have:=Nat.le_of_ble_eq_true hn;omega
  have hz0:(zeroValue e).run P w= .ok z w:=by simp [zeroValue,typeInfo,hi,hz']
  by_cases h0:len*m=0
  ·simp only [h0,if_true] at hf
   have hf':Instr.fill (λi=>some (i*m,m)) (Array.map (λ_=>(default:Value)) (Array.range 0)) (ps.map λx=>(x.1,ev ρ x.2))=some cs.toArray:=by rw [<-hf];rfl
   simp only [execOp,List.map_toArray]
   simp [Instr.buildSlice,run_underlying hu,He hs,h0,hf',newRow]
  ·simp only [h0,if_false] at hf
   simp only [execOp,List.map_toArray]
   simp [Instr.buildSlice,run_underlying hu,He hs,h0,hle,hz0,hf,newRow]
theorem TA(off:Nat): ∀(c:List Value) (j:Nat) (A:Array Value) (pre old post:List Value),A.toList=pre++(old++post)->pre.length=off+j->old.length=c.length->
  ((c.zipIdx j).foldl (λcs (x:Value×Nat)=>cs.setIfInBounds (off+x.2) x.1) A).toList=pre++(c++post)
 | [],j,A,pre,old,post,h,_,hl=>by
  have:old=[]:=List.eq_nil_of_length_eq_zero hl
  subst this;simpa using h
 |x::c,j,A,pre,old,post,h,hp,hl=>by
  cases old with
  |nil=>simp at hl
  |cons y old=>
   simp only [List.zipIdx_cons,List.foldl_cons]
   have hs:(A.setIfInBounds (off+j) x).toList=(pre++[x])++(old++post):=by
    rw [Array.toList_setIfInBounds,h,<-hp,List.set_append_right _ _ (Nat.le_refl _)]
    simp
   have:=TA off c (j+1) (A.setIfInBounds (off+j) x) (pre++[x]) old post hs (by simp [hp];omega) (by simpa using hl)
   rw [this];simp
inductive Lit(ρ:Env)(m:Nat):Nat->List (Nat×Operand)->List (List Value)->Prop
 |nil {k:Nat}:Lit ρ m k [] []
 |cons {k:Nat} {x:Operand} {v:Value} {c:List Value} {ps:List (Nat×Operand)} {cs:List (List Value)} (h:ev ρ x=v) (hc:v.cells=c.toArray) (hl:c.length=m) (hr:Lit ρ m (k+1) ps cs):Lit ρ m k ((k,x)::ps) (c::cs)
theorem ZE{ρ:Env}{m k:Nat}{ps:List (Nat×Operand)}{css:List (List Value)}(h:Lit ρ m k ps css): ∀(A:Array Value) (pre rest:List Value),A.toList=pre++rest->pre.length=k*m->rest.length=ps.length*m->
  Instr.fill (λi=>some (i*m,m)) A (ps.map λx=>(x.1,ev ρ x.2))=some (pre++css.flatten).toArray:=by
 induction h with
 |nil=>
  intro A pre rest hA hp hr
  have:rest=[]:=List.eq_nil_of_length_eq_zero (by simpa using hr)
  subst this
  simp only [List.map_nil,Instr.fill,List.flatten_nil]
  congr 1
  rw [<-hA]
 | @cons k x v c ps cs h hc hl hr ih=>
  intro A pre rest hA hp hrl
  have hA':A.size=pre.length+rest.length:=by rw [<-Array.length_toList,hA,List.length_append]
  simp only [List.length_cons,Nat.add_mul,Nat.one_mul] at hrl
  simp only [List.map_cons,Instr.fill,h,hc,List.size_toArray,hl,ne_eq,not_true_eq_false,decide_false,Bool.false_or,decide_eq_true_eq]
  rw [if_neg om]
  have hz:c.toArray.zipIdx.foldl (λcs (x:Value×Nat)=>cs.setIfInBounds (k*m+x.2) x.1) A=(c.zipIdx.foldl (λcs (x:Value×Nat)=>cs.setIfInBounds (k*m+x.2) x.1) A):=by
   simp
  have hf:=TA (k*m) c 0 A pre (rest.take m) (rest.drop m) (by rw [hA,List.take_append_drop]) (by simpa using hp) (by simp [hl];omega)
  have:=ih (c.zipIdx.foldl (λcs (x:Value×Nat)=>cs.setIfInBounds (k*m+x.2) x.1) A) (pre++c) (rest.drop m) (by rw [hf];simp) (by simp [hp,hl,Nat.add_mul]) (by simp;omega)
  rw [hz,this]
  simp
theorem Cj{E m len:Nat}{z:Value}{ps:List (Nat×Operand)}{cs:List Value}(C:Col)(k:Nat)(css:List (List Value)){K:Value->World->Prop}(hT:Np P T E m=true)(hz:(P.info? E).map (·.zero)=some (some z))(hn:Nat.ble (len*m) 16777216=true)
  (hlen:ps.length=len) (hf:Lit ρ m 0 ps css) (hcs:css.flatten=cs)
  (h: ∀C' w' b,Bk C' w' k b cs E->AU [] C w C' w'->K (.slice (some ⟨b,0,none⟩) len len) w'):P9 P ρ ⟨d,.buildSlice T len ps.toArray,ty,pos,af,g⟩ w K:=
 ⟨_,_,S9 hT hz hn (by rw [ZE hf _ [] _ (List.nil_append _).symm (by simp) (by simp [hlen])];simp [hcs]),h _ _ _ (Xe C w k cs E) (AU.alloc [] C w _ k)⟩
end
def Own{α:Type}(κ:Kd α)(E:Nat)(C:Col)(w:World)(k:Nat)(v:Value)(xs:List α):Prop:=
 ∃css:List (List Value),css.length=xs.length/\(∀(i:Nat) (x:α) (cs:List Value),xs[i]?=some x->css[i]?=some cs->κ.rep C.F w cs x)/\(∀cs∈css,cs.length=κ.size)/\
  w.ownsRow 0 E κ.size v xs.length css.flatten/\(∀b,v.ownBlock=some b->C b=k)/\(Kd.Cx κ.rep->xs=[]->v= .slice none 0 0)
section
variable{α:Type}{κ:Kd α}{E k:Nat}{C C':Col}{w w':World}{v:Value}{xs:List α}{S:List Nat}
theorem Own.nil:Own κ E C w k (.slice none 0 0) []:=
 ⟨[],rfl,by simp,by simp,⟨by simp,.inl ⟨rfl,rfl⟩⟩,by simp [Value.ownBlock],λ_ _=>rfl⟩
theorem Own.head(h:Own κ E C w k v xs):(v= .slice none 0 0/\xs=[])∨∃g cap,v= .slice (some ⟨g,0,none⟩) xs.length cap/\xs.length<=cap/\C g=k/\g<w.heap.size:=by
 obtain ⟨css,h1,h2,h3,⟨h4,h5⟩,h6,hz⟩:=h
 rcases h5 with ⟨h5,h7⟩| ⟨g,cap,cur,hv,_,hh,hc,_⟩
 ·exact .inl ⟨h5,List.eq_nil_of_length_eq_zero h7⟩
 ·exact .inr ⟨g,cap,hv,hc,h6 g (by rw [hv];rfl),lt_of_block hh⟩
theorem Own.len(h:Own κ E C w k v xs): ∃a cap,v= .slice a xs.length cap:=by
 rcases h.head with ⟨rfl,rfl⟩| ⟨g,cap,rfl,_⟩
 ·exact ⟨_,_,rfl⟩
 ·exact ⟨_,_,rfl⟩
theorem Own.step(h:Own κ E C w k v xs)(st:AU S C w C' w')(h0:0∉S)(hk:k∉S):Own κ E C' w' k v xs:=by
 have hh:=h.head
 obtain ⟨css,h1,h2,h3,⟨h4,h5⟩,h6,hz⟩:=h
 refine ⟨css,h1,λi x cs hx hc=>κ.step (h2 i x cs hx hc) st h0,h3,⟨h4,?_⟩,λb hb=>?_,hz⟩
 ·rcases h5 with h5| ⟨g,cap,cur,hv,hg,hheap,r⟩
  ·exact .inl h5
  ·refine .inr ⟨g,cap,cur,hv,hg,?_,r⟩
   have hc:C g=k:=h6 g (by rw [hv];rfl)
   rw [st.same g (lt_of_block hheap) (by rw [hc];exact hk)];exact hheap
 ·have hc:=h6 b hb
  rcases hh with ⟨rfl,_⟩| ⟨g,cap,rfl,_,hg,hlt⟩
  ·simp [Value.ownBlock] at hb
  ·simp only [Value.ownBlock,Option.some.injEq] at hb;subst hb
   exact ((st.col g hlt).resolve_right λhx=>hk (by rw [<-hg];exact hx.1)).trans hg
theorem Own.freeze(h:Own κ E C w k v xs)(hk:k∈S)(h0:0∉S): ∃C',AU S C w C' w/\Kd.slcRep κ.size κ.rep C'.F w v xs:=by
 have hh:=h.head
 obtain ⟨css,h1,h2,h3,⟨h4,h5⟩,h6,hz⟩:=h
 rcases h5 with ⟨rfl,h5⟩| ⟨g,cap,cur,rfl,hg,hheap,hc,hm,hs,ht⟩
 ·have:xs=[]:=List.eq_nil_of_length_eq_zero h5
  subst this
  exact ⟨C,AU.refl _ _ _,Ba⟩
 ·have hcg:C g=k:=h6 g rfl
  have st:AU S C w (C.put g 0) w:=AU.freeze C w (by rw [hcg];exact hk)
  refine ⟨C.put g 0,st,_,cap,rfl,hc,λhx h0=>(by cases hz hx h0),?_⟩
  by_cases hx:xs=[]
  ·exact .inl hx
  ·refine .inr ⟨g,0,rfl,by simp [Col.put,Col.F],lt_of_block hheap,λi x hi=>?_⟩
   have hlt:=(List.getElem?_eq_some_iff.1 hi).1
   have hcs:css[i]?=some css[i]:=List.getElem?_eq_getElem om
   refine ⟨css[i],κ.step (h2 i x _ hi hcs) st h0,h3 _ (List.getElem_mem ..),λj c hj=>?_⟩
   have hjl:j<κ.size:=by have:=(List.getElem?_eq_some_iff.1 hj).1;rwa [h3 _ (List.getElem_mem ..)] at this
   have hfl:css.flatten[i*κ.size+j]?=some c:=flat_get css κ.size h3 i j _ c hcs hj hjl
   rw [<-ht] at hfl
   have hlt2:=(List.getElem?_eq_some_iff.1 hfl).1
   rw [List.length_take] at hlt2
   rw [List.getElem?_take_of_lt om,Array.getElem?_toList] at hfl
   simp [World.cell?,hheap,hfl]
where
 flat_get: ∀(css:List (List Value)) (m:Nat),(∀cs∈css,cs.length=m)->∀(i j:Nat) (cs:List Value) (c:Value),css[i]?=some cs->cs[j]?=some c->j<m->css.flatten[i*m+j]?=some c
  | [],_,_,i,_,_,_,h,_,_=>by simp at h
  |d::css,m,hm,0,j,cs,c,h,hc,hj=>by
   simp only [List.getElem?_cons_zero,Option.some.injEq] at h;subst h
   have:d.length=m:=hm d (List.mem_cons_self ..)
   simp only [List.flatten_cons,Nat.zero_mul,Nat.zero_add]
   rw [List.getElem?_append_left om];exact hc
  |d::css,m,hm,i+1,j,cs,c,h,hc,hj=>by
   simp only [List.getElem?_cons_succ] at h
   have:d.length=m:=hm d (List.mem_cons_self ..)
   simp only [List.flatten_cons]
   rw [List.getElem?_append_right (by rw [Nat.add_mul];omega)]
   have:=flat_get css m (λx hx=>hm x (List.mem_cons_of_mem _ hx)) i j cs c h hc hj
   rw [show (i+1)*m+j - d.length=i*m+j by rw [Nat.add_mul];omega];exact this
def Jp(κ:Kd α)(C:Col)(w:World)(s:Value)(ys:List α):Prop:=
 ∃(a:Option Addr) (cap:Nat) (ess:List (List Value)),s= .slice a ys.length cap/\ess.length=ys.length/\(∀(j:Nat) (y:α) (cs:List Value),ys[j]?=some y->ess[j]?=some cs->κ.rep C.F w cs y)/\(∀cs∈ess,cs.length=κ.size)/\
  (ys=[]∨∃b off,a=some ⟨b,off,none⟩/\∀j u,ess.flatten[j]?=some u->w.cell? ⟨b,off+j,none⟩=some u)
theorem W1(m:Nat): ∀(css:List (List Value)),(∀cs∈css,cs.length=m)->∀(j:Nat) (u:Value),css.flatten[j]?=some u->∃(i k:Nat) (cs:List Value),css[i]?=some cs/\cs[k]?=some u/\j=i*m+k
 | [],_,j,u,h=>by simp at h
 |d::css,hm,j,u,h=>by
  have hd:d.length=m:=hm d (List.mem_cons_self ..)
  simp only [List.flatten_cons] at h
  by_cases hj:j<d.length
  ·rw [List.getElem?_append_left hj] at h
   exact ⟨0,j,d,rfl,h,om⟩
  ·rw [List.getElem?_append_right om] at h
   obtain ⟨i,k,cs,h1,h2,h3⟩:=W1 m css (λx hx=>hm x (List.mem_cons_of_mem _ hx)) _ u h
   exact ⟨i+1,k,cs,by simpa using h1,h2,by rw [Nat.add_mul];omega⟩
theorem IY{s:Value}{ys:List α}(h:Kd.slcRep κ.size κ.rep C.F w s ys):Jp κ C w s ys:=by
 obtain ⟨a,cap,rfl,hc,_,h⟩:=h
 rcases h with rfl| ⟨b,off,rfl,hF,hlt,h⟩
 ·exact ⟨a,cap,[],rfl,rfl,by simp,by simp,.inl rfl⟩
 ·have hch: ∃f:Nat->List Value,∀i x,ys[i]?=some x->κ.rep C.F w (f i) x/\(f i).length=κ.size/\Kd.At w b (off+i*κ.size) (f i):=by
   refine ⟨λi=>if hi:i<ys.length then (h i ys[i] (List.getElem?_eq_getElem hi)).choose else [],λi x hx=>?_⟩
   obtain ⟨hi,hx'⟩:=List.getElem?_eq_some_iff.1 hx
   subst hx'
   simp only [hi,dif_pos]
   exact (h i ys[i] (List.getElem?_eq_getElem hi)).choose_spec
  obtain ⟨f,hf⟩:=hch
  have hlen:((List.range ys.length).map f).length=ys.length:=by simp
  have hget: ∀j,j<ys.length->((List.range ys.length).map f)[j]?=some (f j):=λj hj=>by simp [hj]
  have hls: ∀cs∈(List.range ys.length).map f,cs.length=κ.size:=λcs hcs=>by
   obtain ⟨j,hj,rfl⟩:=List.mem_map.1 hcs
   have hj:=List.mem_range.1 hj
   exact (hf j ys[j] (List.getElem?_eq_getElem hj)).2.1
  refine ⟨_,cap,(List.range ys.length).map f,rfl,hlen,λj y cs hy hcs=>?_,hls,.inr ⟨b,off,rfl,λj u hj=>?_⟩⟩
  ·have hj:=(List.getElem?_eq_some_iff.1 hy).1
   rw [hget j hj] at hcs
   simp only [Option.some.injEq] at hcs;subst hcs
   exact (hf j y hy).1
  ·obtain ⟨i,k,cs,h1,h2,rfl⟩:=W1 κ.size _ hls j u hj
   have hi:i<ys.length:=by have:=(List.getElem?_eq_some_iff.1 h1).1;simpa using this
   rw [hget i hi] at h1
   simp only [Option.some.injEq] at h1;subst h1
   have:=(hf i ys[i] (List.getElem?_eq_getElem hi)).2.2 k u h2
   rwa [Nat.add_assoc] at this
theorem CI(h:Own κ E C w k v xs):Jp κ C w v xs:=by
 obtain ⟨css,h1,h2,h3,⟨h4,h5⟩,h6,hz⟩:=h
 rcases h5 with ⟨rfl,h5⟩| ⟨g,cap,cur,rfl,hg,hheap,hc,hm,hs,ht⟩
 ·have:xs=[]:=List.eq_nil_of_length_eq_zero h5
  subst this
  exact ⟨none,0,[],rfl,rfl,by simp,by simp,.inl rfl⟩
 ·refine ⟨_,cap,css,rfl,h1,h2,h3,.inr ⟨g,0,rfl,λj u hj=>?_⟩⟩
  rw [<-ht] at hj
  have hlt2:=(List.getElem?_eq_some_iff.1 hj).1
  rw [List.length_take] at hlt2
  rw [List.getElem?_take_of_lt om,Array.getElem?_toList] at hj
  simp [World.cell?,hheap,hj]
theorem L5(css:List (List Value))(m:Nat)(h: ∀cs∈css,cs.length=m):css.flatten.length=css.length*m:=by
 induction css with
 |nil=>simp
 |cons d css ih=>
  simp only [List.flatten_cons,List.length_append,List.length_cons]
  rw [ih λx hx=>h x (List.mem_cons_of_mem _ hx),h d (List.mem_cons_self ..),Nat.add_mul];omega
theorem Og{P:Program}{t ty e:TypeId}{i:TypeInfo}{base size n:Nat}{xs:List Value}(ht:P.underlying t=some (.slice e))(hi:P.info? e=some i)(hown:w.ownsRow base e size v n xs)(a:Option Addr)(c:Nat):
  (Builtin.append_ #[t,t] ty #[v,.slice a 0 c]).run P w= .ok v w:=by
 have hl: ∀ad,(loadCells ad 0).run P w= .ok #[] w:=λad=>by simp [loadCells,loadCellsFrom]
 rcases hown.2 with ⟨rfl,rfl⟩| ⟨g,cap,cur,rfl,_,_,hnc,_⟩
 ·cases a<;>simp [Builtin.append_,run_underlying ht,Go.sizeOf,typeInfo,hi,Builtin.lenOf,Builtin.firstCells,hl]
 ·cases a<;>simp [Builtin.append_,run_underlying ht,Go.sizeOf,typeInfo,hi,Builtin.lenOf,Builtin.firstCells,hnc,storeCells,hl]
structure Elt(P:Program)(κ:Kd α)(t E bytes:Nat):Prop where
 slc:P.underlying t=some (.slice E)
 row:(P.info? E).map (λi=>(i.size,i.bytes))=some (κ.size,bytes)
 zero: ∃z,(P.info? E).map (·.zero)=some (some z)/\z.cells.size=κ.size
 pos:0<κ.size
theorem Own.append{P:Program}{t ty E bytes:Nat}{ys:List α}{s:Value}(h:Own κ E C w k v xs)(hk:k≠0)(he:Elt P κ t E bytes)(hs:Jp κ C w s ys)
  (hmax:(xs.length+ys.length)*bytes<=140737488355328) (hmax':xs.length+ys.length<=9223372036854775807):
  ∃v' w' C',(Builtin.append_ #[t,t] ty #[v,s]).run P w= .ok v' w'/\Own κ E C' w' k v' (xs++ys)/\AU [k] C w C' w':=by
 have h0':(0:Nat)∉[k]:=by simpa using hk.symm
 obtain ⟨css,h1,h2,h3,h4,h6,hnil⟩:=h
 obtain ⟨a,cap,ess,rfl,e1,e2,e3,e4⟩:=hs
 obtain ⟨i,hi,hrow⟩:=Option.map_eq_some_iff.1 he.row
 simp only [Prod.mk.injEq] at hrow
 obtain ⟨hsize,hby⟩:=hrow
 obtain ⟨z,hz,hzs⟩:=he.zero
 rw [hi] at hz
 simp only [Option.map_some,Option.some.injEq] at hz
 rcases e4 with rfl| ⟨b,off,rfl,hat⟩
 ·refine ⟨v,w,C,Og he.slc hi h4 a cap,?_,AU.refl _ _ _⟩
  rw [List.append_nil];exact ⟨css,h1,h2,h3,h4,h6,hnil⟩
 ·by_cases hy0:ys=[]
  ·subst hy0
   refine ⟨v,w,C,Og he.slc hi h4 _ cap,?_,AU.refl _ _ _⟩
   rw [List.append_nil];exact ⟨css,h1,h2,h3,h4,h6,hnil⟩
  have hone: ∀u∈ess.flatten,u.oneCell'=true:=by
   intro u hu
   obtain ⟨cs,hcs,huc⟩:=List.mem_flatten.1 hu
   obtain ⟨j,hj,rfl⟩:=List.getElem_of_mem hcs
   exact κ.ones (e2 j ys[j] _ (List.getElem?_eq_getElem om) (List.getElem?_eq_getElem hj)) u huc
  have hfl:ess.flatten.length=ys.length*κ.size:=by rw [L5 ess κ.size e3,e1]
  have hat': ∀j u,ess.flatten[j]?=some u->w.cell? ((⟨b,off,none⟩:Addr).add j)=some u:=λj u hj=>by rw [Run.add_spot];exact hat j u hj
  have fin: ∀v' w' (base:Nat),(Builtin.append_ #[t,t] ty #[v,.slice (some ⟨b,off,none⟩) ys.length cap]).run P w= .ok v' w'->w'.ownsRow base E κ.size v' (xs.length+ys.length) (css.flatten++ess.flatten)->w.grownBy w' v.ownBlock->
    (∀g,v'.ownBlock=some g->g<w.heap.size->C g=k)->
    ∃v' w' C',(Builtin.append_ #[t,t] ty #[v,.slice (some ⟨b,off,none⟩) ys.length cap]).run P w= .ok v' w'/\Own κ E C' w' k v' (xs++ys)/\AU [k] C w C' w':=by
   intro v' w' base hr hown hgrow hold
   have st:AU [k] C w C w':=P5 hgrow (λb hb=>by rw [h6 b hb];simp)
   have st':AU [k] C w (λc=>if v'.ownBlock=some c then k else C c) w':=st.of_new λc hc=>by
    show (if v'.ownBlock=some c then k else C c)=C c
    split
    ·rename_i hv;exact (hold c hv hc).symm
    ·rfl
   refine ⟨v',w',_,hr,⟨css++ess,by simp [h1,e1],λj x cs hx hc=>?_,λcs hcs=>?_,⟨?_,?_⟩,λc hc=>if_pos hc,λ_ h0=>absurd (List.append_eq_nil_iff.1 h0).2 hy0⟩,st'⟩
   ·by_cases hj:j<xs.length
    ·rw [List.getElem?_append_left hj] at hx
     rw [List.getElem?_append_left om] at hc
     exact κ.step (h2 j x cs hx hc) st' h0'
    ·rw [List.getElem?_append_right om] at hx
     rw [List.getElem?_append_right om,h1] at hc
     exact κ.step (e2 _ x cs hx hc) st' h0'
   ·rcases List.mem_append.1 hcs with hc|hc
    ·exact h3 cs hc
    ·exact e3 cs hc
   ·rw [List.flatten_append,List.length_append (as:=xs)];exact hown.1
   ·rw [List.flatten_append,List.length_append (as:=xs)]
    rcases hown.2 with hn| ⟨g,cap,cur,r1,_,r⟩
    ·exact .inl hn
    ·exact .inr ⟨g,cap,cur,r1,Nat.zero_le _,r⟩
  rcases h4.2 with ⟨rfl,hx⟩| ⟨g,gc,cur,rfl,_,hh,hgc,hgm,hcs,ht⟩
  ·have hx:xs=[]:=List.eq_nil_of_length_eq_zero hx
   subst hx
   have hcss:css=[]:=List.eq_nil_of_length_eq_zero h1
   subst hcss
   obtain ⟨v',w',hr,hown,hgrow,_⟩:=run_append_own (P:=P) (w:=w) w.heap.size t ty E i z κ.size bytes he.slc hi hz hsize hby hzs he.pos (.slice none 0 0) 0 [] (World.ownsRow_nil _ _ _ _) ⟨b,off,none⟩ ys.length cap ess.flatten hfl hat' hone
    (by simp only [maxLen];simpa using hmax') (by simpa using hmax) (Nat.le_refl _)
   refine fin v' w' _ hr (by simpa using hown) hgrow λc hc hlt=>?_
   rcases hown.2 with ⟨hv,_⟩| ⟨g,_,_,hv,hg,_⟩
   ·rw [hv] at hc;simp [Value.ownBlock] at hc
   ·rw [hv] at hc;simp only [Value.ownBlock,Option.some.injEq] at hc;omega
  ·have hcg:C g=k:=h6 g rfl
   by_cases hroom:xs.length+ys.length<=gc
   ·obtain ⟨w',hr,hown,hgrow⟩:=run_append_fits (P:=P) (w:=w) 0 t ty E i κ.size he.slc hi hsize g xs.length gc css.flatten h4 ⟨b,off,none⟩ ys.length cap ess.flatten hfl hat' hone hroom
    exact fin _ w' 0 hr hown hgrow λc hc _=>by simp only [Value.ownBlock,Option.some.injEq] at hc;subst hc;exact hcg
   ·have holds: ∀j u,css.flatten[j]?=some u->w.cell? ((⟨g,0,none⟩:Addr).add j)=some u:=h4.cells (g:=g) rfl
    obtain ⟨v',w',hr,hown,hgrow⟩:=run_append_arg_grows (P:=P) (w:=w) t ty E i z κ.size bytes he.slc hi hz hsize hby hzs he.pos ⟨g,0,none⟩ xs.length gc css.flatten h4.1 holds ⟨b,off,none⟩ ys.length cap ess.flatten hfl hat' om (by simp only [maxLen];exact hmax') hmax
    refine fin v' w' _ hr hown ⟨hgrow.os,hgrow.tape,hgrow.output,hgrow.size,λc hc _=>hgrow.block c hc (by simp)⟩ λc hc hlt=>?_
    rcases hown.2 with ⟨hv,_⟩| ⟨g,_,_,hv,hg,_⟩
    ·rw [hv] at hc;simp [Value.ownBlock] at hc
    ·rw [hv] at hc;simp only [Value.ownBlock,Option.some.injEq] at hc;omega
theorem Br{P:Program}{ρ:Env}{d:Option Nat}{ty:Nat}{pos:String}{af:Array Edge}{g:Option (Nat×Bool)}{t E bytes:Nat}{x y:Operand}{s:Value}{ys:List α}{K:Value->World->Prop}
  (hx:ev ρ x=v) (hy:ev ρ y=s) (h:Own κ E C w k v xs) (hk:k≠0) (he:Elt P κ t E bytes) (hs:Jp κ C w s ys)
  (hmax:(xs.length+ys.length)*bytes<=140737488355328) (hmax':xs.length+ys.length<=9223372036854775807)
  (hK: ∀v' C' w',Own κ E C' w' k v' (xs++ys)->AU [k] C w C' w'->K v' w'):
  P9 P ρ ⟨d,.call {callee:= .builtin .append,args:=#[x,y],argTypes:=#[t,t]},ty,pos,af,g⟩ w K:=by
 obtain ⟨v',w',C',hr,ho,hst⟩:=h.append (ty:=ty) hk he hs hmax hmax'
 refine ⟨v',w',?_,hK v' C' w' ho hst⟩
 simp [execOp,resolve,hx,hy,invoke,builtin,hr]
end
end Fth
namespace Fth
open Go
theorem ZF{α:Type}{c:Bool}{a b r:α}(h:(bif c then a else b)=r)(hc:c=true):a=r:=by subst hc;exact h
theorem ZG{α:Type}{c:Bool}{a b r:α}(h:(bif c then a else b)=r)(hc:c=false):b=r:=by subst hc;exact h
theorem bnd_sm{α β:Type}{o:Option α}{f:α->Option β}{r:β}(h:o.bind f=some r): ∃x,o=some x/\f x=some r:=Option.bind_eq_some_iff.1 h
theorem AK{α:Type}{a r:α}(h:some a=some r):a=r:=by simpa using h
theorem A5{α:Type}{p:Prop}{r:α}(h:(none:Option α)=some r):p:=by cases h
def Env.puts(ρ:Env):List (Nat×Value)->Env
 | []=>ρ
 | (t,v)::r=>(ρ.puts r).put t v
inductive Env.Has(ρ:Env):List (Nat×Value)->Prop
 |nil:ρ.Has []
 |cons {t:Nat} {v:Value} {r:List (Nat×Value)} (h:ρ t=v) (hr:ρ.Has r):ρ.Has ((t,v)::r)
theorem Vl{ρ:Env}{t:Nat}{v:Value}(h:ρ t=v):ρ.put t v=ρ:=by
 funext u
 simp only [Env.put]
 cases hb:Nat.beq u t with
 |false=>rfl
 |true=>have:=Nat.eq_of_beq_eq_true hb;subst this;exact h.symm
theorem W2{ρ:Env}{l:List (Nat×Value)}(h:ρ.Has l):ρ=ρ.puts l:=by
 induction h with
 |nil=>rfl
 |cons h hr ih=>
  simp only [Env.puts]
  rw [<-ih];exact (Vl h).symm
section
variable{P:Program}{ds:List Deferred}{n:Nat}{Q:Gb}{ρ:Env}{w:World}
theorem Am{x y:Code}(J:Env->World->Prop)(h1:WC P ds n x (PB J Q) ρ w)(h2: ∀ρ w,J ρ w->WC P ds n y Q ρ w):WC P ds n (.seq x y) Q ρ w:=
 AT (h1.mono λe ρ w h=>by cases e<;>first|exact h2 _ _ h|exact h)
end
structure Ay(C:Col)(w:World)(b o:Nat)(cs:List Value):Prop where
 col:C b=0
 lt:b<w.heap.size
 at_:Kd.At w b o cs
theorem Ay.step{C C':Col}{w w':World}{b o:Nat}{cs:List Value}{S:List Nat}(h:Ay C w b o cs)(st:AU S C w C' w')(h0:0∉S):Ay C' w' b o cs:=by
 have hn:C b∉S:=by rw [h.col];exact h0
 exact ⟨((st.col b h.lt).resolve_right λhx=>hn hx.1).trans h.col,Nat.lt_of_lt_of_le h.lt st.size,h.at_.mono (st.same b h.lt hn)⟩
theorem Ay.cell{C:Col}{w:World}{b o:Nat}{cs:List Value}(h:Ay C w b o cs){k:Nat}{v:Value}(hk:cs[k]?=some v):w.cell? ⟨b,o+k,none⟩=some v:=h.at_ k v hk
theorem Ay.cell0{C:Col}{w:World}{b o:Nat}{cs:List Value}(h:Ay C w b o cs){v:Value}(hk:cs[0]?=some v):w.cell? ⟨b,o,none⟩=some v:=h.at_ 0 v hk
theorem Ay.part0{C:Col}{w:World}{b o:Nat}{cs:List Value}(h:Ay C w b o cs)(ds:List Value)(hd:(cs.drop 0).take ds.length=ds):Kd.At w b o ds:=Kd.At.part h.at_ 0 ds hd
theorem A8{α:Type}{κ:Kd α}{C:Col}{w:World}{s:Value}{xs:List α}{i:Int}{x:α}(h:Slc κ C.F w s xs)(hi:idx xs i=some x):
  ∃b o cap cs,s= .slice (some ⟨b,o,none⟩) xs.length cap/\0<=i/\i< (xs.length:Int)/\κ.rep C.F w cs x/\Ay C w b (o+i.toNat*κ.size) cs:=by
 obtain ⟨b,o,cap,cs,h1,h2,h3,h4,h5,h6,h7,h8⟩:=AAV h hi
 exact ⟨b,o,cap,cs,h1,h4,h5,h6,h2,h3,h8⟩
theorem Bn{P:Program}{ds:List Deferred}{n:Nat}{ops:Array Oper}{ρ:Env}{w:World}{i:Nat}{o:Oper}{K:Env->World->Prop}{d:Nat}(ho:ops[i]?=some o)(hg:Hn ops ρ n o true)(hd:o.dst=some d)(hn:Nat.blt d n=true)
  (h:P9 P ρ o w λv w'=>K (ρ.put d v) w'):BI P ds n ops i K ρ w:=
 let ⟨_,_,hr,hK⟩:=h;ZD ho hg hd hn hr hK
theorem BS{P:Program}{ds:List Deferred}{n:Nat}{ops:Array Oper}{ρ:Env}{w:World}{i:Nat}{o:Oper}{K:Env->World->Prop}(ho:ops[i]?=some o)(hg:Hn ops ρ n o true)(hd:o.dst=none)
  (h:Xl P ρ o w λw'=>K ρ w'):BI P ds n ops i K ρ w:=
 let ⟨_,hr,hK⟩:=h;YZ ho hg hd hr hK
theorem Own.lit{α:Type}{κ:Kd α}{E:Nat}{C:Col}{w:World}{k b n:Nat}{cs:List Value}{xs:List α}{css:List (List Value)}(h:Bk C w k b cs E)(hn:n=xs.length)(hc:css.flatten=cs)(hl:css.length=xs.length)
  (hr: ∀(i:Nat) (x:α) (c:List Value),xs[i]?=some x->css[i]?=some c->κ.rep C.F w c x) (hs: ∀c∈css,c.length=κ.size) (hm:Nat.ble xs.length 9223372036854775807=true) (hne:Kd.Cx κ.rep->xs≠[]:=by first| (intro _ h;cases h;done)| (intro h;exact absurd h Kd.NoCx.no)):Own κ E C w k (.slice (some ⟨b,0,none⟩) n n) xs:=by
 subst hn;subst hc
 have hlen:=L5 css κ.size hs
 refine ⟨css,hl,hr,hs,⟨by rw [hlen,hl],.inr ⟨b,xs.length,_,rfl,Nat.zero_le _,h.heap,Nat.le_refl _,by have:=Nat.le_of_ble_eq_true hm;simpa [maxLen] using this,by simp [hlen,hl],?_⟩⟩,λc hb=>?_,λhx h0=>absurd h0 (hne hx)⟩
 ·rw [<-hl,<-hlen];exact List.take_length
 ·simp only [Value.ownBlock,Option.some.injEq] at hb;subst hb;exact h.col
theorem BB{α:Type}{κ:Kd α}{C:Col}{w:World}: ∀(i:Nat) (x:α) (c:List Value),([]:List α)[i]?=some x->([]:List (List Value))[i]?=some c->κ.rep C.F w c x:=by intro i x c h;simp at h
theorem Ac{α:Type}{κ:Kd α}{C:Col}{w:World}{y:α}{ys:List α}{d:List Value}{ds:List (List Value)}(h:κ.rep C.F w d y)(hr: ∀(i:Nat) (x:α) (c:List Value),ys[i]?=some x->ds[i]?=some c->κ.rep C.F w c x):
  ∀(i:Nat) (x:α) (c:List Value),(y::ys)[i]?=some x->(d::ds)[i]?=some c->κ.rep C.F w c x
 |0,x,c,hx,hc=>by simp only [List.getElem?_cons_zero,Option.some.injEq] at hx hc;subst hx;subst hc;exact h
 |i+1,x,c,hx,hc=>hr i x c (by simpa using hx) (by simpa using hc)
inductive RV(P:Program)(ρ:Env)(w:World):ResultVar->Value->Prop
 |tmp {t:Nat} {v:Value} (h:ρ t=v):RV P ρ w (.tmp t) v
 |one {a T b o:Nat} {v:Value} (hT:Ky P T=true) (ha:ρ a= .pointer (some ⟨b,o,none⟩)) (hc:w.cell? ⟨b,o,none⟩=some v):RV P ρ w (.cell a T) v
 |agg {a T m b o:Nat} {cs:List Value} (hT:NW P T m=true) (ha:ρ a= .pointer (some ⟨b,o,none⟩)) (hl:cs.length=m) (hc:Kd.At w b o cs):RV P ρ w (.cell a T) (.agg cs.toArray)
section
variable{P:Program}{ρ:Env}{w:World}{fn:Func}{R:Ending->World->Prop}
def TB(tmps:Array Value):ResultVar->Sem Value
 | .tmp t=>pure (tmps.getD t undef)
 | .cell a t=>do loadVar t (<-asAddr (tmps.getD a undef))
theorem RV.run{r:ResultVar}{v:Value}(h:RV P ρ w r v)(tmps:Array Value)(ht: ∀t,tmps.getD t undef=ρ t):(TB tmps r).run P w= .ok v w:=by
 cases h with
 |tmp h=>simp only [TB,ht,h];rfl
 |one hT ha hc=>simp only [TB,ht,ha,asAddr];simp [Oe hT hc]
 |agg hT ha hl hc=>simp only [TB,ht,ha,asAddr];simp [Of hT hl hc]
theorem Mg(fn:Func)(tmps:Array Value):results fn tmps=(do let vs<-fn.results.mapM (TB tmps);pure (if h:vs.size=1 then vs[0] else .tuple vs)):=by
 unfold results
 congr 1
theorem NI(h:fn.results=#[])(hR:R (.returned (.tuple #[])) w):M7 P fn R .ret ρ w:=⟨_,λtmps _=>by rw [Mg,h];simp,hR⟩
theorem TC{r:ResultVar}{v:Value}(h:fn.results=#[r])(h1:RV P ρ w r v)(hR:R (.returned v) w):M7 P fn R .ret ρ w:=
 ⟨v,λtmps ht=>by
  rw [Mg,h]
  simp [Array.mapM_eq_mapM_toList,h1.run tmps ht],hR⟩
theorem ACp{r r':ResultVar}{v v':Value}(h:fn.results=#[r,r'])(h1:RV P ρ w r v)(h2:RV P ρ w r' v')(hR:R (.returned (.tuple #[v,v'])) w):M7 P fn R .ret ρ w:=
 ⟨_,λtmps ht=>by
  rw [Mg,h]
  simp [Array.mapM_eq_mapM_toList,h1.run tmps ht,h2.run tmps ht],hR⟩
theorem ACq{r r' r'':ResultVar}{v v' v'':Value}(h:fn.results=#[r,r',r''])(h1:RV P ρ w r v)(h2:RV P ρ w r' v')(h3:RV P ρ w r'' v'')(hR:R (.returned (.tuple #[v,v',v''])) w):M7 P fn R .ret ρ w:=
 ⟨_,λtmps ht=>by
  rw [Mg,h]
  simp [Array.mapM_eq_mapM_toList,h1.run tmps ht,h2.run tmps ht,h3.run tmps ht],hR⟩
end
end Fth
namespace Fth
open Go
theorem B6: ∀v∈([]:List Value),v.oneCell'=true:=by simp
theorem AQ{v:Value}{vs:List Value}(h:v.oneCell'=true)(hs: ∀v∈vs,v.oneCell'=true): ∀u∈v::vs,u.oneCell'=true:=by
 intro u hu
 rcases List.mem_cons.1 hu with rfl|hu
 ·exact h
 ·exact hs u hu
theorem Ds{n:Nat}: ∀c∈([]:List (List Value)),c.length=n:=by simp
theorem A6{n:Nat}{c:List Value}{cs:List (List Value)}(h:c.length=n)(hs: ∀c∈cs,c.length=n): ∀d∈c::cs,d.length=n:=by
 intro d hd
 rcases List.mem_cons.1 hd with rfl|hd
 ·exact h
 ·exact hs d hd
theorem Own.one{α:Type}{κ:Kd α}{E k:Nat}{C:Col}{w:World}{v:Value}{xs:List α}(h:Own κ E C w k v xs):v.oneCell'=true:=by
 rcases h.head with ⟨rfl,_⟩| ⟨_,_,rfl,_⟩<;>rfl
theorem Az{P:Program}{f:FuncId}{fn:Func}{c:Code}{args:Array Value}{w:World}{R:Ending->World->Prop}{n:Nat}
  (hf:P.funcs[f]?=some fn) (hb:fn.body=some c) (hn:fn.ntmps=n) (hs:Nat.ble args.size n=true)
  (h: ∀B:Gb,B=M7 P fn R->M9 B->WC P [] n c B (Mf args.toList) w):Calls P f args w R:=ZC hf hb hn hs (h _ rfl (λ_ _ _ _ h=>h))
theorem Ye{P:Program}{fn:Func}{R:Ending->World->Prop}{B:Gb}{ρ:Env}{w:World}(hB:B=M7 P fn R)(h:M7 P fn R .ret ρ w):B .ret ρ w:=hB▸h
theorem NJ{P:Program}{fn:Func}{R:Ending->World->Prop}{B:Gb}{ρ:Env}{w:World}(hB:B=M7 P fn R)(h:M7 P fn R .ret ρ w):B .normal ρ w:=by subst hB;exact h
def Gd{α:Type}(bytes:Nat)(xs ys:List α):Option Unit:=if (xs.length+ys.length)*bytes<=140737488355328/\xs.length+ys.length<=9223372036854775807 then some () else none
theorem Ea{α:Type}{b:Nat}{xs ys:List α}{u:Unit}(h:Gd b xs ys=some u):(xs.length+ys.length)*b<=140737488355328:=by
 unfold Gd at h;split at h
 ·rename_i h';exact h'.1
 ·cases h
theorem Ew{α:Type}{b:Nat}{xs ys:List α}{u:Unit}(h:Gd b xs ys=some u):xs.length+ys.length<=9223372036854775807:=by
 unfold Gd at h;split at h
 ·rename_i h';exact h'.2
 ·cases h
def nz(n:Int):Option Unit:=if n=0 then none else some ()
theorem Pr{n:Int}{u:Unit}(h:nz n=some u):n≠0:=by unfold nz at h;split at h<;>simp_all
def nn(n:Int):Option Unit:=if n<0 then none else some ()
theorem Vn{n:Int}{u:Unit}(h:nn n=some u): ¬n<0:=by unfold nn at h;split at h<;>simp_all
theorem Mw{rs:List Nat}: ∀c,see rs c∈([]:List Nat)->c∈([]:List Nat):=by intro c h;simp at h
section
variable{P:Program}{ρ:Env}{w:World}{d:Option Nat}{ty:Nat}{pos:String}{af:Array Edge}{g:Option (Nat×Bool)}{T:Nat}
namespace Run
theorem fieldAddr0{x:Operand}{t f b o:Nat}(hf:EX P t f 0=true)(hx:ev ρ x= .pointer (some ⟨b,o,none⟩)):
  (execOp (ev ρ) ⟨d,.fieldAddr t x f,ty,pos,af,g⟩).run P w= .ok (.value (.pointer (some ⟨b,o,none⟩))) w:=by
 have:=Run.fieldAddr (w:=w) (d:=d) (ty:=ty) (pos:=pos) (af:=af) (g:=g) hf hx
 simpa using this
theorem pick{c x y:Operand}{t:Bool}{v:Value}(hc:ev ρ c= .bool t)(hv:(if t then ev ρ x else ev ρ y)=v:=by rfl):
  (execOp (ev ρ) ⟨d,.pick c x y,ty,pos,af,g⟩).run P w= .ok (.value v) w:=by
 subst hv;simp [execOp,hc,asBool]
theorem quo{x y:Operand}{k:IntKind}{a b:Int}{t2:Nat}(hx:ev ρ x= .int k a)(hy:ev ρ y= .int k b)(h:b≠0):
  (execOp (ev ρ) ⟨d,.binOp .quo T x y t2,ty,pos,af,g⟩).run P w= .ok (.value (.int k (k.wrap (a.tdiv b)))) w:=by
 simp [execOp,hx,hy,eqGuard,binOp,Op.intDiv,h]
theorem rem{x y:Operand}{k:IntKind}{a b:Int}{t2:Nat}(hx:ev ρ x= .int k a)(hy:ev ρ y= .int k b)(h:b≠0):
  (execOp (ev ρ) ⟨d,.binOp .rem T x y t2,ty,pos,af,g⟩).run P w= .ok (.value (.int k (a.tmod b))) w:=by
 simp [execOp,hx,hy,eqGuard,binOp,Op.intDiv,h]
end Run
end
end Fth
namespace Fth
open Go Go.RowKit
inductive Yf(ρ:Env)(pl:List Cpl):List (Nat×Operand)->List (Nat×List Value)->Prop
 |nil:Yf ρ pl [] []
 |cons {f o:Nat} {x:Operand} {v:Value} {c:List Value} {ps:List (Nat×Operand)} {ocs:List (Nat×List Value)} (h:ev ρ x=v) (hc:v.cells=c.toArray) (hp:pl[f]?=some (o,c.length)) (hr:Yf ρ pl ps ocs):Yf ρ pl ((f,x)::ps) ((o,c)::ocs)
theorem TD{cs:List Value}{o:Nat}{c:List Value}(h:o+c.length<=cs.length):(IX cs o c).length=cs.length:=by simp [IX];omega
theorem Yg{ρ:Env}{pl:List Cpl}{ps:List (Nat×Operand)}{ocs:List (Nat×List Value)}(h:Yf ρ pl ps ocs): ∀(A:Array Value) (zs:List Value),A.toList=zs->(ocs.all λoc=>Nat.ble (oc.1+oc.2.length) zs.length)=true->
  Instr.fill (λi=>pl[i]?) A (ps.map λx=>(x.1,ev ρ x.2))=some (ocs.foldl (λcs oc=>IX cs oc.1 oc.2) zs).toArray:=by
 induction h with
 |nil=>intro A zs hA _;subst hA;simp [Instr.fill]
 | @cons f o x v c ps ocs h hc hp hr ih=>
  intro A zs hA hb
  simp only [List.all_cons,Bool.and_eq_true,Nat.ble_eq] at hb
  have hs:A.size=zs.length:=by rw [<-hA];simp
  simp only [List.map_cons,Instr.fill,h,hc,hp,List.size_toArray,ne_eq,not_true_eq_false,decide_false,Bool.false_or,decide_eq_true_eq,List.foldl_cons]
  rw [if_neg om]
  have hz:c.toArray.zipIdx.foldl (λcs (x:Value×Nat)=>cs.setIfInBounds (o+x.2) x.1) A=(c.zipIdx.foldl (λcs (x:Value×Nat)=>cs.setIfInBounds (o+x.2) x.1) A):=by simp
  have hf:=TA o c 0 A (zs.take o) ((zs.drop o).take c.length) (zs.drop (o+c.length)) (by rw [hA,<-List.drop_drop,List.take_append_drop,List.take_append_drop]) (by simp;omega) (by simp;omega)
  rw [hz]
  exact ih _ (IX zs o c) (by rw [hf];simp [IX]) (by rw [TD hb.1];exact hb.2)
section
variable{P:Program}{ρ:Env}{w:World}{d:Option Nat}{ty:Nat}{pos:String}{af:Array Edge}{g:Option (Nat×Bool)}{T:Nat}
theorem CK{z:Value}{pl:List Cpl}{ps:List (Nat×Operand)}{cs:List Value}{ocs:List (Nat×List Value)}(zs:List Value)(hz:(P.info? T).map (·.zero)=some (some z))(hp:plc P T=some pl)
  (hzs:z.cells=zs.toArray) (hl:Yf ρ pl ps ocs) (hb:(ocs.all λoc=>Nat.ble (oc.1+oc.2.length) zs.length)=true) (hf:ocs.foldl (λcs oc=>IX cs oc.1 oc.2) zs=cs):
  (execOp (ev ρ) ⟨d,.build T ps.toArray,ty,pos,af,g⟩).run P w= .ok (.value (.agg cs.toArray)) w:=
 Yd hz hp (by rw [Yg hl z.cells zs (by rw [hzs]) hb,hf])
end
def feq(x y:Nat):Bool:=FloatKind.f64.format.order x y==some .eq
def fne(x y:Nat):Bool:=FloatKind.f64.format.order x y != some .eq
def flt_(x y:Nat):Bool:=FloatKind.f64.format.order x y==some .lt
def fle(x y:Nat):Bool:=FloatKind.f64.format.order x y==some .lt||FloatKind.f64.format.order x y==some .eq
def fgt(x y:Nat):Bool:=FloatKind.f64.format.order x y==some .gt
def fge(x y:Nat):Bool:=FloatKind.f64.format.order x y==some .gt||FloatKind.f64.format.order x y==some .eq
def cadd(x y:Cpl):Option Cpl:=(FloatKind.f64.format.add x.1 y.1).bind λa=>(FloatKind.f64.format.add x.2 y.2).bind λb=>some (a,b)
def csub(x y:Cpl):Option Cpl:=(FloatKind.f64.format.sub x.1 y.1).bind λa=>(FloatKind.f64.format.sub x.2 y.2).bind λb=>some (a,b)
def cmul(x y:Cpl):Option Cpl:=
 (FloatKind.f64.format.mul x.1 y.1).bind λac=>(FloatKind.f64.format.mul x.2 y.2).bind λbd=>(FloatKind.f64.format.sub ac bd).bind λe=>
 (FloatKind.f64.format.mul x.1 y.2).bind λad=>(FloatKind.f64.format.mul x.2 y.1).bind λbc=>(FloatKind.f64.format.add ad bc).bind λf=>some (e,f)
def ceq(x y:Cpl):Bool:=feq x.1 y.1&&feq x.2 y.2
def cne(x y:Cpl):Bool:= !(feq x.1 y.1&&feq x.2 y.2)
def f2i(k:IntKind)(x:Nat):Option Int:=
 match (FloatKind.f64.decode x).toInt .zero with
 |some n=>if k.min<=n/\n<=k.max then some n else none
 |none=>none
def TE(x:Nat):Option Nat:=
 match FloatKind.f64.decode x with
 | .nan _ t=>if FloatKind.f64.format.quiet t=t then some x else none
 |d=>some (FloatKind.f64.encode (d.integral .zero))
theorem Xm{P:Program}{w:World}{x r:Nat}{nm:String}(h:TE x=some r):(Extern.MathFloor.toIntegral nm .zero #[.float .f64 x]).run P w= .ok (.float .f64 r) w:=by
 have e:Extern.MathFloor.toIntegral nm .zero #[.float .f64 x]=(match FloatKind.f64.decode x with
   | .nan s t=>if FloatKind.f64.format.quiet t=t then pure (.float .f64 x) else do
    let kept<-choose (.extern "math.Floor,Ceil,Trunc,RoundToEven.signallingNaN kept" 2)
    pure (.float .f64 (if kept==1 then x else FloatKind.f64.encode (.nan s (FloatKind.f64.format.quiet t))))
   |d=>pure (.float .f64 (FloatKind.f64.encode (d.integral .zero)))):=rfl
 rw [e]
 unfold TE at h
 cases hd:FloatKind.f64.decode x with
 |nan s t=>
  rw [hd] at h
  simp only at h
  split at h
  ·rename_i hq
   cases h
   simp only [hq,if_true,Sem.run_pure]
  ·cases h
 |_=>rw [hd] at h;cases h;rfl
def FB(k:IntKind)(a b:Int):Int:=k.wrap (BitVec.ofInt k.bits a&&& BitVec.ofInt k.bits b).toNat
def Md(k:IntKind)(a b:Int):Int:=k.wrap (BitVec.ofInt k.bits a|||BitVec.ofInt k.bits b).toNat
def C8(k:IntKind)(a b:Int):Int:=k.wrap (BitVec.ofInt k.bits a&&& ~~~ BitVec.ofInt k.bits b).toNat
def shl(k:IntKind)(a b:Int):Int:=k.wrap (a*2^min b.toNat k.bits)
def shr(k:IntKind)(a b:Int):Int:=a.fdiv (2^min b.toNat k.bits)
def u8c(e:Int):UInt8:=UInt8.ofNat (IntKind.u8.wrap e).toNat
theorem ABh(e:Int):((u8c e).toNat:Int)=IntKind.u8.wrap e:=by
 have h:IntKind.u8.wrap e=e % 256:=by
  simp [IntKind.wrap,IntKind.signed,IntKind.bits]
 rw [u8c,h,UInt8.toNat_ofNat']
 omega
theorem ABc{e:Int}{r:Result Next}{w:World}(h:r= .ok (.value (.int .u8 (IntKind.u8.wrap e))) w):r= .ok (.value (.int .u8 ((u8c e).toNat:Int))) w:=by rw [h,ABh]
section
variable{P:Program}{ρ:Env}{w:World}{d:Option Nat}{ty:Nat}{pos:String}{af:Array Edge}{g:Option (Nat×Bool)}{T:Nat}
namespace Run
theorem ext{f:Nat}{fn:Func}{xs:List Operand}{vs:List Value}{ts:Array Nat}{e:Array Value->Sem Value}{v:Value}{w':World}(hf:P.funcs[f]?=some fn)(hb:fn.body=none)(hnm:(fn.name== "runtime.NumGoroutine")=false)
  (hn:Extern.findNext fn=none) (he:Extern.find fn=some e) (hv:xs.map (ev ρ)=vs) (hr:(e vs.toArray).run P w= .ok v w'):
  (execOp (ev ρ) ⟨d,.call {callee:= .value (.func f),args:=xs.toArray,argTypes:=ts},ty,pos,af,g⟩).run P w= .ok (.value v) w':=by
 subst hv
 have hnm': ¬fn.name= "runtime.NumGoroutine" :=λh=>by simp [h] at hnm
 simp [execOp,resolve,ev,Deferred.ofValue,invoke,callFunc,hf,hb,hnm',hn,he,hr]
theorem fadd{x y:Operand}{a b r t2:Nat}(hx:ev ρ x= .float .f64 a)(hy:ev ρ y= .float .f64 b)(h:FloatKind.f64.format.add a b=some r):
  (execOp (ev ρ) ⟨d,.binOp .add T x y t2,ty,pos,af,g⟩).run P w= .ok (.value (.float .f64 r)) w:=by
 simp [execOp,hx,hy,eqGuard,binOp,Op.floatArith,h]
theorem fsub{x y:Operand}{a b r t2:Nat}(hx:ev ρ x= .float .f64 a)(hy:ev ρ y= .float .f64 b)(h:FloatKind.f64.format.sub a b=some r):
  (execOp (ev ρ) ⟨d,.binOp .sub T x y t2,ty,pos,af,g⟩).run P w= .ok (.value (.float .f64 r)) w:=by
 simp [execOp,hx,hy,eqGuard,binOp,Op.floatArith,h]
theorem fmul{x y:Operand}{a b r t2:Nat}(hx:ev ρ x= .float .f64 a)(hy:ev ρ y= .float .f64 b)(h:FloatKind.f64.format.mul a b=some r):
  (execOp (ev ρ) ⟨d,.binOp .mul T x y t2,ty,pos,af,g⟩).run P w= .ok (.value (.float .f64 r)) w:=by
 simp [execOp,hx,hy,eqGuard,binOp,Op.floatArith,h]
theorem fdiv{x y:Operand}{a b r t2:Nat}(hx:ev ρ x= .float .f64 a)(hy:ev ρ y= .float .f64 b)(h:FloatKind.f64.format.div a b=some r):
  (execOp (ev ρ) ⟨d,.binOp .quo T x y t2,ty,pos,af,g⟩).run P w= .ok (.value (.float .f64 r)) w:=by
 simp [execOp,hx,hy,eqGuard,binOp,Op.floatArith,h]
theorem cadd{x y:Operand}{a b r:Cpl}{t2:Nat}(hx:ev ρ x= .complex .f64 a.1 a.2)(hy:ev ρ y= .complex .f64 b.1 b.2)(h:Fth.cadd a b=some r):
  (execOp (ev ρ) ⟨d,.binOp .add T x y t2,ty,pos,af,g⟩).run P w= .ok (.value (.complex .f64 r.1 r.2)) w:=by
 simp only [Fth.cadd,Option.bind_eq_some_iff] at h
 obtain ⟨p,h1,q,h2,h3⟩:=h
 cases h3
 simp [execOp,hx,hy,eqGuard,binOp,Op.complexOp,Op.Complex.arith,Op.floatArith,h1,h2]
theorem csub{x y:Operand}{a b r:Cpl}{t2:Nat}(hx:ev ρ x= .complex .f64 a.1 a.2)(hy:ev ρ y= .complex .f64 b.1 b.2)(h:Fth.csub a b=some r):
  (execOp (ev ρ) ⟨d,.binOp .sub T x y t2,ty,pos,af,g⟩).run P w= .ok (.value (.complex .f64 r.1 r.2)) w:=by
 simp only [Fth.csub,Option.bind_eq_some_iff] at h
 obtain ⟨p,h1,q,h2,h3⟩:=h
 cases h3
 simp [execOp,hx,hy,eqGuard,binOp,Op.complexOp,Op.Complex.arith,Op.floatArith,h1,h2]
theorem cmul{x y:Operand}{a b r:Cpl}{t2:Nat}(hx:ev ρ x= .complex .f64 a.1 a.2)(hy:ev ρ y= .complex .f64 b.1 b.2)(h:Fth.cmul a b=some r):
  (execOp (ev ρ) ⟨d,.binOp .mul T x y t2,ty,pos,af,g⟩).run P w= .ok (.value (.complex .f64 r.1 r.2)) w:=by
 simp only [Fth.cmul,Option.bind_eq_some_iff] at h
 obtain ⟨p1,h1,p2,h2,p3,h3,p4,h4,p5,h5,p6,h6,h7⟩:=h
 cases h7
 simp [execOp,hx,hy,eqGuard,binOp,Op.complexOp,Op.Complex.conv,Op.Complex.product,Op.Complex.mul,Op.Complex.sub,Op.Complex.add,Op.Complex.arith,Op.floatArith,h1,h2,h3,h4,h5,h6]
theorem ceq{x y:Operand}{a b:Cpl}{t2:Nat}(hx:ev ρ x= .complex .f64 a.1 a.2)(hy:ev ρ y= .complex .f64 b.1 b.2):
  (execOp (ev ρ) ⟨d,.binOp .eql T x y t2,ty,pos,af,g⟩).run P w= .ok (.value (.bool (Fth.ceq a b))) w:=by
 simp [execOp,hx,hy,eqGuard,binOp,Op.complexOp,Op.Complex.cmp,Op.floatCmp,asBool,Fth.ceq,feq]
theorem cne{x y:Operand}{a b:Cpl}{t2:Nat}(hx:ev ρ x= .complex .f64 a.1 a.2)(hy:ev ρ y= .complex .f64 b.1 b.2):
  (execOp (ev ρ) ⟨d,.binOp .neq T x y t2,ty,pos,af,g⟩).run P w= .ok (.value (.bool (Fth.cne a b))) w:=by
 simp [execOp,hx,hy,eqGuard,binOp,Op.complexOp,Op.Complex.cmp,Op.floatCmp,asBool,Fth.cne,feq]
theorem f2i{x:Operand}{s t b:Nat}{k:IntKind}{n:Int}(hx:ev ρ x= .float .f64 b)(hs:P.underlying s=some (.float .f64)/\P.underlying t=some (.int k))(h:Fth.f2i k b=some n):
  (execOp (ev ρ) ⟨d,.convert s t x,ty,pos,af,g⟩).run P w= .ok (.value (.int k n)) w:=by
 unfold Fth.f2i at h
 split at h
 ·rename_i m hm
  split at h
  ·rename_i hb
   cases h
   simp [execOp,hx,convert,run_underlying hs.1,run_underlying hs.2,Conv.floatToInt,hm,hb]
  ·cases h
 ·cases h
theorem shl{x y:Operand}{k k':IntKind}{a b:Int}{t2:Nat}(hx:ev ρ x= .int k a)(hy:ev ρ y= .int k' b)(h: ¬b<0):
  (execOp (ev ρ) ⟨d,.binOp .shl T x y t2,ty,pos,af,g⟩).run P w= .ok (.value (.int k (Fth.shl k a b))) w:=by
 simp [execOp,hx,hy,eqGuard,binOp,Op.shift,h,Fth.shl]
theorem shr{x y:Operand}{k k':IntKind}{a b:Int}{t2:Nat}(hx:ev ρ x= .int k a)(hy:ev ρ y= .int k' b)(h: ¬b<0):
  (execOp (ev ρ) ⟨d,.binOp .shr T x y t2,ty,pos,af,g⟩).run P w= .ok (.value (.int k (Fth.shr k a b))) w:=by
 simp [execOp,hx,hy,eqGuard,binOp,Op.shift,h,Fth.shr]
theorem eqBool{a b:Bool}(hu:P.underlying T=some .bool):(Op.equal T (.bool a) (.bool b)).run P w= .ok (a==b) w:=run_equalIn_bool w 9999 T a b hu
theorem boolNe{x y:Operand}{a b:Bool}{t2:Nat}(hu:P.underlying T=some .bool)(hx:ev ρ x= .bool a)(hy:ev ρ y= .bool b):
  (execOp (ev ρ) ⟨d,.binOp .neq T x y t2,ty,pos,af,g⟩).run P w= .ok (.value (.bool (!(a==b)))) w:=by
 simp [execOp,hx,hy,eqGuard,binOp,eqBool hu]
end Run
def W3(P:Program)(T:Nat):Bool:=
  (match P.underlying T with
   |some (.struct fs)=>(match fs.toList with
     | [f,f']=>f.name != "_" &&f'.name != "_" &&Nat.beq f.offset 0&&Nat.beq f'.offset 1&&(match P.underlying f.type with |some (.int .i64)=>true|_=>false)&&(match P.underlying f'.type with |some (.int .i64)=>true|_=>false)&&Ky P f.type&&Ky P f'.type
     |_=>false)
   |_=>false)&& !P.stoodInHeld T&& !P.eqGuardType P.depth T
theorem ZH{P:Program}{t:Nat}(h:(match P.underlying t with |some (.int .i64)=>true|_=>false)=true):P.underlying t=some (.int .i64):=by
 split at h
 ·assumption
 ·cases h
namespace Run
theorem eqInt2{a b a' b':Int}(h:W3 P T=true):(Op.equalIn 10000 T (.agg [.int .i64 a,.int .i64 b].toArray) (.agg [.int .i64 a',.int .i64 b'].toArray)).run P w= .ok (a==a'&&b==b') w:=by
 unfold W3 at h
 simp only [Bool.and_eq_true,Bool.not_eq_true'] at h
 obtain ⟨⟨h,hs⟩,_⟩:=h
 cases hu:P.underlying T with
 |none=>rw [hu] at h;cases h
 |some u=>
  rw [hu] at h
  cases u with
  |struct fs=>
   simp only at h
   have hf:P.fieldsOf T=fs:=by simp [Program.fieldsOf,hu]
   rw [run_equalIn_struct w 9999 T _ _ (by rw [hf,hu]) hs,hf]
   match hl:fs.toList with
   | [f,f']=>
    rw [hl] at h
    simp only [Bool.and_eq_true] at h
    obtain ⟨⟨⟨⟨⟨⟨⟨h1,h2⟩,h3⟩,h4⟩,h5⟩,h6⟩,h7⟩,h8⟩:=h
    have h3:=Nat.eq_of_beq_eq_true h3
    have h4:=Nat.eq_of_beq_eq_true h4
    have p1:=MG (w:=w) (cs:=[.int .i64 a,.int .i64 b]) (off:=0) h7 rfl
    have p2:=MG (w:=w) (cs:=[.int .i64 a',.int .i64 b']) (off:=0) h7 rfl
    have p3:=MG (w:=w) (cs:=[.int .i64 a,.int .i64 b]) (off:=1) h8 rfl
    have p4:=MG (w:=w) (cs:=[.int .i64 a',.int .i64 b']) (off:=1) h8 rfl
    have e1:=run_equalIn_int w 9998 f.type .i64 .i64 a a' (ZH h5)
    have e2:=run_equalIn_int w 9998 f'.type .i64 .i64 b b' (ZH h6)
    have n1:f.name≠ "_" :=by simpa using h1
    have n2:f'.name≠ "_" :=by simpa using h2
    simp only [Op.eqFields,n1,n2,if_true,ne_eq,not_false_eq_true,h3,h4,Sem.run_bind,p1,p2,e1,Result.andThen_ok]
    cases hab:(a==a')<;>cases hbb:(b==b')<;>simp [e2,hbb,p3,p4]
   | []=>rw [hl] at h;cases h
   | [_]=>rw [hl] at h;cases h
   |_::_::_::_=>rw [hl] at h;cases h
  |_=>cases h
theorem int2Eq{x y:Operand}{a b a' b':Int}{t2:Nat}(h:W3 P T=true)(hx:ev ρ x= .agg [.int .i64 a,.int .i64 b].toArray)(hy:ev ρ y= .agg [.int .i64 a',.int .i64 b'].toArray):
  (execOp (ev ρ) ⟨d,.binOp .eql T x y t2,ty,pos,af,g⟩).run P w= .ok (.value (.bool (a==a'&&b==b'))) w:=by
 have hg:P.eqGuardType P.depth T=false:=by unfold W3 at h;simp only [Bool.and_eq_true,Bool.not_eq_true'] at h;exact h.2
 have:=eqInt2 (w:=w) (a:=a) (b:=b) (a':=a') (b':=b') h
 simp only [execOp,hx,hy,Sem.run_bind,run_eqGuard_agg w _ _ _ _ _ _ hg,run_eql_struct,this,Result.andThen_ok,Sem.run_pure]
theorem bytesStr{F:Nat->Prop}{x:Operand}{s t e:Nat}{v:Value}{xs:List UInt8}(hT:P.underlying s=some (.slice e)/\P.underlying e=some (.int .u8)/\P.underlying t=some .string)(hx:ev ρ x=v)(h:Slc Kd.u8 F w v xs):
  (execOp (ev ρ) ⟨d,.convert s t x,ty,pos,af,g⟩).run P w= .ok (.value (.string (bs xs))) w:=by
 obtain ⟨a,cap,rfl,hc,_,h⟩:=h
 have key:(convert s t (.slice a xs.length cap)).run P w= .ok (.string (bs xs)) w:=by
  by_cases hnil:a=none
  ·subst hnil
   have:xs=[]:=by
    rcases h with h| ⟨b,off,h,_⟩
    ·exact h
    ·cases h
   subst this
   rw [run_convert_bytes_string w s t e _ _ _ hT.1 hT.2.1 hT.2.2]
   simp [Conv.bytesToString]
   rfl
  ·obtain ⟨ad,rfl⟩:=Option.ne_none_iff_exists'.1 hnil
   refine run_convert_bytes_back w s t e ad cap xs hT.1 hT.2.1 hT.2.2 λj hj=>?_
   rcases h with h| ⟨b,off,ha,_,_,h⟩
   ·subst h;simp at hj
   ·cases ha
    obtain ⟨cs,hr,hl,hat⟩:=h j xs[j] (List.getElem?_eq_getElem hj)
    have hr:cs=[Value.int .u8 (xs[j].toNat:Int)]:=hr
    subst hr
    have:=hat 0 _ rfl
    have hp:(⟨b,off,none⟩:Addr).add j=⟨b,off+j,none⟩:=by unfold Addr.add;split<;>simp_all
    rw [hp]
    simpa [Kd.u8,Kd.one] using this
 simp [execOp,hx,key]
end Run
end
end Fth
namespace Fth
open Go Go.RowKit
theorem AU.lend{S:List Nat}{C C':Col}{w w':World}{b k:Nat}(h:AU S (C.put b 0) w C' w')(hk:C b=k)(h0:0∉S):AU S C w (C'.put b k) w':=by
 refine ⟨h.os,h.tape,h.output,h.size,λc hc=>?_,λc hc hs=>?_⟩
 ·by_cases hcb:c=b
  ·subst hcb;exact .inl (by simp [Col.put,hk])
  ·have:=h.col c hc
   simpa [Col.put,hcb] using this
 ·refine h.same c hc ?_
  by_cases hcb:c=b
  ·simpa [Col.put,hcb] using h0
  ·simpa [Col.put,hcb] using hs
section
variable{α:Type}{κ:Kd α}{E k:Nat}{C:Col}{w:World}{v:Value}{xs:List α}
theorem Own.lend(h:Own κ E C w k v xs)(hk:k≠0):
  ∃C0,AU [k] C w C0 w/\Kd.slcRep κ.size κ.rep C0.F w v xs/\∀S C' w',AU S C0 w C' w'->0∉S->∃C'',AU S C w C'' w':=by
 obtain ⟨C0,st,hs⟩:=h.freeze (S:=[k]) (by simp) (by simpa using hk.symm)
 rcases h.head with ⟨rfl,rfl⟩| ⟨g,cap,rfl,hc,hg,hlt⟩
 ·exact ⟨C,AU.refl _ _ _,Ba,λS C' w' h _=>⟨C',h⟩⟩
 ·have st':AU [k] C w (C.put g 0) w:=AU.freeze C w (by simp [hg])
  refine ⟨C.put g 0,st',?_,λS C' w' h h0=>⟨_,h.lend hg h0⟩⟩
  obtain ⟨css,h1,h2,h3,⟨h4,h5⟩,h6,hz⟩:=h
  rcases h5 with ⟨h5,_⟩| ⟨g',cap',cur,hv,_,hheap,hc',hm,hsz,ht⟩
  ·cases h5
  ·cases hv
   refine ⟨_,cap,rfl,hc,λhx h0=>(by cases hz hx h0),?_⟩
   by_cases hx:xs=[]
   ·exact .inl hx
   ·refine .inr ⟨g,0,rfl,by simp [Col.put,Col.F],hlt,λi x hi=>?_⟩
    have hilt:=(List.getElem?_eq_some_iff.1 hi).1
    have hcs:css[i]?=some css[i]:=List.getElem?_eq_getElem om
    refine ⟨css[i],κ.step (h2 i x _ hi hcs) st' (by simpa using hk.symm),h3 _ (List.getElem_mem ..),λj c hj=>?_⟩
    have hjl:j<κ.size:=by have:=(List.getElem?_eq_some_iff.1 hj).1;rwa [h3 _ (List.getElem_mem ..)] at this
    have hfl:css.flatten[i*κ.size+j]?=some c:=Own.freeze.flat_get css κ.size h3 i j _ c hcs hj hjl
    rw [<-ht] at hfl
    have hlt2:=(List.getElem?_eq_some_iff.1 hfl).1
    rw [List.length_take] at hlt2
    rw [List.getElem?_take_of_lt om,Array.getElem?_toList] at hfl
    simp [World.cell?,hheap,hfl]
end
structure Fv(k:Nat)(C:Col)(w:World)(b o:Nat)(cs:List Value):Prop where
 col:C b=k
 lt:b<w.heap.size
 at_:Kd.At w b o cs
section
variable{k:Nat}{C C':Col}{w w':World}{b o:Nat}{cs:List Value}{S:List Nat}
theorem Fv.step(h:Fv k C w b o cs)(st:AU S C w C' w')(h0:k∉S):Fv k C' w' b o cs:=by
 have hn:C b∉S:=by rw [h.col];exact h0
 exact ⟨((st.col b h.lt).resolve_right λhx=>hn hx.1).trans h.col,Nat.lt_of_lt_of_le h.lt st.size,h.at_.mono (st.same b h.lt hn)⟩
theorem Fv.cell(h:Fv k C w b o cs){j:Nat}{v:Value}(hk:cs[j]?=some v):w.cell? ⟨b,o+j,none⟩=some v:=h.at_ j v hk
theorem Fv.cell0(h:Fv k C w b o cs){v:Value}(hk:cs[0]?=some v):w.cell? ⟨b,o,none⟩=some v:=h.at_ 0 v hk
theorem Fv.part0(h:Fv k C w b o cs)(ds:List Value)(hd:(cs.drop 0).take ds.length=ds):Kd.At w b o ds:=Kd.At.part h.at_ 0 ds hd
end
section
variable{α:Type}{κ:Kd α}{E k:Nat}{C:Col}{w:World}{v:Value}{xs:List α}
theorem JQ{i:Int}{x:α}(h:Own κ E C w k v xs)(hi:idx xs i=some x):
  ∃b cap cs,v= .slice (some ⟨b,0,none⟩) xs.length cap/\0<=i/\i< (xs.length:Int)/\κ.rep C.F w cs x/\Fv k C w b (0+i.toNat*κ.size) cs:=by
 obtain ⟨css,h1,h2,h3,⟨h4,h5⟩,h6,hz⟩:=h
 obtain ⟨hi0,hi1,hi⟩:=MF hi
 have hlt:=(List.getElem?_eq_some_iff.1 hi).1
 rcases h5 with ⟨rfl,h5⟩| ⟨g,cap,cur,rfl,hg,hheap,hc,hm,hs,ht⟩
 ·omega
 have hcs:css[i.toNat]?=some css[i.toNat]:=List.getElem?_eq_getElem om
 refine ⟨g,cap,css[i.toNat],rfl,om,om,h2 _ x _ hi hcs,h6 g rfl,lt_of_block hheap,λj c hj=>?_⟩
 have hjl:j<κ.size:=by have:=(List.getElem?_eq_some_iff.1 hj).1;rwa [h3 _ (List.getElem_mem ..)] at this
 have hfl:css.flatten[i.toNat*κ.size+j]?=some c:=Own.freeze.flat_get css κ.size h3 _ j _ c hcs hj hjl
 rw [<-ht] at hfl
 have hlt2:=(List.getElem?_eq_some_iff.1 hfl).1
 rw [List.length_take] at hlt2
 rw [List.getElem?_take_of_lt om,Array.getElem?_toList] at hfl
 simp [World.cell?,hheap,hfl]
theorem W4: ∀(css:List (List Value)) (m i:Nat) (c:List Value),(∀cs∈css,cs.length=m)->c.length=m->i<css.length->(css.set i c).flatten=IX css.flatten (i*m) c
 | [],_,_,_,_,_,h=>by simp at h
 |d::css,m,0,c,hm,hc,_=>by
  have:d.length=m:=hm d (List.mem_cons_self ..)
  simp [IX,hc,<-this]
 |d::css,m,i+1,c,hm,hc,h=>by
  have hd:d.length=m:=hm d (List.mem_cons_self ..)
  have:=W4 css m i c (λx hx=>hm x (List.mem_cons_of_mem _ hx)) hc (by simpa using h)
  simp only [List.set_cons_succ,List.flatten_cons,this,IX]
  have e1:(i+1)*m=d.length+i*m:=by rw [Nat.add_mul,hd];omega
  rw [e1,List.take_length_add_append,Nat.add_assoc,List.drop_length_add_append]
  simp only [List.append_assoc]
theorem W5{cs:List Value}{o n:Nat}{c:List Value}(h:o+c.length<=n)(hn:n<=cs.length):(IX cs o c).take n=IX (cs.take n) o c:=by
 have hl:(cs.take o++c).length=o+c.length:=by simp;omega
 simp only [IX]
 rw [List.take_append,List.take_of_length_le om,List.take_take,Nat.min_eq_left om,List.drop_take,hl]
theorem Qd{P:Program}{ρ:Env}{d:Option Nat}{ty:Nat}{pos:String}{af:Array Edge}{g:Option (Nat×Bool)}{T b cap m:Nat}{p y:Operand}{u:Value}{cs:List Value}{i:Int}{z:α}{K:World->Prop}
  (h:Own κ E C w k v xs) (hv:v= .slice (some ⟨b,0,none⟩) xs.length cap) (hk:k≠0) (hT:(P.info? T).map (·.size)=some m) (hm:κ.size=m) (hp:ev ρ p= .pointer (some ⟨b,0+i.toNat*m,none⟩)) (h0:0<=i) (hi:i< (xs.length:Int))
  (hy:ev ρ y=u) (hc:u.cells=cs.toArray) (hr:κ.rep C.F w cs z) (hK: ∀w',Own κ E C w' k v (xs.set i.toNat z)->AU [k] C w C w'->K w'):
  Xl P ρ ⟨d,.store T p y,ty,pos,af,g⟩ w K:=by
 obtain ⟨css,h1,h2,h3,⟨h4,h5⟩,h6,hz⟩:=h
 have hl:cs.length=κ.size:=κ.len hr
 rcases h5 with ⟨rfl,h5⟩| ⟨g',cap',cur,rfl,hg,hheap,hcc,hmx,hs,ht⟩
 ·omega
 cases hv
 have hcol:C b=k:=h6 b rfl
 have hbk:Bk C w k b cur.toList E:=⟨hcol,by simpa using hheap⟩
 have hii:i.toNat<xs.length:=om
 have hmul:(i.toNat+1)*m<=xs.length*m:=Nat.mul_le_mul_right m hii
 have hmul2:xs.length*m<=cap*m:=Nat.mul_le_mul_right m hcc
 rw [Nat.add_mul,Nat.one_mul] at hmul
 subst hm
 obtain ⟨w',hrun,hb',st⟩:=VO (d:=d) (ty:=ty) (pos:=pos) (af:=af) (g:=g) hT hp hy hc hl (κ.ones hr) hbk hk (by rw [Nat.ble_eq];simp;omega)
 refine ⟨w',hrun,hK w' ⟨css.set i.toNat cs,by simp [h1],λj x c hx hcj=>?_,λc hcm=>?_,⟨?_,.inr ⟨b,cap,(IX cur.toList (0+i.toNat*κ.size) cs).toArray,by simp,Nat.zero_le _,hb'.heap,by simpa using hcc,hmx,?_,?_⟩⟩,h6,λhx h0=>(by rw [List.set_eq_nil_iff] at h0;exact hz hx h0)⟩ st⟩
 ·by_cases hji:j=i.toNat
  ·subst hji
   rw [List.getElem?_set_self hii] at hx
   rw [List.getElem?_set_self om] at hcj
   cases hx;cases hcj
   exact κ.step hr st (by simpa using hk.symm)
  ·rw [List.getElem?_set_ne (Ne.symm hji)] at hx hcj
   exact κ.step (h2 j x c hx hcj) st (by simpa using hk.symm)
 ·rcases List.mem_or_eq_of_mem_set hcm with hcm|rfl
  ·exact h3 c hcm
  ·exact hl
 ·rw [L5 _ κ.size λc hcm=>by
   rcases List.mem_or_eq_of_mem_set hcm with hcm|rfl
   ·exact h3 c hcm
   ·exact hl]
  simp [h1]
 ·rw [List.size_toArray,TD (by simp;omega)];simpa using hs
 ·rw [List.length_set,show (IX cur.toList (0+i.toNat*κ.size) cs).toArray.toList=IX cur.toList (0+i.toNat*κ.size) cs by simp]
  rw [W5 om (by simp;omega),ht,W4 css κ.size i.toNat cs h3 hl om,Nat.zero_add]
end
theorem Ro(l:List UInt8):Lib.strCells (bs l)=(l.map λc=>[Value.int .u8 (c.toNat:Int)]).flatten:=by
 show l.map (λb=>Value.int IntKind.u8 b.toNat)=_
 induction l with
 |nil=>rfl
 |cons a l ih=>simp only [List.map_cons,List.flatten_cons,ih];rfl
theorem Own.appendStr{P:Program}{E k t u ty:Nat}{C:Col}{w:World}{v:Value}{xs ys:List UInt8}(h:Own Kd.u8 E C w k v xs)(hk:k≠0)(he:Elt P Kd.u8 t E 1)(hz:(P.info? E).map (·.zero)=some (some (.int .u8 0)))(hu:P.underlying u=some .string)
  (hmax:xs.length+ys.length<=140737488355328):
  ∃v' w' C',(Builtin.append_ #[t,u] ty #[v,.string (bs ys)]).run P w= .ok v' w'/\Own Kd.u8 E C' w' k v' (xs++ys)/\AU [k] C w C' w':=by
 have h0':(0:Nat)∉[k]:=by simpa using hk.symm
 obtain ⟨css,h1,h2,h3,h4,h6,_⟩:=h
 obtain ⟨i,hi,hrow⟩:=Option.map_eq_some_iff.1 he.row
 simp only [Prod.mk.injEq] at hrow
 obtain ⟨hsize,hby⟩:=hrow
 have hsize:i.size=1:=hsize
 rw [hi] at hz
 simp only [Option.map_some,Option.some.injEq] at hz
 have hbs:=NZ ys
 have h4':w.ownsRow 0 E 1 v xs.length css.flatten:=h4
 have fin: ∀v' w' (base:Nat),(Builtin.append_ #[t,u] ty #[v,.string (bs ys)]).run P w= .ok v' w'->w'.ownsRow base E 1 v' (xs.length+ys.length) (css.flatten++Lib.strCells (bs ys))->w.grownBy w' v.ownBlock->
   (∀g,v'.ownBlock=some g->g<w.heap.size->C g=k)->
   ∃v' w' C',(Builtin.append_ #[t,u] ty #[v,.string (bs ys)]).run P w= .ok v' w'/\Own Kd.u8 E C' w' k v' (xs++ys)/\AU [k] C w C' w':=by
  intro v' w' base hr hown hgrow hold
  have st:AU [k] C w C w':=P5 hgrow (λb hb=>by rw [h6 b hb];simp)
  have st':AU [k] C w (λc=>if v'.ownBlock=some c then k else C c) w':=st.of_new λc hc=>by
   show (if v'.ownBlock=some c then k else C c)=C c
   split
   ·rename_i hv;exact (hold c hv hc).symm
   ·rfl
  refine ⟨v',w',_,hr,⟨css++ys.map λc=>[Value.int .u8 (c.toNat:Int)],by simp [h1],λj x cs hx hc=>?_,λcs hcs=>?_,⟨?_,?_⟩,λc hc=>if_pos hc,λhx=>absurd hx (Kd.NoCx.no (rep:=Kd.u8.rep))⟩,st'⟩
  ·by_cases hj:j<xs.length
   ·rw [List.getElem?_append_left hj] at hx
    rw [List.getElem?_append_left om] at hc
    exact Kd.u8.step (h2 j x cs hx hc) st' h0'
   ·rw [List.getElem?_append_right om] at hx
    rw [List.getElem?_append_right om,h1,List.getElem?_map,hx] at hc
    cases hc
    rfl
  ·rcases List.mem_append.1 hcs with hc|hc
   ·exact h3 cs hc
   ·obtain ⟨c,_,rfl⟩:=List.mem_map.1 hc
    rfl
  ·have:=hown.1
   rw [List.flatten_append,<-Ro,List.length_append (as:=xs)];exact this
  ·rw [List.flatten_append,<-Ro,List.length_append (as:=xs)]
   rcases hown.2 with hn| ⟨g,cap,cur,r1,_,r⟩
   ·exact .inl hn
   ·exact .inr ⟨g,cap,cur,r1,Nat.zero_le _,r⟩
 rcases h4.2 with ⟨rfl,hx⟩| ⟨g,gc,cur,rfl,_,hh,hgc,hgm,hcs,ht⟩
 ·have hx:xs=[]:=List.eq_nil_of_length_eq_zero hx
  subst hx
  have hcss:css=[]:=List.eq_nil_of_length_eq_zero h1
  subst hcss
  obtain ⟨v',w',hr,hown,hgrow,_⟩:=Lib.run_append_own_string (P:=P) w w.heap.size t u ty E i he.slc hu hi hz hsize hby (.slice none 0 0) 0 [] (World.ownsRow_nil _ _ _ _) (bs ys) (by simp only [maxLen];simp at hmax;omega) (by simp at hmax;omega) (Nat.le_refl _)
  refine fin v' w' _ hr (by simpa [hbs] using hown) hgrow λc hc hlt=>?_
  rcases hown.2 with ⟨hv,_⟩| ⟨g,_,_,hv,hg,_⟩
  ·rw [hv] at hc;simp [Value.ownBlock] at hc
  ·rw [hv] at hc;simp only [Value.ownBlock,Option.some.injEq] at hc;omega
 ·have hcg:C g=k:=h6 g rfl
  obtain ⟨v',w',hr,hown,hgrow,_⟩:=Lib.run_append_own_string (P:=P) w 0 t u ty E i he.slc hu hi hz hsize hby _ xs.length css.flatten h4' (bs ys) (by simp only [maxLen];omega) om (Nat.zero_le _)
  have hcs1:cur.size=gc:=by rw [hcs];exact Nat.mul_one gc
  by_cases hroom:xs.length+(bs ys).size<=gc
  ·have hr2:=Lib.run_append_room_string (P:=P) w t u ty E i he.slc hu hi hsize g xs.length gc cur hh (bs ys) hroom om
   rw [hr] at hr2
   injection hr2 with hv hw
   refine fin v' w' 0 hr (by simpa [hbs] using hown) hgrow λc hc _=>?_
   rw [hv] at hc;simp only [Value.ownBlock,Option.some.injEq] at hc;subst hc;exact hcg
  ·have holds: ∀j u,css.flatten[j]?=some u->w.cell? ((⟨g,0,none⟩:Addr).add j)=some u:=h4'.cells (g:=g) rfl
   have hfl:css.flatten.length=xs.length*i.size:=by rw [hsize];exact h4'.1
   have hr2:=Lib.run_append_grow_string (P:=P) w t u ty E i (.int .u8 0) he.slc hu hi hz ⟨g,0,none⟩ xs.length gc css.flatten hfl holds (bs ys) om om (by rw [hby];exact growslice_fits om om)
   rw [hr] at hr2
   injection hr2 with hv hw
   refine fin v' w' 0 hr (by simpa [hbs] using hown) hgrow λc hc hlt=>?_
   rw [hv] at hc;simp only [Value.ownBlock,Option.some.injEq] at hc;omega
theorem Uc{P:Program}{ρ:Env}{d:Option Nat}{ty:Nat}{pos:String}{af:Array Edge}{g:Option (Nat×Bool)}{E k t u:Nat}{C:Col}{w:World}{v:Value}{xs ys:List UInt8}{x y:Operand}{K:Value->World->Prop}
  (hx:ev ρ x=v) (hy:ev ρ y= .string (bs ys)) (h:Own Kd.u8 E C w k v xs) (hk:k≠0) (he:Elt P Kd.u8 t E 1) (hz:(P.info? E).map (·.zero)=some (some (.int .u8 0))) (hu:P.underlying u=some .string)
  (hmax:(xs.length+ys.length)*1<=140737488355328) (hK: ∀v' C' w',Own Kd.u8 E C' w' k v' (xs++ys)->AU [k] C w C' w'->K v' w'):
  P9 P ρ ⟨d,.call {callee:= .builtin .append,args:=#[x,y],argTypes:=#[t,u]},ty,pos,af,g⟩ w K:=by
 obtain ⟨v',w',C',hr,ho,hst⟩:=h.appendStr (ty:=ty) (ys:=ys) hk he hz hu om
 refine ⟨v',w',?_,hK v' C' w' ho hst⟩
 simp [execOp,resolve,hx,hy,invoke,builtin,hr]
end Fth
namespace Fth
open Go Go.RowKit
abbrev As:=List (List UInt8×Int)
def MB(s:List UInt8):As->Nat->Option (Nat×Int)
 | [],_=>none
 | (k,x)::m,i=>bif s==k then some (i,x) else MB s m (i+1)
def Cz(m:As)(s:List UInt8):Int:=match MB s m 0 with |some (_,x)=>x|none=>0
def Oj(m:As)(s:List UInt8):Bool:=(MB s m 0).isSome
def Mc(s:List UInt8)(v:Int):As->As
 | []=>[(s,v)]
 | (k,x)::m=>bif s==k then (s,v)::m else (k,x)::Mc s v m
def ZI(es:List MapEntry)(m:As):Prop:=es.map (λe=>(e.key,e.val))=m.map λx=>(Value.string (bs x.1),Value.int .i64 x.2)
structure Mp(C:Col)(w:World)(k b:Nat)(m:As):Prop where
 col:C b=k
 heap: ∃es clock,w.heap[b]?=some (.map es clock)/\ZI es.toList m
section
variable{C C':Col}{w w':World}{k b:Nat}{m:As}{S:List Nat}
theorem Mp.lt(h:Mp C w k b m):b<w.heap.size:=by
 obtain ⟨es,clock,hb,_⟩:=h.heap
 exact (Array.getElem?_eq_some_iff.1 hb).1
theorem Mp.step(h:Mp C w k b m)(s:AU S C w C' w')(hk:k∉S):Mp C' w' k b m:=by
 refine ⟨((s.col b h.lt).resolve_right λhx=>hk (by rw [<-h.col];exact hx.1)).trans h.col,?_⟩
 obtain ⟨es,clock,hb,he⟩:=h.heap
 exact ⟨es,clock,(s.same b h.lt (by rw [h.col];exact hk)).trans hb,he⟩
end
theorem ZJ(s t:List UInt8):(bs s==bs t)=(s==t):=by
 rw [beq_toListBytes,Pp,Pp]
theorem AAX(s:List UInt8):(bs s==bs s)=true:=by rw [ZJ];exact beq_iff_eq.2 rfl
theorem RC(s:List UInt8): ∀(es:List MapEntry) (m:As) (i:Nat),ZI es m->Instr.findNow .string (.string (bs s)) es i=some ((MB s m i).map λx=>(x.1,Value.int .i64 x.2))
 | [],m,i,h=>by
  cases m with
  |nil=>rfl
  |cons x m=>cases h
 |e::es,m,i,h=>by
  cases m with
  |nil=>cases h
  |cons x m=>
   obtain ⟨k,v⟩:=x
   simp only [ZI,List.map_cons,List.cons.injEq,Prod.mk.injEq] at h
   obtain ⟨⟨hk,hv⟩,h⟩:=h
   simp only [Instr.findNow,hk,Instr.sameNow,ZJ,MB]
   cases hs:(s==k)
   ·exact RC s es m (i+1) h
   ·simp [hv]
theorem W6(s:List UInt8): ∀(m:As) (i j:Nat) (x:Int),MB s m i=some (j,x)->i<=j/\∃k y,m[j - i]?=some (k,y)/\k=s/\y=x/\∀v,Mc s v m=m.set (j - i) (s,v)
 | [],i,j,x,h=>by cases h
 | (k,y)::m,i,j,x,h=>by
  simp only [MB] at h
  cases hs:(s==k)
  ·rw [hs] at h
   obtain ⟨h1,k',y',h2,h3,h4,h5⟩:=W6 s m (i+1) j x h
   have e:j - i=(j - (i+1))+1:=om
   refine ⟨om,k',y',by rw [e];exact h2,h3,h4,λv=>?_⟩
   rw [e,List.set_cons_succ,<-h5 v]
   simp [Mc,hs]
  ·rw [hs] at h
   cases h
   have:=beq_iff_eq.1 hs
   subst this
   exact ⟨Nat.le_refl _,s,y,by simp,rfl,rfl,λv=>by simp [Mc]⟩
theorem TF(s:List UInt8): ∀(m:As) (i:Nat),MB s m i=none->∀v,Mc s v m=m++[(s,v)]
 | [],i,_,v=>rfl
 | (k,y)::m,i,h,v=>by
  simp only [MB] at h
  cases hs:(s==k)
  ·rw [hs] at h
   simp only [Mc,hs,cond_false,List.cons_append,TF s m (i+1) h v]
  ·rw [hs] at h;cases h
def Xn:Option Value->Bool
 |some (.int .i64 0)=>true
 |_=>false
theorem W7{o:Option Value}(h:Xn o=true):o=some (.int .i64 0):=by
 unfold Xn at h
 split at h
 ·rfl
 ·cases h
def ZK:Option TypeDesc->Bool
 |some .string=>true
 |_=>false
theorem Xo{o:Option TypeDesc}(h:ZK o=true):o=some .string:=by
 unfold ZK at h
 split at h
 ·rfl
 ·cases h
def Xp(P:Program)(T E:Nat):Bool:=
 match P.underlying T with
 |some (.map k e)=>Nat.beq e E&&ZK (P.underlying k)&&Xn ((P.info? e).bind (·.zero))
 |_=>false
theorem VP{P:Program}{T E:Nat}(h:Xp P T E=true): ∃k,P.underlying T=some (.map k E)/\P.underlying k=some .string/\∃i,P.info? E=some i/\i.zero=some (.int .i64 0):=by
 unfold Xp at h
 split at h
 ·rename_i k e hu
  simp only [Bool.and_eq_true] at h
  obtain ⟨⟨h1,h2⟩,h3⟩:=h
  have:=Nat.eq_of_beq_eq_true h1
  subst this
  obtain ⟨i,hi,hz⟩:=Option.bind_eq_some_iff.1 (W7 h3)
  exact ⟨k,hu,Xo h2,i,hi,hz⟩
 ·cases h
section
variable{P:Program}{ρ:Env}{C:Col}{w:World}{d:Option Nat}{ty:Nat}{pos:String}{af:Array Edge}{g:Option (Nat×Bool)}{T E k b:Nat}{m:As}{s:List UInt8}
theorem TG(hT:Xp P T E=true)(h:Mp C w k b m)(c:Bool):
  (Instr.lookup T (.map (some b)) (.string (bs s)) c).run P w= .ok (if c then .tuple #[.int .i64 (Cz m s),.bool (Oj m s)] else .int .i64 (Cz m s)) w:=by
 obtain ⟨kt,hu,hk,i,hi,hz⟩:=VP hT
 obtain ⟨es,clock,hb,he⟩:=h.heap
 have hc:(Instr.checkKey es.isEmpty 10000 kt (.string (bs s))).run P w= .ok () w:=MapKept.run_checkKey (k:= .string (bs s)) hk (by simp [MapKept.IsKey]) _ 9999
 have hf:=MapKept.run_findKey (P:=P) (w:=w) hk (RC s es.toList m 0 he)
 have hz0:(zeroValue E).run P w= .ok (.int .i64 0) w:=by simp [zeroValue,typeInfo,hi,hz]
 unfold Cz Oj
 cases hm:MB s m 0 with
 |none=>
  rw [hm] at hf
  cases c<;>simp [Instr.lookup,run_underlying hu,MapKept.run_getObj_map hb,hc,hf,hz0,Result.andThen]
 |some x=>
  rw [hm] at hf
  cases c<;>simp [Instr.lookup,run_underlying hu,MapKept.run_getObj_map hb,hc,hf,Result.andThen]
theorem KU{x y:Operand}(hT:Xp P T E=true)(hx:ev ρ x= .map (some b))(hy:ev ρ y= .string (bs s))(h:Mp C w k b m):
  (execOp (ev ρ) ⟨d,.lookup T x y false,ty,pos,af,g⟩).run P w= .ok (.value (.int .i64 (Cz m s))) w:=by
 have:=TG (w:=w) (s:=s) hT h false
 simp only [Bool.false_eq_true,if_false] at this
 simp [execOp,hx,hy,this]
theorem W8{x y:Operand}(hT:Xp P T E=true)(hx:ev ρ x= .map (some b))(hy:ev ρ y= .string (bs s))(h:Mp C w k b m):
  (execOp (ev ρ) ⟨d,.lookup T x y true,ty,pos,af,g⟩).run P w= .ok (.value (.tuple #[.int .i64 (Cz m s),.bool (Oj m s)])) w:=by
 have:=TG (w:=w) (s:=s) hT h true
 simp only [if_true] at this
 simp [execOp,hx,hy,this]
theorem Rp{es':Array MapEntry}{clock':Nat}(hc:C b=k):AU [k] C w C {w with heap:=w.heap.setIfInBounds b (.map es' clock')}:=by
 refine ⟨rfl,rfl,rfl,by simp,λ_ _=> .inl rfl,λc hlt hn=>?_⟩
 have:b≠c:=λe=>hn (by subst e;simp [hc])
 simp [this]
theorem Kn{x y z:Operand}{v:Int}{K:World->Prop}(hT:Xp P T E=true)(hx:ev ρ x= .map (some b))(hy:ev ρ y= .string (bs s))(hz:ev ρ z= .int .i64 v)(h:Mp C w k b m)
  (hK: ∀w',Mp C w' k b (Mc s v m)->AU [k] C w C w'->K w'):Xl P ρ ⟨d,.mapUpdate T x y z,ty,pos,af,g⟩ w K:=by
 obtain ⟨kt,hu,hk,i,hi,hz0⟩:=VP hT
 obtain ⟨es,clock,hb,he⟩:=h.heap
 have conv: ∀{w':World},(Instr.mapUpdate T (.map (some b)) (.string (bs s)) (.int .i64 v)).run P w= .ok () w'->(execOp (ev ρ) ⟨d,.mapUpdate T x y z,ty,pos,af,g⟩).run P w= .ok .skip w':=by
  intro w' hr
  simp only [execOp,hx,hy,hz,Sem.run_bind,hr,Result.andThen_ok,Sem.run_pure]
 have hc:(Instr.checkKey false 10000 kt (.string (bs s))).run P w= .ok () w:=MapKept.run_checkKey (k:= .string (bs s)) hk (by simp [MapKept.IsKey]) _ 9999
 have hf:=MapKept.run_findKey (P:=P) (w:=w) hk (RC s es.toList m 0 he)
 cases hm:MB s m 0 with
 |none=>
  rw [hm] at hf
  have hr:(Instr.mapUpdate T (.map (some b)) (.string (bs s)) (.int .i64 v)).run P w= .ok () {w with heap:=w.heap.setIfInBounds b (.map (es.push {key:= .string (bs s),val:= .int .i64 v,born:=clock}) (clock+1))}:=by
   simp [Instr.mapUpdate,run_underlying hu,MapKept.run_getObj_map hb,hc,hf,MapKept.run_setObj_map _ hb,Result.andThen]
  refine ⟨_,conv hr,hK _ ⟨h.col,_,_,(MapKept.heap_set hb).1,?_⟩ (Rp h.col)⟩
  rw [TF s m 0 hm v]
  simp only [ZI,Array.toList_push,List.map_append,List.map_cons,List.map_nil] at he ⊢
  rw [he]
 |some q=>
  obtain ⟨j,u⟩:=q
  rw [hm] at hf
  obtain ⟨_,k',y',hj,hks,_,hput⟩:=W6 s m 0 j u hm
  simp only [Nat.sub_zero] at hj hput
  subst hks
  have hej:(es.toList.map λe=>(e.key,e.val))[j]?=some (Value.string (bs k'),Value.int .i64 y'):=by rw [he,List.getElem?_map,hj];rfl
  rw [List.getElem?_map] at hej
  obtain ⟨e,hej,hkv⟩:=Option.map_eq_some_iff.1 hej
  simp only [Prod.mk.injEq] at hkv
  have hej':es[j]?=some e:=by simpa using hej
  have hstay:(Instr.keyThatStays ((es[j]?.map (·.key)).getD (.string (bs k'))) (.string (bs k'))).run P w= .ok (.string (bs k')) w:=by
   have hsb:Instr.sameBits 10000 (.string (bs k')) (.string (bs k'))=true:=by
    unfold Instr.sameBits
    exact AAX k'
   simp [Instr.keyThatStays,hej',hkv.1,hsb]
  have hr:(Instr.mapUpdate T (.map (some b)) (.string (bs k')) (.int .i64 v)).run P w= .ok () {w with heap:=w.heap.setIfInBounds b (.map (es.modify j λe=>{e with key:= .string (bs k'),val:= .int .i64 v}) clock)}:=by
   simp only [Option.map_some] at hf
   simp [Instr.mapUpdate,run_underlying hu,MapKept.run_getObj_map hb,hc,hf,hstay,MapKept.run_setObj_map _ hb,Result.andThen]
  refine ⟨_,conv hr,hK _ ⟨h.col,_,_,(MapKept.heap_set hb).1,?_⟩ (Rp h.col)⟩
  rw [hput v]
  simp only [ZI] at he ⊢
  apply List.ext_getElem?
  intro n
  have hen:=congrArg (·[n]?) he
  simp only [List.getElem?_map] at hen ⊢
  rw [List.getElem?_set]
  by_cases hnj:j=n
  ·subst hnj
   have hlt2:=(List.getElem?_eq_some_iff.1 hj).1
   simp [hej',hlt2]
  ·simp only [hnj,if_false]
   rw [<-hen]
   simp [hnj]
theorem Nb{K:Value->World->Prop}(C:Col)(k:Nat)(hK: ∀C' w' b,Mp C' w' k b []->AU [] C w C' w'->K (.map (some b)) w'):
  P9 P ρ ⟨d,.makeMap T none,ty,pos,af,g⟩ w K:=by
 have hr:(execOp (ev ρ) ⟨d,.makeMap T none,ty,pos,af,g⟩).run P w= .ok (.value (.map (some w.heap.size))) (w.alloc (.map #[] 0)):=by
  simp only [execOp,Option.map_none,Sem.run_bind,run_makeMap_plain,Result.andThen_ok,Sem.run_pure]
 refine ⟨_,_,hr,hK (C.put w.heap.size k) _ _ ⟨by simp [Col.put],#[],0,?_,rfl⟩ (AU.alloc [] C w _ k)⟩
 show (w.heap.push _)[w.heap.size]?=_
 simp
theorem IZ{f:Nat}{xs:List Operand}{vs:List Value}(hv:xs.map (ev ρ)=vs):
  (execOp (ev ρ) ⟨d,.makeFunc (.func f) #[] xs.toArray,ty,pos,af,g⟩).run P w= .ok (.value (.func (.func f) #[] vs.toArray)) w:=by
 subst hv
 simp [execOp,Instr.makeFunc]
end
end Fth
namespace Fth
open Go Go.RowKit
theorem BU{rs:List Nat}{r i:Nat}(hn:rs.Nodup)(hz:0∉rs)(hi:rs[i]?=some r):see rs r=i+1:=by
 have hlt:=(List.getElem?_eq_some_iff.1 hi).1
 have hr:rs[i]=r:=(List.getElem?_eq_some_iff.1 hi).2
 have hm:r∈rs:=hr▸List.getElem_mem hlt
 have h0:r≠0:=λe=>hz (e▸hm)
 have hx:rs.idxOf? r=some i:=by
  rw [List.idxOf?,List.findIdx?_eq_some_iff_getElem]
  refine ⟨hlt,by simp [hr],λj hj=>?_⟩
  simp only [beq_iff_eq]
  intro e
  have:=(List.getElem_inj (h₀:=Nat.lt_trans hj hlt) (h₁:=hlt) hn).1 (e.trans hr.symm)
  omega
 simp [see,h0,hx]
theorem Vo{rs:List Nat}{c i:Nat}(h:see rs c=i+1)(hi:i+1<=rs.length)(h8:rs.length<=8):rs[i]?=some c:=by
 unfold see at h
 split at h
 ·omega
 ·split at h
  ·rename_i j hj
   have:j=i:=om
   subst this
   rw [List.idxOf?,List.findIdx?_eq_some_iff_getElem] at hj
   obtain ⟨hlt,he,_⟩:=hj
   rw [List.getElem?_eq_getElem hlt]
   exact congrArg some (beq_iff_eq.1 he)
  ·omega
theorem E4{rs ms:List Nat}(h8:Nat.ble rs.length 8=true)(hm:(ms.all λm=>Nat.blt 0 m&&Nat.ble m rs.length)=true): ∀c,see rs c∈ms->c∈ms.filterMap λm=>rs[m - 1]?:=by
 intro c hc
 have:=List.all_eq_true.1 hm _ hc
 simp only [Bool.and_eq_true,Nat.blt_eq,Nat.ble_eq] at this
 refine List.mem_filterMap.2 ⟨_,hc,Vo om om (Nat.le_of_ble_eq_true h8)⟩
section
variable{rs:List Nat}{C C'':Col}{w w':World}{k j b:Nat}
theorem F2{m:As}(h:Mp C w k b m)(rs:List Nat){j:Nat}(hj:see rs k=j):Mp (recol (see rs) C) w j b m:=
 ⟨by show see rs (C b)=j;rw [h.col,hj],h.heap⟩
theorem Vq{m m':As}(h:Mp C w k b m)(h':Mp C'' w' j b m')(hj:j≠0):Mp (glue rs w C C'') w' k b m':=
 ⟨by simp [glue,h.lt,h'.col,hj,h.col],h'.heap⟩
theorem Io{α:Type}{κ:Kd α}{E:Nat}{v:Value}{xs:List α}(h:Own κ E C w k v xs)(rs:List Nat){j:Nat}(hj:see rs k=j):Own κ E (recol (see rs) C) w j v xs:=by
 obtain ⟨css,h1,h2,h3,h4,h6,hz⟩:=h
 exact ⟨css,h1,λi x cs hx hc=>Bd κ (h2 i x cs hx hc) rs,h3,h4,λb hb=>by show see rs (C b)=j;rw [h6 b hb,hj],hz⟩
theorem IV{α:Type}{κ:Kd α}{E:Nat}{v:Value}{xs:List α}{S:List Nat}(h':Own κ E C'' w' (j+1) v xs)(hi:rs[j]?=some k)(h8:Nat.ble rs.length 8=true)(st:AU S (recol (see rs) C) w C'' w'):Own κ E (glue rs w C C'') w' k v xs:=by
 obtain ⟨css,h1,h2,h3,h4,h6,hz⟩:=h'
 have hlt:=(List.getElem?_eq_some_iff.1 hi).1
 refine ⟨css,h1,λi x cs hx hc=>ED κ (h2 i x cs hx hc),h3,h4,λb hb=>?_,hz⟩
 have hc:=h6 b hb
 simp only [glue]
 by_cases hbl:b<w.heap.size
 ·simp only [hbl,if_true,hc,Nat.add_eq_zero_iff,Nat.one_ne_zero,and_false,if_false]
  rcases st.col b hbl with h| ⟨_,h⟩
  ·have hs:see rs (C b)=j+1:=by rw [<-hc,h];rfl
   have:=Vo hs om (Nat.le_of_ble_eq_true h8)
   rw [hi] at this
   exact (Option.some.inj this).symm
  ·rw [hc] at h;cases h
 ·simp only [hbl,if_false,hc,Nat.add_eq_zero_iff,Nat.one_ne_zero,and_false,Nat.add_sub_cancel,hi,Option.getD_some]
end
def W9{α:Type}(xs:List α):Option Unit:=match xs with | []=>some ()|_::_=>none
theorem Yh{α:Type}{xs:List α}{u:Unit}(h:W9 xs=some u):xs=[]:=by
 cases xs with
 |nil=>rfl
 |cons=>cases h
theorem Vs{E k:Nat}{C:Col}{F:Nat->Prop}{w:World}{s:Value}{xs:List Cpl}(h:Kd.slcRep Kd.cpx.size Kd.cpx.rep F w s xs)(hx:xs=[]):Own Kd.cpx E C w k s xs:=by
 subst hx
 obtain rfl:=Yc h
 exact Own.nil
theorem Own.take{α:Type}{κ:Kd α}[hno:Kd.NoCx κ.rep]{E k n:Nat}{C:Col}{w:World}{v:Value}{xs:List α}(h:Own κ E C w k v xs)(hn:n<=xs.length): ∃a cap,v= .slice a xs.length cap/\xs.length<=cap/\(a=none∨∃g,a=some ⟨g,0,none⟩)/\Own κ E C w k (.slice a n cap) (xs.take n):=by
 obtain ⟨css,h1,h2,h3,⟨h4,h5⟩,h6,_⟩:=h
 rcases h5 with ⟨rfl,h5⟩| ⟨g,cap,cur,rfl,hg,hheap,hc,hm,hs,ht⟩
 ·have hx:xs=[]:=List.eq_nil_of_length_eq_zero h5
  subst hx
  have:n=0:=by simpa using hn
  subst this
  exact ⟨none,0,rfl,Nat.le_refl _,.inl rfl,Own.nil⟩
 ·refine ⟨some ⟨g,0,none⟩,cap,rfl,hc,.inr ⟨g,rfl⟩,css.take n,by simp [h1,hn],λi x cs hx hcs=>?_,λcs hcs=>h3 cs (List.mem_of_mem_take hcs),⟨?_,.inr ⟨g,cap,cur,?_,hg,hheap,by simp;omega,hm,hs,?_⟩⟩,λb hb=>h6 b hb,λhx=>absurd hx hno.no⟩
  ·rw [List.getElem?_take] at hx hcs
   split at hx
   ·rename_i hi
    rw [if_pos hi] at hcs
    exact h2 i x cs hx hcs
   ·cases hx
  ·rw [L5 _ κ.size λc hc=>h3 c (List.mem_of_mem_take hc)]
   simp [h1]
  ·simp [hn]
  ·have key: ∀(l:List (List Value)),(∀c∈l,c.length=κ.size)->∀n,n<=l.length->(l.take n).flatten=l.flatten.take (n*κ.size):=by
    intro l
    induction l with
    |nil=>
     intro _ n hn
     have:n=0:=by simpa using hn
     subst this;simp
    |cons c l ih=>
     intro hl n hn
     cases n with
     |zero=>simp
     |succ n=>
      have hc:c.length=κ.size:=hl c (List.mem_cons_self ..)
      simp only [List.take_succ_cons,List.flatten_cons,ih (λx hx=>hl x (List.mem_cons_of_mem _ hx)) n (by simpa using hn)]
      rw [List.take_append,List.take_of_length_le (l:=c) (by rw [hc,Nat.add_mul];omega),hc,show (n+1)*κ.size - κ.size=n*κ.size by rw [Nat.add_mul];omega]
   rw [key css h3 n om,<-ht,List.take_take]
   congr 1
   have:n*κ.size<=xs.length*κ.size:=Nat.mul_le_mul_right _ hn
   simp only [List.length_take]
   rw [Nat.min_eq_left hn]
   omega
theorem Own.sub{α:Type}{κ:Kd α}[Kd.NoCx κ.rep]{E k:Nat}{C:Col}{w:World}{v:Value}{xs ys:List α}{hi:Int}(h:Own κ E C w k v xs)(hs:Fth.sub xs 0 hi=some ys):
  ∃a cap,v= .slice a xs.length cap/\xs.length<=cap/\Own κ E C w k (.slice (if cap=(0:Int).toNat then a else a.map (·.add ((0:Int).toNat*κ.size))) (hi.toNat - (0:Int).toNat) (cap - (0:Int).toNat)) ys:=by
 obtain ⟨h0,h1,h2,rfl⟩:=Lp hs
 obtain ⟨a,cap,hv,hc,ha,ho⟩:=h.take (n:=hi.toNat) om
 refine ⟨a,cap,hv,hc,?_⟩
 have e:(if cap=(0:Int).toNat then a else a.map (·.add ((0:Int).toNat*κ.size)))=a:=by
  split
  ·rfl
  ·rcases ha with rfl| ⟨g,rfl⟩
   ·rfl
   ·simp [Run.add_spot]
 rw [e]
 simpa using ho
section
variable{rs:List Nat}{C C'':Col}{w w':World}{k j b:Nat}{S:List Nat}
theorem XA(hc:C'' b=j+1)(hi:rs[j]?=some k)(h8:Nat.ble rs.length 8=true)(st:AU S (recol (see rs) C) w C'' w'):glue rs w C C'' b=k:=by
 have hlt:=(List.getElem?_eq_some_iff.1 hi).1
 simp only [glue]
 by_cases hbl:b<w.heap.size
 ·simp only [hbl,if_true,hc,Nat.add_eq_zero_iff,Nat.one_ne_zero,and_false,if_false]
  rcases st.col b hbl with h| ⟨_,h⟩
  ·have hs:see rs (C b)=j+1:=by rw [<-hc,h];rfl
   have:=Vo hs om (Nat.le_of_ble_eq_true h8)
   rw [hi] at this
   exact (Option.some.inj this).symm
  ·rw [hc] at h;cases h
 ·simp only [hbl,if_false,hc,Nat.add_eq_zero_iff,Nat.one_ne_zero,and_false,Nat.add_sub_cancel,hi,Option.getD_some]
theorem Vt{T:Nat}{cs:List Value}(h:Bk C'' w' (j+1) b cs T)(hi:rs[j]?=some k)(h8:Nat.ble rs.length 8=true)(st:AU S (recol (see rs) C) w C'' w'):Bk (glue rs w C C'') w' k b cs T:=
 ⟨XA h.col hi h8 st,h.heap⟩
theorem YA{m:As}(h:Mp C'' w' (j+1) b m)(hi:rs[j]?=some k)(h8:Nat.ble rs.length 8=true)(st:AU S (recol (see rs) C) w C'' w'):Mp (glue rs w C C'') w' k b m:=
 ⟨XA h.col hi h8 st,h.heap⟩
end
end Fth
namespace Fth
open Go
structure Eh where
 text:(List UInt8)
 name:(List UInt8)
 args:(List UInt8)
def Eh.rep(F:Nat->Prop)(w:World)(cs:List Value)(x:Eh):Prop:=∃s0,cs=[s0,.string (bs (x.name)),.string (bs (x.args))]/\Kd.slcRep Kd.u8.size Kd.u8.rep F w s0 x.text
def J7:Kd Eh where
 size:=3
 rep:=Eh.rep
 len h:=by obtain ⟨s0,rfl,h0⟩:=h;rfl
 ones h:=by
  obtain ⟨s0,rfl,h0⟩:=h
  intro c hc
  simp only [List.mem_cons,List.not_mem_nil,or_false] at hc
  rcases hc with rfl|rfl|rfl<;>first|rfl|exact Fg h0
 mono h hF hs:=by
  obtain ⟨s0,rfl,h0⟩:=h
  exact ⟨_,rfl,J6 Kd.u8 h0 hF hs⟩
theorem OH{F:Nat->Prop}{w:World}{s0:Value}{x:Eh}(h0:Slc Kd.u8 F w s0 x.text):J7.rep F w [s0,.string (bs (x.name)),.string (bs (x.args))] x:=⟨_,rfl,h0⟩
instance:Kd.NoCx J7.rep:=⟨λ⟨_,_,_,h⟩=>by have:=J7.len h;simp [J7] at this⟩
theorem Qe{F:Nat->Prop}{w:World}{cs:List Value}{x:Eh}(h:J7.rep F w cs x): ∃s0,cs=[s0,.string (bs (x.name)),.string (bs (x.args))]/\Slc Kd.u8 F w s0 x.text:=h
structure AJ where
 name:(List UInt8)
 type_:Int
 at_:Int
def AJ.rep(_F:Nat->Prop)(_w:World)(cs:List Value)(x:AJ):Prop:=cs=[.string (bs (x.name)),.int .i64 (x.type_),.int .i64 (x.at_)]
def AZ:Kd AJ where
 size:=3
 rep:=AJ.rep
 len h:=by obtain rfl:=h;rfl
 ones h:=by
  obtain rfl:=h
  intro c hc
  simp only [List.mem_cons,List.not_mem_nil,or_false] at hc
  rcases hc with rfl|rfl|rfl<;>first|rfl
 mono h _ _:=h
theorem LZ{F:Nat->Prop}{w:World}{x:AJ}:AZ.rep F w [.string (bs (x.name)),.int .i64 (x.type_),.int .i64 (x.at_)] x:=rfl
instance:Kd.NoCx AZ.rep:=⟨λ⟨_,_,_,h⟩=>by have:=AZ.len h;simp [AZ] at this⟩
theorem EK{F:Nat->Prop}{w:World}{cs:List Value}{x:AJ}(h:AZ.rep F w cs x):cs=[.string (bs (x.name)),.int .i64 (x.type_),.int .i64 (x.at_)]:=h
structure AE where
 op:Int
 name:(List UInt8)
 tail:(List UInt8)
 type_:Int
 num:Cpl
 args:(List AE)
 at_:Int
inductive AE.rep(F:Nat->Prop)(w:World):List Value->AE->Prop
 |mk (x:AE) (a:Option Addr) (cap b off:Nat) (css:Nat->List Value) (hc:x.args.length<=cap) (h:x.args=[]∨(a=some ⟨b,off,none⟩/\F b/\b<w.heap.size))
   (hr: ∀(i:Nat) (y:AE),x.args[i]?=some y->AE.rep F w (css i) y) (hl: ∀(i:Nat) (y:AE),x.args[i]?=some y->(css i).length=7/\Kd.At w b (off+i*7) (css i)):AE.rep F w [.int .i64 (x.op),.string (bs (x.name)),.string (bs (x.tail)),.int .i64 (x.type_),.complex .f64 (x.num).1 (x.num).2,.slice a x.args.length cap,.int .i64 (x.at_)] x
theorem RD: ¬Kd.Cx AE.rep:=by rintro ⟨_,_,_,h⟩;cases h
theorem M4{F:Nat->Prop}{w:World}{cs:List Value}{x:AE}(h:AE.rep F w cs x): ∃s0,cs=[.int .i64 (x.op),.string (bs (x.name)),.string (bs (x.tail)),.int .i64 (x.type_),.complex .f64 (x.num).1 (x.num).2,s0,.int .i64 (x.at_)]/\Kd.slcRep 7 (AE.rep) F w s0 x.args:=by
 cases h with
 |mk _ a cap b off css hc h hr hl=>
  exact ⟨_,rfl,⟨a,cap,rfl,hc,λhx=>absurd hx RD,h.imp id λh=>⟨b,off,h.1,h.2.1,h.2.2,λi y hy=>⟨css i,hr i y hy,(hl i y hy).1,(hl i y hy).2⟩⟩⟩⟩
theorem R1{F:Nat->Prop}{w:World}{x:AE}{s0:Value}(h0:Kd.slcRep 7 (AE.rep) F w s0 x.args):AE.rep F w [.int .i64 (x.op),.string (bs (x.name)),.string (bs (x.tail)),.int .i64 (x.type_),.complex .f64 (x.num).1 (x.num).2,s0,.int .i64 (x.at_)] x:=by
 obtain ⟨a,cap,rfl,hc,_,h⟩:=h0
 rcases h with h| ⟨b,off,ha,hF,hlt,h⟩
 ·exact .mk x a cap 0 0 (λ_=>[]) hc (.inl h) (λi y hy=>by rw [h] at hy;simp at hy) (λi y hy=>by rw [h] at hy;simp at hy)
 ·refine .mk x a cap b off (λi=>if hi:i<x.args.length then (h i x.args[i] (List.getElem?_eq_getElem hi)).choose else []) hc (.inr ⟨ha,hF,hlt⟩) (λi y hy=>?_) (λi y hy=>?_)
  ·obtain ⟨hi,hy'⟩:=List.getElem?_eq_some_iff.1 hy
   subst hy'
   simp only [hi,dif_pos]
   exact (h i x.args[i] (List.getElem?_eq_getElem hi)).choose_spec.1
  ·obtain ⟨hi,hy'⟩:=List.getElem?_eq_some_iff.1 hy
   subst hy'
   simp only [hi,dif_pos]
   exact (h i x.args[i] (List.getElem?_eq_getElem hi)).choose_spec.2
theorem RE{F F':Nat->Prop}{w w':World}{cs:List Value}{x:AE}(h:AE.rep F w cs x)(hF: ∀b,b<w.heap.size->F b->F' b)(hs: ∀b,b<w.heap.size->F b->w'.heap[b]?=w.heap[b]?):AE.rep F' w' cs x:=by
 induction h with
 |mk x a cap b off css hc h hr hl ih=>
  rcases h with h| ⟨ha,hb,hlt⟩
  ·exact .mk x a cap b off css hc (.inl h) ih (λi y hy=>by rw [h] at hy;simp at hy)
  ·refine .mk x a cap b off css hc (.inr ⟨ha,hF b hlt hb,?_⟩) ih (λi y hy=>⟨(hl i y hy).1,(hl i y hy).2.mono (hs b hlt hb)⟩)
   have:=hs b hlt hb
   rcases Nat.lt_or_ge b w'.heap.size with h'|h'
   ·exact h'
   ·rw [Array.getElem?_eq_none h',Array.getElem?_eq_getElem hlt] at this;cases this
def AG:Kd AE where
 size:=7
 rep:=AE.rep
 len h:=by obtain ⟨s0,rfl,h0⟩:=M4 h;rfl
 ones h:=by
  obtain ⟨s0,rfl,h0⟩:=M4 h
  intro c hc
  simp only [List.mem_cons,List.not_mem_nil,or_false] at hc
  rcases hc with rfl|rfl|rfl|rfl|rfl|rfl|rfl<;>first|rfl|exact Fg h0
 mono:=RE
theorem AY{F:Nat->Prop}{w:World}{s0:Value}{x:AE}(h0:Slc AG F w s0 x.args):AG.rep F w [.int .i64 (x.op),.string (bs (x.name)),.string (bs (x.tail)),.int .i64 (x.type_),.complex .f64 (x.num).1 (x.num).2,s0,.int .i64 (x.at_)] x:=R1 h0
instance:Kd.NoCx AG.rep:=⟨λ⟨_,_,_,h⟩=>by have:=AG.len h;simp [AG] at this⟩
theorem Ae{F:Nat->Prop}{w:World}{cs:List Value}{x:AE}(h:AG.rep F w cs x): ∃s0,cs=[.int .i64 (x.op),.string (bs (x.name)),.string (bs (x.tail)),.int .i64 (x.type_),.complex .f64 (x.num).1 (x.num).2,s0,.int .i64 (x.at_)]/\Slc AG F w s0 x.args:=M4 h
structure AN where
 name:(List UInt8)
 params:(List AJ)
 type_:Int
 body:AE
 at_:Int
def AN.rep(F:Nat->Prop)(w:World)(cs:List Value)(x:AN):Prop:=∃s0,∃s1,cs=[.string (bs (x.name)),s0,.int .i64 (x.type_),.int .i64 (x.body.op),.string (bs (x.body.name)),.string (bs (x.body.tail)),.int .i64 (x.body.type_),.complex .f64 (x.body.num).1 (x.body.num).2,s1,.int .i64 (x.body.at_),.int .i64 (x.at_)]/\Kd.slcRep AZ.size AZ.rep F w s0 x.params/\Kd.slcRep AG.size AG.rep F w s1 x.body.args
def AI:Kd AN where
 size:=11
 rep:=AN.rep
 len h:=by obtain ⟨s0,s1,rfl,h0,h1⟩:=h;rfl
 ones h:=by
  obtain ⟨s0,s1,rfl,h0,h1⟩:=h
  intro c hc
  simp only [List.mem_cons,List.not_mem_nil,or_false] at hc
  rcases hc with rfl|rfl|rfl|rfl|rfl|rfl|rfl|rfl|rfl|rfl|rfl<;>first|rfl|exact Fg h0|exact Fg h1
 mono h hF hs:=by
  obtain ⟨s0,s1,rfl,h0,h1⟩:=h
  exact ⟨_,_,rfl,J6 AZ h0 hF hs,J6 AG h1 hF hs⟩
theorem K0{F:Nat->Prop}{w:World}{s0 s1:Value}{x:AN}(h0:Slc AZ F w s0 x.params)(h1:Slc AG F w s1 x.body.args):AI.rep F w [.string (bs (x.name)),s0,.int .i64 (x.type_),.int .i64 (x.body.op),.string (bs (x.body.name)),.string (bs (x.body.tail)),.int .i64 (x.body.type_),.complex .f64 (x.body.num).1 (x.body.num).2,s1,.int .i64 (x.body.at_),.int .i64 (x.at_)] x:=⟨_,_,rfl,h0,h1⟩
instance:Kd.NoCx AI.rep:=⟨λ⟨_,_,_,h⟩=>by have:=AI.len h;simp [AI] at this⟩
theorem CL{F:Nat->Prop}{w:World}{cs:List Value}{x:AN}(h:AI.rep F w cs x): ∃s0,∃s1,cs=[.string (bs (x.name)),s0,.int .i64 (x.type_),.int .i64 (x.body.op),.string (bs (x.body.name)),.string (bs (x.body.tail)),.int .i64 (x.body.type_),.complex .f64 (x.body.num).1 (x.body.num).2,s1,.int .i64 (x.body.at_),.int .i64 (x.at_)]/\Slc AZ F w s0 x.params/\Slc AG F w s1 x.body.args:=h
structure AL where
 funcs:(List AN)
def AL.rep(F:Nat->Prop)(w:World)(cs:List Value)(x:AL):Prop:=∃s0,cs=[s0]/\Kd.slcRep AI.size AI.rep F w s0 x.funcs
def Bz:Kd AL where
 size:=1
 rep:=AL.rep
 len h:=by obtain ⟨s0,rfl,h0⟩:=h;rfl
 ones h:=by
  obtain ⟨s0,rfl,h0⟩:=h
  intro c hc
  simp only [List.mem_cons,List.not_mem_nil,or_false] at hc
  rcases hc with rfl<;>first|rfl|exact Fg h0
 mono h hF hs:=by
  obtain ⟨s0,rfl,h0⟩:=h
  exact ⟨_,rfl,J6 AI h0 hF hs⟩
theorem BL{F:Nat->Prop}{w:World}{s0:Value}{x:AL}(h0:Slc AI F w s0 x.funcs):Bz.rep F w [s0] x:=⟨_,rfl,h0⟩
theorem BQ{F:Nat->Prop}{w:World}{cs:List Value}{x:AL}(h:Bz.rep F w cs x): ∃s0,cs=[s0]/\Slc AI F w s0 x.funcs:=h
structure AD where
 type_:Int
 num:Cpl
 bool:Bool
 list:(List Cpl)
def AD.rep(F:Nat->Prop)(w:World)(cs:List Value)(x:AD):Prop:=∃s0,cs=[.int .i64 (x.type_),.complex .f64 (x.num).1 (x.num).2,.bool (x.bool),s0]/\Kd.slcRep Kd.cpx.size Kd.cpx.rep F w s0 x.list
def Aq:Kd AD where
 size:=4
 rep:=AD.rep
 len h:=by obtain ⟨s0,rfl,h0⟩:=h;rfl
 ones h:=by
  obtain ⟨s0,rfl,h0⟩:=h
  intro c hc
  simp only [List.mem_cons,List.not_mem_nil,or_false] at hc
  rcases hc with rfl|rfl|rfl|rfl<;>first|rfl|exact Fg h0
 mono h hF hs:=by
  obtain ⟨s0,rfl,h0⟩:=h
  exact ⟨_,rfl,J6 Kd.cpx h0 hF hs⟩
theorem Ao{F:Nat->Prop}{w:World}{s0:Value}{x:AD}(h0:Slc Kd.cpx F w s0 x.list):Aq.rep F w [.int .i64 (x.type_),.complex .f64 (x.num).1 (x.num).2,.bool (x.bool),s0] x:=⟨_,rfl,h0⟩
instance:Kd.NoCx Aq.rep:=⟨λ⟨_,_,_,h⟩=>by have:=Aq.len h;simp [Aq] at this⟩
theorem A1{F:Nat->Prop}{w:World}{cs:List Value}{x:AD}(h:Aq.rep F w cs x): ∃s0,cs=[.int .i64 (x.type_),.complex .f64 (x.num).1 (x.num).2,.bool (x.bool),s0]/\Slc Kd.cpx F w s0 x.list:=h
structure BK where
 why:Int
 value:AD
 moves:Int
 thunks:Int
 updates:Int
 calls:Int
def BK.rep(F:Nat->Prop)(w:World)(cs:List Value)(x:BK):Prop:=∃s0,cs=[.int .i64 (x.why),.int .i64 (x.value.type_),.complex .f64 (x.value.num).1 (x.value.num).2,.bool (x.value.bool),s0,.int .i64 (x.moves),.int .i64 (x.thunks),.int .i64 (x.updates),.int .i64 (x.calls)]/\Kd.slcRep Kd.cpx.size Kd.cpx.rep F w s0 x.value.list
def K1:Kd BK where
 size:=9
 rep:=BK.rep
 len h:=by obtain ⟨s0,rfl,h0⟩:=h;rfl
 ones h:=by
  obtain ⟨s0,rfl,h0⟩:=h
  intro c hc
  simp only [List.mem_cons,List.not_mem_nil,or_false] at hc
  rcases hc with rfl|rfl|rfl|rfl|rfl|rfl|rfl|rfl|rfl<;>first|rfl|exact Fg h0
 mono h hF hs:=by
  obtain ⟨s0,rfl,h0⟩:=h
  exact ⟨_,rfl,J6 Kd.cpx h0 hF hs⟩
theorem Jq{F:Nat->Prop}{w:World}{s0:Value}{x:BK}(h0:Slc Kd.cpx F w s0 x.value.list):K1.rep F w [.int .i64 (x.why),.int .i64 (x.value.type_),.complex .f64 (x.value.num).1 (x.value.num).2,.bool (x.value.bool),s0,.int .i64 (x.moves),.int .i64 (x.thunks),.int .i64 (x.updates),.int .i64 (x.calls)] x:=⟨_,rfl,h0⟩
instance:Kd.NoCx K1.rep:=⟨λ⟨_,_,_,h⟩=>by have:=K1.len h;simp [K1] at this⟩
theorem Nr{F:Nat->Prop}{w:World}{cs:List Value}{x:BK}(h:K1.rep F w cs x): ∃s0,cs=[.int .i64 (x.why),.int .i64 (x.value.type_),.complex .f64 (x.value.num).1 (x.value.num).2,.bool (x.value.bool),s0,.int .i64 (x.moves),.int .i64 (x.thunks),.int .i64 (x.updates),.int .i64 (x.calls)]/\Slc Kd.cpx F w s0 x.value.list:=h
structure AF where
 why:Int
 at_:Int
def AF.rep(_F:Nat->Prop)(_w:World)(cs:List Value)(x:AF):Prop:=cs=[.int .i64 (x.why),.int .i64 (x.at_)]
def An:Kd AF where
 size:=2
 rep:=AF.rep
 len h:=by obtain rfl:=h;rfl
 ones h:=by
  obtain rfl:=h
  intro c hc
  simp only [List.mem_cons,List.not_mem_nil,or_false] at hc
  rcases hc with rfl|rfl<;>first|rfl
 mono h _ _:=h
theorem Al{F:Nat->Prop}{w:World}{x:AF}:An.rep F w [.int .i64 (x.why),.int .i64 (x.at_)] x:=rfl
instance:Kd.NoCx An.rep:=⟨λ⟨_,_,_,h⟩=>by have:=An.len h;simp [An] at this⟩
theorem Au{F:Nat->Prop}{w:World}{cs:List Value}{x:AF}(h:An.rep F w cs x):cs=[.int .i64 (x.why),.int .i64 (x.at_)]:=h
structure Aj where
 text:Int
 funcs:Int
 arity:Int
 nest:Int
def Aj.rep(_F:Nat->Prop)(_w:World)(cs:List Value)(x:Aj):Prop:=cs=[.int .i64 (x.text),.int .i64 (x.funcs),.int .i64 (x.arity),.int .i64 (x.nest)]
def L9:Kd Aj where
 size:=4
 rep:=Aj.rep
 len h:=by obtain rfl:=h;rfl
 ones h:=by
  obtain rfl:=h
  intro c hc
  simp only [List.mem_cons,List.not_mem_nil,or_false] at hc
  rcases hc with rfl|rfl|rfl|rfl<;>first|rfl
 mono h _ _:=h
theorem FV{F:Nat->Prop}{w:World}{x:Aj}:L9.rep F w [.int .i64 (x.text),.int .i64 (x.funcs),.int .i64 (x.arity),.int .i64 (x.nest)] x:=rfl
instance:Kd.NoCx L9.rep:=⟨λ⟨_,_,_,h⟩=>by have:=L9.len h;simp [L9] at this⟩
theorem Ko{F:Nat->Prop}{w:World}{cs:List Value}{x:Aj}(h:L9.rep F w cs x):cs=[.int .i64 (x.text),.int .i64 (x.funcs),.int .i64 (x.arity),.int .i64 (x.nest)]:=h
structure AX where
 p:AL
 most:Int
 cost:Int
 why:Int
def AX.rep(F:Nat->Prop)(w:World)(cs:List Value)(x:AX):Prop:=∃s0,cs=[s0,.int .i64 (x.most),.int .i64 (x.cost),.int .i64 (x.why)]/\Kd.slcRep AI.size AI.rep F w s0 x.p.funcs
def B1:Kd AX where
 size:=4
 rep:=AX.rep
 len h:=by obtain ⟨s0,rfl,h0⟩:=h;rfl
 ones h:=by
  obtain ⟨s0,rfl,h0⟩:=h
  intro c hc
  simp only [List.mem_cons,List.not_mem_nil,or_false] at hc
  rcases hc with rfl|rfl|rfl|rfl<;>first|rfl|exact Fg h0
 mono h hF hs:=by
  obtain ⟨s0,rfl,h0⟩:=h
  exact ⟨_,rfl,J6 AI h0 hF hs⟩
theorem Aw{F:Nat->Prop}{w:World}{s0:Value}{x:AX}(h0:Slc AI F w s0 x.p.funcs):B1.rep F w [s0,.int .i64 (x.most),.int .i64 (x.cost),.int .i64 (x.why)] x:=⟨_,rfl,h0⟩
instance:Kd.NoCx B1.rep:=⟨λ⟨_,_,_,h⟩=>by have:=B1.len h;simp [B1] at this⟩
theorem BT{F:Nat->Prop}{w:World}{cs:List Value}{x:AX}(h:B1.rep F w cs x): ∃s0,cs=[s0,.int .i64 (x.most),.int .i64 (x.cost),.int .i64 (x.why)]/\Slc AI F w s0 x.p.funcs:=h
structure Af where
 re:Int
 im:Int
def Af.rep(_F:Nat->Prop)(_w:World)(cs:List Value)(x:Af):Prop:=cs=[.int .i64 (x.re),.int .i64 (x.im)]
def Bm:Kd Af where
 size:=2
 rep:=Af.rep
 len h:=by obtain rfl:=h;rfl
 ones h:=by
  obtain rfl:=h
  intro c hc
  simp only [List.mem_cons,List.not_mem_nil,or_false] at hc
  rcases hc with rfl|rfl<;>first|rfl
 mono h _ _:=h
theorem BE{F:Nat->Prop}{w:World}{x:Af}:Bm.rep F w [.int .i64 (x.re),.int .i64 (x.im)] x:=rfl
instance:Kd.NoCx Bm.rep:=⟨λ⟨_,_,_,h⟩=>by have:=Bm.len h;simp [Bm] at this⟩
theorem A7{F:Nat->Prop}{w:World}{cs:List Value}{x:Af}(h:Bm.rep F w cs x):cs=[.int .i64 (x.re),.int .i64 (x.im)]:=h
structure Ak where
 kind:Int
 text:(List UInt8)
 num:Cpl
 at_:Int
def Ak.rep(_F:Nat->Prop)(_w:World)(cs:List Value)(x:Ak):Prop:=cs=[.int .i64 (x.kind),.string (bs (x.text)),.complex .f64 (x.num).1 (x.num).2,.int .i64 (x.at_)]
def Ai:Kd Ak where
 size:=4
 rep:=Ak.rep
 len h:=by obtain rfl:=h;rfl
 ones h:=by
  obtain rfl:=h
  intro c hc
  simp only [List.mem_cons,List.not_mem_nil,or_false] at hc
  rcases hc with rfl|rfl|rfl|rfl<;>first|rfl
 mono h _ _:=h
theorem Fx{F:Nat->Prop}{w:World}{x:Ak}:Ai.rep F w [.int .i64 (x.kind),.string (bs (x.text)),.complex .f64 (x.num).1 (x.num).2,.int .i64 (x.at_)] x:=rfl
instance:Kd.NoCx Ai.rep:=⟨λ⟨_,_,_,h⟩=>by have:=Ai.len h;simp [Ai] at this⟩
theorem DO{F:Nat->Prop}{w:World}{cs:List Value}{x:Ak}(h:Ai.rep F w cs x):cs=[.int .i64 (x.kind),.string (bs (x.text)),.complex .f64 (x.num).1 (x.num).2,.int .i64 (x.at_)]:=h
structure AC where
 marks:(List Ak)
 at_:Int
 why:Int
 where_:Int
 l:Aj
 nest:Int
def AC.rep(F:Nat->Prop)(w:World)(cs:List Value)(x:AC):Prop:=∃s0,cs=[s0,.int .i64 (x.at_),.int .i64 (x.why),.int .i64 (x.where_),.int .i64 (x.l.text),.int .i64 (x.l.funcs),.int .i64 (x.l.arity),.int .i64 (x.l.nest),.int .i64 (x.nest)]/\Kd.slcRep Ai.size Ai.rep F w s0 x.marks
def BM:Kd AC where
 size:=9
 rep:=AC.rep
 len h:=by obtain ⟨s0,rfl,h0⟩:=h;rfl
 ones h:=by
  obtain ⟨s0,rfl,h0⟩:=h
  intro c hc
  simp only [List.mem_cons,List.not_mem_nil,or_false] at hc
  rcases hc with rfl|rfl|rfl|rfl|rfl|rfl|rfl|rfl|rfl<;>first|rfl|exact Fg h0
 mono h hF hs:=by
  obtain ⟨s0,rfl,h0⟩:=h
  exact ⟨_,rfl,J6 Ai h0 hF hs⟩
theorem AO{F:Nat->Prop}{w:World}{s0:Value}{x:AC}(h0:Slc Ai F w s0 x.marks):BM.rep F w [s0,.int .i64 (x.at_),.int .i64 (x.why),.int .i64 (x.where_),.int .i64 (x.l.text),.int .i64 (x.l.funcs),.int .i64 (x.l.arity),.int .i64 (x.l.nest),.int .i64 (x.nest)] x:=⟨_,rfl,h0⟩
instance:Kd.NoCx BM.rep:=⟨λ⟨_,_,_,h⟩=>by have:=BM.len h;simp [BM] at this⟩
theorem Ab{F:Nat->Prop}{w:World}{cs:List Value}{x:AC}(h:BM.rep F w cs x): ∃s0,cs=[s0,.int .i64 (x.at_),.int .i64 (x.why),.int .i64 (x.where_),.int .i64 (x.l.text),.int .i64 (x.l.funcs),.int .i64 (x.l.arity),.int .i64 (x.l.nest),.int .i64 (x.nest)]/\Slc Ai F w s0 x.marks:=h
structure BF where
 e:AE
 free:Bool
def BF.rep(F:Nat->Prop)(w:World)(cs:List Value)(x:BF):Prop:=∃s0,cs=[.int .i64 (x.e.op),.string (bs (x.e.name)),.string (bs (x.e.tail)),.int .i64 (x.e.type_),.complex .f64 (x.e.num).1 (x.e.num).2,s0,.int .i64 (x.e.at_),.bool (x.free)]/\Kd.slcRep AG.size AG.rep F w s0 x.e.args
def Ex:Kd BF where
 size:=8
 rep:=BF.rep
 len h:=by obtain ⟨s0,rfl,h0⟩:=h;rfl
 ones h:=by
  obtain ⟨s0,rfl,h0⟩:=h
  intro c hc
  simp only [List.mem_cons,List.not_mem_nil,or_false] at hc
  rcases hc with rfl|rfl|rfl|rfl|rfl|rfl|rfl|rfl<;>first|rfl|exact Fg h0
 mono h hF hs:=by
  obtain ⟨s0,rfl,h0⟩:=h
  exact ⟨_,rfl,J6 AG h0 hF hs⟩
theorem QA{F:Nat->Prop}{w:World}{s0:Value}{x:BF}(h0:Slc AG F w s0 x.e.args):Ex.rep F w [.int .i64 (x.e.op),.string (bs (x.e.name)),.string (bs (x.e.tail)),.int .i64 (x.e.type_),.complex .f64 (x.e.num).1 (x.e.num).2,s0,.int .i64 (x.e.at_),.bool (x.free)] x:=⟨_,rfl,h0⟩
instance:Kd.NoCx Ex.rep:=⟨λ⟨_,_,_,h⟩=>by have:=Ex.len h;simp [Ex] at this⟩
theorem Ud{F:Nat->Prop}{w:World}{cs:List Value}{x:BF}(h:Ex.rep F w cs x): ∃s0,cs=[.int .i64 (x.e.op),.string (bs (x.e.name)),.string (bs (x.e.tail)),.int .i64 (x.e.type_),.complex .f64 (x.e.num).1 (x.e.num).2,s0,.int .i64 (x.e.at_),.bool (x.free)]/\Slc AG F w s0 x.e.args:=h
end Fth
namespace Fth
open Go Go.RowKit
mutual
inductive Nm
 |nil
 |bind (name:List UInt8) (t:Th) (out:Nm)
 |letrec (name:List UInt8) (e:AE) (out:Nm)
inductive Th
 |nil
 |done (plain:AD) (head tail:Th)
 |later (e:AE) (env:Nm)
end
structure Ax where
 plain:AD
 head:Th
 tail:Th
def Th.isNil:Th->Bool
 | .nil=>true
 |_=>false
def Nm.view:Nm->Option (List UInt8×Th×Nm)
 | .nil=>none
 | .bind nm t out=>some (nm,t,out)
 | .letrec nm e out=>some (nm,.later e (.letrec nm e out),out)
mutual
inductive Ge(D L:Nat)(F:Nat->Prop)(w:World):Value->Nm->Prop
 |nil:Ge D L F w (.pointer none) .nil
 |bind {b:Nat} {nm:List UInt8} {tv ov:Value} {t:Th} {out:Nm} (hF:F b) (hlt:b<w.heap.size) (hat:Kd.At w b 0 [.string (bs nm),tv,ov]) (ht:MTh D L F w tv t) (ho:Ge D L F w ov out):
   Ge D L F w (.pointer (some ⟨b,0,none⟩)) (.bind nm t out)
 |letrec {b pe pn:Nat} {nm:List UInt8} {ov:Value} {e:AE} {ce:List Value} {out:Nm} (hF:F b) (hlt:b<w.heap.size) (hFe:F pe) (hlte:pe<w.heap.size) (hFn:F pn) (hltn:pn<w.heap.size)
   (hat:Kd.At w b 0 [.string (bs nm),.func (.func L) #[] #[.pointer (some ⟨pe,0,none⟩),.pointer (some ⟨pn,0,none⟩)],ov]) (hae:Kd.At w pe 0 ce) (he:AG.rep F w ce e)
   (han:Kd.At w pn 0 [.pointer (some ⟨b,0,none⟩)]) (ho:Ge D L F w ov out):Ge D L F w (.pointer (some ⟨b,0,none⟩)) (.letrec nm e out)
inductive MTh(D L:Nat)(F:Nat->Prop)(w:World):Value->Th->Prop
 |nil:MTh D L F w .nilFunc .nil
 |done {pe:Nat} {cp:List Value} {hv tv:Value} {p:AD} {h t:Th} (hF:F pe) (hlt:pe<w.heap.size) (hat:Kd.At w pe 0 (cp++[hv,tv])) (hp:Aq.rep F w cp p) (hh:MTh D L F w hv h) (ht:MTh D L F w tv t):
   MTh D L F w (.func (.func D) #[] #[.pointer (some ⟨pe,0,none⟩)]) (.done p h t)
 |later {pe pn:Nat} {ce:List Value} {nv:Value} {e:AE} {env:Nm} (hFe:F pe) (hlte:pe<w.heap.size) (hFn:F pn) (hltn:pn<w.heap.size) (hae:Kd.At w pe 0 ce) (he:AG.rep F w ce e) (han:Kd.At w pn 0 [nv])
   (hn:Ge D L F w nv env):MTh D L F w (.func (.func L) #[] #[.pointer (some ⟨pe,0,none⟩),.pointer (some ⟨pn,0,none⟩)]) (.later e env)
end
section
variable{D L:Nat}{F F':Nat->Prop}{w w':World}
theorem DL(hs: ∀b,b<w.heap.size->F b->w'.heap[b]?=w.heap[b]?){b:Nat}(hlt:b<w.heap.size)(hF:F b):b<w'.heap.size:=by
 have:=hs b hlt hF
 rcases Nat.lt_or_ge b w'.heap.size with h|h
 ·exact h
 ·rw [Array.getElem?_eq_none h,Array.getElem?_eq_getElem hlt] at this;cases this
section
variable(hF: ∀b,b<w.heap.size->F b->F' b)(hs: ∀b,b<w.heap.size->F b->w'.heap[b]?=w.heap[b]?)
include hF hs
theorem Ge.mono{v:Value}{x:Nm}(h:Ge D L F w v x):Ge D L F' w' v x:=by
 refine Ge.rec (motive_1:=λv x _=>Ge D L F' w' v x) (motive_2:=λv x _=>MTh D L F' w' v x) ?_ ?_ ?_ ?_ ?_ ?_ h
 ·exact .nil
 ·intro b nm tv ov t out h1 h2 h3 _ _ h4 h5
  exact .bind (hF _ h2 h1) (DL hs h2 h1) (h3.mono (hs _ h2 h1)) h4 h5
 ·intro b pe pn nm ov e ce out h1 h2 h3 h4 h5 h6 h7 h8 h9 h10 _ h11
  exact .letrec (hF _ h2 h1) (DL hs h2 h1) (hF _ h4 h3) (DL hs h4 h3) (hF _ h6 h5) (DL hs h6 h5) (h7.mono (hs _ h2 h1)) (h8.mono (hs _ h4 h3)) (AG.mono h9 hF hs) (h10.mono (hs _ h6 h5)) h11
 ·exact .nil
 ·intro pe cp hv tv p h t h1 h2 h3 h4 _ _ h5 h6
  exact .done (hF _ h2 h1) (DL hs h2 h1) (h3.mono (hs _ h2 h1)) (Aq.mono h4 hF hs) h5 h6
 ·intro pe pn ce nv e env h1 h2 h3 h4 h5 h6 h7 _ h8
  exact .later (hF _ h2 h1) (DL hs h2 h1) (hF _ h4 h3) (DL hs h4 h3) (h5.mono (hs _ h2 h1)) (AG.mono h6 hF hs) (h7.mono (hs _ h4 h3)) h8
theorem MTh.mono{v:Value}{x:Th}(h:MTh D L F w v x):MTh D L F' w' v x:=by
 refine MTh.rec (motive_1:=λv x _=>Ge D L F' w' v x) (motive_2:=λv x _=>MTh D L F' w' v x) ?_ ?_ ?_ ?_ ?_ ?_ h
 ·exact .nil
 ·intro b nm tv ov t out h1 h2 h3 _ _ h4 h5
  exact .bind (hF _ h2 h1) (DL hs h2 h1) (h3.mono (hs _ h2 h1)) h4 h5
 ·intro b pe pn nm ov e ce out h1 h2 h3 h4 h5 h6 h7 h8 h9 h10 _ h11
  exact .letrec (hF _ h2 h1) (DL hs h2 h1) (hF _ h4 h3) (DL hs h4 h3) (hF _ h6 h5) (DL hs h6 h5) (h7.mono (hs _ h2 h1)) (h8.mono (hs _ h4 h3)) (AG.mono h9 hF hs) (h10.mono (hs _ h6 h5)) h11
 ·exact .nil
 ·intro pe cp hv tv p h t h1 h2 h3 h4 _ _ h5 h6
  exact .done (hF _ h2 h1) (DL hs h2 h1) (h3.mono (hs _ h2 h1)) (Aq.mono h4 hF hs) h5 h6
 ·intro pe pn ce nv e env h1 h2 h3 h4 h5 h6 h7 _ h8
  exact .later (hF _ h2 h1) (DL hs h2 h1) (hF _ h4 h3) (DL hs h4 h3) (h5.mono (hs _ h2 h1)) (AG.mono h6 hF hs) (h7.mono (hs _ h4 h3)) h8
end
theorem Ge.one{v:Value}{x:Nm}(h:Ge D L F w v x):v.oneCell'=true:=by cases h<;>rfl
theorem MTh.one{v:Value}{x:Th}(h:MTh D L F w v x):v.oneCell'=true:=by cases h<;>rfl
end
theorem Dq{v:Value}(h:v.oneCell'=true):v.cells=[v].toArray:=by
 cases v<;>first|rfl| (simp [Value.oneCell'] at h)
def ZL:AE:=⟨0,[],[],0,(0,0),[],0⟩
def Mh:AD:=⟨0,(0,0),false,[]⟩
mutual
inductive RNm(F:Nat->Prop)(w:World):Value->Nm->Prop
 |nil:RNm F w (.pointer none) .nil
 |bind {b:Nat} {nm:List UInt8} {tv ov:Value} {t:Th} {out:Nm} (hF:F b) (hlt:b<w.heap.size) (hat:Kd.At w b 0 [.string (bs nm),tv,ov]) (ht:RTh F w tv t) (ho:RNm F w ov out):
   RNm F w (.pointer (some ⟨b,0,none⟩)) (.bind nm t out)
 |letrec {b bt:Nat} {nm:List UInt8} {ov:Value} {e:AE} {cv ce:List Value} {out:Nm} (hF:F b) (hlt:b<w.heap.size) (hFt:F bt) (hltt:bt<w.heap.size)
   (hat:Kd.At w b 0 [.string (bs nm),.pointer (some ⟨bt,0,none⟩),ov]) (hav:Aq.rep F w cv Mh) (hae:Kd.At w bt 0 ([.bool false,.bool false]++cv++[.pointer none,.pointer none]++ce++[.pointer (some ⟨b,0,none⟩)])) (he:AG.rep F w ce e)
   (ho:RNm F w ov out):RNm F w (.pointer (some ⟨b,0,none⟩)) (.letrec nm e out)
inductive RTh(F:Nat->Prop)(w:World):Value->Th->Prop
 |nil:RTh F w (.pointer none) .nil
 |done {b:Nat} {cp ce:List Value} {hv tv:Value} {p:AD} {h t:Th} (hF:F b) (hlt:b<w.heap.size) (hat:Kd.At w b 0 ([.bool true,.bool (!h.isNil)]++cp++[hv,tv]++ce++[.pointer none])) (hp:Aq.rep F w cp p)
   (he:AG.rep F w ce ZL) (hh:RTh F w hv h) (ht:RTh F w tv t):RTh F w (.pointer (some ⟨b,0,none⟩)) (.done p h t)
 |later {b:Nat} {cv ce:List Value} {nv:Value} {e:AE} {env:Nm} (hF:F b) (hlt:b<w.heap.size) (hav:Aq.rep F w cv Mh) (hat:Kd.At w b 0 ([.bool false,.bool false]++cv++[.pointer none,.pointer none]++ce++[nv])) (he:AG.rep F w ce e)
   (hn:RNm F w nv env):RTh F w (.pointer (some ⟨b,0,none⟩)) (.later e env)
end
section
variable{F F':Nat->Prop}{w w':World}
section
variable(hF: ∀b,b<w.heap.size->F b->F' b)(hs: ∀b,b<w.heap.size->F b->w'.heap[b]?=w.heap[b]?)
include hF hs
theorem RNm.mono{v:Value}{x:Nm}(h:RNm F w v x):RNm F' w' v x:=by
 refine RNm.rec (motive_1:=λv x _=>RNm F' w' v x) (motive_2:=λv x _=>RTh F' w' v x) ?_ ?_ ?_ ?_ ?_ ?_ h
 ·exact .nil
 ·intro b nm tv ov t out h1 h2 h3 _ _ h4 h5
  exact .bind (hF _ h2 h1) (DL hs h2 h1) (h3.mono (hs _ h2 h1)) h4 h5
 ·intro b bt nm ov e cv ce out h1 h2 h3 h4 h5 h6 h7 h8 _ h9
  exact .letrec (hF _ h2 h1) (DL hs h2 h1) (hF _ h4 h3) (DL hs h4 h3) (h5.mono (hs _ h2 h1)) (Aq.mono h6 hF hs) (h7.mono (hs _ h4 h3)) (AG.mono h8 hF hs) h9
 ·exact .nil
 ·intro b cp ce hv tv p h t h1 h2 h3 h4 h5 _ _ h6 h7
  exact .done (hF _ h2 h1) (DL hs h2 h1) (h3.mono (hs _ h2 h1)) (Aq.mono h4 hF hs) (AG.mono h5 hF hs) h6 h7
 ·intro b cv ce nv e env h1 h2 h3 h4 h5 _ h6
  exact .later (hF _ h2 h1) (DL hs h2 h1) (Aq.mono h3 hF hs) (h4.mono (hs _ h2 h1)) (AG.mono h5 hF hs) h6
theorem RTh.mono{v:Value}{x:Th}(h:RTh F w v x):RTh F' w' v x:=by
 refine RTh.rec (motive_1:=λv x _=>RNm F' w' v x) (motive_2:=λv x _=>RTh F' w' v x) ?_ ?_ ?_ ?_ ?_ ?_ h
 ·exact .nil
 ·intro b nm tv ov t out h1 h2 h3 _ _ h4 h5
  exact .bind (hF _ h2 h1) (DL hs h2 h1) (h3.mono (hs _ h2 h1)) h4 h5
 ·intro b bt nm ov e cv ce out h1 h2 h3 h4 h5 h6 h7 h8 _ h9
  exact .letrec (hF _ h2 h1) (DL hs h2 h1) (hF _ h4 h3) (DL hs h4 h3) (h5.mono (hs _ h2 h1)) (Aq.mono h6 hF hs) (h7.mono (hs _ h4 h3)) (AG.mono h8 hF hs) h9
 ·exact .nil
 ·intro b cp ce hv tv p h t h1 h2 h3 h4 h5 _ _ h6 h7
  exact .done (hF _ h2 h1) (DL hs h2 h1) (h3.mono (hs _ h2 h1)) (Aq.mono h4 hF hs) (AG.mono h5 hF hs) h6 h7
 ·intro b cv ce nv e env h1 h2 h3 h4 h5 _ h6
  exact .later (hF _ h2 h1) (DL hs h2 h1) (Aq.mono h3 hF hs) (h4.mono (hs _ h2 h1)) (AG.mono h5 hF hs) h6
end
theorem RNm.one{v:Value}{x:Nm}(h:RNm F w v x):v.oneCell'=true:=by cases h<;>rfl
theorem RTh.one{v:Value}{x:Th}(h:RTh F w v x):v.oneCell'=true:=by cases h<;>rfl
end
end Fth
namespace Fth
open Go Go.RowKit
theorem Jd{S:List Nat}(C:Col)(w:World)(l:List Nat)(h: ∀b∈l,C b∈S):AU S C w (λc=>if c∈l then 0 else C c) w:=
 ⟨rfl,rfl,rfl,Nat.le_refl _,λc _=>by
  by_cases hc:c∈l
  ·exact .inr ⟨h c hc,by simp [hc]⟩
  ·exact .inl (by simp [hc]),λ_ _ _=>rfl⟩
theorem Bk.at0{C:Col}{w:World}{k b T:Nat}{cs:List Value}(h:Bk C w k b cs T):Kd.At w b 0 cs:=λj c hj=>h.cell (by simpa using hj)
section
variable{D L:Nat}{C C':Col}{w w':World}{S:List Nat}{k k1 k2 b pe pn T T1 T2:Nat}{v nv tv ov hv:Value}{nm:List UInt8}{t h:Th}{x out env:Nm}{e:AE}{ce cp:List Value}{p:AD}
theorem Ge.step(h:Ge D L C.F w v x)(s:AU S C w C' w')(h0:0∉S):Ge D L C'.F w' v x:=
 h.mono (λb hb hF=>((s.col b hb).resolve_right λhx=>h0 (by rw [show C b=0 from hF] at hx;exact hx.1)).trans hF) λb hb hF=>s.same b hb (by rw [show C b=0 from hF];exact h0)
theorem MTh.step(h:MTh D L C.F w v t)(s:AU S C w C' w')(h0:0∉S):MTh D L C'.F w' v t:=
 h.mono (λb hb hF=>((s.col b hb).resolve_right λhx=>h0 (by rw [show C b=0 from hF] at hx;exact hx.1)).trans hF) λb hb hF=>s.same b hb (by rw [show C b=0 from hF];exact h0)
theorem RNm.step(h:RNm C.F w v x)(s:AU S C w C' w')(h0:0∉S):RNm C'.F w' v x:=
 h.mono (λb hb hF=>((s.col b hb).resolve_right λhx=>h0 (by rw [show C b=0 from hF] at hx;exact hx.1)).trans hF) λb hb hF=>s.same b hb (by rw [show C b=0 from hF];exact h0)
theorem RTh.step(h:RTh C.F w v t)(s:AU S C w C' w')(h0:0∉S):RTh C'.F w' v t:=
 h.mono (λb hb hF=>((s.col b hb).resolve_right λhx=>h0 (by rw [show C b=0 from hF] at hx;exact hx.1)).trans hF) λb hb hF=>s.same b hb (by rw [show C b=0 from hF];exact h0)
theorem Ge.recol(h:Ge D L C.F w v x)(rs:List Nat):Ge D L (recol (see rs) C).F w v x:=h.mono (λb _ hF=>by show see rs (C b)=0;rw [show C b=0 from hF];rfl) λ_ _ _=>rfl
theorem RNm.recol(h:RNm C.F w v x)(rs:List Nat):RNm (recol (see rs) C).F w v x:=h.mono (λb _ hF=>by show see rs (C b)=0;rw [show C b=0 from hF];rfl) λ_ _ _=>rfl
theorem RTh.recol(h:RTh C.F w v t)(rs:List Nat):RTh (recol (see rs) C).F w v t:=h.mono (λb _ hF=>by show see rs (C b)=0;rw [show C b=0 from hF];rfl) λ_ _ _=>rfl
theorem MTh.glue{rs:List Nat}{C'':Col}(h:MTh D L C''.F w' v t):MTh D L (glue rs w C C'').F w' v t:=h.mono (λ_ _ hF=>Pq hF) λ_ _ _=>rfl
theorem RTh.glue{rs:List Nat}{C'':Col}(h:RTh C''.F w' v t):RTh (glue rs w C C'').F w' v t:=h.mono (λ_ _ hF=>Pq hF) λ_ _ _=>rfl
theorem Ge.lay(hb:Bk C w k b [.string (bs nm),tv,ov] T)(hk:k≠0)(ht:MTh D L C.F w tv t)(ho:Ge D L C.F w ov out): ∃C',AU [k] C w C' w/\Ge D L C'.F w (.pointer (some ⟨b,0,none⟩)) (.bind nm t out):=by
 have st:=Jd C w [b] (S:=[k]) (by simp [hb.col])
 have h0:0∉[k]:=by simpa using hk.symm
 exact ⟨_,st,.bind (by simp [Col.F]) hb.lt hb.at0 (ht.step st h0) (ho.step st h0)⟩
theorem MTh.layDone(hb:Bk C w k pe (cp++[hv,tv]) T)(hk:k≠0)(hp:Aq.rep C.F w cp p)(hh:MTh D L C.F w hv h)(ht:MTh D L C.F w tv t):
  ∃C',AU [k] C w C' w/\MTh D L C'.F w (.func (.func D) #[] #[.pointer (some ⟨pe,0,none⟩)]) (.done p h t):=by
 have st:=Jd C w [pe] (S:=[k]) (by simp [hb.col])
 have h0:0∉[k]:=by simpa using hk.symm
 exact ⟨_,st,.done (by simp [Col.F]) hb.lt hb.at0 (Aq.step hp st h0) (hh.step st h0) (ht.step st h0)⟩
theorem MTh.layLater(hb:Bk C w k1 pe ce T1)(hb':Bk C w k2 pn [nv] T2)(h0:0∉[k1,k2])(he:AG.rep C.F w ce e)(hn:Ge D L C.F w nv env):
  ∃C',AU [k1,k2] C w C' w/\MTh D L C'.F w (.func (.func L) #[] #[.pointer (some ⟨pe,0,none⟩),.pointer (some ⟨pn,0,none⟩)]) (.later e env):=by
 have st:=Jd C w [pe,pn] (S:=[k1,k2]) (by simp [hb.col,hb'.col])
 exact ⟨_,st,.later (by simp [Col.F]) hb.lt (by simp [Col.F]) hb'.lt hb.at0 (AG.step he st h0) hb'.at0 (hn.step st h0)⟩
theorem Ge.layRec(hb:Bk C w k b [.string (bs nm),.func (.func L) #[] #[.pointer (some ⟨pe,0,none⟩),.pointer (some ⟨pn,0,none⟩)],ov] T)(hb1:Bk C w k1 pe ce T1)(hb2:Bk C w k2 pn [.pointer (some ⟨b,0,none⟩)] T2)(h0:0∉[k,k1,k2])
  (he:AG.rep C.F w ce e) (ho:Ge D L C.F w ov out): ∃C',AU [k,k1,k2] C w C' w/\Ge D L C'.F w (.pointer (some ⟨b,0,none⟩)) (.letrec nm e out):=by
 have st:=Jd C w [b,pe,pn] (S:=[k,k1,k2]) (by simp [hb.col,hb1.col,hb2.col])
 exact ⟨_,st,.letrec (by simp [Col.F]) hb.lt (by simp [Col.F]) hb1.lt (by simp [Col.F]) hb2.lt hb.at0 hb1.at0 (AG.step he st h0) hb2.at0 (ho.step st h0)⟩
theorem RNm.lay(hb:Bk C w k b [.string (bs nm),tv,ov] T)(hk:k≠0)(ht:RTh C.F w tv t)(ho:RNm C.F w ov out): ∃C',AU [k] C w C' w/\RNm C'.F w (.pointer (some ⟨b,0,none⟩)) (.bind nm t out):=by
 have st:=Jd C w [b] (S:=[k]) (by simp [hb.col])
 have h0:0∉[k]:=by simpa using hk.symm
 exact ⟨_,st,.bind (by simp [Col.F]) hb.lt hb.at0 (ht.step st h0) (ho.step st h0)⟩
theorem RTh.layDone(hb:Bk C w k b ([.bool true,.bool (!h.isNil)]++cp++[hv,tv]++ce++[.pointer none]) T)(hk:k≠0)(hp:Aq.rep C.F w cp p)(he:AG.rep C.F w ce ZL)(hh:RTh C.F w hv h)(ht:RTh C.F w tv t):
  ∃C',AU [k] C w C' w/\RTh C'.F w (.pointer (some ⟨b,0,none⟩)) (.done p h t):=by
 have st:=Jd C w [b] (S:=[k]) (by simp [hb.col])
 have h0:0∉[k]:=by simpa using hk.symm
 exact ⟨_,st,.done (by simp [Col.F]) hb.lt hb.at0 (Aq.step hp st h0) (AG.step he st h0) (hh.step st h0) (ht.step st h0)⟩
theorem RTh.layLater(hb:Bk C w k b ([.bool false,.bool false]++cp++[.pointer none,.pointer none]++ce++[nv]) T)(hk:k≠0)(hp:Aq.rep C.F w cp Mh)(he:AG.rep C.F w ce e)(hn:RNm C.F w nv env):
  ∃C',AU [k] C w C' w/\RTh C'.F w (.pointer (some ⟨b,0,none⟩)) (.later e env):=by
 have st:=Jd C w [b] (S:=[k]) (by simp [hb.col])
 have h0:0∉[k]:=by simpa using hk.symm
 exact ⟨_,st,.later (by simp [Col.F]) hb.lt (Aq.step hp st h0) hb.at0 (AG.step he st h0) (hn.step st h0)⟩
theorem RNm.layRec(hb:Bk C w k b [.string (bs nm),.pointer (some ⟨pe,0,none⟩),ov] T)(hb1:Bk C w k1 pe ([.bool false,.bool false]++cp++[.pointer none,.pointer none]++ce++[.pointer (some ⟨b,0,none⟩)]) T1)(h0:0∉[k,k1])
  (hp:Aq.rep C.F w cp Mh) (he:AG.rep C.F w ce e) (ho:RNm C.F w ov out): ∃C',AU [k,k1] C w C' w/\RNm C'.F w (.pointer (some ⟨b,0,none⟩)) (.letrec nm e out):=by
 have st:=Jd C w [b,pe] (S:=[k,k1]) (by simp [hb.col,hb1.col])
 exact ⟨_,st,.letrec (by simp [Col.F]) hb.lt (by simp [Col.F]) hb1.lt hb.at0 (Aq.step hp st h0) hb1.at0 (AG.step he st h0) (ho.step st h0)⟩
theorem Ge.el{q:List UInt8×Th×Nm}(h:Ge D L C.F w v x)(hq:x.view=some q):
  ∃b tv ov,v= .pointer (some ⟨b,0,none⟩)/\Ay C w b 0 [.string (bs q.1),tv,ov]/\MTh D L C.F w tv q.2.1/\Ge D L C.F w ov q.2.2:=by
 cases h with
 |nil=>cases hq
 |bind h1 h2 h3 h4 h5=>cases hq;exact ⟨_,_,_,rfl,⟨h1,h2,h3⟩,h4,h5⟩
 |letrec h1 h2 h3 h4 h5 h6 h7 h8 h9 h10 h11=>cases hq;exact ⟨_,_,_,rfl,⟨h1,h2,h7⟩,.later h3 h4 h5 h6 h8 h9 h10 (.letrec h1 h2 h3 h4 h5 h6 h7 h8 h9 h10 h11),h11⟩
theorem RNm.el{q:List UInt8×Th×Nm}(h:RNm C.F w v x)(hq:x.view=some q):
  ∃b tv ov,v= .pointer (some ⟨b,0,none⟩)/\Ay C w b 0 [.string (bs q.1),tv,ov]/\RTh C.F w tv q.2.1/\RNm C.F w ov q.2.2:=by
 cases h with
 |nil=>cases hq
 |bind h1 h2 h3 h4 h5=>cases hq;exact ⟨_,_,_,rfl,⟨h1,h2,h3⟩,h4,h5⟩
 |letrec h1 h2 h3 h4 h5 h6 h7 h8 h9=>cases hq;exact ⟨_,_,_,rfl,⟨h1,h2,h5⟩,.later h3 h4 h6 h7 h8 (.letrec h1 h2 h3 h4 h5 h6 h7 h8 h9),h9⟩
end
structure Rec where
 known:Bool
 pair:Bool
 value:AD
 head:Th
 tail:Th
 e:AE
 names:Nm
def Th.view:Th->Option Rec
 | .nil=>none
 | .done p h t=>some ⟨true, !h.isNil,p,h,t,ZL,.nil⟩
 | .later e env=>some ⟨false,false,Mh,.nil,.nil,e,env⟩
theorem RTh.el{C:Col}{w:World}{v:Value}{x:Th}{q:Rec}(h:RTh C.F w v x)(hq:x.view=some q):
  ∃b cp hv tv ce nv,v= .pointer (some ⟨b,0,none⟩)/\Ay C w b 0 ([.bool q.known,.bool q.pair]++cp++[hv,tv]++ce++[nv])/\Aq.rep C.F w cp q.value/\RTh C.F w hv q.head/\RTh C.F w tv q.tail/\AG.rep C.F w ce q.e/\RNm C.F w nv q.names:=by
 cases h with
 |nil=>cases hq
 |done h1 h2 h3 h4 h5 h6 h7=>cases hq;exact ⟨_,_,_,_,_,_,rfl,⟨h1,h2,h3⟩,h4,h6,h7,h5,.nil⟩
 |later h1 h2 h3 h4 h5 h6=>cases hq;exact ⟨_,_,_,_,_,_,rfl,⟨h1,h2,h4⟩,h3,.nil,.nil,h5,h6⟩
def J1{α β:Type}(x:Except Int α)(f:Int->β)(g:α->β):β:=match x with | .error y=>f y| .ok r=>g r
theorem EG{α β:Type}{x:Except Int α}{f:Int->β}{g:α->β}{y:Int}{r:β}(h:J1 x f g=r)(hx:x= .error y):f y=r:=by subst hx;exact h
theorem HS{α β:Type}{x:Except Int α}{f:Int->β}{g:α->β}{y:α}{r:β}(h:J1 x f g=r)(hx:x= .ok y):g y=r:=by subst hx;exact h
def Ey{α:Type}(T:Nat)(x:Except Int α)(e:Ending)(K:α->Value->Prop):Prop:=
 match x with
 | .error y=>e= .panicked [{v:= .iface T (.int .i64 y),recovered:=false}]
 | .ok r=>∃v,e= .returned v/\K r v
section
variable{P:Program}{ds:List Deferred}{n:Nat}{ops:Array Oper}{Q:Gb}{l:List Oper}{o:Oper}{ρ:Fth.Env}{w:World}
theorem Is{d f:Nat}{args:Array Value}{w':World}(hg:Hn ops ρ n o true)(hd:o.dst=some d)(hn:Nat.blt d n=true)
  (hr:(execOp (ev ρ) o).run P w= .ok (.enter f args) w')
  (h:Calls P f args w' λe w''=>(∃c,e= .panicked c/\Q (.panic c) ρ w'')∨∃v,e= .returned v/\WL P ds n ops Q l (ρ.put d v) w''):WL P ds n ops Q (o::l) ρ w:=by
 intro a ha
 unfold wpList
 rw [if_pos (hg.wanted ha)]
 refine .inl ?_
 unfold Oper.wp
 rw [ha.eval,hr,Oper.upon_enter,hd]
 refine h.mono λe w'' hh=>?_
 rcases hh with ⟨c,he,hq⟩| ⟨v,he,hw⟩
 ·subst he;exact ⟨ρ,ha,hq⟩
 ·subst he;exact hw _ (ha.put hn v)
theorem TH{v:Value}{w':World}(hg:Hn ops ρ n o true)(hr:(execOp (ev ρ) o).run P w= .halt (.panic v) w')(h:Q (.panic [{v,recovered:=false}]) ρ w'):WL P ds n ops Q (o::l) ρ w:=by
 intro a ha
 unfold wpList
 rw [if_pos (hg.wanted ha)]
 refine .inl ?_
 unfold Oper.wp
 rw [ha.eval,hr,Oper.upon_panic]
 exact ⟨ρ,ha,h⟩
theorem RF{d:Option Nat}{ty T:Nat}{pos:String}{af:Array Edge}{g:Option (Nat×Bool)}{x:Operand}{u:Value}(hx:ev ρ x= .iface T u):
  (execOp (ev ρ) ⟨d,.panic x,ty,pos,af,g⟩).run P w= .halt (.panic (.iface T u)) w:=by
 simp [execOp,Instr.panic,hx]
end
theorem OI{P:Program}{fn:Func}{R:Ending->World->Prop}{B:Gb}{ρ:Env}{w:World}{c:List PanicEntry}(hB:B=M7 P fn R)(h:R (.panicked c) w):B (.panic c) ρ w:=by subst hB;exact h
def Ax.rep(D L:Nat)(F:Nat->Prop)(w:World)(cs:List Value)(x:Ax):Prop:=
 ∃s0 hv tv,cs=[.int .i64 (x.plain.type_),.complex .f64 (x.plain.num).1 (x.plain.num).2,.bool (x.plain.bool),s0,hv,tv]/\Kd.slcRep Kd.cpx.size Kd.cpx.rep F w s0 x.plain.list/\MTh D L F w hv x.head/\MTh D L F w tv x.tail
def Xq(D L:Nat):Kd Ax where
 size:=6
 rep:=Ax.rep D L
 len h:=by obtain ⟨s0,hv,tv,rfl,_⟩:=h;rfl
 ones h:=by
  obtain ⟨s0,hv,tv,rfl,h0,h1,h2⟩:=h
  intro c hc
  simp only [List.mem_cons,List.not_mem_nil,or_false] at hc
  rcases hc with rfl|rfl|rfl|rfl|rfl|rfl<;>first|rfl|exact Fg h0|exact h1.one|exact h2.one
 mono h hF hs:=by
  obtain ⟨s0,hv,tv,rfl,h0,h1,h2⟩:=h
  exact ⟨_,_,_,rfl,J6 Kd.cpx h0 hF hs,h1.mono hF hs,h2.mono hF hs⟩
def XB(P:Program)(T:Nat):Bool:=match P.underlying T with |some (.func _ _ _)=>true|_=>false
section
variable{P:Program}{ρ:Fth.Env}{w:World}{d:Option Nat}{ty T:Nat}{pos:String}{af:Array Edge}{g:Option (Nat×Bool)}
theorem Rq{D L:Nat}{F:Nat->Prop}{v:Value}{t:Th}(hT:XB P T=true)(h:MTh D L F w v t):(Op.equal T v .nilFunc).run P w= .ok t.isNil w:=by
 unfold XB at hT
 split at hT
 ·rename_i a b c hu
  have key: ∀n,(Op.equalIn (n+1) T v .nilFunc).run P w= .ok t.isNil w:=by
   intro n
   cases h<;>simp [Op.equalIn,run_underlying hu,Th.isNil]
  exact key 9999
 ·cases hT
theorem Rr{D L:Nat}{F:Nat->Prop}{x y:Operand}{v:Value}{t:Th}{t2:Nat}(hT:XB P T=true)(hx:ev ρ x=v)(hy:ev ρ y= .nilFunc)(h:MTh D L F w v t):
  (execOp (ev ρ) ⟨d,.binOp .eql T x y t2,ty,pos,af,g⟩).run P w= .ok (.value (.bool t.isNil)) w:=by
 have he:=Rq (P:=P) hT h
 have hb:(binOp .eql T v .nilFunc).run P w= .ok (.bool t.isNil) w:=by
  cases h<;>(simp only [binOp];simp [he])
 have hg:(eqGuard .eql T x y v .nilFunc).run P w= .ok () w:=by
  cases h<;>simp [eqGuard]
 simp only [execOp,hx,hy,Sem.run_bind,hg,hb,Result.andThen_ok,Sem.run_pure]
theorem TI{D L:Nat}{F:Nat->Prop}{x y:Operand}{v:Value}{t:Th}{t2:Nat}(hT:XB P T=true)(hx:ev ρ x=v)(hy:ev ρ y= .nilFunc)(h:MTh D L F w v t):
  (execOp (ev ρ) ⟨d,.binOp .neq T x y t2,ty,pos,af,g⟩).run P w= .ok (.value (.bool (!t.isNil))) w:=by
 have he:=Rq (P:=P) hT h
 have hb:(binOp .neq T v .nilFunc).run P w= .ok (.bool (!t.isNil)) w:=by
  cases h<;>(simp only [binOp];simp [he])
 have hg:(eqGuard .neq T x y v .nilFunc).run P w= .ok () w:=by
  cases h<;>simp [eqGuard]
 simp only [execOp,hx,hy,Sem.run_bind,hg,hb,Result.andThen_ok,Sem.run_pure]
end
end Fth
namespace Fth
open Go Go.RowKit
section
variable{α:Type}{T:Nat}{x:Except Int α}{e:Ending}{K K':α->Value->Prop}
theorem Ps(h:Ey T x e K)(hk: ∀r v,K r v->K' r v):Ey T x e K':=by
 cases x with
 |error y=>exact h
 |ok r=>obtain ⟨v,he,h⟩:=h;exact ⟨v,he,hk _ _ h⟩
theorem Fh{r:α}{v:Value}(h:K r v):Ey T (.ok r) (.returned v) K:=⟨v,rfl,h⟩
theorem Gi{y:Int}:Ey T (.error y:Except Int α) (.panicked [{v:= .iface T (.int .i64 y),recovered:=false}]) K:=rfl
theorem Ey.split(h:Ey T x e K):(∃y,x= .error y/\e= .panicked [{v:= .iface T (.int .i64 y),recovered:=false}])∨∃r,x= .ok r/\∃v,e= .returned v/\K r v:=by
 cases x with
 |error y=>exact .inl ⟨y,rfl,h⟩
 |ok r=>exact .inr ⟨r,rfl,h⟩
end
section
variable{P:Program}{ds:List Deferred}{n:Nat}{ops:Array Oper}{Q:Gb}{S:World->Prop}{E:List Nat}{i:Nat}{r:Tr}{o:Oper}{ρ:Fth.Env}{w:World}
def VQ(P:Program)(ds:List Deferred)(n:Nat)(ops:Array Oper)(Q:Gb)(i:Nat)(K:Fth.Env->World->Prop)(ρ:Fth.Env)(w:World):Prop:=
 ∀a,Hm ds n a ρ->wpOp P ops (Wt ds n Q) i (λa' w'=>∃ρ',Hm ds n a' ρ'/\K ρ' w') a w
theorem Vu(hE:E.contains i=false)(h:VQ P ds n ops Q i (λρ' w'=>S w'/\WX P ds n ops Q S E r ρ' w') ρ w):WX P ds n ops Q S E (.one i r) ρ w:=by
 intro listed hO hS a ha
 have hB:=hO.ord
 simp only [Tr.ok,Bool.and_eq_true,decide_eq_true_eq] at hB
 refine ⟨λh0=>(by rw [hB.1] at h0;cases h0),λj hj=>?_⟩
 have:=Vj hB.1 hj;subst this
 exact wpOp_mono (λa' w' ⟨ρ',ha',hS',hX⟩=>⟨λ_=>hS',hX _ (hO.next (.inr (.inl rfl)) hE) hS' a' ha'⟩) (h a ha)
theorem VQ.callp{K:Fth.Env->World->Prop}{d f:Nat}{args:Array Value}{w':World}(ho:ops[i]?=some o)(hg:Hn ops ρ n o true)(hd:o.dst=some d)(hn:Nat.blt d n=true)
  (hr:(execOp (ev ρ) o).run P w= .ok (.enter f args) w') (h:Calls P f args w' λe w''=>(∃c,e= .panicked c/\Q (.panic c) ρ w'')∨∃v,e= .returned v/\K (ρ.put d v) w''):VQ P ds n ops Q i K ρ w:=by
 intro a ha
 unfold wpOp
 simp only [ho,hg.wanted ha,if_true]
 refine .inl ?_
 unfold Oper.wp
 rw [ha.eval,hr,Oper.upon_enter,hd]
 refine h.mono λe w'' hh=>?_
 rcases hh with ⟨c,he,hq⟩| ⟨v,he,hw⟩
 ·subst he;exact ⟨ρ,ha,hq⟩
 ·subst he;exact ⟨_,ha.put hn v,hw⟩
end
def ACr(P:Program)(v:Value)(f:Nat)(caps:List Value):Prop:=
 ∀{ρ:Fth.Env} {w:World} {d:Option Nat} {ty:Nat} {pos:String} {af:Array Edge} {g:Option (Nat×Bool)} {x:Operand} {xs:List Operand} {vs:List Value} {ts:Array Nat},ev ρ x=v->xs.map (ev ρ)=vs->
  (execOp (ev ρ) ⟨d,.call {callee:= .value x,args:=xs.toArray,argTypes:=ts},ty,pos,af,g⟩).run P w= .ok (.enter f (vs++caps).toArray) w
theorem QJ{C:Col}{w:World}{b o:Nat}{cs:List Value}(h:Ay C w b o cs)(rs:List Nat):Ay (recol (see rs) C) w b o cs:=
 ⟨by show see rs (C b)=0;rw [h.col];rfl,h.lt,h.at_⟩
end Fth
namespace Fth
open Go Go.RowKit
section
variable{P:Program}{ρ:Fth.Env}{C:Col}{w:World}{d:Option Nat}{ty:Nat}{pos:String}{af:Array Edge}{g:Option (Nat×Bool)}{E k t e:Nat}{x:Operand}{v:Value}{xs:List UInt8}
theorem Vv(w:World)(b n m c:Nat)(hc:b≠c):(w.freeze ⟨b,n,none⟩ m).heap[c]?=w.heap[c]?:=by
 unfold World.freeze
 split
 ·rfl
 ·simp [Array.getElem?_modify,hc]
theorem XC(w:World)(b n m:Nat){cs:Array Value}{E:Nat}{fz:Cpl}(h:w.heap[b]?=some (.cells cs E fz)): ∃fz',(w.freeze ⟨b,n,none⟩ m).heap[b]?=some (.cells cs E fz'):=by
 unfold World.freeze
 split
 ·exact ⟨fz,h⟩
 ·exact ⟨_,by simp [Array.getElem?_modify,h];rfl⟩
theorem Ru(w:World)(b n m:Nat):(w.freeze ⟨b,n,none⟩ m).heap.size=w.heap.size:=by
 unfold World.freeze
 split
 ·rfl
 ·simp
theorem XD{b n m:Nat}(hc:C b=k):AU [k] C w C (w.freeze ⟨b,n,none⟩ m):=by
 refine ⟨?_,?_,?_,by rw [Ru];exact Nat.le_refl _,λ_ _=> .inl rfl,λc _ hn=>Vv w b n m c λh=>hn (by subst h;simp [hc])⟩<;>(unfold World.freeze;split<;>rfl)
theorem ZM{K:Value->World->Prop}(hT:P.underlying t=some (.slice e)/\P.underlying e=some (.int .u8))(hx:ev ρ x=v)(h:Own Kd.u8 E C w k v xs)(hne:xs≠[])(hk:k≠0)
  (hK: ∀C' w',Slc Kd.u8 C'.F w' v xs->AU [k] C w C' w'->K v w'):P9 P ρ ⟨d,.convert t t x,ty,pos,af,g⟩ w K:=by
 have hh:=h
 obtain ⟨css,h1,h2,h3,⟨h4,h5⟩,h6,_⟩:=h
 rcases h5 with ⟨_,h5⟩| ⟨b,cap,cur,rfl,_,hheap,hc,hm,hs,ht⟩
 ·exact absurd (List.eq_nil_of_length_eq_zero h5) hne
 ·have hcol:C b=k:=h6 b rfl
  have hsh:w.shape? b=some (E,cur.size):=by simp [World.shape?,hheap]
  have hr:(convert t t (.slice (some ⟨b,0,none⟩) xs.length cap)).run P w= .ok (.slice (some ⟨b,0,none⟩) xs.length cap) (w.freeze ⟨b,cur.size,none⟩ 1):=by
   simp [convert,run_underlying hT.1,run_underlying hT.2,markStringish,hsh]
  have conv:(execOp (ev ρ) ⟨d,.convert t t x,ty,pos,af,g⟩).run P w= .ok (.value (.slice (some ⟨b,0,none⟩) xs.length cap)) (w.freeze ⟨b,cur.size,none⟩ 1):=by
   simp only [execOp,hx,Sem.run_bind,hr,Result.andThen_ok,Sem.run_pure]
  have st:AU [k] C w C (w.freeze ⟨b,cur.size,none⟩ 1):=XD hcol
  have st2:AU [k] C (w.freeze ⟨b,cur.size,none⟩ 1) (C.put b 0) (w.freeze ⟨b,cur.size,none⟩ 1):=AU.freeze C _ (by simp [hcol])
  have h0:0∉[k]:=by simpa using hk.symm
  refine ⟨_,_,conv,hK (C.put b 0) _ ⟨_,cap,rfl,hc,λhx=>absurd hx (Kd.NoCx.no (rep:=Kd.u8.rep)),.inr ⟨b,0,rfl,by simp [Col.F,Col.put],?_,λi y hi=>?_⟩⟩ (st.trans st2 h0)⟩
  ·rw [Ru];exact lt_of_block hheap
  ·have hlt:=(List.getElem?_eq_some_iff.1 hi).1
   have hcs:css[i]?=some css[i]:=List.getElem?_eq_getElem om
   refine ⟨css[i],Kd.u8.step (Kd.u8.step (h2 i y _ hi hcs) st h0) st2 h0,h3 _ (List.getElem_mem ..),λj c hj=>?_⟩
   have hjl:j<Kd.u8.size:=by have:=(List.getElem?_eq_some_iff.1 hj).1;rwa [h3 _ (List.getElem_mem ..)] at this
   have hfl:css.flatten[i*Kd.u8.size+j]?=some c:=Own.freeze.flat_get css Kd.u8.size h3 i j _ c hcs hj hjl
   rw [<-ht] at hfl
   have hlt2:=(List.getElem?_eq_some_iff.1 hfl).1
   rw [List.length_take] at hlt2
   rw [List.getElem?_take_of_lt om,Array.getElem?_toList] at hfl
   obtain ⟨fz,hf⟩:=XC w b cur.size 1 hheap
   simp [World.cell?,hf,hfl]
end
end Fth
namespace Fth
open Go Go.RowKit
section
variable{P:Program}{ds:List Deferred}{n:Nat}{ops:Array Oper}{W:Exit->Act->World->Prop}{Q:Gb}{ρ:Fth.Env}{w:World}{l:List Oper}{o:Oper}
def WA'(P:Program)(ds:List Deferred)(n:Nat)(c:Code)(W:Exit->Act->World->Prop)(ρ:Fth.Env)(w:World):Prop:=∀a,Hm ds n a ρ->c.wp P W a w
def NK(ds:List Deferred)(n:Nat)(W:Exit->Act->World->Prop):Gb:=λe ρ w=>∀a,Hm ds n a ρ->W e a w
theorem WA'.seq{x y:Code}{B:Gb}(hB:B=NK ds n W)(h:WC P ds n x (PB (WA' P ds n y W) B) ρ w):WA' P ds n (.seq x y) W ρ w:=λa ha=>wp_seq (wp_mono (h a ha) λe a' w' ⟨r,hr,hQ⟩=>by
 subst hB
 cases e with
 |normal=>exact hQ a' hr
 |_=>exact hQ a' hr)
theorem ZN{c:Code}{B:Gb}(hB:B=NK ds n W)(h:WC P ds n c B ρ w):WA' P ds n c W ρ w:=λa ha=>wp_mono (h a ha) λe a' w' ⟨r,hr,hQ⟩=>by
 subst hB
 exact hQ a' hr
def Gb.calm(Q:Gb):Gb
 | .panic _,_,_=>False
 |e,ρ,w=>Q e ρ w
theorem AAY{Q:Gb}: ∀e ρ w,Gb.calm Q e ρ w->Q e ρ w:=by intro e ρ w h;cases e<;>first|exact h|exact h.elim
theorem DM{Q:Gb}:M9 (Gb.calm Q):=λ_ _ _ _ h=>h
theorem Sp{c:Code}(h:WC P ds n c (Gb.calm Q) ρ w):WC P ds n c Q ρ w:=h.mono AAY
def LA(P:Program)(ds:List Deferred)(n:Nat)(ops:Array Oper)(W:Exit->Act->World->Prop)(l:List Oper)(ρ:Fth.Env)(w:World):Prop:=∀a,Hm ds n a ρ->wpList P ops W l a w
theorem WA'.region{id:Nat}{y:Code}(h:LA P ds n l.toArray (λe a w=>match e with | .normal=>y.wp P W a w|e=>W e a w) l ρ w):WA' P ds n (.seq (.region id l.toArray false) y) W ρ w:=λa ha=>wp_seq (wp_mono (wp_region_lit (h a ha)) λe a' w' hQ=>by
 cases e with
 |normal=>exact hQ
 |_=>exact hQ)
theorem LA.val{d:Nat}{v:Value}{w':World}(hg:Hn ops ρ n o true)(hd:o.dst=some d)(hn:Nat.blt d n=true)
  (hr:(execOp (ev ρ) o).run P w= .ok (.value v) w') (h:LA P ds n ops W l (ρ.put d v) w'):LA P ds n ops W (o::l) ρ w:=by
 intro a ha
 unfold wpList
 rw [if_pos (hg.wanted ha)]
 refine .inl ?_
 unfold Oper.wp
 rw [ha.eval,hr,Oper.upon_value,hd]
 exact h _ (ha.put hn v)
theorem LA.defer{dd:Deferred}(hg:Hn ops ρ n o true)(hd:o.dst=none)(hr:(execOp (ev ρ) o).run P w= .ok (.defer dd) w)(h:LA P (dd::ds) n ops W l ρ w):LA P ds n ops W (o::l) ρ w:=by
 intro a ha
 unfold wpList
 rw [if_pos (hg.wanted ha)]
 refine .inl ?_
 unfold Oper.wp
 rw [ha.eval,hr,Oper.upon_defer,hd]
 exact h _ ⟨ha.size,ha.eq,by show dd::a.defers=_;rw [ha.defers]⟩
theorem LA.nil(h: ∀a,Hm ds n a ρ->W .normal a w):LA P ds n ops W [] ρ w:=λa ha=>h a ha
theorem R2{f:FuncId}{fn:Func}{c:Code}{args:Array Value}{R:Ending->World->Prop}(hf:P.funcs[f]?=some fn)(hb:fn.body=some c)(hn:fn.ntmps=n)(hs:Nat.ble args.size n=true)
  (h:WA' P [] n c (bodyPostD P fn R) (Mf args.toList) w):Calls P f args w R:=by
 refine calls_of_wp_defers hf hb ?_
 have hs':args.size<=n:=by simpa using hs
 exact h _ (PD args _ n (by rw [hn];omega))
end
end Fth
namespace Fth
open Go Go.RowKit
section
variable{P:Program}{n:Nat}{ops:Array Oper}{Q:Exit->Act->List Frame->World->Prop}{ρ:Fth.Env}{w:World}{l:List Nat}{o:Oper}{i:Nat}{cs:List Frame}
def LS(P:Program)(n:Nat)(ops:Array Oper)(Q:Exit->Act->List Frame->World->Prop)(l:List Nat)(ρ:Fth.Env)(cs:List Frame)(w:World):Prop:=∀a,Hm [] n a ρ->wpOpsS P ops Q l a cs w
theorem LS.val{d:Nat}{v:Value}{w':World}(ho:ops[i]?=some o)(hg:Hn ops ρ n o true)(hd:o.dst=some d)(hn:Nat.blt d n=true)
  (hr:(execOp (ev ρ) o).run P w= .ok (.value v) w') (h:LS P n ops Q l (ρ.put d v) cs w'):LS P n ops Q (i::l) ρ cs w:=by
 intro a ha
 unfold wpOpsS
 simp only [ho,hg.wanted ha,if_true]
 rw [ha.eval,hr]
 simp only [Oper.upon_value,hd]
 exact h _ (ha.put hn v)
theorem LS.recover{d:Nat}{v:Value}{w':World}{cs':List Frame}(ho:ops[i]?=some o)(hg:Hn ops ρ n o true)(hd:o.dst=some d)(hn:Nat.blt d n=true)
  (hr:(execOp (ev ρ) o).run P w= .ok .recover w') (hc:recoverD cs=some (v,cs')∨(recoverD cs=none/\v= .nilIface/\cs'=cs)) (h:LS P n ops Q l (ρ.put d v) cs' w'):LS P n ops Q (i::l) ρ cs w:=by
 intro a ha
 unfold wpOpsS
 simp only [ho,hg.wanted ha,if_true]
 rw [ha.eval,hr]
 rcases hc with hc| ⟨hc,rfl,rfl⟩
 ·simp only [hc,hd];exact h _ (ha.put hn v)
 ·simp only [hc,hd];exact h _ (ha.put hn _)
theorem LS.nil(h: ∀a,Hm [] n a ρ->Q .normal a cs w):LS P n ops Q [] ρ cs w:=λa ha=>h a ha
theorem PE{f:FuncId}{fn:Func}{id:Nat}{l0:List Oper}{rest:Code}{args:Array Value}{u u1:FrameMode}{rv:Value}{R:Ending->FrameMode->World->Prop}
  (hf:P.funcs[f]?=some fn) (hb:fn.body=some (.seq (.region id l0.toArray false) rest)) (hn:fn.ntmps=n) (hs:Nat.ble args.size n=true)
  (hrec: ∀(c:Frame) (cs:List Frame),c.mode=u->recoverD (c::cs)=some (rv,{c with mode:=u1}::cs)∨(recoverD (c::cs)=none/\rv= .nilIface/\u1=u))
  (h: ∀(c:Frame) (cs:List Frame) (K:Fth.Env->World->Prop),c.mode=u->(∀ρ w,WC P [] n rest (λe ρ w=>match e with | .normal| .ret=>∃v,(∀tmps:Array Value,(∀t,tmps.getD t undef=ρ t)->(results fn tmps).run P w= .ok v w)/\R (.returned v) u1 w|_=>False) ρ w->K ρ w)->
   ∀cs1,(recoverD (c::cs)=some (rv,cs1)∨(recoverD (c::cs)=none/\rv= .nilIface/\cs1=c::cs))->LS P n l0.toArray (λe a cs' w=>match e with | .normal=>cs'=cs1/\∃ρ,Hm [] n a ρ/\K ρ w|_=>False) (List.range l0.length) (Mf args.toList) (c::cs) w):
  CallsD P f args u w R:=by
 refine callsD_of_wpS hf hb λc cs hu=>?_
 have hs':args.size<=n:=by simpa using hs
 have ha:=PD args (fn.ntmps - args.size) n (by rw [hn];omega)
 have hcs: ∃cs1,(recoverD (c::cs)=some (rv,cs1)∨(recoverD (c::cs)=none/\rv= .nilIface/\cs1=c::cs))/\cs1={c with mode:=u1}::cs:=by
  rcases hrec c cs hu with h| ⟨h1,h2,rfl⟩
  ·exact ⟨_,.inl h,rfl⟩
  ·exact ⟨_,.inr ⟨h1,h2,rfl⟩,by subst hu;rfl⟩
 obtain ⟨cs1,hc1,he1⟩:=hcs
 have key:=h c cs (λρ w=>WC P [] n rest (λe ρ w=>match e with | .normal| .ret=>∃v,(∀tmps:Array Value,(∀t,tmps.getD t undef=ρ t)->(results fn tmps).run P w= .ok v w)/\R (.returned v) u1 w|_=>False) ρ w) hu (λ_ _ h=>h) cs1 hc1
 replace key:=key _ ha
 refine wpS_seq ?_
 have hsz:l0.toArray.size=l0.length:=by simp
 refine wpS_region ?_
 rw [hsz]
 refine wpOpsS_mono (λe a cs' w hq=>?_) _ _ _ _ key
 cases e with
 |normal=>
  obtain ⟨rfl,ρ,ha,hK⟩:=hq
  refine wpS_of_wp (wp_mono (hK a ha) λe a' w' ⟨r,hr,hQ⟩=>?_)
  subst he1
  cases e with
  |normal=>obtain ⟨v,hv,hR⟩:=hQ;exact ⟨hr.defers,u1,rfl,v,hv _ hr.eq,hR⟩
  |ret=>obtain ⟨v,hv,hR⟩:=hQ;exact ⟨hr.defers,u1,rfl,v,hv _ hr.eq,hR⟩
  |_=>exact hQ.elim
 |_=>exact hq.elim
where
 wpOpsS_mono {Q Q':Exit->Act->List Frame->World->Prop} (hq: ∀e a cs w,Q e a cs w->Q' e a cs w): ∀(l:List Nat) (a:Act) (cs:List Frame) (w:World),wpOpsS P l0.toArray Q l a cs w->wpOpsS P l0.toArray Q' l a cs w:=by
  intro l
  induction l with
  |nil=>intro a cs w h;exact hq _ _ _ _ h
  |cons i rest ih=>
   intro a cs w h
   cases ho:l0.toArray[i]? with
   |none=>
    simp only [wpOpsS,ho] at h ⊢
    exact ih _ _ _ h
   |some o=>
    simp only [wpOpsS,ho] at h ⊢
    by_cases hw:Region.wanted o (yielded l0.toArray a.tmps)=true
    ·rw [if_pos hw] at h ⊢
     generalize (execOp a.eval o).run P w=r at h ⊢
     cases r with
     |halt x w'=>cases x<;>first|exact hq _ _ _ _ h|exact h
     |ok nx w'=>
      cases nx<;>first|exact ih _ _ _ h|exact h.elim|skip
      ·exact h.mono λe w'' hh=>by
        cases e with
        |returned v=>exact ih _ _ _ hh
        |panicked c=>exact hq _ _ _ _ hh
        |outgrown=>obtain ⟨a,w,hh⟩:=hh;exact ⟨a,w,hq _ _ _ _ hh⟩
      ·simp only at h ⊢
       cases hrc:recoverD cs with
       |none=>rw [hrc] at h;exact ih _ _ _ h
       |some y=>rw [hrc] at h;exact ih _ _ _ h
      ·exact Rows.mono h λv w'' hh=>ih _ _ _ hh
    ·rw [if_neg hw] at h ⊢
     exact ih _ _ _ h
end
section
variable{P:Program}{ρ:Fth.Env}{w:World}{d:Option Nat}{ty T A:Nat}{pos:String}{af:Array Edge}{g:Option (Nat×Bool)}{x:Operand}
theorem Rw:(execOp (ev ρ) ⟨d,.call {callee:= .builtin .recover,args:=#[],argTypes:=#[]},ty,pos,af,g⟩).run P w= .ok .recover w:=by
 simp [execOp,resolve,invoke,builtin]
theorem Ue(hu:P.underlying A=some (.int .i64))(hz:(P.info? A).map (·.zero)=some (some (.int .i64 0)))(hx:ev ρ x= .nilIface):
  (execOp (ev ρ) ⟨d,.typeAssert x T A true,ty,pos,af,g⟩).run P w= .ok (.value (.tuple #[.int .i64 0,.bool false])) w:=by
 obtain ⟨i,hi,hz⟩:=Option.map_eq_some_iff.1 hz
 simp [execOp,Instr.typeAssert,hx,run_underlying hu,zeroValue,typeInfo,hi,hz]
theorem Uf{y:Int}(hu:P.underlying A=some (.int .i64))(hx:ev ρ x= .iface A (.int .i64 y)):
  (execOp (ev ρ) ⟨d,.typeAssert x T A true,ty,pos,af,g⟩).run P w= .ok (.value (.tuple #[.int .i64 y,.bool true])) w:=by
 simp [execOp,Instr.typeAssert,hx,run_underlying hu]
theorem Xr{k:Nat}{cap:Array Value}{ts:Array Nat}(hx:ev ρ x= .func (.func k) #[] cap):
  (execOp (ev ρ) ⟨d,.defer {callee:= .value x,args:=#[],argTypes:=ts},ty,pos,af,g⟩).run P w= .ok (.defer {target:= .fn (.func k) cap,args:=#[]}) w:=by
 simp [execOp,resolve,hx,Deferred.ofValue]
theorem PF{k:Nat}{fn:Func}{c:Code}{cap:Array Value}(hf:P.funcs[k]?=some fn)(hb:fn.body=some c)(hn:(fn.name== "runtime.NumGoroutine")=false):
  (invoke (.fn (.func k) cap) #[]).run P w= .ok (.enter k cap) w:=by
 simp [invoke,callFunc,hf,hb]
 intro h;simp [h] at hn
end
theorem Ug(c:Frame)(cs:List Frame)(h:c.mode= .returning):recoverD (c::cs)=none:=by simp [recoverD,h]
theorem Vw{v:Value}(c:Frame)(cs:List Frame)(h:c.mode= .panicking [{v,recovered:=false}]):recoverD (c::cs)=some (v,{c with mode:= .panicking [{v,recovered:=true}]}::cs):=by simp [recoverD,h]
section
variable{P:Program}{n:Nat}{fn:Func}{R:Ending->World->Prop}{W:Exit->Act->World->Prop}{B:Gb}{ρ:Fth.Env}{w:World}
theorem R3{f:FuncId}{c:Code}{args:Array Value}(hf:P.funcs[f]?=some fn)(hb:fn.body=some c)(hn:fn.ntmps=n)(hs:Nat.ble args.size n=true)
  (h: ∀W B,W=bodyPostD P fn R->B=NK [] n W->WA' P [] n c W (Mf args.toList) w):Calls P f args w R:=
 R2 hf hb hn hs (h _ _ rfl rfl)
theorem AAZ(hW:W=bodyPostD P fn R)(hB:B=NK [] n W)(h:M7 P fn R .ret ρ w):B .ret ρ w:=by
 subst hW;subst hB
 intro a ha
 obtain ⟨v,hv,hR⟩:=h
 show Leaves P fn a.tmps R a.defers .returning w
 rw [ha.defers]
 exact ⟨v,hv _ ha.eq,hR⟩
theorem ACs{k:Nat}{cap:Array Value}(hW:W=bodyPostD P fn R)(hB:B=NK [{target:= .fn (.func k) cap,args:=#[]}] n W)(hi:(invoke (.fn (.func k) cap) #[]).run P w= .ok (.enter k cap) w)
  (hc:CallsD P k cap .returning w λe u' w'=>(∃v,e= .returned v)/\u'= .returning/\w'=w) (h:M7 P fn R .ret ρ w):B .ret ρ w:=by
 subst hW;subst hB
 intro a ha
 obtain ⟨v,hv,hR⟩:=h
 show Leaves P fn a.tmps R a.defers .returning w
 rw [ha.defers]
 refine leaves_cons (by simp) hi (hc.mono ?_)
 rintro e u' w' ⟨⟨_,rfl⟩,rfl,rfl⟩
 exact ⟨v,hv _ ha.eq,hR⟩
theorem ACd{k:Nat}{cap:Array Value}{v:Value}{K:World->Prop}(hW:W=bodyPostD P fn R)(hB:B=NK [{target:= .fn (.func k) cap,args:=#[]}] n W)(hi:(invoke (.fn (.func k) cap) #[]).run P w= .ok (.enter k cap) w)
  (hc:CallsD P k cap (.panicking [{v,recovered:=false}]) w λe u' w'=>(∃v,e= .returned v)/\u'= .panicking [{v,recovered:=true}]/\K w') (h: ∀w',K w'->M7 P fn R .ret ρ w'):B (.panic [{v,recovered:=false}]) ρ w:=by
 subst hW;subst hB
 intro a ha
 show Leaves P fn a.tmps R a.defers (.panicking [{v,recovered:=false}]) w
 rw [ha.defers]
 refine leaves_cons (by simp) hi (hc.mono ?_)
 rintro e u' w' ⟨⟨_,rfl⟩,rfl,hK⟩
 obtain ⟨v,hv,hR⟩:=h w' hK
 exact ⟨v,hv _ ha.eq,hR⟩
end
end Fth
namespace Fth
open Go
def gvl(ops:Array Oper)(ρ:Env)(j:Nat):Option Value:=(ops[j]?).bind λo=>o.dst.map ρ
def gnm(ops:Array Oper)(n j:Nat):Bool:=((ops[j]?).bind (·.dst)).elim false λd=>Nat.blt d n
theorem Vy{ops:Array Oper}{ρ:Env}{n j:Nat}{v:Value}(h:gvl ops ρ j=some v)(hn:gnm ops n j=true): ∃o d,ops[j]?=some o/\o.dst=some d/\Nat.blt d n=true/\ρ d=v:=by
 unfold gvl at h;unfold gnm at hn
 obtain ⟨o,ho,h⟩:=Option.bind_eq_some_iff.1 h
 obtain ⟨d,hd,h⟩:=Option.map_eq_some_iff.1 h
 rw [ho] at hn
 simp only [BP,hd,Option.elim_some] at hn
 exact ⟨o,d,ho,hd,hn,h⟩
theorem Hn.on{ops:Array Oper}{ρ:Env}{n j:Nat}{b t:Bool}{o:Oper}(ht:t=b)(h:o.guard=some (j,b))(hv:gvl ops ρ j=some (.bool t))(hn:gnm ops n j=true):Hn ops ρ n o true:=by
 obtain ⟨oj,d,h1,h2,h3,h4⟩:=Vy hv hn
 have:=Hn.guard (o:=o) h h1 h2 h3 h4
 rwa [ht,beq_self_eq_true] at this
theorem Hn.not{ops:Array Oper}{ρ:Env}{n j:Nat}{b t:Bool}{o:Oper}(ht:t= !b)(h:o.guard=some (j,b))(hv:gvl ops ρ j=some (.bool t))(hn:gnm ops n j=true):Hn ops ρ n o false:=by
 obtain ⟨oj,d,h1,h2,h3,h4⟩:=Vy hv hn
 have:=Hn.guard (o:=o) h h1 h2 h3 h4
 rwa [ht,show ((!b)==b)=false by cases b<;>rfl] at this
theorem Hn.no{ops:Array Oper}{ρ:Env}{n j:Nat}{b:Bool}{o:Oper}(h:o.guard=some (j,b))(hv:gvl ops ρ j=some undef)(hn:gnm ops n j=true):Hn ops ρ n o false:=by
 obtain ⟨oj,d,h1,h2,h3,h4⟩:=Vy hv hn
 exact Hn.off h h1 h2 h3 h4
namespace Sh
abbrev Rt(K:Value->Prop):Ending->Prop
 | .returned v=>K v
 |_=>False
theorem Rt.out{K:Value->Prop}{e:Ending}(h:Rt K e): ∃v,e= .returned v/\K v:=by
 cases e<;>first|exact h.elim|exact ⟨_,rfl,h⟩
section
variable{P:Program}{ds:List Deferred}{n:Nat}{ops:Array Oper}{Q:Gb}{l:List Oper}{ρ:Env}{w:World}{d ty j f:Nat}{b t:Bool}{pos:String}{af:Array Edge}{k:Op}
theorem Vx{v:Value}(hr:(execOp (ev ρ) ⟨some d,k,ty,pos,af,none⟩).run P w= .ok (.value v) w)(h:WL P ds n ops Q l (ρ.put d v) w)(hn:Nat.blt d n=true:=by rfl):WL P ds n ops Q (⟨some d,k,ty,pos,af,none⟩::l) ρ w:=PC (.none rfl) rfl hn hr h
theorem Vr(v:Value)(h:WL P ds n ops Q l (ρ.put d v) w)(hr:(execOp (ev ρ) ⟨some d,k,ty,pos,af,none⟩).run P w= .ok (.value v) w:=by rfl)(hn:Nat.blt d n=true:=by rfl):WL P ds n ops Q (⟨some d,k,ty,pos,af,none⟩::l) ρ w:=PC (.none rfl) rfl hn hr h
theorem Vm{x:Operand}(h:WL P ds n ops Q l (ρ.put d (ev ρ x)) w)(hn:Nat.blt d n=true:=by rfl):WL P ds n ops Q (⟨some d,.move x,ty,pos,af,none⟩::l) ρ w:=PC (.none rfl) rfl hn (Run.move rfl) h
theorem Va{x:Operand}(v:Value)(h:WL P ds n ops Q l (ρ.put d v) w)(hv:ev ρ x=v:=by rfl)(hn:Nat.blt d n=true:=by rfl):WL P ds n ops Q (⟨some d,.assign x,ty,pos,af,none⟩::l) ρ w:=PC (.none rfl) rfl hn (Run.assign hv) h
theorem Gx(ht:t=b){v:Value}(hr:(execOp (ev ρ) ⟨some d,k,ty,pos,af,some (j,b)⟩).run P w= .ok (.value v) w)(h:WL P ds n ops Q l (ρ.put d v) w)(hv:gvl ops ρ j=some (.bool t):=by rfl)(hj:gnm ops n j=true:=by rfl)(hn:Nat.blt d n=true:=by rfl):
  WL P ds n ops Q (⟨some d,k,ty,pos,af,some (j,b)⟩::l) ρ w:=PC (.on ht rfl hv hj) rfl hn hr h
theorem Gm(ht:t=b){x:Operand}(h:WL P ds n ops Q l (ρ.put d (ev ρ x)) w)(hv:gvl ops ρ j=some (.bool t):=by rfl)(hj:gnm ops n j=true:=by rfl)(hn:Nat.blt d n=true:=by rfl):
  WL P ds n ops Q (⟨some d,.move x,ty,pos,af,some (j,b)⟩::l) ρ w:=PC (.on ht rfl hv hj) rfl hn (Run.move rfl) h
theorem Gr(ht:t=b)(v:Value)(h:WL P ds n ops Q l (ρ.put d v) w)(hr:(execOp (ev ρ) ⟨some d,k,ty,pos,af,some (j,b)⟩).run P w= .ok (.value v) w:=by rfl)(hv:gvl ops ρ j=some (.bool t):=by rfl)(hj:gnm ops n j=true:=by rfl)(hn:Nat.blt d n=true:=by rfl):
  WL P ds n ops Q (⟨some d,k,ty,pos,af,some (j,b)⟩::l) ρ w:=PC (.on ht rfl hv hj) rfl hn hr h
theorem Pg(ht:t= !b)(h:WL P ds n ops Q l (ρ.put d undef) w)(hv:gvl ops ρ j=some (.bool t):=by rfl)(hj:gnm ops n j=true:=by rfl)(hn:Nat.blt d n=true:=by rfl):WL P ds n ops Q (⟨some d,k,ty,pos,af,some (j,b)⟩::l) ρ w:=X7 (.not ht rfl hv hj) rfl hn h
theorem Po(h:WL P ds n ops Q l (ρ.put d undef) w)(hv:gvl ops ρ j=some undef:=by rfl)(hj:gnm ops n j=true:=by rfl)(hn:Nat.blt d n=true:=by rfl):WL P ds n ops Q (⟨some d,k,ty,pos,af,some (j,b)⟩::l) ρ w:=X7 (.no rfl hv hj) rfl hn h
theorem Ef(h:P9 P ρ ⟨some d,k,ty,pos,af,none⟩ w λv w'=>WL P ds n ops Q l (ρ.put d v) w')(hn:Nat.blt d n=true:=by rfl):WL P ds n ops Q (⟨some d,k,ty,pos,af,none⟩::l) ρ w:=ABg (.none rfl) rfl hn h
theorem Eu(h:Xl P ρ ⟨none,k,ty,pos,af,none⟩ w λw'=>WL P ds n ops Q l ρ w'):WL P ds n ops Q (⟨none,k,ty,pos,af,none⟩::l) ρ w:=AAW (.none rfl) rfl h
theorem Co{args:Array Value}{w':World}{R:Ending->World->Prop}(hr:(execOp (ev ρ) ⟨some d,k,ty,pos,af,none⟩).run P w= .ok (.enter f args) w')(hc:Calls P f args w' R)(h: ∀e w'',R e w''->∃v,e= .returned v/\WL P ds n ops Q l (ρ.put d v) w'')(hn:Nat.blt d n=true:=by rfl):
  WL P ds n ops Q (⟨some d,k,ty,pos,af,none⟩::l) ρ w:=CQ (.none rfl) rfl hn hr (hc.mono h)
theorem Ca{args:Array Value}{w':World}{R:Ending->World->Prop}(hr:(execOp (ev ρ) ⟨some d,k,ty,pos,af,none⟩).run P w= .ok (.enter f args) w')(hc:Calls P f args w' R)(h: ∀e w'',R e w''->Rt (λv=>WL P ds n ops Q l (ρ.put d v) w'') e)(hn:Nat.blt d n=true:=by rfl):
  WL P ds n ops Q (⟨some d,k,ty,pos,af,none⟩::l) ρ w:=Co hr hc (λe w'' he=>Rt.out (h e w'' he)) hn
theorem Sr{c:Code}{id:Nat}(h:WL P ds n l.toArray (PB (WC P ds n c Q) Q) l ρ w):WC P ds n (.seq (.region id l.toArray false) c) Q ρ w:=AT (AM h)
theorem Cn{α:Type}{a a' r:α}{c:Operand}{x y:Code}{t:Bool}(H:(bif t then a else a')=r)(ht:t=true->a=r->WC P ds n x Q ρ w)(hf:t=false->a'=r->WC P ds n y Q ρ w)(hc:ev ρ c= .bool t:=by rfl):WC P ds n (.cond c x y) Q ρ w:=
 OG hc (λh=>ht h (ZF H h)) λh=>hf h (ZG H h)
theorem Bo{α:Type}{a a' r:α}{t:Bool}{p:Prop}(H:(bif t then a else a')=r)(ht:t=true->a=r->p)(hf:t=false->a'=r->p):p:=by
 rcases Bool.eq_false_or_eq_true t with h|h
 ·exact ht h (ZF H h)
 ·exact hf h (ZG H h)
theorem Bi{α β:Type}{x:Option α}{f:α->Option β}{r:β}{G:Prop}(h:x.bind f=some r)(k: ∀a,x=some a->f a=some r->G):G:=let ⟨a,h1,h2⟩:=bnd_sm h;k a h1 h2
end
abbrev Fd:=@Run.fieldAddr
abbrev Fz:=@Run.fieldAddr0
abbrev Ld:=@Run.load1
abbrev Lx:=@Run.loadN
abbrev Ix:=@Run.indexAddr
abbrev Nc:=@Run.nilCheck
abbrev Mv:=@Run.move
abbrev Ll:=@Run.lenSlc
abbrev Bc:=@Bk.cell
abbrev Rf{C:Col}{w:World}:=AU.refl [] C w
theorem Bw{C:Col}{w:World}{k b T:Nat}{cs:List Value}(h:Bk C w k b cs T):Kd.At w b 0 cs:=λ_ _ hj=>h.cell (by simpa using hj)
section
variable{P:Program}{fn:Func}{R:Ending->World->Prop}{ρ:Env}{w:World}
theorem O1(B:Gb){r:ResultVar}{v:Value}(hB:B=M7 P fn R)(h:fn.results=#[r])(h1:RV P ρ w r v)(hR:R (.returned v) w):B .ret ρ w:=Ye hB (TC h h1 hR)
theorem O2(B:Gb){r r':ResultVar}{v v':Value}(hB:B=M7 P fn R)(h:fn.results=#[r,r'])(h1:RV P ρ w r v)(h2:RV P ρ w r' v')(hR:R (.returned (.tuple #[v,v'])) w):B .ret ρ w:=Ye hB (ACp h h1 h2 hR)
end
def callB(P:Program)(f:Nat):Bool:=(P.funcs[f]?).elim false λfn=>fn.body.isSome&& !(fn.name== "runtime.NumGoroutine")
def subB(S S':List Nat):Bool:=S.all λx=>S'.contains x
theorem subB_of{S S':List Nat}(h:subB S S'=true): ∀x∈S,x∈S':=λx hx=>by
 have:=List.all_eq_true.1 h x hx
 simpa using this
theorem not_mem_of{S:List Nat}{k:Nat}(h:S.contains k=false):k∉S:=by simpa using h
section
variable{S S':List Nat}{C C' C'':Col}{w w' w'':World}{b k:Nat}
theorem Mo(S':List Nat)(h:AU S C w C' w')(hs:subB S S'=true:=by rfl):AU S' C w C' w':=h.mono (subB_of hs)
theorem Tn(h:AU S C w C' w')(k:AU S' C' w' C'' w'')(hs:subB S' S=true:=by rfl)(h0:S.contains 0=false:=by rfl):AU S C w C'' w'':=h.trans (k.mono (subB_of hs)) (not_mem_of h0)
def homeB(S S':List Nat):Bool:=S.all λc=>Nat.ble 10 c||S'.contains c
theorem Ho(h:AU S C w C' w')(hC: ∀b,C b<10)(hS:homeB S S'=true:=by rfl):AU S' C w C' w':=h.home hC λc hc hm=>by
 have:=List.all_eq_true.1 hS c hm
 simp only [Bool.or_eq_true,Nat.ble_eq] at this
 rcases this with h|h
 ·omega
 ·simpa using h
theorem Bs{cs:List Value}{T:Nat}(h:Bk C w k b cs T)(s:AU S C w C' w')(hk:S.contains k=false:=by rfl):Bk C' w' k b cs T:=h.step s (not_mem_of hk)
theorem Ss{α:Type}(κ:Kd α){s:Value}{xs:List α}(h:Kd.slcRep κ.size κ.rep C.F w s xs)(st:AU S C w C' w')(h0:S.contains 0=false:=by rfl):Kd.slcRep κ.size κ.rep C'.F w' s xs:=Wy κ h st (not_mem_of h0)
theorem Os{α:Type}{κ:Kd α}{E:Nat}{v:Value}{xs:List α}(h:Own κ E C w k v xs)(st:AU S C w C' w')(h0:S.contains 0=false:=by rfl)(hk:S.contains k=false:=by rfl):Own κ E C' w' k v xs:=h.step st (not_mem_of h0) (not_mem_of hk)
theorem Es{o:Nat}{cs:List Value}(h:Ay C w b o cs)(st:AU S C w C' w')(h0:S.contains 0=false:=by rfl):Ay C' w' b o cs:=h.step st (not_mem_of h0)
theorem On{cs:List Value}(h:cs.all Value.oneCell'=true): ∀v∈cs,v.oneCell'=true:=λv hv=>List.all_eq_true.1 h v hv
theorem Pu{ρ:Env}{l:List (Nat×Value)}(h:ρ.Has l:=by (repeat (refine .cons rfl ?_));exact .nil):ρ=ρ.puts l:=W2 h
theorem St{P:Program}{ρ:Env}{d:Option Nat}{ty T:Nat}{pos:String}{af:Array Edge}{g:Option (Nat×Bool)}{x y:Operand}{o m Tb:Nat}{cs vs cs':List Value}{v:Value}{K:World->Prop}(hT:(P.info? T).map (·.size)=some m)(hb:Bk C w k b cs Tb)(hx:ev ρ x= .pointer (some ⟨b,o,none⟩))(hy:ev ρ y=v)(hv:v.cells=vs.toArray)
  (hs:IX cs o vs=cs') (h: ∀w',Bk C w' k b cs' Tb->AU [k] C w C w'->K w') (hl:vs.length=m:=by rfl) (h1:vs.all Value.oneCell'=true:=by rfl) (hk:Nat.beq k 0=false:=by rfl) (ho:Nat.ble (o+m) cs.length=true:=by rfl):Xl P ρ ⟨d,.store T x y,ty,pos,af,g⟩ w K:=
 Bf hT hx hy hv hl (On h1) hb (λe=>by subst e;cases hk) ho hs h
end
section
variable{P:Program}{ρ:Env}{w:World}{d:Option Nat}{ty T:Nat}{pos:String}{af:Array Edge}{g:Option (Nat×Bool)}
theorem Bp{z:Value}{pl:List Cpl}{ps:List (Nat×Operand)}{cs zs:List Value}{ocs:List (Nat×List Value)}(hz:(P.info? T).map (·.zero)=some (some z))(hp:plc P T=some pl)(hzs:z.cells=zs.toArray)(hl:Yf ρ pl ps ocs)
  (hb:(ocs.all λoc=>Nat.ble (oc.1+oc.2.length) zs.length)=true:=by rfl) (hf:ocs.foldl (λcs oc=>IX cs oc.1 oc.2) zs=cs:=by rfl):(execOp (ev ρ) ⟨d,.build T ps.toArray,ty,pos,af,g⟩).run P w= .ok (.value (.agg cs.toArray)) w:=
 CK zs hz hp hzs hl hb hf
end
section
variable{P:Program}{ds:List Deferred}{n:Nat}{ops:Array Oper}{Q:Gb}{S:World->Prop}{E:List Nat}{r:Tr}{ρ:Env}{w:World}{d ty i j f:Nat}{b t:Bool}{pos:String}{af:Array Edge}{k:Op}
theorem Qx{v:Value}(hP:M9 Q)(ho:ops[i]?=some ⟨some d,k,ty,pos,af,none⟩)(hr: ∀w,S w->(execOp (ev ρ) ⟨some d,k,ty,pos,af,none⟩).run P w= .ok (.value v) w)(h:WX P ds n ops Q S E r (ρ.put d v) w)(hE:E.contains i=false:=by rfl)(hn:Nat.blt d n=true:=by rfl):WX P ds n ops Q S E (.q i r) ρ w:=
 Ww hP ho hE (.none rfl) rfl hn hr h
theorem Qg{v:Value}(hP:M9 Q)(ho:ops[i]?=some ⟨some d,k,ty,pos,af,some (j,b)⟩)(ht:t=b)(hr: ∀w,S w->(execOp (ev ρ) ⟨some d,k,ty,pos,af,some (j,b)⟩).run P w= .ok (.value v) w)(h:WX P ds n ops Q S E r (ρ.put d v) w)(hv:gvl ops ρ j=some (.bool t):=by rfl)(hj:gnm ops n j=true:=by rfl)(hE:E.contains i=false:=by rfl)(hn:Nat.blt d n=true:=by rfl):WX P ds n ops Q S E (.q i r) ρ w:=
 Ww hP ho hE (.on ht rfl hv hj) rfl hn hr h
theorem Qp(hP:M9 Q)(ho:ops[i]?=some ⟨some d,k,ty,pos,af,some (j,b)⟩)(ht:t= !b)(h:WX P ds n ops Q S E r (ρ.put d undef) w)(hv:gvl ops ρ j=some (.bool t):=by rfl)(hj:gnm ops n j=true:=by rfl)(hE:E.contains i=false:=by rfl)(hn:Nat.blt d n=true:=by rfl):WX P ds n ops Q S E (.q i r) ρ w:=
 AAU hP ho hE (.not ht rfl hv hj) rfl hn h
end
abbrev I(x:Int):Value:= .int .i64 x
abbrev Sb(x:List UInt8):Value:= .string (bs x)
abbrev Pt(b o:Nat):Value:= .pointer (some ⟨b,o,none⟩)
abbrev Cx(x:Cpl):Value:= .complex .f64 x.1 x.2
abbrev Fl(x:Nat):Value:= .float .f64 x
abbrev Sl{α:Type}(a:Option Addr)(l:List α)(c:Nat):Value:= .slice a l.length c
abbrev U8(x:UInt8):Value:= .int .u8 (x.toNat:Int)
abbrev Wr(x:Int):Int:=IntKind.i64.wrap x
theorem Pk{ρ:Env}{w:World}{d:Option Nat}{ty:Nat}{pos:String}{af:Array Edge}{g:Option (Nat×Bool)}{P:Program}{c x y:Operand}{t b:Bool}{v:Value}(h:t=b)(hc:ev ρ c= .bool t:=by rfl)(hv:(if b then ev ρ x else ev ρ y)=v:=by rfl):
  (execOp (ev ρ) ⟨d,.pick c x y,ty,pos,af,g⟩).run P w= .ok (.value v) w:=Run.pick (t:=b) (hc.trans (congrArg Value.bool h)) hv
theorem Cb{a b:Bool}(h:a=b):Value.bool a= .bool b:=congrArg Value.bool h
theorem Z{α:Sort _}{a:α}:a=a:=rfl
section
variable{P:Program}{ds:List Deferred}{n:Nat}{ops:Array Oper}{Q:Gb}{l:List Oper}{ρ:Env}{w:World}{d ty j f:Nat}{b t b' t':Bool}{pos:String}{af:Array Edge}{k:Op}
theorem Vp{c x y:Operand}(h:t=b)(hK:WL P ds n ops Q l (ρ.put d (bif b then ev ρ x else ev ρ y)) w)(hc:ev ρ c= .bool t:=by rfl)(hn:Nat.blt d n=true:=by rfl):WL P ds n ops Q (⟨some d,.pick c x y,ty,pos,af,none⟩::l) ρ w:=Vx (Pk h hc (by cases b<;>rfl)) hK hn
theorem Gp{c x y:Operand}(ht:t'=b')(h:t=b)(hK:WL P ds n ops Q l (ρ.put d (bif b then ev ρ x else ev ρ y)) w)(hc:ev ρ c= .bool t:=by rfl)(hv:gvl ops ρ j=some (.bool t'):=by rfl)(hj:gnm ops n j=true:=by rfl)(hn:Nat.blt d n=true:=by rfl):
  WL P ds n ops Q (⟨some d,.pick c x y,ty,pos,af,some (j,b')⟩::l) ρ w:=Gx ht (Pk h hc (by cases b<;>rfl)) hK hv hj hn
end
section
variable{S S1 S2 S3 S4:List Nat}{C C1 C2 C3 C4:Col}{w w1 w2 w3 w4:World}{b k T:Nat}{cs:List Value}
theorem Y2(h:Bk C w k b cs T)(s:AU S1 C w C1 w1)(t:AU S2 C1 w1 C2 w2)(hs:S1.contains k=false:=by rfl)(ht:S2.contains k=false:=by rfl):Bk C2 w2 k b cs T:=Bs (Bs h s hs) t ht
theorem Y3(h:Bk C w k b cs T)(s:AU S1 C w C1 w1)(t:AU S2 C1 w1 C2 w2)(u:AU S3 C2 w2 C3 w3)(hs:S1.contains k=false:=by rfl)(ht:S2.contains k=false:=by rfl)(hu:S3.contains k=false:=by rfl):Bk C3 w3 k b cs T:=Bs (Y2 h s t hs ht) u hu
theorem Y4(h:Bk C w k b cs T)(s:AU S1 C w C1 w1)(t:AU S2 C1 w1 C2 w2)(u:AU S3 C2 w2 C3 w3)(v:AU S4 C3 w3 C4 w4)(hs:S1.contains k=false:=by rfl)(ht:S2.contains k=false:=by rfl)(hu:S3.contains k=false:=by rfl)(hv:S4.contains k=false:=by rfl):Bk C4 w4 k b cs T:=Bs (Y3 h s t u hs ht hu) v hv
theorem T2(h:AU S C w C1 w1)(s:AU S1 C1 w1 C2 w2)(t:AU S2 C2 w2 C3 w3)(hs:subB S1 S=true:=by rfl)(ht:subB S2 S=true:=by rfl)(h0:S.contains 0=false:=by rfl):AU S C w C3 w3:=Tn (Tn h s hs h0) t ht h0
theorem T3{C5:Col}{w5:World}(h:AU S C w C1 w1)(s:AU S1 C1 w1 C2 w2)(t:AU S2 C2 w2 C3 w3)(u:AU S3 C3 w3 C5 w5)(hs:subB S1 S=true:=by rfl)(ht:subB S2 S=true:=by rfl)(hu:subB S3 S=true:=by rfl)(h0:S.contains 0=false:=by rfl):AU S C w C5 w5:=Tn (T2 h s t hs ht h0) u hu h0
theorem T4{C5 C6:Col}{w5 w6:World}(h:AU S C w C1 w1)(s:AU S1 C1 w1 C2 w2)(t:AU S2 C2 w2 C3 w3)(u:AU S3 C3 w3 C5 w5)(v:AU S4 C5 w5 C6 w6)(hs:subB S1 S=true:=by rfl)(ht:subB S2 S=true:=by rfl)(hu:subB S3 S=true:=by rfl)(hv:subB S4 S=true:=by rfl)(h0:S.contains 0=false:=by rfl):AU S C w C6 w6:=Tn (T3 h s t u hs ht hu h0) v hv h0
variable{α:Type}(κ:Kd α){y:Value}{xs:List α}
theorem K2(h:Kd.slcRep κ.size κ.rep C.F w y xs)(s:AU S1 C w C1 w1)(t:AU S2 C1 w1 C2 w2)(hs:S1.contains 0=false:=by rfl)(ht:S2.contains 0=false:=by rfl):Kd.slcRep κ.size κ.rep C2.F w2 y xs:=Ss κ (Ss κ h s hs) t ht
theorem K3(h:Kd.slcRep κ.size κ.rep C.F w y xs)(s:AU S1 C w C1 w1)(t:AU S2 C1 w1 C2 w2)(u:AU S3 C2 w2 C3 w3)(hs:S1.contains 0=false:=by rfl)(ht:S2.contains 0=false:=by rfl)(hu:S3.contains 0=false:=by rfl):Kd.slcRep κ.size κ.rep C3.F w3 y xs:=Ss κ (K2 κ h s t hs ht) u hu
theorem K4(h:Kd.slcRep κ.size κ.rep C.F w y xs)(s:AU S1 C w C1 w1)(t:AU S2 C1 w1 C2 w2)(u:AU S3 C2 w2 C3 w3)(v:AU S4 C3 w3 C4 w4)(hs:S1.contains 0=false:=by rfl)(ht:S2.contains 0=false:=by rfl)(hu:S3.contains 0=false:=by rfl)(hv:S4.contains 0=false:=by rfl):Kd.slcRep κ.size κ.rep C4.F w4 y xs:=Ss κ (K3 κ h s t u hs ht hu) v hv
end
section
variable{S:List Nat}{C C':Col}{w w':World}{b k:Nat}
theorem Ms{m:As}(h:Mp C w k b m)(s:AU S C w C' w')(hk:S.contains k=false:=by rfl):Mp C' w' k b m:=h.step s (not_mem_of hk)
end
theorem Cg{P:Program}{f:Nat}{ρ:Env}{w:World}{d:Option Nat}{ty:Nat}{pos:String}{af:Array Edge}{g:Option (Nat×Bool)}{xs:List Operand}{ts:Array Nat}(vs:List Value)(hv:xs.map (ev ρ)=vs)(h:callB P f=true:=by kernel_rfl):
  (execOp (ev ρ) ⟨d,.call {callee:= .value (.func f),args:=xs.toArray,argTypes:=ts},ty,pos,af,g⟩).run P w= .ok (.enter f vs.toArray) w:=by
 unfold callB at h
 cases hf:P.funcs[f]? with
 |none=>rw [hf] at h;cases h
 |some fn=>
  rw [hf] at h
  simp only [Option.elim_some,Bool.and_eq_true,Bool.not_eq_true'] at h
  obtain ⟨c,hb⟩:=Option.isSome_iff_exists.1 h.1
  exact Run.enter hf hb h.2 hv
def qs(i:Nat):Nat->Tr->Tr
 |0,t=>t
 |n+1,t=> .q i (qs (i+1) n t)
theorem kt(b:Bool)(h:b=true:=by kernel_rfl):b=true:=h
abbrev Ag(l:List Value):Value:= .agg l.toArray
theorem E1{α:Type}{κ:Kd α}{F:Nat->Prop}{w:World}{xs:List α}{cs:List Value}{f:Value->List Value}(h: ∃s,cs=f s/\Slc κ F w s xs): ∃a b,cs=f (.slice a xs.length b)/\Slc κ F w (.slice a xs.length b) xs:=by
 obtain ⟨s,h1,h2⟩:=h
 obtain ⟨a,b,rfl⟩:=AW h2
 exact ⟨a,b,h1,h2⟩
theorem see_none{rs:List Nat}: ∀c,see rs c∈([]:List Nat)->c∈([]:List Nat):=Mw
theorem lk0{A B:Prop}(h:A)(k:A->B:=by
  intro h C w x
  intros
  apply Calls.mono
  ·apply h (recol (see []) C) w (E9 (Nat.le_of_ble_eq_true rfl) C)
   all_goals first|assumption|exact trivial|exact Bd _ (by assumption) _|exact EZ _ (by assumption) _
  ·rintro e w' ⟨C',h'⟩
   refine ⟨glue [] w C C',?_⟩
   revert h'
   repeat' first|exact λh=>h|exact λh=>B8 h Mw|exact λh=>ED _ h|exact λh=>HR _ h|refine Exists.imp λ_=>?_|refine And.imp ?_ ?_):B:=k h
theorem lk1{A B:Prop}(h:A)(k:A->B:=by
  intro h C w a x
  intros
  apply Calls.mono
  ·apply h (recol (see [a]) C) w (E9 (Nat.le_of_ble_eq_true rfl) C)
   all_goals first|assumption|exact trivial|exact Bd _ (by assumption) _|exact EZ _ (by assumption) _|exact BY (by assumption) _ (BU (by assumption) (by assumption) (i:=0) rfl)|exact F2 (by assumption) _ (BU (by assumption) (by assumption) (i:=0) rfl)|exact Io (by assumption) _ (BU (by assumption) (by assumption) (i:=0) rfl)
  ·rintro e w' ⟨C',h'⟩
   refine ⟨glue [a] w C C',?_⟩
   revert h'
   repeat' first|exact λh=>h|exact λh=>B8 h (E4 rfl rfl)|exact λh=>B8 h see_none|exact λh=>EJ (by assumption) h (by decide)|exact λh=>Vq (by assumption) h (by decide)|exact λh=>ED _ h|exact λh=>HR _ h|refine Exists.imp λ_=>?_|refine And.imp ?_ ?_):B:=k h
theorem lk2{A B:Prop}(h:A)(k:A->B:=by
  intro h C w a b x
  intros
  apply Calls.mono
  ·apply h (recol (see [a,b]) C) w (E9 (Nat.le_of_ble_eq_true rfl) C)
   all_goals first|assumption|exact trivial|exact Bd _ (by assumption) _|exact EZ _ (by assumption) _|exact BY (by assumption) _ (BU (by assumption) (by assumption) (i:=0) rfl)|exact F2 (by assumption) _ (BU (by assumption) (by assumption) (i:=0) rfl)|exact Io (by assumption) _ (BU (by assumption) (by assumption) (i:=0) rfl)|exact BY (by assumption) _ (BU (by assumption) (by assumption) (i:=1) rfl)|exact F2 (by assumption) _ (BU (by assumption) (by assumption) (i:=1) rfl)|exact Io (by assumption) _ (BU (by assumption) (by assumption) (i:=1) rfl)
  ·rintro e w' ⟨C',h'⟩
   refine ⟨glue [a,b] w C C',?_⟩
   revert h'
   repeat' first|exact λh=>h|exact λh=>B8 h (E4 rfl rfl)|exact λh=>B8 h see_none|exact λh=>EJ (by assumption) h (by decide)|exact λh=>Vq (by assumption) h (by decide)|exact λh=>ED _ h|exact λh=>HR _ h|refine Exists.imp λ_=>?_|refine And.imp ?_ ?_):B:=k h
section
variable{D L:Nat}{C C':Col}{w w':World}{S:List Nat}{v:Value}{t:Th}{x:Nm}
theorem Me(h:Ge D L C.F w v x)(s:AU S C w C' w')(h0:S.contains 0=false:=by rfl):Ge D L C'.F w' v x:=h.step s (not_mem_of h0)
theorem Mt(h:MTh D L C.F w v t)(s:AU S C w C' w')(h0:S.contains 0=false:=by rfl):MTh D L C'.F w' v t:=h.step s (not_mem_of h0)
theorem Rs(h:RNm C.F w v x)(s:AU S C w C' w')(h0:S.contains 0=false:=by rfl):RNm C'.F w' v x:=h.step s (not_mem_of h0)
end
end Sh
end Fth
namespace Fth
open Go Go.RowKit
def kNv:Kd (AD×Value) where
 size:=4
 rep _ _ cs y:=cs=[.int .i64 (y.1.type_),.complex .f64 (y.1.num).1 (y.1.num).2,.bool (y.1.bool),y.2]/\y.2.oneCell'=true
 len h:=by obtain ⟨rfl,_⟩:=h;rfl
 ones h:=by
  obtain ⟨rfl,h⟩:=h
  intro c hc
  simp only [List.mem_cons,List.not_mem_nil,or_false] at hc
  rcases hc with rfl|rfl|rfl|rfl<;>first|rfl|exact h
 mono h _ _:=h
instance:Kd.NoCx kNv.rep:=⟨λ⟨_,_,_,h⟩=>by have:=kNv.len h;simp [kNv] at this⟩
structure NL(C:Col)(w:World)(j:Nat)(ys:List (AD×Value)):Prop where
 own: ∀y∈ys,Own Kd.cpx 35 C w j y.2 y.1.list
 apart: ∀(i i':Nat) (y y':AD×Value) (b:Nat),ys[i]?=some y->ys[i']?=some y'->y.2.ownBlock=some b->y'.2.ownBlock=some b->i=i'
section
variable{C C':Col}{w w':World}{j k:Nat}{ys:List (AD×Value)}{S:List Nat}
theorem NL.nil:NL C w j []:=⟨λ_ h=>by simp at h,λi _ _ _ _ h=>by simp at h⟩
theorem NL.step(h:NL C w j ys)(st:AU S C w C' w')(h0:0∉S)(hj:j∉S):NL C' w' j ys:=⟨λy hy=>(h.own y hy).step st h0 hj,h.apart⟩
theorem NL.snoc{y:AD×Value}(h:NL C w j ys)(ho:Own Kd.cpx 35 C w j y.2 y.1.list)(hd: ∀z∈ys,∀b,z.2.ownBlock=some b->y.2.ownBlock≠some b):NL C w j (ys++[y]):=by
 refine ⟨λz hz=>?_,λi i' z z' b hi hi' hb hb'=>?_⟩
 ·rcases List.mem_append.1 hz with hz|hz
  ·exact h.own z hz
  ·simp only [List.mem_singleton] at hz;subst hz;exact ho
 ·have L: ∀{n:Nat} {u:AD×Value},(ys++[y])[n]?=some u->(ys[n]?=some u/\u∈ys)∨(n=ys.length/\u=y):=by
   intro n u hn
   rcases Nat.lt_or_ge n ys.length with hl|hl
   ·rw [List.getElem?_append_left hl] at hn;exact .inl ⟨hn,List.mem_of_getElem? hn⟩
   ·rw [List.getElem?_append_right hl] at hn
    have:n - ys.length=0:=by
     have:=(List.getElem?_eq_some_iff.1 hn).1
     simp at this;omega
    rw [this] at hn
    simp only [List.getElem?_cons_zero,Option.some.injEq] at hn
    exact .inr ⟨om,hn.symm⟩
  rcases L hi with ⟨h1,m1⟩| ⟨h1,e1⟩<;>rcases L hi' with ⟨h2,m2⟩| ⟨h2,e2⟩
  ·exact h.apart i i' z z' b h1 h2 hb hb'
  ·subst e2;exact absurd hb' (hd z m1 b hb)
  ·subst e1;exact absurd hb (hd z' m2 b hb')
  ·omega
theorem Own.cols{α:Type}{κ:Kd α}{E k':Nat}{v:Value}{xs:List α}(h:Own κ E C w k v xs)(h0: ∀b,b<w.heap.size->C b=0->C' b=0)(hk: ∀b,b<w.heap.size->C b=k->C' b=k'):Own κ E C' w k' v xs:=by
 have hh:=h.head
 obtain ⟨css,h1,h2,h3,h4,h6,hz⟩:=h
 refine ⟨css,h1,λi x cs hx hc=>κ.mono (h2 i x cs hx hc) (λb hb hF=>h0 b hb hF) (λ_ _ _=>rfl),h3,h4,λb hb=>?_,hz⟩
 rcases hh with ⟨rfl,_⟩| ⟨g,cap,rfl,_,hg,hlt⟩
 ·simp [Value.ownBlock] at hb
 ·simp only [Value.ownBlock,Option.some.injEq] at hb;subst hb
  exact hk g hlt hg
theorem Own.same{v:Value}{xs:List Cpl}(h:Own Kd.cpx 35 C w k v xs)(hs: ∀b,v.ownBlock=some b->w'.heap[b]?=w.heap[b]?):Own Kd.cpx 35 C w' k v xs:=by
 obtain ⟨css,h1,h2,h3,⟨h4,h5⟩,h6,hz⟩:=h
 refine ⟨css,h1,h2,h3,⟨h4,?_⟩,h6,hz⟩
 rcases h5 with h5| ⟨g,cap,cur,hv,hg,hheap,r⟩
 ·exact .inl h5
 ·exact .inr ⟨g,cap,cur,hv,hg,(hs g (by rw [hv];rfl)).trans hheap,r⟩
theorem Own.data{α:Type}{κ:Kd α}{E:Nat}{v:Value}{xs:List α}(h:Own κ E C w 0 v xs):Kd.slcRep κ.size κ.rep C.F w v xs:=by
 have hh:=h.head
 obtain ⟨css,h1,h2,h3,⟨h4,h5⟩,h6,hz⟩:=h
 rcases h5 with ⟨rfl,h5⟩| ⟨g,cap,cur,rfl,hg,hheap,hc,hm,hs,ht⟩
 ·have:xs=[]:=List.eq_nil_of_length_eq_zero h5
  subst this
  exact Ba
 ·refine ⟨_,cap,rfl,hc,λhx h0=>(by cases hz hx h0),?_⟩
  by_cases hx:xs=[]
  ·exact .inl hx
  ·refine .inr ⟨g,0,rfl,h6 g rfl,lt_of_block hheap,λi x hi=>?_⟩
   have hlt:=(List.getElem?_eq_some_iff.1 hi).1
   have hcs:css[i]?=some css[i]:=List.getElem?_eq_getElem om
   refine ⟨css[i],h2 i x _ hi hcs,h3 _ (List.getElem_mem ..),λj c hj=>?_⟩
   have hjl:j<κ.size:=by have:=(List.getElem?_eq_some_iff.1 hj).1;rwa [h3 _ (List.getElem_mem ..)] at this
   have hfl:css.flatten[i*κ.size+j]?=some c:=Own.freeze.flat_get css κ.size h3 i j _ c hcs hj hjl
   rw [<-ht] at hfl
   have hlt2:=(List.getElem?_eq_some_iff.1 hfl).1
   rw [List.length_take] at hlt2
   rw [List.getElem?_take_of_lt om,Array.getElem?_toList] at hfl
   simp [World.cell?,hheap,hfl]
def hide(j:Nat)(C:Col):Col:=λb=>if C b=j then 0 else C b
theorem AU.hide(C:Col)(w:World)(j:Nat):AU [j] C w (hide j C) w:=
 ⟨rfl,rfl,rfl,Nat.le_refl _,λb _=>by
  by_cases h:C b=j
  ·exact .inr ⟨by simp [h],by simp [Fth.hide,h]⟩
  ·exact .inl (by simp [Fth.hide,h]),λ_ _ _=>rfl⟩
theorem NL.hide{v:Value}(h:NL C w j ys)(ho:Own kNv 38 C w k v ys)(hk:k≠j):Own Aq 38 (hide j C) w k v (ys.map Prod.fst):=by
 obtain ⟨css,h1,h2,h3,h4,h6,hz⟩:=ho
 refine ⟨css,by simpa using h1,λi x cs hx hc=>?_,h3,by rw [List.length_map];exact h4,λb hb=>?_,λhx=>absurd hx Kd.NoCx.no⟩
 ·rw [List.getElem?_map] at hx
  obtain ⟨y,hy,rfl⟩:=Option.map_eq_some_iff.1 hx
  obtain ⟨rfl,_⟩:=h2 i y cs hy hc
  exact Ao (x:=y.1) (Own.data ((h.own y (List.mem_of_getElem? hy)).cols (k':=0) (λb _ hb=>by simp [Fth.hide,hb]) (λb _ hb=>by simp [Fth.hide,hb])))
 ·have:=h6 b hb
  simp [Fth.hide,this,hk]
def unhide(j:Nat)(C:Col)(w:World)(C':Col):Col:=λb=>if b<w.heap.size/\C b=j then j else C' b
theorem AU.unhide(h:AU S (Fth.hide j C) w C' w')(h0:0∉S):AU S C w (unhide j C w C') w':=by
 refine ⟨h.os,h.tape,h.output,h.size,λb hb=>?_,λb hb hs=>h.same b hb ?_⟩
 ·by_cases hc:C b=j
  ·exact .inl (by simp [Fth.unhide,hb,hc])
  ·have:=h.col b hb
   simpa [Fth.unhide,Fth.hide,hc] using this
 ·by_cases hc:C b=j
  ·simp [Fth.hide,hc,h0]
  ·simpa [Fth.hide,hc] using hs
def Li(C:Col)(w:World)(k j:Nat)(v:Value)(xs:List AD):Prop:=∃ys:List (AD×Value),ys.map Prod.fst=xs/\Own kNv 38 C w k v ys/\NL C w j ys
section
variable{v:Value}{xs:List AD}
theorem Li.nil:Li C w k j (.slice none 0 0) []:=⟨[],rfl,Own.nil,NL.nil⟩
theorem Li.len(h:Li C w k j v xs): ∃a cap,v= .slice a xs.length cap:=by
 obtain ⟨ys,rfl,ho,_⟩:=h
 obtain ⟨a,cap,rfl⟩:=ho.len
 exact ⟨a,cap,by rw [List.length_map]⟩
theorem Li.step(h:Li C w k j v xs)(st:AU S C w C' w')(h0:0∉S)(hk:k∉S)(hj:j∉S):Li C' w' k j v xs:=
 let ⟨ys,he,ho,hn⟩:=h;⟨ys,he,ho.step st h0 hk,hn.step st h0 hj⟩
theorem Nd(h:Own kNv 38 C w k v ys)(he:ys.map Prod.fst=xs): ∃a cap,v= .slice a xs.length cap:=by
 subst he
 obtain ⟨a,cap,rfl⟩:=h.len
 exact ⟨a,cap,by rw [List.length_map]⟩
theorem Xs{P:Program}{t E b:Nat}(h:Elt P Aq t E b):Elt P kNv t E b:=⟨h.slc,h.row,h.zero,h.pos⟩
theorem ZO{y:AD×Value}{c:Nat}{C0:Col}{w0:World}(st:AU S C0 w0 C w)(hC: ∀b,C0 b<10)(hc:Nat.ble 10 c=true)(hk:Nat.blt k 10=true)(hj:Nat.blt j 10=true)
  (ho:Own kNv 38 C w k v (ys++[y])) (hn:NL C w j ys) (hy:Own Kd.cpx 35 C w c y.2 y.1.list): ∃C',AU S C0 w0 C' w/\Li C' w k j v ((ys++[y]).map Prod.fst):=by
 have hc:=Nat.le_of_ble_eq_true hc
 have hk:k<10:=Nat.le_of_ble_eq_true hk
 have hj:j<10:=Nat.le_of_ble_eq_true hj
 refine ⟨λb=>if C b=c then j else C b,st.of_new λb hb=>?_,ys++[y],rfl,ho.cols (λb _ h=>?_) (λb _ h=>?_),NL.snoc ⟨λz hz=>(hn.own z hz).cols (λb _ h=>?_) (λb _ h=>?_),hn.apart⟩ (hy.cols (λb _ h=>?_) (λb _ h=>?_)) λz hz b hb hb'=>?_⟩
 ·have:C b≠c:=by
   rcases st.col b hb with h| ⟨_,h⟩
   ·have:=hC b;omega
   ·omega
  simp [this]
 ·have:(0:Nat)≠c:=om
  simp [h,this]
 ·have:k≠c:=om
  simp [h,this]
 ·have:(0:Nat)≠c:=om
  simp [h,this]
 ·have:j≠c:=om
  simp [h,this]
 ·have:(0:Nat)≠c:=om
  simp [h,this]
 ·simp [h]
 ·obtain ⟨_,_,_,_,_,h6,_⟩:=hn.own z hz
  obtain ⟨_,_,_,_,_,h7,_⟩:=hy
  have e1:=h6 b hb
  have e2:=h7 b hb'
  omega
theorem Li.glue{rs:List Nat}{C'':Col}{kk jj:Nat}(h:Li C'' w' (k+1) (j+1) v xs)(hi:rs[k]?=some kk)(hi':rs[j]?=some jj)(h8:Nat.ble rs.length 8=true)(st:AU S (recol (see rs) C) w C'' w'):Li (glue rs w C C'') w' kk jj v xs:=
 let ⟨ys,he,ho,hn⟩:=h;⟨ys,he,IV ho hi h8 st,λy hy=>IV (hn.own y hy) hi' h8 st,hn.apart⟩
theorem Yi(C:Col)(n m:Nat): ∃k,m<k/\∀b,b<n->C b<k:=by
 induction n with
 |zero=>exact ⟨m+1,om,λb h=>om⟩
 |succ n ih=>
  obtain ⟨k,h1,h2⟩:=ih
  refine ⟨max k (C n+1),om,λb hb=>?_⟩
  by_cases h:b=n
  ·subst h;omega
  ·have:=h2 b om;omega
theorem Li.plain{C0:Col}{w0:World}(h:Li C w k j v xs)(st:AU [k,j] C0 w0 C w)(hk:k≠j)(hf: ∀b,b<w0.heap.size->C0 b≠j):AU [k] C0 w0 (hide j C) w/\Own Aq 38 (hide j C) w k v xs:=by
 obtain ⟨ys,rfl,ho,hn⟩:=h
 refine ⟨⟨st.os,st.tape,st.output,st.size,λb hb=>?_,λb hb hs=>st.same b hb ?_⟩,hn.hide ho hk⟩
 ·have hj:=hf b hb
  rcases st.col b hb with h| ⟨h1,h2⟩
  ·have:C b≠j:=by rw [h];exact hj
   exact .inl (by simp [Fth.hide,h,hj])
  ·refine .inr ⟨by simpa [hj] using h1,?_⟩
   simp only [Fth.hide];split<;>first|rfl|exact h2
 ·have hj:=hf b hb
  simp only [List.mem_cons,List.not_mem_nil,or_false,not_or] at hs ⊢
  exact ⟨hs,hj⟩
theorem NL.args(h:NL C w j ys)(hv:Kd.slcRep kNv.size kNv.rep C.F w v ys)(he:ys.map Prod.fst=xs):Kd.slcRep Aq.size Aq.rep (Fth.hide j C).F w v xs:=by
 subst he
 obtain ⟨a,cap,rfl,hc,_,hd⟩:=hv
 refine ⟨a,cap,by rw [List.length_map],by rw [List.length_map];exact hc,λhx=>absurd hx Kd.NoCx.no,?_⟩
 rcases hd with rfl| ⟨b,off,rfl,hF,hlt,hd⟩
 ·exact .inl rfl
 ·refine .inr ⟨b,off,rfl,?_,hlt,λi x hx=>?_⟩
  ·show Fth.hide j C b=0
   simp only [Fth.hide];split<;>first|rfl|exact hF
  ·rw [List.getElem?_map] at hx
   obtain ⟨y,hy,rfl⟩:=Option.map_eq_some_iff.1 hx
   obtain ⟨cs,⟨rfl,_⟩,hl,hat⟩:=hd i y hy
   exact ⟨_,Ao (x:=y.1) (Own.data ((h.own y (List.mem_of_getElem? hy)).cols (k':=0) (λb _ hb=>by simp [Fth.hide,hb]) (λb _ hb=>by simp [Fth.hide,hb]))),hl,hat⟩
theorem Yj{xs:List Cpl}(h:Own Kd.cpx 35 C w j v xs):Kd.slcRep Kd.cpx.size Kd.cpx.rep (Fth.hide j C).F w v xs:=
 Own.data (h.cols (k':=0) (λb _ hb=>by simp [Fth.hide,hb]) (λb _ hb=>by simp [Fth.hide,hb]))
theorem AAa{k':Nat}{xs:List Cpl}(h:Own Kd.cpx 35 C w k v xs)(hk: ∀b,b<w.heap.size->C b=k->C' b=k'):Own Kd.cpx 35 C' w k' v xs:=by
 have hh:=h.head
 obtain ⟨css,h1,h2,h3,h4,h6,hz⟩:=h
 refine ⟨css,h1,h2,h3,h4,λb hb=>?_,hz⟩
 rcases hh with ⟨rfl,_⟩| ⟨g,cap,rfl,_,hg,hlt⟩
 ·simp [Value.ownBlock] at hb
 ·simp only [Value.ownBlock,Option.some.injEq] at hb;subst hb
  exact hk g hlt hg
theorem XE{xs:List Cpl}(st:AU S (Fth.hide j C) w C' w')(h:Own Kd.cpx 35 C' w' k v xs)(hk:k≠0)(h0:0∉S): ∃C'',AU S C w C'' w'/\Own Kd.cpx 35 C'' w' k v xs:=by
 refine ⟨Fth.unhide j C w C',st.unhide h0,AAa h λb _ hc=>?_⟩
 by_cases hb:b<w.heap.size/\C b=j
 ·have h1:Fth.hide j C b=0:=by simp [Fth.hide,hb.2]
  rcases st.col b hb.1 with h2| ⟨h2,h3⟩
  ·rw [h1] at h2;rw [h2] at hc;exact absurd hc.symm hk
  ·rw [h3] at hc;exact absurd hc.symm hk
 ·simp [Fth.unhide,hb,hc]
theorem AAb{zs:List (AD×Value)}{lo hi:Int}(h:sub (zs.map Prod.fst) lo hi=some xs): ∃zs',sub zs lo hi=some zs'/\zs'.map Prod.fst=xs:=by
 unfold sub at h ⊢
 rw [List.length_map] at h
 split at h
 ·rename_i hc
  rw [if_pos hc]
  simp only [Option.some.injEq] at h
  exact ⟨_,rfl,by rw [<-h,List.map_take,List.map_drop]⟩
 ·cases h
theorem YB{zs:List (AD×Value)}{i:Int}{x:AD}(h:idx (zs.map Prod.fst) i=some x): ∃y,idx zs i=some y/\y.1=x:=by
 obtain ⟨h0,h1,h2⟩:=MF h
 rw [List.getElem?_map] at h2
 obtain ⟨y,hy,rfl⟩:=Option.map_eq_some_iff.1 h2
 exact ⟨y,by unfold idx;rw [List.length_map] at h1;simp [h0,hy],rfl⟩
theorem AAc{α:Type}{xs zs:List α}{i:Int}{x:α}(h:zs.length=xs.length)(hi:idx xs i=some x): ∃z,idx zs i=some z:=by
 obtain ⟨h0,h1,h2⟩:=MF hi
 have hl:i.toNat<zs.length:=om
 exact ⟨zs[i.toNat],by unfold idx;simp [h0,List.getElem?_eq_getElem hl]⟩
def XF(C:Col)(w:World)(i:Int)(ys:List (AD×Value)):Prop:=∀(n:Nat) (y:AD×Value),ys[n]?=some y->i<=(n:Int)->Own Kd.cpx 35 C w 40 y.2 y.1.list
def spot(g:Nat):Col:=λb=>if b=g then 41 else 0
theorem AAd{xs:List Cpl}(h:Own Kd.cpx 35 C w j v xs): ∃g,(∀b,v.ownBlock=some b->b=g)/\(g<w.heap.size->C g=j/\v.ownBlock=some g)/\Own Kd.cpx 35 (spot g) w 41 v xs:=by
 rcases h.head with ⟨rfl,rfl⟩| ⟨g,cap,hv,_,hg,hlt⟩
 ·exact ⟨w.heap.size,λb hb=>by simp [Value.ownBlock] at hb,λh=>absurd h (Nat.lt_irrefl _),Own.nil⟩
 ·subst hv
  have hb: ∀b,Value.ownBlock (.slice (some ⟨g,0,none⟩) xs.length cap)=some b->b=g:=λb hb=>by simpa [Value.ownBlock,eq_comm] using hb
  obtain ⟨css,h1,h2,h3,h4,h6,hz⟩:=h
  exact ⟨g,hb,λ_=>⟨hg,rfl⟩,css,h1,h2,h3,h4,λb h=>by simp [spot,hb b h],hz⟩
theorem AAe{g:Nat}{w0:World}(st:AU [41] (spot g) w0 (spot g) w)(hg:g<w0.heap.size->C g=j):AU [j] C w0 C w:=
 ⟨st.os,st.tape,st.output,st.size,λ_ _=> .inl rfl,λb hb hn=>st.same b hb (by
  have:b≠g:=λe=>hn (by subst e;simp [hg hb])
  simp [spot,this])⟩
theorem AAf{g:Nat}{w0:World}{xs:List Cpl}(h:Own Kd.cpx 35 C w0 j v xs)(st:AU [41] (spot g) w0 (spot g) w)(hg:v.ownBlock≠some g):Own Kd.cpx 35 C w j v xs:=by
 refine h.same λb hb=>st.same b ?_ ?_
 ·rcases h.head with ⟨rfl,_⟩| ⟨g',cap,rfl,_,_,hlt⟩
  ·simp [Value.ownBlock] at hb
  ·simp only [Value.ownBlock,Option.some.injEq] at hb;subst hb;exact hlt
 ·have:b≠g:=λe=>hg (by rw [hb,e])
  simp [spot,this]
theorem XF.next{g:Nat}{w0:World}{i k':Int}{y:AD×Value}{jj:Nat}{wn:World}{Cn:Col}(hn:NL Cn wn jj ys)(h:XF C w0 i ys)(hi:idx ys i=some y)(hg:g<w0.heap.size->C g=40/\y.2.ownBlock=some g)(st:AU [41] (spot g) w0 (spot g) w)(hk:k'=i+1):XF C w k' ys:=by
 intro n z hz hle
 obtain ⟨h0,_,h2⟩:=MF hi
 have hO:=h n z hz om
 refine AAf hO st λhb=>?_
 have hlt:g<w0.heap.size:=by
  rcases hO.head with ⟨e,_⟩| ⟨g',cap,e,_,_,hlt⟩
  ·rw [e] at hb;simp [Value.ownBlock] at hb
  ·rw [e] at hb;simp only [Value.ownBlock,Option.some.injEq] at hb;subst hb;exact hlt
 have:=hn.apart n i.toNat z y g hz h2 hb (hg hlt).2
 omega
theorem XF.step{i:Int}(h:XF C w i ys)(st:AU S C w C' w')(h0:0∉S)(hj:40∉S):XF C' w' i ys:=λn y hy hi=>(h n y hy hi).step st h0 hj
theorem Yk{xs1:List AD}{i:Int}{y:AD×Value}(hyn:ys.length=xs1.length)(hmx:(([]:List AD).length+xs1.length)*56<=140737488355328)(hy:idx ys i=some y):IntKind.i64.wrap (i+1)=i+1:=by
 obtain ⟨h0,h1,_⟩:=MF hy
 simp only [List.length_nil,Nat.zero_add] at hmx
 simp only [IntKind.wrap,IntKind.signed,IntKind.bits]
 simp
 omega
end
end
end Fth
