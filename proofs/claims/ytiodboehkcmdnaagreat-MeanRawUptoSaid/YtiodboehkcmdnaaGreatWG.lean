/-
  fathomlaw11.MeanRaw, WHERE WHAT IT READS IS OF BULK AT MOST 1048576: for every text, name and line of arguments, for every slice of values of any floats and every number the Go function returns true, and its input reads as it did. No condition beside the statement's own.
-/
import Derived.KernelRfl
import Derived.Laws.FloatBits
import Derived.OpenShut
import Derived.Test.YtiodboehkcmdnaaGreatRows
import Derived.WalkKit
import Derived.ProofKit
import Derived.JoinedCond
import Derived.Lib.SmallJoins
import Derived.Deep.Slices
import Derived.ChangeStays
import Derived.ChangeBook
import Derived.Test.YtiodboehkcmdnaaGreatWF
set_option linter.all false
set_option exponentiation.threshold 3000
namespace Fth
open Go
theorem ACU{α:Type}{P:Nat→α→Prop}{a b:α}:(∀i x,[a,b][i]?=some x→P i x)↔P 0 a∧P 1 b:=by
 constructor
 ·intro h;exact ⟨h 0 a rfl,h 1 b rfl⟩
 ·intro h i x hx
  match i,hx with
  |0,hx=>cases hx;exact h.1
  |1,hx=>cases hx;exact h.2
theorem ACh{α:Type}{P:Nat→α→Prop}{a b c:α}:(∀i x,[a,b,c][i]?=some x→P i x)↔P 0 a∧P 1 b∧P 2 c:=by
 constructor
 ·intro h;exact ⟨h 0 a rfl,h 1 b rfl,h 2 c rfl⟩
 ·intro h i x hx
  match i,hx with
  |0,hx=>cases hx;exact h.1
  |1,hx=>cases hx;exact h.2.1
  |2,hx=>cases hx;exact h.2.2
section
variable{p:AM}
theorem ABK(hlen:p.funcs.length≤50000)(flt:AD):ET (fun N=>Ku N p flt) fun r=>r.2.1=p.funcs∧Pl p r.2.2.2:=by
 have loop: ∀(i:Nat),i≤p.funcs.length→∀(m:Aq),(∀nm,((∀k f,i≤k→p.funcs[k]?=some f→f.name≠nm)∧Cu m nm=0)∨∃(k:Nat) (f:AO),i≤k∧p.funcs[k]?=some f∧f.name=nm∧(∀k' f',i≤k'→k'<k→p.funcs[k']?=some f'→f'.name≠nm)∧Cu m nm=(k:Int)+1)→
   EL (fun _N k=>Ih p k ((i:Int) - 1) m) fun r=>r.2.1=p.funcs∧Pl p r.2.2.2:=by
  intro i
  induction i with
  |zero=>
   intro _ m hm
   refine EL.down ?_
   show EL (fun _N k=>I1 p (Ih p k) (((0:Nat):Int) - 1) m) _
   unfold I1
   refine EL.cond (fun h=>by have:=CR h;omega) fun _=> .some ⟨rfl,fun nm=>?_⟩
   rcases hm nm with ⟨h1,h2⟩| ⟨k,f,_,h2,h3,h4,h5⟩
   ·refine .inl ⟨WK fun h=>?_,h2⟩
    obtain ⟨f,hf,hfn⟩:=List.mem_map.1 h
    obtain ⟨k,hk⟩:=List.mem_iff_getElem?.1 hf
    exact h1 k f (Nat.zero_le _) hk hfn
   ·refine .inr ⟨k,f,h2,Se h2 h3 fun h=>?_,h5⟩
    obtain ⟨g,hg,hgn⟩:=List.mem_map.1 h
    rw [List.mem_take_iff_getElem] at hg
    obtain ⟨q,hq,hqe⟩:=hg
    exact h4 q g (Nat.zero_le _) om (by rw [List.getElem?_eq_getElem om,hqe]) hgn
  |succ i ih=>
   intro hi m hm
   obtain ⟨f,hf⟩: ∃f,p.funcs[i]?=some f:=⟨_,List.getElem?_eq_getElem om⟩
   refine EL.down ?_
   show EL (fun _N k=>I1 p (Ih p k) (((i+1:Nat):Int) - 1) m) _
   unfold I1
   rw [show ((i+1:Nat):Int) - 1=(i:Int) by omega]
   refine EL.cond (fun _=>?_) fun h=>by have:=Dj h;omega
   refine EL.eq (CI hf) ?_
   rw [wr om om,wr om om]
   refine ih om _ fun nm=>?_
   rw [M4]
   cases hn:(nm==f.name)
   ·have hne:nm≠f.name:=by simpa using hn
    rw [cond_false]
    rcases hm nm with ⟨h1,h2⟩| ⟨k,g,h1,h2,h3,h4,h5⟩
    ·refine .inl ⟨fun k g hk hg e=>?_,h2⟩
     rcases Nat.eq_or_lt_of_le hk with rfl|hlt
     ·rw [hf] at hg;cases hg;exact hne e.symm
     ·exact h1 k g hlt hg e
    ·refine .inr ⟨k,g,om,h2,h3,fun k' g' hk1 hk2 hg' e=>?_,h5⟩
     rcases Nat.eq_or_lt_of_le hk1 with rfl|hlt
     ·rw [hf] at hg';cases hg';exact hne e.symm
     ·exact h4 k' g' hlt hk2 hg' e
   ·have hne:nm=f.name:=by simpa using hn
    rw [cond_true]
    exact .inr ⟨i,f,Nat.le_refl _,hf,hne.symm,fun k' g' h1 h2=>om,rfl⟩
 have:=(loop p.funcs.length (Nat.le_refl _) [] fun nm=> .inl ⟨fun k f hk hf=>by have:=(List.getElem?_eq_some_iff.1 hf).1;omega,UG nm⟩).diag
 refine this.cg fun N=>?_
 unfold Ku
 rw [wr om om]
theorem AAA{a:Int}{flt:AD}:T (F3 a flt) fun r=>r.why≠0:=by
 unfold F3 J5
 exact T.cond (fun _=>T.cond (fun _=> .some (show (34:Int)≠0 by decide)) fun h=>by cases h) fun h=>T.cond (fun _=> .some (show (34:Int)≠0 by decide)) fun _=> .some (B1 h)
theorem AAB{e:AE}{t o:Int}{fs:List AO}{env:List AJ}{y a:Int}:T (Cc e t o fs env y a) fun r=>r.1=fs∧r.2.1=env∧(r.2.2.why=0↔y=0∧o=t):=by
 unfold Cc
 refine T.cond (fun h=>T.bind AAA fun r hr=> .some ⟨rfl,rfl,fun h'=>absurd h' hr,fun h'=>absurd h'.2 (MJ h)⟩) fun h=> .some ⟨rfl,rfl,fun h'=>⟨h',KH h⟩,fun h'=>h'.1⟩
def Wn(p:AM)(Γ:List AJ)(flt:AD)(A:Prop)(r:List AO×List AJ×AD):Prop:=r.1=p.funcs∧r.2.1=Γ.reverse∧(r.2.2.why=0↔flt.why=0∧A)
def Wo(p:AM)(Γ:List AJ)(flt:AD)(t:Int)(A:Prop)(r:Int×List AO×List AJ×AD):Prop:=r.2.1=p.funcs∧r.2.2.1=Γ.reverse∧((r.2.2.2.why=0∧r.1=t)↔flt.why=0∧A)
theorem ACV{Γ:List AJ}{e:AE}{fs:List AO}{flt:AD}(hl:Γ.length≤1000000000): ∀(Γ2 Γ1:List AJ),Γ=Γ1++Γ2→∀k,Γ2.length<k→FH fs Γ.reverse flt e k ((Γ2.length:Int) - 1)=some ((RN Γ2 e.name).getD 0,fs,Γ.reverse,flt):=by
 intro Γ2
 induction Γ2 with
 |nil=>
  intro Γ1 h k hk
  obtain ⟨k,rfl⟩: ∃j,k=j+1:=⟨k - 1,by simp at hk;omega⟩
  rfl
 |cons x Γ2 ih=>
  intro Γ1 h k hk
  obtain ⟨k,rfl⟩: ∃j,k=j+1:=⟨k - 1,by simp at hk;omega⟩
  show HR fs Γ.reverse flt e (FH fs Γ.reverse flt e k) (((x::Γ2).length:Int) - 1)=_
  unfold HR
  have hlen:Γ2.length<1000000000:=by rw [h] at hl;simp at hl;omega
  have e1:(((x::Γ2).length:Nat):Int) - 1=(Γ2.length:Int):=by simp
  have hat:Γ.reverse[Γ2.length]?=some x:=by rw [h];exact Z5 _ _ _
  rw [e1,show decide ((Γ2.length:Int)≥0)=true from decide_eq_true om,cond_true,CI hat,Option.bind_some,Option.bind_some,wr om om]
  unfold RN
  rw [List.find?_cons]
  cases hn:(x.name==e.name)
  ·rw [cond_false]
   exact ih (Γ1++[x]) (by rw [h];simp) k (by simp at hk;omega)
  ·rfl
variable(hp:WP p){mp:Aq}(hmp:Pl p mp)
include hp hmp
theorem AAC: ∀(n:Nat) (e:AE),E5 e≤n→n≤10000000→WE e→∀(Γ:List AJ) (t:Int) (flt:AD),TyE Γ→Γ.length+2*n≤1000000000→1≤t∧t≤3→
  ET (fun N=>types_checker_want N p.funcs Γ.reverse mp flt e t) (Wn p Γ flt (WTy p Γ e t)):=by
 intro n
 induction n with
 |zero=>intro e he;have:=M3 e;omega
 |succ n ih=>
  intro e hen hn he Γ t flt hΓ hl ht
  have hal:=NL e.args
  have hes:=PT e
  have hfl:=hp.len
  have mem: ∀{i:Nat} {a:AE},e.args[i]?=some a→WE a∧E5 a≤n:=fun h=>⟨he.sub _ (List.mem_of_getElem? h),by have:=ON (List.mem_of_getElem? h);omega⟩
  have one: ∀{i:Nat} {a:AE},e.args[i]?=some a→∀(Δ:List AJ) (u:Int) (flt:AD),TyE Δ→Δ.length≤Γ.length+2→1≤u∧u≤3→ET (fun N=>types_checker_want N p.funcs Δ.reverse mp flt a u) (Wn p Δ flt (WTy p Δ a u)):=
   fun h Δ u flt h1 h2 h3=>ih _ (mem h).2 om (mem h).1 Δ u flt h1 om h3
  have alls: ∀(l:List AE),(∀a∈l,a∈e.args)→l.length≤e.args.length→∀(u:Int) (flt:AD),1≤u∧u≤3→ET (fun N=>types_checker_all N p.funcs Γ.reverse mp flt u l) (Wn p Γ flt (∀a∈l,WTy p Γ a u)):=by
   intro l hl1 hl2 u flt hu
   refine ET.down ?_
   show ET (fun N=>Dy (AG.at N) mp u l N 0 p.funcs Γ.reverse flt.why flt.at_) _
   have loop: ∀(j i:Nat),i+j=l.length→∀(fs:List AO) (env:List AJ) (f:AD),fs=p.funcs→env=Γ.reverse→EL (fun N k=>Dy (AG.at N) mp u l k (i:Int) fs env f.why f.at_) (Wn p Γ f (∀i' a,i≤i'→l[i']?=some a→WTy p Γ a u)):=by
    intro j
    induction j with
    |zero=>
     intro i hi fs env f hfs henv
     subst hfs;subst henv
     refine EL.down ?_
     show EL (fun N k=>Ew (AG.at N) mp u l (Dy (AG.at N) mp u l k) i p.funcs Γ.reverse f.why f.at_) _
     unfold Ew
     refine EL.cond (fun h=>by have:=CR h;omega) fun _=> .some ⟨rfl,rfl,fun h=>⟨h,fun i' a hi' ha=>by have:=(List.getElem?_eq_some_iff.1 ha).1;omega⟩,fun h=>h.1⟩
    |succ j ihj=>
     intro i hi fs env f hfs henv
     subst hfs;subst henv
     obtain ⟨a,ha⟩: ∃a,l[i]?=some a:=⟨_,List.getElem?_eq_getElem om⟩
     obtain ⟨q,hq⟩:=List.mem_iff_getElem?.1 (hl1 a (List.mem_of_getElem? ha))
     refine EL.down ?_
     show EL (fun N k=>Ew (AG.at N) mp u l (Dy (AG.at N) mp u l k) i p.funcs Γ.reverse f.why f.at_) _
     unfold Ew
     refine EL.cond (fun _=>?_) fun h=>by have:=Dj h;omega
     refine EL.eq (CI ha) (EL.bind (one hq Γ u ⟨f.why,f.at_⟩ hΓ om hu) fun r hr=>?_)
     rw [wr om om,show (i:Int)+1=((i+1:Nat):Int) by omega]
     refine (ihj (i+1) om r.1 r.2.1 r.2.2 hr.1 hr.2.1).mono fun w hw=>⟨hw.1,hw.2.1,hw.2.2.trans ?_⟩
     rw [hr.2.2]
     constructor
     ·rintro ⟨⟨h1,h2⟩,h3⟩
      refine ⟨h1,fun i' b hi' hb=>?_⟩
      rcases Nat.eq_or_lt_of_le hi' with rfl|hlt
      ·rw [ha] at hb;cases hb;exact h2
      ·exact h3 i' b hlt hb
     ·rintro ⟨h1,h2⟩
      exact ⟨⟨h1,h2 i a (Nat.le_refl _) ha⟩,fun i' b hi' hb=>h2 i' b om hb⟩
   refine (loop l.length 0 om p.funcs Γ.reverse flt rfl rfl).diag.mono fun r hr=>⟨hr.1,hr.2.1,hr.2.2.trans ?_⟩
   constructor
   ·rintro ⟨h1,h2⟩
    refine ⟨h1,fun a ha=>?_⟩
    obtain ⟨i,hi⟩:=List.mem_iff_getElem?.1 ha
    exact h2 i a (Nat.zero_le _) hi
   ·rintro ⟨h1,h2⟩
    exact ⟨h1,fun i a _ ha=>h2 a (List.mem_of_getElem? ha)⟩
  have last: ∀(r:List AO×List AJ×AD) (f:AD) (A:Prop),Wn p Γ f A r→(f.why=0↔flt.why=0)→(A↔WTy p Γ e t)→T (Cc e t t r.1 r.2.1 r.2.2.why r.2.2.at_) (Wn p Γ flt (WTy p Γ e t)):=by
   intro r f A hr hf hA
   refine AAB.mono fun w hw=>⟨hw.1.trans hr.1,hw.2.1.trans hr.2.1,hw.2.2.trans ?_⟩
   rw [hr.2.2,hA,hf]
   exact ⟨fun h=>h.1,fun h=>⟨h,rfl⟩⟩
  refine ET.down ?_
  show ET (fun N=>GQ (AG.at N) N p.funcs Γ.reverse mp flt e t) _
  unfold GQ
  have ow:19≤e.op∧e.op≤22→OwT p Γ e t:=fun h=>⟨fun h=>om,fun h=>om,fun h=>om,fun h=>om,fun h=>om,fun h=>om⟩
  have har:=he.ar
  refine ET.cond (fun h=>?_) fun h19=>ET.cond (fun h=>?_) fun h20=>ET.cond (fun h=>?_) fun h21=>ET.cond (fun h=>?_) fun h22=>?_
  ·
   have ho:=CN h
   obtain ⟨a,b,d,ha⟩:=UE (l:=e.args) (by unfold Ar at har;omega)
   have ea:e.args[0]?=some a:=by rw [ha];rfl
   have eb:e.args[1]?=some b:=by rw [ha];rfl
   have ed:e.args[2]?=some d:=by rw [ha];rfl
   have hsub:sub e.args 1 (e.args.length:Int)=some [b,d]:=by rw [ha];rfl
   refine ET.eq (CI (i:=0) ea) (ET.bind (one ea Γ 2 flt hΓ om om) fun r hr=>ET.eq hsub ?_)
   rw [hr.1,hr.2.1]
   refine ET.bind (alls [b,d] (fun x hx=>by rw [ha];simp at hx ⊢;rcases hx with rfl|rfl<;>simp) (by rw [ha];simp) t r.2.2 ht) fun r2 hr2=> .of ?_
   refine last r2 flt (WTy p Γ a 2∧∀x∈[b,d],WTy p Γ x t) ⟨hr2.1,hr2.2.1,by rw [hr2.2.2,hr.2.2];exact and_assoc⟩ Iff.rfl ?_
   have e1: ∀i,Win Γ e i=Γ:=fun i=>by unfold Win;rw [if_neg om,if_neg om]
   have e2: ∀i,Wan p e i t=if i=0 then 2 else t:=fun i=>by unfold Wan;rw [if_neg om,if_neg om,if_neg om,if_pos ho]
   rw [Md (e:=e),ha,ACh,e1,e1,e1,e2,e2,e2]
   simp only [List.mem_cons,List.not_mem_nil,or_false,forall_eq_or_imp,forall_eq]
   exact ⟨fun h=>⟨ow om,h.1,h.2.1,h.2.2⟩,fun h=>⟨h.2.1,h.2.2.1,h.2.2.2⟩⟩
  ·
   have ho:=CN h
   obtain ⟨a,b,d,ha⟩:=UE (l:=e.args) (by unfold Ar at har;omega)
   have ea:e.args[0]?=some a:=by rw [ha];rfl
   have eb:e.args[1]?=some b:=by rw [ha];rfl
   have ed:e.args[2]?=some d:=by rw [ha];rfl
   have e1: ∀i,i≠2→Win Γ e i=Γ:=fun i hi=>by unfold Win;rw [if_neg om,if_neg om]
   have e1':Win Γ e 2=⟨e.tail,3,0⟩::⟨e.name,1,0⟩::Γ:=by unfold Win;rw [if_neg om,if_pos ⟨ho,rfl⟩]
   have e2: ∀i,Wan p e i t=if i=0 then 3 else t:=fun i=>by unfold Wan;rw [if_neg om,if_neg om,if_neg om,if_neg om,if_pos ho]
   have hwin:=WM hΓ he 2
   rw [e1'] at hwin
   refine ET.eq (CI (i:=0) ea) (ET.bind (one ea Γ 3 flt hΓ om om) fun r hr=>ET.eq (CI (i:=1) eb) ?_)
   rw [hr.1,hr.2.1]
   refine ET.bind (one eb Γ t r.2.2 hΓ om ht) fun r2 hr2=>?_
   rw [hr2.1,hr2.2.1]
   refine ET.bind (P:=Wn p Γ r2.2.2 (WTy p (⟨e.tail,3,0⟩::⟨e.name,1,0⟩::Γ) d t)) ?_ fun r3 hr3=> .of ?_
   ·refine ET.down ?_
    show ET (fun N=>HX (AG.at N) N p.funcs Γ.reverse mp r2.2.2 e t [⟨e.name,1,0⟩,⟨e.tail,3,0⟩]) _
    unfold HX
    refine ET.tb (GC (by decide) (by simp;omega)) fun _ _=>?_
    refine ET.bind (P:=Wn p (⟨e.tail,3,0⟩::⟨e.name,1,0⟩::Γ) r2.2.2 (WTy p (⟨e.tail,3,0⟩::⟨e.name,1,0⟩::Γ) d t)) ?_ fun w hw=>?_
    ·refine ET.down ?_
     have hrev:Γ.reverse++[⟨e.name,1,0⟩,⟨e.tail,3,0⟩]=(⟨e.tail,3,0⟩::⟨e.name,1,0⟩::Γ:List AJ).reverse:=by simp
     rw [hrev]
     show ET (fun N=>Fe (AG.at N) N p.funcs (⟨e.tail,3,0⟩::⟨e.name,1,0⟩::Γ:List AJ).reverse mp r2.2.2 e t) _
     unfold Fe
     exact ET.eq (CI (i:=2) ed) (ET.bind (one ed _ t r2.2.2 hwin.1 hwin.2 ht) fun w hw=> .some hw)
    ·refine ET.tb (P:=fun x=>x=Γ.reverse) ?_ fun x hx=> .some ⟨hw.1,hx,hw.2.2⟩
     refine (Nr om om (by rw [hw.2.1];simp;omega)).mono fun x hx=>?_
     rw [hx,hw.2.1];simp
   ·refine last r3 flt (WTy p Γ a 3∧WTy p Γ b t∧WTy p (⟨e.tail,3,0⟩::⟨e.name,1,0⟩::Γ) d t) ⟨hr3.1,hr3.2.1,by rw [hr3.2.2,hr2.2.2,hr.2.2,and_assoc,and_assoc]⟩ Iff.rfl ?_
    rw [Md (e:=e),ha,ACh,e1 0 om,e1 1 om,e1',e2,e2,e2]
    exact ⟨fun h=>⟨ow om,h.1,h.2.1,h.2.2⟩,fun h=>⟨h.2.1,h.2.2.1,h.2.2.2⟩⟩
  ·
   have ho:=CN h
   obtain ⟨a,b,ha⟩:=RO (l:=e.args) (by unfold Ar at har;omega)
   have ea:e.args[0]?=some a:=by rw [ha];rfl
   have eb:e.args[1]?=some b:=by rw [ha];rfl
   have e1: ∀i,Win Γ e i=⟨e.name,e.type_,0⟩::Γ:=fun i=>by unfold Win;rw [if_pos (.inl ho)]
   have e2: ∀i,Wan p e i t=if i=0 then e.type_ else t:=fun i=>by unfold Wan;rw [if_neg om,if_neg om,if_neg om,if_neg om,if_neg om,if_pos om]
   have hwin:=WM hΓ he 0
   rw [e1] at hwin
   have het:=he.typ om
   refine ET.bind (P:=Wn p Γ flt (WTy p (⟨e.name,e.type_,0⟩::Γ) a e.type_∧WTy p (⟨e.name,e.type_,0⟩::Γ) b t)) ?_ fun r3 hr3=> .of ?_
   ·refine ET.down ?_
    show ET (fun N=>GR (AG.at N) N p.funcs Γ.reverse mp flt e t [⟨e.name,e.type_,0⟩]) _
    unfold GR
    refine ET.tb (GC (by decide) (by simp;omega)) fun _ _=>?_
    refine ET.bind (P:=Wn p (⟨e.name,e.type_,0⟩::Γ) flt (WTy p (⟨e.name,e.type_,0⟩::Γ) a e.type_∧WTy p (⟨e.name,e.type_,0⟩::Γ) b t)) ?_ fun w hw=>?_
    ·refine ET.down ?_
     have hrev:Γ.reverse++[⟨e.name,e.type_,0⟩]=(⟨e.name,e.type_,0⟩::Γ:List AJ).reverse:=by simp
     rw [hrev]
     show ET (fun N=>Ff (AG.at N) N p.funcs (⟨e.name,e.type_,0⟩::Γ:List AJ).reverse mp flt e t) _
     unfold Ff
     refine ET.eq (CI (i:=0) ea) (ET.bind (one ea _ e.type_ flt hwin.1 hwin.2 het) fun w hw=>ET.eq (CI (i:=1) eb) ?_)
     rw [hw.1,hw.2.1]
     exact ET.bind (one eb _ t w.2.2 hwin.1 hwin.2 ht) fun w2 hw2=> .some ⟨hw2.1,hw2.2.1,by rw [hw2.2.2,hw.2.2];exact and_assoc⟩
    ·refine ET.tb (P:=fun x=>x=Γ.reverse) ?_ fun x hx=> .some ⟨hw.1,hx,hw.2.2⟩
     refine (Nr om om (by rw [hw.2.1];simp;omega)).mono fun x hx=>?_
     rw [hx,hw.2.1];simp
   ·refine last r3 flt _ hr3 Iff.rfl ?_
    rw [Md (e:=e),ha,ACU,e1,e1,e2,e2]
    exact ⟨fun h=>⟨ow om,h.1,h.2⟩,fun h=>⟨h.2.1,h.2.2⟩⟩
  ·
   have ho:=CN h
   obtain ⟨a,b,ha⟩:=RO (l:=e.args) (by unfold Ar at har;omega)
   have ea:e.args[0]?=some a:=by rw [ha];rfl
   have eb:e.args[1]?=some b:=by rw [ha];rfl
   have e1:Win Γ e 0=Γ:=by unfold Win;rw [if_neg om,if_neg om]
   have e1':Win Γ e 1=⟨e.name,e.type_,0⟩::Γ:=by unfold Win;rw [if_pos (.inr ⟨ho,rfl⟩)]
   have e2: ∀i,Wan p e i t=if i=0 then e.type_ else t:=fun i=>by unfold Wan;rw [if_neg om,if_neg om,if_neg om,if_neg om,if_neg om,if_pos om]
   have hwin:=WM hΓ he 1
   rw [e1'] at hwin
   have het:=he.typ om
   refine ET.eq (CI (i:=0) ea) (ET.bind (one ea Γ e.type_ flt hΓ om het) fun r hr=>?_)
   rw [hr.1,hr.2.1]
   refine ET.bind (P:=Wn p Γ r.2.2 (WTy p (⟨e.name,e.type_,0⟩::Γ) b t)) ?_ fun r3 hr3=> .of ?_
   ·refine ET.down ?_
    show ET (fun N=>GS (AG.at N) N p.funcs Γ.reverse mp r.2.2 e t [⟨e.name,e.type_,0⟩]) _
    unfold GS
    refine ET.tb (GC (by decide) (by simp;omega)) fun _ _=>?_
    refine ET.bind (P:=Wn p (⟨e.name,e.type_,0⟩::Γ) r.2.2 (WTy p (⟨e.name,e.type_,0⟩::Γ) b t)) ?_ fun w hw=>?_
    ·refine ET.down ?_
     have hrev:Γ.reverse++[⟨e.name,e.type_,0⟩]=(⟨e.name,e.type_,0⟩::Γ:List AJ).reverse:=by simp
     rw [hrev]
     show ET (fun N=>Fg (AG.at N) N p.funcs (⟨e.name,e.type_,0⟩::Γ:List AJ).reverse mp r.2.2 e t) _
     unfold Fg
     exact ET.eq (CI (i:=1) eb) (ET.bind (one eb _ t r.2.2 hwin.1 hwin.2 ht) fun w hw=> .some hw)
    ·refine ET.tb (P:=fun x=>x=Γ.reverse) ?_ fun x hx=> .some ⟨hw.1,hx,hw.2.2⟩
     refine (Nr om om (by rw [hw.2.1];simp;omega)).mono fun x hx=>?_
     rw [hx,hw.2.1];simp
   ·refine last r3 flt (WTy p Γ a e.type_∧WTy p (⟨e.name,e.type_,0⟩::Γ) b t) ⟨hr3.1,hr3.2.1,by rw [hr3.2.2,hr.2.2];exact and_assoc⟩ Iff.rfl ?_
    rw [Md (e:=e),ha,ACU,e1,e1',e2,e2]
    exact ⟨fun h=>⟨ow om,h.1,h.2⟩,fun h=>⟨h.2.1,h.2.2⟩⟩
  ·
   have h19:=B1 h19;have h20:=B1 h20;have h21:=B1 h21;have h22:=B1 h22
   have hop:1≤e.op∧e.op≤18:=by unfold Ar at har;omega
   have e1: ∀i,Win Γ e i=Γ:=fun i=>by unfold Win;rw [if_neg om,if_neg om]
   have fin:ET (fun N=>types_checker_own N p.funcs Γ.reverse mp flt e) (Wo p Γ flt t (WTy p Γ e t))→ET (fun N=>((AG.at N).types_checker_own p.funcs Γ.reverse mp flt e).bind fun x2165=>Cc e t x2165.1 x2165.2.1 x2165.2.2.1 x2165.2.2.2.why x2165.2.2.2.at_) (Wn p Γ flt (WTy p Γ e t)):=fun h=>
    ET.bind h fun r hr=> .of (AAB.mono fun w hw=>⟨hw.1.trans hr.1,hw.2.1.trans hr.2.1,hw.2.2.trans hr.2.2⟩)
   refine fin (ET.down ?_)
   show ET (fun N=>HA (AG.at N) N p.funcs Γ.reverse mp flt e) _
   have leaf: ∀(o:Int),e.args=[]→((o=t)↔OwT p Γ e t)→Wo p Γ flt t (WTy p Γ e t) (o,p.funcs,Γ.reverse,flt):=fun o ha ho=>⟨rfl,rfl,by
    rw [Md (e:=e),ha]
    exact ⟨fun h=>⟨h.1,ho.1 h.2,fun i a h=>by simp at h⟩,fun h=>⟨h.1,ho.2 h.2.1⟩⟩⟩
   have nil_of:(1≤e.op∧e.op≤6)→e.args=[]:=fun h=>List.length_eq_zero_iff.1 (by unfold Ar at har;omega)
   unfold HA
   have j1t:(e.op=2∨e.op=3)→ET (fun N=>FI (AG.at N) N p.funcs Γ.reverse mp flt e true) (Wo p Γ flt t (WTy p Γ e t)):=by
    intro ho
    unfold FI
    refine ET.cond (fun _=> .some (leaf 2 (nil_of om) ⟨fun h=>⟨fun h=>om,fun _=>h.symm,fun h=>om,fun h=>om,fun h=>om,fun h=>om⟩,fun h=>(h.b om).symm⟩)) fun h=>by cases h
   refine ET.cond (fun h=>by rw [h];exact j1t (.inl (CN h))) fun h2=>?_
   have h2:=B1 h2
   cases h3:(e.op==3)
   rotate_left
   ·exact j1t (.inr (CN h3))
   have h3:=B1 h3
   unfold FI
   refine ET.cond (fun h=>by cases h) fun _=>ET.cond (fun h=> .some ?_) fun h4=>ET.cond (fun h=> .some ?_) fun h5=>ET.cond (fun h=>?_) fun h6=>ET.cond (fun h=>?_) fun h7=>ET.cond (fun h=>?_) fun h14=>ET.cond (fun h=>?_) fun h18=>?_
   ·have ho:=CN h
    exact leaf 3 (nil_of om) ⟨fun h=>⟨fun h=>om,fun h=>om,fun _=>h.symm,fun h=>om,fun h=>om,fun h=>om⟩,fun h=>(h.l om).symm⟩
   ·have ho:=CN h
    exact leaf e.type_ (nil_of om) ⟨fun h=>⟨fun h=>om,fun h=>om,fun h=>om,fun _=>h.symm,fun h=>om,fun h=>om⟩,fun h=>(h.f ho).symm⟩
   ·have ho:=CN h
    refine Rc (Γ.length+2) ⟨((RN Γ e.name).getD 0,p.funcs,Γ.reverse,flt),leaf _ (nil_of om) ⟨fun h=>⟨fun h=>om,fun h=>om,fun h=>om,fun h=>om,fun _=>?_,fun h=>om⟩,fun h=>?_⟩,fun N hN=>?_⟩
    ·cases hlk:RN Γ e.name with
     |none=>rw [hlk] at h;simp at h;omega
     |some u=>rw [hlk] at h;simp at h;rw [h]
    ·rw [h.v ho];rfl
    ·have:=ACV (e:=e) (fs:=p.funcs) (flt:=flt) (Γ:=Γ) om Γ [] rfl N om
     rw [wr (by simp;omega) (by simp;omega),List.length_reverse]
     exact this
   ·
    have ho:=CN h
    have hwan: ∀f,hd p e.name=some f→∀i x,f.params[i]?=some x→Wan p e i t=x.type_:=fun f hf i x hx=>by
     unfold Wan
     rw [if_neg om,if_neg om,if_pos ho,hf]
     show (match f.params[i]? with |some x=>x.type_|none=>1)=_
     rw [hx]
    refine ET.bind (P:=Wo p Γ flt t (WTy p Γ e t)) ?_ fun r hr=> .some hr
    refine ET.down ?_
    show ET (fun N=>GT (AG.at N) N p.funcs Γ.reverse mp flt e) _
    have bad: ¬WTy p Γ e t→Wo p Γ flt t (WTy p Γ e t) (0,p.funcs,Γ.reverse,flt):=fun h=>⟨rfl,rfl,fun h'=>by have:(0:Int)=t:=h'.2;omega,fun h'=>absurd h'.2 h⟩
    unfold GT
    rcases hmp e.name with ⟨hn0,h0⟩| ⟨i,f,hi,hf,hm⟩
    ·rw [h0]
     refine ET.cond (fun _=>?_) fun h=>by cases h
     unfold Fr
     refine ET.cond (fun _=> .some (bad fun h=>?_)) fun h=>by cases h
     obtain ⟨g,hg,_⟩:=h.own.c ho
     rw [hn0] at hg;cases hg
    ·have hil:=(List.getElem?_eq_some_iff.1 hi).1
     have hfn:=hp.fns f (List.mem_of_find?_eq_some hf)
     have hfp:=hfn.pars
     rw [hm]
     refine ET.cond (fun h=>by have:=CN h;omega) fun _=>?_
     rw [wr (x:=(i:Int)+1 - 1) om om,show (i:Int)+1 - 1=(i:Int) by omega]
     refine ET.eq (CI hi) ?_
     unfold Fr
     refine ET.cond (fun h=> .some (bad fun h'=>?_)) fun h=>?_
     ·obtain ⟨g,hg,hgl,_⟩:=h'.own.c ho
      rw [hf] at hg;cases hg
      exact absurd (congrArg Int.ofNat hgl) (MJ h)
     have hfl:f.params.length=e.args.length:=by have:=KH h;omega
     rw [hm,wr (x:=(i:Int)+1 - 1) om om,show (i:Int)+1 - 1=(i:Int) by omega]
     refine ET.eq (CI hi) ?_
     have loop: ∀(j q:Nat),q+j=f.params.length→∀(fs:List AO) (env:List AJ) (f2:AD),fs=p.funcs→env=Γ.reverse→EL (fun N k=>EB (AG.at N) mp e f k (q:Int) fs env f2.why f2.at_) fun r=>r.1=f.type_∧r.2.1=p.funcs∧r.2.2.1=Γ.reverse∧(r.2.2.2.why=0↔f2.why=0∧∀i' a,q≤i'→e.args[i']?=some a→WTy p Γ a (Wan p e i' t)):=by
      intro j
      induction j with
      |zero=>
       intro q hq fs env f2 hfs henv
       subst hfs;subst henv
       refine EL.down ?_
       show EL (fun N k=>Ea (AG.at N) mp e f (EB (AG.at N) mp e f k) q p.funcs Γ.reverse f2.why f2.at_) _
       unfold Ea
       refine EL.cond (fun h=>by have:=CR h;omega) fun _=>?_
       rw [hm,wr (x:=(i:Int)+1 - 1) om om,show (i:Int)+1 - 1=(i:Int) by omega]
       exact EL.eq (CI hi) (.some ⟨rfl,rfl,rfl,fun h=>⟨h,fun i' a hi' ha=>by have:=(List.getElem?_eq_some_iff.1 ha).1;omega⟩,fun h=>h.1⟩)
      |succ j ihj=>
       intro q hq fs env f2 hfs henv
       subst hfs;subst henv
       obtain ⟨x,hx⟩: ∃x,f.params[q]?=some x:=⟨_,List.getElem?_eq_getElem om⟩
       obtain ⟨a,ha⟩: ∃a,e.args[q]?=some a:=⟨_,List.getElem?_eq_getElem om⟩
       have hxt:=hfn.ptyp x (List.mem_of_getElem? hx)
       refine EL.down ?_
       show EL (fun N k=>Ea (AG.at N) mp e f (EB (AG.at N) mp e f k) q p.funcs Γ.reverse f2.why f2.at_) _
       unfold Ea
       refine EL.cond (fun _=>?_) fun h=>by have:=Dj h;omega
       refine EL.eq (CI hx) (EL.eq (CI ha) (EL.bind (one ha Γ x.type_ ⟨f2.why,f2.at_⟩ hΓ om hxt) fun w hw=>?_))
       rw [wr om om,show (q:Int)+1=((q+1:Nat):Int) by omega]
       refine (ihj (q+1) om w.1 w.2.1 w.2.2 hw.1 hw.2.1).mono fun r hr=>⟨hr.1,hr.2.1,hr.2.2.1,hr.2.2.2.trans ?_⟩
       rw [hw.2.2]
       constructor
       ·rintro ⟨⟨h1,h2⟩,h3⟩
        refine ⟨h1,fun i' b hi' hb=>?_⟩
        rcases Nat.eq_or_lt_of_le hi' with rfl|hlt
        ·rw [ha] at hb;cases hb;rw [hwan f hf q x hx];exact h2
        ·exact h3 i' b hlt hb
       ·rintro ⟨h1,h2⟩
        exact ⟨⟨h1,by have:=h2 q a (Nat.le_refl _) ha;rwa [hwan f hf q x hx] at this⟩,fun i' b hi' hb=>h2 i' b om hb⟩
     refine (loop f.params.length 0 om p.funcs Γ.reverse flt rfl rfl).diag.mono fun r hr=>⟨hr.2.1,hr.2.2.1,?_⟩
     rw [hr.1,hr.2.2.2,Md (e:=e)]
     simp only [e1]
     constructor
     ·rintro ⟨⟨h1,h2⟩,h3⟩
      exact ⟨h1,⟨fun h=>om,fun h=>om,fun h=>om,fun h=>om,fun h=>om,fun _=>⟨f,hf,hfl,h3⟩⟩,fun i a ha=>h2 i a (Nat.zero_le _) ha⟩
     ·rintro ⟨h1,h2,h3⟩
      obtain ⟨g,hg,_,hgt⟩:=h2.c ho
      rw [hf] at hg;cases hg
      exact ⟨⟨h1,fun i a _ ha=>h3 i a ha⟩,hgt⟩
   ·
    have ho:=CN h
    refine ET.bind (alls e.args (fun a h=>h) (Nat.le_refl _) 2 flt om) fun r hr=> .some ⟨hr.1,hr.2.1,?_⟩
    have e2: ∀i,Wan p e i t=2:=fun i=>by unfold Wan;rw [if_pos ho]
    show (r.2.2.why=0∧(2:Int)=t)↔_
    rw [hr.2.2,Md (e:=e)]
    simp only [e1,e2]
    constructor
    ·rintro ⟨⟨h1,h2⟩,h3⟩
     exact ⟨h1,⟨fun h=>om,fun _=>h3.symm,fun h=>om,fun h=>om,fun h=>om,fun h=>om⟩,fun i a ha=>h2 a (List.mem_of_getElem? ha)⟩
    ·rintro ⟨h1,h2,h3⟩
     refine ⟨⟨h1,fun a ha=>?_⟩,(h2.b om).symm⟩
     obtain ⟨i,hi⟩:=List.mem_iff_getElem?.1 ha
     exact h3 i a hi
   ·
    have ho:=CN h
    obtain ⟨a,b,ha⟩:=RO (l:=e.args) (by unfold Ar at har;omega)
    have ea:e.args[0]?=some a:=by rw [ha];rfl
    have eb:e.args[1]?=some b:=by rw [ha];rfl
    have e2:Wan p e 0 t=1:=by unfold Wan;rw [if_neg om,if_neg om,if_neg om,if_neg om,if_neg om,if_neg om]
    have e3:Wan p e 1 t=3:=by unfold Wan;rw [if_neg om,if_pos ⟨ho,rfl⟩]
    refine ET.eq (CI (i:=0) ea) (ET.bind (one ea Γ 1 flt hΓ om om) fun r hr=>ET.eq (CI (i:=1) eb) ?_)
    rw [hr.1,hr.2.1]
    refine ET.bind (one eb Γ 3 r.2.2 hΓ om om) fun r2 hr2=> .some ⟨hr2.1,hr2.2.1,?_⟩
    show (r2.2.2.why=0∧(3:Int)=t)↔_
    rw [hr2.2.2,hr.2.2,Md (e:=e),ha,ACU,e1,e1,e2,e3]
    constructor
    ·rintro ⟨⟨⟨h1,h2⟩,h3⟩,h4⟩
     exact ⟨h1,⟨fun h=>om,fun h=>om,fun _=>h4.symm,fun h=>om,fun h=>om,fun h=>om⟩,h2,h3⟩
    ·rintro ⟨h1,h2,h3,h4⟩
     exact ⟨⟨⟨h1,h3⟩,h4⟩,(h2.l om).symm⟩
   ·
    have h4:=B1 h4;have h5:=B1 h5;have h6:=B1 h6;have h7:=B1 h7;have h14:=B1 h14;have h18:=B1 h18
    have e2: ∀i,Wan p e i t=1:=fun i=>by unfold Wan;rw [if_neg om,if_neg om,if_neg om,if_neg om,if_neg om,if_neg om]
    refine ET.bind (alls e.args (fun a h=>h) (Nat.le_refl _) 1 flt om) fun r hr=>?_
    have out: ∀o:Int,(o=t↔OwT p Γ e t)→Wo p Γ flt t (WTy p Γ e t) (o,r.1,r.2.1,r.2.2):=fun o ho=>⟨hr.1,hr.2.1,by
     show (r.2.2.why=0∧o=t)↔_
     rw [hr.2.2,Md (e:=e),ho]
     simp only [e1,e2]
     constructor
     ·rintro ⟨⟨h1,h2⟩,h3⟩
      exact ⟨h1,h3,fun i a ha=>h2 a (List.mem_of_getElem? ha)⟩
     ·rintro ⟨h1,h2,h3⟩
      refine ⟨⟨h1,fun a ha=>?_⟩,h2⟩
      obtain ⟨i,hi⟩:=List.mem_iff_getElem?.1 ha
      exact h3 i a hi⟩
    have two':(e.op=12∨e.op=13)→ET (fun _N=>Hx r true) (Wo p Γ flt t (WTy p Γ e t)):=fun ho=>
     .some (out 2 ⟨fun h=>⟨fun h=>om,fun _=>h.symm,fun h=>om,fun h=>om,fun h=>om,fun h=>om⟩,fun h=>(h.b om).symm⟩)
    refine ET.cond (fun h=>two' (.inl (CN h))) fun h12=>?_
    have h12:=B1 h12
    cases h13:(e.op==13)
    ·have h13:=B1 h13
     exact .some (out 1 ⟨fun h=>⟨fun _=>h.symm,fun h=>om,fun h=>om,fun h=>om,fun h=>om,fun h=>om⟩,fun h=>(h.n om).symm⟩)
    ·exact two' (.inr (CN h13))
end
theorem ABL{p:AM}(hp:WP p):ET (fun N=>HE N p) fun r=>r.why=0↔UH p:=by
 have hb: ∀f∈p.funcs,E5 f.body≤1000000∧f.params.length≤1000000:=fun f hf=>⟨(hp.fns f hf).size,(hp.fns f hf).pars⟩
 have hlen:=hp.len
 unfold HE
 refine ET.bind (ABF hlen hb) fun r hr=>ET.cond (fun h=> .some ⟨fun h'=>absurd h' (MJ h),fun h'=>hr.2 h'.1⟩) fun h=>?_
 have h:=KH h
 have hsc:=hr.1 h
 refine ET.bind (ABK hlen r) fun o ho=>?_
 have fns: ∀(j i:Nat),i+j=p.funcs.length→∀(f0:AD) (fs:List AO) (env:List AJ),fs=p.funcs→EL (fun N k=>Hy N p o k (i:Int) f0.why f0.at_ fs env) fun r=>r.why=0↔f0.why=0∧∀i' f,i≤i'→p.funcs[i']?=some f→WTy p f.params.reverse f.body f.type_:=by
  intro j
  induction j with
  |zero=>
   intro i hi f0 fs env hfs
   refine EL.down ?_
   show EL (fun N k=>IE N p o (Hy N p o k) i f0.why f0.at_ fs env) _
   unfold IE
   exact EL.cond (fun h=>by have:=CR h;omega) fun _=> .some ⟨fun h=>⟨h,fun i' f hi' hf=>by have:=(List.getElem?_eq_some_iff.1 hf).1;omega⟩,fun h=>h.1⟩
  |succ j ihj=>
   intro i hi f0 fs env hfs
   subst hfs
   obtain ⟨f,hf⟩: ∃f,p.funcs[i]?=some f:=⟨_,List.getElem?_eq_getElem om⟩
   have hfn:=hp.fns f (List.mem_of_getElem? hf)
   have hfs:=hfn.size
   have hfp:=hfn.pars
   refine EL.down ?_
   show EL (fun N k=>IE N p o (Hy N p o k) i f0.why f0.at_ p.funcs env) _
   unfold IE
   refine EL.cond (fun _=>?_) fun h=>by have:=Dj h;omega
   refine EL.eq (CI hf) (EL.tb (GC (by decide) (by simp;omega)) fun _ _=>?_)
   rw [QF,List.nil_append]
   have hΓ:TyE f.params.reverse:=fun x hx=>hfn.ptyp x (List.mem_reverse.1 hx)
   have hw:=AAC hp ho.2 (E5 f.body) f.body (Nat.le_refl _) om hfn.body f.params.reverse f.type_ ⟨f0.why,f0.at_⟩ hΓ (by rw [List.length_reverse];omega) hfn.typ
   rw [List.reverse_reverse] at hw
   refine EL.bind hw fun w hw=>?_
   rw [wr om om,show (i:Int)+1=((i+1:Nat):Int) by omega]
   refine (ihj (i+1) om w.2.2 w.1 w.2.1 hw.1).mono fun r hr=>hr.trans ?_
   rw [hw.2.2]
   constructor
   ·rintro ⟨⟨h1,h2⟩,h3⟩
    refine ⟨h1,fun i' g hi' hg=>?_⟩
    rcases Nat.eq_or_lt_of_le hi' with rfl|hlt
    ·rw [hf] at hg;cases hg;exact h2
    ·exact h3 i' g hlt hg
   ·rintro ⟨h1,h2⟩
    exact ⟨⟨h1,h2 i f (Nat.le_refl _) hf⟩,fun i' g hi' hg=>h2 i' g om hg⟩
 refine (fns p.funcs.length 0 om r o.2.1 o.2.2.1 ho.1).diag.mono fun q hq=>hq.trans ⟨fun h'=>⟨hsc,fun f hf=>?_⟩,fun h'=>⟨h,fun i' f _ hf=>h'.2 f (List.mem_of_getElem? hf)⟩⟩
 obtain ⟨i,hi⟩:=List.mem_iff_getElem?.1 hf
 exact h'.2 i f (Nat.zero_le _) hi
end Fth
namespace Fth
open Go Ieee
theorem ACs{s:Bool}{m k:Nat}:Toward.zero.cut s m k=m / 2^k:=by
 simp only [Toward.cut,Nat.one_shiftLeft,Bool.toNat_false,Nat.add_zero]
 rcases Nat.le_total k (m.log2+2) with h|h
 ·rw [Nat.min_eq_left h]
 ·rw [Nat.min_eq_right h]
  have h1:m<2^(m.log2+2):=Nat.lt_of_lt_of_le Nat.lt_log2_self (Nat.pow_le_pow_right (by decide) om)
  rw [Nat.div_eq_of_lt h1,Nat.div_eq_of_lt (Nat.lt_of_lt_of_le h1 (Nat.pow_le_pow_right (by decide) h))]
theorem Xr{x:Nat}(h:x<2^64):(∃s t,double.read x= .nan s t)∨(∃s,double.read x= .infinity s)∨∃(s:Bool) (m:Nat) (e:Int),double.read x= .number s m e∧
  ((m<2^52∧e= -1074∧x=s.toNat*2^63+m)∨(2^52≤m∧m<2^53∧ -1074≤e∧x=s.toNat*2^63+((e+1074).toNat+1)*2^52+(m - 2^52))):=by
 have e0:double.signWeight=2^63:=by decide
 have e4:double.binade=2^52:=rfl
 have e5:double.infRung=2047*2^52:=by decide
 have e6:double.leastPlace= -1074:=by decide
 simp only [Format.read,e0,e4,e5,e6]
 have hs:x=(x / 2^63 % 2==1).toNat*2^63+x % 2^63:=by
  have:x / 2^63<2:=om
  rcases Nat.lt_or_ge x (2^63) with h1|h1
  ·rw [show x / 2^63=0 by omega];simp;omega
  ·rw [show x / 2^63=1 by omega];simp;omega
 generalize (x / 2^63 % 2==1)=s at*
 generalize hr:x % 2^63=r at*
 have hrl:r<2^63:=om
 by_cases h1:r<2^52
 ·rw [if_pos h1]
  exact .inr (.inr ⟨s,r,-1074,rfl,.inl ⟨h1,rfl,hs⟩⟩)
 ·rw [if_neg h1]
  by_cases h2:r<2047*2^52
  ·rw [if_pos h2]
   refine .inr (.inr ⟨s,_,_,rfl,.inr ⟨om,om,om,?_⟩⟩)
   have hk:((-1074+((r / 2^52 - 1:Nat):Int))+1074).toNat=r / 2^52 - 1:=om
   rw [hk]
   have e1:r / 2^52*2^52+r % 2^52=r:=Nat.div_add_mod' r (2^52)
   have e2:1≤r / 2^52:=by
    rcases Nat.eq_zero_or_pos (r / 2^52) with h0|h0
    ·rw [h0] at e1;have:=Nat.mod_lt r (show 0<2^52 by decide);omega
    ·exact h0
   revert e1 e2
   generalize r / 2^52=a
   generalize r % 2^52=b
   intro e1 e2
   rw [Nat.sub_add_cancel e2,Nat.add_sub_cancel_left,Nat.add_assoc,e1]
   exact hs
  ·rw [if_neg h2]
   by_cases h3:r=2047*2^52
   ·rw [if_pos h3];exact .inr (.inl ⟨s,rfl⟩)
   ·rw [if_neg h3];exact .inl ⟨s,_,rfl⟩
theorem AAD:double.read 4715268809856909312= .number false (2^52) (-28):=by decide
theorem AAE:double.read 13938640846711685120= .number true (2^52) (-28):=by decide
theorem sgn(s:Bool)(m up:Nat):signed s m up=if s then -((m*2^up:Nat):Int) else ((m*2^up:Nat):Int):=by rw [signed,Nat.shiftLeft_eq]
theorem AAF{x:Nat}(h:x<2^64)(h1:fge x 13938640846711685120=true)(h2:fle x 4715268809856909312=true): ∃(s:Bool) (m k:Nat),double.read x= .number s m (-(k:Int))∧m / 2^k≤16777216∧
  ((m<2^52∧k=1074∧x=s.toNat*2^63+m)∨(2^52≤m∧m<2^53∧k≤1074∧x=s.toNat*2^63+(1074 - k+1)*2^52+(m - 2^52))):=by
 have h1':(double.read x).order (.number true (2^52) (-28))=some .gt∨(double.read x).order (.number true (2^52) (-28))=some .eq:=by
  have:=h1
  unfold fge at this
  simpa [Format.order,show FloatKind.f64.format=double from rfl,AAE] using this
 have h2':(double.read x).order (.number false (2^52) (-28))=some .lt∨(double.read x).order (.number false (2^52) (-28))=some .eq:=by
  have:=h2
  unfold fle at this
  simpa [Format.order,show FloatKind.f64.format=double from rfl,AAD] using this
 rcases Xr h with ⟨s,t,hd⟩| ⟨s,hd⟩| ⟨s,m,e,hd,hc⟩
 ·rw [hd] at h1';simp [Datum.order] at h1'
 ·rw [hd] at h1' h2';cases s<;>simp [Datum.order] at h1' h2'
 ·rw [hd] at h1' h2'
  simp only [Datum.order] at h1' h2'
  have g1: ¬signed s m (e - min e (-28)).toNat<signed true (2^52) (-28 - min e (-28)).toNat:=by
   intro hlt
   have:compare (signed s m (e - min e (-28)).toNat) (signed true (2^52) (-28 - min e (-28)).toNat)= .lt:=by rw [Int.compare_eq_lt];exact hlt
   rw [this] at h1';simp at h1'
  have g2: ¬signed false (2^52) (-28 - min e (-28)).toNat<signed s m (e - min e (-28)).toNat:=by
   intro hlt
   have:compare (signed s m (e - min e (-28)).toNat) (signed false (2^52) (-28 - min e (-28)).toNat)= .gt:=by rw [Int.compare_eq_gt];exact hlt
   rw [this] at h2';simp at h2'
  have he:e≤ -28:=by
   rcases hc with ⟨_,he,_⟩| ⟨hm1,hm2,_,_⟩
   ·omega
   ·rcases Int.lt_or_le (-28) e with hlt|hle
    ·exfalso
     rw [Int.min_eq_right om] at g1 g2
     obtain ⟨j,hj⟩: ∃j:Nat,(e - -28).toNat=j+1:=⟨(e - -28).toNat - 1,om⟩
     rw [hj,show (-28 - -28:Int).toNat=0 by decide] at g1 g2
     have hp:0<2^j:=Nat.pow_pos (by decide)
     have hb:2^52<m*2^(j+1):=by
      rw [Nat.pow_succ]
      have:=Nat.mul_le_mul hm1 (show 2≤2^j*2 by omega)
      refine Nat.lt_of_lt_of_le (by decide) this
     rw [sgn,sgn] at g1 g2
     rw [if_pos rfl] at g1
     rw [if_neg (by decide)] at g2
     revert g1 g2 hb
     generalize m*2^(j+1)=y
     intro g2 g1 hb
     cases s
     ·rw [if_neg (by decide)] at g2;omega
     ·rw [if_pos rfl] at g1;omega
    ·exact hle
  obtain ⟨k,rfl⟩: ∃k:Nat,e= -(k:Int):=⟨(-e).toNat,om⟩
  rw [Int.min_eq_left he] at g1 g2
  have ek:(-28 - -(k:Int)).toNat=k - 28:=om
  rw [ek,show (-(k:Int) - -(k:Int)).toNat=0 by omega] at g1 g2
  have hb:m≤2^52*2^(k - 28):=by
   rw [sgn,sgn] at g1 g2
   rw [if_pos rfl] at g1
   rw [if_neg (by decide)] at g2
   rw [Nat.pow_zero,Nat.mul_one] at g1 g2
   revert g1 g2
   generalize 2^52*2^(k - 28)=y
   intro g1 g2
   cases s
   ·rw [if_neg (by decide)] at g2;omega
   ·rw [if_pos rfl] at g1;omega
  refine ⟨s,m,k,hd,?_,?_⟩
  ·refine Nat.div_le_of_le_mul ?_
   refine Nat.le_trans hb (Nat.le_of_eq ?_)
   rw [show (16777216:Nat)=2^24 by decide,←Nat.pow_add,←Nat.pow_add]
   congr 1;omega
  ·rcases hc with ⟨a1,a2,a3⟩| ⟨a1,a2,a3,a4⟩
   ·exact .inl ⟨a1,om,a3⟩
   ·refine .inr ⟨a1,a2,om,?_⟩
    rw [show (-(k:Int)+1074).toNat=1074 - k by omega] at a4
    exact a4
def Kp(s:Bool)(q:Nat):Int:=if s then -(q:Int) else q
theorem AAG(s:Bool)(q:Nat):Wd (.number s q 0) (Kp s q):=by
 refine ⟨s,0,?_,fun h=>?_⟩
 ·have:(Kp s q).natAbs=q:=by unfold Kp;cases s<;>simp
  rw [this];simp
 ·unfold Kp at h ⊢
  cases s
  ·simp
  ·simp at h ⊢;omega
theorem Yn(s:Bool)(q:Nat):(Kp s q).natAbs=q:=by unfold Kp;cases s<;>simp
theorem ABM{a b:Int}:(compare a b= .eq)↔a=b:=Int.compare_eq_eq
theorem Re{s:Bool}{m k:Nat}{c:Datum}(hc:Wd c (Kp s (m / 2^k))):
  ((Datum.number s m (-(k:Int))).order c=some .eq↔m=m / 2^k*2^k)∧(c.order (.number s m (-(k:Int)))=some .eq↔m=m / 2^k*2^k):=by
 obtain ⟨t,j,rfl,ht⟩:=hc
 generalize m / 2^k=q at*
 have key:signed s m (max k j - k)=signed t ((Kp s q).natAbs*2^j) (max k j - j)↔m=q*2^k:=by
  rw [MV ht,show j+(max k j - j)=max k j by omega,sgn]
  have hM:max k j=k+(max k j - k):=om
  generalize max k j - k=u at hM ⊢
  rw [hM]
  have hp:0<2^u:=Nat.pow_pos (by decide)
  have e1:m*2^u=q*2^(k+u)↔m=q*2^k:=by
   rw [Nat.pow_add,←Nat.mul_assoc]
   exact Nat.mul_left_inj (Nat.ne_of_gt hp)
  rw [←e1]
  unfold Kp
  cases s
  ·simp only [Bool.false_eq_true,if_false]
   constructor
   ·intro h;exact_mod_cast h
   ·intro h;exact_mod_cast h
  ·simp only [if_true,Int.neg_mul]
   constructor
   ·intro h;have:=Int.neg_inj.1 h;exact_mod_cast this
   ·intro h;congr 1;exact_mod_cast h
 have b1:min (-(k:Int)) (-(j:Int))= -((max k j:Nat):Int):=om
 have b2:min (-(j:Int)) (-(k:Int))= -((max k j:Nat):Int):=om
 have d1:(-(k:Int) - -((max k j:Nat):Int)).toNat=max k j - k:=om
 have d2:(-(j:Int) - -((max k j:Nat):Int)).toNat=max k j - j:=om
 simp only [Datum.order,b1,b2,d1,d2,Option.some.injEq,ABM]
 exact ⟨key,⟨fun h=>key.1 h.symm,fun h=>(key.2 h).symm⟩⟩
theorem YF{x:Nat}(h:x<2^64): ∃b,Er x=some b∧(∃i,Fn x=some (i,b))∧(b=true→∃n,Gf x n):=by
 cases h1:fge x 13938640846711685120
 ·refine ⟨false,?_,⟨0,?_⟩,fun h=>by cases h⟩
  ·unfold Er;rw [h1];rfl
  ·unfold Fn;rw [h1];rfl
 cases h2:fle x 4715268809856909312
 ·refine ⟨false,?_,⟨0,?_⟩,fun h=>by cases h⟩
  ·unfold Er;rw [h1,h2];rfl
  ·unfold Fn;rw [h1,h2];rfl
 obtain ⟨s,m,k,hd,hq,hc⟩:=AAF h h1 h2
 have hwd:=AAG s (m / 2^k)
 have hnb:(Kp s (m / 2^k)).natAbs=m / 2^k:=Yn s _
 have hn53:(Kp s (m / 2^k)).natAbs<2^53:=by rw [hnb];omega
 have hint:(double.read x).integral .zero= .number s (m / 2^k) 0:=by
  rw [hd]
  simp only [Datum.integral]
  rw [show (-(k:Int)).toNat=0 by omega,Nat.shiftLeft_zero,show (-(-(k:Int))).toNat=k by omega,ACs]
 have hf2i:f2i .i64 x=some (Kp s (m / 2^k)):=by
  unfold f2i
  rw [show FloatKind.f64.decode x=double.read x from rfl]
  unfold Datum.toInt
  rw [hint]
  have e:signed s (m / 2^k) 0=Kp s (m / 2^k):=by rw [sgn,Nat.pow_zero,Nat.mul_one];rfl
  simp only [e]
  rw [if_pos]
  have:(Kp s (m / 2^k)).natAbs≤16777216:=by rw [hnb];exact hq
  show -9223372036854775808≤_∧_≤9223372036854775807
  omega
 have htr:P5 x=some (double.write (.number s (m / 2^k) 0)):=by
  unfold P5
  rw [show FloatKind.f64.decode x=double.read x from rfl]
  rw [hd] at hint ⊢
  simp only [hint]
  rfl
 have ht:=Fz.write hwd hn53
 have hrt:Wd (double.read (double.write (.number s (m / 2^k) 0))) (Kp s (m / 2^k)):=ht.read hn53
 have hrn:Wd (double.read (FloatKind.f64.nearest (Kp s (m / 2^k)))) (Kp s (m / 2^k)):=(MK hn53).wd
 have w1:=(Re hrt).1
 have w2:=(Re hrn).2
 by_cases hw:m=m / 2^k*2^k
 ·
  have hfz:Fz x (Kp s (m / 2^k)):=by
   rcases hc with ⟨c1,c2,c3⟩| ⟨c1,c2,c3,c4⟩
   ·have q0:m / 2^k=0:=Nat.div_eq_of_lt (Nat.lt_of_lt_of_le c1 (by rw [c2];exact Nat.pow_le_pow_right (by decide) (by decide)))
    rw [q0,Nat.zero_mul] at hw
    rw [q0]
    subst hw
    cases s
    ·exact .inl (by rw [c3];decide)
    ·exact .inr ⟨rfl,by rw [c3];decide⟩
   ·generalize m / 2^k=q at*
    have hq0:0<q:=by
     rcases Nat.eq_zero_or_pos q with h0|h0
     ·rw [h0,Nat.zero_mul] at hw;omega
     ·exact h0
    have hql:q<2^53:=om
    have hL:=LO hq0 hql
    have hml:m.log2=q.log2+k:=by rw [hw];exact Ml hq0
    have hm52:m.log2=52:=by rw [Nat.log2_eq_iff om];exact ⟨c1,c2⟩
    have hk:k=52 - q.log2:=om
    have hn0:Kp s q≠0:=by unfold Kp;cases s<;>simp<;>omega
    refine .inl ?_
    rw [KK hn0 hn53,hnb]
    have hs:decide (Kp s q<0)=s:=by unfold Kp;cases s<;>simp<;>omega
    rw [hs,fw,←hk,←hw,c4]
    have e0:double.signWeight=2^63:=by decide
    rw [Format.word,e0]
    have e1:(1074 - k+1)*2^52+(m - 2^52)=(q.log2+1022)*2^52+m:=by
     have:1074 - k+1=q.log2+1022+1:=om
     rw [this,Nat.add_mul (q.log2+1022) 1]
     omega
    rw [Nat.add_assoc,e1]
    cases s<;>simp
  have hb:=hq
  generalize Kp s (m / 2^k)=n at*
  have hlo: -16777216≤n:=om
  have hhi:n≤16777216:=om
  rcases hfz with rfl| ⟨rfl,rfl⟩
  ·refine ⟨true,?_,⟨n,Xl hlo hhi⟩,fun _=>⟨n,rfl,hlo,hhi⟩⟩
   rw [V9 hn53,decide_eq_true ⟨hlo,hhi⟩]
  ·exact ⟨false,by kernel_rfl,⟨0,by kernel_rfl⟩,fun h=>by cases h⟩
 ·have g1:feq x (double.write (.number s (m / 2^k) 0))=false:=by
   unfold feq
   rw [Format.order,show FloatKind.f64.format=double from rfl,hd]
   exact beq_false_of_ne fun e=>hw (w1.1 e)
  have g2:feq (FloatKind.f64.nearest (Kp s (m / 2^k))) x=false:=by
   unfold feq
   rw [Format.order,show FloatKind.f64.format=double from rfl,hd]
   exact beq_false_of_ne fun e=>hw (w2.1 e)
  have hp: ∀c,∃i,Fx x c=some (i,false):=by
   intro c
   cases c
   ·exact ⟨_,by unfold Fx;rw [cond_false,hf2i,Option.bind_some,g2]⟩
   ·exact ⟨_,rfl⟩
  refine ⟨false,?_,?_,fun h=>by cases h⟩
  ·unfold Er IF
   rw [h1,h2,cond_true,cond_true,htr,Option.bind_some,Option.bind_some,g1];rfl
  ·unfold Fn
   rw [h1,h2,cond_true,Bool.not_true,cond_false]
   cases (feq x 0)
   ·exact hp false
   ·exact hp _
def Wz(z:Nat×Nat):Prop:=z.1<2^64∧z.2<2^64
def gk(z:Nat×Nat):Bool:=Bt z==some true
theorem M5{z:Nat×Nat}(h:Wz z):Bt z=some (gk z)∧(∃r,EW z=some (r,gk z))∧(gk z=true→Gn z):=by
 obtain ⟨a,a1,⟨i,a2⟩,a3⟩:=YF h.1
 obtain ⟨b,b1,⟨j,b2⟩,b3⟩:=YF h.2
 have e:Bt z=some (a&&b):=by
  unfold Bt J6
  rw [a1,Option.bind_some]
  cases a
  ·rfl
  ·rw [cond_true,b1];rfl
 have g:gk z=(a&&b):=by unfold gk;rw [e];cases (a&&b)<;>rfl
 rw [g]
 refine ⟨e,?_,fun hab=>?_⟩
 ·unfold EW Mh
  rw [a2,Option.bind_some,b2,Option.bind_some]
  cases a<;>cases b<;>exact ⟨_,rfl⟩
 ·rw [Bool.and_eq_true] at hab
  obtain ⟨n1,h1⟩:=a3 hab.1
  obtain ⟨n2,h2⟩:=b3 hab.2
  exact ⟨n1,n2,h1,h2⟩
theorem ABW{z:Nat×Nat}(h:Gn z):Wz z:=by
 obtain ⟨n,hn,rfl⟩:=(QI z).1 h
 have w: ∀a:Int,FloatKind.f64.nearest a<2^64:=fun a=>by
  have:=Format.nearest_lt double (decide (a<0)) a.natAbs 0
  rw [QH]
  exact this
 exact ⟨w _,w _⟩
end Fth
namespace Fth
open Go
def GA(v:AF):Prop:=Wz v.num∧(∀z∈v.list,Wz z)∧v.list.length≤1000000000000
theorem GV.ga{v:AF}(h:GV v):GA v:=⟨ABW h.1,fun z hz=>ABW (h.2.1 z hz),h.2.2⟩
def kin(v:AF):Bool:=
 bif v.type_==1 then !v.bool&&v.list.isEmpty else bif v.type_==2 then ceq v.num (0,0)&&v.list.isEmpty else bif v.type_==3 then ceq v.num (0,0)&& !v.bool else false
def QM(v:AF):Bool:=(gk v.num&&v.list.all gk)&&kin v
theorem XK{l:List (Nat×Nat)}{i:Nat}{z:Nat×Nat}(h:l[i]?=some z):(l.drop i).all gk=(gk z&&(l.drop (i+1)).all gk):=by
 have hi:=(List.getElem?_eq_some_iff.1 h).1
 rw [List.drop_eq_getElem_cons hi,List.all_cons]
 rw [show l[i]=z from Option.some.inj ((List.getElem?_eq_getElem hi).symm.trans h)]
theorem ABN{v:AF}(h:GA v)(hc:QM v=true):VV v.type_ v:=by
 unfold QM kin at hc
 rw [Bool.and_eq_true,Bool.and_eq_true] at hc
 obtain ⟨⟨h1,h2⟩,h3⟩:=hc
 have hg:=(M5 h.1).2.2 h1
 have hl: ∀z∈v.list,Gn z:=fun z hz=>(M5 (h.2.1 z hz)).2.2 (List.all_eq_true.1 h2 z hz)
 refine (Zp ⟨hg,hl,h.2.2⟩).1 ?_
 rw [ACH hg] at h3
 exact h3
theorem Yo{N:Nat}{v:AF}(h:GA v)(hN:v.list.length+2≤N):Cr N v=some (bif QM v then 0 else 3):=by
 obtain ⟨h1,h2,h3⟩:=h
 have loop: ∀(k:Nat) (b:Bool) (i:Nat),i≤v.list.length→v.list.length<i+k→F4 v k b (i:Int)=some (bif b&&(v.list.drop i).all gk then 0 else 3):=by
  intro k
  induction k with
  |zero=>intro b i _ _;omega
  |succ k ih=>
   intro b i hi hk
   show IG v (F4 v k) b i=_
   unfold IG J7 Dz
   cases hc:decide ((i:Int)< (v.list.length:Int))
   ·have hc:=Dj hc
    rw [cond_false,List.drop_eq_nil_of_le om];cases b<;>rfl
   ·have hc:=CR hc
    obtain ⟨z,hz,hz'⟩:=E7 (xs:=v.list) (i:=(i:Int)) om hc
    rw [cond_true,hz,Option.bind_some,wr om om,show (i:Int)+1=((i+1:Nat):Int) by omega]
    rw [Int.toNat_natCast] at hz'
    have hg:=h2 z (List.mem_of_getElem? hz')
    rw [(M5 hg).1,Option.bind_some,XK hz']
    cases b
    ·exact ih false (i+1) om om
    ·rw [cond_true,ih (gk z) (i+1) om om,Bool.true_and]
 have loop0: ∀b,F4 v N b 0=some (bif b&&v.list.all gk then 0 else 3):=fun b=>by
  have:=loop N b 0 om om
  rw [List.drop_zero] at this
  exact this
 have he:((v.list.length:Int)==0)=v.list.isEmpty:=by cases v.list<;>simp;omega
 unfold Cr Dz I2 QM kin
 rw [(M5 h1).1,Option.bind_some,he]
 cases e1:(v.type_==1)
 ·rw [cond_false,cond_false]
  cases e2:(v.type_==2)
  ·rw [cond_false,cond_false]
   cases e3:(v.type_==3)
   ·rw [cond_false,cond_false,Bool.and_false];rfl
   ·rw [cond_true,cond_true,Option.bind_some]
    cases gk v.num
    ·exact loop0 false
    ·rw [cond_true]
     cases ceq v.num (0,0)
     ·rw [cond_false,loop0 false];simp
     ·rw [cond_true,loop0 (!v.bool)];simp [Bool.and_comm]
  ·rw [cond_true,cond_true,Option.bind_some]
   cases gk v.num
   ·rfl
   ·cases ceq v.num (0,0)
    ·simp
    ·cases hl:v.list with
     |nil=>rfl
     |cons a l=>simp
 ·rw [cond_true,cond_true]
  cases gk v.num
  ·rfl
  ·cases v.bool
   ·cases hl:v.list with
    |nil=>rfl
    |cons a l=>simp
   ·simp
theorem Yp{N:Nat}{v:AF}(h:GA v)(hN:v.list.length+2≤N):B8 N v=some (QM v):=by
 obtain ⟨h1,h2,h3⟩:=h
 have he:((v.list.length:Int)==0)=v.list.isEmpty:=by cases v.list<;>simp;omega
 have loop: ∀(k:Nat) (b:Bool) (i:Nat),i≤v.list.length→v.list.length<i+k→EN v k b (i:Int)=some ((b&&(v.list.drop i).all gk)&&kin v):=by
  intro k
  induction k with
  |zero=>intro b i _ _;omega
  |succ k ih=>
   intro b i hi hk
   show EK v (EN v k) b i=_
   unfold EK Gs Iu Iv Iw
   cases hc:decide ((i:Int)< (v.list.length:Int))
   ·have hc:=Dj hc
    rw [cond_false,he,List.drop_eq_nil_of_le om,List.all_nil,Bool.and_true]
    unfold kin
    cases e1:(v.type_==1)
    ·rw [cond_false,cond_false]
     cases e2:(v.type_==2)
     ·rw [cond_false,cond_false]
      cases e3:(v.type_==3)
      ·cases b<;>rfl
      ·cases b<;>cases ceq v.num (0,0)<;>rfl
     ·cases b<;>cases ceq v.num (0,0)<;>rfl
    ·cases b<;>cases v.bool<;>rfl
   ·have hc:=CR hc
    obtain ⟨z,hz,hz'⟩:=E7 (xs:=v.list) (i:=(i:Int)) om hc
    rw [cond_true,hz,Option.bind_some,wr om om,show (i:Int)+1=((i+1:Nat):Int) by omega]
    rw [Int.toNat_natCast] at hz'
    obtain ⟨r,hr⟩:=(M5 (h2 z (List.mem_of_getElem? hz'))).2.1
    rw [hr,Option.bind_some,XK hz']
    cases b
    ·rw [cond_false,ih false (i+1) om om];rfl
    ·rw [cond_true,ih (gk z) (i+1) om om,Bool.true_and]
 obtain ⟨r,hr⟩:=(M5 h1).2.1
 unfold B8
 rw [hr,Option.bind_some]
 have:=loop N (gk v.num) 0 om om
 rw [List.drop_zero] at this
 exact this
end Fth
namespace Fth
open Go
def gv(v:AF):Th:=if v.type_=3 then v.list.foldr (fun z t=> .done v0 (.done ⟨1,z,false,[]⟩ .nil .nil) t) (.done ⟨3,(0,0),false,[]⟩ .nil .nil) else .done v .nil .nil
theorem XL{v:AF}{N:Nat}(hl:v.list.length≤1000000000)(hN:v.list.length+2≤N):I3 N v=some (gv v)∧H4 N v=some (gv v):=by
 have loop: ∀(l2 l1:List (Nat×Nat)),v.list=l1++l2→∀k,l1.length<k→
   Jj v k (l2.foldr (fun z t=> .done v0 (.done ⟨1,z,false,[]⟩ .nil .nil) t) (.done ⟨3,(0,0),false,[]⟩ .nil .nil)) ((l1.length:Int) - 1)=some (v.list.foldr (fun z t=> .done v0 (.done ⟨1,z,false,[]⟩ .nil .nil) t) (.done ⟨3,(0,0),false,[]⟩ .nil .nil))∧
   JC v k (l2.foldr (fun z t=> .done v0 (.done ⟨1,z,false,[]⟩ .nil .nil) t) (.done ⟨3,(0,0),false,[]⟩ .nil .nil)) ((l1.length:Int) - 1)=some (v.list.foldr (fun z t=> .done v0 (.done ⟨1,z,false,[]⟩ .nil .nil) t) (.done ⟨3,(0,0),false,[]⟩ .nil .nil)):=by
  intro l2 l1
  induction hn:l1.length generalizing l1 l2 with
  |zero=>
   intro h k hk
   obtain ⟨k,rfl⟩: ∃j,k=j+1:=⟨k - 1,om⟩
   have:l1=[]:=List.length_eq_zero_iff.1 hn
   subst this
   rw [h]
   exact ⟨rfl,rfl⟩
  |succ n ih=>
   intro h k hk
   obtain ⟨k,rfl⟩: ∃j,k=j+1:=⟨k - 1,om⟩
   have hne:l1≠[]:=fun e=>by subst e;cases hn
   obtain ⟨l0,z,rfl⟩: ∃l0 z,l1=l0++[z]:=⟨l1.dropLast,l1.getLast hne,(List.dropLast_concat_getLast hne).symm⟩
   have hl0:l0.length=n:=by simp at hn;exact hn
   have hz:v.list[n]?=some z:=by rw [h,List.append_assoc,List.getElem?_append_right om,hl0];simp
   have hnl:n<v.list.length:=(List.getElem?_eq_some_iff.1 hz).1
   have ihh:=ih (z::l2) l0 hl0 (by rw [h];simp) k om
   have e1:((n+1:Nat):Int) - 1=(n:Int):=om
   rw [e1]
   constructor
   ·show Kv v (Jj v k) _ (n:Int)=_
    unfold Kv
    rw [show decide ((n:Int)≥0)=true from decide_eq_true om,cond_true,CI hz,Option.bind_some,wr om om]
    exact ihh.1
   ·show KZ v (JC v k) _ (n:Int)=_
    unfold KZ
    rw [show decide ((n:Int)≥0)=true from decide_eq_true om,cond_true,CI hz,Option.bind_some,wr om om]
    exact ihh.2
 unfold I3 H4 gv
 cases h:(v.type_ != 3)
 ·have h:=KH h
  rw [if_pos h,wr om om]
  have:=loop [] v.list (by simp) N om
  exact this
 ·have h:=MJ h
  rw [if_neg h]
  exact ⟨rfl,rfl⟩
theorem ACW{p:AM}{L:Nat}{v:AF}(h:VV v.type_ v)(hl:v.list.length+1<L):TOK p L v.type_ (gv v):=by
 unfold gv
 rcases Decidable.em (v.type_=3) with h3|h3
 ·rw [if_pos h3]
  have hg: ∀z∈v.list,Gn z:=by
   rcases h with ⟨e,_⟩| ⟨e,_⟩| ⟨_,_,_,_,h⟩
   ·omega
   ·omega
   ·exact h
  rw [h3]
  have key: ∀l:List (Nat×Nat),(∀z∈l,Gn z)→l.length+1<L→TOK p L 3 (l.foldr (fun z t=> .done v0 (.done ⟨1,z,false,[]⟩ .nil .nil) t) (.done ⟨3,(0,0),false,[]⟩ .nil .nil))∧ch (l.foldr (fun z t=> .done v0 (.done ⟨1,z,false,[]⟩ .nil .nil) t) (.done ⟨3,(0,0),false,[]⟩ .nil .nil))=l.length+1:=by
   intro l
   induction l with
   |nil=>intro _ _;exact ⟨.val 3 _ (.inr (.inr ⟨rfl,rfl,rfl,rfl,by simp⟩)) fun _=>rfl,rfl⟩
   |cons z l ih=>
    intro hz hl
    have:=ih (fun w hw=>hz w (List.mem_cons_of_mem _ hw)) (by simp at hl;omega)
    refine ⟨.pair _ _ (.val 1 _ (.inl ⟨rfl,rfl,hz z (List.mem_cons_self ..),rfl,rfl⟩) fun h=>by cases h) this.1 (by rw [this.2];simp at hl;omega),?_⟩
    simp only [List.foldr_cons,ch,this.2,List.length_cons];omega
  exact (key v.list hg hl).1
 ·rw [if_neg h3]
  exact .val _ v h fun e=>absurd e h3
def SU:List AJ→List AF→Nm→Nm
 |x::ps,v::vs,acc=>SU ps vs (.bind x.name (gv v) acc)
 |_,_,acc=>acc
theorem ABO{p:AM}{L:Nat}: ∀(ps:List AJ) (vs:List AF) (Δ:List AJ) (acc:Nm),ps.length=vs.length→EOK p L Δ acc→(∀(i:Nat) (x:AJ) (v:AF),ps[i]?=some x→vs[i]?=some v→v.type_=x.type_∧VV v.type_ v∧v.list.length+1<L)→EOK p L (ps.reverse++Δ) (SU ps vs acc):=by
 intro ps
 induction ps with
 |nil=>intro vs Δ acc h he _;cases vs with
  |nil=>exact he
  |cons=>cases h
 |cons x ps ih=>
  intro vs Δ acc h he ha
  cases vs with
  |nil=>cases h
  |cons v vs=>
   have h0:=ha 0 x v rfl rfl
   have:=ih vs (x::Δ) (.bind x.name (gv v) acc) (by simpa using h) (.bind x Δ _ acc (h0.1▸ACW h0.2.1 h0.2.2) he) fun i y w h1 h2=>ha (i+1) y w h1 h2
   rw [List.reverse_cons,List.append_assoc]
   exact this
def Ux(most:Int):Nat:=(if (16384:Int)< (if most<0 then 0 else most) then 16384 else (if most<0 then 0 else most)).toNat
theorem Sf(most:Int):(if (16384:Int)< (if most<0 then 0 else most) then 16384 else (if most<0 then 0 else most))=(Ux most:Int):=by
 unfold Ux;split<;>split<;>omega
theorem YG(most:Int):Ux most≤16384:=by unfold Ux;split<;>split<;>omega
def YH(f:AO)(args:List AF):Prop:=args.length=f.params.length∧∀(i:Nat) (v:AF) (x:AJ),args[i]?=some v→f.params[i]?=some x→v.type_=x.type_∧QM v=true
def RQ(y:Int):BE:=⟨y,v0,0,0,0,0⟩
def ACt(r:Except Int AF)(c:Nat):BE:=match r with
 | .ok v=>⟨0,v,c,0,0,0⟩
 | .error y=>⟨y,v0,c,0,0,0⟩
inductive VH(p:AM)(nm:List UInt8)(args:List AF)(m:Nat):BE→Prop
 |shape (h: ¬UH p):VH p nm args m (RQ 3)
 |func (h:UH p) (hf:hd p nm=none):VH p nm args m (RQ 32)
 |args {f:AO} (h:UH p) (hf:hd p nm=some f) (ha: ¬YH f args):VH p nm args m (RQ 40)
 |run {f:AO} {r:Except Int AF} {c:Nat} (h:UH p) (hf:hd p nm=some f) (ha:YH f args) (hr:Rn p m f.body (SU f.params args .nil) r c) (hc:c≤m) (hv:Rv m f.type_ r c):VH p nm args m (ACt r c)
def AV(args:List AF):Prop:=(∀v∈args,GA v∧v.list.length≤1048577)∧args.length≤1000000000
theorem LV.av{l:List AF}(h:LV l):AV l:=⟨fun v hv=>⟨((h.1 v hv).1.gv (by have:=(h.1 v hv).2;omega)).ga,by have:=(h.1 v hv).2;omega⟩,by have:=h.2;omega⟩
section
variable{p:AM}{nm:List UInt8}{args:List AF}
theorem ACX(hlen:p.funcs.length≤50000)(hS:FN p): ∀(j i:Nat),i+j=p.funcs.length→∀(m:Aq),(∀s,OV m s=decide (s∈(p.funcs.take i).map (·.name))∧∀k f,k<i→p.funcs[k]?=some f→f.name=s→Cu m s=(k:Int))→
  ∃mp,Mpp p mp∧(∀s,OV mp s=(hd p s).isSome)∧∃n0,∀N k most,n0≤k→Jc N p nm args most k (i:Int) m=(bif !(OV mp nm) then some (RQ 32) else ((idx p.funcs (Cu mp nm)).bind fun x239=>bif ((args.length:Int) != (x239.params.length:Int)) then some (RQ 40) else E4 N p args most mp x239 N Nm.nil 0)):=by
 intro j
 induction j with
 |zero=>
  intro i hi m hm
  have htk:p.funcs.take i=p.funcs:=List.take_of_length_le om
  refine ⟨m,fun s f hf=>?_,fun s=>?_,1,fun N k most hk=>?_⟩
  ·have hfm:=List.mem_of_find?_eq_some hf
   obtain ⟨k,hk⟩:=List.mem_iff_getElem?.1 hfm
   have hfn:f.name=s:=by have:=List.find?_some hf;simpa using this
   have:=(hm s).2 k f (by have:=(List.getElem?_eq_some_iff.1 hk).1;omega) hk hfn
   rw [this]
   exact CI hk
  ·rw [(hm s).1,htk]
   cases hh:hd p s with
   |none=>
    rw [decide_eq_false];rfl
    intro h
    obtain ⟨f,hf,hfn⟩:=List.mem_map.1 h
    unfold hd at hh
    rw [List.find?_eq_none] at hh
    exact hh f hf (by simpa using hfn)
   |some f=>
    rw [decide_eq_true];rfl
    have hfn:f.name=s:=by have:=List.find?_some hh;simpa using this
    exact List.mem_map.2 ⟨f,List.mem_of_find?_eq_some hh,hfn⟩
  ·obtain ⟨k,rfl⟩: ∃j,k=j+1:=⟨k - 1,om⟩
   show Jn N p nm args most (Jc N p nm args most k) i m=_
   unfold Jn
   rw [show decide ((i:Int)< (p.funcs.length:Int))=false from decide_eq_false om,cond_false]
   rfl
 |succ j ihj=>
  intro i hi m hm
  obtain ⟨f,hf⟩: ∃f,p.funcs[i]?=some f:=⟨_,List.getElem?_eq_getElem om⟩
  have htk:(p.funcs.take (i+1)).map (·.name)=(p.funcs.take i).map (·.name)++[f.name]:=by rw [List.take_add_one,hf];simp
  obtain ⟨mp,h1,h2,n0,h3⟩:=ihj (i+1) om (MM f.name i m) fun s=>by
   rw [Yl,M4,htk]
   cases hn:(s==f.name)
   ·have hne:s≠f.name:=by simpa using hn
    rw [cond_false,cond_false]
    refine ⟨?_,fun k g hk hg hgn=>?_⟩
    ·rw [(hm s).1];congr 1;simp [hne]
    ·rcases Nat.eq_or_lt_of_le (Nat.le_of_lt_succ hk) with rfl|hlt
     ·rw [hf] at hg;cases hg;exact absurd hgn.symm hne
     ·exact (hm s).2 k g hlt hg hgn
   ·have hne:s=f.name:=by simpa using hn
    rw [cond_true,cond_true]
    refine ⟨?_,fun k g hk hg hgn=>?_⟩
    ·rw [decide_eq_true];rw [hne];simp
    ·rcases Nat.eq_or_lt_of_le (Nat.le_of_lt_succ hk) with rfl|hlt
     ·rfl
     ·refine absurd (List.mem_map.2 ⟨g,?_,hgn.trans hne⟩) (hS i f hf)
      rw [List.mem_take_iff_getElem]
      obtain ⟨a1,a2⟩:=List.getElem?_eq_some_iff.1 hg
      exact ⟨k,om,a2⟩
  refine ⟨mp,h1,h2,n0+1,fun N k most hk=>?_⟩
  obtain ⟨k,rfl⟩: ∃j,k=j+1:=⟨k - 1,om⟩
  show Jn N p nm args most (Jc N p nm args most k) i m=_
  unfold Jn
  rw [show decide ((i:Int)< (p.funcs.length:Int))=true from decide_eq_true om,cond_true,CI hf,Option.bind_some,wr om om,show (i:Int)+1=((i+1:Nat):Int) by omega]
  exact h3 N k most om
theorem ABP(hA:AV args){f:AO}(hf:f.params.length≤1000000):ET (fun N=>G4 N f args) fun b=>b=true↔YH f args:=by
 unfold G4
 refine ET.cond (fun h=> .some ⟨fun h=>(by cases h),fun h'=>absurd (congrArg Int.ofNat h'.1) (MJ h)⟩) fun h=>?_
 have h:=KH h
 have hlen:args.length=f.params.length:=om
 have loop: ∀(j i:Nat),i+j=args.length→EL (fun N k=>Il N f args k (i:Int)) fun b=>b=true↔∀(i':Nat) (v:AF) (x:AJ),i≤i'→args[i']?=some v→f.params[i']?=some x→v.type_=x.type_∧QM v=true:=by
  intro j
  induction j with
  |zero=>
   intro i hi
   refine EL.down ?_
   show EL (fun N k=>JB N f args (Il N f args k) i) _
   unfold JB
   exact EL.cond (fun h=>by have:=CR h;omega) fun _=> .some ⟨fun _ i' v x hi' hv _=>by have:=(List.getElem?_eq_some_iff.1 hv).1;omega,fun _=>rfl⟩
  |succ j ihj=>
   intro i hi
   obtain ⟨v,hv⟩: ∃v,args[i]?=some v:=⟨_,List.getElem?_eq_getElem om⟩
   obtain ⟨x,hx⟩: ∃x,f.params[i]?=some x:=⟨_,List.getElem?_eq_getElem om⟩
   have hg:=hA.1 v (List.mem_of_getElem? hv)
   refine EL.down ?_
   show EL (fun N k=>JB N f args (Il N f args k) i) _
   unfold JB Lf
   rw [wr om om,show (i:Int)+1=((i+1:Nat):Int) by omega]
   refine EL.cond (fun _=>?_) fun h=>by have:=Dj h;omega
   refine EL.eq (CI hv) (EL.eq (CI hx) (EL.cond (fun h=>?_) fun h=>?_))
   ·exact EL.cond (fun _=> .some ⟨fun h=>(by cases h),fun h'=>absurd (h' i v x (Nat.le_refl _) hv hx).1 (MJ h)⟩) fun h=>by cases h
   ·refine EL.bind (P:=fun b=>b=QM v) (Rc (v.list.length+2) ⟨_,rfl,fun N hN=>Yp hg.1 hN⟩) fun b hb=>?_
    subst hb
    refine EL.cond (fun hc=> .some ⟨fun h=>(by cases h),fun h'=>?_⟩) fun hc=>(ihj (i+1) om).mono fun b hb=>hb.trans ?_
    ·have:=(h' i v x (Nat.le_refl _) hv hx).2;rw [this] at hc;cases hc
    ·constructor
     ·intro h' i' w y hi' hw hy
      rcases Nat.eq_or_lt_of_le hi' with rfl|hlt
      ·rw [hv] at hw;cases hw;rw [hx] at hy;cases hy;exact ⟨KH h,by simpa using hc⟩
      ·exact h' i' w y hlt hw hy
     ·intro h' i' w y hi' hw hy;exact h' i' w y om hw hy
 refine (loop args.length 0 om).diag.mono fun b hb=>hb.trans ⟨fun h=>⟨hlen,fun i v x hv hx=>h i v x (Nat.zero_le _) hv hx⟩,fun h i v x _ hv hx=>h.2 i v x hv hx⟩
theorem ABQ(hp:WP p)(hA:AV args)(most:Int): ∃r,VH p nm args (Ux most) r∧Ev fun N=>GW N p nm args most=some r∧GH N p nm args most=some r:=by
 have hlen:=hp.len
 obtain ⟨ft,hft,et⟩:=ABL hp
 obtain ⟨fr,hfr,er⟩:=Z9 hp
 replace et:Ev fun N=>HE N p=some ft:=et
 replace er:Ev fun N=>HG N p=some fr:=er
 rcases Classical.em (UH p) with hS|hS
 rotate_left
 ·refine ⟨_,.shape hS,(et.and er).mono fun N hN=>⟨?_,?_⟩⟩
  ·unfold GW
   rw [hN.1,Option.bind_some,show (ft.why != 0)=true by simp;exact fun h=>hS (hft.1 h)];rfl
  ·unfold GH
   rw [hN.2,Option.bind_some,show (fr.why != 0)=true by simp;exact fun h=>hS (hfr.1 h)];rfl
 have zt:(ft.why != 0)=false:=by simp;exact hft.2 hS
 have zr:(fr.why != 0)=false:=by simp;exact hfr.2 hS
 obtain ⟨mp,hmpp,hmh,n0,hmap⟩:=ACX (nm:=nm) (args:=args) hlen hS.1.1 p.funcs.length 0 om [] fun s=>⟨by simp;rfl,fun k f hk=>om⟩
 have mean0:Ev fun N=>GW N p nm args most=(bif !(OV mp nm) then some (RQ 32) else ((idx p.funcs (Cu mp nm)).bind fun x239=>bif ((args.length:Int) != (x239.params.length:Int)) then some (RQ 40) else E4 N p args most mp x239 N Nm.nil 0)):=
  (et.and (NK n0)).mono fun N hN=>by
   unfold GW
   rw [hN.1,Option.bind_some,zt,cond_false]
   exact hmap N N most hN.2
 have ref0:Ev fun N=>GH N p nm args most=(bif (!(hdR (hd p nm)).2) then some (RQ 32) else ((G4 N (hdR (hd p nm)).1 args).bind fun x80=>bif (!x80) then some (RQ 40) else (Gi N p args most (hdR (hd p nm)) N Nm.nil 0))):=
  (er.and (NK (p.funcs.length+2))).mono fun N hN=>by
   unfold GH
   rw [hN.1,Option.bind_some,zr,cond_false,Sa om hN.2,Option.bind_some];rfl
 cases hh:hd p nm with
 |none=>
  refine ⟨_,.func hS hh,(mean0.and ref0).mono fun N hN=>⟨?_,?_⟩⟩
  ·rw [hN.1,hmh,hh];rfl
  ·rw [hN.2,hh];rfl
 |some f=>
  have hfm:=List.mem_of_find?_eq_some hh
  have hfn:=hp.fns f hfm
  have hfp:=hfn.pars
  obtain ⟨b,hb,eb⟩:=ABP (f:=f) hA hfp
  replace eb:Ev fun N=>G4 N f args=some b:=eb
  have mean1:Ev fun N=>GW N p nm args most=(bif ((args.length:Int) != (f.params.length:Int)) then some (RQ 40) else E4 N p args most mp f N Nm.nil 0):=mean0.mono fun N hN=>by
   rw [hN,hmh,hh,hmpp nm f hh];rfl
  have ref1:Ev fun N=>GH N p nm args most=(bif (!b) then some (RQ 40) else (Gi N p args most (f,true) N Nm.nil 0)):=(ref0.and eb).mono fun N hN=>by
   rw [hN.1,hh]
   show (bif (!true) then _ else ((G4 N f args).bind fun x80=>_))=_
   rw [hN.2];rfl
  have loopM: ∀(Z:Option BE),args.length=f.params.length→∀(j i:Nat),i+j=args.length→∀(acc:Nm),
    ((∀(i':Nat) (v:AF) (x:AJ),i≤i'→args[i']?=some v→f.params[i']?=some x→v.type_=x.type_∧QM v=true)→
     ∃n1,∀N k,n1≤N→n1≤k→E4 N p args most mp f k acc (i:Int)=F5 N p args most mp f (fun _ _=>Z) (SU (f.params.drop i) (args.drop i) acc) (args.length:Int))∧
    ((¬∀(i':Nat) (v:AF) (x:AJ),i≤i'→args[i']?=some v→f.params[i']?=some x→v.type_=x.type_∧QM v=true)→
     ∃n1,∀N k,n1≤N→n1≤k→E4 N p args most mp f k acc (i:Int)=some (RQ 40)):=by
   intro Z hlen2 j
   induction j with
   |zero=>
    intro i hi acc
    refine ⟨fun _=>⟨1,fun N k _ hk=>?_⟩,fun h=>absurd (fun i' v x hi' hv _=>by have:=(List.getElem?_eq_some_iff.1 hv).1;omega) h⟩
    obtain ⟨k,rfl⟩: ∃j,k=j+1:=⟨k - 1,om⟩
    show F5 N p args most mp f (E4 N p args most mp f k) acc i=_
    have e1:f.params.drop i=[]:=List.drop_eq_nil_of_le om
    have e2:args.drop i=[]:=List.drop_eq_nil_of_le om
    rw [e1,e2]
    unfold F5
    rw [show decide ((i:Int)< (args.length:Int))=false from decide_eq_false om,show decide ((args.length:Int)< (args.length:Int))=false from decide_eq_false om]
    rfl
   |succ j ihj=>
    intro i hi acc
    obtain ⟨v,hv⟩: ∃v,args[i]?=some v:=⟨_,List.getElem?_eq_getElem om⟩
    obtain ⟨x,hx⟩: ∃x,f.params[i]?=some x:=⟨_,List.getElem?_eq_getElem om⟩
    have hg:=hA.1 v (List.mem_of_getElem? hv)
    have step: ∀N k,v.list.length+2≤N→E4 N p args most mp f (k+1) acc (i:Int)=(bif (v.type_==x.type_&&QM v) then E4 N p args most mp f k (.bind x.name (gv v) acc) ((i+1:Nat):Int) else some (RQ 40)):=by
     intro N k hN
     show F5 N p args most mp f (E4 N p args most mp f k) acc i=_
     unfold F5 L8
     rw [show decide ((i:Int)< (args.length:Int))=true from decide_eq_true om,cond_true,CI hv,Option.bind_some,CI hx,Option.bind_some,Yo hg.1 hN,Option.bind_some,(XL (v:=v) (N:=N) (by have:=hg.2;omega) hN).1,wr om om,show (i:Int)+1=((i+1:Nat):Int) by omega,Option.bind_some,Option.bind_some]
     cases h1:(v.type_==x.type_)
     ·rw [show (v.type_ != x.type_)=true by simp only [bne,h1];rfl];rfl
     ·rw [show (v.type_ != x.type_)=false by simp only [bne,h1];rfl]
      cases QM v<;>rfl
    have ihh:=ihj (i+1) om (.bind x.name (gv v) acc)
    have heq:v.type_=x.type_∧QM v=true↔(v.type_==x.type_&&QM v)=true:=by simp
    have henv:SU (f.params.drop i) (args.drop i) acc=SU (f.params.drop (i+1)) (args.drop (i+1)) (.bind x.name (gv v) acc):=by rw [Lt hx,Lt hv];rfl
    constructor
    ·intro h
     have h0:=h i v x (Nat.le_refl _) hv hx
     obtain ⟨n1,hn1⟩:=ihh.1 fun i' w y hi' hw hy=>h i' w y om hw hy
     refine ⟨n1+v.list.length+3,fun N k hN hk=>?_⟩
     obtain ⟨k,rfl⟩: ∃j,k=j+1:=⟨k - 1,om⟩
     rw [step N k om,heq.1 h0,cond_true,hn1 N k om om,henv]
    ·intro h
     cases hc:(v.type_==x.type_&&QM v)
     ·refine ⟨v.list.length+3,fun N k hN hk=>?_⟩
      obtain ⟨k,rfl⟩: ∃j,k=j+1:=⟨k - 1,om⟩
      rw [step N k om,hc];rfl
     ·obtain ⟨n1,hn1⟩:=ihh.2 fun h'=>h fun i' w y hi' hw hy=>by
       rcases Nat.eq_or_lt_of_le hi' with rfl|hlt
       ·rw [hv] at hw;cases hw;rw [hx] at hy;cases hy;exact heq.2 hc
       ·exact h' i' w y hlt hw hy
      refine ⟨n1+v.list.length+3,fun N k hN hk=>?_⟩
      obtain ⟨k,rfl⟩: ∃j,k=j+1:=⟨k - 1,om⟩
      rw [step N k om,hc]
      exact hn1 N k om om
  rcases Classical.em (YH f args) with hF|hF
  ·
   have hEnv:EOK p 1100000 f.params.reverse (SU f.params args .nil):=by
    have:=ABO (p:=p) (L:=1100000) f.params args [] .nil hF.1.symm .nil fun i x v hx hv=>by
     have h1:=hF.2 i v x hv hx
     have h2:=hA.1 v (List.mem_of_getElem? hv)
     exact ⟨h1.1,ABN h2.1 h1.2,om⟩
    rwa [List.append_nil] at this
   obtain ⟨r,c,hr,hc,hv⟩:=ACS hp hS.2 om (Nat.le_refl 1100000) (YG most) hEnv (hS.2 f hfm) hfn.body hfn.typ
   refine ⟨_,.run hS hh hF hr hc hv,?_⟩
   obtain ⟨n1,hn1⟩:=(loopM none hF.1 args.length 0 om .nil).1 fun i v x _ hv hx=>hF.2 i v x hv hx
   have mean2:Ev fun N=>GW N p nm args most=F5 N p args most mp f (fun _ _=>none) (SU f.params args .nil) (args.length:Int):=(mean1.and (NK n1)).mono fun N hN=>by
    rw [hN.1,show ((args.length:Int) != (f.params.length:Int))=false by simp;have:=hF.1;omega,cond_false]
    exact hn1 N N hN.2 hN.2
   have hbt:b=true:=hb.2 hF
   have loopR: ∀(j i:Nat),i+j=args.length→∀(acc:Nm),∃n1,∀N k,n1≤N→n1≤k→Gi N p args most (f,true) k acc (i:Int)=FL N p args most (f,true) (fun _ _=>none) (SU (f.params.drop i) (args.drop i) acc) (args.length:Int):=by
    intro j
    induction j with
    |zero=>
     intro i hi acc
     refine ⟨1,fun N k _ hk=>?_⟩
     obtain ⟨k,rfl⟩: ∃j,k=j+1:=⟨k - 1,om⟩
     show FL N p args most (f,true) (Gi N p args most (f,true) k) acc i=_
     have e1:f.params.drop i=[]:=List.drop_eq_nil_of_le (by have:=hF.1;omega)
     have e2:args.drop i=[]:=List.drop_eq_nil_of_le om
     rw [e1,e2]
     unfold FL
     rw [show decide ((i:Int)< (args.length:Int))=false from decide_eq_false om,show decide ((args.length:Int)< (args.length:Int))=false from decide_eq_false om]
     rfl
    |succ j ihj=>
     intro i hi acc
     obtain ⟨v,hv⟩: ∃v,args[i]?=some v:=⟨_,List.getElem?_eq_getElem om⟩
     obtain ⟨x,hx⟩: ∃x,f.params[i]?=some x:=⟨_,List.getElem?_eq_getElem (by have:=hF.1;omega)⟩
     have hg:=hA.1 v (List.mem_of_getElem? hv)
     obtain ⟨n1,hn1⟩:=ihj (i+1) om (.bind x.name (gv v) acc)
     refine ⟨n1+v.list.length+3,fun N k hN hk=>?_⟩
     obtain ⟨k,rfl⟩: ∃j,k=j+1:=⟨k - 1,om⟩
     show FL N p args most (f,true) (Gi N p args most (f,true) k) acc i=_
     have henv:SU (f.params.drop i) (args.drop i) acc=SU (f.params.drop (i+1)) (args.drop (i+1)) (.bind x.name (gv v) acc):=by rw [Lt hx,Lt hv];rfl
     rw [henv,←hn1 N k om om]
     conv=>lhs;unfold FL
     have hx':idx (f,true).1.params (i:Int)=some x:=CI hx
     have hai:(i:Int)< (args.length:Int):=om
     have hfl:=hF.1
     rw [show decide ((i:Int)< (args.length:Int))=true from decide_eq_true hai,cond_true,hx',Option.bind_some,CI hv,Option.bind_some,(XL (v:=v) (N:=N) (by have:=hg.2;omega) om).2,Option.bind_some,wr om om,show (i:Int)+1=((i+1:Nat):Int) by omega]
   obtain ⟨n2,hn2⟩:=loopR args.length 0 om .nil
   have ref2:Ev fun N=>GH N p nm args most=FL N p args most (f,true) (fun _ _=>none) (SU f.params args .nil) (args.length:Int):=(ref1.and (NK n2)).mono fun N hN=>by
    rw [hN.1,hbt]
    exact hn2 N N hN.2 hN.2
   have hm:=YG most
   have dl:decide ((args.length:Int)< (args.length:Int))=false:=decide_eq_false om
   cases hr with
   |err h=>
    rename_i y
    have hy:=PY h y rfl
    refine (((mean2.and ref2).and (WJ hp hmpp hm h)).and ((Xq hp hm h).and (NK 1))).mono fun N hN=>⟨?_,?_⟩
    ·rw [hN.1.1.1]
     unfold F5
     rw [dl,cond_false,QF,Sf]
     have:=hN.1.2
     rw [show ((0:Nat):Int)=0 from rfl] at this
     rw [this];rfl
    ·rw [hN.1.1.2]
     unfold FL
     rw [dl,cond_false,QF,Sf]
     have:=hN.2.1
     rw [show ((0:Nat):Int)=0 from rfl] at this
     rw [this]
     obtain ⟨M,hM⟩: ∃M,N=M+1:=⟨N - 1,by have:=hN.2.2;omega⟩
     subst hM
     show ((CQ (M+1) ⟨p,Ux most,c,y⟩ th0).bind fun x312=>_)=_
     unfold CQ Ec
     rw [show ((AU.mk p (Ux most) c y).why==0)=false by simpa using hy,cond_false,cond_false]
     show ((C7 (M+1) (Bq (M+1) M) th0 p.funcs (Ux most) c y []).bind fun x312=>_)=_
     unfold C7
     rw [show (y==0)=false by simpa using hy]
     show (bif (y != 0) then _ else _)=_
     rw [show (y != 0)=true by simpa using hy];rfl
   |val h h2=>
    rename_i x c1
    refine (((mean2.and ref2).and ((WJ hp hmpp hm h).and (ABB hp hmpp hm h2))).and ((Xq hp hm h).and (ACQ hp hm h2))).mono fun N hN=>⟨?_,?_⟩
    ·rw [hN.1.1.1]
     unfold F5
     rw [dl,cond_false,QF,Sf]
     have:=hN.1.2.1
     rw [show ((0:Nat):Int)=0 from rfl] at this
     rw [this]
     show ((ER N p.funcs c1 (Ux most) mp x).bind fun x757=>_)=_
     rw [hN.1.2.2]
     cases r<;>rfl
    ·rw [hN.1.1.2]
     unfold FL
     rw [dl,cond_false,QF,Sf]
     have:=hN.2.1
     rw [show ((0:Nat):Int)=0 from rfl] at this
     rw [this]
     obtain ⟨v,hv1,hv2⟩:=hN.2.2
     show ((CQ N ⟨p,Ux most,c1,0⟩ (.done x.plain x.head x.tail)).bind fun x312=>_)=_
     rw [hv1,Option.bind_some]
     cases r with
     |ok u=>rw [hv2 u rfl];rfl
     |error y=>
      have hy:y≠0:=by rcases hv with ⟨h,_⟩| ⟨h,_⟩<;>omega
      show (bif (y != 0) then _ else _)=_
      rw [show (y != 0)=true by simpa using hy];rfl
  ·
   have hbf:b=false:=by cases hbb:b;rfl;exact absurd (hb.1 hbb) hF
   refine ⟨_,.args hS hh hF,?_⟩
   rcases Decidable.em (args.length=f.params.length) with hl2|hl2
   ·obtain ⟨n1,hn1⟩:=(loopM none hl2 args.length 0 om .nil).2 fun h=>hF ⟨hl2,fun i v x hv hx=>h i v x (Nat.zero_le _) hv hx⟩
    refine ((mean1.and ref1).and (NK n1)).mono fun N hN=>⟨?_,?_⟩
    ·rw [hN.1.1,show ((args.length:Int) != (f.params.length:Int))=false by simp;omega,cond_false]
     exact hn1 N N hN.2 hN.2
    ·rw [hN.1.2,hbf];rfl
   ·refine (mean1.and ref1).mono fun N hN=>⟨?_,?_⟩
    ·rw [hN.1,show ((args.length:Int) != (f.params.length:Int))=true by simp;omega];rfl
    ·rw [hN.2,hbf];rfl
end
end Fth
namespace Fth
open Go
def Rvv(v:AF):Prop:=v=v0∨(VV v.type_ v∧GV v)
theorem Yq{v:AF}(h:Rvv v):Ev fun N=>GY N v v=some true:=by
 rcases h with rfl| ⟨h,hg⟩
 ·refine Ev.all fun N=>?_
  have c0:ceq ((0,0):Nat×Nat) (0,0)=true:=by decide
  unfold GY KE
  rw [show (v0.type_==0)=true from rfl,cond_true,cond_true,show v0.num=(0,0) from rfl,c0]
  rfl
 ·have ht:v.type_≠0:=by rcases h with ⟨e,_⟩| ⟨e,_⟩| ⟨e,_⟩<;>omega
  have hl:=hg.2.2
  refine (NK (v.list.length+2)).mono fun N hN=>?_
  have cself: ∀z,Gn z→cne z z=false:=fun z hz=>by
   obtain ⟨n,hn,rfl⟩:=(QI z).1 hz
   have:=Zh hn hn
   simp only [decide_true,Bool.and_self] at this
   unfold ceq at this
   unfold cne
   rw [this];rfl
  have loop: ∀(k i:Nat),i≤v.list.length→v.list.length<i+k→Jq v v k (i:Int)=some true:=by
   intro k
   induction k with
   |zero=>intro i _ _;omega
   |succ k ih=>
    intro i hi hk
    show K8 v v (Jq v v k) i=_
    unfold K8
    cases hc:decide ((i:Int)< (v.list.length:Int))
    ·rfl
    ·have hc:=CR hc
     obtain ⟨z,hz⟩: ∃z,v.list[i]?=some z:=⟨_,List.getElem?_eq_getElem om⟩
     rw [cond_true,CI hz,Option.bind_some,Option.bind_some,cself z (hg.2.1 z (List.mem_of_getElem? hz)),cond_false,wr om om,show (i:Int)+1=((i+1:Nat):Int) by omega]
     exact ih (i+1) om om
  have hch:=(Zp hg).2 h
  unfold GY KE
  rw [show (v.type_==0)=false by simpa using ht,cond_false,cond_false]
  unfold Jr Hg
  rw [NM hg hN,Option.bind_some,hch,Bool.not_true,cond_false,Option.bind_some,Bool.not_true,cond_false,show (v.type_ != v.type_)=false by simp,cond_false,cself v.num hg.1,cond_false,show (!(v.bool==v.bool))=false by simp,cond_false,show ((v.list.length:Int) != (v.list.length:Int))=false by simp,cond_false]
  have:=loop N 0 om om
  rw [show ((0:Nat):Int)=0 from rfl] at this
  rw [this];rfl
theorem ABR{r:BE}(h:Rvv r.value):Ev fun N=>JD N r r=some true:=by
 refine (Yq h).mono fun N hN=>?_
 unfold JD Hh
 rw [show (r.why==r.why)=true by simp,cond_true]
 show ((GY N r.value r.value).bind fun x48=>_)=_
 rw [hN,Option.bind_some,cond_true,show (r.moves==r.moves)=true by simp,show (r.thunks==r.thunks)=true by simp,show (r.updates==r.updates)=true by simp,show (r.calls==r.calls)=true by simp]
 rfl
section
variable{p:AM}{nm:List UInt8}{args:List AF}{m:Nat}
theorem AAH{r:BE}(h:VH p nm args m r):Rvv r.value:=by
 cases h with
 |shape=>exact .inl rfl
 |func=>exact .inl rfl
 |args=>exact .inl rfl
 | @run f r c h hf ha hr hc hv=>
  cases r with
  |error y=>exact .inl rfl
  |ok v=>exact .inr ⟨hv.1.type▸hv.1,hv.1.gv (by have:=hv.2.2;omega)⟩
end
end Fth
namespace Fth
open Go
class OL{α:Type}(x y:Option α):Prop where
 le: ∀a,x=some a→y=some a
class Up(N M:Nat):Prop where
 le:N≤M
instance OL.refl {α:Type} {x:Option α}:OL x x:=⟨fun _ h=>h⟩
theorem OL.none{α:Type}{x:Option α}:OL none x:=⟨fun _ h=>by cases h⟩
instance OL.bind {α β:Type} {x y:Option α} {f g:α→Option β} [h:OL x y] [k: ∀a,OL (f a) (g a)]:OL (x.bind f) (y.bind g):=⟨fun b hb=>by
 cases x with
 |none=>cases hb
 |some a=>rw [h.le a rfl];exact (k a).le b hb⟩
instance OL.cond {α:Type} {c:Bool} {x y x' y':Option α} [h1:OL x x'] [h2:OL y y']:OL (bif c then x else y) (bif c then x' else y'):=by
 cases c
 ·exact h2
 ·exact h1
theorem Up.go{P:Nat→Nat→Prop}(h0: ∀M,P 0 M)(hs: ∀n m [Up n m],P n m→P (n+1) (m+1)){N M:Nat}[h:Up N M]:P N M:=by
 have: ∀N M,N≤M→P N M:=by
  intro N
  induction N with
  |zero=>intro M _;exact h0 M
  |succ n ih=>
   intro M hM
   cases M with
   |zero=>exact absurd hM (Nat.not_succ_le_zero n)
   |succ m=>exact @hs n m ⟨Nat.le_of_succ_le_succ hM⟩ (ih m (Nat.le_of_succ_le_succ hM))
 exact this N M h.le
set_option linter.unusedVariables false
set_option synthInstance.maxHeartbeats 400000
set_option synthInstance.maxSize 4000
theorem AAI{α0 β:Type}{f f':Nat→α0→Option β}(hs: ∀n m [Up n m] [∀y0,OL (f n y0) (f' m y0)] y0,OL (f (n+1) y0) (f' (m+1) y0))(h0: ∀y0,f 0 y0=none:=by intros;rfl){N M}[Up N M]{y0}:OL (f N y0) (f' M y0):=Up.go (P:=fun N M=>∀y0,OL (f N y0) (f' M y0)) (fun _ _=>by rw [h0];exact .none) (fun n m _ h=>@hs n m _ h) y0
theorem VI{α0 α1 β:Type}{f f':Nat→α0→α1→Option β}(hs: ∀n m [Up n m] [∀y0 y1,OL (f n y0 y1) (f' m y0 y1)] y0 y1,OL (f (n+1) y0 y1) (f' (m+1) y0 y1))(h0: ∀y0 y1,f 0 y0 y1=none:=by intros;rfl){N M}[Up N M]{y0 y1}:OL (f N y0 y1) (f' M y0 y1):=Up.go (P:=fun N M=>∀y0 y1,OL (f N y0 y1) (f' M y0 y1)) (fun _ _ _=>by rw [h0];exact .none) (fun n m _ h=>@hs n m _ h) y0 y1
theorem ACi{α0 α1 α2 β:Type}{f f':Nat→α0→α1→α2→Option β}(hs: ∀n m [Up n m] [∀y0 y1 y2,OL (f n y0 y1 y2) (f' m y0 y1 y2)] y0 y1 y2,OL (f (n+1) y0 y1 y2) (f' (m+1) y0 y1 y2))(h0: ∀y0 y1 y2,f 0 y0 y1 y2=none:=by intros;rfl){N M}[Up N M]{y0 y1 y2}:OL (f N y0 y1 y2) (f' M y0 y1 y2):=Up.go (P:=fun N M=>∀y0 y1 y2,OL (f N y0 y1 y2) (f' M y0 y1 y2)) (fun _ _ _ _=>by rw [h0];exact .none) (fun n m _ h=>@hs n m _ h) y0 y1 y2
theorem ACj{α0 α1 α2 α3 β:Type}{f f':Nat→α0→α1→α2→α3→Option β}(hs: ∀n m [Up n m] [∀y0 y1 y2 y3,OL (f n y0 y1 y2 y3) (f' m y0 y1 y2 y3)] y0 y1 y2 y3,OL (f (n+1) y0 y1 y2 y3) (f' (m+1) y0 y1 y2 y3))(h0: ∀y0 y1 y2 y3,f 0 y0 y1 y2 y3=none:=by intros;rfl){N M}[Up N M]{y0 y1 y2 y3}:OL (f N y0 y1 y2 y3) (f' M y0 y1 y2 y3):=Up.go (P:=fun N M=>∀y0 y1 y2 y3,OL (f N y0 y1 y2 y3) (f' M y0 y1 y2 y3)) (fun _ _ _ _ _=>by rw [h0];exact .none) (fun n m _ h=>@hs n m _ h) y0 y1 y2 y3
instance {p0 p2} {s1 s1'} [∀x0,OL (s1 x0) (s1' x0)]:OL (Gl p0 s1 p2) (Gl p0 s1' p2):=by unfold Gl;infer_instance
instance {p0 p1 p3} {s2 s2'} [∀x0,OL (s2 x0) (s2' x0)]:OL (Gh p0 p1 s2 p3) (Gh p0 p1 s2' p3):=by unfold Gh;infer_instance
instance {p0 p1} {k j} [Up k j] {y0}:OL (E3 p0 p1 k y0) (E3 p0 p1 j y0):=AAI fun n m _ _ y0=>inferInstanceAs (OL (Gh p0 p1 (E3 p0 p1 n) y0) (Gh p0 p1 (E3 p0 p1 m) y0))
instance {p1 p2} {N M} [Up N M]:OL (Io N p1 p2) (Io M p1 p2):=by unfold Io;infer_instance
instance {p0 p1 p2 p3 p5} {s4 s4'} [∀x0 x1,OL (s4 x0 x1) (s4' x0 x1)]:OL (FB p0 p1 p2 p3 s4 p5) (FB p0 p1 p2 p3 s4' p5):=by unfold FB;infer_instance
instance {p0 p1 p3 p4} {s2 s2'} [∀x0 x1,OL (s2 x0 x1) (s2' x0 x1)]:OL (FS p0 p1 s2 p3 p4) (FS p0 p1 s2' p3 p4):=by unfold FS;infer_instance
instance {p0 p1} {k j} [Up k j] {y0 y1}:OL (Eg p0 p1 k y0 y1) (Eg p0 p1 j y0 y1):=VI fun n m _ _ y0 y1=>inferInstanceAs (OL (FS p0 p1 (Eg p0 p1 n) y0 y1) (FS p0 p1 (Eg p0 p1 m) y0 y1))
instance {p1 p2} {N M} [Up N M]:OL (Is N p1 p2) (Is M p1 p2):=by unfold Is;infer_instance
instance {p1 p2} {N M} [Up N M]:OL (Hm N p1 p2) (Hm M p1 p2):=by unfold Hm;infer_instance
instance {p1} {N M} [Up N M]:OL (FC N p1) (FC M p1):=by unfold FC;infer_instance
class BH.Le(φ ψ:BH):Prop where
 ref01_digits: ∀x0,OL (φ.ref01_digits x0) (ψ.ref01_digits x0)
attribute [instance] BH.Le.ref01_digits
instance {p2} {φ ψ} [BH.Le φ ψ] {N M} [Up N M]:OL (DW φ N p2) (DW ψ M p2):=by unfold DW;infer_instance
instance {N M} [Up N M]:BH.Le (BH.at N) (BH.at M):=Up.go (P:=fun N M=>BH.Le (BH.at N) (BH.at M)) (fun _=>⟨fun _=> .none⟩) fun n m _ _=>⟨fun x0=>inferInstanceAs (OL (DW (BH.at n) n x0) (DW (BH.at m) m x0))⟩
instance {N M} [Up N M] {y0}:OL (ref01_digits N y0) (ref01_digits M y0):=BH.Le.ref01_digits _
instance {p1} {N M} [Up N M]:OL (GG N p1) (GG M p1):=by unfold GG;infer_instance
instance {p1 p2 p3} {N M} [Up N M]:OL (Fv N p1 p2 p3) (Fv M p1 p2 p3):=by unfold Fv;infer_instance
instance {p1 p2 p3} {N M} [Up N M]:OL (Hp N p1 p2 p3) (Hp M p1 p2 p3):=by unfold Hp;infer_instance
instance {p1} {N M} [Up N M]:OL (Ep N p1) (Ep M p1):=by unfold Ep;infer_instance
instance {p0 p1 p3} {s2 s2'} [∀x0,OL (s2 x0) (s2' x0)]:OL (D4 p0 p1 s2 p3) (D4 p0 p1 s2' p3):=by unfold D4;infer_instance
instance {p0 p1} {k j} [Up k j] {y0}:OL (Dn p0 p1 k y0) (Dn p0 p1 j y0):=AAI fun n m _ _ y0=>inferInstanceAs (OL (D4 p0 p1 (Dn p0 p1 n) y0) (D4 p0 p1 (Dn p0 p1 m) y0))
instance {p1} {N M} [Up N M]:OL (Do N p1) (Do M p1):=by unfold Do;infer_instance
instance {p1 p2 p3 p4 p5} {N M} [Up N M]:OL (IW N p1 p2 p3 p4 p5) (IW M p1 p2 p3 p4 p5):=by unfold IW;infer_instance
instance {p1 p2 p3 p4 p5} {N M} [Up N M]:OL (IX N p1 p2 p3 p4 p5) (IX M p1 p2 p3 p4 p5):=by unfold IX;infer_instance
instance {p1 p2} {N M} [Up N M]:OL (IA N p1 p2) (IA M p1 p2):=by unfold IA;infer_instance
instance {p0 p2 p4} {s1 s1'} [∀x0 x1,OL (s1 x0 x1) (s1' x0 x1)] {s3 s3'} [∀x0,OL (s3 x0) (s3' x0)]:OL (Hq p0 s1 p2 s3 p4) (Hq p0 s1' p2 s3' p4):=by unfold Hq;infer_instance
instance {p0 p1 p4} {s2 s2'} [∀x0 x1,OL (s2 x0 x1) (s2' x0 x1)] {s3 s3'} [∀x0,OL (s3 x0) (s3' x0)]:OL (FT p0 p1 s2 s3 p4) (FT p0 p1 s2' s3' p4):=by unfold FT;infer_instance
instance {p0 p1} {s2 s2'} [∀x0 x1,OL (s2 x0 x1) (s2' x0 x1)] {k j} [Up k j] {y0}:OL (FD p0 p1 s2 k y0) (FD p0 p1 s2' j y0):=AAI fun n m _ _ y0=>inferInstanceAs (OL (FT p0 p1 s2 (FD p0 p1 s2 n) y0) (FT p0 p1 s2' (FD p0 p1 s2' m) y0))
instance {p1 p3 p4} {N M} [Up N M] {s2 s2'} [∀x0 x1,OL (s2 x0 x1) (s2' x0 x1)]:OL (FU N p1 s2 p3 p4) (FU M p1 s2' p3 p4):=by unfold FU;infer_instance
instance {p1} {N M} [Up N M] {k j} [Up k j] {y0 y1}:OL (Dp N p1 k y0 y1) (Dp M p1 j y0 y1):=VI fun n m _ _ y0 y1=>inferInstanceAs (OL (FU N p1 (Dp N p1 n) y0 y1) (FU M p1 (Dp M p1 m) y0 y1))
instance {p1} {N M} [Up N M]:OL (GK N p1) (GK M p1):=by unfold GK;infer_instance
instance {p1 p2 p3 p4 p5 p6 p7 p8 p9 p10} {s0 s0'} [∀x0 x1 x2 x3 x4 x5 x6 x7 x8 x9,OL (s0 x0 x1 x2 x3 x4 x5 x6 x7 x8 x9) (s0' x0 x1 x2 x3 x4 x5 x6 x7 x8 x9)]:OL (DN s0 p1 p2 p3 p4 p5 p6 p7 p8 p9 p10) (DN s0' p1 p2 p3 p4 p5 p6 p7 p8 p9 p10):=by unfold DN;infer_instance
instance {k j} [Up k j] {y0 y1 y2 y3 y4 y5 y6 y7 y8 y9}:OL (CO k y0 y1 y2 y3 y4 y5 y6 y7 y8 y9) (CO j y0 y1 y2 y3 y4 y5 y6 y7 y8 y9):=Up.go (P:=fun k j=>∀y0 y1 y2 y3 y4 y5 y6 y7 y8 y9,OL (CO k y0 y1 y2 y3 y4 y5 y6 y7 y8 y9) (CO j y0 y1 y2 y3 y4 y5 y6 y7 y8 y9)) (fun _ _ _ _ _ _ _ _ _ _ _=> .none) (fun n m _ _ y0 y1 y2 y3 y4 y5 y6 y7 y8 y9=>inferInstanceAs (OL (DN (CO n) y0 y1 y2 y3 y4 y5 y6 y7 y8 y9) (DN (CO m) y0 y1 y2 y3 y4 y5 y6 y7 y8 y9))) y0 y1 y2 y3 y4 y5 y6 y7 y8 y9
instance {p1} {N M} [Up N M]:OL (CP N p1) (CP M p1):=by unfold CP;infer_instance
class AB.Le(φ ψ:AB):Prop where
 ref04_reader_expr: ∀x0,OL (φ.ref04_reader_expr x0) (ψ.ref04_reader_expr x0)
 ref04_reader_cons: ∀x0,OL (φ.ref04_reader_cons x0) (ψ.ref04_reader_cons x0)
 ref04_reader_parts: ∀x0 x1,OL (φ.ref04_reader_parts x0 x1) (ψ.ref04_reader_parts x0 x1)
 ref04_reader_branches: ∀x0 x1,OL (φ.ref04_reader_branches x0 x1) (ψ.ref04_reader_branches x0 x1)
 ref04_reader_comp: ∀x0,OL (φ.ref04_reader_comp x0) (ψ.ref04_reader_comp x0)
 ref04_reader_sum: ∀x0,OL (φ.ref04_reader_sum x0) (ψ.ref04_reader_sum x0)
 ref04_reader_term: ∀x0,OL (φ.ref04_reader_term x0) (ψ.ref04_reader_term x0)
 ref04_reader_unit: ∀x0,OL (φ.ref04_reader_unit x0) (ψ.ref04_reader_unit x0)
 ref04_reader_named: ∀x0 x1,OL (φ.ref04_reader_named x0 x1) (ψ.ref04_reader_named x0 x1)
attribute [instance] AB.Le.ref04_reader_expr AB.Le.ref04_reader_cons AB.Le.ref04_reader_parts AB.Le.ref04_reader_branches AB.Le.ref04_reader_comp AB.Le.ref04_reader_sum AB.Le.ref04_reader_term AB.Le.ref04_reader_unit AB.Le.ref04_reader_named
instance {p2 p3 p4 p5 p6 p7 p8 p9 p10 p11 p12 p13} {φ ψ} [AB.Le φ ψ] {N M} [Up N M]:OL (Dq φ N p2 p3 p4 p5 p6 p7 p8 p9 p10 p11 p12 p13) (Dq ψ M p2 p3 p4 p5 p6 p7 p8 p9 p10 p11 p12 p13):=by unfold Dq;infer_instance
instance {p2 p3 p4 p5 p6 p7 p8 p9 p10 p11 p12} {φ ψ} [AB.Le φ ψ] {N M} [Up N M]:OL (Dr φ N p2 p3 p4 p5 p6 p7 p8 p9 p10 p11 p12) (Dr ψ M p2 p3 p4 p5 p6 p7 p8 p9 p10 p11 p12):=by unfold Dr;infer_instance
instance {p2 p3 p4 p5 p6 p7 p8 p9 p10 p11 p12 p13} {φ ψ} [AB.Le φ ψ] {N M} [Up N M]:OL (Ds φ N p2 p3 p4 p5 p6 p7 p8 p9 p10 p11 p12 p13) (Ds ψ M p2 p3 p4 p5 p6 p7 p8 p9 p10 p11 p12 p13):=by unfold Ds;infer_instance
instance {p2 p3 p4 p5 p6 p7 p8 p9 p10 p11 p12} {φ ψ} [AB.Le φ ψ] {N M} [Up N M]:OL (Dt φ N p2 p3 p4 p5 p6 p7 p8 p9 p10 p11 p12) (Dt ψ M p2 p3 p4 p5 p6 p7 p8 p9 p10 p11 p12):=by unfold Dt;infer_instance
instance {p2 p3 p4 p5} {φ ψ} [AB.Le φ ψ] {N M} [Up N M]:OL (Du φ N p2 p3 p4 p5) (Du ψ M p2 p3 p4 p5):=by unfold Du;infer_instance
instance {p2 p3 p4} {φ ψ} [AB.Le φ ψ] {N M} [Up N M]:OL (DO φ N p2 p3 p4) (DO ψ M p2 p3 p4):=by unfold DO;infer_instance
instance {p2} {φ ψ} [AB.Le φ ψ] {N M} [Up N M]:OL (DC φ N p2) (DC ψ M p2):=by unfold DC;infer_instance
instance {p2} {φ ψ} [AB.Le φ ψ] {N M} [Up N M]:OL (DD φ N p2) (DD ψ M p2):=by unfold DD;infer_instance
instance {p1 p2 p4 p5 p6 p7 p8 p9 p10 p11 p12} {φ ψ} [AB.Le φ ψ] {s3 s3'} [∀x0 x1 x2 x3 x4 x5 x6 x7 x8 x9 x10,OL (s3 x0 x1 x2 x3 x4 x5 x6 x7 x8 x9 x10) (s3' x0 x1 x2 x3 x4 x5 x6 x7 x8 x9 x10)]:OL (DZ φ p1 p2 s3 p4 p5 p6 p7 p8 p9 p10 p11 p12) (DZ ψ p1 p2 s3' p4 p5 p6 p7 p8 p9 p10 p11 p12):=by unfold DZ;infer_instance
instance {p1 p3 p4 p5 p6 p7 p8 p9 p10 p11 p12 p13} {φ ψ} [AB.Le φ ψ] {s2 s2'} [∀x0 x1 x2 x3 x4 x5 x6 x7 x8 x9 x10,OL (s2 x0 x1 x2 x3 x4 x5 x6 x7 x8 x9 x10) (s2' x0 x1 x2 x3 x4 x5 x6 x7 x8 x9 x10)]:OL (Ci φ p1 s2 p3 p4 p5 p6 p7 p8 p9 p10 p11 p12 p13) (Ci ψ p1 s2' p3 p4 p5 p6 p7 p8 p9 p10 p11 p12 p13):=by unfold Ci;infer_instance
instance {p1} {φ ψ} [AB.Le φ ψ] {k j} [Up k j] {y0 y1 y2 y3 y4 y5 y6 y7 y8 y9 y10}:OL (By φ p1 k y0 y1 y2 y3 y4 y5 y6 y7 y8 y9 y10) (By ψ p1 j y0 y1 y2 y3 y4 y5 y6 y7 y8 y9 y10):=Up.go (P:=fun k j=>∀y0 y1 y2 y3 y4 y5 y6 y7 y8 y9 y10,OL (By φ p1 k y0 y1 y2 y3 y4 y5 y6 y7 y8 y9 y10) (By ψ p1 j y0 y1 y2 y3 y4 y5 y6 y7 y8 y9 y10)) (fun _ _ _ _ _ _ _ _ _ _ _ _=> .none) (fun n m _ _ y0 y1 y2 y3 y4 y5 y6 y7 y8 y9 y10=>inferInstanceAs (OL (Ci φ p1 (By φ p1 n) y0 y1 y2 y3 y4 y5 y6 y7 y8 y9 y10) (Ci ψ p1 (By ψ p1 m) y0 y1 y2 y3 y4 y5 y6 y7 y8 y9 y10))) y0 y1 y2 y3 y4 y5 y6 y7 y8 y9 y10
instance {p2 p3} {φ ψ} [AB.Le φ ψ] {N M} [Up N M]:OL (Cm φ N p2 p3) (Cm ψ M p2 p3):=by unfold Cm;infer_instance
instance {p2 p3} {φ ψ} [AB.Le φ ψ] {N M} [Up N M]:OL (CD φ N p2 p3) (CD ψ M p2 p3):=by unfold CD;infer_instance
instance {p1 p2 p3 p4 p5 p6 p7 p8 p9 p10 p11 p12 p13} {φ ψ} [AB.Le φ ψ]:OL (EV φ p1 p2 p3 p4 p5 p6 p7 p8 p9 p10 p11 p12 p13) (EV ψ p1 p2 p3 p4 p5 p6 p7 p8 p9 p10 p11 p12 p13):=by unfold EV;infer_instance
instance {p1 p2 p3} {φ ψ} [AB.Le φ ψ]:OL (Dv φ p1 p2 p3) (Dv ψ p1 p2 p3):=by unfold Dv;infer_instance
instance {p2} {φ ψ} [AB.Le φ ψ] {N M} [Up N M]:OL (DE φ N p2) (DE ψ M p2):=by unfold DE;infer_instance
instance {p0 p1 p2 p3 p4 p5 p6 p8 p9 p10} {s7 s7'} [∀x0 x1 x2 x3 x4 x5 x6 x7 x8 x9 x10 x11 x12 x13 x14 x15,OL (s7 x0 x1 x2 x3 x4 x5 x6 x7 x8 x9 x10 x11 x12 x13 x14 x15) (s7' x0 x1 x2 x3 x4 x5 x6 x7 x8 x9 x10 x11 x12 x13 x14 x15)]:OL (EE p0 p1 p2 p3 p4 p5 p6 s7 p8 p9 p10) (EE p0 p1 p2 p3 p4 p5 p6 s7' p8 p9 p10):=by unfold EE;infer_instance
instance {p1 p2 p3 p4 p5 p6 p7 p8 p9 p10 p11 p12 p13 p14 p15 p16 p18} {φ ψ} [AB.Le φ ψ] {s17 s17'} [∀x0 x1 x2 x3 x4 x5 x6 x7 x8 x9 x10 x11 x12 x13 x14 x15,OL (s17 x0 x1 x2 x3 x4 x5 x6 x7 x8 x9 x10 x11 x12 x13 x14 x15) (s17' x0 x1 x2 x3 x4 x5 x6 x7 x8 x9 x10 x11 x12 x13 x14 x15)]:OL (EF φ p1 p2 p3 p4 p5 p6 p7 p8 p9 p10 p11 p12 p13 p14 p15 p16 s17 p18) (EF ψ p1 p2 p3 p4 p5 p6 p7 p8 p9 p10 p11 p12 p13 p14 p15 p16 s17' p18):=by unfold EF;infer_instance
instance {p2 p3 p4 p5 p6 p7 p8 p9 p10 p11 p12 p13 p14 p15 p16 p17} {φ ψ} [AB.Le φ ψ] {s1 s1'} [∀x0 x1 x2 x3 x4 x5 x6 x7 x8 x9 x10 x11 x12 x13 x14 x15,OL (s1 x0 x1 x2 x3 x4 x5 x6 x7 x8 x9 x10 x11 x12 x13 x14 x15) (s1' x0 x1 x2 x3 x4 x5 x6 x7 x8 x9 x10 x11 x12 x13 x14 x15)]:OL (DP φ s1 p2 p3 p4 p5 p6 p7 p8 p9 p10 p11 p12 p13 p14 p15 p16 p17) (DP ψ s1' p2 p3 p4 p5 p6 p7 p8 p9 p10 p11 p12 p13 p14 p15 p16 p17):=by unfold DP;infer_instance
instance {φ ψ} [AB.Le φ ψ] {k j} [Up k j] {y0 y1 y2 y3 y4 y5 y6 y7 y8 y9 y10 y11 y12 y13 y14 y15}:OL (B4 φ k y0 y1 y2 y3 y4 y5 y6 y7 y8 y9 y10 y11 y12 y13 y14 y15) (B4 ψ j y0 y1 y2 y3 y4 y5 y6 y7 y8 y9 y10 y11 y12 y13 y14 y15):=Up.go (P:=fun k j=>∀y0 y1 y2 y3 y4 y5 y6 y7 y8 y9 y10 y11 y12 y13 y14 y15,OL (B4 φ k y0 y1 y2 y3 y4 y5 y6 y7 y8 y9 y10 y11 y12 y13 y14 y15) (B4 ψ j y0 y1 y2 y3 y4 y5 y6 y7 y8 y9 y10 y11 y12 y13 y14 y15)) (fun _ _ _ _ _ _ _ _ _ _ _ _ _ _ _ _ _=> .none) (fun n m _ _ y0 y1 y2 y3 y4 y5 y6 y7 y8 y9 y10 y11 y12 y13 y14 y15=>inferInstanceAs (OL (DP φ (B4 φ n) y0 y1 y2 y3 y4 y5 y6 y7 y8 y9 y10 y11 y12 y13 y14 y15) (DP ψ (B4 ψ m) y0 y1 y2 y3 y4 y5 y6 y7 y8 y9 y10 y11 y12 y13 y14 y15))) y0 y1 y2 y3 y4 y5 y6 y7 y8 y9 y10 y11 y12 y13 y14 y15
instance {p2} {φ ψ} [AB.Le φ ψ] {N M} [Up N M]:OL (DX φ N p2) (DX ψ M p2):=by unfold DX;infer_instance
instance {p0 p1 p2 p3 p4 p5 p6 p8 p9 p10} {s7 s7'} [∀x0 x1 x2 x3 x4 x5 x6 x7 x8 x9 x10 x11 x12 x13 x14 x15,OL (s7 x0 x1 x2 x3 x4 x5 x6 x7 x8 x9 x10 x11 x12 x13 x14 x15) (s7' x0 x1 x2 x3 x4 x5 x6 x7 x8 x9 x10 x11 x12 x13 x14 x15)]:OL (Dw p0 p1 p2 p3 p4 p5 p6 s7 p8 p9 p10) (Dw p0 p1 p2 p3 p4 p5 p6 s7' p8 p9 p10):=by unfold Dw;infer_instance
instance {p1 p2 p3 p4 p5 p6 p7 p8 p9 p10 p11 p12 p13 p14 p15 p16 p18} {φ ψ} [AB.Le φ ψ] {s17 s17'} [∀x0 x1 x2 x3 x4 x5 x6 x7 x8 x9 x10 x11 x12 x13 x14 x15,OL (s17 x0 x1 x2 x3 x4 x5 x6 x7 x8 x9 x10 x11 x12 x13 x14 x15) (s17' x0 x1 x2 x3 x4 x5 x6 x7 x8 x9 x10 x11 x12 x13 x14 x15)]:OL (Dx φ p1 p2 p3 p4 p5 p6 p7 p8 p9 p10 p11 p12 p13 p14 p15 p16 s17 p18) (Dx ψ p1 p2 p3 p4 p5 p6 p7 p8 p9 p10 p11 p12 p13 p14 p15 p16 s17' p18):=by unfold Dx;infer_instance
instance {p2 p3 p4 p5 p6 p7 p8 p9 p10 p11 p12 p13 p14 p15 p16 p17} {φ ψ} [AB.Le φ ψ] {s1 s1'} [∀x0 x1 x2 x3 x4 x5 x6 x7 x8 x9 x10 x11 x12 x13 x14 x15,OL (s1 x0 x1 x2 x3 x4 x5 x6 x7 x8 x9 x10 x11 x12 x13 x14 x15) (s1' x0 x1 x2 x3 x4 x5 x6 x7 x8 x9 x10 x11 x12 x13 x14 x15)]:OL (C9 φ s1 p2 p3 p4 p5 p6 p7 p8 p9 p10 p11 p12 p13 p14 p15 p16 p17) (C9 ψ s1' p2 p3 p4 p5 p6 p7 p8 p9 p10 p11 p12 p13 p14 p15 p16 p17):=by unfold C9;infer_instance
instance {φ ψ} [AB.Le φ ψ] {k j} [Up k j] {y0 y1 y2 y3 y4 y5 y6 y7 y8 y9 y10 y11 y12 y13 y14 y15}:OL (Bx φ k y0 y1 y2 y3 y4 y5 y6 y7 y8 y9 y10 y11 y12 y13 y14 y15) (Bx ψ j y0 y1 y2 y3 y4 y5 y6 y7 y8 y9 y10 y11 y12 y13 y14 y15):=Up.go (P:=fun k j=>∀y0 y1 y2 y3 y4 y5 y6 y7 y8 y9 y10 y11 y12 y13 y14 y15,OL (Bx φ k y0 y1 y2 y3 y4 y5 y6 y7 y8 y9 y10 y11 y12 y13 y14 y15) (Bx ψ j y0 y1 y2 y3 y4 y5 y6 y7 y8 y9 y10 y11 y12 y13 y14 y15)) (fun _ _ _ _ _ _ _ _ _ _ _ _ _ _ _ _ _=> .none) (fun n m _ _ y0 y1 y2 y3 y4 y5 y6 y7 y8 y9 y10 y11 y12 y13 y14 y15=>inferInstanceAs (OL (C9 φ (Bx φ n) y0 y1 y2 y3 y4 y5 y6 y7 y8 y9 y10 y11 y12 y13 y14 y15) (C9 ψ (Bx ψ m) y0 y1 y2 y3 y4 y5 y6 y7 y8 y9 y10 y11 y12 y13 y14 y15))) y0 y1 y2 y3 y4 y5 y6 y7 y8 y9 y10 y11 y12 y13 y14 y15
instance {p2} {φ ψ} [AB.Le φ ψ] {N M} [Up N M]:OL (DF φ N p2) (DF ψ M p2):=by unfold DF;infer_instance
instance {p1 p2 p3 p4 p5 p6 p7 p8} {φ ψ} [AB.Le φ ψ]:OL (CU φ p1 p2 p3 p4 p5 p6 p7 p8) (CU ψ p1 p2 p3 p4 p5 p6 p7 p8):=by unfold CU;infer_instance
instance {p2 p3 p4 p5 p6 p7 p8} {φ ψ} [AB.Le φ ψ] {N M} [Up N M]:OL (FF φ N p2 p3 p4 p5 p6 p7 p8) (FF ψ M p2 p3 p4 p5 p6 p7 p8):=by unfold FF;infer_instance
instance {p2 p3 p4} {φ ψ} [AB.Le φ ψ] {N M} [Up N M]:OL (DQ φ N p2 p3 p4) (DQ ψ M p2 p3 p4):=by unfold DQ;infer_instance
instance {p2} {φ ψ} [AB.Le φ ψ] {N M} [Up N M]:OL (DG φ N p2) (DG ψ M p2):=by unfold DG;infer_instance
instance {p1 p3 p4 p5 p6 p7 p8 p9 p10 p11} {φ ψ} [AB.Le φ ψ] {s2 s2'} [∀x0 x1 x2 x3 x4 x5 x6 x7 x8 x9,OL (s2 x0 x1 x2 x3 x4 x5 x6 x7 x8 x9) (s2' x0 x1 x2 x3 x4 x5 x6 x7 x8 x9)]:OL (Da φ p1 s2 p3 p4 p5 p6 p7 p8 p9 p10 p11) (Da ψ p1 s2' p3 p4 p5 p6 p7 p8 p9 p10 p11):=by unfold Da;infer_instance
instance {p1 p2 p3 p4 p5 p6 p7 p8 p9 p10 p11 p13} {φ ψ} [AB.Le φ ψ] {s12 s12'} [∀x0 x1 x2 x3 x4 x5 x6 x7 x8 x9,OL (s12 x0 x1 x2 x3 x4 x5 x6 x7 x8 x9) (s12' x0 x1 x2 x3 x4 x5 x6 x7 x8 x9)]:OL (Db φ p1 p2 p3 p4 p5 p6 p7 p8 p9 p10 p11 s12 p13) (Db ψ p1 p2 p3 p4 p5 p6 p7 p8 p9 p10 p11 s12' p13):=by unfold Db;infer_instance
instance {p1 p3 p4 p5 p6 p7 p8 p9 p10 p11 p12} {φ ψ} [AB.Le φ ψ] {s2 s2'} [∀x0 x1 x2 x3 x4 x5 x6 x7 x8 x9,OL (s2 x0 x1 x2 x3 x4 x5 x6 x7 x8 x9) (s2' x0 x1 x2 x3 x4 x5 x6 x7 x8 x9)]:OL (Cj φ p1 s2 p3 p4 p5 p6 p7 p8 p9 p10 p11 p12) (Cj ψ p1 s2' p3 p4 p5 p6 p7 p8 p9 p10 p11 p12):=by unfold Cj;infer_instance
instance {p1} {φ ψ} [AB.Le φ ψ] {k j} [Up k j] {y0 y1 y2 y3 y4 y5 y6 y7 y8 y9}:OL (Bl φ p1 k y0 y1 y2 y3 y4 y5 y6 y7 y8 y9) (Bl ψ p1 j y0 y1 y2 y3 y4 y5 y6 y7 y8 y9):=Up.go (P:=fun k j=>∀y0 y1 y2 y3 y4 y5 y6 y7 y8 y9,OL (Bl φ p1 k y0 y1 y2 y3 y4 y5 y6 y7 y8 y9) (Bl ψ p1 j y0 y1 y2 y3 y4 y5 y6 y7 y8 y9)) (fun _ _ _ _ _ _ _ _ _ _ _=> .none) (fun n m _ _ y0 y1 y2 y3 y4 y5 y6 y7 y8 y9=>inferInstanceAs (OL (Cj φ p1 (Bl φ p1 n) y0 y1 y2 y3 y4 y5 y6 y7 y8 y9) (Cj ψ p1 (Bl ψ p1 m) y0 y1 y2 y3 y4 y5 y6 y7 y8 y9))) y0 y1 y2 y3 y4 y5 y6 y7 y8 y9
instance {p2 p3} {φ ψ} [AB.Le φ ψ] {N M} [Up N M]:OL (Cp φ N p2 p3) (Cp ψ M p2 p3):=by unfold Cp;infer_instance
instance {N M} [Up N M]:AB.Le (AB.at N) (AB.at M):=Up.go (P:=fun N M=>AB.Le (AB.at N) (AB.at M)) (fun _=>⟨fun _=> .none,fun _=> .none,fun _ _=> .none,fun _ _=> .none,fun _=> .none,fun _=> .none,fun _=> .none,fun _=> .none,fun _ _=> .none⟩) fun n m _ _=>⟨fun x0=>inferInstanceAs (OL (DC (AB.at n) n x0) (DC (AB.at m) m x0)),fun x0=>inferInstanceAs (OL (DD (AB.at n) n x0) (DD (AB.at m) m x0)),fun x0 x1=>inferInstanceAs (OL (Cm (AB.at n) n x0 x1) (Cm (AB.at m) m x0 x1)),fun x0 x1=>inferInstanceAs (OL (CD (AB.at n) n x0 x1) (CD (AB.at m) m x0 x1)),fun x0=>inferInstanceAs (OL (DE (AB.at n) n x0) (DE (AB.at m) m x0)),fun x0=>inferInstanceAs (OL (DX (AB.at n) n x0) (DX (AB.at m) m x0)),fun x0=>inferInstanceAs (OL (DF (AB.at n) n x0) (DF (AB.at m) m x0)),fun x0=>inferInstanceAs (OL (DG (AB.at n) n x0) (DG (AB.at m) m x0)),fun x0 x1=>inferInstanceAs (OL (Cp (AB.at n) n x0 x1) (Cp (AB.at m) m x0 x1))⟩
instance {N M} [Up N M] {y0}:OL (ref04_reader_expr N y0) (ref04_reader_expr M y0):=AB.Le.ref04_reader_expr _
instance {N M} [Up N M] {y0}:OL (ref04_reader_cons N y0) (ref04_reader_cons M y0):=AB.Le.ref04_reader_cons _
instance {N M} [Up N M] {y0 y1}:OL (ref04_reader_parts N y0 y1) (ref04_reader_parts M y0 y1):=AB.Le.ref04_reader_parts _ _
instance {N M} [Up N M] {y0 y1}:OL (ref04_reader_branches N y0 y1) (ref04_reader_branches M y0 y1):=AB.Le.ref04_reader_branches _ _
instance {N M} [Up N M] {y0}:OL (ref04_reader_comp N y0) (ref04_reader_comp M y0):=AB.Le.ref04_reader_comp _
instance {N M} [Up N M] {y0}:OL (ref04_reader_sum N y0) (ref04_reader_sum M y0):=AB.Le.ref04_reader_sum _
instance {N M} [Up N M] {y0}:OL (ref04_reader_term N y0) (ref04_reader_term M y0):=AB.Le.ref04_reader_term _
instance {N M} [Up N M] {y0}:OL (ref04_reader_unit N y0) (ref04_reader_unit M y0):=AB.Le.ref04_reader_unit _
instance {N M} [Up N M] {y0 y1}:OL (ref04_reader_named N y0 y1) (ref04_reader_named M y0 y1):=AB.Le.ref04_reader_named _ _
instance {p1 p3 p4 p5 p6 p7 p8 p9 p10 p11} {N M} [Up N M] {s2 s2'} [∀x0 x1 x2 x3 x4 x5 x6 x7 x8 x9,OL (s2 x0 x1 x2 x3 x4 x5 x6 x7 x8 x9) (s2' x0 x1 x2 x3 x4 x5 x6 x7 x8 x9)]:OL (EG N p1 s2 p3 p4 p5 p6 p7 p8 p9 p10 p11) (EG M p1 s2' p3 p4 p5 p6 p7 p8 p9 p10 p11):=by unfold EG;infer_instance
instance {p1 p3 p4 p5 p6 p7 p8 p9 p10 p11 p12} {N M} [Up N M] {s2 s2'} [∀x0 x1 x2 x3 x4 x5 x6 x7 x8 x9,OL (s2 x0 x1 x2 x3 x4 x5 x6 x7 x8 x9) (s2' x0 x1 x2 x3 x4 x5 x6 x7 x8 x9)]:OL (Df N p1 s2 p3 p4 p5 p6 p7 p8 p9 p10 p11 p12) (Df M p1 s2' p3 p4 p5 p6 p7 p8 p9 p10 p11 p12):=by unfold Df;infer_instance
instance {p1 p3 p4 p5 p6 p7 p8 p9 p10 p11} {N M} [Up N M] {s2 s2'} [∀x0 x1 x2 x3 x4 x5 x6 x7 x8 x9,OL (s2 x0 x1 x2 x3 x4 x5 x6 x7 x8 x9) (s2' x0 x1 x2 x3 x4 x5 x6 x7 x8 x9)]:OL (EH N p1 s2 p3 p4 p5 p6 p7 p8 p9 p10 p11) (EH M p1 s2' p3 p4 p5 p6 p7 p8 p9 p10 p11):=by unfold EH;infer_instance
instance {p1 p2 p3 p4 p5 p6 p7 p8 p9 p10 p11 p13} {N M} [Up N M] {s12 s12'} [∀x0 x1 x2 x3 x4 x5 x6 x7 x8 x9,OL (s12 x0 x1 x2 x3 x4 x5 x6 x7 x8 x9) (s12' x0 x1 x2 x3 x4 x5 x6 x7 x8 x9)]:OL (Dg N p1 p2 p3 p4 p5 p6 p7 p8 p9 p10 p11 s12 p13) (Dg M p1 p2 p3 p4 p5 p6 p7 p8 p9 p10 p11 s12' p13):=by unfold Dg;infer_instance
instance {p1 p3 p4 p5 p6 p7 p8 p9 p10 p11 p12} {N M} [Up N M] {s2 s2'} [∀x0 x1 x2 x3 x4 x5 x6 x7 x8 x9,OL (s2 x0 x1 x2 x3 x4 x5 x6 x7 x8 x9) (s2' x0 x1 x2 x3 x4 x5 x6 x7 x8 x9)]:OL (DR N p1 s2 p3 p4 p5 p6 p7 p8 p9 p10 p11 p12) (DR M p1 s2' p3 p4 p5 p6 p7 p8 p9 p10 p11 p12):=by unfold DR;infer_instance
instance {p1} {N M} [Up N M] {k j} [Up k j] {y0 y1 y2 y3 y4 y5 y6 y7 y8 y9}:OL (Bj N p1 k y0 y1 y2 y3 y4 y5 y6 y7 y8 y9) (Bj M p1 j y0 y1 y2 y3 y4 y5 y6 y7 y8 y9):=Up.go (P:=fun k j=>∀y0 y1 y2 y3 y4 y5 y6 y7 y8 y9,OL (Bj N p1 k y0 y1 y2 y3 y4 y5 y6 y7 y8 y9) (Bj M p1 j y0 y1 y2 y3 y4 y5 y6 y7 y8 y9)) (fun _ _ _ _ _ _ _ _ _ _ _=> .none) (fun n m _ _ y0 y1 y2 y3 y4 y5 y6 y7 y8 y9=>inferInstanceAs (OL (DR N p1 (Bj N p1 n) y0 y1 y2 y3 y4 y5 y6 y7 y8 y9) (DR M p1 (Bj M p1 m) y0 y1 y2 y3 y4 y5 y6 y7 y8 y9))) y0 y1 y2 y3 y4 y5 y6 y7 y8 y9
instance {p1 p2 p3 p4 p5 p6 p7 p8 p9} {N M} [Up N M]:OL (EI N p1 p2 p3 p4 p5 p6 p7 p8 p9) (EI M p1 p2 p3 p4 p5 p6 p7 p8 p9):=by unfold EI;infer_instance
instance {p1 p2} {N M} [Up N M]:OL (EJ N p1 p2) (EJ M p1 p2):=by unfold EJ;infer_instance
instance {p1 p2} {N M} [Up N M]:OL (Cz N p1 p2) (Cz M p1 p2):=by unfold Cz;infer_instance
instance {p1 p2 p3 p4 p5 p6 p7 p8 p9 p10 p12} {N M} [Up N M] {s11 s11'} [∀x0 x1 x2 x3 x4 x5 x6 x7 x8 x9,OL (s11 x0 x1 x2 x3 x4 x5 x6 x7 x8 x9) (s11' x0 x1 x2 x3 x4 x5 x6 x7 x8 x9)]:OL (CE N p1 p2 p3 p4 p5 p6 p7 p8 p9 p10 s11 p12) (CE M p1 p2 p3 p4 p5 p6 p7 p8 p9 p10 s11' p12):=by unfold CE;infer_instance
instance {p2 p3 p4 p5 p6 p7 p8 p9 p10 p11} {N M} [Up N M] {s1 s1'} [∀x0 x1 x2 x3 x4 x5 x6 x7 x8 x9,OL (s1 x0 x1 x2 x3 x4 x5 x6 x7 x8 x9) (s1' x0 x1 x2 x3 x4 x5 x6 x7 x8 x9)]:OL (CL N s1 p2 p3 p4 p5 p6 p7 p8 p9 p10 p11) (CL M s1' p2 p3 p4 p5 p6 p7 p8 p9 p10 p11):=by unfold CL;infer_instance
instance {N M} [Up N M] {k j} [Up k j] {y0 y1 y2 y3 y4 y5 y6 y7 y8 y9}:OL (Bd N k y0 y1 y2 y3 y4 y5 y6 y7 y8 y9) (Bd M j y0 y1 y2 y3 y4 y5 y6 y7 y8 y9):=Up.go (P:=fun k j=>∀y0 y1 y2 y3 y4 y5 y6 y7 y8 y9,OL (Bd N k y0 y1 y2 y3 y4 y5 y6 y7 y8 y9) (Bd M j y0 y1 y2 y3 y4 y5 y6 y7 y8 y9)) (fun _ _ _ _ _ _ _ _ _ _ _=> .none) (fun n m _ _ y0 y1 y2 y3 y4 y5 y6 y7 y8 y9=>inferInstanceAs (OL (CL N (Bd N n) y0 y1 y2 y3 y4 y5 y6 y7 y8 y9) (CL M (Bd M m) y0 y1 y2 y3 y4 y5 y6 y7 y8 y9))) y0 y1 y2 y3 y4 y5 y6 y7 y8 y9
instance {p1} {N M} [Up N M]:OL (B7 N p1) (B7 M p1):=by unfold B7;infer_instance
instance {p1 p2} {N M} [Up N M]:OL (Fp N p1 p2) (Fp M p1 p2):=by unfold Fp;infer_instance
instance {p0 p2 p3} {s1 s1'} [∀x0 x1 x2,OL (s1 x0 x1 x2) (s1' x0 x1 x2)]:OL (Hs p0 s1 p2 p3) (Hs p0 s1' p2 p3):=by unfold Hs;infer_instance
instance {p0 p2} {s1 s1'} [∀x0 x1 x2,OL (s1 x0 x1 x2) (s1' x0 x1 x2)]:OL (Ht p0 s1 p2) (Ht p0 s1' p2):=by unfold Ht;infer_instance
instance {p0 p1 p2 p3 p5} {s4 s4'} [∀x0 x1 x2,OL (s4 x0 x1 x2) (s4' x0 x1 x2)]:OL (Gq p0 p1 p2 p3 s4 p5) (Gq p0 p1 p2 p3 s4' p5):=by unfold Gq;infer_instance
instance {p0 p2 p3 p4} {s1 s1'} [∀x0 x1 x2,OL (s1 x0 x1 x2) (s1' x0 x1 x2)]:OL (FV p0 s1 p2 p3 p4) (FV p0 s1' p2 p3 p4):=by unfold FV;infer_instance
instance {p0} {k j} [Up k j] {y0 y1 y2}:OL (Eh p0 k y0 y1 y2) (Eh p0 j y0 y1 y2):=ACi fun n m _ _ y0 y1 y2=>inferInstanceAs (OL (FV p0 (Eh p0 n) y0 y1 y2) (FV p0 (Eh p0 m) y0 y1 y2))
instance {p1} {N M} [Up N M]:OL (GO N p1) (GO M p1):=by unfold GO;infer_instance
instance {p0 p2} {s1 s1'} [∀x0 x1,OL (s1 x0 x1) (s1' x0 x1)]:OL (Gs p0 s1 p2) (Gs p0 s1' p2):=by unfold Gs;infer_instance
instance {p0 p2 p3} {s1 s1'} [∀x0 x1,OL (s1 x0 x1) (s1' x0 x1)]:OL (EK p0 s1 p2 p3) (EK p0 s1' p2 p3):=by unfold EK;infer_instance
instance {p0} {k j} [Up k j] {y0 y1}:OL (EN p0 k y0 y1) (EN p0 j y0 y1):=VI fun n m _ _ y0 y1=>inferInstanceAs (OL (EK p0 (EN p0 n) y0 y1) (EK p0 (EN p0 m) y0 y1))
instance {p1} {N M} [Up N M]:OL (B8 N p1) (B8 M p1):=by unfold B8;infer_instance
instance {p1} {N M} [Up N M]:OL (EZ N p1) (EZ M p1):=by unfold EZ;infer_instance
instance {p1 p2 p4} {N M} [Up N M] {s3 s3'} [∀x0 x1,OL (s3 x0 x1) (s3' x0 x1)]:OL (Hd N p1 p2 s3 p4) (Hd M p1 p2 s3' p4):=by unfold Hd;infer_instance
instance {p1 p3 p4} {N M} [Up N M] {s2 s2'} [∀x0 x1,OL (s2 x0 x1) (s2' x0 x1)]:OL (Fy N p1 s2 p3 p4) (Fy M p1 s2' p3 p4):=by unfold Fy;infer_instance
instance {p1} {N M} [Up N M] {k j} [Up k j] {y0 y1}:OL (FW N p1 k y0 y1) (FW M p1 j y0 y1):=VI fun n m _ _ y0 y1=>inferInstanceAs (OL (Fy N p1 (FW N p1 n) y0 y1) (Fy M p1 (FW M p1 m) y0 y1))
instance {p1} {N M} [Up N M]:OL (Gt N p1) (Gt M p1):=by unfold Gt;infer_instance
instance {p1 p2 p4 p5 p6 p7} {N M} [Up N M] {s3 s3'} [∀x0 x1 x2 x3,OL (s3 x0 x1 x2 x3) (s3' x0 x1 x2 x3)]:OL (FX N p1 p2 s3 p4 p5 p6 p7) (FX M p1 p2 s3' p4 p5 p6 p7):=by unfold FX;infer_instance
instance {p1 p2} {N M} [Up N M] {k j} [Up k j] {y0 y1 y2 y3}:OL (FG N p1 p2 k y0 y1 y2 y3) (FG M p1 p2 j y0 y1 y2 y3):=ACj fun n m _ _ y0 y1 y2 y3=>inferInstanceAs (OL (FX N p1 p2 (FG N p1 p2 n) y0 y1 y2 y3) (FX M p1 p2 (FG M p1 p2 m) y0 y1 y2 y3))
instance {p1 p2 p3} {N M} [Up N M]:OL (F0 N p1 p2 p3) (F0 M p1 p2 p3):=by unfold F0;infer_instance
instance {p1 p2} {N M} [Up N M]:OL (Gu N p1 p2) (Gu M p1 p2):=by unfold Gu;infer_instance
instance {p1} {N M} [Up N M]:OL (Fq N p1) (Fq M p1):=by unfold Fq;infer_instance
instance {p0 p2} {s1 s1'} [∀x0 x1,OL (s1 x0 x1) (s1' x0 x1)]:OL (Hu p0 s1 p2) (Hu p0 s1' p2):=by unfold Hu;infer_instance
instance {p1 p2 p3 p5 p6 p8} {N M} [Up N M] {s4 s4'} [∀x0 x1,OL (s4 x0 x1) (s4' x0 x1)] {s7 s7'} [∀x0 x1,OL (s7 x0 x1) (s7' x0 x1)]:OL (Ei N p1 p2 p3 s4 p5 p6 s7 p8) (Ei M p1 p2 p3 s4' p5 p6 s7' p8):=by unfold Ei;infer_instance
instance {p1 p2 p3 p6 p7} {N M} [Up N M] {s4 s4'} [∀x0 x1,OL (s4 x0 x1) (s4' x0 x1)] {s5 s5'} [∀x0 x1,OL (s5 x0 x1) (s5' x0 x1)]:OL (FY N p1 p2 p3 s4 s5 p6 p7) (FY M p1 p2 p3 s4' s5' p6 p7):=by unfold FY;infer_instance
instance {p1 p2 p3} {N M} [Up N M] {s4 s4'} [∀x0 x1,OL (s4 x0 x1) (s4' x0 x1)] {k j} [Up k j] {y0 y1}:OL (EO N p1 p2 p3 s4 k y0 y1) (EO M p1 p2 p3 s4' j y0 y1):=VI fun n m _ _ y0 y1=>inferInstanceAs (OL (FY N p1 p2 p3 s4 (EO N p1 p2 p3 s4 n) y0 y1) (FY M p1 p2 p3 s4' (EO M p1 p2 p3 s4' m) y0 y1))
instance {p1 p3 p4} {N M} [Up N M] {s2 s2'} [∀x0 x1,OL (s2 x0 x1) (s2' x0 x1)]:OL (FZ N p1 s2 p3 p4) (FZ M p1 s2' p3 p4):=by unfold FZ;infer_instance
instance {p1} {N M} [Up N M] {k j} [Up k j] {y0 y1}:OL (CZ N p1 k y0 y1) (CZ M p1 j y0 y1):=VI fun n m _ _ y0 y1=>inferInstanceAs (OL (FZ N p1 (CZ N p1 n) y0 y1) (FZ M p1 (CZ M p1 m) y0 y1))
instance {p1} {N M} [Up N M]:OL (Id N p1) (Id M p1):=by unfold Id;infer_instance
instance {p1 p2 p3} {N M} [Up N M]:OL (Gv N p1 p2 p3) (Gv M p1 p2 p3):=by unfold Gv;infer_instance
instance {p1} {N M} [Up N M]:OL (Cq N p1) (Cq M p1):=by unfold Cq;infer_instance
theorem Qs{N M}(h:N≤M){a}: ∀x,Cq N a=some x→Cq M a=some x:=haveI:Up N M:=⟨h⟩;(inferInstance:OL (Cq N a) (Cq M a)).le
end Fth
namespace Fth
open Go
theorem ABS(k:Nat):H0 (k+200)=some true:=by kernel_rfl
theorem AAJ:Ev fun N=>H0 N=some true:=Ev.down 200 (Ev.all ABS)
theorem AAK{a:Ft}(h:a.args.length≤1048576): ∃x:AM×List AF×Bool,(WPt x.1∧LV x.2.1)∧Ev fun N=>Cq N a=some x:=by
 obtain ⟨x,hx,hq⟩:=AA8 (N:=20000000) h (Nat.le_refl _)
 exact ⟨x,hq,⟨20000000,fun N hN=>Qs hN x hx⟩⟩
end Fth
namespace Fth
open Go
def zO(n:HP):Nat×Nat:=bif n.raw then ((IntKind.u64.wrap n.re).toNat,(IntKind.u64.wrap n.im).toNat) else (FloatKind.f64.nearest n.re,FloatKind.f64.nearest n.im)
theorem ACk(n:HP):GZ n=some (zO n):=by
 unfold GZ zO
 cases n.raw<;>rfl
theorem ABX(n:HP):Wz (zO n):=by
 have w: ∀x:Int,(IntKind.u64.wrap x).toNat<2^64:=fun x=>by
  have:=bounds_u64 (wf_wrap .u64 x)
  omega
 have u: ∀a:Int,FloatKind.f64.nearest a<2^64:=fun a=>by
  have:=Ieee.Format.nearest_lt Ieee.double (decide (a<0)) a.natAbs 0
  rw [QH]
  exact this
 unfold zO
 cases n.raw
 ·exact ⟨u _,u _⟩
 ·exact ⟨w _,w _⟩
def vO(v:FA):AF:=⟨v.type_,zO v.num,v.bool,v.list.map zO⟩
theorem ACl{v:FA}(h:v.list.length≤1048576):GA (vO v):=by
 refine ⟨ABX _,fun z hz=>?_,by show (v.list.map zO).length≤_;rw [List.length_map];omega⟩
 obtain ⟨n,_,rfl⟩:=List.mem_map.1 hz
 exact ABX n
theorem ACu{v:FA}(h:v.list.length≤1048576):Ev fun N=>HJ N v=some (vO v):=by
 have loop: ∀(j i:Nat),i+j=v.list.length→Ev fun k=>H7 v v.type_ (zO v.num) v.bool k (i:Int) ((v.list.take i).map zO)=some (vO v):=by
  intro j
  induction j with
  |zero=>
   intro i hi
   refine Ev.down 1 (Ev.all fun k=>?_)
   show IP v v.type_ (zO v.num) v.bool (H7 v v.type_ (zO v.num) v.bool k) i _=_
   unfold IP
   rw [decide_eq_false (show¬(i:Int)< (v.list.length:Int) by omega),cond_false,List.take_of_length_le om];rfl
  |succ j ih=>
   intro i hi
   obtain ⟨n,hn⟩: ∃n,v.list[i]?=some n:=⟨_,List.getElem?_eq_getElem om⟩
   refine Ev.down 1 ((ih (i+1) om).mono fun k hk=>?_)
   show IP v v.type_ (zO v.num) v.bool (H7 v v.type_ (zO v.num) v.bool k) i _=_
   unfold IP
   obtain ⟨_,e1,_⟩:=GC (b:=16) (xs:=(v.list.take i).map zO) (ys:=[zO n]) (by decide) (by simp;omega)
   rw [decide_eq_true (show (i:Int)< (v.list.length:Int) by omega),cond_true,CI hn,Option.bind_some,ACk,Option.bind_some,e1,Option.bind_some,wr om om,show (i:Int)+1=((i+1:Nat):Int) by omega]
   rw [List.take_add_one,hn] at hk
   simpa using hk
 refine (loop v.list.length 0 om).mono fun N hN=>?_
 unfold HJ MC
 show ((GZ v.num).bind fun x=>_)=_
 rw [ACk,Option.bind_some]
 exact hN
theorem WN(a:Ft)(raw:List FA)(most:Int)(h:a.args.length≤1048576)(hr:raw.length≤1048576)(hv: ∀v∈raw,v.list.length≤1048576): ∃N,F6 N a raw most=some true:=by
 obtain ⟨x,⟨hpt,hl⟩,er⟩:=AAK h
 have hp:=hpt.wp
 have hav:=hl.av
 have hll:=hl.2
 have loop: ∀(j i:Nat) (l:List AF),i+j=raw.length→l.length=x.2.1.length+i→(∀v∈l,GA v∧v.list.length≤1048577)→EL (fun N k=>Ga N a raw most x k l (i:Int)) fun b=>b=true:=by
  intro j
  induction j with
  |zero=>
   intro i l hi hlen hg
   refine EL.down ?_
   show EL (fun N k=>G7 N a raw most x (Ga N a raw most x k) l i) _
   unfold G7
   refine EL.cond (fun h=>by have:=CR h;omega) fun _=>EL.cond (fun _=> .some rfl) fun _=>?_
   obtain ⟨r,hr,ec⟩:=ABQ (nm:=a.name) hp ⟨hg,om⟩ most
   refine EL.of ⟨true,rfl,(ec.and (ABR (AAH hr))).mono fun N hN=>?_⟩
   dsimp only
   rw [hN.1.1,Option.bind_some,hN.1.2,Option.bind_some,hN.2];rfl
  |succ j ih=>
   intro i l hi hlen hg
   refine EL.down ?_
   show EL (fun N k=>G7 N a raw most x (Ga N a raw most x k) l i) _
   unfold G7
   obtain ⟨v,hv'⟩: ∃v,raw[i]?=some v:=⟨_,List.getElem?_eq_getElem om⟩
   have hvl:=hv v (List.mem_of_getElem? hv')
   refine EL.cond (fun _=>EL.eq (CI hv') (EL.bind (f:=fun N=>HJ N v) (P:=fun y=>y=vO v) ⟨_,rfl,ACu hvl⟩ fun y hy=>?_)) fun h=>by have:=Dj h;omega
   subst hy
   refine EL.tb (GC (by decide) (by simp;omega)) fun _ _=>?_
   rw [wr om om,show (i:Int)+1=((i+1:Nat):Int) by omega]
   refine ih (i+1) _ om (by simp;omega) fun w hw=>?_
   rcases List.mem_append.1 hw with hw|hw
   ·exact hg w hw
   ·simp at hw;subst hw
    exact ⟨ACl hvl,by show (v.list.map zO).length≤_;rw [List.length_map];omega⟩
 obtain ⟨b,hb,e⟩:=(loop raw.length 0 x.2.1 om om hav.1).diag
 refine ((AAJ.and er).and e).mono (q:=fun N=>F6 N a raw most=some true) (fun N hN=>?_) |>.get
 unfold F6
 rw [hN.1.1,Option.bind_some,Bool.not_true,cond_false,hN.1.2,Option.bind_some]
 exact hb▸hN.2
end Fth
namespace Fth
open Go Go.Proofs Go.ChangeShapes Go.WideShapes Go.ChangeAt Go.RowKit
open Go.Proofs.YtiodboehkcmdnaaGreat
open Go.ChangeMaps (open_string shut_string)
open Go.Deep (trod_struct3_mk)
theorem ACY{n:Int}(h:(Lit.int .u8 n).wf=true):((UInt8.ofNat n.toNat).toNat:Int)=n:=by
 have h:0≤n∧n≤255:=by simpa [Lit.wf,IntKind.min,IntKind.max,IntKind.signed,IntKind.bits] using h
 simp only [UInt8.toNat_ofNat']
 omega
theorem Sg(s:ByteArray):bs s.data.toList=s:=by cases s;simp [bs]
section
variable{H:Type}{enc:TypeId×Value→H}{W:World}{base:Nat}
theorem AS.old{C C':Col}{W':World}(h:AS [] C W C' W'): ∀b,b<W.heap.size→W'.heap[b]?=W.heap[b]?:=fun b hb=>h.same b hb (by simp)
theorem AS.keptBut{C C':Col}{W':World}(h:AS [] C W C' W')(may:MemPlace→Prop):W.keptBut W' may:=by
 refine ⟨h.os,h.output,fun i hi=>?_⟩
 rw [h.old i hi]
 exact (World.keptBut_refl W may).2.2 i hi
theorem Yr{P:Program}{f:Func}{s:ChangeSpec}{apart fresh handsOn again:Bool}{W':World}{args:Array Value}{v:Value}{ds gs:List (DataW H)}{before pa:List MemPlace}{C C':Col}
  (hW:DataW.Whole enc P f.params.toList s.vars apart W args.toList ds gs before)
  (hres: ∀(b:Nat) (sp:Nat→Bool) (hd:Bool),DataW.TrodAll enc P W' b sp hd f.resultTypes.toList (v.resultList f.resultTypes.size) (s.fn H (ds++gs)).results [])
  (hargs: ∀sp:Nat→Bool,(∀p∈before,sp p.block=true)→DataW.TrodAll enc P W' 0 sp true f.params.toList args.toList (s.fn H (ds++gs)).args pa)
  (hvars: ∀sp:Nat→Bool,DataW.TrodVars enc P W' sp s.vars (s.fn H (ds++gs)).vars [])
  (hps:before=pa) (st:AS [] C W C' W')
  (hok: ∀(j:Nat) (t:TypeId) (r:Value),f.resultTypes[j]?=some t→(v.resultList f.resultTypes.size)[j]?=some r→Value.okWide P W' .any 0 t r):
  s.post enc P f apart fresh handsOn again W args v W':=by
 have hold: ∀p∈before,(fun b=>decide (b<W.heap.size)) p.block=true:=fun p hp=>by simpa using hW.lt p hp
 refine ⟨ds,gs,before,[],pa,[],hW,hres _ _ _,hargs _ hold,hvars _,World.keptBut_mono (fun p hp=>⟨hp,?_⟩) (st.keptBut (· ∈before)),fun _=>?_⟩
 ·rw [hps] at hp
  exact Or.inr (by simpa using hp)
 ·have hlt:=hW.lt
  obtain ⟨_,_,_,_,_,hz,hn⟩:=hW
  refine ⟨hok,_,_,([]++pa)++[],⟨[]++pa,[],trodAll_append (hargs _ (fun _ _=>rfl)) (hres _ _ _),hvars _,rfl,?_,?_⟩,?_⟩
  ·intro b off hp
   have hp':MemPlace.cell b off∈before:=by rw [hps];simpa using hp
   have hb:b<W.heap.size:=hlt _ hp'
   have:=hz b off hp'
   unfold World.frozen? at this ⊢
   rw [st.old b hb]
   exact this
  ·intro ha
   have:=hn ha
   rw [hps] at this
   simpa using this
  ·intro p hp _
   rw [hps]
   simpa using hp
set_option maxRecDepth 100000 in
theorem AAL{v:Value}{d:DataW H}{p:List MemPlace}(hv:Value.okWide Tryz.prog W .any base 24 v)(h:DataW.Trod enc Tryz.prog W 0 (fun _=>true) true 24 v d p):
  ∃(a:Ft) (c0:List Value),v= .agg c0.toArray∧MR.rep (Col.F fun _=>0) W c0 a∧a.args.length≤Rows.uptoBulk d∧a.text.length≤Rows.uptoBulk d∧a.name.length≤Rows.uptoBulk d∧
   ∀W':World,(∀b,b<W.heap.size→W'.heap[b]?=W.heap[b]?)→∀sp:Nat→Bool,(∀q∈p,sp q.block=true)→DataW.Trod enc Tryz.prog W' 0 sp true 24 v d p:=by
 obtain ⟨c0,c1,c2,y0,y1,y2,m,rfl,rfl,rfl,h0,h1,h2⟩:=Go.Joins.open_agg3 Tryz.underlying24 (by kernel_rfl) (by kernel_rfl) hv h
 obtain ⟨s1,e1,rfl,k1⟩:=DataW.trod_string Tryz.underlying9 h1
 obtain ⟨s2,e2,rfl,k2⟩:=DataW.trod_string Tryz.underlying9 h2
 simp only [List.cons.injEq,and_true] at e1 e2
 subst e1 e2
 have hstr: ∀(n:Nat) (W':World) (sp:Nat→Bool) (s:ByteArray),s.size≤maxLen→DataW.trod enc Tryz.prog W' 0 sp true (n+1) 9 [.string s]=some (.lit (.string s.data.toList),[]):=fun n W' sp s hs=>by
  obtain ⟨n',hn⟩:=shut_string (enc:=enc) (P:=Tryz.prog) (w:=W') (base:=0) (sp:=sp) (held:=true) Tryz.underlying9 hs
  cases n' with
  |zero=>simp [DataW.trod] at hn
  |succ n'=>
   simp only [DataW.trod,Value.cells,Tryz.underlying9] at hn ⊢
   exact hn
 have hcells:Tryz.prog.cellsOf 24=3:=by kernel_rfl
 have close: ∀(n:Nat) (W':World) (sp:Nat→Bool),DataW.trod enc Tryz.prog W' 0 sp true (n+1) 22 [c0]=some y0→
   DataW.Trod enc Tryz.prog W' 0 sp true 24 (.agg #[c0,.string s1,.string s2]) (.agg [y0.1,.lit (.string s1.data.toList),.lit (.string s2.data.toList)]) (y0.2++([]++[])):=fun n W' sp hn=>
  ⟨n+1+1,trod_struct3_mk (y1:=(.lit (.string s1.data.toList),[])) (y2:=(.lit (.string s2.data.toList),[])) Tryz.underlying24 (by rw [hcells];rfl) (by rw [show Tryz.prog.cellsOf 22=1 from by kernel_rfl];exact hn) (hstr n W' sp s1 k1) (hstr n W' sp s2 k2)⟩
 have l1:Rows.uptoBulk (.agg [y0.1,.lit (.string s1.data.toList),.lit (.string s2.data.toList)]:DataW H)=Rows.uptoBulk y0.1+(s1.data.toList.length+1)+(s2.data.toList.length+1)+1:=by
  simp only [Rows.uptoBulk,Rows.uptoBulkAll];omega
 rcases open_ints Tryz.underlying22 Tryz.underlying5 (by kernel_rfl) h0 with ⟨e,rfl⟩| ⟨a,len,cap,zs,e,hb,hl,hm,hz,rfl,hcell,hw⟩
 ·simp only [List.cons.injEq,and_true] at e
  subst e
  refine ⟨⟨[],s1.data.toList,s2.data.toList⟩,[.slice none 0 0,.string s1,.string s2],rfl,⟨_,by rw [Sg,Sg];rfl,none,0,rfl,Nat.le_refl _,.inl rfl⟩,?_,?_,?_,?_⟩
  ·rw [l1];show s2.data.toList.length≤_;omega
  ·rw [l1];show 0≤_;omega
  ·rw [l1];show s1.data.toList.length≤_;omega
  ·intro W' hW' sp hsp
   refine close 1 W' sp ?_
   rw [DataW.trod_step]
   simp only [DataW.trodStep,Tryz.underlying22]
 ·simp only [List.cons.injEq,and_true] at e
  subst e
  simp only [if_true] at hz
  have hlt: ∀i,i<zs.length→a.block<W.heap.size:=fun i hi=>by
   have:=World.block_lt_of_cell? _ _ (hcell i hi)
   simpa [block_add] using this
  refine ⟨⟨(zs.take len).map fun n=>UInt8.ofNat n.toNat,s1.data.toList,s2.data.toList⟩,[.slice (some a) len cap,.string s1,.string s2],rfl,⟨_,by rw [Sg,Sg],some a,cap,?_,?_,?_⟩,?_,?_,?_,?_⟩
  ·simp [hz,Nat.min_eq_left hl]
  ·simp [hz];omega
  ·by_cases h0:len=0
   ·subst h0;left;rfl
   ·right
    have h00:=hcell 0 om
    have hs:a.spot=none:=by simpa [Addr.add] using World.cell?_spot h00
    obtain ⟨b,off,spot⟩:=a
    simp only at hs
    subst hs
    refine ⟨b,off,rfl,rfl,hlt 0 om,fun i x hx=>?_⟩
    rw [List.getElem?_map] at hx
    obtain ⟨n,hn,rfl⟩:=Option.map_eq_some_iff.1 hx
    have hi:i<len:=by
     have:=(List.getElem?_eq_some_iff.1 hn).1
     simp at this;omega
    rw [List.getElem?_take_of_lt hi] at hn
    have hm':n∈zs:=List.mem_of_getElem? hn
    refine ⟨_,rfl,rfl,fun j c hj=>?_⟩
    match j,hj with
    |0,hj=>
     simp only [List.getElem?_cons_zero,Option.some.injEq] at hj
     subst hj
     have:=hcell i om
     rw [add_plain,show zs.getD i 0=n by simp [List.getD,hn]] at this
     show W.cell? ⟨b,off+i*1+0,none⟩=_
     rw [ACY (hw n hm')]
     simpa using this
  ·rw [l1];show s2.data.toList.length≤_;omega
  ·rw [l1]
   show ((zs.take len).map _).length≤_
   have h1:Rows.uptoBulk (.slice (lits .u8 (zs.take len)) (lits .u8 (zs.drop len)):DataW H)≥(zs.take len).length:=by
    have: ∀l:List Int,Rows.uptoBulkAll (lits .u8 l:List (DataW H))=l.length:=fun l=>by
     induction l with
     |nil=>rfl
     |cons x l ih=>
      have e:(lits .u8 (x::l):List (DataW H))= .lit (.int .u8 x)::lits .u8 l:=rfl
      rw [e];simp only [Rows.uptoBulkAll,Rows.uptoBulk,ih,List.length_cons];omega
    simp only [Rows.uptoBulk,this]
    omega
   rw [List.length_map]
   simp only
   omega
  ·rw [l1];show s1.data.toList.length≤_;omega
  ·intro W' hW' sp hsp
   refine close 1 W' sp ?_
   refine shut_ints 0 Tryz.underlying22 Tryz.underlying5 (by kernel_rfl) (Nat.zero_le _) hl hm ?_ ?_ hw
   ·by_cases h0:zs.length=0
    ·split<;>omega
    ·have:sp a.block=true:=hsp (.cell a.block (a.off+0)) (by
      simp only [List.append_nil,MemPlace.row,List.mem_map,List.mem_range]
      exact ⟨0,om,rfl⟩)
     rw [if_pos this];exact hz
   ·intro i hi
    rw [World.cell?_of_block (w:=W) (a:=a.add i) (by rw [block_add];exact hW' _ (hlt i hi))]
    exact hcell i hi
end
end Fth
namespace Fth
open Go Go.Proofs Go.ChangeShapes Go.WideShapes Go.ChangeAt Go.RowKit
open Go.Proofs.YtiodboehkcmdnaaGreat
section
variable{H:Type}{enc:TypeId×Value→H}{W:World}{base:Nat}
theorem AAM{l:List (DataW H)}{d:DataW H}(h:d∈l):Rows.uptoBulk d≤Rows.uptoBulkAll l:=by
 induction l with
 |nil=>cases h
 |cons x l ih=>
  rw [Rows.uptoBulkAll]
  rcases List.mem_cons.1 h with rfl|h
  ·omega
  ·have:=ih h;omega
theorem AAN(d:DataW H):1≤Rows.uptoBulk d:=by
 cases d with
 |lit l=>cases l<;>simp [Rows.uptoBulk]
 |_=>simp [Rows.uptoBulk]
theorem AAO(l:List (DataW H)):l.length≤Rows.uptoBulkAll l:=by
 induction l with
 |nil=>simp
 |cons x l ih=>have:=AAN x;simp only [Rows.uptoBulkAll,List.length_cons];omega
theorem XM{P:Program}{α:Type}(κ:Kd α)(q:α→Nat){t e:TypeId}{fuel:Nat}{cs:List Value}{x:DataW H×List MemPlace}(ht:P.underlying t=some (.slice e))(hc:P.cellsOf e=κ.size)(hpos:0<κ.size)
  (h:DataW.trod enc P W 0 (fun _=>true) true fuel t cs=some x)
  (el: ∀n cs' y,DataW.trod enc P W 0 (fun _=>true) true n e cs'=some y→∃z,κ.rep (Col.F fun _=>0) W cs' z∧q z≤Rows.uptoBulk y.1):
  ∃s xs,cs=[s]∧Kd.slcRep κ.size κ.rep (Col.F fun _=>0) W s xs∧xs.length≤Rows.uptoBulk x.1∧∀z∈xs,q z≤Rows.uptoBulk x.1:=by
 rcases Go.Deep.open_slice ht h with ⟨rfl,rfl⟩| ⟨a,len,cap,m,n,D,Pl,rfl,_,hl,_,hm,rfl,hel⟩
 ·exact ⟨_,[],rfl,⟨none,0,rfl,Nat.le_refl _,.inl rfl⟩,Nat.zero_le _,fun z hz=>by cases hz⟩
 ·simp only [if_true] at hm
  subst hm
  have hz: ∀i,i<len→∃z,(∃cs',W.cells? 0 (a.add (i*κ.size)) κ.size=some cs'∧κ.rep (Col.F fun _=>0) W cs' z)∧q z≤Rows.uptoBulk (D i):=fun i hi=>by
   obtain ⟨cs',h1,h2⟩:=hel i om
   obtain ⟨z,h3,h4⟩:=el _ _ _ h2
   rw [hc] at h1
   exact ⟨z,⟨cs',h1,h3⟩,h4⟩
  have hex: ∃xs:List α,xs.length=len∧∀i z,xs[i]?=some z→(∃cs',W.cells? 0 (a.add (i*κ.size)) κ.size=some cs'∧κ.rep (Col.F fun _=>0) W cs' z)∧q z≤Rows.uptoBulk (D i):=by
   refine ⟨(List.range len).attach.map fun i=>Classical.choose (hz i.1 (List.mem_range.1 i.2)),by simp,fun i z hi=>?_⟩
   rw [List.getElem?_map] at hi
   obtain ⟨y,hy,rfl⟩:=Option.map_eq_some_iff.1 hi
   have hy2:y.1=i:=by
    have:=congrArg (Option.map Subtype.val) hy
    rw [←List.getElem?_map,List.attach_map_subtype_val] at this
    have hlt:=(List.getElem?_eq_some_iff.1 this).1
    rw [List.getElem?_eq_getElem hlt] at this
    simpa using this.symm
   have:=Classical.choose_spec (hz y.1 (List.mem_range.1 y.2))
   rw [←hy2]
   exact this
  obtain ⟨xs,hxl,hxs⟩:=hex
  have hb: ∀i,i<len→Rows.uptoBulk (D i)≤Rows.uptoBulkAll ((List.range len).map D):=fun i hi=>AAM (List.mem_map.2 ⟨i,List.mem_range.2 hi,rfl⟩)
  have hlen:=AAO ((List.range len).map D)
  rw [List.length_map,List.length_range] at hlen
  refine ⟨_,xs,rfl,⟨some a,m,by rw [hxl],by rw [hxl];exact hl,?_⟩,?_,fun z hz=>?_⟩
  ·by_cases h0:len=0
   ·left;exact List.eq_nil_of_length_eq_zero om
   ·right
    have c0:=hxs 0 _ (List.getElem?_eq_getElem (show 0<xs.length by omega))
    obtain ⟨⟨cs0,k0,_⟩,_⟩:=c0
    have hlt:=World.cells?_block k0 hpos
    have k1:=(World.cells?_some k0).2.2 0 hpos
    have hcs0:=(World.cells?_some k0).2.1
    have hspot:a.spot=none:=by
     rw [List.getElem?_eq_getElem (show 0<cs0.length by omega)] at k1
     simpa [Addr.add] using World.cell?_spot k1
    obtain ⟨b,off,spot⟩:=a
    simp only at hspot
    subst hspot
    refine ⟨b,off,rfl,rfl,by simpa [Addr.add] using hlt,fun i z hz=>?_⟩
    obtain ⟨⟨cs',k2,k3⟩,_⟩:=hxs i z hz
    have k4:=World.cells?_some k2
    refine ⟨cs',k3,k4.2.1,fun j c hj=>?_⟩
    have hj':=(List.getElem?_eq_some_iff.1 hj).1
    have:=k4.2.2 j om
    rw [hj,add_plain,add_plain] at this
    exact this
  ·rw [hxl,Rows.uptoBulk];omega
  ·obtain ⟨i,hi⟩:=List.getElem?_of_mem hz
   have hilt:=(List.getElem?_eq_some_iff.1 hi).1
   have:=(hxs i z hi).2
   have:=hb i om
   rw [Rows.uptoBulk];omega
theorem N1{cs:List Value}{k:Nat}{v:Value}(h:(cs.drop k).take 1=[v]):cs[k]?=some v:=by
 have:((cs.drop k).take 1)[0]?=some v:=by rw [h];rfl
 rw [List.getElem?_take_of_lt (by decide),List.getElem?_drop] at this
 exact this
set_option maxRecDepth 100000 in
theorem XN{n:Nat}{cs:List Value}{y:DataW H×List MemPlace}(h:DataW.trod enc Tryz.prog W 0 (fun _=>true) true n 45 cs=some y): ∃z:HP,In.rep (Col.F fun _=>0) W cs z∧0≤Rows.uptoBulk y.1:=by
 obtain ⟨y0,y1,y2,n,rfl,hl,h0,h1,h2⟩:=Go.Deep.trod_struct3 Tryz.underlying45 h
 rw [show Tryz.prog.cellsOf 45=3 by kernel_rfl] at hl
 obtain ⟨a,ea,_,_⟩:=DataW.trod_int Tryz.underlying3 h0
 obtain ⟨b,eb,_,_⟩:=DataW.trod_int Tryz.underlying3 h1
 obtain ⟨c,ec,_⟩:=DataW.trod_bool Tryz.underlying4 h2
 rw [show Tryz.prog.cellsOf 3=1 by kernel_rfl] at ea eb
 rw [show Tryz.prog.cellsOf 4=1 by kernel_rfl] at ec
 have g0:=N1 ea;have g1:=N1 eb;have g2:=N1 ec
 match cs,hl with
 | [v0,v1,v2],_=>
  simp at g0 g1 g2
  subst g0 g1 g2
  exact ⟨⟨a,b,c⟩,rfl,Nat.zero_le _⟩
set_option maxRecDepth 100000 in
theorem AAP{n:Nat}{cs:List Value}{y:DataW H×List MemPlace}(h:DataW.trod enc Tryz.prog W 0 (fun _=>true) true n 48 cs=some y): ∃z:FA,J0.rep (Col.F fun _=>0) W cs z∧z.list.length≤Rows.uptoBulk y.1:=by
 obtain ⟨y0,y1,y2,y3,n,rfl,hl,h0,h1,h2,h3⟩:=Go.Joins.trod_struct4 Tryz.underlying48 h
 rw [show Tryz.prog.cellsOf 48=6 by kernel_rfl] at hl
 obtain ⟨a,ea,_,_⟩:=DataW.trod_int Tryz.underlying3 h0
 obtain ⟨u,hu,_⟩:=XN h1
 obtain ⟨c,ec,_⟩:=DataW.trod_bool Tryz.underlying4 h2
 obtain ⟨s,xs,es,hs,hx,_⟩:=XM In (fun _=>0) Tryz.underlying46 (by kernel_rfl) (by decide) h3 fun n cs' y hy=>XN hy
 rw [show Tryz.prog.cellsOf 3=1 by kernel_rfl] at ea
 rw [show Tryz.prog.cellsOf 4=1 by kernel_rfl] at ec
 rw [show Tryz.prog.cellsOf 45=3 by kernel_rfl] at hu
 rw [show Tryz.prog.cellsOf 46=1 by kernel_rfl] at es
 have g0:=N1 ea;have g2:=N1 ec;have g3:=N1 es
 match cs,hl with
 | [v0,v1,v2,v3,v4,v5],_=>
  have hu':[v1,v2,v3]=[.int .i64 u.re,.int .i64 u.im,.bool u.raw]:=hu
  simp at g0 g2 g3 hu'
  obtain ⟨rfl,rfl,rfl⟩:=hu'
  subst g0 g2 g3
  refine ⟨⟨a,u,c,xs⟩,⟨_,rfl,hs⟩,?_⟩
  show xs.length≤_
  simp only [Rows.uptoBulk,Rows.uptoBulkAll]
  omega
set_option maxRecDepth 100000 in
theorem AAQ{v:Value}{d:DataW H}{p:List MemPlace}(hv:Value.okWide Tryz.prog W .any base 43 v)(h:DataW.Trod enc Tryz.prog W 0 (fun _=>true) true 43 v d p):
  ∃xs:List FA,Kd.slcRep J0.size J0.rep (Col.F fun _=>0) W v xs∧xs.length≤Rows.uptoBulk d∧(∀z∈xs,z.list.length≤Rows.uptoBulk d)∧
   ∀W':World,(∀b,b<W.heap.size→W'.heap[b]?=W.heap[b]?)→(∀q∈p,q.block<W.heap.size)→∀sp:Nat→Bool,(∀q∈p,sp q.block=true)→DataW.Trod enc Tryz.prog W' 0 sp true 43 v d p:=by
 obtain ⟨a,len,cap,rfl⟩:=okWide_slice Tryz.underlying43 hv
 obtain ⟨fuel,hf⟩:=h
 obtain ⟨s,xs,es,hs,hx,hq⟩:=XM J0 (fun z=>z.list.length) Tryz.underlying43 (by kernel_rfl) (by decide) hf fun n cs' y hy=>AAP hy
 have:s= .slice a len cap:=by
  have e:(Value.slice a len cap).cells.toList=[Value.slice a len cap]:=rfl
  rw [e] at es
  simpa using es.symm
 subst this
 refine ⟨xs,hs,hx,hq,fun W' hW' hp sp hsp=>⟨fuel,?_⟩⟩
 refine DataW.trod_stays (x:=(d,p)) (kids_rows (P:=Tryz.prog) (by kernel_rfl) (by kernel_rfl)) ?_ (fun h=>by cases h) (by decide+kernel) hf (fun q hq=>?_) hsp
 ·intro t e ht he
  have hz:((List.range Tryz.prog.types.size).all fun t=>(Tryz.prog.underlying t).elim true fun d=>match d with | .slice e=>Nat.blt 0 (Tryz.prog.cellsOf e)|_=>true)=true:=by kernel_rfl
  have:=List.all_eq_true.1 hz t (List.mem_range.2 ht)
  rw [he] at this
  simpa using this
 ·have hb:=hp q hq
  cases q with
  |cell b off=>exact World.cell?_of_block (w:=W) (a:=⟨b,off,none⟩) (hW' b hb)
  |map b=>exact hW' b hb
end
end Fth
namespace Go.Proofs.YtiodboehkcmdnaaGreat.meanRaw
open Go Go.ChangeShapes Go.WideShapes Go.ChangeAt Go.RowKit Fth
set_option linter.unusedVariables false
theorem own:ownKnob Tryz.prog.godebug=none:=by kernel_rfl
set_option maxRecDepth 100000 in
theorem contract(H:Type)(enc:TypeId×Value→H)(W:World)(base:Nat)(args:Array Value)(ds gs:List (DataW H))(before:List MemPlace)
  (hval: ∀(j:Nat) t v,Tryz.f4.params[j]?=some t→args[j]?=some v→Value.okWide Tryz.prog W .any base t v)
  (hW:DataW.Whole enc Tryz.prog Tryz.f4.params.toList Rows.meanRawSpec.vars false W args.toList ds gs before) (hk:Rows.uptoSmall H (ds++gs)=true):
  Calls Tryz.prog 4 args W fun e W'=>∃v,e= .returned v∧Rows.meanRawSpec.post enc Tryz.prog Tryz.f4 false true false false W args v W':=by
 have hW':=hW
 have hlt:=hW.lt
 obtain ⟨p,q,hA0,hV,rfl,hfz,hnd⟩:=hW
 have hA:DataW.TrodAll enc Tryz.prog W 0 (fun _=>true) true Tryz.f4.params.toList args.toList ds p:=hA0
 rw [Tryz.params4] at hA hval
 obtain ⟨v0,vs0,d0,ds0,p0,q0,hargs,rfl,rfl,h0,r0⟩:=trodAll_cons hA
 obtain ⟨v1,vs1,d1,ds1,p1,q1,rfl,rfl,rfl,h1,r1⟩:=trodAll_cons r0
 obtain ⟨v2,vs2,d2,ds2,p2,q2,rfl,rfl,rfl,h2,r2⟩:=trodAll_cons r1
 obtain ⟨rfl,rfl,rfl⟩:=trodAll_nil r2
 obtain rfl:args=#[v0,v1,v2]:=by cases args;simp_all
 obtain ⟨rfl,rfl⟩:=trodVars_none hV
 obtain ⟨n2,rfl,rfl,rfl,w2⟩:=open_int Tryz.underlying3 (hval 2 3 v2 rfl rfl) h2
 obtain ⟨a,c0,rfl,ha,l1,_,_,hcl⟩:=AAL (hval 0 24 v0 rfl rfl) h0
 obtain ⟨raw,hraw,l2,l3,hcr⟩:=AAQ (hval 1 43 v1 rfl rfl) h1
 clear hA0
 have hb:Rows.uptoBulkAll (d0::d1::[.lit (.int .i64 n2)])≤1048576:=by
  have h:Rows.uptoBulkAll (d0::d1::[.lit (.int .i64 n2)]++[])≤1048576:=of_decide_eq_true hk
  simpa using h
 rw [Rows.uptoBulkAll,Rows.uptoBulkAll] at hb
 obtain ⟨N,hN⟩:=WN a raw n2 (by omega) (by omega) (fun z hz=>by have:=l3 z hz;omega)
 refine (RL N (fun _=>0) W hN ha hraw).mono ?_
 rintro e W' ⟨C',rfl,st⟩
 refine ⟨_,rfl,Yr (pa:=p0++(p1++([]++[]))) hW' (fun _ _ _=>trodAll_cons_mk (shut_bool Tryz.underlying4 _) trodAll_mk0) (fun sp hsp=>?_) (fun _=>rfl) (by simp) st (ok_one (by kernel_rfl) rfl (okWide_bool_mk Tryz.underlying4 _))⟩
 exact trodAll_cons_mk (hcl W' st.old sp (fun q hq=>hsp q (by simp [hq]))) (trodAll_cons_mk (hcr W' st.old (fun q hq=>hlt q (by simp [hq])) sp (fun q hq=>hsp q (by simp [hq]))) (trodAll_cons_mk (shut_int Tryz.underlying3 w2) trodAll_mk0))
set_option maxRecDepth 100000 in
theorem lifted(os:Os)(started:os.Started)(H:Type)(enc:TypeId×Value→H)(F:Stop.Interp):
  ReturnsInHanded {} Tryz.checked os 4 .any ((Rows.OpenSpec.upto Rows.meanRawSpec).pre6 enc Tryz.prog Tryz.f4 Rows.meanRawUptoRow.domain false) (((Rows.OpenSpec.upto Rows.meanRawSpec).at F).post enc Tryz.prog Tryz.f4 false true false false):=by
 refine returnsInHanded_of_cond (C:=Tryz.checked) (s:=Rows.OpenSpec.upto Rows.meanRawSpec) (k:=Rows.uptoSmall) rfl own started (by kernel_rfl) Tryz.func4
  (OpenSpec.witness (enc:=enc) (C:=Tryz.checked) (s:=Rows.OpenSpec.upto Rows.meanRawSpec) (k:=Rows.uptoSmall) rfl false ⟨#[],#[.agg #[.slice none 0 0,.string .empty,.string .empty],.slice none 0 0,.int .i64 0],[]⟩ 8 (by kernel_rfl) (by kernel_rfl) (by kernel_rfl)
   (x:=([.agg [.nil,.lit (.string []),.lit (.string [])],.nil,.lit (.int .i64 0)],[],[])) (by kernel_rfl) rfl (by kernel_rfl)) ?_
 intro W base args ds gs before hval hW _ hk _
 exact contract H enc W base args ds gs before hval hW hk
theorem proved:Rows.MeanRawUptoSaid:=
 OpenClaim.holds_of_cond 4 Tryz.f4 rfl rfl rfl rfl rfl rfl rfl ⟨rfl,rfl,rfl,rfl,rfl⟩ rfl rfl rfl rfl rfl (by kernel_rfl) Tryz.func4 (by kernel_rfl)
  (of_decide_eq_true (by kernel_rfl)) (by unfold Func.isWrapper;first| (rw [if_pos (by decide+kernel)];kernel_rfl)| (rw [if_neg (by decide+kernel)];exact ⟨rfl,rfl⟩))
  (fun os started H enc _ F=>lifted os started H enc F)
end Go.Proofs.YtiodboehkcmdnaaGreat.meanRaw
