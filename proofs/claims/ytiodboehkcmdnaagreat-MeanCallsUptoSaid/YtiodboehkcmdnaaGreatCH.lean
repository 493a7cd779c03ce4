/-
  fathomlaw11.MeanCalls, WHERE WHAT IT READS IS OF BULK AT MOST 1048576: for every text, name and line of arguments, for every number the Go function returns true, and its input reads as it did. No condition beside the statement's own.
-/
import Derived.KernelRfl
import Derived.Test.YtiodboehkcmdnaaGreatRows
import Derived.WalkKit
import Derived.ProofKit
import Derived.OpenShut
import Derived.JoinedCond
import Derived.Lib.SmallJoins
import Derived.Test.YtiodboehkcmdnaaGreatCG
set_option linter.all false
set_option exponentiation.threshold 3000
namespace Fth
open Go
theorem ABW{α:Type}{P:Nat→α→Prop}{a b:α}:(∀i x,[a,b][i]?=some x→P i x)↔P 0 a∧P 1 b:=by
 constructor
 ·intro h;exact ⟨h 0 a rfl,h 1 b rfl⟩
 ·intro h i x hx
  match i,hx with
  |0,hx=>cases hx;exact h.1
  |1,hx=>cases hx;exact h.2
theorem ABk{α:Type}{P:Nat→α→Prop}{a b c:α}:(∀i x,[a,b,c][i]?=some x→P i x)↔P 0 a∧P 1 b∧P 2 c:=by
 constructor
 ·intro h;exact ⟨h 0 a rfl,h 1 b rfl,h 2 c rfl⟩
 ·intro h i x hx
  match i,hx with
  |0,hx=>cases hx;exact h.1
  |1,hx=>cases hx;exact h.2.1
  |2,hx=>cases hx;exact h.2.2
section
variable{p:AM}
theorem AAR(hlen:p.funcs.length≤50000)(flt:AD):ET (fun N=>Kg N p flt) fun r=>r.2.1=p.funcs∧Pl p r.2.2.2:=by
 have loop: ∀(i:Nat),i≤p.funcs.length→∀(m:Aq),(∀nm,((∀k f,i≤k→p.funcs[k]?=some f→f.name≠nm)∧Cr m nm=0)∨∃(k:Nat) (f:AO),i≤k∧p.funcs[k]?=some f∧f.name=nm∧(∀k' f',i≤k'→k'<k→p.funcs[k']?=some f'→f'.name≠nm)∧Cr m nm=(k:Int)+1)→
   EL (fun _N k=>IT p k ((i:Int) - 1) m) fun r=>r.2.1=p.funcs∧Pl p r.2.2.2:=by
  intro i
  induction i with
  |zero=>
   intro _ m hm
   refine EL.down ?_
   show EL (fun _N k=>Ii p (IT p k) (((0:Nat):Int) - 1) m) _
   unfold Ii
   refine EL.cond (fun h=>by have:=CZ h;omega) fun _=> .some ⟨rfl,fun nm=>?_⟩
   rcases hm nm with ⟨h1,h2⟩| ⟨k,f,_,h2,h3,h4,h5⟩
   ·refine .inl ⟨Vj fun h=>?_,h2⟩
    obtain ⟨f,hf,hfn⟩:=List.mem_map.1 h
    obtain ⟨k,hk⟩:=List.mem_iff_getElem?.1 hf
    exact h1 k f (Nat.zero_le _) hk hfn
   ·refine .inr ⟨k,f,h2,SC h2 h3 fun h=>?_,h5⟩
    obtain ⟨g,hg,hgn⟩:=List.mem_map.1 h
    rw [List.mem_take_iff_getElem] at hg
    obtain ⟨q,hq,hqe⟩:=hg
    exact h4 q g (Nat.zero_le _) om (by rw [List.getElem?_eq_getElem om,hqe]) hgn
  |succ i ih=>
   intro hi m hm
   obtain ⟨f,hf⟩: ∃f,p.funcs[i]?=some f:=⟨_,List.getElem?_eq_getElem om⟩
   refine EL.down ?_
   show EL (fun _N k=>Ii p (IT p k) (((i+1:Nat):Int) - 1) m) _
   unfold Ii
   rw [show ((i+1:Nat):Int) - 1=(i:Int) by omega]
   refine EL.cond (fun _=>?_) fun h=>by have:=D5 h;omega
   refine EL.eq (CL hf) ?_
   rw [wr om om,wr om om]
   refine ih om _ fun nm=>?_
   rw [Mj]
   cases hn:(nm==f.name)
   ·have hne:nm≠f.name:=by simpa using hn
    rw [cond_false]
    rcases hm nm with ⟨h1,h2⟩| ⟨k,g,h1,h2,h3,h4,h5⟩
    ·refine .inl ⟨fun k g hk hg e=>?_,h2⟩
     rcases Nat.eq_or_lt_of_le hk with rfl|hlt
     ·rw [hf] at hg;cases hg;exact hne e.symm
     ·exact h1 k g hlt hg e
    ·refine .inr ⟨k,g,om,h2,h3,fun k' g' hk1 hk2 hg' e=>?_,h5⟩
     rcases Nat.eq_or_lt_of_le hk1 with rfl|hlt
     ·rw [hf] at hg';cases hg';exact hne e.symm
     ·exact h4 k' g' hlt hk2 hg' e
   ·have hne:nm=f.name:=by simpa using hn
    rw [cond_true]
    exact .inr ⟨i,f,Nat.le_refl _,hf,hne.symm,fun k' g' h1 h2=>om,rfl⟩
 have:=(loop p.funcs.length (Nat.le_refl _) [] fun nm=> .inl ⟨fun k f hk hf=>by have:=(List.getElem?_eq_some_iff.1 hf).1;omega,Tl nm⟩).diag
 refine this.cg fun N=>?_
 unfold Kg
 rw [wr om om]
theorem ZS{a:Int}{flt:AD}:T (Fx a flt) fun r=>r.why≠0:=by
 unfold Fx Jq
 exact T.cond (fun _=>T.cond (fun _=> .some (show (34:Int)≠0 by decide)) fun h=>by cases h) fun h=>T.cond (fun _=> .some (show (34:Int)≠0 by decide)) fun _=> .some (B0 h)
theorem ZT{e:AE}{t o:Int}{fs:List AO}{env:List AJ}{y a:Int}:T (CY e t o fs env y a) fun r=>r.1=fs∧r.2.1=env∧(r.2.2.why=0↔y=0∧o=t):=by
 unfold CY
 refine T.cond (fun h=>T.bind ZS fun r hr=> .some ⟨rfl,rfl,fun h'=>absurd h' hr,fun h'=>absurd h'.2 (Lf h)⟩) fun h=> .some ⟨rfl,rfl,fun h'=>⟨h',J1 h⟩,fun h'=>h'.1⟩
def Wn(p:AM)(Γ:List AJ)(flt:AD)(A:Prop)(r:List AO×List AJ×AD):Prop:=r.1=p.funcs∧r.2.1=Γ.reverse∧(r.2.2.why=0↔flt.why=0∧A)
def Wo(p:AM)(Γ:List AJ)(flt:AD)(t:Int)(A:Prop)(r:Int×List AO×List AJ×AD):Prop:=r.2.1=p.funcs∧r.2.2.1=Γ.reverse∧((r.2.2.2.why=0∧r.1=t)↔flt.why=0∧A)
theorem ABX{Γ:List AJ}{e:AE}{fs:List AO}{flt:AD}(hl:Γ.length≤1000000000): ∀(Γ2 Γ1:List AJ),Γ=Γ1++Γ2→∀k,Γ2.length<k→FC fs Γ.reverse flt e k ((Γ2.length:Int) - 1)=some ((Q1 Γ2 e.name).getD 0,fs,Γ.reverse,flt):=by
 intro Γ2
 induction Γ2 with
 |nil=>
  intro Γ1 h k hk
  obtain ⟨k,rfl⟩: ∃j,k=j+1:=⟨k - 1,by simp at hk;omega⟩
  rfl
 |cons x Γ2 ih=>
  intro Γ1 h k hk
  obtain ⟨k,rfl⟩: ∃j,k=j+1:=⟨k - 1,by simp at hk;omega⟩
  show HH fs Γ.reverse flt e (FC fs Γ.reverse flt e k) (((x::Γ2).length:Int) - 1)=_
  unfold HH
  have hlen:Γ2.length<1000000000:=by rw [h] at hl;simp at hl;omega
  have e1:(((x::Γ2).length:Nat):Int) - 1=(Γ2.length:Int):=by simp
  have hat:Γ.reverse[Γ2.length]?=some x:=by rw [h];exact ZN _ _ _
  rw [e1,show decide ((Γ2.length:Int)≥0)=true from decide_eq_true om,cond_true,CL hat,Option.bind_some,Option.bind_some,wr om om]
  unfold Q1
  rw [List.find?_cons]
  cases hn:(x.name==e.name)
  ·rw [cond_false]
   exact ih (Γ1++[x]) (by rw [h];simp) k (by simp at hk;omega)
  ·rfl
variable(hp:WP p){mp:Aq}(hmp:Pl p mp)
include hp hmp
theorem ZU: ∀(n:Nat) (e:AE),E0 e≤n→n≤10000000→WE e→∀(Γ:List AJ) (t:Int) (flt:AD),TyE Γ→Γ.length+2*n≤1000000000→1≤t∧t≤3→
  ET (fun N=>types_checker_want N p.funcs Γ.reverse mp flt e t) (Wn p Γ flt (WTy p Γ e t)):=by
 intro n
 induction n with
 |zero=>intro e he;have:=Mh e;omega
 |succ n ih=>
  intro e hen hn he Γ t flt hΓ hl ht
  have hal:=M1 e.args
  have hes:=PA e
  have hfl:=hp.len
  have mem: ∀{i:Nat} {a:AE},e.args[i]?=some a→WE a∧E0 a≤n:=fun h=>⟨he.sub _ (List.mem_of_getElem? h),by have:=N6 (List.mem_of_getElem? h);omega⟩
  have one: ∀{i:Nat} {a:AE},e.args[i]?=some a→∀(Δ:List AJ) (u:Int) (flt:AD),TyE Δ→Δ.length≤Γ.length+2→1≤u∧u≤3→ET (fun N=>types_checker_want N p.funcs Δ.reverse mp flt a u) (Wn p Δ flt (WTy p Δ a u)):=
   fun h Δ u flt h1 h2 h3=>ih _ (mem h).2 om (mem h).1 Δ u flt h1 om h3
  have alls: ∀(l:List AE),(∀a∈l,a∈e.args)→l.length≤e.args.length→∀(u:Int) (flt:AD),1≤u∧u≤3→ET (fun N=>types_checker_all N p.funcs Γ.reverse mp flt u l) (Wn p Γ flt (∀a∈l,WTy p Γ a u)):=by
   intro l hl1 hl2 u flt hu
   refine ET.down ?_
   show ET (fun N=>Dx (AF.at N) mp u l N 0 p.funcs Γ.reverse flt.why flt.at_) _
   have loop: ∀(j i:Nat),i+j=l.length→∀(fs:List AO) (env:List AJ) (f:AD),fs=p.funcs→env=Γ.reverse→EL (fun N k=>Dx (AF.at N) mp u l k (i:Int) fs env f.why f.at_) (Wn p Γ f (∀i' a,i≤i'→l[i']?=some a→WTy p Γ a u)):=by
    intro j
    induction j with
    |zero=>
     intro i hi fs env f hfs henv
     subst hfs;subst henv
     refine EL.down ?_
     show EL (fun N k=>En (AF.at N) mp u l (Dx (AF.at N) mp u l k) i p.funcs Γ.reverse f.why f.at_) _
     unfold En
     refine EL.cond (fun h=>by have:=CZ h;omega) fun _=> .some ⟨rfl,rfl,fun h=>⟨h,fun i' a hi' ha=>by have:=(List.getElem?_eq_some_iff.1 ha).1;omega⟩,fun h=>h.1⟩
    |succ j ihj=>
     intro i hi fs env f hfs henv
     subst hfs;subst henv
     obtain ⟨a,ha⟩: ∃a,l[i]?=some a:=⟨_,List.getElem?_eq_getElem om⟩
     obtain ⟨q,hq⟩:=List.mem_iff_getElem?.1 (hl1 a (List.mem_of_getElem? ha))
     refine EL.down ?_
     show EL (fun N k=>En (AF.at N) mp u l (Dx (AF.at N) mp u l k) i p.funcs Γ.reverse f.why f.at_) _
     unfold En
     refine EL.cond (fun _=>?_) fun h=>by have:=D5 h;omega
     refine EL.eq (CL ha) (EL.bind (one hq Γ u ⟨f.why,f.at_⟩ hΓ om hu) fun r hr=>?_)
     rw [wr om om,show (i:Int)+1=((i+1:Nat):Int) by omega]
     refine (ihj (i+1) om r.1 r.2.1 r.2.2 hr.1 hr.2.1).mono fun w hw=>⟨hw.1,hw.2.1,hw.2.2.trans ?_⟩
     rw [hr.2.2]
     constructor
     ·rintro ⟨⟨h1,h2⟩,h3⟩
      refine ⟨h1,fun i' b hi' hb=>?_⟩
      rcases Nat.eq_or_lt_of_le hi' with rfl|hlt
      ·rw [ha] at hb;cases hb;exact h2
      ·exact h3 i' b hlt hb
     ·rintro ⟨h1,h2⟩
      exact ⟨⟨h1,h2 i a (Nat.le_refl _) ha⟩,fun i' b hi' hb=>h2 i' b om hb⟩
   refine (loop l.length 0 om p.funcs Γ.reverse flt rfl rfl).diag.mono fun r hr=>⟨hr.1,hr.2.1,hr.2.2.trans ?_⟩
   constructor
   ·rintro ⟨h1,h2⟩
    refine ⟨h1,fun a ha=>?_⟩
    obtain ⟨i,hi⟩:=List.mem_iff_getElem?.1 ha
    exact h2 i a (Nat.zero_le _) hi
   ·rintro ⟨h1,h2⟩
    exact ⟨h1,fun i a _ ha=>h2 a (List.mem_of_getElem? ha)⟩
  have last: ∀(r:List AO×List AJ×AD) (f:AD) (A:Prop),Wn p Γ f A r→(f.why=0↔flt.why=0)→(A↔WTy p Γ e t)→T (CY e t t r.1 r.2.1 r.2.2.why r.2.2.at_) (Wn p Γ flt (WTy p Γ e t)):=by
   intro r f A hr hf hA
   refine ZT.mono fun w hw=>⟨hw.1.trans hr.1,hw.2.1.trans hr.2.1,hw.2.2.trans ?_⟩
   rw [hr.2.2,hA,hf]
   exact ⟨fun h=>h.1,fun h=>⟨h,rfl⟩⟩
  refine ET.down ?_
  show ET (fun N=>GH (AF.at N) N p.funcs Γ.reverse mp flt e t) _
  unfold GH
  have ow:19≤e.op∧e.op≤22→OwT p Γ e t:=fun h=>⟨fun h=>om,fun h=>om,fun h=>om,fun h=>om,fun h=>om,fun h=>om⟩
  have har:=he.ar
  refine ET.cond (fun h=>?_) fun h19=>ET.cond (fun h=>?_) fun h20=>ET.cond (fun h=>?_) fun h21=>ET.cond (fun h=>?_) fun h22=>?_
  ·
   have ho:=CH h
   obtain ⟨a,b,d,ha⟩:=Tj (l:=e.args) (by unfold Ar at har;omega)
   have ea:e.args[0]?=some a:=by rw [ha];rfl
   have eb:e.args[1]?=some b:=by rw [ha];rfl
   have ed:e.args[2]?=some d:=by rw [ha];rfl
   have hsub:sub e.args 1 (e.args.length:Int)=some [b,d]:=by rw [ha];rfl
   refine ET.eq (CL (i:=0) ea) (ET.bind (one ea Γ 2 flt hΓ om om) fun r hr=>ET.eq hsub ?_)
   rw [hr.1,hr.2.1]
   refine ET.bind (alls [b,d] (fun x hx=>by rw [ha];simp at hx ⊢;rcases hx with rfl|rfl<;>simp) (by rw [ha];simp) t r.2.2 ht) fun r2 hr2=> .of ?_
   refine last r2 flt (WTy p Γ a 2∧∀x∈[b,d],WTy p Γ x t) ⟨hr2.1,hr2.2.1,by rw [hr2.2.2,hr.2.2];exact and_assoc⟩ Iff.rfl ?_
   have e1: ∀i,Win Γ e i=Γ:=fun i=>by unfold Win;rw [if_neg om,if_neg om]
   have e2: ∀i,Wan p e i t=if i=0 then 2 else t:=fun i=>by unfold Wan;rw [if_neg om,if_neg om,if_neg om,if_pos ho]
   rw [MM (e:=e),ha,ABk,e1,e1,e1,e2,e2,e2]
   simp only [List.mem_cons,List.not_mem_nil,or_false,forall_eq_or_imp,forall_eq]
   exact ⟨fun h=>⟨ow om,h.1,h.2.1,h.2.2⟩,fun h=>⟨h.2.1,h.2.2.1,h.2.2.2⟩⟩
  ·
   have ho:=CH h
   obtain ⟨a,b,d,ha⟩:=Tj (l:=e.args) (by unfold Ar at har;omega)
   have ea:e.args[0]?=some a:=by rw [ha];rfl
   have eb:e.args[1]?=some b:=by rw [ha];rfl
   have ed:e.args[2]?=some d:=by rw [ha];rfl
   have e1: ∀i,i≠2→Win Γ e i=Γ:=fun i hi=>by unfold Win;rw [if_neg om,if_neg om]
   have e1':Win Γ e 2=⟨e.tail,3,0⟩::⟨e.name,1,0⟩::Γ:=by unfold Win;rw [if_neg om,if_pos ⟨ho,rfl⟩]
   have e2: ∀i,Wan p e i t=if i=0 then 3 else t:=fun i=>by unfold Wan;rw [if_neg om,if_neg om,if_neg om,if_neg om,if_pos ho]
   have hwin:=Vk hΓ he 2
   rw [e1'] at hwin
   refine ET.eq (CL (i:=0) ea) (ET.bind (one ea Γ 3 flt hΓ om om) fun r hr=>ET.eq (CL (i:=1) eb) ?_)
   rw [hr.1,hr.2.1]
   refine ET.bind (one eb Γ t r.2.2 hΓ om ht) fun r2 hr2=>?_
   rw [hr2.1,hr2.2.1]
   refine ET.bind (P:=Wn p Γ r2.2.2 (WTy p (⟨e.tail,3,0⟩::⟨e.name,1,0⟩::Γ) d t)) ?_ fun r3 hr3=> .of ?_
   ·refine ET.down ?_
    show ET (fun N=>HN (AF.at N) N p.funcs Γ.reverse mp r2.2.2 e t [⟨e.name,1,0⟩,⟨e.tail,3,0⟩]) _
    unfold HN
    refine ET.tb (Gy (by decide) (by simp;omega)) fun _ _=>?_
    refine ET.bind (P:=Wn p (⟨e.tail,3,0⟩::⟨e.name,1,0⟩::Γ) r2.2.2 (WTy p (⟨e.tail,3,0⟩::⟨e.name,1,0⟩::Γ) d t)) ?_ fun w hw=>?_
    ·refine ET.down ?_
     have hrev:Γ.reverse++[⟨e.name,1,0⟩,⟨e.tail,3,0⟩]=(⟨e.tail,3,0⟩::⟨e.name,1,0⟩::Γ:List AJ).reverse:=by simp
     rw [hrev]
     show ET (fun N=>FZ (AF.at N) N p.funcs (⟨e.tail,3,0⟩::⟨e.name,1,0⟩::Γ:List AJ).reverse mp r2.2.2 e t) _
     unfold FZ
     exact ET.eq (CL (i:=2) ed) (ET.bind (one ed _ t r2.2.2 hwin.1 hwin.2 ht) fun w hw=> .some hw)
    ·refine ET.tb (P:=fun x=>x=Γ.reverse) ?_ fun x hx=> .some ⟨hw.1,hx,hw.2.2⟩
     refine (NY om om (by rw [hw.2.1];simp;omega)).mono fun x hx=>?_
     rw [hx,hw.2.1];simp
   ·refine last r3 flt (WTy p Γ a 3∧WTy p Γ b t∧WTy p (⟨e.tail,3,0⟩::⟨e.name,1,0⟩::Γ) d t) ⟨hr3.1,hr3.2.1,by rw [hr3.2.2,hr2.2.2,hr.2.2,and_assoc,and_assoc]⟩ Iff.rfl ?_
    rw [MM (e:=e),ha,ABk,e1 0 om,e1 1 om,e1',e2,e2,e2]
    exact ⟨fun h=>⟨ow om,h.1,h.2.1,h.2.2⟩,fun h=>⟨h.2.1,h.2.2.1,h.2.2.2⟩⟩
  ·
   have ho:=CH h
   obtain ⟨a,b,ha⟩:=Q2 (l:=e.args) (by unfold Ar at har;omega)
   have ea:e.args[0]?=some a:=by rw [ha];rfl
   have eb:e.args[1]?=some b:=by rw [ha];rfl
   have e1: ∀i,Win Γ e i=⟨e.name,e.type_,0⟩::Γ:=fun i=>by unfold Win;rw [if_pos (.inl ho)]
   have e2: ∀i,Wan p e i t=if i=0 then e.type_ else t:=fun i=>by unfold Wan;rw [if_neg om,if_neg om,if_neg om,if_neg om,if_neg om,if_pos om]
   have hwin:=Vk hΓ he 0
   rw [e1] at hwin
   have het:=he.typ om
   refine ET.bind (P:=Wn p Γ flt (WTy p (⟨e.name,e.type_,0⟩::Γ) a e.type_∧WTy p (⟨e.name,e.type_,0⟩::Γ) b t)) ?_ fun r3 hr3=> .of ?_
   ·refine ET.down ?_
    show ET (fun N=>GI (AF.at N) N p.funcs Γ.reverse mp flt e t [⟨e.name,e.type_,0⟩]) _
    unfold GI
    refine ET.tb (Gy (by decide) (by simp;omega)) fun _ _=>?_
    refine ET.bind (P:=Wn p (⟨e.name,e.type_,0⟩::Γ) flt (WTy p (⟨e.name,e.type_,0⟩::Γ) a e.type_∧WTy p (⟨e.name,e.type_,0⟩::Γ) b t)) ?_ fun w hw=>?_
    ·refine ET.down ?_
     have hrev:Γ.reverse++[⟨e.name,e.type_,0⟩]=(⟨e.name,e.type_,0⟩::Γ:List AJ).reverse:=by simp
     rw [hrev]
     show ET (fun N=>Fa (AF.at N) N p.funcs (⟨e.name,e.type_,0⟩::Γ:List AJ).reverse mp flt e t) _
     unfold Fa
     refine ET.eq (CL (i:=0) ea) (ET.bind (one ea _ e.type_ flt hwin.1 hwin.2 het) fun w hw=>ET.eq (CL (i:=1) eb) ?_)
     rw [hw.1,hw.2.1]
     exact ET.bind (one eb _ t w.2.2 hwin.1 hwin.2 ht) fun w2 hw2=> .some ⟨hw2.1,hw2.2.1,by rw [hw2.2.2,hw.2.2];exact and_assoc⟩
    ·refine ET.tb (P:=fun x=>x=Γ.reverse) ?_ fun x hx=> .some ⟨hw.1,hx,hw.2.2⟩
     refine (NY om om (by rw [hw.2.1];simp;omega)).mono fun x hx=>?_
     rw [hx,hw.2.1];simp
   ·refine last r3 flt _ hr3 Iff.rfl ?_
    rw [MM (e:=e),ha,ABW,e1,e1,e2,e2]
    exact ⟨fun h=>⟨ow om,h.1,h.2⟩,fun h=>⟨h.2.1,h.2.2⟩⟩
  ·
   have ho:=CH h
   obtain ⟨a,b,ha⟩:=Q2 (l:=e.args) (by unfold Ar at har;omega)
   have ea:e.args[0]?=some a:=by rw [ha];rfl
   have eb:e.args[1]?=some b:=by rw [ha];rfl
   have e1:Win Γ e 0=Γ:=by unfold Win;rw [if_neg om,if_neg om]
   have e1':Win Γ e 1=⟨e.name,e.type_,0⟩::Γ:=by unfold Win;rw [if_pos (.inr ⟨ho,rfl⟩)]
   have e2: ∀i,Wan p e i t=if i=0 then e.type_ else t:=fun i=>by unfold Wan;rw [if_neg om,if_neg om,if_neg om,if_neg om,if_neg om,if_pos om]
   have hwin:=Vk hΓ he 1
   rw [e1'] at hwin
   have het:=he.typ om
   refine ET.eq (CL (i:=0) ea) (ET.bind (one ea Γ e.type_ flt hΓ om het) fun r hr=>?_)
   rw [hr.1,hr.2.1]
   refine ET.bind (P:=Wn p Γ r.2.2 (WTy p (⟨e.name,e.type_,0⟩::Γ) b t)) ?_ fun r3 hr3=> .of ?_
   ·refine ET.down ?_
    show ET (fun N=>GJ (AF.at N) N p.funcs Γ.reverse mp r.2.2 e t [⟨e.name,e.type_,0⟩]) _
    unfold GJ
    refine ET.tb (Gy (by decide) (by simp;omega)) fun _ _=>?_
    refine ET.bind (P:=Wn p (⟨e.name,e.type_,0⟩::Γ) r.2.2 (WTy p (⟨e.name,e.type_,0⟩::Γ) b t)) ?_ fun w hw=>?_
    ·refine ET.down ?_
     have hrev:Γ.reverse++[⟨e.name,e.type_,0⟩]=(⟨e.name,e.type_,0⟩::Γ:List AJ).reverse:=by simp
     rw [hrev]
     show ET (fun N=>Fb (AF.at N) N p.funcs (⟨e.name,e.type_,0⟩::Γ:List AJ).reverse mp r.2.2 e t) _
     unfold Fb
     exact ET.eq (CL (i:=1) eb) (ET.bind (one eb _ t r.2.2 hwin.1 hwin.2 ht) fun w hw=> .some hw)
    ·refine ET.tb (P:=fun x=>x=Γ.reverse) ?_ fun x hx=> .some ⟨hw.1,hx,hw.2.2⟩
     refine (NY om om (by rw [hw.2.1];simp;omega)).mono fun x hx=>?_
     rw [hx,hw.2.1];simp
   ·refine last r3 flt (WTy p Γ a e.type_∧WTy p (⟨e.name,e.type_,0⟩::Γ) b t) ⟨hr3.1,hr3.2.1,by rw [hr3.2.2,hr.2.2];exact and_assoc⟩ Iff.rfl ?_
    rw [MM (e:=e),ha,ABW,e1,e1',e2,e2]
    exact ⟨fun h=>⟨ow om,h.1,h.2⟩,fun h=>⟨h.2.1,h.2.2⟩⟩
  ·
   have h19:=B0 h19;have h20:=B0 h20;have h21:=B0 h21;have h22:=B0 h22
   have hop:1≤e.op∧e.op≤18:=by unfold Ar at har;omega
   have e1: ∀i,Win Γ e i=Γ:=fun i=>by unfold Win;rw [if_neg om,if_neg om]
   have fin:ET (fun N=>types_checker_own N p.funcs Γ.reverse mp flt e) (Wo p Γ flt t (WTy p Γ e t))→ET (fun N=>((AF.at N).types_checker_own p.funcs Γ.reverse mp flt e).bind fun x2165=>CY e t x2165.1 x2165.2.1 x2165.2.2.1 x2165.2.2.2.why x2165.2.2.2.at_) (Wn p Γ flt (WTy p Γ e t)):=fun h=>
    ET.bind h fun r hr=> .of (ZT.mono fun w hw=>⟨hw.1.trans hr.1,hw.2.1.trans hr.2.1,hw.2.2.trans hr.2.2⟩)
   refine fin (ET.down ?_)
   show ET (fun N=>Gz (AF.at N) N p.funcs Γ.reverse mp flt e) _
   have leaf: ∀(o:Int),e.args=[]→((o=t)↔OwT p Γ e t)→Wo p Γ flt t (WTy p Γ e t) (o,p.funcs,Γ.reverse,flt):=fun o ha ho=>⟨rfl,rfl,by
    rw [MM (e:=e),ha]
    exact ⟨fun h=>⟨h.1,ho.1 h.2,fun i a h=>by simp at h⟩,fun h=>⟨h.1,ho.2 h.2.1⟩⟩⟩
   have nil_of:(1≤e.op∧e.op≤6)→e.args=[]:=fun h=>List.length_eq_zero_iff.1 (by unfold Ar at har;omega)
   unfold Gz
   have j1t:(e.op=2∨e.op=3)→ET (fun N=>FD (AF.at N) N p.funcs Γ.reverse mp flt e true) (Wo p Γ flt t (WTy p Γ e t)):=by
    intro ho
    unfold FD
    refine ET.cond (fun _=> .some (leaf 2 (nil_of om) ⟨fun h=>⟨fun h=>om,fun _=>h.symm,fun h=>om,fun h=>om,fun h=>om,fun h=>om⟩,fun h=>(h.b om).symm⟩)) fun h=>by cases h
   refine ET.cond (fun h=>by rw [h];exact j1t (.inl (CH h))) fun h2=>?_
   have h2:=B0 h2
   cases h3:(e.op==3)
   rotate_left
   ·exact j1t (.inr (CH h3))
   have h3:=B0 h3
   unfold FD
   refine ET.cond (fun h=>by cases h) fun _=>ET.cond (fun h=> .some ?_) fun h4=>ET.cond (fun h=> .some ?_) fun h5=>ET.cond (fun h=>?_) fun h6=>ET.cond (fun h=>?_) fun h7=>ET.cond (fun h=>?_) fun h14=>ET.cond (fun h=>?_) fun h18=>?_
   ·have ho:=CH h
    exact leaf 3 (nil_of om) ⟨fun h=>⟨fun h=>om,fun h=>om,fun _=>h.symm,fun h=>om,fun h=>om,fun h=>om⟩,fun h=>(h.l om).symm⟩
   ·have ho:=CH h
    exact leaf e.type_ (nil_of om) ⟨fun h=>⟨fun h=>om,fun h=>om,fun h=>om,fun _=>h.symm,fun h=>om,fun h=>om⟩,fun h=>(h.f ho).symm⟩
   ·have ho:=CH h
    refine RF (Γ.length+2) ⟨((Q1 Γ e.name).getD 0,p.funcs,Γ.reverse,flt),leaf _ (nil_of om) ⟨fun h=>⟨fun h=>om,fun h=>om,fun h=>om,fun h=>om,fun _=>?_,fun h=>om⟩,fun h=>?_⟩,fun N hN=>?_⟩
    ·cases hlk:Q1 Γ e.name with
     |none=>rw [hlk] at h;simp at h;omega
     |some u=>rw [hlk] at h;simp at h;rw [h]
    ·rw [h.v ho];rfl
    ·have:=ABX (e:=e) (fs:=p.funcs) (flt:=flt) (Γ:=Γ) om Γ [] rfl N om
     rw [wr (by simp;omega) (by simp;omega),List.length_reverse]
     exact this
   ·
    have ho:=CH h
    have hwan: ∀f,hd p e.name=some f→∀i x,f.params[i]?=some x→Wan p e i t=x.type_:=fun f hf i x hx=>by
     unfold Wan
     rw [if_neg om,if_neg om,if_pos ho,hf]
     show (match f.params[i]? with |some x=>x.type_|none=>1)=_
     rw [hx]
    refine ET.bind (P:=Wo p Γ flt t (WTy p Γ e t)) ?_ fun r hr=> .some hr
    refine ET.down ?_
    show ET (fun N=>GK (AF.at N) N p.funcs Γ.reverse mp flt e) _
    have bad: ¬WTy p Γ e t→Wo p Γ flt t (WTy p Γ e t) (0,p.funcs,Γ.reverse,flt):=fun h=>⟨rfl,rfl,fun h'=>by have:(0:Int)=t:=h'.2;omega,fun h'=>absurd h'.2 h⟩
    unfold GK
    rcases hmp e.name with ⟨hn0,h0⟩| ⟨i,f,hi,hf,hm⟩
    ·rw [h0]
     refine ET.cond (fun _=>?_) fun h=>by cases h
     unfold Fn
     refine ET.cond (fun _=> .some (bad fun h=>?_)) fun h=>by cases h
     obtain ⟨g,hg,_⟩:=h.own.c ho
     rw [hn0] at hg;cases hg
    ·have hil:=(List.getElem?_eq_some_iff.1 hi).1
     have hfn:=hp.fns f (List.mem_of_find?_eq_some hf)
     have hfp:=hfn.pars
     rw [hm]
     refine ET.cond (fun h=>by have:=CH h;omega) fun _=>?_
     rw [wr (x:=(i:Int)+1 - 1) om om,show (i:Int)+1 - 1=(i:Int) by omega]
     refine ET.eq (CL hi) ?_
     unfold Fn
     refine ET.cond (fun h=> .some (bad fun h'=>?_)) fun h=>?_
     ·obtain ⟨g,hg,hgl,_⟩:=h'.own.c ho
      rw [hf] at hg;cases hg
      exact absurd (congrArg Int.ofNat hgl) (Lf h)
     have hfl:f.params.length=e.args.length:=by have:=J1 h;omega
     rw [hm,wr (x:=(i:Int)+1 - 1) om om,show (i:Int)+1 - 1=(i:Int) by omega]
     refine ET.eq (CL hi) ?_
     have loop: ∀(j q:Nat),q+j=f.params.length→∀(fs:List AO) (env:List AJ) (f2:AD),fs=p.funcs→env=Γ.reverse→EL (fun N k=>D8 (AF.at N) mp e f k (q:Int) fs env f2.why f2.at_) fun r=>r.1=f.type_∧r.2.1=p.funcs∧r.2.2.1=Γ.reverse∧(r.2.2.2.why=0↔f2.why=0∧∀i' a,q≤i'→e.args[i']?=some a→WTy p Γ a (Wan p e i' t)):=by
      intro j
      induction j with
      |zero=>
       intro q hq fs env f2 hfs henv
       subst hfs;subst henv
       refine EL.down ?_
       show EL (fun N k=>EW (AF.at N) mp e f (D8 (AF.at N) mp e f k) q p.funcs Γ.reverse f2.why f2.at_) _
       unfold EW
       refine EL.cond (fun h=>by have:=CZ h;omega) fun _=>?_
       rw [hm,wr (x:=(i:Int)+1 - 1) om om,show (i:Int)+1 - 1=(i:Int) by omega]
       exact EL.eq (CL hi) (.some ⟨rfl,rfl,rfl,fun h=>⟨h,fun i' a hi' ha=>by have:=(List.getElem?_eq_some_iff.1 ha).1;omega⟩,fun h=>h.1⟩)
      |succ j ihj=>
       intro q hq fs env f2 hfs henv
       subst hfs;subst henv
       obtain ⟨x,hx⟩: ∃x,f.params[q]?=some x:=⟨_,List.getElem?_eq_getElem om⟩
       obtain ⟨a,ha⟩: ∃a,e.args[q]?=some a:=⟨_,List.getElem?_eq_getElem om⟩
       have hxt:=hfn.ptyp x (List.mem_of_getElem? hx)
       refine EL.down ?_
       show EL (fun N k=>EW (AF.at N) mp e f (D8 (AF.at N) mp e f k) q p.funcs Γ.reverse f2.why f2.at_) _
       unfold EW
       refine EL.cond (fun _=>?_) fun h=>by have:=D5 h;omega
       refine EL.eq (CL hx) (EL.eq (CL ha) (EL.bind (one ha Γ x.type_ ⟨f2.why,f2.at_⟩ hΓ om hxt) fun w hw=>?_))
       rw [wr om om,show (q:Int)+1=((q+1:Nat):Int) by omega]
       refine (ihj (q+1) om w.1 w.2.1 w.2.2 hw.1 hw.2.1).mono fun r hr=>⟨hr.1,hr.2.1,hr.2.2.1,hr.2.2.2.trans ?_⟩
       rw [hw.2.2]
       constructor
       ·rintro ⟨⟨h1,h2⟩,h3⟩
        refine ⟨h1,fun i' b hi' hb=>?_⟩
        rcases Nat.eq_or_lt_of_le hi' with rfl|hlt
        ·rw [ha] at hb;cases hb;rw [hwan f hf q x hx];exact h2
        ·exact h3 i' b hlt hb
       ·rintro ⟨h1,h2⟩
        exact ⟨⟨h1,by have:=h2 q a (Nat.le_refl _) ha;rwa [hwan f hf q x hx] at this⟩,fun i' b hi' hb=>h2 i' b om hb⟩
     refine (loop f.params.length 0 om p.funcs Γ.reverse flt rfl rfl).diag.mono fun r hr=>⟨hr.2.1,hr.2.2.1,?_⟩
     rw [hr.1,hr.2.2.2,MM (e:=e)]
     simp only [e1]
     constructor
     ·rintro ⟨⟨h1,h2⟩,h3⟩
      exact ⟨h1,⟨fun h=>om,fun h=>om,fun h=>om,fun h=>om,fun h=>om,fun _=>⟨f,hf,hfl,h3⟩⟩,fun i a ha=>h2 i a (Nat.zero_le _) ha⟩
     ·rintro ⟨h1,h2,h3⟩
      obtain ⟨g,hg,_,hgt⟩:=h2.c ho
      rw [hf] at hg;cases hg
      exact ⟨⟨h1,fun i a _ ha=>h3 i a ha⟩,hgt⟩
   ·
    have ho:=CH h
    refine ET.bind (alls e.args (fun a h=>h) (Nat.le_refl _) 2 flt om) fun r hr=> .some ⟨hr.1,hr.2.1,?_⟩
    have e2: ∀i,Wan p e i t=2:=fun i=>by unfold Wan;rw [if_pos ho]
    show (r.2.2.why=0∧(2:Int)=t)↔_
    rw [hr.2.2,MM (e:=e)]
    simp only [e1,e2]
    constructor
    ·rintro ⟨⟨h1,h2⟩,h3⟩
     exact ⟨h1,⟨fun h=>om,fun _=>h3.symm,fun h=>om,fun h=>om,fun h=>om,fun h=>om⟩,fun i a ha=>h2 a (List.mem_of_getElem? ha)⟩
    ·rintro ⟨h1,h2,h3⟩
     refine ⟨⟨h1,fun a ha=>?_⟩,(h2.b om).symm⟩
     obtain ⟨i,hi⟩:=List.mem_iff_getElem?.1 ha
     exact h3 i a hi
   ·
    have ho:=CH h
    obtain ⟨a,b,ha⟩:=Q2 (l:=e.args) (by unfold Ar at har;omega)
    have ea:e.args[0]?=some a:=by rw [ha];rfl
    have eb:e.args[1]?=some b:=by rw [ha];rfl
    have e2:Wan p e 0 t=1:=by unfold Wan;rw [if_neg om,if_neg om,if_neg om,if_neg om,if_neg om,if_neg om]
    have e3:Wan p e 1 t=3:=by unfold Wan;rw [if_neg om,if_pos ⟨ho,rfl⟩]
    refine ET.eq (CL (i:=0) ea) (ET.bind (one ea Γ 1 flt hΓ om om) fun r hr=>ET.eq (CL (i:=1) eb) ?_)
    rw [hr.1,hr.2.1]
    refine ET.bind (one eb Γ 3 r.2.2 hΓ om om) fun r2 hr2=> .some ⟨hr2.1,hr2.2.1,?_⟩
    show (r2.2.2.why=0∧(3:Int)=t)↔_
    rw [hr2.2.2,hr.2.2,MM (e:=e),ha,ABW,e1,e1,e2,e3]
    constructor
    ·rintro ⟨⟨⟨h1,h2⟩,h3⟩,h4⟩
     exact ⟨h1,⟨fun h=>om,fun h=>om,fun _=>h4.symm,fun h=>om,fun h=>om,fun h=>om⟩,h2,h3⟩
    ·rintro ⟨h1,h2,h3,h4⟩
     exact ⟨⟨⟨h1,h3⟩,h4⟩,(h2.l om).symm⟩
   ·
    have h4:=B0 h4;have h5:=B0 h5;have h6:=B0 h6;have h7:=B0 h7;have h14:=B0 h14;have h18:=B0 h18
    have e2: ∀i,Wan p e i t=1:=fun i=>by unfold Wan;rw [if_neg om,if_neg om,if_neg om,if_neg om,if_neg om,if_neg om]
    refine ET.bind (alls e.args (fun a h=>h) (Nat.le_refl _) 1 flt om) fun r hr=>?_
    have out: ∀o:Int,(o=t↔OwT p Γ e t)→Wo p Γ flt t (WTy p Γ e t) (o,r.1,r.2.1,r.2.2):=fun o ho=>⟨hr.1,hr.2.1,by
     show (r.2.2.why=0∧o=t)↔_
     rw [hr.2.2,MM (e:=e),ho]
     simp only [e1,e2]
     constructor
     ·rintro ⟨⟨h1,h2⟩,h3⟩
      exact ⟨h1,h3,fun i a ha=>h2 a (List.mem_of_getElem? ha)⟩
     ·rintro ⟨h1,h2,h3⟩
      refine ⟨⟨h1,fun a ha=>?_⟩,h2⟩
      obtain ⟨i,hi⟩:=List.mem_iff_getElem?.1 ha
      exact h3 i a hi⟩
    have two':(e.op=12∨e.op=13)→ET (fun _N=>Hp r true) (Wo p Γ flt t (WTy p Γ e t)):=fun ho=>
     .some (out 2 ⟨fun h=>⟨fun h=>om,fun _=>h.symm,fun h=>om,fun h=>om,fun h=>om,fun h=>om⟩,fun h=>(h.b om).symm⟩)
    refine ET.cond (fun h=>two' (.inl (CH h))) fun h12=>?_
    have h12:=B0 h12
    cases h13:(e.op==13)
    ·have h13:=B0 h13
     exact .some (out 1 ⟨fun h=>⟨fun _=>h.symm,fun h=>om,fun h=>om,fun h=>om,fun h=>om,fun h=>om⟩,fun h=>(h.n om).symm⟩)
    ·exact two' (.inr (CH h13))
end
theorem AAS{p:AM}(hp:WP p):ET (fun N=>G4 N p) fun r=>r.why=0↔Tm p:=by
 have hb: ∀f∈p.funcs,E0 f.body≤1000000∧f.params.length≤1000000:=fun f hf=>⟨(hp.fns f hf).size,(hp.fns f hf).pars⟩
 have hlen:=hp.len
 unfold G4
 refine ET.bind (AAM hlen hb) fun r hr=>ET.cond (fun h=> .some ⟨fun h'=>absurd h' (Lf h),fun h'=>hr.2 h'.1⟩) fun h=>?_
 have h:=J1 h
 have hsc:=hr.1 h
 refine ET.bind (AAR hlen r) fun o ho=>?_
 have fns: ∀(j i:Nat),i+j=p.funcs.length→∀(f0:AD) (fs:List AO) (env:List AJ),fs=p.funcs→EL (fun N k=>Hq N p o k (i:Int) f0.why f0.at_ fs env) fun r=>r.why=0↔f0.why=0∧∀i' f,i≤i'→p.funcs[i']?=some f→WTy p f.params.reverse f.body f.type_:=by
  intro j
  induction j with
  |zero=>
   intro i hi f0 fs env hfs
   refine EL.down ?_
   show EL (fun N k=>H6 N p o (Hq N p o k) i f0.why f0.at_ fs env) _
   unfold H6
   exact EL.cond (fun h=>by have:=CZ h;omega) fun _=> .some ⟨fun h=>⟨h,fun i' f hi' hf=>by have:=(List.getElem?_eq_some_iff.1 hf).1;omega⟩,fun h=>h.1⟩
  |succ j ihj=>
   intro i hi f0 fs env hfs
   subst hfs
   obtain ⟨f,hf⟩: ∃f,p.funcs[i]?=some f:=⟨_,List.getElem?_eq_getElem om⟩
   have hfn:=hp.fns f (List.mem_of_getElem? hf)
   have hfs:=hfn.size
   have hfp:=hfn.pars
   refine EL.down ?_
   show EL (fun N k=>H6 N p o (Hq N p o k) i f0.why f0.at_ p.funcs env) _
   unfold H6
   refine EL.cond (fun _=>?_) fun h=>by have:=D5 h;omega
   refine EL.eq (CL hf) (EL.tb (Gy (by decide) (by simp;omega)) fun _ _=>?_)
   rw [Py,List.nil_append]
   have hΓ:TyE f.params.reverse:=fun x hx=>hfn.ptyp x (List.mem_reverse.1 hx)
   have hw:=ZU hp ho.2 (E0 f.body) f.body (Nat.le_refl _) om hfn.body f.params.reverse f.type_ ⟨f0.why,f0.at_⟩ hΓ (by rw [List.length_reverse];omega) hfn.typ
   rw [List.reverse_reverse] at hw
   refine EL.bind hw fun w hw=>?_
   rw [wr om om,show (i:Int)+1=((i+1:Nat):Int) by omega]
   refine (ihj (i+1) om w.2.2 w.1 w.2.1 hw.1).mono fun r hr=>hr.trans ?_
   rw [hw.2.2]
   constructor
   ·rintro ⟨⟨h1,h2⟩,h3⟩
    refine ⟨h1,fun i' g hi' hg=>?_⟩
    rcases Nat.eq_or_lt_of_le hi' with rfl|hlt
    ·rw [hf] at hg;cases hg;exact h2
    ·exact h3 i' g hlt hg
   ·rintro ⟨h1,h2⟩
    exact ⟨⟨h1,h2 i f (Nat.le_refl _) hf⟩,fun i' g hi' hg=>h2 i' g om hg⟩
 refine (fns p.funcs.length 0 om r o.2.1 o.2.2.1 ho.1).diag.mono fun q hq=>hq.trans ⟨fun h'=>⟨hsc,fun f hf=>?_⟩,fun h'=>⟨h,fun i' f _ hf=>h'.2 f (List.mem_of_getElem? hf)⟩⟩
 obtain ⟨i,hi⟩:=List.mem_iff_getElem?.1 hf
 exact h'.2 i f (Nat.zero_le _) hi
end Fth
namespace Fth
open Go
def gv(v:AG):Th:=if v.type_=3 then v.list.foldr (fun z t=> .done v0 (.done ⟨1,z,false,[]⟩ .nil .nil) t) (.done ⟨3,(0,0),false,[]⟩ .nil .nil) else .done v .nil .nil
theorem Wf{v:AG}{N:Nat}(hl:v.list.length≤1000000000)(hN:v.list.length+2≤N):Il N v=some (gv v)∧Hw N v=some (gv v):=by
 have loop: ∀(l2 l1:List (Nat×Nat)),v.list=l1++l2→∀k,l1.length<k→
   JT v k (l2.foldr (fun z t=> .done v0 (.done ⟨1,z,false,[]⟩ .nil .nil) t) (.done ⟨3,(0,0),false,[]⟩ .nil .nil)) ((l1.length:Int) - 1)=some (v.list.foldr (fun z t=> .done v0 (.done ⟨1,z,false,[]⟩ .nil .nil) t) (.done ⟨3,(0,0),false,[]⟩ .nil .nil))∧
   Iu v k (l2.foldr (fun z t=> .done v0 (.done ⟨1,z,false,[]⟩ .nil .nil) t) (.done ⟨3,(0,0),false,[]⟩ .nil .nil)) ((l1.length:Int) - 1)=some (v.list.foldr (fun z t=> .done v0 (.done ⟨1,z,false,[]⟩ .nil .nil) t) (.done ⟨3,(0,0),false,[]⟩ .nil .nil)):=by
  intro l2 l1
  induction hn:l1.length generalizing l1 l2 with
  |zero=>
   intro h k hk
   obtain ⟨k,rfl⟩: ∃j,k=j+1:=⟨k - 1,om⟩
   have:l1=[]:=List.length_eq_zero_iff.1 hn
   subst this
   rw [h]
   exact ⟨rfl,rfl⟩
  |succ n ih=>
   intro h k hk
   obtain ⟨k,rfl⟩: ∃j,k=j+1:=⟨k - 1,om⟩
   have hne:l1≠[]:=fun e=>by subst e;cases hn
   obtain ⟨l0,z,rfl⟩: ∃l0 z,l1=l0++[z]:=⟨l1.dropLast,l1.getLast hne,(List.dropLast_concat_getLast hne).symm⟩
   have hl0:l0.length=n:=by simp at hn;exact hn
   have hz:v.list[n]?=some z:=by rw [h,List.append_assoc,List.getElem?_append_right om,hl0];simp
   have hnl:n<v.list.length:=(List.getElem?_eq_some_iff.1 hz).1
   have ihh:=ih (z::l2) l0 hl0 (by rw [h];simp) k om
   have e1:((n+1:Nat):Int) - 1=(n:Int):=om
   rw [e1]
   constructor
   ·show Kj v (JT v k) _ (n:Int)=_
    unfold Kj
    rw [show decide ((n:Int)≥0)=true from decide_eq_true om,cond_true,CL hz,Option.bind_some,wr om om]
    exact ihh.1
   ·show KL v (Iu v k) _ (n:Int)=_
    unfold KL
    rw [show decide ((n:Int)≥0)=true from decide_eq_true om,cond_true,CL hz,Option.bind_some,wr om om]
    exact ihh.2
 unfold Il Hw gv
 cases h:(v.type_ != 3)
 ·have h:=J1 h
  rw [if_pos h,wr om om]
  have:=loop [] v.list (by simp) N om
  exact this
 ·have h:=Lf h
  rw [if_neg h]
  exact ⟨rfl,rfl⟩
theorem ABY{p:AM}{L:Nat}{v:AG}(h:VV v.type_ v)(hl:v.list.length+1<L):TOK p L v.type_ (gv v):=by
 unfold gv
 rcases Decidable.em (v.type_=3) with h3|h3
 ·rw [if_pos h3]
  have hg: ∀z∈v.list,Gn z:=by
   rcases h with ⟨e,_⟩| ⟨e,_⟩| ⟨_,_,_,_,h⟩
   ·omega
   ·omega
   ·exact h
  rw [h3]
  have key: ∀l:List (Nat×Nat),(∀z∈l,Gn z)→l.length+1<L→TOK p L 3 (l.foldr (fun z t=> .done v0 (.done ⟨1,z,false,[]⟩ .nil .nil) t) (.done ⟨3,(0,0),false,[]⟩ .nil .nil))∧ch (l.foldr (fun z t=> .done v0 (.done ⟨1,z,false,[]⟩ .nil .nil) t) (.done ⟨3,(0,0),false,[]⟩ .nil .nil))=l.length+1:=by
   intro l
   induction l with
   |nil=>intro _ _;exact ⟨.val 3 _ (.inr (.inr ⟨rfl,rfl,rfl,rfl,by simp⟩)) fun _=>rfl,rfl⟩
   |cons z l ih=>
    intro hz hl
    have:=ih (fun w hw=>hz w (List.mem_cons_of_mem _ hw)) (by simp at hl;omega)
    refine ⟨.pair _ _ (.val 1 _ (.inl ⟨rfl,rfl,hz z (List.mem_cons_self ..),rfl,rfl⟩) fun h=>by cases h) this.1 (by rw [this.2];simp at hl;omega),?_⟩
    simp only [List.foldr_cons,ch,this.2,List.length_cons];omega
  exact (key v.list hg hl).1
 ·rw [if_neg h3]
  exact .val _ v h fun e=>absurd e h3
def R5:List AJ→List AG→Nm→Nm
 |x::ps,v::vs,acc=>R5 ps vs (.bind x.name (gv v) acc)
 |_,_,acc=>acc
theorem AAT{p:AM}{L:Nat}: ∀(ps:List AJ) (vs:List AG) (Δ:List AJ) (acc:Nm),ps.length=vs.length→EOK p L Δ acc→(∀(i:Nat) (x:AJ) (v:AG),ps[i]?=some x→vs[i]?=some v→v.type_=x.type_∧VV v.type_ v∧v.list.length+1<L)→EOK p L (ps.reverse++Δ) (R5 ps vs acc):=by
 intro ps
 induction ps with
 |nil=>intro vs Δ acc h he _;cases vs with
  |nil=>exact he
  |cons=>cases h
 |cons x ps ih=>
  intro vs Δ acc h he ha
  cases vs with
  |nil=>cases h
  |cons v vs=>
   have h0:=ha 0 x v rfl rfl
   have:=ih vs (x::Δ) (.bind x.name (gv v) acc) (by simpa using h) (.bind x Δ _ acc (h0.1▸ABY h0.2.1 h0.2.2) he) fun i y w h1 h2=>ha (i+1) y w h1 h2
   rw [List.reverse_cons,List.append_assoc]
   exact this
def UY(most:Int):Nat:=(if (16384:Int)< (if most<0 then 0 else most) then 16384 else (if most<0 then 0 else most)).toNat
theorem SD(most:Int):(if (16384:Int)< (if most<0 then 0 else most) then 16384 else (if most<0 then 0 else most))=(UY most:Int):=by
 unfold UY;split<;>split<;>omega
theorem Xi(most:Int):UY most≤16384:=by unfold UY;split<;>split<;>omega
def Xj(f:AO)(args:List AG):Prop:=args.length=f.params.length∧∀(i:Nat) (v:AG) (x:AJ),args[i]?=some v→f.params[i]?=some x→v.type_=x.type_∧chk v=true
def Q4(y:Int):BC:=⟨y,v0,0,0,0,0⟩
def ABt(r:Except Int AG)(c:Nat):BC:=match r with
 | .ok v=>⟨0,v,c,0,0,0⟩
 | .error y=>⟨y,v0,c,0,0,0⟩
inductive Us(p:AM)(nm:List UInt8)(args:List AG)(m:Nat):BC→Prop
 |shape (h: ¬Tm p):Us p nm args m (Q4 3)
 |func (h:Tm p) (hf:hd p nm=none):Us p nm args m (Q4 32)
 |args {f:AO} (h:Tm p) (hf:hd p nm=some f) (ha: ¬Xj f args):Us p nm args m (Q4 40)
 |run {f:AO} {r:Except Int AG} {c:Nat} (h:Tm p) (hf:hd p nm=some f) (ha:Xj f args) (hr:Rn p m f.body (R5 f.params args .nil) r c) (hc:c≤m) (hv:Rv m f.type_ r c):Us p nm args m (ABt r c)
def AV(args:List AG):Prop:=(∀v∈args,GV v∧v.list.length≤1048577)∧args.length≤1000000000
theorem LV.av{l:List AG}(h:LV l):AV l:=⟨fun v hv=>⟨(h.1 v hv).1.gv (by have:=(h.1 v hv).2;omega),(h.1 v hv).2⟩,by have:=h.2;omega⟩
section
variable{p:AM}{nm:List UInt8}{args:List AG}
theorem ABZ(hlen:p.funcs.length≤50000)(hS:FN p): ∀(j i:Nat),i+j=p.funcs.length→∀(m:Aq),(∀s,OE m s=decide (s∈(p.funcs.take i).map (·.name))∧∀k f,k<i→p.funcs[k]?=some f→f.name=s→Cr m s=(k:Int))→
  ∃mp,Mpp p mp∧(∀s,OE mp s=(hd p s).isSome)∧∃n0,∀N k most,n0≤k→JM N p nm args most k (i:Int) m=(bif !(OE mp nm) then some (Q4 32) else ((idx p.funcs (Cr mp nm)).bind fun x239=>bif ((args.length:Int) != (x239.params.length:Int)) then some (Q4 40) else Ez N p args most mp x239 N Nm.nil 0)):=by
 intro j
 induction j with
 |zero=>
  intro i hi m hm
  have htk:p.funcs.take i=p.funcs:=List.take_of_length_le om
  refine ⟨m,fun s f hf=>?_,fun s=>?_,1,fun N k most hk=>?_⟩
  ·have hfm:=List.mem_of_find?_eq_some hf
   obtain ⟨k,hk⟩:=List.mem_iff_getElem?.1 hfm
   have hfn:f.name=s:=by have:=List.find?_some hf;simpa using this
   have:=(hm s).2 k f (by have:=(List.getElem?_eq_some_iff.1 hk).1;omega) hk hfn
   rw [this]
   exact CL hk
  ·rw [(hm s).1,htk]
   cases hh:hd p s with
   |none=>
    rw [decide_eq_false];rfl
    intro h
    obtain ⟨f,hf,hfn⟩:=List.mem_map.1 h
    unfold hd at hh
    rw [List.find?_eq_none] at hh
    exact hh f hf (by simpa using hfn)
   |some f=>
    rw [decide_eq_true];rfl
    have hfn:f.name=s:=by have:=List.find?_some hh;simpa using this
    exact List.mem_map.2 ⟨f,List.mem_of_find?_eq_some hh,hfn⟩
  ·obtain ⟨k,rfl⟩: ∃j,k=j+1:=⟨k - 1,om⟩
   show JX N p nm args most (JM N p nm args most k) i m=_
   unfold JX
   rw [show decide ((i:Int)< (p.funcs.length:Int))=false from decide_eq_false om,cond_false]
   rfl
 |succ j ihj=>
  intro i hi m hm
  obtain ⟨f,hf⟩: ∃f,p.funcs[i]?=some f:=⟨_,List.getElem?_eq_getElem om⟩
  have htk:(p.funcs.take (i+1)).map (·.name)=(p.funcs.take i).map (·.name)++[f.name]:=by rw [List.take_add_one,hf];simp
  obtain ⟨mp,h1,h2,n0,h3⟩:=ihj (i+1) om (L7 f.name i m) fun s=>by
   rw [YD,Mj,htk]
   cases hn:(s==f.name)
   ·have hne:s≠f.name:=by simpa using hn
    rw [cond_false,cond_false]
    refine ⟨?_,fun k g hk hg hgn=>?_⟩
    ·rw [(hm s).1];congr 1;simp [hne]
    ·rcases Nat.eq_or_lt_of_le (Nat.le_of_lt_succ hk) with rfl|hlt
     ·rw [hf] at hg;cases hg;exact absurd hgn.symm hne
     ·exact (hm s).2 k g hlt hg hgn
   ·have hne:s=f.name:=by simpa using hn
    rw [cond_true,cond_true]
    refine ⟨?_,fun k g hk hg hgn=>?_⟩
    ·rw [decide_eq_true];rw [hne];simp
    ·rcases Nat.eq_or_lt_of_le (Nat.le_of_lt_succ hk) with rfl|hlt
     ·rfl
     ·refine absurd (List.mem_map.2 ⟨g,?_,hgn.trans hne⟩) (hS i f hf)
      rw [List.mem_take_iff_getElem]
      obtain ⟨a1,a2⟩:=List.getElem?_eq_some_iff.1 hg
      exact ⟨k,om,a2⟩
  refine ⟨mp,h1,h2,n0+1,fun N k most hk=>?_⟩
  obtain ⟨k,rfl⟩: ∃j,k=j+1:=⟨k - 1,om⟩
  show JX N p nm args most (JM N p nm args most k) i m=_
  unfold JX
  rw [show decide ((i:Int)< (p.funcs.length:Int))=true from decide_eq_true om,cond_true,CL hf,Option.bind_some,wr om om,show (i:Int)+1=((i+1:Nat):Int) by omega]
  exact h3 N k most om
theorem AAU(hA:AV args){f:AO}(hf:f.params.length≤1000000):ET (fun N=>Gs N f args) fun b=>b=true↔Xj f args:=by
 unfold Gs
 refine ET.cond (fun h=> .some ⟨fun h=>(by cases h),fun h'=>absurd (congrArg Int.ofNat h'.1) (Lf h)⟩) fun h=>?_
 have h:=J1 h
 have hlen:args.length=f.params.length:=om
 have loop: ∀(j i:Nat),i+j=args.length→EL (fun N k=>IX N f args k (i:Int)) fun b=>b=true↔∀(i':Nat) (v:AG) (x:AJ),i≤i'→args[i']?=some v→f.params[i']?=some x→v.type_=x.type_∧chk v=true:=by
  intro j
  induction j with
  |zero=>
   intro i hi
   refine EL.down ?_
   show EL (fun N k=>It N f args (IX N f args k) i) _
   unfold It
   exact EL.cond (fun h=>by have:=CZ h;omega) fun _=> .some ⟨fun _ i' v x hi' hv _=>by have:=(List.getElem?_eq_some_iff.1 hv).1;omega,fun _=>rfl⟩
  |succ j ihj=>
   intro i hi
   obtain ⟨v,hv⟩: ∃v,args[i]?=some v:=⟨_,List.getElem?_eq_getElem om⟩
   obtain ⟨x,hx⟩: ∃x,f.params[i]?=some x:=⟨_,List.getElem?_eq_getElem om⟩
   have hg:=hA.1 v (List.mem_of_getElem? hv)
   refine EL.down ?_
   show EL (fun N k=>It N f args (IX N f args k) i) _
   unfold It LO
   rw [wr om om,show (i:Int)+1=((i+1:Nat):Int) by omega]
   refine EL.cond (fun _=>?_) fun h=>by have:=D5 h;omega
   refine EL.eq (CL hv) (EL.eq (CL hx) (EL.cond (fun h=>?_) fun h=>?_))
   ·exact EL.cond (fun _=> .some ⟨fun h=>(by cases h),fun h'=>absurd (h' i v x (Nat.le_refl _) hv hx).1 (Lf h)⟩) fun h=>by cases h
   ·refine EL.bind (P:=fun b=>b=chk v) (RF (v.list.length+2) ⟨_,rfl,fun N hN=>MT hg.1 hN⟩) fun b hb=>?_
    subst hb
    refine EL.cond (fun hc=> .some ⟨fun h=>(by cases h),fun h'=>?_⟩) fun hc=>(ihj (i+1) om).mono fun b hb=>hb.trans ?_
    ·have:=(h' i v x (Nat.le_refl _) hv hx).2;rw [this] at hc;cases hc
    ·constructor
     ·intro h' i' w y hi' hw hy
      rcases Nat.eq_or_lt_of_le hi' with rfl|hlt
      ·rw [hv] at hw;cases hw;rw [hx] at hy;cases hy;exact ⟨J1 h,by simpa using hc⟩
      ·exact h' i' w y hlt hw hy
     ·intro h' i' w y hi' hw hy;exact h' i' w y om hw hy
 refine (loop args.length 0 om).diag.mono fun b hb=>hb.trans ⟨fun h=>⟨hlen,fun i v x hv hx=>h i v x (Nat.zero_le _) hv hx⟩,fun h i v x _ hv hx=>h.2 i v x hv hx⟩
theorem AAV(hp:WP p)(hA:AV args)(most:Int): ∃r,Us p nm args (UY most) r∧Ev fun N=>GN N p nm args most=some r∧F7 N p nm args most=some r:=by
 have hlen:=hp.len
 obtain ⟨ft,hft,et⟩:=AAS hp
 obtain ⟨fr,hfr,er⟩:=ZR hp
 replace et:Ev fun N=>G4 N p=some ft:=et
 replace er:Ev fun N=>G7 N p=some fr:=er
 rcases Classical.em (Tm p) with hS|hS
 rotate_left
 ·refine ⟨_,.shape hS,(et.and er).mono fun N hN=>⟨?_,?_⟩⟩
  ·unfold GN
   rw [hN.1,Option.bind_some,show (ft.why != 0)=true by simp;exact fun h=>hS (hft.1 h)];rfl
  ·unfold F7
   rw [hN.2,Option.bind_some,show (fr.why != 0)=true by simp;exact fun h=>hS (hfr.1 h)];rfl
 have zt:(ft.why != 0)=false:=by simp;exact hft.2 hS
 have zr:(fr.why != 0)=false:=by simp;exact hfr.2 hS
 obtain ⟨mp,hmpp,hmh,n0,hmap⟩:=ABZ (nm:=nm) (args:=args) hlen hS.1.1 p.funcs.length 0 om [] fun s=>⟨by simp;rfl,fun k f hk=>om⟩
 have mean0:Ev fun N=>GN N p nm args most=(bif !(OE mp nm) then some (Q4 32) else ((idx p.funcs (Cr mp nm)).bind fun x239=>bif ((args.length:Int) != (x239.params.length:Int)) then some (Q4 40) else Ez N p args most mp x239 N Nm.nil 0)):=
  (et.and (M0 n0)).mono fun N hN=>by
   unfold GN
   rw [hN.1,Option.bind_some,zt,cond_false]
   exact hmap N N most hN.2
 have ref0:Ev fun N=>F7 N p nm args most=(bif (!(hdR (hd p nm)).2) then some (Q4 32) else ((Gs N (hdR (hd p nm)).1 args).bind fun x80=>bif (!x80) then some (Q4 40) else (GY N p args most (hdR (hd p nm)) N Nm.nil 0))):=
  (er.and (M0 (p.funcs.length+2))).mono fun N hN=>by
   unfold F7
   rw [hN.1,Option.bind_some,zr,cond_false,SB om hN.2,Option.bind_some];rfl
 cases hh:hd p nm with
 |none=>
  refine ⟨_,.func hS hh,(mean0.and ref0).mono fun N hN=>⟨?_,?_⟩⟩
  ·rw [hN.1,hmh,hh];rfl
  ·rw [hN.2,hh];rfl
 |some f=>
  have hfm:=List.mem_of_find?_eq_some hh
  have hfn:=hp.fns f hfm
  have hfp:=hfn.pars
  obtain ⟨b,hb,eb⟩:=AAU (f:=f) hA hfp
  replace eb:Ev fun N=>Gs N f args=some b:=eb
  have mean1:Ev fun N=>GN N p nm args most=(bif ((args.length:Int) != (f.params.length:Int)) then some (Q4 40) else Ez N p args most mp f N Nm.nil 0):=mean0.mono fun N hN=>by
   rw [hN,hmh,hh,hmpp nm f hh];rfl
  have ref1:Ev fun N=>F7 N p nm args most=(bif (!b) then some (Q4 40) else (GY N p args most (f,true) N Nm.nil 0)):=(ref0.and eb).mono fun N hN=>by
   rw [hN.1,hh]
   show (bif (!true) then _ else ((Gs N f args).bind fun x80=>_))=_
   rw [hN.2];rfl
  have loopM: ∀(Z:Option BC),args.length=f.params.length→∀(j i:Nat),i+j=args.length→∀(acc:Nm),
    ((∀(i':Nat) (v:AG) (x:AJ),i≤i'→args[i']?=some v→f.params[i']?=some x→v.type_=x.type_∧chk v=true)→
     ∃n1,∀N k,n1≤N→n1≤k→Ez N p args most mp f k acc (i:Int)=Fy N p args most mp f (fun _ _=>Z) (R5 (f.params.drop i) (args.drop i) acc) (args.length:Int))∧
    ((¬∀(i':Nat) (v:AG) (x:AJ),i≤i'→args[i']?=some v→f.params[i']?=some x→v.type_=x.type_∧chk v=true)→
     ∃n1,∀N k,n1≤N→n1≤k→Ez N p args most mp f k acc (i:Int)=some (Q4 40)):=by
   intro Z hlen2 j
   induction j with
   |zero=>
    intro i hi acc
    refine ⟨fun _=>⟨1,fun N k _ hk=>?_⟩,fun h=>absurd (fun i' v x hi' hv _=>by have:=(List.getElem?_eq_some_iff.1 hv).1;omega) h⟩
    obtain ⟨k,rfl⟩: ∃j,k=j+1:=⟨k - 1,om⟩
    show Fy N p args most mp f (Ez N p args most mp f k) acc i=_
    have e1:f.params.drop i=[]:=List.drop_eq_nil_of_le om
    have e2:args.drop i=[]:=List.drop_eq_nil_of_le om
    rw [e1,e2]
    unfold Fy
    rw [show decide ((i:Int)< (args.length:Int))=false from decide_eq_false om,show decide ((args.length:Int)< (args.length:Int))=false from decide_eq_false om]
    rfl
   |succ j ihj=>
    intro i hi acc
    obtain ⟨v,hv⟩: ∃v,args[i]?=some v:=⟨_,List.getElem?_eq_getElem om⟩
    obtain ⟨x,hx⟩: ∃x,f.params[i]?=some x:=⟨_,List.getElem?_eq_getElem om⟩
    have hg:=hA.1 v (List.mem_of_getElem? hv)
    have step: ∀N k,v.list.length+2≤N→Ez N p args most mp f (k+1) acc (i:Int)=(bif (v.type_==x.type_&&chk v) then Ez N p args most mp f k (.bind x.name (gv v) acc) ((i+1:Nat):Int) else some (Q4 40)):=by
     intro N k hN
     show Fy N p args most mp f (Ez N p args most mp f k) acc i=_
     unfold Fy Lw
     rw [show decide ((i:Int)< (args.length:Int))=true from decide_eq_true om,cond_true,CL hv,Option.bind_some,CL hx,Option.bind_some,Nj hg.1 hN,Option.bind_some,(Wf (v:=v) (N:=N) (by have:=hg.2;omega) hN).1,wr om om,show (i:Int)+1=((i+1:Nat):Int) by omega,Option.bind_some,Option.bind_some]
     cases h1:(v.type_==x.type_)
     ·rw [show (v.type_ != x.type_)=true by simp only [bne,h1];rfl];rfl
     ·rw [show (v.type_ != x.type_)=false by simp only [bne,h1];rfl]
      cases chk v<;>rfl
    have ihh:=ihj (i+1) om (.bind x.name (gv v) acc)
    have heq:v.type_=x.type_∧chk v=true↔(v.type_==x.type_&&chk v)=true:=by simp
    have henv:R5 (f.params.drop i) (args.drop i) acc=R5 (f.params.drop (i+1)) (args.drop (i+1)) (.bind x.name (gv v) acc):=by rw [Lg hx,Lg hv];rfl
    constructor
    ·intro h
     have h0:=h i v x (Nat.le_refl _) hv hx
     obtain ⟨n1,hn1⟩:=ihh.1 fun i' w y hi' hw hy=>h i' w y om hw hy
     refine ⟨n1+v.list.length+3,fun N k hN hk=>?_⟩
     obtain ⟨k,rfl⟩: ∃j,k=j+1:=⟨k - 1,om⟩
     rw [step N k om,heq.1 h0,cond_true,hn1 N k om om,henv]
    ·intro h
     cases hc:(v.type_==x.type_&&chk v)
     ·refine ⟨v.list.length+3,fun N k hN hk=>?_⟩
      obtain ⟨k,rfl⟩: ∃j,k=j+1:=⟨k - 1,om⟩
      rw [step N k om,hc];rfl
     ·obtain ⟨n1,hn1⟩:=ihh.2 fun h'=>h fun i' w y hi' hw hy=>by
       rcases Nat.eq_or_lt_of_le hi' with rfl|hlt
       ·rw [hv] at hw;cases hw;rw [hx] at hy;cases hy;exact heq.2 hc
       ·exact h' i' w y hlt hw hy
      refine ⟨n1+v.list.length+3,fun N k hN hk=>?_⟩
      obtain ⟨k,rfl⟩: ∃j,k=j+1:=⟨k - 1,om⟩
      rw [step N k om,hc]
      exact hn1 N k om om
  rcases Classical.em (Xj f args) with hF|hF
  ·
   have hEnv:EOK p 1100000 f.params.reverse (R5 f.params args .nil):=by
    have:=AAT (p:=p) (L:=1100000) f.params args [] .nil hF.1.symm .nil fun i x v hx hv=>by
     have h1:=hF.2 i v x hv hx
     have h2:=hA.1 v (List.mem_of_getElem? hv)
     exact ⟨h1.1,(Y7 h2.1).1 h1.2,om⟩
    rwa [List.append_nil] at this
   obtain ⟨r,c,hr,hc,hv⟩:=ABU hp hS.2 om (Nat.le_refl 1100000) (Xi most) hEnv (hS.2 f hfm) hfn.body hfn.typ
   refine ⟨_,.run hS hh hF hr hc hv,?_⟩
   obtain ⟨n1,hn1⟩:=(loopM none hF.1 args.length 0 om .nil).1 fun i v x _ hv hx=>hF.2 i v x hv hx
   have mean2:Ev fun N=>GN N p nm args most=Fy N p args most mp f (fun _ _=>none) (R5 f.params args .nil) (args.length:Int):=(mean1.and (M0 n1)).mono fun N hN=>by
    rw [hN.1,show ((args.length:Int) != (f.params.length:Int))=false by simp;have:=hF.1;omega,cond_false]
    exact hn1 N N hN.2 hN.2
   have hbt:b=true:=hb.2 hF
   have loopR: ∀(j i:Nat),i+j=args.length→∀(acc:Nm),∃n1,∀N k,n1≤N→n1≤k→GY N p args most (f,true) k acc (i:Int)=FG N p args most (f,true) (fun _ _=>none) (R5 (f.params.drop i) (args.drop i) acc) (args.length:Int):=by
    intro j
    induction j with
    |zero=>
     intro i hi acc
     refine ⟨1,fun N k _ hk=>?_⟩
     obtain ⟨k,rfl⟩: ∃j,k=j+1:=⟨k - 1,om⟩
     show FG N p args most (f,true) (GY N p args most (f,true) k) acc i=_
     have e1:f.params.drop i=[]:=List.drop_eq_nil_of_le (by have:=hF.1;omega)
     have e2:args.drop i=[]:=List.drop_eq_nil_of_le om
     rw [e1,e2]
     unfold FG
     rw [show decide ((i:Int)< (args.length:Int))=false from decide_eq_false om,show decide ((args.length:Int)< (args.length:Int))=false from decide_eq_false om]
     rfl
    |succ j ihj=>
     intro i hi acc
     obtain ⟨v,hv⟩: ∃v,args[i]?=some v:=⟨_,List.getElem?_eq_getElem om⟩
     obtain ⟨x,hx⟩: ∃x,f.params[i]?=some x:=⟨_,List.getElem?_eq_getElem (by have:=hF.1;omega)⟩
     have hg:=hA.1 v (List.mem_of_getElem? hv)
     obtain ⟨n1,hn1⟩:=ihj (i+1) om (.bind x.name (gv v) acc)
     refine ⟨n1+v.list.length+3,fun N k hN hk=>?_⟩
     obtain ⟨k,rfl⟩: ∃j,k=j+1:=⟨k - 1,om⟩
     show FG N p args most (f,true) (GY N p args most (f,true) k) acc i=_
     have henv:R5 (f.params.drop i) (args.drop i) acc=R5 (f.params.drop (i+1)) (args.drop (i+1)) (.bind x.name (gv v) acc):=by rw [Lg hx,Lg hv];rfl
     rw [henv,←hn1 N k om om]
     conv=>lhs;unfold FG
     have hx':idx (f,true).1.params (i:Int)=some x:=CL hx
     have hai:(i:Int)< (args.length:Int):=om
     have hfl:=hF.1
     rw [show decide ((i:Int)< (args.length:Int))=true from decide_eq_true hai,cond_true,hx',Option.bind_some,CL hv,Option.bind_some,(Wf (v:=v) (N:=N) (by have:=hg.2;omega) om).2,Option.bind_some,wr om om,show (i:Int)+1=((i+1:Nat):Int) by omega]
   obtain ⟨n2,hn2⟩:=loopR args.length 0 om .nil
   have ref2:Ev fun N=>F7 N p nm args most=FG N p args most (f,true) (fun _ _=>none) (R5 f.params args .nil) (args.length:Int):=(ref1.and (M0 n2)).mono fun N hN=>by
    rw [hN.1,hbt]
    exact hn2 N N hN.2 hN.2
   have hm:=Xi most
   have dl:decide ((args.length:Int)< (args.length:Int))=false:=decide_eq_false om
   cases hr with
   |err h=>
    rename_i y
    have hy:=PE h y rfl
    refine (((mean2.and ref2).and (Vi hp hmpp hm h)).and ((XJ hp hm h).and (M0 1))).mono fun N hN=>⟨?_,?_⟩
    ·rw [hN.1.1.1]
     unfold Fy
     rw [dl,cond_false,Py,SD]
     have:=hN.1.2
     rw [show ((0:Nat):Int)=0 from rfl] at this
     rw [this];rfl
    ·rw [hN.1.1.2]
     unfold FG
     rw [dl,cond_false,Py,SD]
     have:=hN.2.1
     rw [show ((0:Nat):Int)=0 from rfl] at this
     rw [this]
     obtain ⟨M,hM⟩: ∃M,N=M+1:=⟨N - 1,by have:=hN.2.2;omega⟩
     subst hM
     show ((CO (M+1) ⟨p,UY most,c,y⟩ th0).bind fun x312=>_)=_
     unfold CO EY
     rw [show ((AT.mk p (UY most) c y).why==0)=false by simpa using hy,cond_false,cond_false]
     show ((Cw (M+1) (Bq (M+1) M) th0 p.funcs (UY most) c y []).bind fun x312=>_)=_
     unfold Cw
     rw [show (y==0)=false by simpa using hy]
     show (bif (y != 0) then _ else _)=_
     rw [show (y != 0)=true by simpa using hy];rfl
   |val h h2=>
    rename_i x c1
    refine (((mean2.and ref2).and ((Vi hp hmpp hm h).and (AAI hp hmpp hm h2))).and ((XJ hp hm h).and (ABS hp hm h2))).mono fun N hN=>⟨?_,?_⟩
    ·rw [hN.1.1.1]
     unfold Fy
     rw [dl,cond_false,Py,SD]
     have:=hN.1.2.1
     rw [show ((0:Nat):Int)=0 from rfl] at this
     rw [this]
     show ((EM N p.funcs c1 (UY most) mp x).bind fun x757=>_)=_
     rw [hN.1.2.2]
     cases r<;>rfl
    ·rw [hN.1.1.2]
     unfold FG
     rw [dl,cond_false,Py,SD]
     have:=hN.2.1
     rw [show ((0:Nat):Int)=0 from rfl] at this
     rw [this]
     obtain ⟨v,hv1,hv2⟩:=hN.2.2
     show ((CO N ⟨p,UY most,c1,0⟩ (.done x.plain x.head x.tail)).bind fun x312=>_)=_
     rw [hv1,Option.bind_some]
     cases r with
     |ok u=>rw [hv2 u rfl];rfl
     |error y=>
      have hy:y≠0:=by rcases hv with ⟨h,_⟩| ⟨h,_⟩<;>omega
      show (bif (y != 0) then _ else _)=_
      rw [show (y != 0)=true by simpa using hy];rfl
  ·
   have hbf:b=false:=by cases hbb:b;rfl;exact absurd (hb.1 hbb) hF
   refine ⟨_,.args hS hh hF,?_⟩
   rcases Decidable.em (args.length=f.params.length) with hl2|hl2
   ·obtain ⟨n1,hn1⟩:=(loopM none hl2 args.length 0 om .nil).2 fun h=>hF ⟨hl2,fun i v x hv hx=>h i v x (Nat.zero_le _) hv hx⟩
    refine ((mean1.and ref1).and (M0 n1)).mono fun N hN=>⟨?_,?_⟩
    ·rw [hN.1.1,show ((args.length:Int) != (f.params.length:Int))=false by simp;omega,cond_false]
     exact hn1 N N hN.2 hN.2
    ·rw [hN.1.2,hbf];rfl
   ·refine (mean1.and ref1).mono fun N hN=>⟨?_,?_⟩
    ·rw [hN.1,show ((args.length:Int) != (f.params.length:Int))=true by simp;omega];rfl
    ·rw [hN.2,hbf];rfl
end
end Fth
namespace Fth
open Go
def Rvv(v:AG):Prop:=v=v0∨(VV v.type_ v∧GV v)
theorem YF{v:AG}(h:Rvv v):Ev fun N=>GP N v v=some true:=by
 rcases h with rfl| ⟨h,hg⟩
 ·refine Ev.all fun N=>?_
  have c0:ceq ((0,0):Nat×Nat) (0,0)=true:=by decide
  unfold GP Jy
  rw [show (v0.type_==0)=true from rfl,cond_true,cond_true,show v0.num=(0,0) from rfl,c0]
  rfl
 ·have ht:v.type_≠0:=by rcases h with ⟨e,_⟩| ⟨e,_⟩| ⟨e,_⟩<;>omega
  have hl:=hg.2.2
  refine (M0 (v.list.length+2)).mono fun N hN=>?_
  have cself: ∀z,Gn z→cne z z=false:=fun z hz=>by
   obtain ⟨n,hn,rfl⟩:=(Q0 z).1 hz
   have:=Yw hn hn
   simp only [decide_true,Bool.and_self] at this
   unfold ceq at this
   unfold cne
   rw [this];rfl
  have loop: ∀(k i:Nat),i≤v.list.length→v.list.length<i+k→Ja v v k (i:Int)=some true:=by
   intro k
   induction k with
   |zero=>intro i _ _;omega
   |succ k ih=>
    intro i hi hk
    show Kt v v (Ja v v k) i=_
    unfold Kt
    cases hc:decide ((i:Int)< (v.list.length:Int))
    ·rfl
    ·have hc:=CZ hc
     obtain ⟨z,hz⟩: ∃z,v.list[i]?=some z:=⟨_,List.getElem?_eq_getElem om⟩
     rw [cond_true,CL hz,Option.bind_some,Option.bind_some,cself z (hg.2.1 z (List.mem_of_getElem? hz)),cond_false,wr om om,show (i:Int)+1=((i+1:Nat):Int) by omega]
     exact ih (i+1) om om
  have hch:=(Y7 hg).2 h
  unfold GP Jy
  rw [show (v.type_==0)=false by simpa using ht,cond_false,cond_false]
  unfold Jb HX
  rw [MT hg hN,Option.bind_some,hch,Bool.not_true,cond_false,Option.bind_some,Bool.not_true,cond_false,show (v.type_ != v.type_)=false by simp,cond_false,cself v.num hg.1,cond_false,show (!(v.bool==v.bool))=false by simp,cond_false,show ((v.list.length:Int) != (v.list.length:Int))=false by simp,cond_false]
  have:=loop N 0 om om
  rw [show ((0:Nat):Int)=0 from rfl] at this
  rw [this];rfl
theorem AAW{r:BC}(h:Rvv r.value):Ev fun N=>Iv N r r=some true:=by
 refine (YF h).mono fun N hN=>?_
 unfold Iv HY
 rw [show (r.why==r.why)=true by simp,cond_true]
 show ((GP N r.value r.value).bind fun x48=>_)=_
 rw [hN,Option.bind_some,cond_true,show (r.moves==r.moves)=true by simp,show (r.thunks==r.thunks)=true by simp,show (r.updates==r.updates)=true by simp,show (r.calls==r.calls)=true by simp]
 rfl
section
variable{p:AM}{nm:List UInt8}{args:List AG}{m:Nat}
theorem ZV{r:BC}(h:Us p nm args m r):Rvv r.value:=by
 cases h with
 |shape=>exact .inl rfl
 |func=>exact .inl rfl
 |args=>exact .inl rfl
 | @run f r c h hf ha hr hc hv=>
  cases r with
  |error y=>exact .inl rfl
  |ok v=>exact .inr ⟨hv.1.type▸hv.1,hv.1.gv (by have:=hv.2.2;omega)⟩
end
end Fth
namespace Fth
open Go
class OL{α:Type}(x y:Option α):Prop where
 le: ∀a,x=some a→y=some a
class Up(N M:Nat):Prop where
 le:N≤M
instance OL.refl {α:Type} {x:Option α}:OL x x:=⟨fun _ h=>h⟩
theorem OL.none{α:Type}{x:Option α}:OL none x:=⟨fun _ h=>by cases h⟩
instance OL.bind {α β:Type} {x y:Option α} {f g:α→Option β} [h:OL x y] [k: ∀a,OL (f a) (g a)]:OL (x.bind f) (y.bind g):=⟨fun b hb=>by
 cases x with
 |none=>cases hb
 |some a=>rw [h.le a rfl];exact (k a).le b hb⟩
instance OL.cond {α:Type} {c:Bool} {x y x' y':Option α} [h1:OL x x'] [h2:OL y y']:OL (bif c then x else y) (bif c then x' else y'):=by
 cases c
 ·exact h2
 ·exact h1
theorem Up.go{P:Nat→Nat→Prop}(h0: ∀M,P 0 M)(hs: ∀n m [Up n m],P n m→P (n+1) (m+1)){N M:Nat}[h:Up N M]:P N M:=by
 have: ∀N M,N≤M→P N M:=by
  intro N
  induction N with
  |zero=>intro M _;exact h0 M
  |succ n ih=>
   intro M hM
   cases M with
   |zero=>exact absurd hM (Nat.not_succ_le_zero n)
   |succ m=>exact @hs n m ⟨Nat.le_of_succ_le_succ hM⟩ (ih m (Nat.le_of_succ_le_succ hM))
 exact this N M h.le
set_option linter.unusedVariables false
set_option synthInstance.maxHeartbeats 400000
set_option synthInstance.maxSize 4000
theorem ZW{α0 β:Type}{f f':Nat→α0→Option β}(hs: ∀n m [Up n m] [∀y0,OL (f n y0) (f' m y0)] y0,OL (f (n+1) y0) (f' (m+1) y0))(h0: ∀y0,f 0 y0=none:=by intros;rfl){N M}[Up N M]{y0}:OL (f N y0) (f' M y0):=Up.go (P:=fun N M=>∀y0,OL (f N y0) (f' M y0)) (fun _ _=>by rw [h0];exact .none) (fun n m _ h=>@hs n m _ h) y0
theorem Ut{α0 α1 β:Type}{f f':Nat→α0→α1→Option β}(hs: ∀n m [Up n m] [∀y0 y1,OL (f n y0 y1) (f' m y0 y1)] y0 y1,OL (f (n+1) y0 y1) (f' (m+1) y0 y1))(h0: ∀y0 y1,f 0 y0 y1=none:=by intros;rfl){N M}[Up N M]{y0 y1}:OL (f N y0 y1) (f' M y0 y1):=Up.go (P:=fun N M=>∀y0 y1,OL (f N y0 y1) (f' M y0 y1)) (fun _ _ _=>by rw [h0];exact .none) (fun n m _ h=>@hs n m _ h) y0 y1
theorem ABl{α0 α1 α2 β:Type}{f f':Nat→α0→α1→α2→Option β}(hs: ∀n m [Up n m] [∀y0 y1 y2,OL (f n y0 y1 y2) (f' m y0 y1 y2)] y0 y1 y2,OL (f (n+1) y0 y1 y2) (f' (m+1) y0 y1 y2))(h0: ∀y0 y1 y2,f 0 y0 y1 y2=none:=by intros;rfl){N M}[Up N M]{y0 y1 y2}:OL (f N y0 y1 y2) (f' M y0 y1 y2):=Up.go (P:=fun N M=>∀y0 y1 y2,OL (f N y0 y1 y2) (f' M y0 y1 y2)) (fun _ _ _ _=>by rw [h0];exact .none) (fun n m _ h=>@hs n m _ h) y0 y1 y2
theorem ABm{α0 α1 α2 α3 β:Type}{f f':Nat→α0→α1→α2→α3→Option β}(hs: ∀n m [Up n m] [∀y0 y1 y2 y3,OL (f n y0 y1 y2 y3) (f' m y0 y1 y2 y3)] y0 y1 y2 y3,OL (f (n+1) y0 y1 y2 y3) (f' (m+1) y0 y1 y2 y3))(h0: ∀y0 y1 y2 y3,f 0 y0 y1 y2 y3=none:=by intros;rfl){N M}[Up N M]{y0 y1 y2 y3}:OL (f N y0 y1 y2 y3) (f' M y0 y1 y2 y3):=Up.go (P:=fun N M=>∀y0 y1 y2 y3,OL (f N y0 y1 y2 y3) (f' M y0 y1 y2 y3)) (fun _ _ _ _ _=>by rw [h0];exact .none) (fun n m _ h=>@hs n m _ h) y0 y1 y2 y3
instance {p0 p2} {s1 s1'} [∀x0,OL (s1 x0) (s1' x0)]:OL (Gc p0 s1 p2) (Gc p0 s1' p2):=by unfold Gc;infer_instance
instance {p0 p1 p3} {s2 s2'} [∀x0,OL (s2 x0) (s2' x0)]:OL (GX p0 p1 s2 p3) (GX p0 p1 s2' p3):=by unfold GX;infer_instance
instance {p0 p1} {k j} [Up k j] {y0}:OL (Ex p0 p1 k y0) (Ex p0 p1 j y0):=ZW fun n m _ _ y0=>inferInstanceAs (OL (GX p0 p1 (Ex p0 p1 n) y0) (GX p0 p1 (Ex p0 p1 m) y0))
instance {p1 p2} {N M} [Up N M]:OL (IZ N p1 p2) (IZ M p1 p2):=by unfold IZ;infer_instance
instance {p0 p1 p2 p3 p5} {s4 s4'} [∀x0 x1,OL (s4 x0 x1) (s4' x0 x1)]:OL (E5 p0 p1 p2 p3 s4 p5) (E5 p0 p1 p2 p3 s4' p5):=by unfold E5;infer_instance
instance {p0 p1 p3 p4} {s2 s2'} [∀x0 x1,OL (s2 x0 x1) (s2' x0 x1)]:OL (FM p0 p1 s2 p3 p4) (FM p0 p1 s2' p3 p4):=by unfold FM;infer_instance
instance {p0 p1} {k j} [Up k j] {y0 y1}:OL (Eb p0 p1 k y0 y1) (Eb p0 p1 j y0 y1):=Ut fun n m _ _ y0 y1=>inferInstanceAs (OL (FM p0 p1 (Eb p0 p1 n) y0 y1) (FM p0 p1 (Eb p0 p1 m) y0 y1))
instance {p1 p2} {N M} [Up N M]:OL (Id N p1 p2) (Id M p1 p2):=by unfold Id;infer_instance
instance {p1 p2} {N M} [Up N M]:OL (Hd N p1 p2) (Hd M p1 p2):=by unfold Hd;infer_instance
instance {p1} {N M} [Up N M]:OL (E6 N p1) (E6 M p1):=by unfold E6;infer_instance
class BF.Le(φ ψ:BF):Prop where
 ref01_digits: ∀x0,OL (φ.ref01_digits x0) (ψ.ref01_digits x0)
attribute [instance] BF.Le.ref01_digits
instance {p2} {φ ψ} [BF.Le φ ψ] {N M} [Up N M]:OL (DW φ N p2) (DW ψ M p2):=by unfold DW;infer_instance
instance {N M} [Up N M]:BF.Le (BF.at N) (BF.at M):=Up.go (P:=fun N M=>BF.Le (BF.at N) (BF.at M)) (fun _=>⟨fun _=> .none⟩) fun n m _ _=>⟨fun x0=>inferInstanceAs (OL (DW (BF.at n) n x0) (DW (BF.at m) m x0))⟩
instance {N M} [Up N M] {y0}:OL (ref01_digits N y0) (ref01_digits M y0):=BF.Le.ref01_digits _
instance {p1} {N M} [Up N M]:OL (F6 N p1) (F6 M p1):=by unfold F6;infer_instance
instance {p1 p2 p3} {N M} [Up N M]:OL (Fq N p1 p2 p3) (Fq M p1 p2 p3):=by unfold Fq;infer_instance
instance {p1 p2 p3} {N M} [Up N M]:OL (Hf N p1 p2 p3) (Hf M p1 p2 p3):=by unfold Hf;infer_instance
instance {p1} {N M} [Up N M]:OL (Em N p1) (Em M p1):=by unfold Em;infer_instance
instance {p0 p1 p3} {s2 s2'} [∀x0,OL (s2 x0) (s2' x0)]:OL (D0 p0 p1 s2 p3) (D0 p0 p1 s2' p3):=by unfold D0;infer_instance
instance {p0 p1} {k j} [Up k j] {y0}:OL (Dm p0 p1 k y0) (Dm p0 p1 j y0):=ZW fun n m _ _ y0=>inferInstanceAs (OL (D0 p0 p1 (Dm p0 p1 n) y0) (D0 p0 p1 (Dm p0 p1 m) y0))
instance {p1} {N M} [Up N M]:OL (Dn N p1) (Dn M p1):=by unfold Dn;infer_instance
instance {p1 p2 p3 p4 p5} {N M} [Up N M]:OL (IJ N p1 p2 p3 p4 p5) (IJ M p1 p2 p3 p4 p5):=by unfold IJ;infer_instance
instance {p1 p2 p3 p4 p5} {N M} [Up N M]:OL (IK N p1 p2 p3 p4 p5) (IK M p1 p2 p3 p4 p5):=by unfold IK;infer_instance
instance {p1 p2} {N M} [Up N M]:OL (H1 N p1 p2) (H1 M p1 p2):=by unfold H1;infer_instance
instance {p0 p2 p4} {s1 s1'} [∀x0 x1,OL (s1 x0 x1) (s1' x0 x1)] {s3 s3'} [∀x0,OL (s3 x0) (s3' x0)]:OL (Hg p0 s1 p2 s3 p4) (Hg p0 s1' p2 s3' p4):=by unfold Hg;infer_instance
instance {p0 p1 p4} {s2 s2'} [∀x0 x1,OL (s2 x0 x1) (s2' x0 x1)] {s3 s3'} [∀x0,OL (s3 x0) (s3' x0)]:OL (FO p0 p1 s2 s3 p4) (FO p0 p1 s2' s3' p4):=by unfold FO;infer_instance
instance {p0 p1} {s2 s2'} [∀x0 x1,OL (s2 x0 x1) (s2' x0 x1)] {k j} [Up k j] {y0}:OL (E7 p0 p1 s2 k y0) (E7 p0 p1 s2' j y0):=ZW fun n m _ _ y0=>inferInstanceAs (OL (FO p0 p1 s2 (E7 p0 p1 s2 n) y0) (FO p0 p1 s2' (E7 p0 p1 s2' m) y0))
instance {p1 p3 p4} {N M} [Up N M] {s2 s2'} [∀x0 x1,OL (s2 x0 x1) (s2' x0 x1)]:OL (FP N p1 s2 p3 p4) (FP M p1 s2' p3 p4):=by unfold FP;infer_instance
instance {p1} {N M} [Up N M] {k j} [Up k j] {y0 y1}:OL (Do N p1 k y0 y1) (Do M p1 j y0 y1):=Ut fun n m _ _ y0 y1=>inferInstanceAs (OL (FP N p1 (Do N p1 n) y0 y1) (FP M p1 (Do M p1 m) y0 y1))
instance {p1} {N M} [Up N M]:OL (GA N p1) (GA M p1):=by unfold GA;infer_instance
instance {p1 p2 p3 p4 p5 p6 p7 p8 p9 p10} {s0 s0'} [∀x0 x1 x2 x3 x4 x5 x6 x7 x8 x9,OL (s0 x0 x1 x2 x3 x4 x5 x6 x7 x8 x9) (s0' x0 x1 x2 x3 x4 x5 x6 x7 x8 x9)]:OL (DM s0 p1 p2 p3 p4 p5 p6 p7 p8 p9 p10) (DM s0' p1 p2 p3 p4 p5 p6 p7 p8 p9 p10):=by unfold DM;infer_instance
instance {k j} [Up k j] {y0 y1 y2 y3 y4 y5 y6 y7 y8 y9}:OL (CM k y0 y1 y2 y3 y4 y5 y6 y7 y8 y9) (CM j y0 y1 y2 y3 y4 y5 y6 y7 y8 y9):=Up.go (P:=fun k j=>∀y0 y1 y2 y3 y4 y5 y6 y7 y8 y9,OL (CM k y0 y1 y2 y3 y4 y5 y6 y7 y8 y9) (CM j y0 y1 y2 y3 y4 y5 y6 y7 y8 y9)) (fun _ _ _ _ _ _ _ _ _ _ _=> .none) (fun n m _ _ y0 y1 y2 y3 y4 y5 y6 y7 y8 y9=>inferInstanceAs (OL (DM (CM n) y0 y1 y2 y3 y4 y5 y6 y7 y8 y9) (DM (CM m) y0 y1 y2 y3 y4 y5 y6 y7 y8 y9))) y0 y1 y2 y3 y4 y5 y6 y7 y8 y9
instance {p1} {N M} [Up N M]:OL (CN N p1) (CN M p1):=by unfold CN;infer_instance
class AB.Le(φ ψ:AB):Prop where
 ref04_reader_expr: ∀x0,OL (φ.ref04_reader_expr x0) (ψ.ref04_reader_expr x0)
 ref04_reader_cons: ∀x0,OL (φ.ref04_reader_cons x0) (ψ.ref04_reader_cons x0)
 ref04_reader_parts: ∀x0 x1,OL (φ.ref04_reader_parts x0 x1) (ψ.ref04_reader_parts x0 x1)
 ref04_reader_branches: ∀x0 x1,OL (φ.ref04_reader_branches x0 x1) (ψ.ref04_reader_branches x0 x1)
 ref04_reader_comp: ∀x0,OL (φ.ref04_reader_comp x0) (ψ.ref04_reader_comp x0)
 ref04_reader_sum: ∀x0,OL (φ.ref04_reader_sum x0) (ψ.ref04_reader_sum x0)
 ref04_reader_term: ∀x0,OL (φ.ref04_reader_term x0) (ψ.ref04_reader_term x0)
 ref04_reader_unit: ∀x0,OL (φ.ref04_reader_unit x0) (ψ.ref04_reader_unit x0)
 ref04_reader_named: ∀x0 x1,OL (φ.ref04_reader_named x0 x1) (ψ.ref04_reader_named x0 x1)
attribute [instance] AB.Le.ref04_reader_expr AB.Le.ref04_reader_cons AB.Le.ref04_reader_parts AB.Le.ref04_reader_branches AB.Le.ref04_reader_comp AB.Le.ref04_reader_sum AB.Le.ref04_reader_term AB.Le.ref04_reader_unit AB.Le.ref04_reader_named
instance {p2 p3 p4 p5 p6 p7 p8 p9 p10 p11 p12 p13} {φ ψ} [AB.Le φ ψ] {N M} [Up N M]:OL (Dp φ N p2 p3 p4 p5 p6 p7 p8 p9 p10 p11 p12 p13) (Dp ψ M p2 p3 p4 p5 p6 p7 p8 p9 p10 p11 p12 p13):=by unfold Dp;infer_instance
instance {p2 p3 p4 p5 p6 p7 p8 p9 p10 p11 p12} {φ ψ} [AB.Le φ ψ] {N M} [Up N M]:OL (Dq φ N p2 p3 p4 p5 p6 p7 p8 p9 p10 p11 p12) (Dq ψ M p2 p3 p4 p5 p6 p7 p8 p9 p10 p11 p12):=by unfold Dq;infer_instance
instance {p2 p3 p4 p5 p6 p7 p8 p9 p10 p11 p12 p13} {φ ψ} [AB.Le φ ψ] {N M} [Up N M]:OL (Dr φ N p2 p3 p4 p5 p6 p7 p8 p9 p10 p11 p12 p13) (Dr ψ M p2 p3 p4 p5 p6 p7 p8 p9 p10 p11 p12 p13):=by unfold Dr;infer_instance
instance {p2 p3 p4 p5 p6 p7 p8 p9 p10 p11 p12} {φ ψ} [AB.Le φ ψ] {N M} [Up N M]:OL (Ds φ N p2 p3 p4 p5 p6 p7 p8 p9 p10 p11 p12) (Ds ψ M p2 p3 p4 p5 p6 p7 p8 p9 p10 p11 p12):=by unfold Ds;infer_instance
instance {p2 p3 p4 p5} {φ ψ} [AB.Le φ ψ] {N M} [Up N M]:OL (Dt φ N p2 p3 p4 p5) (Dt ψ M p2 p3 p4 p5):=by unfold Dt;infer_instance
instance {p2 p3 p4} {φ ψ} [AB.Le φ ψ] {N M} [Up N M]:OL (DN φ N p2 p3 p4) (DN ψ M p2 p3 p4):=by unfold DN;infer_instance
instance {p2} {φ ψ} [AB.Le φ ψ] {N M} [Up N M]:OL (C9 φ N p2) (C9 ψ M p2):=by unfold C9;infer_instance
instance {p2} {φ ψ} [AB.Le φ ψ] {N M} [Up N M]:OL (DA φ N p2) (DA ψ M p2):=by unfold DA;infer_instance
instance {p1 p2 p4 p5 p6 p7 p8 p9 p10 p11 p12} {φ ψ} [AB.Le φ ψ] {s3 s3'} [∀x0 x1 x2 x3 x4 x5 x6 x7 x8 x9 x10,OL (s3 x0 x1 x2 x3 x4 x5 x6 x7 x8 x9 x10) (s3' x0 x1 x2 x3 x4 x5 x6 x7 x8 x9 x10)]:OL (DZ φ p1 p2 s3 p4 p5 p6 p7 p8 p9 p10 p11 p12) (DZ ψ p1 p2 s3' p4 p5 p6 p7 p8 p9 p10 p11 p12):=by unfold DZ;infer_instance
instance {p1 p3 p4 p5 p6 p7 p8 p9 p10 p11 p12 p13} {φ ψ} [AB.Le φ ψ] {s2 s2'} [∀x0 x1 x2 x3 x4 x5 x6 x7 x8 x9 x10,OL (s2 x0 x1 x2 x3 x4 x5 x6 x7 x8 x9 x10) (s2' x0 x1 x2 x3 x4 x5 x6 x7 x8 x9 x10)]:OL (Ch φ p1 s2 p3 p4 p5 p6 p7 p8 p9 p10 p11 p12 p13) (Ch ψ p1 s2' p3 p4 p5 p6 p7 p8 p9 p10 p11 p12 p13):=by unfold Ch;infer_instance
instance {p1} {φ ψ} [AB.Le φ ψ] {k j} [Up k j] {y0 y1 y2 y3 y4 y5 y6 y7 y8 y9 y10}:OL (Bu φ p1 k y0 y1 y2 y3 y4 y5 y6 y7 y8 y9 y10) (Bu ψ p1 j y0 y1 y2 y3 y4 y5 y6 y7 y8 y9 y10):=Up.go (P:=fun k j=>∀y0 y1 y2 y3 y4 y5 y6 y7 y8 y9 y10,OL (Bu φ p1 k y0 y1 y2 y3 y4 y5 y6 y7 y8 y9 y10) (Bu ψ p1 j y0 y1 y2 y3 y4 y5 y6 y7 y8 y9 y10)) (fun _ _ _ _ _ _ _ _ _ _ _ _=> .none) (fun n m _ _ y0 y1 y2 y3 y4 y5 y6 y7 y8 y9 y10=>inferInstanceAs (OL (Ch φ p1 (Bu φ p1 n) y0 y1 y2 y3 y4 y5 y6 y7 y8 y9 y10) (Ch ψ p1 (Bu ψ p1 m) y0 y1 y2 y3 y4 y5 y6 y7 y8 y9 y10))) y0 y1 y2 y3 y4 y5 y6 y7 y8 y9 y10
instance {p2 p3} {φ ψ} [AB.Le φ ψ] {N M} [Up N M]:OL (Cl φ N p2 p3) (Cl ψ M p2 p3):=by unfold Cl;infer_instance
instance {p2 p3} {φ ψ} [AB.Le φ ψ] {N M} [Up N M]:OL (CA φ N p2 p3) (CA ψ M p2 p3):=by unfold CA;infer_instance
instance {p1 p2 p3 p4 p5 p6 p7 p8 p9 p10 p11 p12 p13} {φ ψ} [AB.Le φ ψ]:OL (EQ φ p1 p2 p3 p4 p5 p6 p7 p8 p9 p10 p11 p12 p13) (EQ ψ p1 p2 p3 p4 p5 p6 p7 p8 p9 p10 p11 p12 p13):=by unfold EQ;infer_instance
instance {p1 p2 p3} {φ ψ} [AB.Le φ ψ]:OL (Du φ p1 p2 p3) (Du ψ p1 p2 p3):=by unfold Du;infer_instance
instance {p2} {φ ψ} [AB.Le φ ψ] {N M} [Up N M]:OL (DB φ N p2) (DB ψ M p2):=by unfold DB;infer_instance
instance {p0 p1 p2 p3 p4 p5 p6 p8 p9 p10} {s7 s7'} [∀x0 x1 x2 x3 x4 x5 x6 x7 x8 x9 x10 x11 x12 x13 x14 x15,OL (s7 x0 x1 x2 x3 x4 x5 x6 x7 x8 x9 x10 x11 x12 x13 x14 x15) (s7' x0 x1 x2 x3 x4 x5 x6 x7 x8 x9 x10 x11 x12 x13 x14 x15)]:OL (EB p0 p1 p2 p3 p4 p5 p6 s7 p8 p9 p10) (EB p0 p1 p2 p3 p4 p5 p6 s7' p8 p9 p10):=by unfold EB;infer_instance
instance {p1 p2 p3 p4 p5 p6 p7 p8 p9 p10 p11 p12 p13 p14 p15 p16 p18} {φ ψ} [AB.Le φ ψ] {s17 s17'} [∀x0 x1 x2 x3 x4 x5 x6 x7 x8 x9 x10 x11 x12 x13 x14 x15,OL (s17 x0 x1 x2 x3 x4 x5 x6 x7 x8 x9 x10 x11 x12 x13 x14 x15) (s17' x0 x1 x2 x3 x4 x5 x6 x7 x8 x9 x10 x11 x12 x13 x14 x15)]:OL (EC φ p1 p2 p3 p4 p5 p6 p7 p8 p9 p10 p11 p12 p13 p14 p15 p16 s17 p18) (EC ψ p1 p2 p3 p4 p5 p6 p7 p8 p9 p10 p11 p12 p13 p14 p15 p16 s17' p18):=by unfold EC;infer_instance
instance {p2 p3 p4 p5 p6 p7 p8 p9 p10 p11 p12 p13 p14 p15 p16 p17} {φ ψ} [AB.Le φ ψ] {s1 s1'} [∀x0 x1 x2 x3 x4 x5 x6 x7 x8 x9 x10 x11 x12 x13 x14 x15,OL (s1 x0 x1 x2 x3 x4 x5 x6 x7 x8 x9 x10 x11 x12 x13 x14 x15) (s1' x0 x1 x2 x3 x4 x5 x6 x7 x8 x9 x10 x11 x12 x13 x14 x15)]:OL (DO φ s1 p2 p3 p4 p5 p6 p7 p8 p9 p10 p11 p12 p13 p14 p15 p16 p17) (DO ψ s1' p2 p3 p4 p5 p6 p7 p8 p9 p10 p11 p12 p13 p14 p15 p16 p17):=by unfold DO;infer_instance
instance {φ ψ} [AB.Le φ ψ] {k j} [Up k j] {y0 y1 y2 y3 y4 y5 y6 y7 y8 y9 y10 y11 y12 y13 y14 y15}:OL (B1 φ k y0 y1 y2 y3 y4 y5 y6 y7 y8 y9 y10 y11 y12 y13 y14 y15) (B1 ψ j y0 y1 y2 y3 y4 y5 y6 y7 y8 y9 y10 y11 y12 y13 y14 y15):=Up.go (P:=fun k j=>∀y0 y1 y2 y3 y4 y5 y6 y7 y8 y9 y10 y11 y12 y13 y14 y15,OL (B1 φ k y0 y1 y2 y3 y4 y5 y6 y7 y8 y9 y10 y11 y12 y13 y14 y15) (B1 ψ j y0 y1 y2 y3 y4 y5 y6 y7 y8 y9 y10 y11 y12 y13 y14 y15)) (fun _ _ _ _ _ _ _ _ _ _ _ _ _ _ _ _ _=> .none) (fun n m _ _ y0 y1 y2 y3 y4 y5 y6 y7 y8 y9 y10 y11 y12 y13 y14 y15=>inferInstanceAs (OL (DO φ (B1 φ n) y0 y1 y2 y3 y4 y5 y6 y7 y8 y9 y10 y11 y12 y13 y14 y15) (DO ψ (B1 ψ m) y0 y1 y2 y3 y4 y5 y6 y7 y8 y9 y10 y11 y12 y13 y14 y15))) y0 y1 y2 y3 y4 y5 y6 y7 y8 y9 y10 y11 y12 y13 y14 y15
instance {p2} {φ ψ} [AB.Le φ ψ] {N M} [Up N M]:OL (DX φ N p2) (DX ψ M p2):=by unfold DX;infer_instance
instance {p0 p1 p2 p3 p4 p5 p6 p8 p9 p10} {s7 s7'} [∀x0 x1 x2 x3 x4 x5 x6 x7 x8 x9 x10 x11 x12 x13 x14 x15,OL (s7 x0 x1 x2 x3 x4 x5 x6 x7 x8 x9 x10 x11 x12 x13 x14 x15) (s7' x0 x1 x2 x3 x4 x5 x6 x7 x8 x9 x10 x11 x12 x13 x14 x15)]:OL (Dv p0 p1 p2 p3 p4 p5 p6 s7 p8 p9 p10) (Dv p0 p1 p2 p3 p4 p5 p6 s7' p8 p9 p10):=by unfold Dv;infer_instance
instance {p1 p2 p3 p4 p5 p6 p7 p8 p9 p10 p11 p12 p13 p14 p15 p16 p18} {φ ψ} [AB.Le φ ψ] {s17 s17'} [∀x0 x1 x2 x3 x4 x5 x6 x7 x8 x9 x10 x11 x12 x13 x14 x15,OL (s17 x0 x1 x2 x3 x4 x5 x6 x7 x8 x9 x10 x11 x12 x13 x14 x15) (s17' x0 x1 x2 x3 x4 x5 x6 x7 x8 x9 x10 x11 x12 x13 x14 x15)]:OL (Dw φ p1 p2 p3 p4 p5 p6 p7 p8 p9 p10 p11 p12 p13 p14 p15 p16 s17 p18) (Dw ψ p1 p2 p3 p4 p5 p6 p7 p8 p9 p10 p11 p12 p13 p14 p15 p16 s17' p18):=by unfold Dw;infer_instance
instance {p2 p3 p4 p5 p6 p7 p8 p9 p10 p11 p12 p13 p14 p15 p16 p17} {φ ψ} [AB.Le φ ψ] {s1 s1'} [∀x0 x1 x2 x3 x4 x5 x6 x7 x8 x9 x10 x11 x12 x13 x14 x15,OL (s1 x0 x1 x2 x3 x4 x5 x6 x7 x8 x9 x10 x11 x12 x13 x14 x15) (s1' x0 x1 x2 x3 x4 x5 x6 x7 x8 x9 x10 x11 x12 x13 x14 x15)]:OL (Cz φ s1 p2 p3 p4 p5 p6 p7 p8 p9 p10 p11 p12 p13 p14 p15 p16 p17) (Cz ψ s1' p2 p3 p4 p5 p6 p7 p8 p9 p10 p11 p12 p13 p14 p15 p16 p17):=by unfold Cz;infer_instance
instance {φ ψ} [AB.Le φ ψ] {k j} [Up k j] {y0 y1 y2 y3 y4 y5 y6 y7 y8 y9 y10 y11 y12 y13 y14 y15}:OL (Bt φ k y0 y1 y2 y3 y4 y5 y6 y7 y8 y9 y10 y11 y12 y13 y14 y15) (Bt ψ j y0 y1 y2 y3 y4 y5 y6 y7 y8 y9 y10 y11 y12 y13 y14 y15):=Up.go (P:=fun k j=>∀y0 y1 y2 y3 y4 y5 y6 y7 y8 y9 y10 y11 y12 y13 y14 y15,OL (Bt φ k y0 y1 y2 y3 y4 y5 y6 y7 y8 y9 y10 y11 y12 y13 y14 y15) (Bt ψ j y0 y1 y2 y3 y4 y5 y6 y7 y8 y9 y10 y11 y12 y13 y14 y15)) (fun _ _ _ _ _ _ _ _ _ _ _ _ _ _ _ _ _=> .none) (fun n m _ _ y0 y1 y2 y3 y4 y5 y6 y7 y8 y9 y10 y11 y12 y13 y14 y15=>inferInstanceAs (OL (Cz φ (Bt φ n) y0 y1 y2 y3 y4 y5 y6 y7 y8 y9 y10 y11 y12 y13 y14 y15) (Cz ψ (Bt ψ m) y0 y1 y2 y3 y4 y5 y6 y7 y8 y9 y10 y11 y12 y13 y14 y15))) y0 y1 y2 y3 y4 y5 y6 y7 y8 y9 y10 y11 y12 y13 y14 y15
instance {p2} {φ ψ} [AB.Le φ ψ] {N M} [Up N M]:OL (DC φ N p2) (DC ψ M p2):=by unfold DC;infer_instance
instance {p1 p2 p3 p4 p5 p6 p7 p8} {φ ψ} [AB.Le φ ψ]:OL (CS φ p1 p2 p3 p4 p5 p6 p7 p8) (CS ψ p1 p2 p3 p4 p5 p6 p7 p8):=by unfold CS;infer_instance
instance {p2 p3 p4 p5 p6 p7 p8} {φ ψ} [AB.Le φ ψ] {N M} [Up N M]:OL (E9 φ N p2 p3 p4 p5 p6 p7 p8) (E9 ψ M p2 p3 p4 p5 p6 p7 p8):=by unfold E9;infer_instance
instance {p2 p3 p4} {φ ψ} [AB.Le φ ψ] {N M} [Up N M]:OL (DP φ N p2 p3 p4) (DP ψ M p2 p3 p4):=by unfold DP;infer_instance
instance {p2} {φ ψ} [AB.Le φ ψ] {N M} [Up N M]:OL (DD φ N p2) (DD ψ M p2):=by unfold DD;infer_instance
instance {p1 p3 p4 p5 p6 p7 p8 p9 p10 p11} {φ ψ} [AB.Le φ ψ] {s2 s2'} [∀x0 x1 x2 x3 x4 x5 x6 x7 x8 x9,OL (s2 x0 x1 x2 x3 x4 x5 x6 x7 x8 x9) (s2' x0 x1 x2 x3 x4 x5 x6 x7 x8 x9)]:OL (Da φ p1 s2 p3 p4 p5 p6 p7 p8 p9 p10 p11) (Da ψ p1 s2' p3 p4 p5 p6 p7 p8 p9 p10 p11):=by unfold Da;infer_instance
instance {p1 p2 p3 p4 p5 p6 p7 p8 p9 p10 p11 p13} {φ ψ} [AB.Le φ ψ] {s12 s12'} [∀x0 x1 x2 x3 x4 x5 x6 x7 x8 x9,OL (s12 x0 x1 x2 x3 x4 x5 x6 x7 x8 x9) (s12' x0 x1 x2 x3 x4 x5 x6 x7 x8 x9)]:OL (Db φ p1 p2 p3 p4 p5 p6 p7 p8 p9 p10 p11 s12 p13) (Db ψ p1 p2 p3 p4 p5 p6 p7 p8 p9 p10 p11 s12' p13):=by unfold Db;infer_instance
instance {p1 p3 p4 p5 p6 p7 p8 p9 p10 p11 p12} {φ ψ} [AB.Le φ ψ] {s2 s2'} [∀x0 x1 x2 x3 x4 x5 x6 x7 x8 x9,OL (s2 x0 x1 x2 x3 x4 x5 x6 x7 x8 x9) (s2' x0 x1 x2 x3 x4 x5 x6 x7 x8 x9)]:OL (Ci φ p1 s2 p3 p4 p5 p6 p7 p8 p9 p10 p11 p12) (Ci ψ p1 s2' p3 p4 p5 p6 p7 p8 p9 p10 p11 p12):=by unfold Ci;infer_instance
instance {p1} {φ ψ} [AB.Le φ ψ] {k j} [Up k j] {y0 y1 y2 y3 y4 y5 y6 y7 y8 y9}:OL (Bl φ p1 k y0 y1 y2 y3 y4 y5 y6 y7 y8 y9) (Bl ψ p1 j y0 y1 y2 y3 y4 y5 y6 y7 y8 y9):=Up.go (P:=fun k j=>∀y0 y1 y2 y3 y4 y5 y6 y7 y8 y9,OL (Bl φ p1 k y0 y1 y2 y3 y4 y5 y6 y7 y8 y9) (Bl ψ p1 j y0 y1 y2 y3 y4 y5 y6 y7 y8 y9)) (fun _ _ _ _ _ _ _ _ _ _ _=> .none) (fun n m _ _ y0 y1 y2 y3 y4 y5 y6 y7 y8 y9=>inferInstanceAs (OL (Ci φ p1 (Bl φ p1 n) y0 y1 y2 y3 y4 y5 y6 y7 y8 y9) (Ci ψ p1 (Bl ψ p1 m) y0 y1 y2 y3 y4 y5 y6 y7 y8 y9))) y0 y1 y2 y3 y4 y5 y6 y7 y8 y9
instance {p2 p3} {φ ψ} [AB.Le φ ψ] {N M} [Up N M]:OL (Cm φ N p2 p3) (Cm ψ M p2 p3):=by unfold Cm;infer_instance
instance {N M} [Up N M]:AB.Le (AB.at N) (AB.at M):=Up.go (P:=fun N M=>AB.Le (AB.at N) (AB.at M)) (fun _=>⟨fun _=> .none,fun _=> .none,fun _ _=> .none,fun _ _=> .none,fun _=> .none,fun _=> .none,fun _=> .none,fun _=> .none,fun _ _=> .none⟩) fun n m _ _=>⟨fun x0=>inferInstanceAs (OL (C9 (AB.at n) n x0) (C9 (AB.at m) m x0)),fun x0=>inferInstanceAs (OL (DA (AB.at n) n x0) (DA (AB.at m) m x0)),fun x0 x1=>inferInstanceAs (OL (Cl (AB.at n) n x0 x1) (Cl (AB.at m) m x0 x1)),fun x0 x1=>inferInstanceAs (OL (CA (AB.at n) n x0 x1) (CA (AB.at m) m x0 x1)),fun x0=>inferInstanceAs (OL (DB (AB.at n) n x0) (DB (AB.at m) m x0)),fun x0=>inferInstanceAs (OL (DX (AB.at n) n x0) (DX (AB.at m) m x0)),fun x0=>inferInstanceAs (OL (DC (AB.at n) n x0) (DC (AB.at m) m x0)),fun x0=>inferInstanceAs (OL (DD (AB.at n) n x0) (DD (AB.at m) m x0)),fun x0 x1=>inferInstanceAs (OL (Cm (AB.at n) n x0 x1) (Cm (AB.at m) m x0 x1))⟩
instance {N M} [Up N M] {y0}:OL (ref04_reader_expr N y0) (ref04_reader_expr M y0):=AB.Le.ref04_reader_expr _
instance {N M} [Up N M] {y0}:OL (ref04_reader_cons N y0) (ref04_reader_cons M y0):=AB.Le.ref04_reader_cons _
instance {N M} [Up N M] {y0 y1}:OL (ref04_reader_parts N y0 y1) (ref04_reader_parts M y0 y1):=AB.Le.ref04_reader_parts _ _
instance {N M} [Up N M] {y0 y1}:OL (ref04_reader_branches N y0 y1) (ref04_reader_branches M y0 y1):=AB.Le.ref04_reader_branches _ _
instance {N M} [Up N M] {y0}:OL (ref04_reader_comp N y0) (ref04_reader_comp M y0):=AB.Le.ref04_reader_comp _
instance {N M} [Up N M] {y0}:OL (ref04_reader_sum N y0) (ref04_reader_sum M y0):=AB.Le.ref04_reader_sum _
instance {N M} [Up N M] {y0}:OL (ref04_reader_term N y0) (ref04_reader_term M y0):=AB.Le.ref04_reader_term _
instance {N M} [Up N M] {y0}:OL (ref04_reader_unit N y0) (ref04_reader_unit M y0):=AB.Le.ref04_reader_unit _
instance {N M} [Up N M] {y0 y1}:OL (ref04_reader_named N y0 y1) (ref04_reader_named M y0 y1):=AB.Le.ref04_reader_named _ _
instance {p1 p3 p4 p5 p6 p7 p8 p9 p10 p11} {N M} [Up N M] {s2 s2'} [∀x0 x1 x2 x3 x4 x5 x6 x7 x8 x9,OL (s2 x0 x1 x2 x3 x4 x5 x6 x7 x8 x9) (s2' x0 x1 x2 x3 x4 x5 x6 x7 x8 x9)]:OL (ED N p1 s2 p3 p4 p5 p6 p7 p8 p9 p10 p11) (ED M p1 s2' p3 p4 p5 p6 p7 p8 p9 p10 p11):=by unfold ED;infer_instance
instance {p1 p3 p4 p5 p6 p7 p8 p9 p10 p11 p12} {N M} [Up N M] {s2 s2'} [∀x0 x1 x2 x3 x4 x5 x6 x7 x8 x9,OL (s2 x0 x1 x2 x3 x4 x5 x6 x7 x8 x9) (s2' x0 x1 x2 x3 x4 x5 x6 x7 x8 x9)]:OL (Df N p1 s2 p3 p4 p5 p6 p7 p8 p9 p10 p11 p12) (Df M p1 s2' p3 p4 p5 p6 p7 p8 p9 p10 p11 p12):=by unfold Df;infer_instance
instance {p1 p3 p4 p5 p6 p7 p8 p9 p10 p11} {N M} [Up N M] {s2 s2'} [∀x0 x1 x2 x3 x4 x5 x6 x7 x8 x9,OL (s2 x0 x1 x2 x3 x4 x5 x6 x7 x8 x9) (s2' x0 x1 x2 x3 x4 x5 x6 x7 x8 x9)]:OL (EE N p1 s2 p3 p4 p5 p6 p7 p8 p9 p10 p11) (EE M p1 s2' p3 p4 p5 p6 p7 p8 p9 p10 p11):=by unfold EE;infer_instance
instance {p1 p2 p3 p4 p5 p6 p7 p8 p9 p10 p11 p13} {N M} [Up N M] {s12 s12'} [∀x0 x1 x2 x3 x4 x5 x6 x7 x8 x9,OL (s12 x0 x1 x2 x3 x4 x5 x6 x7 x8 x9) (s12' x0 x1 x2 x3 x4 x5 x6 x7 x8 x9)]:OL (Dg N p1 p2 p3 p4 p5 p6 p7 p8 p9 p10 p11 s12 p13) (Dg M p1 p2 p3 p4 p5 p6 p7 p8 p9 p10 p11 s12' p13):=by unfold Dg;infer_instance
instance {p1 p3 p4 p5 p6 p7 p8 p9 p10 p11 p12} {N M} [Up N M] {s2 s2'} [∀x0 x1 x2 x3 x4 x5 x6 x7 x8 x9,OL (s2 x0 x1 x2 x3 x4 x5 x6 x7 x8 x9) (s2' x0 x1 x2 x3 x4 x5 x6 x7 x8 x9)]:OL (DQ N p1 s2 p3 p4 p5 p6 p7 p8 p9 p10 p11 p12) (DQ M p1 s2' p3 p4 p5 p6 p7 p8 p9 p10 p11 p12):=by unfold DQ;infer_instance
instance {p1} {N M} [Up N M] {k j} [Up k j] {y0 y1 y2 y3 y4 y5 y6 y7 y8 y9}:OL (Bh N p1 k y0 y1 y2 y3 y4 y5 y6 y7 y8 y9) (Bh M p1 j y0 y1 y2 y3 y4 y5 y6 y7 y8 y9):=Up.go (P:=fun k j=>∀y0 y1 y2 y3 y4 y5 y6 y7 y8 y9,OL (Bh N p1 k y0 y1 y2 y3 y4 y5 y6 y7 y8 y9) (Bh M p1 j y0 y1 y2 y3 y4 y5 y6 y7 y8 y9)) (fun _ _ _ _ _ _ _ _ _ _ _=> .none) (fun n m _ _ y0 y1 y2 y3 y4 y5 y6 y7 y8 y9=>inferInstanceAs (OL (DQ N p1 (Bh N p1 n) y0 y1 y2 y3 y4 y5 y6 y7 y8 y9) (DQ M p1 (Bh M p1 m) y0 y1 y2 y3 y4 y5 y6 y7 y8 y9))) y0 y1 y2 y3 y4 y5 y6 y7 y8 y9
instance {p1 p2 p3 p4 p5 p6 p7 p8 p9} {N M} [Up N M]:OL (EF N p1 p2 p3 p4 p5 p6 p7 p8 p9) (EF M p1 p2 p3 p4 p5 p6 p7 p8 p9):=by unfold EF;infer_instance
instance {p1 p2} {N M} [Up N M]:OL (EG N p1 p2) (EG M p1 p2):=by unfold EG;infer_instance
instance {p1 p2} {N M} [Up N M]:OL (Cv N p1 p2) (Cv M p1 p2):=by unfold Cv;infer_instance
instance {p1 p2 p3 p4 p5 p6 p7 p8 p9 p10 p12} {N M} [Up N M] {s11 s11'} [∀x0 x1 x2 x3 x4 x5 x6 x7 x8 x9,OL (s11 x0 x1 x2 x3 x4 x5 x6 x7 x8 x9) (s11' x0 x1 x2 x3 x4 x5 x6 x7 x8 x9)]:OL (CB N p1 p2 p3 p4 p5 p6 p7 p8 p9 p10 s11 p12) (CB M p1 p2 p3 p4 p5 p6 p7 p8 p9 p10 s11' p12):=by unfold CB;infer_instance
instance {p2 p3 p4 p5 p6 p7 p8 p9 p10 p11} {N M} [Up N M] {s1 s1'} [∀x0 x1 x2 x3 x4 x5 x6 x7 x8 x9,OL (s1 x0 x1 x2 x3 x4 x5 x6 x7 x8 x9) (s1' x0 x1 x2 x3 x4 x5 x6 x7 x8 x9)]:OL (CJ N s1 p2 p3 p4 p5 p6 p7 p8 p9 p10 p11) (CJ M s1' p2 p3 p4 p5 p6 p7 p8 p9 p10 p11):=by unfold CJ;infer_instance
instance {N M} [Up N M] {k j} [Up k j] {y0 y1 y2 y3 y4 y5 y6 y7 y8 y9}:OL (Ba N k y0 y1 y2 y3 y4 y5 y6 y7 y8 y9) (Ba M j y0 y1 y2 y3 y4 y5 y6 y7 y8 y9):=Up.go (P:=fun k j=>∀y0 y1 y2 y3 y4 y5 y6 y7 y8 y9,OL (Ba N k y0 y1 y2 y3 y4 y5 y6 y7 y8 y9) (Ba M j y0 y1 y2 y3 y4 y5 y6 y7 y8 y9)) (fun _ _ _ _ _ _ _ _ _ _ _=> .none) (fun n m _ _ y0 y1 y2 y3 y4 y5 y6 y7 y8 y9=>inferInstanceAs (OL (CJ N (Ba N n) y0 y1 y2 y3 y4 y5 y6 y7 y8 y9) (CJ M (Ba M m) y0 y1 y2 y3 y4 y5 y6 y7 y8 y9))) y0 y1 y2 y3 y4 y5 y6 y7 y8 y9
instance {p1} {N M} [Up N M]:OL (B5 N p1) (B5 M p1):=by unfold B5;infer_instance
instance {p1 p2} {N M} [Up N M]:OL (Fk N p1 p2) (Fk M p1 p2):=by unfold Fk;infer_instance
instance {p0 p2 p3} {s1 s1'} [∀x0 x1 x2,OL (s1 x0 x1 x2) (s1' x0 x1 x2)]:OL (Hi p0 s1 p2 p3) (Hi p0 s1' p2 p3):=by unfold Hi;infer_instance
instance {p0 p2} {s1 s1'} [∀x0 x1 x2,OL (s1 x0 x1 x2) (s1' x0 x1 x2)]:OL (Hj p0 s1 p2) (Hj p0 s1' p2):=by unfold Hj;infer_instance
instance {p0 p1 p2 p3 p5} {s4 s4'} [∀x0 x1 x2,OL (s4 x0 x1 x2) (s4' x0 x1 x2)]:OL (Gd p0 p1 p2 p3 s4 p5) (Gd p0 p1 p2 p3 s4' p5):=by unfold Gd;infer_instance
instance {p0 p2 p3 p4} {s1 s1'} [∀x0 x1 x2,OL (s1 x0 x1 x2) (s1' x0 x1 x2)]:OL (FQ p0 s1 p2 p3 p4) (FQ p0 s1' p2 p3 p4):=by unfold FQ;infer_instance
instance {p0} {k j} [Up k j] {y0 y1 y2}:OL (Ec p0 k y0 y1 y2) (Ec p0 j y0 y1 y2):=ABl fun n m _ _ y0 y1 y2=>inferInstanceAs (OL (FQ p0 (Ec p0 n) y0 y1 y2) (FQ p0 (Ec p0 m) y0 y1 y2))
instance {p1} {N M} [Up N M]:OL (GD N p1) (GD M p1):=by unfold GD;infer_instance
instance {p0 p2} {s1 s1'} [∀x0 x1,OL (s1 x0 x1) (s1' x0 x1)]:OL (Hk p0 s1 p2) (Hk p0 s1' p2):=by unfold Hk;infer_instance
instance {p0 p2 p3} {s1 s1'} [∀x0 x1,OL (s1 x0 x1) (s1' x0 x1)]:OL (FR p0 s1 p2 p3) (FR p0 s1' p2 p3):=by unfold FR;infer_instance
instance {p0} {k j} [Up k j] {y0 y1}:OL (FA p0 k y0 y1) (FA p0 j y0 y1):=Ut fun n m _ _ y0 y1=>inferInstanceAs (OL (FR p0 (FA p0 n) y0 y1) (FR p0 (FA p0 m) y0 y1))
instance {p1} {N M} [Up N M]:OL (CC N p1) (CC M p1):=by unfold CC;infer_instance
instance {p1} {N M} [Up N M]:OL (EV N p1) (EV M p1):=by unfold EV;infer_instance
instance {p1 p2 p4} {N M} [Up N M] {s3 s3'} [∀x0 x1,OL (s3 x0 x1) (s3' x0 x1)]:OL (HU N p1 p2 s3 p4) (HU M p1 p2 s3' p4):=by unfold HU;infer_instance
instance {p1 p3 p4} {N M} [Up N M] {s2 s2'} [∀x0 x1,OL (s2 x0 x1) (s2' x0 x1)]:OL (Fs N p1 s2 p3 p4) (Fs M p1 s2' p3 p4):=by unfold Fs;infer_instance
instance {p1} {N M} [Up N M] {k j} [Up k j] {y0 y1}:OL (FS N p1 k y0 y1) (FS M p1 j y0 y1):=Ut fun n m _ _ y0 y1=>inferInstanceAs (OL (Fs N p1 (FS N p1 n) y0 y1) (Fs M p1 (FS M p1 m) y0 y1))
instance {p1} {N M} [Up N M]:OL (Ge N p1) (Ge M p1):=by unfold Ge;infer_instance
instance {p1 p2 p4 p5 p6 p7} {N M} [Up N M] {s3 s3'} [∀x0 x1 x2 x3,OL (s3 x0 x1 x2 x3) (s3' x0 x1 x2 x3)]:OL (FT N p1 p2 s3 p4 p5 p6 p7) (FT M p1 p2 s3' p4 p5 p6 p7):=by unfold FT;infer_instance
instance {p1 p2} {N M} [Up N M] {k j} [Up k j] {y0 y1 y2 y3}:OL (FB N p1 p2 k y0 y1 y2 y3) (FB M p1 p2 j y0 y1 y2 y3):=ABm fun n m _ _ y0 y1 y2 y3=>inferInstanceAs (OL (FT N p1 p2 (FB N p1 p2 n) y0 y1 y2 y3) (FT M p1 p2 (FB M p1 p2 m) y0 y1 y2 y3))
instance {p1 p2 p3} {N M} [Up N M]:OL (Ft N p1 p2 p3) (Ft M p1 p2 p3):=by unfold Ft;infer_instance
instance {p1 p2} {N M} [Up N M]:OL (Gg N p1 p2) (Gg M p1 p2):=by unfold Gg;infer_instance
instance {p1} {N M} [Up N M]:OL (Fm N p1) (Fm M p1):=by unfold Fm;infer_instance
instance {p0 p2} {s1 s1'} [∀x0 x1,OL (s1 x0 x1) (s1' x0 x1)]:OL (Hl p0 s1 p2) (Hl p0 s1' p2):=by unfold Hl;infer_instance
instance {p1 p2 p3 p5 p6 p8} {N M} [Up N M] {s4 s4'} [∀x0 x1,OL (s4 x0 x1) (s4' x0 x1)] {s7 s7'} [∀x0 x1,OL (s7 x0 x1) (s7' x0 x1)]:OL (Ed N p1 p2 p3 s4 p5 p6 s7 p8) (Ed M p1 p2 p3 s4' p5 p6 s7' p8):=by unfold Ed;infer_instance
instance {p1 p2 p3 p6 p7} {N M} [Up N M] {s4 s4'} [∀x0 x1,OL (s4 x0 x1) (s4' x0 x1)] {s5 s5'} [∀x0 x1,OL (s5 x0 x1) (s5' x0 x1)]:OL (FU N p1 p2 p3 s4 s5 p6 p7) (FU M p1 p2 p3 s4' s5' p6 p7):=by unfold FU;infer_instance
instance {p1 p2 p3} {N M} [Up N M] {s4 s4'} [∀x0 x1,OL (s4 x0 x1) (s4' x0 x1)] {k j} [Up k j] {y0 y1}:OL (EJ N p1 p2 p3 s4 k y0 y1) (EJ M p1 p2 p3 s4' j y0 y1):=Ut fun n m _ _ y0 y1=>inferInstanceAs (OL (FU N p1 p2 p3 s4 (EJ N p1 p2 p3 s4 n) y0 y1) (FU M p1 p2 p3 s4' (EJ M p1 p2 p3 s4' m) y0 y1))
instance {p1 p3 p4} {N M} [Up N M] {s2 s2'} [∀x0 x1,OL (s2 x0 x1) (s2' x0 x1)]:OL (FV N p1 s2 p3 p4) (FV M p1 s2' p3 p4):=by unfold FV;infer_instance
instance {p1} {N M} [Up N M] {k j} [Up k j] {y0 y1}:OL (CX N p1 k y0 y1) (CX M p1 j y0 y1):=Ut fun n m _ _ y0 y1=>inferInstanceAs (OL (FV N p1 (CX N p1 n) y0 y1) (FV M p1 (CX M p1 m) y0 y1))
instance {p1} {N M} [Up N M]:OL (GE N p1) (GE M p1):=by unfold GE;infer_instance
instance {p1 p2 p3} {N M} [Up N M]:OL (Gh N p1 p2 p3) (Gh M p1 p2 p3):=by unfold Gh;infer_instance
instance {p1} {N M} [Up N M]:OL (CD N p1) (CD M p1):=by unfold CD;infer_instance
theorem QT{N M}(h:N≤M){a}: ∀x,CD N a=some x→CD M a=some x:=haveI:Up N M:=⟨h⟩;(inferInstance:OL (CD N a) (CD M a)).le
end Fth
namespace Fth
open Go
theorem AAX(k:Nat):Hs (k+200)=some true:=by kernel_rfl
theorem Wg:Ev fun N=>Hs N=some true:=Ev.down 200 (Ev.all AAX)
theorem AAY{a:GZ}(h:a.args.length≤1048576): ∃x:AM×List AG×Bool,(x.2.2=true→WP x.1∧LV x.2.1)∧Ev fun N=>CD N a=some x:=by
 obtain ⟨x,hx,hq⟩:=AAF (N:=20000000) h (Nat.le_refl _)
 exact ⟨x,hq,⟨20000000,fun N hN=>QT hN x hx⟩⟩
theorem To(a:GZ)(most:Int)(h:a.args.length≤1048576): ∃N,Dl N a most=some true:=by
 obtain ⟨x,hx,er⟩:=AAY h
 cases hb:x.2.2
 ·refine ((Wg.and er).mono (q:=fun N=>Dl N a most=some true) fun N hN=>?_).get
  unfold Dl
  rw [hN.1,Option.bind_some,Bool.not_true,cond_false,hN.2,Option.bind_some,hb];rfl
 ·obtain ⟨hp,hl⟩:=hx hb
  obtain ⟨r,hr,ec⟩:=AAV (nm:=a.name) hp hl.av most
  refine (((Wg.and er).and (ec.and (AAW (ZV hr)))).mono (q:=fun N=>Dl N a most=some true) fun N hN=>?_).get
  unfold Dl
  rw [hN.1.1,Option.bind_some,Bool.not_true,cond_false,hN.1.2,Option.bind_some,hb,Bool.not_true,cond_false,hN.2.1.1,Option.bind_some,hN.2.1.2,Option.bind_some,hN.2.2];rfl
end Fth
namespace Fth
open Go Go.Proofs Go.ChangeShapes Go.WideShapes Go.ChangeAt Go.RowKit
open Go.Proofs.YtiodboehkcmdnaaGreat
open Go.ChangeMaps (open_string shut_string)
open Go.Deep (trod_struct3_mk)
theorem ABa{n:Int}(h:(Lit.int .u8 n).wf=true):((UInt8.ofNat n.toNat).toNat:Int)=n:=by
 have h:0≤n∧n≤255:=by simpa [Lit.wf,IntKind.min,IntKind.max,IntKind.signed,IntKind.bits] using h
 simp only [UInt8.toNat_ofNat']
 omega
theorem SE(s:ByteArray):bs s.data.toList=s:=by cases s;simp [bs]
section
variable{H:Type}{enc:TypeId×Value→H}{W:World}{base:Nat}
theorem AU.old{C C':Col}{W':World}(h:AU [] C W C' W'): ∀b,b<W.heap.size→W'.heap[b]?=W.heap[b]?:=fun b hb=>h.same b hb (by simp)
theorem AU.keptBut{C C':Col}{W':World}(h:AU [] C W C' W')(may:MemPlace→Prop):W.keptBut W' may:=by
 refine ⟨h.os,h.output,fun i hi=>?_⟩
 rw [h.old i hi]
 exact (World.keptBut_refl W may).2.2 i hi
theorem YG{P:Program}{f:Func}{s:ChangeSpec}{apart fresh handsOn again:Bool}{W':World}{args:Array Value}{v:Value}{ds gs:List (DataW H)}{before pa:List MemPlace}{C C':Col}
  (hW:DataW.Whole enc P f.params.toList s.vars apart W args.toList ds gs before)
  (hres: ∀(b:Nat) (sp:Nat→Bool) (hd:Bool),DataW.TrodAll enc P W' b sp hd f.resultTypes.toList (v.resultList f.resultTypes.size) (s.fn H (ds++gs)).results [])
  (hargs: ∀sp:Nat→Bool,(∀p∈before,sp p.block=true)→DataW.TrodAll enc P W' 0 sp true f.params.toList args.toList (s.fn H (ds++gs)).args pa)
  (hvars: ∀sp:Nat→Bool,DataW.TrodVars enc P W' sp s.vars (s.fn H (ds++gs)).vars [])
  (hps:before=pa) (st:AU [] C W C' W')
  (hok: ∀(j:Nat) (t:TypeId) (r:Value),f.resultTypes[j]?=some t→(v.resultList f.resultTypes.size)[j]?=some r→Value.okWide P W' .any 0 t r):
  s.post enc P f apart fresh handsOn again W args v W':=by
 have hold: ∀p∈before,(fun b=>decide (b<W.heap.size)) p.block=true:=fun p hp=>by simpa using hW.lt p hp
 refine ⟨ds,gs,before,[],pa,[],hW,hres _ _ _,hargs _ hold,hvars _,World.keptBut_mono (fun p hp=>⟨hp,?_⟩) (st.keptBut (· ∈before)),fun _=>?_⟩
 ·rw [hps] at hp
  exact Or.inr (by simpa using hp)
 ·have hlt:=hW.lt
  obtain ⟨_,_,_,_,_,hz,hn⟩:=hW
  refine ⟨hok,_,_,([]++pa)++[],⟨[]++pa,[],trodAll_append (hargs _ (fun _ _=>rfl)) (hres _ _ _),hvars _,rfl,?_,?_⟩,?_⟩
  ·intro b off hp
   have hp':MemPlace.cell b off∈before:=by rw [hps];simpa using hp
   have hb:b<W.heap.size:=hlt _ hp'
   have:=hz b off hp'
   unfold World.frozen? at this ⊢
   rw [st.old b hb]
   exact this
  ·intro ha
   have:=hn ha
   rw [hps] at this
   simpa using this
  ·intro p hp _
   rw [hps]
   simpa using hp
set_option maxRecDepth 100000 in
theorem ZX{v:Value}{d:DataW H}{p:List MemPlace}(hv:Value.okWide Tryz.prog W .any base 24 v)(h:DataW.Trod enc Tryz.prog W 0 (fun _=>true) true 24 v d p):
  ∃(a:GZ) (c0:List Value),v= .agg c0.toArray∧Nb.rep (Col.F fun _=>0) W c0 a∧a.args.length≤Rows.uptoBulk d∧a.text.length≤Rows.uptoBulk d∧a.name.length≤Rows.uptoBulk d∧
   ∀W':World,(∀b,b<W.heap.size→W'.heap[b]?=W.heap[b]?)→∀sp:Nat→Bool,(∀q∈p,sp q.block=true)→DataW.Trod enc Tryz.prog W' 0 sp true 24 v d p:=by
 obtain ⟨c0,c1,c2,y0,y1,y2,m,rfl,rfl,rfl,h0,h1,h2⟩:=Go.Joins.open_agg3 Tryz.underlying24 (by kernel_rfl) (by kernel_rfl) hv h
 obtain ⟨s1,e1,rfl,k1⟩:=DataW.trod_string Tryz.underlying9 h1
 obtain ⟨s2,e2,rfl,k2⟩:=DataW.trod_string Tryz.underlying9 h2
 simp only [List.cons.injEq,and_true] at e1 e2
 subst e1 e2
 have hstr: ∀(n:Nat) (W':World) (sp:Nat→Bool) (s:ByteArray),s.size≤maxLen→DataW.trod enc Tryz.prog W' 0 sp true (n+1) 9 [.string s]=some (.lit (.string s.data.toList),[]):=fun n W' sp s hs=>by
  obtain ⟨n',hn⟩:=shut_string (enc:=enc) (P:=Tryz.prog) (w:=W') (base:=0) (sp:=sp) (held:=true) Tryz.underlying9 hs
  cases n' with
  |zero=>simp [DataW.trod] at hn
  |succ n'=>
   simp only [DataW.trod,Value.cells,Tryz.underlying9] at hn ⊢
   exact hn
 have hcells:Tryz.prog.cellsOf 24=3:=by kernel_rfl
 have close: ∀(n:Nat) (W':World) (sp:Nat→Bool),DataW.trod enc Tryz.prog W' 0 sp true (n+1) 22 [c0]=some y0→
   DataW.Trod enc Tryz.prog W' 0 sp true 24 (.agg #[c0,.string s1,.string s2]) (.agg [y0.1,.lit (.string s1.data.toList),.lit (.string s2.data.toList)]) (y0.2++([]++[])):=fun n W' sp hn=>
  ⟨n+1+1,trod_struct3_mk (y1:=(.lit (.string s1.data.toList),[])) (y2:=(.lit (.string s2.data.toList),[])) Tryz.underlying24 (by rw [hcells];rfl) (by rw [show Tryz.prog.cellsOf 22=1 from by kernel_rfl];exact hn) (hstr n W' sp s1 k1) (hstr n W' sp s2 k2)⟩
 have l1:Rows.uptoBulk (.agg [y0.1,.lit (.string s1.data.toList),.lit (.string s2.data.toList)]:DataW H)=Rows.uptoBulk y0.1+(s1.data.toList.length+1)+(s2.data.toList.length+1)+1:=by
  simp only [Rows.uptoBulk,Rows.uptoBulkAll];omega
 rcases open_ints Tryz.underlying22 Tryz.underlying5 (by kernel_rfl) h0 with ⟨e,rfl⟩| ⟨a,len,cap,zs,e,hb,hl,hm,hz,rfl,hcell,hw⟩
 ·simp only [List.cons.injEq,and_true] at e
  subst e
  refine ⟨⟨[],s1.data.toList,s2.data.toList⟩,[.slice none 0 0,.string s1,.string s2],rfl,⟨_,by rw [SE,SE];rfl,none,0,rfl,Nat.le_refl _,.inl rfl⟩,?_,?_,?_,?_⟩
  ·rw [l1];show s2.data.toList.length≤_;omega
  ·rw [l1];show 0≤_;omega
  ·rw [l1];show s1.data.toList.length≤_;omega
  ·intro W' hW' sp hsp
   refine close 1 W' sp ?_
   rw [DataW.trod_step]
   simp only [DataW.trodStep,Tryz.underlying22]
 ·simp only [List.cons.injEq,and_true] at e
  subst e
  simp only [if_true] at hz
  have hlt: ∀i,i<zs.length→a.block<W.heap.size:=fun i hi=>by
   have:=World.block_lt_of_cell? _ _ (hcell i hi)
   simpa [block_add] using this
  refine ⟨⟨(zs.take len).map fun n=>UInt8.ofNat n.toNat,s1.data.toList,s2.data.toList⟩,[.slice (some a) len cap,.string s1,.string s2],rfl,⟨_,by rw [SE,SE],some a,cap,?_,?_,?_⟩,?_,?_,?_,?_⟩
  ·simp [hz,Nat.min_eq_left hl]
  ·simp [hz];omega
  ·by_cases h0:len=0
   ·subst h0;left;rfl
   ·right
    have h00:=hcell 0 om
    have hs:a.spot=none:=by simpa [Addr.add] using World.cell?_spot h00
    obtain ⟨b,off,spot⟩:=a
    simp only at hs
    subst hs
    refine ⟨b,off,rfl,rfl,hlt 0 om,fun i x hx=>?_⟩
    rw [List.getElem?_map] at hx
    obtain ⟨n,hn,rfl⟩:=Option.map_eq_some_iff.1 hx
    have hi:i<len:=by
     have:=(List.getElem?_eq_some_iff.1 hn).1
     simp at this;omega
    rw [List.getElem?_take_of_lt hi] at hn
    have hm':n∈zs:=List.mem_of_getElem? hn
    refine ⟨_,rfl,rfl,fun j c hj=>?_⟩
    match j,hj with
    |0,hj=>
     simp only [List.getElem?_cons_zero,Option.some.injEq] at hj
     subst hj
     have:=hcell i om
     rw [add_plain,show zs.getD i 0=n by simp [List.getD,hn]] at this
     show W.cell? ⟨b,off+i*1+0,none⟩=_
     rw [ABa (hw n hm')]
     simpa using this
  ·rw [l1];show s2.data.toList.length≤_;omega
  ·rw [l1]
   show ((zs.take len).map _).length≤_
   have h1:Rows.uptoBulk (.slice (lits .u8 (zs.take len)) (lits .u8 (zs.drop len)):DataW H)≥(zs.take len).length:=by
    have: ∀l:List Int,Rows.uptoBulkAll (lits .u8 l:List (DataW H))=l.length:=fun l=>by
     induction l with
     |nil=>rfl
     |cons x l ih=>
      have e:(lits .u8 (x::l):List (DataW H))= .lit (.int .u8 x)::lits .u8 l:=rfl
      rw [e];simp only [Rows.uptoBulkAll,Rows.uptoBulk,ih,List.length_cons];omega
    simp only [Rows.uptoBulk,this]
    omega
   rw [List.length_map]
   simp only
   omega
  ·rw [l1];show s1.data.toList.length≤_;omega
  ·intro W' hW' sp hsp
   refine close 1 W' sp ?_
   refine shut_ints 0 Tryz.underlying22 Tryz.underlying5 (by kernel_rfl) (Nat.zero_le _) hl hm ?_ ?_ hw
   ·by_cases h0:zs.length=0
    ·split<;>omega
    ·have:sp a.block=true:=hsp (.cell a.block (a.off+0)) (by
      simp only [List.append_nil,MemPlace.row,List.mem_map,List.mem_range]
      exact ⟨0,om,rfl⟩)
     rw [if_pos this];exact hz
   ·intro i hi
    rw [World.cell?_of_block (w:=W) (a:=a.add i) (by rw [block_add];exact hW' _ (hlt i hi))]
    exact hcell i hi
end
end Fth
namespace Go.Proofs.YtiodboehkcmdnaaGreat.meanCalls
open Go Go.ChangeShapes Go.WideShapes Go.ChangeAt Go.RowKit Fth
set_option linter.unusedVariables false
theorem own:ownKnob Tryz.prog.godebug=none:=by kernel_rfl
set_option maxRecDepth 100000 in
theorem contract(H:Type)(enc:TypeId×Value→H)(W:World)(base:Nat)(args:Array Value)(ds gs:List (DataW H))(before:List MemPlace)
  (hval: ∀(j:Nat) t v,Tryz.f3.params[j]?=some t→args[j]?=some v→Value.okWide Tryz.prog W .any base t v)
  (hW:DataW.Whole enc Tryz.prog Tryz.f3.params.toList Rows.meanCallsSpec.vars false W args.toList ds gs before) (hk:Rows.uptoSmall H (ds++gs)=true):
  Calls Tryz.prog 3 args W fun e W'=>∃v,e= .returned v∧Rows.meanCallsSpec.post enc Tryz.prog Tryz.f3 false true false false W args v W':=by
 have hW':=hW
 obtain ⟨p,q,hA0,hV,rfl,hfz,hnd⟩:=hW
 have hA:DataW.TrodAll enc Tryz.prog W 0 (fun _=>true) true Tryz.f3.params.toList args.toList ds p:=hA0
 rw [Tryz.params3] at hA hval
 obtain ⟨v0,vs0,d0,ds0,p0,q0,hargs,rfl,rfl,h0,r0⟩:=trodAll_cons hA
 obtain ⟨v1,vs1,d1,ds1,p1,q1,rfl,rfl,rfl,h1,r1⟩:=trodAll_cons r0
 obtain ⟨rfl,rfl,rfl⟩:=trodAll_nil r1
 obtain rfl:args=#[v0,v1]:=by cases args;simp_all
 obtain ⟨rfl,rfl⟩:=trodVars_none hV
 obtain ⟨n1,rfl,rfl,rfl,w1⟩:=open_int Tryz.underlying3 (hval 1 3 v1 rfl rfl) h1
 obtain ⟨a,c0,rfl,ha,l1,_,_,hcl⟩:=ZX (hval 0 24 v0 rfl rfl) h0
 clear hA0
 have hb:Rows.uptoBulkAll (d0::[.lit (.int .i64 n1)])≤1048576:=by
  have h:Rows.uptoBulkAll (d0::[.lit (.int .i64 n1)]++[])≤1048576:=of_decide_eq_true hk
  simpa using h
 have hl:a.args.length≤1048576:=by
  rw [Rows.uptoBulkAll] at hb
  omega
 obtain ⟨N,hN⟩:=To a n1 hl
 refine (Px N (fun _=>0) W hN ha).mono ?_
 rintro e W' ⟨C',rfl,st⟩
 refine ⟨_,rfl,YG (pa:=p0++([]++[])) hW' (fun _ _ _=>trodAll_cons_mk (shut_bool Tryz.underlying4 _) trodAll_mk0) (fun sp hsp=>?_) (fun _=>rfl) (by simp) st (ok_one (by kernel_rfl) rfl (okWide_bool_mk Tryz.underlying4 _))⟩
 exact trodAll_cons_mk (hcl W' st.old sp (fun q hq=>hsp q (by simp [hq]))) (trodAll_cons_mk (shut_int Tryz.underlying3 w1) trodAll_mk0)
set_option maxRecDepth 100000 in
theorem lifted(os:Os)(started:os.Started)(H:Type)(enc:TypeId×Value→H)(F:Stop.Interp):
  ReturnsInHanded {} Tryz.checked os 3 .any ((Rows.OpenSpec.upto Rows.meanCallsSpec).pre6 enc Tryz.prog Tryz.f3 Rows.meanCallsUptoRow.domain false) (((Rows.OpenSpec.upto Rows.meanCallsSpec).at F).post enc Tryz.prog Tryz.f3 false true false false):=by
 refine returnsInHanded_of_cond (C:=Tryz.checked) (s:=Rows.OpenSpec.upto Rows.meanCallsSpec) (k:=Rows.uptoSmall) rfl own started (by kernel_rfl) Tryz.func3
  (OpenSpec.witness (enc:=enc) (C:=Tryz.checked) (s:=Rows.OpenSpec.upto Rows.meanCallsSpec) (k:=Rows.uptoSmall) rfl false ⟨#[],#[.agg #[.slice none 0 0,.string .empty,.string .empty],.int .i64 0],[]⟩ 8 (by kernel_rfl) (by kernel_rfl) (by kernel_rfl)
   (x:=([.agg [.nil,.lit (.string []),.lit (.string [])],.lit (.int .i64 0)],[],[])) (by kernel_rfl) rfl (by kernel_rfl)) ?_
 intro W base args ds gs before hval hW _ hk _
 exact contract H enc W base args ds gs before hval hW hk
theorem proved:Rows.MeanCallsUptoSaid:=
 OpenClaim.holds_of_cond 3 Tryz.f3 rfl rfl rfl rfl rfl rfl rfl ⟨rfl,rfl,rfl,rfl,rfl⟩ rfl rfl rfl rfl rfl (by kernel_rfl) Tryz.func3 (by kernel_rfl)
  (of_decide_eq_true (by kernel_rfl)) (by unfold Func.isWrapper;first| (rw [if_pos (by decide+kernel)];kernel_rfl)| (rw [if_neg (by decide+kernel)];exact ⟨rfl,rfl⟩))
  (fun os started H enc _ F=>lifted os started H enc F)
end Go.Proofs.YtiodboehkcmdnaaGreat.meanCalls
