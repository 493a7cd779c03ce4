/-
  fathomlaw11.MeanMore, WHERE WHAT IT READS IS OF BULK AT MOST 1048576: for every text, name and line of arguments, for every two numbers the Go function returns true, and its input reads as it did. No condition beside the statement's own.
-/
import Derived.KernelRfl
import Derived.Test.YtiodboehkcmdnaaGreatRows
import Derived.WalkKit
import Derived.ProofKit
import Derived.OpenShut
import Derived.JoinedCond
import Derived.Lib.SmallJoins
import Derived.Test.YtiodboehkcmdnaaGreatMF
set_option linter.all false
set_option exponentiation.threshold 3000
namespace Fth
open Go
theorem PL{α:Type}{b:Nat}{xs ys:List α}(hb:b≤16)(h:xs.length+ys.length≤8000000000000):T (GD b xs ys) fun _=>True:=by
 rw [GD,if_pos]
 ·exact .some trivial
 ·refine ⟨?_,by omega⟩
  have:=Nat.mul_le_mul h hb
  omega
theorem Pw{p:AN}{nm:List UInt8}{N:Nat}(hl:p.funcs.length≤1000000)(hN:p.funcs.length+2≤N):
  T (MM N p nm) fun r=>(hd p nm=none∧r= -1)∨∃(i:Nat) (f:AK),p.funcs[i]?=some f∧hd p nm=some f∧r=(i:Int)∧f.name=nm∧nm∉(p.funcs.take i).map (·.name):=by
 have loop: ∀(k i:Nat),i≤p.funcs.length→p.funcs.length<i+k→nm∉(p.funcs.take i).map (·.name)→T (Ki p nm k (i:Int)) fun r=>(hd p nm=none∧r= -1)∨∃(i:Nat) (f:AK),p.funcs[i]?=some f∧hd p nm=some f∧r=(i:Int)∧f.name=nm∧nm∉(p.funcs.take i).map (·.name):=by
  intro k
  induction k with
  |zero=>intro i _ _;omega
  |succ k ih=>
   intro i hi hk hno
   show T (LL p nm (Ki p nm k) i) _
   unfold LL
   refine T.cond (fun h=>?_) fun h=>?_
   ·have h:=CD h
    obtain ⟨f,hf⟩: ∃f,p.funcs[i]?=some f:=⟨_,List.getElem?_eq_getElem (by omega)⟩
    refine T.eq (B1 hf) (T.cond (fun hn=>?_) fun hn=>?_)
    ·have hn:f.name=nm:=by simpa using hn
     exact .some (.inr ⟨i,f,hf,RQ hf hn hno,rfl,hn,hno⟩)
    ·have hn:f.name≠nm:=by simpa using hn
     rw [wr (by omega) (by omega),show (i:Int)+1=((i+1:Nat):Int) by omega]
     refine ih (i+1) (by omega) (by omega) fun h'=>?_
     rw [List.take_add_one,hf] at h'
     simp only [List.map_append,List.mem_append] at h'
     rcases h' with h'|h'
     ·exact hno h'
     ·simp at h';exact hn h'.symm
   ·have h:=Df h
    rw [List.take_of_length_le (by omega)] at hno
    exact .some (.inl ⟨UT hno,rfl⟩)
 exact loop N 0 (by omega) (by omega) (by simp)
theorem YJ{l:List (List UInt8)}{s:List UInt8}{N:Nat}(hl:l.length≤2000000000)(hN:l.length+2≤N):Of N l s=some (decide (s∈l)):=by
 have loop: ∀(k i:Nat),i≤l.length→l.length<i+k→s∉l.take i→La l s k (i:Int)=some (decide (s∈l)):=by
  intro k
  induction k with
  |zero=>intro i _ _;omega
  |succ k ih=>
   intro i hi hk hno
   show MW l s (La l s k) i=_
   unfold MW
   cases h:decide ((i:Int)< (l.length:Int))
   ·have h:=Df h
    rw [List.take_of_length_le (by omega)] at hno
    rw [cond_false,decide_eq_false hno]
   ·have h:=CD h
    obtain ⟨x,hx⟩: ∃f,l[i]?=some f:=⟨_,List.getElem?_eq_getElem (by omega)⟩
    rw [cond_true,B1 hx,Option.bind_some]
    cases hn:(x==s)
    ·have hn:x≠s:=by simpa using hn
     rw [cond_false,wr (by omega) (by omega),show (i:Int)+1=((i+1:Nat):Int) by omega]
     refine ih (i+1) (by omega) (by omega) fun h'=>?_
     rw [List.take_add_one,hx] at h'
     rcases List.mem_append.1 h' with h'|h'
     ·exact hno h'
     ·simp at h';exact hn h'.symm
    ·have hn:x=s:=by simpa using hn
     subst hn
     rw [cond_true,decide_eq_true (List.mem_of_getElem? hx)]
 exact loop N 0 (by omega) (by omega) (by simp)
theorem Zj{a b:List (List UInt8)}(h:a.length+b.length≤2000000000):O8 a b=some (a++b):=by
 unfold O8
 obtain ⟨_,e1,_⟩:=PL (b:=16) (xs:=([]:List (List UInt8))) (ys:=a) (by decide) (by simp;omega)
 obtain ⟨_,e2,_⟩:=PL (b:=16) (xs:=([]:List (List UInt8))++a) (ys:=b) (by decide) (by simp;omega)
 rw [e1,Option.bind_some,e2,Option.bind_some,List.nil_append]
section
variable{p:AN}
def Mu(p:AN)(l:List B8):Prop:=∀s∈l,s.free=false∧JK p s.e
theorem Zk: ∀(n:Nat) (e:AD),EF e≤n→∀(C:List (List UInt8)),C.length+2*n≤1000000000→n≤10000000→ET (fun N=>ref06_seen N e C) fun l=>l.length≤EF e∧(Mu p l↔Sc p (fun s=>s∈C) e):=by
 intro n
 induction n with
 |zero=>intro e he;have:=Li e;omega
 |succ n ih=>
  intro e he C hC hn
  have hal:=L8 e.args
  have hes:=OX e
  refine ET.down ?_
  show ET (fun N=>M4 (Ck.at N) N e C) _
  have loop: ∀(j i:Nat),i+j=e.args.length→∀(acc:List B8),acc.length≤1+Co (e.args.take i)→
    EL (fun N k=>J3 (Ck.at N) e C k acc (i:Int)) fun l=>l.length≤1+Co e.args - (1+Co (e.args.take i) - acc.length)∧(Mu p l↔Mu p acc∧∀i' a,i≤i'→e.args[i']?=some a→Sc p (fun s=>s∈bnd e i'∨s∈C) a):=by
   intro j
   induction j with
   |zero=>
    intro i hi acc hacc
    refine EL.down ?_
    show EL (fun N k=>Ja (Ck.at N) e C (J3 (Ck.at N) e C k) acc i) _
    unfold Ja
    have htk:e.args.take i=e.args:=List.take_of_length_le (by omega)
    refine EL.cond (fun h=>by have:=CD h;omega) fun _=> .some ⟨by rw [htk] at hacc ⊢;omega,fun h=>⟨h,fun i' a hi' ha=>?_⟩,fun h=>h.1⟩
    have:=(List.getElem?_eq_some_iff.1 ha).1
    omega
   |succ j ihj=>
    intro i hi acc hacc
    refine EL.down ?_
    show EL (fun N k=>Ja (Ck.at N) e C (J3 (Ck.at N) e C k) acc i) _
    unfold Ja
    obtain ⟨a,ha⟩: ∃a,e.args[i]?=some a:=⟨_,List.getElem?_eq_getElem (by omega)⟩
    have has:=NR (List.mem_of_getElem? ha)
    have hbl:=WV e i
    have htk:Co (e.args.take (i+1))=Co (e.args.take i)+EF a:=by rw [List.take_add_one,ha];simp [JH,Co]
    have htk2:Co (e.args.take (i+1))≤Co e.args:=by
     have:=JH (e.args.take (i+1)) (e.args.drop (i+1))
     rw [List.take_append_drop] at this;omega
    refine EL.cond (fun _=>?_) fun h=>by have:=Df h;omega
    refine EL.eq (Zg e i) (EL.eq (Zj (by omega)) (EL.eq (B1 ha) (EL.bind (P:=fun l=>l.length≤EF a∧(Mu p l↔Sc p (fun s=>s∈bnd e i∨s∈C) a)) ?_ fun l hl=>?_)))
    ·have:=ih a (by omega) (C++bnd e i) (by rw [List.length_append];omega) (by omega)
     have eB:(fun s=>s∈C++bnd e i)=fun s=>s∈bnd e i∨s∈C:=funext fun s=>propext (List.mem_append.trans Or.comm)
     rw [eB] at this
     exact this
    ·refine EL.tb (F1 (by decide) (by omega)) fun _ _=>?_
     rw [wr (by omega) (by omega),show (i:Int)+1=((i+1:Nat):Int) by omega]
     refine (ihj (i+1) (by omega) (acc++l) (by rw [List.length_append,htk];omega)).mono fun r hr=>⟨by have:=hr.1;rw [List.length_append,htk] at this;omega,?_⟩
     rw [hr.2]
     constructor
     ·rintro ⟨h1,h2⟩
      have a1:Mu p acc:=fun s hs=>h1 s (List.mem_append_left _ hs)
      have a2:Mu p l:=fun s hs=>h1 s (List.mem_append_right _ hs)
      refine ⟨a1,fun i' b hi' hb=>?_⟩
      rcases Nat.eq_or_lt_of_le hi' with rfl|hlt
      ·rw [ha] at hb;cases hb;exact hl.2.1 a2
      ·exact h2 i' b hlt hb
     ·rintro ⟨h1,h2⟩
      refine ⟨fun s hs=>?_,fun i' b hi' hb=>h2 i' b (by omega) hb⟩
      rcases List.mem_append.1 hs with hs|hs
      ·exact h1 s hs
      ·exact hl.2.2 (h2 i a (Nat.le_refl _) ha) s hs
  have j1: ∀(acc:List B8),acc.length≤1→(Mu p acc↔(e.op=6→e.name∈C)∧JK p e)→ET (fun N=>J4 (Ck.at N) N e C acc) fun l=>l.length≤EF e∧(Mu p l↔Sc p (fun s=>s∈C) e):=by
   intro acc hacc hok
   unfold J4
   refine (loop e.args.length 0 (by omega) acc (by omega)).diag.mono fun r hr=>⟨by omega,?_⟩
   rw [hr.2,hok,YH]
   constructor
   ·rintro ⟨⟨h1,h2⟩,h3⟩;exact ⟨h1,h2,fun i a ha=>h3 i a (Nat.zero_le _) ha⟩
   ·rintro ⟨h1,h2,h3⟩;exact ⟨⟨h1,h2⟩,fun i a _ ha=>h3 i a ha⟩
  unfold M4 MX
  refine ET.cond (fun h=>?_) fun h=>?_
  ·have h6:=Bu h
   refine ET.cond (fun _=>ET.cond (fun _=>?_) fun h=>absurd h6 (BY h)) fun h=>by cases h
   refine ET.bind (P:=fun b=>b=decide (e.name∈C)) (Qj (C.length+2) ⟨_,rfl,fun N hN=>YJ (by omega) hN⟩) fun b hb=>?_
   subst hb
   refine ET.tb (F1 (by decide) (by simp)) fun _ _=>j1 _ (by simp) ?_
   simp only [List.nil_append,Mu,List.mem_singleton,forall_eq]
   constructor
   ·rintro ⟨h1,h2⟩;exact ⟨fun _=>by simpa using h1,h2⟩
   ·rintro ⟨h1,h2⟩;exact ⟨by simpa using h1 h6,h2⟩
  ·have h6:=BY h
   cases h7:(e.op==7)
   ·have h7:=BY h7
    refine ET.cond (fun h=>by cases h) fun _=>j1 _ (by simp) ?_
    exact ⟨fun _=>⟨fun h=>absurd h h6,fun h=>absurd h h7⟩,fun _ s hs=>by cases hs⟩
   ·refine ET.cond (fun _=>ET.cond (fun h=>absurd (Bu h) h6) fun _=>?_) fun h=>by cases h
    refine ET.tb (F1 (by decide) (by simp)) fun _ _=>j1 _ (by simp) ?_
    simp only [List.nil_append,Mu,List.mem_singleton,forall_eq]
    exact ⟨fun h=>⟨fun h'=>absurd h' h6,h.2⟩,fun h=>⟨trivial,h.2⟩⟩
def GF(l:List AE)(n:Nat):Prop:=(∀y∈l,y.why≠0)∧l.length≤n
theorem GF.snoc{l:List AE}{n:Nat}{y:AE}(h:GF l n)(hy:y.why≠0):GF (l++[y]) (n+1):=by
 refine ⟨fun z hz=>?_,by simp;exact h.2⟩
 rcases List.mem_append.1 hz with hz|hz
 ·exact h.1 z hz
 ·simp at hz;subst hz;exact hy
theorem W3(hlen:p.funcs.length≤50000)(hb: ∀f∈p.funcs,EF f.body≤1000000∧f.params.length≤1000000):ET (fun N=>PQ N p) fun l=>GF l 200000000000∧(l=[]↔Zf p):=by
 have seens: ∀(l:List B8),l.length≤1000000→∀(i:Nat) (S:Nat→Nat→List AE→Int→Option (List AE)) (n0:Nat),n0+2*l.length≤300000000000→i≤50000→∀(j t:Nat),t+j=l.length→∀acc,GF acc (n0+2*t)→
   ∃acc',GF acc' (n0+2*l.length)∧(acc'=[]↔acc=[]∧∀t' s,t≤t'→l[t']?=some s→s.free=false∧JK p s.e)∧∃n1,∀N k kk,n1≤N→n1≤kk→FM N p i (S N k) l kk acc (t:Int)=S N k acc' ((i+1:Nat):Int):=by
  intro l hl i S n0 hn0 hi j
  induction j with
  |zero=>
   intro t ht acc hacc
   refine ⟨acc,by rw [show t=l.length by omega] at hacc;exact hacc,⟨fun h=>⟨h,fun t' s ht' hs=>by have:=(List.getElem?_eq_some_iff.1 hs).1;omega⟩,fun h=>h.1⟩,1,fun N k kk _ hkk=>?_⟩
   obtain ⟨kk,rfl⟩: ∃j,kk=j+1:=⟨kk - 1,by omega⟩
   show GR N p i (S N k) l (FM N p i (S N k) l kk) acc t=_
   unfold GR
   rw [show decide ((t:Int)< (l.length:Int))=false from decide_eq_false (by omega),cond_false,wr (by omega) (by omega),show (i:Int)+1=((i+1:Nat):Int) by omega]
  |succ j ihj=>
   intro t ht acc hacc
   obtain ⟨s,hs⟩: ∃s,l[t]?=some s:=⟨_,List.getElem?_eq_getElem (by omega)⟩
   have iff: ∀{A:Prop},(A↔acc=[]∧(s.free=false∧JK p s.e))→((A∧∀t' s,t+1≤t'→l[t']?=some s→s.free=false∧JK p s.e)↔acc=[]∧∀t' s,t≤t'→l[t']?=some s→s.free=false∧JK p s.e):=by
    intro A hA
    rw [hA]
    constructor
    ·rintro ⟨⟨h1,h2⟩,h3⟩
     refine ⟨h1,fun t' s' ht' hs'=>?_⟩
     rcases Nat.eq_or_lt_of_le ht' with rfl|hlt
     ·rw [hs] at hs';cases hs';exact h2
     ·exact h3 t' s' hlt hs'
    ·rintro ⟨h1,h2⟩
     exact ⟨⟨h1,h2 t s (Nat.le_refl _) hs⟩,fun t' s' ht' hs'=>h2 t' s' (by omega) hs'⟩
   have e1:IntKind.i64.wrap ((t:Int)+1)=((t+1:Nat):Int):=by rw [wr (by omega) (by omega)];omega
   have call: ∀(a1:List AE),GF a1 (n0+2*t+1)→(a1=[]↔acc=[]∧s.free=false)→∃acc',GF acc' (n0+2*l.length)∧(acc'=[]↔acc=[]∧∀t' s,t≤t'→l[t']?=some s→s.free=false∧JK p s.e)∧∃n1,∀N k kk,n1≤N→n1≤kk→HN N p t (FM N p i (S N k) l kk) s a1=S N k acc' ((i+1:Nat):Int):=by
    intro a1 ha1 hf
    have go: ∀a2,GF a2 (n0+2*(t+1))→(a2=[]↔acc=[]∧(s.free=false∧JK p s.e))→∃acc',GF acc' (n0+2*l.length)∧(acc'=[]↔acc=[]∧∀t' s,t≤t'→l[t']?=some s→s.free=false∧JK p s.e)∧∃n1,∀N k kk,n1≤N→n1≤kk→HM t (FM N p i (S N k) l kk) a2=S N k acc' ((i+1:Nat):Int):=by
     intro a2 h2 h3
     obtain ⟨acc',q1,q2,n1,q3⟩:=ihj (t+1) (by omega) a2 h2
     refine ⟨acc',q1,q2.trans (iff h3),n1,fun N k kk hN hkk=>?_⟩
     unfold HM
     rw [e1]
     exact q3 N k kk hN hkk
    have up:GF a1 (n0+2*(t+1)):=⟨ha1.1,by have:=ha1.2;omega⟩
    cases h7:(s.e.op != 7)
    ·have h7':=Iu h7
     have hcall: ∀N,p.funcs.length+2≤N→T (MM N p s.e.name) fun r=>(hd p s.e.name=none∧r= -1)∨∃(i:Nat) (f:AK),p.funcs[i]?=some f∧hd p s.e.name=some f∧r=(i:Int)∧f.name=s.e.name∧s.e.name∉(p.funcs.take i).map (·.name):=fun N hN=>Pw (by omega) hN
     have bad: ∀y:Int,y≠0→¬JK p s.e→∃acc',GF acc' (n0+2*l.length)∧(acc'=[]↔acc=[]∧∀t' s,t≤t'→l[t']?=some s→s.free=false∧JK p s.e)∧∃n1,∀N k kk,n1≤N→n1≤kk→((GD 16 a1 [AE.mk y s.e.at_]).bind fun _=>HM t (FM N p i (S N k) l kk) (a1++[AE.mk y s.e.at_]))=S N k acc' ((i+1:Nat):Int):=by
      intro y hy hno
      obtain ⟨acc',q1,q2,n1,q3⟩:=go (a1++[AE.mk y s.e.at_]) ⟨(ha1.snoc hy).1,by have:=(ha1.snoc (y:=AE.mk y s.e.at_) hy).2;omega⟩ ⟨fun h=>by simp at h,fun h=>absurd h.2.2 hno⟩
      refine ⟨acc',q1,q2,n1,fun N k kk hN hkk=>?_⟩
      obtain ⟨_,e,_⟩:=PL (b:=16) (xs:=a1) (ys:=[AE.mk y s.e.at_]) (by decide) (by have:=ha1.2;simp;omega)
      rw [e,Option.bind_some]
      exact q3 N k kk hN hkk
     cases hh:hd p s.e.name with
     |none=>
      obtain ⟨acc',q1,q2,n1,q3⟩:=bad 32 (by decide) fun h=>by obtain ⟨f,hf',_⟩:=h h7';rw [hh] at hf';cases hf'
      refine ⟨acc',q1,q2,n1+p.funcs.length+2,fun N k kk hN hkk=>?_⟩
      unfold HN
      obtain ⟨r,hr,hr'⟩:=hcall N (by omega)
      rcases hr' with ⟨_,h0⟩| ⟨_,f,_,h0,_⟩
      ·subst h0
       rw [h7,cond_false,hr,Option.bind_some,show decide ((-1:Int)<0)=true from rfl,cond_true]
       exact q3 N k kk (by omega) (by omega)
      ·rw [hh] at h0;cases h0
     |some f=>
      rcases Decidable.em (f.params.length=s.e.args.length) with hfl|hfl
      ·obtain ⟨acc',q1,q2,n1,q3⟩:=go a1 up (by rw [hf];exact ⟨fun h=>⟨h.1,h.2,fun _=>⟨f,hh,hfl⟩⟩,fun h=>⟨h.1,h.2.1⟩⟩)
       refine ⟨acc',q1,q2,n1+p.funcs.length+2,fun N k kk hN hkk=>?_⟩
       unfold HN
       obtain ⟨r,hr,hr'⟩:=hcall N (by omega)
       rcases hr' with ⟨h0,_⟩| ⟨i2,f2,h1,h0,h3,_⟩
       ·rw [hh] at h0;cases h0
       ·rw [hh] at h0;cases h0
        subst h3
        rw [h7,cond_false,hr,Option.bind_some,show decide ((i2:Int)<0)=false from decide_eq_false (by omega),cond_false,B1 h1,Option.bind_some,show ((f.params.length:Int) != (s.e.args.length:Int))=false by simp;omega,cond_false]
        exact q3 N k kk (by omega) (by omega)
      ·obtain ⟨acc',q1,q2,n1,q3⟩:=bad 33 (by decide) fun h=>by obtain ⟨g,hg,hl⟩:=h h7';rw [hh] at hg;cases hg;exact hfl hl
       refine ⟨acc',q1,q2,n1+p.funcs.length+2,fun N k kk hN hkk=>?_⟩
       unfold HN
       obtain ⟨r,hr,hr'⟩:=hcall N (by omega)
       rcases hr' with ⟨h0,_⟩| ⟨i2,f2,h1,h0,h3,_⟩
       ·rw [hh] at h0;cases h0
       ·rw [hh] at h0;cases h0
        subst h3
        rw [h7,cond_false,hr,Option.bind_some,show decide ((i2:Int)<0)=false from decide_eq_false (by omega),cond_false,B1 h1,Option.bind_some,show ((f.params.length:Int) != (s.e.args.length:Int))=true by simp;omega,cond_true]
        exact q3 N k kk (by omega) (by omega)
    ·have h7':=J8 h7
     obtain ⟨acc',q1,q2,n1,q3⟩:=go a1 up (by rw [hf];exact ⟨fun h=>⟨h.1,h.2,fun h=>absurd h h7'⟩,fun h=>⟨h.1,h.2.1⟩⟩)
     refine ⟨acc',q1,q2,n1,fun N k kk hN hkk=>?_⟩
     unfold HN
     rw [h7,cond_true]
     exact q3 N k kk hN hkk
   cases hfr:s.free
   ·obtain ⟨acc',q1,q2,n1,q3⟩:=call acc ⟨hacc.1,by have:=hacc.2;omega⟩ ⟨fun h=>⟨h,hfr⟩,fun h=>h.1⟩
    refine ⟨acc',q1,q2,n1+1,fun N k kk hN hkk=>?_⟩
    obtain ⟨kk,rfl⟩: ∃j,kk=j+1:=⟨kk - 1,by omega⟩
    show GR N p i (S N k) l (FM N p i (S N k) l kk) acc t=_
    unfold GR
    rw [show decide ((t:Int)< (l.length:Int))=true from decide_eq_true (by omega),cond_true,B1 hs,Option.bind_some,hfr,cond_false]
    exact q3 N k kk (by omega) (by omega)
   ·obtain ⟨acc',q1,q2,n1,q3⟩:=call (acc++[AE.mk 31 s.e.at_]) (hacc.snoc (y:=AE.mk 31 s.e.at_) (show (31:Int)≠0 by decide)) ⟨fun h=>by simp at h,fun h=>by rw [hfr] at h;cases h.2⟩
    refine ⟨acc',q1,q2,n1+1,fun N k kk hN hkk=>?_⟩
    obtain ⟨kk,rfl⟩: ∃j,kk=j+1:=⟨kk - 1,by omega⟩
    show GR N p i (S N k) l (FM N p i (S N k) l kk) acc t=_
    unfold GR
    obtain ⟨_,e,_⟩:=PL (b:=16) (xs:=acc) (ys:=[AE.mk 31 s.e.at_]) (by decide) (by have:=hacc.2;simp;omega)
    rw [show decide ((t:Int)< (l.length:Int))=true from decide_eq_true (by omega),cond_true,B1 hs,Option.bind_some,hfr,cond_true,e,Option.bind_some]
    exact q3 N k kk (by omega) (by omega)
 have pars: ∀(i:Nat) (f:AK),p.funcs[i]?=some f→∀(S:Nat→Nat→List AE→Int→Option (List AE)) (n0:Nat),n0+3000000≤300000000000→∀(j t:Nat),t+j=f.params.length→∀acc,GF acc (n0+t)→
   ∃acc',GF acc' (n0+3000000)∧(acc'=[]↔acc=[]∧(∀t' x,t≤t'→f.params[t']?=some x→x.name∉(f.params.take t').map (·.name))∧Sc p (fun s=>s∈f.params.map (·.name)) f.body)∧∃n1,∀N k kk,n1≤N→n1≤kk→F9 N p i (S N k) f kk acc ((f.params.take t).map (·.name)) (t:Int)=S N k acc' ((i+1:Nat):Int):=by
  intro i f hf S n0 hn0 j
  have hfb:=hb f (List.mem_of_getElem? hf)
  have hil:=(List.getElem?_eq_some_iff.1 hf).1
  induction j with
  |zero=>
   intro t ht acc hacc
   have htk:f.params.take t=f.params:=List.take_of_length_le (by omega)
   obtain ⟨l,hl,n2,hn2⟩:=Zk (p:=p) (EF f.body) f.body (Nat.le_refl _) (f.params.map (·.name)) (by rw [List.length_map];omega) (by omega)
   obtain ⟨acc',q1,q2,n1,q3⟩:=seens l (by omega) i S (n0+t) (by omega) (by omega) l.length 0 (by omega) acc (by simpa using hacc)
   refine ⟨acc',⟨q1.1,by have:=q1.2;omega⟩,?_,n1+n2+1,fun N k kk hN hkk=>?_⟩
   ·rw [q2,←hl.2]
    constructor
    ·rintro ⟨h1,h2⟩
     refine ⟨h1,fun t' x ht' hx=>by have:=(List.getElem?_eq_some_iff.1 hx).1;omega,fun s hs=>?_⟩
     obtain ⟨t',ht'⟩:=List.mem_iff_getElem?.1 hs
     exact h2 t' s (Nat.zero_le _) ht'
    ·rintro ⟨h1,_,h2⟩
     exact ⟨h1,fun t' s _ hs=>h2 s (List.mem_of_getElem? hs)⟩
   ·obtain ⟨kk,rfl⟩: ∃j,kk=j+1:=⟨kk - 1,by omega⟩
    show GS N p i (S N k) f (F9 N p i (S N k) f kk) acc ((f.params.take t).map (·.name)) t=_
    unfold GS
    have es:ref06_seen N f.body (f.params.map (·.name))=some l:=hn2 N (by omega)
    rw [show decide ((t:Int)< (f.params.length:Int))=false from decide_eq_false (by omega),cond_false,PH,htk,es,Option.bind_some]
    exact q3 N k N (by omega) (by omega)
  |succ j ihj=>
   intro t ht acc hacc
   obtain ⟨x,hx⟩: ∃x,f.params[t]?=some x:=⟨_,List.getElem?_eq_getElem (by omega)⟩
   have htk:(f.params.take (t+1)).map (·.name)=(f.params.take t).map (·.name)++[x.name]:=by rw [List.take_add_one,hx];simp
   have hln:((f.params.take t).map (·.name)).length=t:=by simp;omega
   have go: ∀a2,GF a2 (n0+(t+1))→(a2=[]↔acc=[]∧x.name∉(f.params.take t).map (·.name))→∃acc',GF acc' (n0+3000000)∧(acc'=[]↔acc=[]∧(∀t' x,t≤t'→f.params[t']?=some x→x.name∉(f.params.take t').map (·.name))∧Sc p (fun s=>s∈f.params.map (·.name)) f.body)∧
     ∃n1,∀N k kk,n1≤N→n1≤kk→KA f ((f.params.take t).map (·.name)) t (F9 N p i (S N k) f kk) a2=S N k acc' ((i+1:Nat):Int):=by
    intro a2 h2 h3
    obtain ⟨acc',q1,q2,n1,q3⟩:=ihj (t+1) (by omega) a2 h2
    refine ⟨acc',q1,q2.trans ?_,n1,fun N k kk hN hkk=>?_⟩
    ·rw [h3]
     constructor
     ·rintro ⟨⟨h1,h2⟩,h3,h4⟩
      refine ⟨h1,fun t' y ht' hy=>?_,h4⟩
      rcases Nat.eq_or_lt_of_le ht' with rfl|hlt
      ·rw [hx] at hy;cases hy;exact h2
      ·exact h3 t' y hlt hy
     ·rintro ⟨h1,h2,h3⟩
      exact ⟨⟨h1,h2 t x (Nat.le_refl _) hx⟩,fun t' y ht' hy=>h2 t' y (by omega) hy,h3⟩
    ·unfold KA
     obtain ⟨_,e,_⟩:=PL (b:=16) (xs:=(f.params.take t).map (·.name)) (ys:=[x.name]) (by decide) (by rw [hln];simp;omega)
     rw [B1 hx,Option.bind_some,e,Option.bind_some,wr (by omega) (by omega),show (t:Int)+1=((t+1:Nat):Int) by omega,←htk]
     exact q3 N k kk hN hkk
   have hhas: ∀N,t+2≤N→Of N ((f.params.take t).map (·.name)) x.name=some (decide (x.name∈(f.params.take t).map (·.name))):=fun N hN=>YJ (by rw [hln];omega) (by rw [hln];omega)
   rcases Decidable.em (x.name∈(f.params.take t).map (·.name)) with hin|hin
   ·obtain ⟨acc',q1,q2,n1,q3⟩:=go (acc++[AE.mk 30 x.at_]) ⟨(hacc.snoc (y:=AE.mk 30 x.at_) (show (30:Int)≠0 by decide)).1,by have:=hacc.2;simp;omega⟩ ⟨fun h=>by simp at h,fun h=>absurd hin h.2⟩
    refine ⟨acc',q1,q2,n1+t+2,fun N k kk hN hkk=>?_⟩
    obtain ⟨kk,rfl⟩: ∃j,kk=j+1:=⟨kk - 1,by omega⟩
    show GS N p i (S N k) f (F9 N p i (S N k) f kk) acc ((f.params.take t).map (·.name)) t=_
    unfold GS
    obtain ⟨_,e,_⟩:=PL (b:=16) (xs:=acc) (ys:=[AE.mk 30 x.at_]) (by decide) (by have:=hacc.2;simp;omega)
    rw [show decide ((t:Int)< (f.params.length:Int))=true from decide_eq_true (by omega),cond_true,B1 hx,Option.bind_some,hhas N (by omega),Option.bind_some,decide_eq_true hin,cond_true,e,Option.bind_some]
    exact q3 N k kk (by omega) (by omega)
   ·obtain ⟨acc',q1,q2,n1,q3⟩:=go acc ⟨hacc.1,by have:=hacc.2;omega⟩ ⟨fun h=>⟨h,hin⟩,fun h=>h.1⟩
    refine ⟨acc',q1,q2,n1+t+2,fun N k kk hN hkk=>?_⟩
    obtain ⟨kk,rfl⟩: ∃j,kk=j+1:=⟨kk - 1,by omega⟩
    show GS N p i (S N k) f (F9 N p i (S N k) f kk) acc ((f.params.take t).map (·.name)) t=_
    unfold GS
    rw [show decide ((t:Int)< (f.params.length:Int))=true from decide_eq_true (by omega),cond_true,B1 hx,Option.bind_some,hhas N (by omega),Option.bind_some,decide_eq_false hin,cond_false]
    exact q3 N k kk (by omega) (by omega)
 have fns: ∀(j i:Nat),i+j=p.funcs.length→∀acc,GF acc (i*3000001)→EL (fun N k=>GA N p k acc (i:Int)) fun r=>GF r 200000000000∧(r=[]↔acc=[]∧∀i' f,i≤i'→p.funcs[i']?=some f→f.name∉(p.funcs.take i').map (·.name)∧PN f∧Sc p (fun s=>s∈f.params.map (·.name)) f.body):=by
  intro j
  induction j with
  |zero=>
   intro i hi acc hacc
   refine EL.down ?_
   show EL (fun N k=>Ij N p (GA N p k) acc i) _
   unfold Ij
   refine EL.cond (fun h=>by have:=CD h;omega) fun _=> .some ⟨⟨hacc.1,by have:=hacc.2;omega⟩,fun h=>⟨h,fun i' f hi' hf=>by have:=(List.getElem?_eq_some_iff.1 hf).1;omega⟩,fun h=>h.1⟩
  |succ j ihj=>
   intro i hi acc hacc
   obtain ⟨f,hf⟩: ∃f,p.funcs[i]?=some f:=⟨_,List.getElem?_eq_getElem (by omega)⟩
   have step: ∀a2,GF a2 (i*3000001+1)→(a2=[]↔acc=[]∧f.name∉(p.funcs.take i).map (·.name))→EL (fun N k=>KB N p i (GA N p k) f a2) fun r=>GF r 200000000000∧(r=[]↔acc=[]∧∀i' f,i≤i'→p.funcs[i']?=some f→f.name∉(p.funcs.take i').map (·.name)∧PN f∧Sc p (fun s=>s∈f.params.map (·.name)) f.body):=by
    intro a2 h2 h3
    obtain ⟨n0,hn0⟩: ∃n,n=i*3000001+1:=⟨_,rfl⟩
    rw [←hn0] at h2
    obtain ⟨acc',q1,q2,n1,q3⟩:=pars i f hf (fun N k=>GA N p k) n0 (by omega) f.params.length 0 (by omega) a2 h2
    obtain ⟨r,hr,n2,hn2⟩:=ihj (i+1) (by omega) acc' ⟨q1.1,by have:=q1.2;omega⟩
    refine ⟨r,⟨hr.1,hr.2.trans ?_⟩,n1+n2,fun N k hN hk=>?_⟩
    ·rw [q2,h3]
     constructor
     ·rintro ⟨⟨⟨h1,h2⟩,h3,h4⟩,h5⟩
      refine ⟨h1,fun i' g hi' hg=>?_⟩
      rcases Nat.eq_or_lt_of_le hi' with rfl|hlt
      ·rw [hf] at hg;cases hg;exact ⟨h2,fun t x hx=>h3 t x (Nat.zero_le _) hx,h4⟩
      ·exact h5 i' g hlt hg
     ·rintro ⟨h1,h2⟩
      have:=h2 i f (Nat.le_refl _) hf
      exact ⟨⟨⟨h1,this.1⟩,fun t x _ hx=>this.2.1 t x hx,this.2.2⟩,fun i' g hi' hg=>h2 i' g (by omega) hg⟩
    ·unfold KB
     have:=q3 N k N (by omega) (by omega)
     simp only [List.take_zero,List.map_nil] at this
     show F9 N p i (GA N p k) f N a2 [] 0=some r
     refine Eq.trans this ?_
     exact hn2 N k (by omega) (by omega)
   refine EL.down ?_
   show EL (fun N k=>Ij N p (GA N p k) acc i) _
   unfold Ij
   refine EL.cond (fun _=>?_) fun h=>by have:=Df h;omega
   refine EL.eq (B1 hf) (EL.bind (P:=fun r=>r=(i:Int)∧f.name∉(p.funcs.take i).map (·.name)∨r< (i:Int)∧f.name∈(p.funcs.take i).map (·.name)) ?_ fun r hr=>?_)
   ·rcases Decidable.em (f.name∈(p.funcs.take i).map (·.name)) with hin|hin
    ·obtain ⟨r,hr,hr'⟩:=Pw (p:=p) (nm:=f.name) (N:=p.funcs.length+2) (by omega) (Nat.le_refl _)
     obtain ⟨g,hg,hgn⟩:=List.mem_map.1 hin
     rw [List.mem_take_iff_getElem] at hg
     obtain ⟨q,hq,hqe⟩:=hg
     refine Qj (p.funcs.length+2) ⟨r,?_,fun N hN=>?_⟩
     ·rcases hr' with ⟨h1,_⟩| ⟨i2,f2,h1,h2,h3,h4,h5⟩
      ·unfold hd at h1
       rw [List.find?_eq_none] at h1
       exact absurd (by simp) (h1 f (List.mem_of_getElem? hf))
      ·refine .inr ⟨?_,hin⟩
       rw [h3]
       rcases Nat.lt_or_ge i2 i with h|h
       ·omega
       ·refine absurd (List.mem_map.2 ⟨g,?_,hgn⟩) h5
        rw [List.mem_take_iff_getElem]
        have:=(List.getElem?_eq_some_iff.1 h1).1
        exact ⟨q,by omega,hqe⟩
     ·obtain ⟨r2,hr2,hr2'⟩:=Pw (p:=p) (nm:=f.name) (N:=N) (by omega) hN
      rw [hr2];congr 1
      rcases hr' with ⟨h1,h2⟩| ⟨i2,f2,h1,h2,h3,h4,h5⟩
      ·rcases hr2' with ⟨_,h3⟩| ⟨_,_,_,h3,_⟩
       ·rw [h2,h3]
       ·rw [h1] at h3;cases h3
      ·rcases hr2' with ⟨k1,_⟩| ⟨i3,f3,k1,k2,k3,k4,k5⟩
       ·rw [h2] at k1;cases k1
       ·rw [h3,k3]
        rcases Nat.lt_trichotomy i2 i3 with h|h|h
        ·refine absurd (List.mem_map.2 ⟨f2,?_,h4⟩) k5
         rw [List.mem_take_iff_getElem]
         obtain ⟨a1,a2⟩:=List.getElem?_eq_some_iff.1 h1
         have:=(List.getElem?_eq_some_iff.1 k1).1
         exact ⟨i2,by omega,a2⟩
        ·rw [h]
        ·refine absurd (List.mem_map.2 ⟨f3,?_,k4⟩) h5
         rw [List.mem_take_iff_getElem]
         obtain ⟨a1,a2⟩:=List.getElem?_eq_some_iff.1 k1
         have:=(List.getElem?_eq_some_iff.1 h1).1
         exact ⟨i3,by omega,a2⟩
    ·refine Qj (p.funcs.length+2) ⟨(i:Int),.inl ⟨rfl,hin⟩,fun N hN=>?_⟩
     obtain ⟨r2,hr2,hr2'⟩:=Pw (p:=p) (nm:=f.name) (N:=N) (by omega) hN
     rw [hr2];congr 1
     have hdi:=RQ hf rfl hin
     rcases hr2' with ⟨k1,_⟩| ⟨i3,f3,k1,k2,k3,k4,k5⟩
     ·rw [hdi] at k1;cases k1
     ·rw [k3]
      rcases Nat.lt_trichotomy i3 i with h|h|h
      ·refine absurd (List.mem_map.2 ⟨f3,?_,k4⟩) hin
       rw [List.mem_take_iff_getElem]
       obtain ⟨a1,a2⟩:=List.getElem?_eq_some_iff.1 k1
       exact ⟨i3,by omega,a2⟩
      ·rw [h]
      ·refine absurd (List.mem_map.2 ⟨f,?_,rfl⟩) k5
       rw [List.mem_take_iff_getElem]
       obtain ⟨a1,a2⟩:=List.getElem?_eq_some_iff.1 hf
       have:=(List.getElem?_eq_some_iff.1 k1).1
       exact ⟨i,by omega,a2⟩
   ·rcases hr with ⟨h1,h2⟩| ⟨h1,h2⟩
    ·refine EL.cond (fun h=>by have:=CD h;omega) fun _=>step acc ⟨hacc.1,Nat.le_succ_of_le hacc.2⟩ ⟨fun h=>⟨h,h2⟩,fun h=>h.1⟩
    ·refine EL.cond (fun _=>EL.tb (PL (by decide) (by have:=hacc.2;simp;omega)) fun _ _=>step _ (hacc.snoc (y:=AE.mk 30 f.at_) (show (30:Int)≠0 by decide)) ⟨fun h=>by simp at h,fun h=>absurd h2 h.2⟩) fun h=>by have:=Df h;omega
 refine (fns p.funcs.length 0 (by omega) [] ⟨fun y h=>(by cases h),by simp⟩).diag.mono fun r hr=>⟨hr.1,hr.2.trans ?_⟩
 constructor
 ·rintro ⟨_,h⟩
  refine ⟨fun i f hf=>(h i f (Nat.zero_le _) hf).1,fun f hf=>?_⟩
  obtain ⟨i,hi⟩:=List.mem_iff_getElem?.1 hf
  exact (h i f (Nat.zero_le _) hi).2
 ·rintro ⟨h1,h2⟩
  exact ⟨rfl,fun i f _ hf=>⟨h1 i f hf,h2 f (List.mem_of_getElem? hf)⟩⟩
theorem YK(hlen:p.funcs.length≤50000)(hb: ∀f∈p.funcs,EF f.body≤1000000∧f.params.length≤1000000):ET (fun N=>N6 N p) fun r=>r.why=0↔Zf p:=by
 unfold N6
 refine ET.bind (W3 hlen hb) fun l hl=>?_
 have loop: ∀(j i:Nat),i+j=l.length→∀(y a:Int),EL (fun _N k=>Jb l k (i:Int) y a) fun r=>r.why=0↔y=0∧i=l.length:=by
  intro j
  induction j with
  |zero=>
   intro i hi y a
   refine EL.down ?_
   show EL (fun _N k=>I8 l (Jb l k) i y a) _
   unfold I8
   exact EL.cond (fun h=>by have:=CD h;omega) fun _=> .some ⟨fun h=>⟨h,by omega⟩,fun h=>h.1⟩
  |succ j ihj=>
   intro i hi y a
   obtain ⟨x,hx⟩: ∃x,l[i]?=some x:=⟨_,List.getElem?_eq_getElem (by omega)⟩
   have hy:=hl.1.1 x (List.mem_of_getElem? hx)
   have hll:=hl.1.2
   refine EL.down ?_
   show EL (fun _N k=>I8 l (Jb l k) i y a) _
   unfold I8 Lr Lq
   rw [wr (by omega) (by omega),show (i:Int)+1=((i+1:Nat):Int) by omega]
   have no: ∀{y':Int},y'≠0→∀{r:AE},(r.why=0↔y'=0∧i+1=l.length)→(r.why=0↔y=0∧i=l.length):=fun hy' _ hr=>hr.trans ⟨fun h=>absurd h.1 hy',fun h=>by omega⟩
   refine EL.cond (fun _=>EL.cond (fun _=>EL.cond (fun _=>EL.eq (B1 hx) ((ihj (i+1) (by omega) x.why x.at_).mono fun r hr=>no hy hr)) fun h=>by cases h) fun h=>EL.eq (B1 hx) (EL.cond (fun _=>EL.eq (B1 hx) ((ihj (i+1) (by omega) x.why x.at_).mono fun r hr=>no hy hr)) fun _=>(ihj (i+1) (by omega) y a).mono fun r hr=>no (BY h) hr)) fun h=>by have:=Df h;omega
 refine (loop l.length 0 (by omega) 0 0).diag.mono fun r hr=>hr.trans ?_
 rw [←hl.2]
 constructor
 ·rintro ⟨_,h⟩;exact List.length_eq_zero_iff.1 h.symm
 ·intro h;subst h;exact ⟨rfl,rfl⟩
end
end Fth
namespace Fth
open Go
def TyE(Γ:List AH):Prop:=∀x∈Γ,1≤x.type_∧x.type_≤3
theorem UU{Γ:List AH}{e:AD}(hΓ:TyE Γ)(he:WE e)(i:Nat):TyE (Win Γ e i)∧(Win Γ e i).length≤Γ.length+2:=by
 unfold Win
 split
 ·rename_i h
  refine ⟨fun x hx=>?_,by simp⟩
  rcases List.mem_cons.1 hx with rfl|hx
  ·exact he.typ (by omega)
  ·exact hΓ x hx
 ·split
  ·refine ⟨fun x hx=>?_,by simp⟩
   rcases List.mem_cons.1 hx with rfl|hx
   ·exact ⟨by simp,by simp⟩
   ·rcases List.mem_cons.1 hx with rfl|hx
    ·exact ⟨by simp,by simp⟩
    ·exact hΓ x hx
  ·exact ⟨hΓ,by omega⟩
theorem ABJ{p:AN}(hp:WP p){e:AD}(he:WE e){t:Int}(ht:1≤t∧t≤3)(i:Nat):1≤Wan p e i t∧Wan p e i t≤3:=by
 unfold Wan
 split
 ·omega
 ·split
  ·omega
  ·split
   ·cases hh:hd p e.name with
    |none=>simp
    |some f=>
     have hf:=hp.fns f (List.mem_of_find?_eq_some hh)
     cases hx:f.params[i]? with
     |none=>simp [hx]
     |some x=>simpa [hx] using hf.ptyp x (List.mem_of_getElem? hx)
   ·split
    ·split<;>omega
    ·split
     ·split<;>omega
     ·split
      ·rename_i h
       have:=he.typ (by omega)
       split<;>omega
      ·omega
theorem YL{α:Type}(a b:List α)(x:α):((a++x::b).reverse)[b.length]?=some x:=by
 rw [List.reverse_append,List.reverse_cons,List.append_assoc,List.getElem?_append_right (by simp)]
 simp
section
variable{p:AN}(hp:WP p)
theorem Zl{Γ:List AH}{e:AD}(hl:Γ.length≤1000000000): ∀(Γ2 Γ1:List AH),Γ=Γ1++Γ2→∀k,Γ2.length<k→Lb Γ.reverse e k ((Γ2.length:Int) - 1)=some ((QT Γ2 e.name).getD (-1)):=by
 intro Γ2
 induction Γ2 with
 |nil=>
  intro Γ1 h k hk
  obtain ⟨k,rfl⟩: ∃j,k=j+1:=⟨k - 1,by simp at hk;omega⟩
  rfl
 |cons x Γ2 ih=>
  intro Γ1 h k hk
  obtain ⟨k,rfl⟩: ∃j,k=j+1:=⟨k - 1,by simp at hk;omega⟩
  show MY Γ.reverse e (Lb Γ.reverse e k) (((x::Γ2).length:Int) - 1)=_
  unfold MY
  have hlen:Γ2.length<1000000000:=by rw [h] at hl;simp at hl;omega
  have e1:(((x::Γ2).length:Nat):Int) - 1=(Γ2.length:Int):=by simp
  have hat:Γ.reverse[Γ2.length]?=some x:=by rw [h];exact YL _ _ _
  rw [e1,show decide ((Γ2.length:Int)≥0)=true from decide_eq_true (by omega),cond_true,B1 hat,Option.bind_some,wr (by omega) (by omega)]
  unfold QT
  rw [List.find?_cons]
  cases hn:(x.name==e.name)
  ·rw [cond_false]
   exact ih (Γ1++[x]) (by rw [h];simp) k (by simp at hk;omega)
  ·rfl
include hp
theorem ABY{Γ:List AH}{e:AD}{t:Int}(hΓ:TyE Γ)(hl:Γ.length≤1000000000)(he:WE e)(ht:1≤t∧t≤3):ET (fun N=>P5 N p Γ.reverse e) fun o=>(o=0∨o=t)↔OwT p Γ e t:=by
 have j1: ∀b,(b=true↔(e.op=1∨(8≤e.op∧e.op≤11)∨(15≤e.op∧e.op≤17)))→ET (fun N=>Fv N p Γ.reverse e b) fun o=>(o=0∨o=t)↔OwT p Γ e t:=by
  intro b hb
  have j2: ∀b',b=false→(b'=true↔(e.op=2∨e.op=3∨(12≤e.op∧e.op≤14)))→ET (fun N=>I0 N p Γ.reverse e b') fun o=>(o=0∨o=t)↔OwT p Γ e t:=by
   intro b' hbf hb'
   have n1: ¬(e.op=1∨(8≤e.op∧e.op≤11)∨(15≤e.op∧e.op≤17)):=fun h=>by have:=hb.2 h;rw [hbf] at this;cases this
   have j3: ∀b'',b'=false→(b''=true↔(e.op=4∨e.op=18))→ET (fun N=>Lc N p Γ.reverse e b'') fun o=>(o=0∨o=t)↔OwT p Γ e t:=by
    intro b'' hbf' hb''
    have n2: ¬(e.op=2∨e.op=3∨(12≤e.op∧e.op≤14)):=fun h=>by have:=hb'.2 h;rw [hbf'] at this;cases this
    unfold Lc
    refine ET.cond (fun h=> .some ?_) fun h=>?_
    ·have h:=hb''.1 h
     exact ⟨fun h'=>⟨fun h=>absurd h n1,fun h=>absurd h n2,fun _=>by omega,fun h'=>by omega,fun h'=>by omega,fun h'=>by omega⟩,fun h'=> .inr (h'.l h).symm⟩
    have n3: ¬(e.op=4∨e.op=18):=fun h'=>by have:=hb''.2 h';rw [h] at this;cases this
    refine ET.cond (fun h=> .some ?_) fun h5=>ET.cond (fun h=>?_) fun h6=>ET.cond (fun h=>?_) fun h7=> .some ?_
    ·have h5:=Bu h
     have:=he.typ (.inl h5)
     exact ⟨fun h'=>⟨fun h=>absurd h n1,fun h=>absurd h n2,fun h=>absurd h n3,fun _=>by omega,fun h'=>by omega,fun h'=>by omega⟩,fun h'=> .inr (h'.f h5).symm⟩
    ·have h6:=Bu h
     refine Qj (Γ.length+2) ⟨(QT Γ e.name).getD (-1),?_,fun N hN=>?_⟩
     ·cases hlk:QT Γ e.name with
      |none=>exact ⟨fun h'=>by simp at h';omega,fun h'=>by have:=h'.v h6;rw [hlk] at this;cases this⟩
      |some u=>
       have hu:1≤u∧u≤3:=by
        unfold QT at hlk
        obtain ⟨x,hx,rfl⟩:=Option.map_eq_some_iff.1 hlk
        exact hΓ x (List.mem_of_find?_eq_some hx)
       refine ⟨fun h'=>⟨fun h=>absurd h n1,fun h=>absurd h n2,fun h=>absurd h n3,fun h'=>by omega,fun _=>?_,fun h'=>by omega⟩,fun h'=>?_⟩
       ·simp at h';rw [hlk];congr 1;omega
       ·have:=h'.v h6;rw [hlk] at this;cases this;exact .inr rfl
     ·have:=Zl (e:=e) hl Γ [] rfl N (by omega)
      rw [wr (by simp;omega) (by simp;omega),List.length_reverse]
      exact this
    ·have h7:=Bu h
     have hl:=hp.len
     refine ET.bind (P:=fun r=>r=hdR (hd p e.name)) (Qj (p.funcs.length+2) ⟨_,rfl,fun N hN=>RP (by omega) hN⟩) fun r hr=>?_
     subst hr
     unfold M5
     cases hh:hd p e.name with
     |none=>exact .some ⟨fun h=>by omega,fun h'=>by obtain ⟨f,hf,_⟩:=h'.c h7;rw [hh] at hf;cases hf⟩
     |some f=>
      have hf:=hp.fns f (List.mem_of_find?_eq_some hh)
      refine ET.cond (fun h=>by cases h) fun _=>ET.cond (fun h=> .some ?_) fun h=> .some ?_
      ·have h:=J8 h
       exact ⟨fun h=>by omega,fun h'=>by obtain ⟨g,hg,hgl,_⟩:=h'.c h7;rw [hh] at hg;cases hg;exact absurd (congrArg Int.ofNat hgl) h⟩
      ·have h:=Iu h
       have:=hf.typ
       refine ⟨fun h'=>⟨fun h=>absurd h n1,fun h=>absurd h n2,fun h=>absurd h n3,fun h'=>by omega,fun h'=>by omega,fun _=>⟨f,hh,?_,?_⟩⟩,fun h'=>?_⟩
       ·have:(f.params.length:Int)=e.args.length:=h;omega
       ·have h':f.type_=0∨f.type_=t:=h';omega
       ·obtain ⟨g,hg,_,hgt⟩:=h'.c h7;rw [hh] at hg;cases hg;exact .inr hgt
    ·have h5:=BY h5;have h6:=BY h6;have h7:=BY h7
     exact ⟨fun _=>⟨fun h=>absurd h n1,fun h=>absurd h n2,fun h=>absurd h n3,fun h=>absurd h h5,fun h=>absurd h h6,fun h=>absurd h h7⟩,fun _=> .inl rfl⟩
   unfold I0
   refine ET.cond (fun h=> .some ?_) fun h=>?_
   ·have h:=hb'.1 h
    exact ⟨fun h'=>⟨fun h=>absurd h n1,fun _=>by omega,fun h'=>by omega,fun h'=>by omega,fun h'=>by omega,fun h'=>by omega⟩,fun h'=> .inr (h'.b h).symm⟩
   ·refine ET.cond (fun h4=>j3 _ h ⟨fun _=> .inl (Bu h4),fun _=>h4⟩) fun h4=>j3 _ h ⟨fun h=> .inr (Bu h),fun h=>?_⟩
    rcases h with h|h
    ·exact absurd h (BY h4)
    ·simp [h]
  unfold Fv
  refine ET.cond (fun h=> .some ?_) fun h=>?_
  ·have h:=hb.1 h
   exact ⟨fun h'=>⟨fun _=>by omega,fun h'=>by omega,fun h'=>by omega,fun h'=>by omega,fun h'=>by omega,fun h'=>by omega⟩,fun h'=> .inr (h'.n h).symm⟩
  ·refine ET.cond (fun h2=>j2 _ h ⟨fun _=>by have:=Bu h2;omega,fun _=>h2⟩) fun h2=>ET.cond (fun h3=>j2 _ h ⟨fun _=>by have:=Bu h3;omega,fun _=>h3⟩) fun h3=>ET.cond (fun h4=>j2 _ h ⟨fun _=>by have:=Bu h4;omega,fun _=>h4⟩) fun h4=>ET.cond (fun h5=>j2 _ h ⟨fun _=>by have:=Bu h5;omega,fun _=>h5⟩) fun h5=>j2 _ h ⟨fun h6=>by have:=Bu h6;omega,fun h6=>?_⟩
   have:=BY h2;have:=BY h3;have:=BY h4;have:=BY h5
   simp;omega
 unfold P5
 have yes: ∀{k:Int},(k=1∨(8≤k∧k≤11)∨(15≤k∧k≤17))→(e.op==k)=true→ET (fun N=>Fv N p Γ.reverse e (e.op==k)) fun o=>(o=0∨o=t)↔OwT p Γ e t:=fun hk h=>j1 _ ⟨fun _=>by have:=Bu h;omega,fun _=>h⟩
 refine ET.cond (fun h=>yes (by omega) h) fun h1=>ET.cond (fun h=>yes (by omega) h) fun h2=>ET.cond (fun h=>yes (by omega) h) fun h3=>ET.cond (fun h=>yes (by omega) h) fun h4=>ET.cond (fun h=>yes (by omega) h) fun h5=>ET.cond (fun h=>yes (by omega) h) fun h6=>ET.cond (fun h=>yes (by omega) h) fun h7=>j1 _ ⟨fun h=>by have:=Bu h;omega,fun h=>?_⟩
 have:=BY h1;have:=BY h2;have:=BY h3;have:=BY h4;have:=BY h5;have:=BY h6;have:=BY h7
 simp;omega
omit hp in
theorem YM{l:List AH}{nm:List UInt8}{t:Int}(h:l.length≤1000000100):Lt l nm t=some (l++[⟨nm,t,0⟩]):=by
 unfold Lt
 obtain ⟨_,e1,_⟩:=F1 (b:=32) (xs:=([]:List AH)) (ys:=l) (by decide) (by simp;omega)
 obtain ⟨_,e2,_⟩:=F1 (b:=32) (xs:=([]:List AH)++l) (ys:=[AH.mk nm t 0]) (by decide) (by simp;omega)
 rw [e1,Option.bind_some,e2,Option.bind_some,List.nil_append]
omit hp in
theorem YN{Γ:List AH}{e:AD}(hl:Γ.length≤1000000000)(i:Nat):M6 Γ.reverse e (i:Int)=some (Win Γ e i).reverse:=by
 unfold M6 KC LM Win
 have e1:((i:Int)==1)=decide (i=1):=by rw [Bool.eq_iff_iff];simp;omega
 have e2:((i:Int)==2)=decide (i=2):=by rw [Bool.eq_iff_iff];simp;omega
 rw [e1,e2,YM (by rw [List.length_reverse];omega),YM (by rw [List.length_reverse];omega)]
 simp only [Option.bind_some]
 rw [YM (by simp;omega)]
 cases h1:(e.op==21)
 ·have h1:=BY h1
  cases h2:(e.op==22)
  ·have h2:=BY h2
   rw [if_neg (by omega)]
   cases h3:(e.op==20)
   ·have h3:=BY h3
    rw [if_neg (by omega)];rfl
   ·have h3:=Bu h3
    cases h4:decide (i=2)
    ·have h4:=Df h4;rw [if_neg (by omega)];rfl
    ·have h4:=CD h4;rw [if_pos ⟨h3,h4⟩];simp
  ·have h2:=Bu h2
   cases h3:decide (i=1)
   ·have h3:=Df h3
    rw [if_neg (by omega),if_neg (by omega),show (e.op==20)=false by simp;omega];rfl
   ·have h3:=CD h3
    rw [if_pos (.inr ⟨h2,h3⟩)];simp
 ·have h1:=Bu h1
  rw [if_pos (.inl h1)];simp
theorem YO{e:AD}{t:Int}(i:Nat):ET (fun N=>M7 N p e (i:Int) t) fun r=>r=Wan p e i t:=by
 have hl:=hp.len
 unfold M7 LO KD Wan
 have e1:((i:Int)==1)=decide (i=1):=by rw [Bool.eq_iff_iff];simp;omega
 have e0:((i:Int)==0)=decide (i=0):=by rw [Bool.eq_iff_iff];simp
 rw [e1,e0]
 refine ET.cond (fun h=> .some ?_) fun h14=>ET.cond (fun h=>ET.cond (fun h'=> .some ?_) fun h'=> .some ?_) fun h18=>ET.cond (fun h=>?_) fun h7=>ET.cond (fun h=>ET.cond (fun h'=> .some ?_) fun h'=> .some ?_) fun h19=>ET.cond (fun h=>ET.cond (fun h'=> .some ?_) fun h'=> .some ?_) fun h20=>ET.cond (fun h=>ET.cond (fun h'=>ET.cond (fun h''=> .some ?_) fun h''=> .some ?_) fun h'=>absurd (h.symm.trans h') (by decide)) fun h21=>ET.cond (fun h'=>ET.cond (fun h''=> .some ?_) fun h''=> .some ?_) fun h22=> .some ?_
 ·rw [if_pos (Bu h)]
 ·have:=BY h14;rw [if_neg (by omega),if_pos ⟨Bu h,CD h'⟩]
 ·have:=BY h14;have:=Bu h;have:=Df h';rw [if_neg (by omega),if_neg (by omega),if_neg (by omega),if_neg (by omega),if_neg (by omega),if_neg (by omega)]
 ·have:=BY h14;have:=BY h18;have h7:=Bu h
  refine ET.bind (P:=fun r=>r=hdR (hd p e.name)) (Qj (p.funcs.length+2) ⟨_,rfl,fun N hN=>RP (by omega) hN⟩) fun r hr=>?_
  subst hr
  rw [if_neg (by omega),if_neg (by omega),if_pos h7]
  unfold LN
  cases hh:hd p e.name with
  |none=>exact .some rfl
  |some f=>
   refine ET.cond (fun _=>ET.cond (fun h'=>?_) fun h'=>?_) fun h=>by cases h
   ·have h':=CD h'
    have h':(i:Int)< (f.params.length:Int):=h'
    obtain ⟨x,hx⟩: ∃x,f.params[i]?=some x:=⟨_,List.getElem?_eq_getElem (by omega)⟩
    refine ET.eq (B1 hx) (.some ?_)
    show x.type_=(match f.params[i]? with |some x=>x.type_|none=>1)
    rw [hx]
   ·have h':=Df h'
    have h': ¬(i:Int)< (f.params.length:Int):=h'
    refine .some ?_
    show 1=(match f.params[i]? with |some x=>x.type_|none=>1)
    rw [List.getElem?_eq_none (by omega)]
 ·have:=BY h14;have:=BY h18;have:=BY h7;rw [if_neg (by omega),if_neg (by omega),if_neg (by omega),if_pos (Bu h),if_pos (CD h')]
 ·have:=BY h14;have:=BY h18;have:=BY h7;rw [if_neg (by omega),if_neg (by omega),if_neg (by omega),if_pos (Bu h),if_neg (Df h')]
 ·have:=BY h14;have:=BY h18;have:=BY h7;have:=BY h19;rw [if_neg (by omega),if_neg (by omega),if_neg (by omega),if_neg (by omega),if_pos (Bu h),if_pos (CD h')]
 ·have:=BY h14;have:=BY h18;have:=BY h7;have:=BY h19;rw [if_neg (by omega),if_neg (by omega),if_neg (by omega),if_neg (by omega),if_pos (Bu h),if_neg (Df h')]
 ·have:=Bu h;rw [if_neg (by omega),if_neg (by omega),if_neg (by omega),if_neg (by omega),if_neg (by omega),if_pos (by omega),if_pos (CD h'')]
 ·have:=Bu h;rw [if_neg (by omega),if_neg (by omega),if_neg (by omega),if_neg (by omega),if_neg (by omega),if_pos (by omega),if_neg (Df h'')]
 ·have:=Bu h';rw [if_neg (by omega),if_neg (by omega),if_neg (by omega),if_neg (by omega),if_neg (by omega),if_pos (by omega),if_pos (CD h'')]
 ·have:=Bu h';rw [if_neg (by omega),if_neg (by omega),if_neg (by omega),if_neg (by omega),if_neg (by omega),if_pos (by omega),if_neg (Df h'')]
 ·have:=BY h14;have:=BY h18;have:=BY h7;have:=BY h19;have:=BY h20;have:=BY h21;have:=BY h22
  rw [if_neg (by omega),if_neg (by omega),if_neg (by omega),if_neg (by omega),if_neg (by omega),if_neg (by omega)]
omit hp in
theorem LG{Γ:List AH}{e:AD}{t:Int}:WTy p Γ e t↔OwT p Γ e t∧∀i a,e.args[i]?=some a→WTy p (Win Γ e i) a (Wan p e i t):=
 ⟨fun h=>⟨h.own,h.sub⟩,fun h=> .mk Γ e t h.1 h.2⟩
theorem Zm: ∀(n:Nat) (e:AD),EF e≤n→n≤10000000→WE e→∀(Γ:List AH) (t:Int),TyE Γ→Γ.length+2*n≤1000000000→1≤t∧t≤3→
  ET (fun N=>ref07_wrong N p Γ.reverse e t) fun l=>l.length≤EF e∧(l=[]↔WTy p Γ e t):=by
 intro n
 induction n with
 |zero=>intro e he;have:=Li e;omega
 |succ n ih=>
  intro e hen hn he Γ t hΓ hl ht
  have hal:=L8 e.args
  have hes:=OX e
  refine ET.down ?_
  show ET (fun N=>MZ (CK.at N) N p Γ.reverse e t) _
  have loop: ∀(j i:Nat),i+j=e.args.length→∀(acc:List Int),acc.length≤1+Co (e.args.take i)→
    EL (fun N k=>Jc (CK.at N) N p Γ.reverse e t k acc (i:Int)) fun l=>l.length≤1+Co e.args∧(l=[]↔acc=[]∧∀i' a,i≤i'→e.args[i']?=some a→WTy p (Win Γ e i') a (Wan p e i' t)):=by
   intro j
   induction j with
   |zero=>
    intro i hi acc hacc
    refine EL.down ?_
    show EL (fun N k=>I9 (CK.at N) N p Γ.reverse e t (Jc (CK.at N) N p Γ.reverse e t k) acc i) _
    unfold I9
    have htk:e.args.take i=e.args:=List.take_of_length_le (by omega)
    refine EL.cond (fun h=>by have:=CD h;omega) fun _=> .some ⟨by rw [htk] at hacc;omega,fun h=>⟨h,fun i' a hi' ha=>?_⟩,fun h=>h.1⟩
    have:=(List.getElem?_eq_some_iff.1 ha).1
    omega
   |succ j ihj=>
    intro i hi acc hacc
    refine EL.down ?_
    show EL (fun N k=>I9 (CK.at N) N p Γ.reverse e t (Jc (CK.at N) N p Γ.reverse e t k) acc i) _
    unfold I9
    obtain ⟨a,ha⟩: ∃a,e.args[i]?=some a:=⟨_,List.getElem?_eq_getElem (by omega)⟩
    have has:=NR (List.mem_of_getElem? ha)
    have htk:Co (e.args.take (i+1))=Co (e.args.take i)+EF a:=by rw [List.take_add_one,ha];simp [JH,Co]
    have htk2:Co (e.args.take (i+1))≤Co e.args:=by
     have:=JH (e.args.take (i+1)) (e.args.drop (i+1))
     rw [List.take_append_drop] at this;omega
    have hwin:=UU hΓ he i
    refine EL.cond (fun _=>?_) fun h=>by have:=Df h;omega
    refine EL.eq (B1 ha) (EL.eq (YN (by omega) i) (EL.bind (YO hp i) fun w hw=>?_))
    subst hw
    refine EL.bind (ih a (by omega) (by omega) (he.sub a (List.mem_of_getElem? ha)) (Win Γ e i) _ hwin.1 (by omega) (ABJ hp he ht i)) fun l hl=>?_
    refine EL.tb (F1 (by decide) (by omega)) fun _ _=>?_
    rw [wr (by omega) (by omega),show (i:Int)+1=((i+1:Nat):Int) by omega]
    refine (ihj (i+1) (by omega) (acc++l) (by rw [List.length_append,htk];omega)).mono fun r hr=>⟨hr.1,?_⟩
    rw [hr.2,List.append_eq_nil_iff,hl.2]
    constructor
    ·rintro ⟨⟨h1,h2⟩,h3⟩
     refine ⟨h1,fun i' b hi' hb=>?_⟩
     rcases Nat.eq_or_lt_of_le hi' with rfl|hlt
     ·rw [ha] at hb;cases hb;exact h2
     ·exact h3 i' b hlt hb
    ·rintro ⟨h1,h2⟩
     exact ⟨⟨h1,h2 i a (Nat.le_refl _) ha⟩,fun i' b hi' hb=>h2 i' b (by omega) hb⟩
  unfold MZ
  refine ET.bind (ABY hp hΓ (by omega) he ht) fun o ho=>?_
  have fin: ∀(acc:List Int),acc.length≤1→(acc=[]↔OwT p Γ e t)→ET (fun N=>Kj (CK.at N) N p Γ.reverse e t acc) fun l=>l.length≤EF e∧(l=[]↔WTy p Γ e t):=by
   intro acc h1 h2
   unfold Kj
   refine (loop e.args.length 0 (by omega) acc (by omega)).diag.mono fun r hr=>⟨by omega,?_⟩
   rw [hr.2,h2,LG]
   exact ⟨fun h=>⟨h.1,fun i a ha=>h.2 i a (Nat.zero_le _) ha⟩,fun h=>⟨h.1,fun i a _ ha=>h.2 i a ha⟩⟩
  unfold Lu
  refine ET.cond (fun h=>ET.cond (fun h'=>ET.tb (F1 (by decide) (by simp)) fun _ _=>fin _ (by simp) ⟨fun h=>by simp at h,fun h''=>?_⟩) fun h'=>fin [] (by simp) ⟨fun _=>ho.1 (.inr (Iu h')),fun _=>rfl⟩) fun h=>ET.cond (fun h'=>by cases h') fun _=>fin [] (by simp) ⟨fun _=>ho.1 (.inl (Iu h)),fun _=>rfl⟩
  rcases ho.2 h'' with h0|h0
  ·exact absurd h0 (J8 h)
  ·exact absurd h0 (J8 h')
def Sm(p:AN):Prop:=Zf p∧∀f∈p.funcs,WTy p f.params.reverse f.body f.type_
theorem YP:ET (fun N=>MN N p) fun r=>r.why=0↔Sm p:=by
 have hb: ∀f∈p.funcs,EF f.body≤1000000∧f.params.length≤1000000:=fun f hf=>⟨(hp.fns f hf).size,(hp.fns f hf).pars⟩
 have hlen:=hp.len
 unfold MN
 refine ET.bind (YK hlen hb) fun r hr=>ET.cond (fun h=> .some ⟨fun h'=>absurd h' (J8 h),fun h'=>hr.2 h'.1⟩) fun h=>?_
 have h:=Iu h
 have hsc:=hr.1 h
 have fns: ∀(j i:Nat),i+j=p.funcs.length→∀(y a:Int),EL (fun N k=>CR N p k (i:Int) y a) fun r=>r.why=0↔y=0∧∀i' f,i≤i'→p.funcs[i']?=some f→WTy p f.params.reverse f.body f.type_:=by
  intro j
  induction j with
  |zero=>
   intro i hi y a
   refine EL.down ?_
   show EL (fun N k=>JA N p (CR N p k) i y a) _
   unfold JA
   refine EL.cond (fun h=>by have:=CD h;omega) fun _=> .some ⟨fun h=>⟨h,fun i' f hi' hf=>by have:=(List.getElem?_eq_some_iff.1 hf).1;omega⟩,fun h=>h.1⟩
  |succ j ihj=>
   intro i hi y a
   obtain ⟨f,hf⟩: ∃f,p.funcs[i]?=some f:=⟨_,List.getElem?_eq_getElem (by omega)⟩
   have hfn:=hp.fns f (List.mem_of_getElem? hf)
   have hfs:=hfn.size
   have hfp:=hfn.pars
   refine EL.down ?_
   show EL (fun N k=>JA N p (CR N p k) i y a) _
   unfold JA
   refine EL.cond (fun _=>?_) fun h=>by have:=Df h;omega
   refine EL.eq (B1 hf) ?_
   rw [PH]
   have hΓ:TyE f.params.reverse:=fun x hx=>hfn.ptyp x (List.mem_reverse.1 hx)
   have hw:=Zm hp (EF f.body) f.body (Nat.le_refl _) (by omega) hfn.body f.params.reverse f.type_ hΓ (by rw [List.length_reverse];omega) hfn.typ
   rw [List.reverse_reverse] at hw
   refine EL.bind hw fun l hl=>?_
   have inner: ∀(q t:Nat),t+q=l.length→∀(y a:Int),∃y' a',(y'=0↔y=0∧t=l.length)∧∃n0,∀N k kk,n0≤kk→G5 i (CR N p k) l kk (t:Int) y a=CR N p k ((i+1:Nat):Int) y' a':=by
    intro q
    induction q with
    |zero=>
     intro t ht y a
     refine ⟨y,a,⟨fun h=>⟨h,by omega⟩,fun h=>h.1⟩,1,fun N k kk hkk=>?_⟩
     obtain ⟨kk,rfl⟩: ∃j,kk=j+1:=⟨kk - 1,by omega⟩
     show FO i (CR N p k) l (G5 i (CR N p k) l kk) t y a=_
     unfold FO
     rw [show decide ((t:Int)< (l.length:Int))=false from decide_eq_false (by omega),cond_false,wr (by omega) (by omega),show (i:Int)+1=((i+1:Nat):Int) by omega]
    |succ q ihq=>
     intro t ht y a
     obtain ⟨x,hx⟩: ∃x,l[t]?=some x:=⟨_,List.getElem?_eq_getElem (by omega)⟩
     have hll:=hl.1
     have e1:IntKind.i64.wrap ((t:Int)+1)=((t+1:Nat):Int):=by rw [wr (by omega) (by omega)];omega
     have take: ∃y' a',(y'=0↔y=0∧t=l.length)∧∃n0,∀N k kk,n0≤kk→G5 i (CR N p k) l kk ((t+1:Nat):Int) 34 x=CR N p k ((i+1:Nat):Int) y' a':=by
      obtain ⟨y',a',h1,n0,h2⟩:=ihq (t+1) (by omega) 34 x
      exact ⟨y',a',⟨fun h=>absurd (h1.1 h).1 (by decide),fun h=>by omega⟩,n0,h2⟩
     cases hy:(y==0)
     ·have hy':=BY hy
      cases hlt:decide (x<a)
      ·obtain ⟨y',a',h1,n0,h2⟩:=ihq (t+1) (by omega) y a
       refine ⟨y',a',⟨fun h=>absurd (h1.1 h).1 hy',fun h=>by omega⟩,n0+1,fun N k kk hkk=>?_⟩
       obtain ⟨kk,rfl⟩: ∃j,kk=j+1:=⟨kk - 1,by omega⟩
       show FO i (CR N p k) l (G5 i (CR N p k) l kk) t y a=_
       unfold FO Je Jd
       rw [show decide ((t:Int)< (l.length:Int))=true from decide_eq_true (by omega),cond_true,hy,cond_false,B1 hx,Option.bind_some,hlt,cond_false,e1]
       exact h2 N k kk (by omega)
      ·obtain ⟨y',a',h1,n0,h2⟩:=take
       refine ⟨y',a',h1,n0+1,fun N k kk hkk=>?_⟩
       obtain ⟨kk,rfl⟩: ∃j,kk=j+1:=⟨kk - 1,by omega⟩
       show FO i (CR N p k) l (G5 i (CR N p k) l kk) t y a=_
       unfold FO Je Jd
       rw [show decide ((t:Int)< (l.length:Int))=true from decide_eq_true (by omega),cond_true,hy,cond_false,B1 hx,Option.bind_some,hlt,cond_true,Option.bind_some,e1]
       exact h2 N k kk (by omega)
     ·obtain ⟨y',a',h1,n0,h2⟩:=take
      refine ⟨y',a',h1,n0+1,fun N k kk hkk=>?_⟩
      obtain ⟨kk,rfl⟩: ∃j,kk=j+1:=⟨kk - 1,by omega⟩
      show FO i (CR N p k) l (G5 i (CR N p k) l kk) t y a=_
      unfold FO Je Jd
      rw [show decide ((t:Int)< (l.length:Int))=true from decide_eq_true (by omega),cond_true,hy,cond_true,cond_true,B1 hx,Option.bind_some,e1]
      exact h2 N k kk (by omega)
   obtain ⟨y',a',h1,n0,h2⟩:=inner l.length 0 (by omega) y a
   obtain ⟨r,hr,n1,h3⟩:=ihj (i+1) (by omega) y' a'
   refine ⟨r,hr.trans ?_,n0+n1,fun N k hN hk=>?_⟩
   ·rw [h1]
    have hz:(0=l.length)↔WTy p f.params.reverse f.body f.type_:=by
     rw [←hl.2]
     exact ⟨fun h=>List.length_eq_zero_iff.1 h.symm,fun h=>by rw [h];rfl⟩
    rw [hz]
    constructor
    ·rintro ⟨⟨h1,h2⟩,h3⟩
     refine ⟨h1,fun i' g hi' hg=>?_⟩
     rcases Nat.eq_or_lt_of_le hi' with rfl|hlt
     ·rw [hf] at hg;cases hg;exact h2
     ·exact h3 i' g hlt hg
    ·rintro ⟨h1,h2⟩
     exact ⟨⟨h1,h2 i f (Nat.le_refl _) hf⟩,fun i' g hi' hg=>h2 i' g (by omega) hg⟩
   ·exact (h2 N k N (by omega)).trans (h3 N k (by omega) (by omega))
 refine (fns p.funcs.length 0 (by omega) r.why r.at_).diag.mono fun q hq=>hq.trans ⟨fun h'=>⟨hsc,fun f hf=>?_⟩,fun h'=>⟨h,fun i' f _ hf=>h'.2 f (List.mem_of_getElem? hf)⟩⟩
 obtain ⟨i,hi⟩:=List.mem_iff_getElem?.1 hf
 exact h'.2 i f (Nat.zero_le _) hi
end
end Fth
namespace Fth
open Go
theorem ABK{α:Type}{P:Nat→α→Prop}{a b:α}:(∀i x,[a,b][i]?=some x→P i x)↔P 0 a∧P 1 b:=by
 constructor
 ·intro h;exact ⟨h 0 a rfl,h 1 b rfl⟩
 ·intro h i x hx
  match i,hx with
  |0,hx=>cases hx;exact h.1
  |1,hx=>cases hx;exact h.2
theorem ABZ{α:Type}{P:Nat→α→Prop}{a b c:α}:(∀i x,[a,b,c][i]?=some x→P i x)↔P 0 a∧P 1 b∧P 2 c:=by
 constructor
 ·intro h;exact ⟨h 0 a rfl,h 1 b rfl,h 2 c rfl⟩
 ·intro h i x hx
  match i,hx with
  |0,hx=>cases hx;exact h.1
  |1,hx=>cases hx;exact h.2.1
  |2,hx=>cases hx;exact h.2.2
section
variable{p:AN}
theorem Zn(hlen:p.funcs.length≤50000)(flt:AE):ET (fun N=>JU N p flt) fun r=>r.2.1=p.funcs∧Pl p r.2.2.2:=by
 have loop: ∀(i:Nat),i≤p.funcs.length→∀(m:Ae),(∀nm,((∀k f,i≤k→p.funcs[k]?=some f→f.name≠nm)∧CJ m nm=0)∨∃(k:Nat) (f:AK),i≤k∧p.funcs[k]?=some f∧f.name=nm∧(∀k' f',i≤k'→k'<k→p.funcs[k']?=some f'→f'.name≠nm)∧CJ m nm=(k:Int)+1)→
   EL (fun _N k=>Hd p k ((i:Int) - 1) m) fun r=>r.2.1=p.funcs∧Pl p r.2.2.2:=by
  intro i
  induction i with
  |zero=>
   intro _ m hm
   refine EL.down ?_
   show EL (fun _N k=>Hp p (Hd p k) (((0:Nat):Int) - 1) m) _
   unfold Hp
   refine EL.cond (fun h=>by have:=CD h;omega) fun _=> .some ⟨rfl,fun nm=>?_⟩
   rcases hm nm with ⟨h1,h2⟩| ⟨k,f,_,h2,h3,h4,h5⟩
   ·refine .inl ⟨UT fun h=>?_,h2⟩
    obtain ⟨f,hf,hfn⟩:=List.mem_map.1 h
    obtain ⟨k,hk⟩:=List.mem_iff_getElem?.1 hf
    exact h1 k f (Nat.zero_le _) hk hfn
   ·refine .inr ⟨k,f,h2,RQ h2 h3 fun h=>?_,h5⟩
    obtain ⟨g,hg,hgn⟩:=List.mem_map.1 h
    rw [List.mem_take_iff_getElem] at hg
    obtain ⟨q,hq,hqe⟩:=hg
    exact h4 q g (Nat.zero_le _) (by omega) (by rw [List.getElem?_eq_getElem (by omega),hqe]) hgn
  |succ i ih=>
   intro hi m hm
   obtain ⟨f,hf⟩: ∃f,p.funcs[i]?=some f:=⟨_,List.getElem?_eq_getElem (by omega)⟩
   refine EL.down ?_
   show EL (fun _N k=>Hp p (Hd p k) (((i+1:Nat):Int) - 1) m) _
   unfold Hp
   rw [show ((i+1:Nat):Int) - 1=(i:Int) by omega]
   refine EL.cond (fun _=>?_) fun h=>by have:=Df h;omega
   refine EL.eq (B1 hf) ?_
   rw [wr (by omega) (by omega),wr (by omega) (by omega)]
   refine ih (by omega) _ fun nm=>?_
   rw [Ll]
   cases hn:(nm==f.name)
   ·have hne:nm≠f.name:=by simpa using hn
    rw [cond_false]
    rcases hm nm with ⟨h1,h2⟩| ⟨k,g,h1,h2,h3,h4,h5⟩
    ·refine .inl ⟨fun k g hk hg e=>?_,h2⟩
     rcases Nat.eq_or_lt_of_le hk with rfl|hlt
     ·rw [hf] at hg;cases hg;exact hne e.symm
     ·exact h1 k g hlt hg e
    ·refine .inr ⟨k,g,by omega,h2,h3,fun k' g' hk1 hk2 hg' e=>?_,h5⟩
     rcases Nat.eq_or_lt_of_le hk1 with rfl|hlt
     ·rw [hf] at hg';cases hg';exact hne e.symm
     ·exact h4 k' g' hlt hk2 hg' e
   ·have hne:nm=f.name:=by simpa using hn
    rw [cond_true]
    exact .inr ⟨i,f,Nat.le_refl _,hf,hne.symm,fun k' g' h1 h2=>by omega,rfl⟩
 have:=(loop p.funcs.length (Nat.le_refl _) [] fun nm=> .inl ⟨fun k f hk hf=>by have:=(List.getElem?_eq_some_iff.1 hf).1;omega,Sk nm⟩).diag
 refine this.cg fun N=>?_
 unfold JU
 rw [wr (by omega) (by omega)]
theorem YQ{a:Int}{flt:AE}:T (FG a flt) fun r=>r.why≠0:=by
 unfold FG Id
 exact T.cond (fun _=>T.cond (fun _=> .some (show (34:Int)≠0 by decide)) fun h=>by cases h) fun h=>T.cond (fun _=> .some (show (34:Int)≠0 by decide)) fun _=> .some (BY h)
theorem YR{e:AD}{t o:Int}{fs:List AK}{env:List AH}{y a:Int}:T (CC e t o fs env y a) fun r=>r.1=fs∧r.2.1=env∧(r.2.2.why=0↔y=0∧o=t):=by
 unfold CC
 refine T.cond (fun h=>T.bind YQ fun r hr=> .some ⟨rfl,rfl,fun h'=>absurd h' hr,fun h'=>absurd h'.2 (J8 h)⟩) fun h=> .some ⟨rfl,rfl,fun h'=>⟨h',Iu h⟩,fun h'=>h'.1⟩
def Wn(p:AN)(Γ:List AH)(flt:AE)(A:Prop)(r:List AK×List AH×AE):Prop:=r.1=p.funcs∧r.2.1=Γ.reverse∧(r.2.2.why=0↔flt.why=0∧A)
def Wo(p:AN)(Γ:List AH)(flt:AE)(t:Int)(A:Prop)(r:Int×List AK×List AH×AE):Prop:=r.2.1=p.funcs∧r.2.2.1=Γ.reverse∧((r.2.2.2.why=0∧r.1=t)↔flt.why=0∧A)
theorem ABL{Γ:List AH}{e:AD}{fs:List AK}{flt:AE}(hl:Γ.length≤1000000000): ∀(Γ2 Γ1:List AH),Γ=Γ1++Γ2→∀k,Γ2.length<k→EQ fs Γ.reverse flt e k ((Γ2.length:Int) - 1)=some ((QT Γ2 e.name).getD 0,fs,Γ.reverse,flt):=by
 intro Γ2
 induction Γ2 with
 |nil=>
  intro Γ1 h k hk
  obtain ⟨k,rfl⟩: ∃j,k=j+1:=⟨k - 1,by simp at hk;omega⟩
  rfl
 |cons x Γ2 ih=>
  intro Γ1 h k hk
  obtain ⟨k,rfl⟩: ∃j,k=j+1:=⟨k - 1,by simp at hk;omega⟩
  show GH fs Γ.reverse flt e (EQ fs Γ.reverse flt e k) (((x::Γ2).length:Int) - 1)=_
  unfold GH
  have hlen:Γ2.length<1000000000:=by rw [h] at hl;simp at hl;omega
  have e1:(((x::Γ2).length:Nat):Int) - 1=(Γ2.length:Int):=by simp
  have hat:Γ.reverse[Γ2.length]?=some x:=by rw [h];exact YL _ _ _
  rw [e1,show decide ((Γ2.length:Int)≥0)=true from decide_eq_true (by omega),cond_true,B1 hat,Option.bind_some,Option.bind_some,wr (by omega) (by omega)]
  unfold QT
  rw [List.find?_cons]
  cases hn:(x.name==e.name)
  ·rw [cond_false]
   exact ih (Γ1++[x]) (by rw [h];simp) k (by simp at hk;omega)
  ·rfl
variable(hp:WP p){mp:Ae}(hmp:Pl p mp)
include hp hmp
theorem YS: ∀(n:Nat) (e:AD),EF e≤n→n≤10000000→WE e→∀(Γ:List AH) (t:Int) (flt:AE),TyE Γ→Γ.length+2*n≤1000000000→1≤t∧t≤3→
  ET (fun N=>types_checker_want N p.funcs Γ.reverse mp flt e t) (Wn p Γ flt (WTy p Γ e t)):=by
 intro n
 induction n with
 |zero=>intro e he;have:=Li e;omega
 |succ n ih=>
  intro e hen hn he Γ t flt hΓ hl ht
  have hal:=L8 e.args
  have hes:=OX e
  have hfl:=hp.len
  have mem: ∀{i:Nat} {a:AD},e.args[i]?=some a→WE a∧EF a≤n:=fun h=>⟨he.sub _ (List.mem_of_getElem? h),by have:=NR (List.mem_of_getElem? h);omega⟩
  have one: ∀{i:Nat} {a:AD},e.args[i]?=some a→∀(Δ:List AH) (u:Int) (flt:AE),TyE Δ→Δ.length≤Γ.length+2→1≤u∧u≤3→ET (fun N=>types_checker_want N p.funcs Δ.reverse mp flt a u) (Wn p Δ flt (WTy p Δ a u)):=
   fun h Δ u flt h1 h2 h3=>ih _ (mem h).2 (by omega) (mem h).1 Δ u flt h1 (by omega) h3
  have alls: ∀(l:List AD),(∀a∈l,a∈e.args)→l.length≤e.args.length→∀(u:Int) (flt:AE),1≤u∧u≤3→ET (fun N=>types_checker_all N p.funcs Γ.reverse mp flt u l) (Wn p Γ flt (∀a∈l,WTy p Γ a u)):=by
   intro l hl1 hl2 u flt hu
   refine ET.down ?_
   show ET (fun N=>DX (AF.at N) mp u l N 0 p.funcs Γ.reverse flt.why flt.at_) _
   have loop: ∀(j i:Nat),i+j=l.length→∀(fs:List AK) (env:List AH) (f:AE),fs=p.funcs→env=Γ.reverse→EL (fun N k=>DX (AF.at N) mp u l k (i:Int) fs env f.why f.at_) (Wn p Γ f (∀i' a,i≤i'→l[i']?=some a→WTy p Γ a u)):=by
    intro j
    induction j with
    |zero=>
     intro i hi fs env f hfs henv
     subst hfs;subst henv
     refine EL.down ?_
     show EL (fun N k=>D7 (AF.at N) mp u l (DX (AF.at N) mp u l k) i p.funcs Γ.reverse f.why f.at_) _
     unfold D7
     refine EL.cond (fun h=>by have:=CD h;omega) fun _=> .some ⟨rfl,rfl,fun h=>⟨h,fun i' a hi' ha=>by have:=(List.getElem?_eq_some_iff.1 ha).1;omega⟩,fun h=>h.1⟩
    |succ j ihj=>
     intro i hi fs env f hfs henv
     subst hfs;subst henv
     obtain ⟨a,ha⟩: ∃a,l[i]?=some a:=⟨_,List.getElem?_eq_getElem (by omega)⟩
     obtain ⟨q,hq⟩:=List.mem_iff_getElem?.1 (hl1 a (List.mem_of_getElem? ha))
     refine EL.down ?_
     show EL (fun N k=>D7 (AF.at N) mp u l (DX (AF.at N) mp u l k) i p.funcs Γ.reverse f.why f.at_) _
     unfold D7
     refine EL.cond (fun _=>?_) fun h=>by have:=Df h;omega
     refine EL.eq (B1 ha) (EL.bind (one hq Γ u ⟨f.why,f.at_⟩ hΓ (by omega) hu) fun r hr=>?_)
     rw [wr (by omega) (by omega),show (i:Int)+1=((i+1:Nat):Int) by omega]
     refine (ihj (i+1) (by omega) r.1 r.2.1 r.2.2 hr.1 hr.2.1).mono fun w hw=>⟨hw.1,hw.2.1,hw.2.2.trans ?_⟩
     rw [hr.2.2]
     constructor
     ·rintro ⟨⟨h1,h2⟩,h3⟩
      refine ⟨h1,fun i' b hi' hb=>?_⟩
      rcases Nat.eq_or_lt_of_le hi' with rfl|hlt
      ·rw [ha] at hb;cases hb;exact h2
      ·exact h3 i' b hlt hb
     ·rintro ⟨h1,h2⟩
      exact ⟨⟨h1,h2 i a (Nat.le_refl _) ha⟩,fun i' b hi' hb=>h2 i' b (by omega) hb⟩
   refine (loop l.length 0 (by omega) p.funcs Γ.reverse flt rfl rfl).diag.mono fun r hr=>⟨hr.1,hr.2.1,hr.2.2.trans ?_⟩
   constructor
   ·rintro ⟨h1,h2⟩
    refine ⟨h1,fun a ha=>?_⟩
    obtain ⟨i,hi⟩:=List.mem_iff_getElem?.1 ha
    exact h2 i a (Nat.zero_le _) hi
   ·rintro ⟨h1,h2⟩
    exact ⟨h1,fun i a _ ha=>h2 a (List.mem_of_getElem? ha)⟩
  have last: ∀(r:List AK×List AH×AE) (f:AE) (A:Prop),Wn p Γ f A r→(f.why=0↔flt.why=0)→(A↔WTy p Γ e t)→T (CC e t t r.1 r.2.1 r.2.2.why r.2.2.at_) (Wn p Γ flt (WTy p Γ e t)):=by
   intro r f A hr hf hA
   refine YR.mono fun w hw=>⟨hw.1.trans hr.1,hw.2.1.trans hr.2.1,hw.2.2.trans ?_⟩
   rw [hr.2.2,hA,hf]
   exact ⟨fun h=>h.1,fun h=>⟨h,rfl⟩⟩
  refine ET.down ?_
  show ET (fun N=>FX (AF.at N) N p.funcs Γ.reverse mp flt e t) _
  unfold FX
  have ow:19≤e.op∧e.op≤22→OwT p Γ e t:=fun h=>⟨fun h=>by omega,fun h=>by omega,fun h=>by omega,fun h=>by omega,fun h=>by omega,fun h=>by omega⟩
  have har:=he.ar
  refine ET.cond (fun h=>?_) fun h19=>ET.cond (fun h=>?_) fun h20=>ET.cond (fun h=>?_) fun h21=>ET.cond (fun h=>?_) fun h22=>?_
  ·
   have ho:=Bu h
   obtain ⟨a,b,d,ha⟩:=Si (l:=e.args) (by unfold Ar at har;omega)
   have ea:e.args[0]?=some a:=by rw [ha];rfl
   have eb:e.args[1]?=some b:=by rw [ha];rfl
   have ed:e.args[2]?=some d:=by rw [ha];rfl
   have hsub:sub e.args 1 (e.args.length:Int)=some [b,d]:=by rw [ha];rfl
   refine ET.eq (B1 (i:=0) ea) (ET.bind (one ea Γ 2 flt hΓ (by omega) (by omega)) fun r hr=>ET.eq hsub ?_)
   rw [hr.1,hr.2.1]
   refine ET.bind (alls [b,d] (fun x hx=>by rw [ha];simp at hx ⊢;rcases hx with rfl|rfl<;>simp) (by rw [ha];simp) t r.2.2 ht) fun r2 hr2=> .of ?_
   refine last r2 flt (WTy p Γ a 2∧∀x∈[b,d],WTy p Γ x t) ⟨hr2.1,hr2.2.1,by rw [hr2.2.2,hr.2.2];exact and_assoc⟩ Iff.rfl ?_
   have e1: ∀i,Win Γ e i=Γ:=fun i=>by unfold Win;rw [if_neg (by omega),if_neg (by omega)]
   have e2: ∀i,Wan p e i t=if i=0 then 2 else t:=fun i=>by unfold Wan;rw [if_neg (by omega),if_neg (by omega),if_neg (by omega),if_pos ho]
   rw [LG (e:=e),ha,ABZ,e1,e1,e1,e2,e2,e2]
   simp only [List.mem_cons,List.not_mem_nil,or_false,forall_eq_or_imp,forall_eq]
   exact ⟨fun h=>⟨ow (by omega),h.1,h.2.1,h.2.2⟩,fun h=>⟨h.2.1,h.2.2.1,h.2.2.2⟩⟩
  ·
   have ho:=Bu h
   obtain ⟨a,b,d,ha⟩:=Si (l:=e.args) (by unfold Ar at har;omega)
   have ea:e.args[0]?=some a:=by rw [ha];rfl
   have eb:e.args[1]?=some b:=by rw [ha];rfl
   have ed:e.args[2]?=some d:=by rw [ha];rfl
   have e1: ∀i,i≠2→Win Γ e i=Γ:=fun i hi=>by unfold Win;rw [if_neg (by omega),if_neg (by omega)]
   have e1':Win Γ e 2=⟨e.tail,3,0⟩::⟨e.name,1,0⟩::Γ:=by unfold Win;rw [if_neg (by omega),if_pos ⟨ho,rfl⟩]
   have e2: ∀i,Wan p e i t=if i=0 then 3 else t:=fun i=>by unfold Wan;rw [if_neg (by omega),if_neg (by omega),if_neg (by omega),if_neg (by omega),if_pos ho]
   have hwin:=UU hΓ he 2
   rw [e1'] at hwin
   refine ET.eq (B1 (i:=0) ea) (ET.bind (one ea Γ 3 flt hΓ (by omega) (by omega)) fun r hr=>ET.eq (B1 (i:=1) eb) ?_)
   rw [hr.1,hr.2.1]
   refine ET.bind (one eb Γ t r.2.2 hΓ (by omega) ht) fun r2 hr2=>?_
   rw [hr2.1,hr2.2.1]
   refine ET.bind (P:=Wn p Γ r2.2.2 (WTy p (⟨e.tail,3,0⟩::⟨e.name,1,0⟩::Γ) d t)) ?_ fun r3 hr3=> .of ?_
   ·refine ET.down ?_
    show ET (fun N=>GP (AF.at N) N p.funcs Γ.reverse mp r2.2.2 e t [⟨e.name,1,0⟩,⟨e.tail,3,0⟩]) _
    unfold GP
    refine ET.tb (F1 (by decide) (by simp;omega)) fun _ _=>?_
    refine ET.bind (P:=Wn p (⟨e.tail,3,0⟩::⟨e.name,1,0⟩::Γ) r2.2.2 (WTy p (⟨e.tail,3,0⟩::⟨e.name,1,0⟩::Γ) d t)) ?_ fun w hw=>?_
    ·refine ET.down ?_
     have hrev:Γ.reverse++[⟨e.name,1,0⟩,⟨e.tail,3,0⟩]=(⟨e.tail,3,0⟩::⟨e.name,1,0⟩::Γ:List AH).reverse:=by simp
     rw [hrev]
     show ET (fun N=>Ek (AF.at N) N p.funcs (⟨e.tail,3,0⟩::⟨e.name,1,0⟩::Γ:List AH).reverse mp r2.2.2 e t) _
     unfold Ek
     exact ET.eq (B1 (i:=2) ed) (ET.bind (one ed _ t r2.2.2 hwin.1 hwin.2 ht) fun w hw=> .some hw)
    ·refine ET.tb (P:=fun x=>x=Γ.reverse) ?_ fun x hx=> .some ⟨hw.1,hx,hw.2.2⟩
     refine (Mr (by omega) (by omega) (by rw [hw.2.1];simp;omega)).mono fun x hx=>?_
     rw [hx,hw.2.1];simp
   ·refine last r3 flt (WTy p Γ a 3∧WTy p Γ b t∧WTy p (⟨e.tail,3,0⟩::⟨e.name,1,0⟩::Γ) d t) ⟨hr3.1,hr3.2.1,by rw [hr3.2.2,hr2.2.2,hr.2.2,and_assoc,and_assoc]⟩ Iff.rfl ?_
    rw [LG (e:=e),ha,ABZ,e1 0 (by omega),e1 1 (by omega),e1',e2,e2,e2]
    exact ⟨fun h=>⟨ow (by omega),h.1,h.2.1,h.2.2⟩,fun h=>⟨h.2.1,h.2.2.1,h.2.2.2⟩⟩
  ·
   have ho:=Bu h
   obtain ⟨a,b,ha⟩:=QU (l:=e.args) (by unfold Ar at har;omega)
   have ea:e.args[0]?=some a:=by rw [ha];rfl
   have eb:e.args[1]?=some b:=by rw [ha];rfl
   have e1: ∀i,Win Γ e i=⟨e.name,e.type_,0⟩::Γ:=fun i=>by unfold Win;rw [if_pos (.inl ho)]
   have e2: ∀i,Wan p e i t=if i=0 then e.type_ else t:=fun i=>by unfold Wan;rw [if_neg (by omega),if_neg (by omega),if_neg (by omega),if_neg (by omega),if_neg (by omega),if_pos (by omega)]
   have hwin:=UU hΓ he 0
   rw [e1] at hwin
   have het:=he.typ (by omega)
   refine ET.bind (P:=Wn p Γ flt (WTy p (⟨e.name,e.type_,0⟩::Γ) a e.type_∧WTy p (⟨e.name,e.type_,0⟩::Γ) b t)) ?_ fun r3 hr3=> .of ?_
   ·refine ET.down ?_
    show ET (fun N=>FY (AF.at N) N p.funcs Γ.reverse mp flt e t [⟨e.name,e.type_,0⟩]) _
    unfold FY
    refine ET.tb (F1 (by decide) (by simp;omega)) fun _ _=>?_
    refine ET.bind (P:=Wn p (⟨e.name,e.type_,0⟩::Γ) flt (WTy p (⟨e.name,e.type_,0⟩::Γ) a e.type_∧WTy p (⟨e.name,e.type_,0⟩::Γ) b t)) ?_ fun w hw=>?_
    ·refine ET.down ?_
     have hrev:Γ.reverse++[⟨e.name,e.type_,0⟩]=(⟨e.name,e.type_,0⟩::Γ:List AH).reverse:=by simp
     rw [hrev]
     show ET (fun N=>El (AF.at N) N p.funcs (⟨e.name,e.type_,0⟩::Γ:List AH).reverse mp flt e t) _
     unfold El
     refine ET.eq (B1 (i:=0) ea) (ET.bind (one ea _ e.type_ flt hwin.1 hwin.2 het) fun w hw=>ET.eq (B1 (i:=1) eb) ?_)
     rw [hw.1,hw.2.1]
     exact ET.bind (one eb _ t w.2.2 hwin.1 hwin.2 ht) fun w2 hw2=> .some ⟨hw2.1,hw2.2.1,by rw [hw2.2.2,hw.2.2];exact and_assoc⟩
    ·refine ET.tb (P:=fun x=>x=Γ.reverse) ?_ fun x hx=> .some ⟨hw.1,hx,hw.2.2⟩
     refine (Mr (by omega) (by omega) (by rw [hw.2.1];simp;omega)).mono fun x hx=>?_
     rw [hx,hw.2.1];simp
   ·refine last r3 flt _ hr3 Iff.rfl ?_
    rw [LG (e:=e),ha,ABK,e1,e1,e2,e2]
    exact ⟨fun h=>⟨ow (by omega),h.1,h.2⟩,fun h=>⟨h.2.1,h.2.2⟩⟩
  ·
   have ho:=Bu h
   obtain ⟨a,b,ha⟩:=QU (l:=e.args) (by unfold Ar at har;omega)
   have ea:e.args[0]?=some a:=by rw [ha];rfl
   have eb:e.args[1]?=some b:=by rw [ha];rfl
   have e1:Win Γ e 0=Γ:=by unfold Win;rw [if_neg (by omega),if_neg (by omega)]
   have e1':Win Γ e 1=⟨e.name,e.type_,0⟩::Γ:=by unfold Win;rw [if_pos (.inr ⟨ho,rfl⟩)]
   have e2: ∀i,Wan p e i t=if i=0 then e.type_ else t:=fun i=>by unfold Wan;rw [if_neg (by omega),if_neg (by omega),if_neg (by omega),if_neg (by omega),if_neg (by omega),if_pos (by omega)]
   have hwin:=UU hΓ he 1
   rw [e1'] at hwin
   have het:=he.typ (by omega)
   refine ET.eq (B1 (i:=0) ea) (ET.bind (one ea Γ e.type_ flt hΓ (by omega) het) fun r hr=>?_)
   rw [hr.1,hr.2.1]
   refine ET.bind (P:=Wn p Γ r.2.2 (WTy p (⟨e.name,e.type_,0⟩::Γ) b t)) ?_ fun r3 hr3=> .of ?_
   ·refine ET.down ?_
    show ET (fun N=>FZ (AF.at N) N p.funcs Γ.reverse mp r.2.2 e t [⟨e.name,e.type_,0⟩]) _
    unfold FZ
    refine ET.tb (F1 (by decide) (by simp;omega)) fun _ _=>?_
    refine ET.bind (P:=Wn p (⟨e.name,e.type_,0⟩::Γ) r.2.2 (WTy p (⟨e.name,e.type_,0⟩::Γ) b t)) ?_ fun w hw=>?_
    ·refine ET.down ?_
     have hrev:Γ.reverse++[⟨e.name,e.type_,0⟩]=(⟨e.name,e.type_,0⟩::Γ:List AH).reverse:=by simp
     rw [hrev]
     show ET (fun N=>Em (AF.at N) N p.funcs (⟨e.name,e.type_,0⟩::Γ:List AH).reverse mp r.2.2 e t) _
     unfold Em
     exact ET.eq (B1 (i:=1) eb) (ET.bind (one eb _ t r.2.2 hwin.1 hwin.2 ht) fun w hw=> .some hw)
    ·refine ET.tb (P:=fun x=>x=Γ.reverse) ?_ fun x hx=> .some ⟨hw.1,hx,hw.2.2⟩
     refine (Mr (by omega) (by omega) (by rw [hw.2.1];simp;omega)).mono fun x hx=>?_
     rw [hx,hw.2.1];simp
   ·refine last r3 flt (WTy p Γ a e.type_∧WTy p (⟨e.name,e.type_,0⟩::Γ) b t) ⟨hr3.1,hr3.2.1,by rw [hr3.2.2,hr.2.2];exact and_assoc⟩ Iff.rfl ?_
    rw [LG (e:=e),ha,ABK,e1,e1',e2,e2]
    exact ⟨fun h=>⟨ow (by omega),h.1,h.2⟩,fun h=>⟨h.2.1,h.2.2⟩⟩
  ·
   have h19:=BY h19;have h20:=BY h20;have h21:=BY h21;have h22:=BY h22
   have hop:1≤e.op∧e.op≤18:=by unfold Ar at har;omega
   have e1: ∀i,Win Γ e i=Γ:=fun i=>by unfold Win;rw [if_neg (by omega),if_neg (by omega)]
   have fin:ET (fun N=>types_checker_own N p.funcs Γ.reverse mp flt e) (Wo p Γ flt t (WTy p Γ e t))→ET (fun N=>((AF.at N).types_checker_own p.funcs Γ.reverse mp flt e).bind fun x2165=>CC e t x2165.1 x2165.2.1 x2165.2.2.1 x2165.2.2.2.why x2165.2.2.2.at_) (Wn p Γ flt (WTy p Γ e t)):=fun h=>
    ET.bind h fun r hr=> .of (YR.mono fun w hw=>⟨hw.1.trans hr.1,hw.2.1.trans hr.2.1,hw.2.2.trans hr.2.2⟩)
   refine fin (ET.down ?_)
   show ET (fun N=>F2 (AF.at N) N p.funcs Γ.reverse mp flt e) _
   have leaf: ∀(o:Int),e.args=[]→((o=t)↔OwT p Γ e t)→Wo p Γ flt t (WTy p Γ e t) (o,p.funcs,Γ.reverse,flt):=fun o ha ho=>⟨rfl,rfl,by
    rw [LG (e:=e),ha]
    exact ⟨fun h=>⟨h.1,ho.1 h.2,fun i a h=>by simp at h⟩,fun h=>⟨h.1,ho.2 h.2.1⟩⟩⟩
   have nil_of:(1≤e.op∧e.op≤6)→e.args=[]:=fun h=>List.length_eq_zero_iff.1 (by unfold Ar at har;omega)
   unfold F2
   have j1t:(e.op=2∨e.op=3)→ET (fun N=>ER (AF.at N) N p.funcs Γ.reverse mp flt e true) (Wo p Γ flt t (WTy p Γ e t)):=by
    intro ho
    unfold ER
    refine ET.cond (fun _=> .some (leaf 2 (nil_of (by omega)) ⟨fun h=>⟨fun h=>by omega,fun _=>h.symm,fun h=>by omega,fun h=>by omega,fun h=>by omega,fun h=>by omega⟩,fun h=>(h.b (by omega)).symm⟩)) fun h=>by cases h
   refine ET.cond (fun h=>by rw [h];exact j1t (.inl (Bu h))) fun h2=>?_
   have h2:=BY h2
   cases h3:(e.op==3)
   rotate_left
   ·exact j1t (.inr (Bu h3))
   have h3:=BY h3
   unfold ER
   refine ET.cond (fun h=>by cases h) fun _=>ET.cond (fun h=> .some ?_) fun h4=>ET.cond (fun h=> .some ?_) fun h5=>ET.cond (fun h=>?_) fun h6=>ET.cond (fun h=>?_) fun h7=>ET.cond (fun h=>?_) fun h14=>ET.cond (fun h=>?_) fun h18=>?_
   ·have ho:=Bu h
    exact leaf 3 (nil_of (by omega)) ⟨fun h=>⟨fun h=>by omega,fun h=>by omega,fun _=>h.symm,fun h=>by omega,fun h=>by omega,fun h=>by omega⟩,fun h=>(h.l (by omega)).symm⟩
   ·have ho:=Bu h
    exact leaf e.type_ (nil_of (by omega)) ⟨fun h=>⟨fun h=>by omega,fun h=>by omega,fun h=>by omega,fun _=>h.symm,fun h=>by omega,fun h=>by omega⟩,fun h=>(h.f ho).symm⟩
   ·have ho:=Bu h
    refine Qj (Γ.length+2) ⟨((QT Γ e.name).getD 0,p.funcs,Γ.reverse,flt),leaf _ (nil_of (by omega)) ⟨fun h=>⟨fun h=>by omega,fun h=>by omega,fun h=>by omega,fun h=>by omega,fun _=>?_,fun h=>by omega⟩,fun h=>?_⟩,fun N hN=>?_⟩
    ·cases hlk:QT Γ e.name with
     |none=>rw [hlk] at h;simp at h;omega
     |some u=>rw [hlk] at h;simp at h;rw [h]
    ·rw [h.v ho];rfl
    ·have:=ABL (e:=e) (fs:=p.funcs) (flt:=flt) (Γ:=Γ) (by omega) Γ [] rfl N (by omega)
     rw [wr (by simp;omega) (by simp;omega),List.length_reverse]
     exact this
   ·
    have ho:=Bu h
    have hwan: ∀f,hd p e.name=some f→∀i x,f.params[i]?=some x→Wan p e i t=x.type_:=fun f hf i x hx=>by
     unfold Wan
     rw [if_neg (by omega),if_neg (by omega),if_pos ho,hf]
     show (match f.params[i]? with |some x=>x.type_|none=>1)=_
     rw [hx]
    refine ET.bind (P:=Wo p Γ flt t (WTy p Γ e t)) ?_ fun r hr=> .some hr
    refine ET.down ?_
    show ET (fun N=>Fa (AF.at N) N p.funcs Γ.reverse mp flt e) _
    have bad: ¬WTy p Γ e t→Wo p Γ flt t (WTy p Γ e t) (0,p.funcs,Γ.reverse,flt):=fun h=>⟨rfl,rfl,fun h'=>by have:(0:Int)=t:=h'.2;omega,fun h'=>absurd h'.2 h⟩
    unfold Fa
    rcases hmp e.name with ⟨hn0,h0⟩| ⟨i,f,hi,hf,hm⟩
    ·rw [h0]
     refine ET.cond (fun _=>?_) fun h=>by cases h
     unfold E8
     refine ET.cond (fun _=> .some (bad fun h=>?_)) fun h=>by cases h
     obtain ⟨g,hg,_⟩:=h.own.c ho
     rw [hn0] at hg;cases hg
    ·have hil:=(List.getElem?_eq_some_iff.1 hi).1
     have hfn:=hp.fns f (List.mem_of_find?_eq_some hf)
     have hfp:=hfn.pars
     rw [hm]
     refine ET.cond (fun h=>by have:=Bu h;omega) fun _=>?_
     rw [wr (x:=(i:Int)+1 - 1) (by omega) (by omega),show (i:Int)+1 - 1=(i:Int) by omega]
     refine ET.eq (B1 hi) ?_
     unfold E8
     refine ET.cond (fun h=> .some (bad fun h'=>?_)) fun h=>?_
     ·obtain ⟨g,hg,hgl,_⟩:=h'.own.c ho
      rw [hf] at hg;cases hg
      exact absurd (congrArg Int.ofNat hgl) (J8 h)
     have hfl:f.params.length=e.args.length:=by have:=Iu h;omega
     rw [hm,wr (x:=(i:Int)+1 - 1) (by omega) (by omega),show (i:Int)+1 - 1=(i:Int) by omega]
     refine ET.eq (B1 hi) ?_
     have loop: ∀(j q:Nat),q+j=f.params.length→∀(fs:List AK) (env:List AH) (f2:AE),fs=p.funcs→env=Γ.reverse→EL (fun N k=>Dh (AF.at N) mp e f k (q:Int) fs env f2.why f2.at_) fun r=>r.1=f.type_∧r.2.1=p.funcs∧r.2.2.1=Γ.reverse∧(r.2.2.2.why=0↔f2.why=0∧∀i' a,q≤i'→e.args[i']?=some a→WTy p Γ a (Wan p e i' t)):=by
      intro j
      induction j with
      |zero=>
       intro q hq fs env f2 hfs henv
       subst hfs;subst henv
       refine EL.down ?_
       show EL (fun N k=>Dv (AF.at N) mp e f (Dh (AF.at N) mp e f k) q p.funcs Γ.reverse f2.why f2.at_) _
       unfold Dv
       refine EL.cond (fun h=>by have:=CD h;omega) fun _=>?_
       rw [hm,wr (x:=(i:Int)+1 - 1) (by omega) (by omega),show (i:Int)+1 - 1=(i:Int) by omega]
       exact EL.eq (B1 hi) (.some ⟨rfl,rfl,rfl,fun h=>⟨h,fun i' a hi' ha=>by have:=(List.getElem?_eq_some_iff.1 ha).1;omega⟩,fun h=>h.1⟩)
      |succ j ihj=>
       intro q hq fs env f2 hfs henv
       subst hfs;subst henv
       obtain ⟨x,hx⟩: ∃x,f.params[q]?=some x:=⟨_,List.getElem?_eq_getElem (by omega)⟩
       obtain ⟨a,ha⟩: ∃a,e.args[q]?=some a:=⟨_,List.getElem?_eq_getElem (by omega)⟩
       have hxt:=hfn.ptyp x (List.mem_of_getElem? hx)
       refine EL.down ?_
       show EL (fun N k=>Dv (AF.at N) mp e f (Dh (AF.at N) mp e f k) q p.funcs Γ.reverse f2.why f2.at_) _
       unfold Dv
       refine EL.cond (fun _=>?_) fun h=>by have:=Df h;omega
       refine EL.eq (B1 hx) (EL.eq (B1 ha) (EL.bind (one ha Γ x.type_ ⟨f2.why,f2.at_⟩ hΓ (by omega) hxt) fun w hw=>?_))
       rw [wr (by omega) (by omega),show (q:Int)+1=((q+1:Nat):Int) by omega]
       refine (ihj (q+1) (by omega) w.1 w.2.1 w.2.2 hw.1 hw.2.1).mono fun r hr=>⟨hr.1,hr.2.1,hr.2.2.1,hr.2.2.2.trans ?_⟩
       rw [hw.2.2]
       constructor
       ·rintro ⟨⟨h1,h2⟩,h3⟩
        refine ⟨h1,fun i' b hi' hb=>?_⟩
        rcases Nat.eq_or_lt_of_le hi' with rfl|hlt
        ·rw [ha] at hb;cases hb;rw [hwan f hf q x hx];exact h2
        ·exact h3 i' b hlt hb
       ·rintro ⟨h1,h2⟩
        exact ⟨⟨h1,by have:=h2 q a (Nat.le_refl _) ha;rwa [hwan f hf q x hx] at this⟩,fun i' b hi' hb=>h2 i' b (by omega) hb⟩
     refine (loop f.params.length 0 (by omega) p.funcs Γ.reverse flt rfl rfl).diag.mono fun r hr=>⟨hr.2.1,hr.2.2.1,?_⟩
     rw [hr.1,hr.2.2.2,LG (e:=e)]
     simp only [e1]
     constructor
     ·rintro ⟨⟨h1,h2⟩,h3⟩
      exact ⟨h1,⟨fun h=>by omega,fun h=>by omega,fun h=>by omega,fun h=>by omega,fun h=>by omega,fun _=>⟨f,hf,hfl,h3⟩⟩,fun i a ha=>h2 i a (Nat.zero_le _) ha⟩
     ·rintro ⟨h1,h2,h3⟩
      obtain ⟨g,hg,_,hgt⟩:=h2.c ho
      rw [hf] at hg;cases hg
      exact ⟨⟨h1,fun i a _ ha=>h3 i a ha⟩,hgt⟩
   ·
    have ho:=Bu h
    refine ET.bind (alls e.args (fun a h=>h) (Nat.le_refl _) 2 flt (by omega)) fun r hr=> .some ⟨hr.1,hr.2.1,?_⟩
    have e2: ∀i,Wan p e i t=2:=fun i=>by unfold Wan;rw [if_pos ho]
    show (r.2.2.why=0∧(2:Int)=t)↔_
    rw [hr.2.2,LG (e:=e)]
    simp only [e1,e2]
    constructor
    ·rintro ⟨⟨h1,h2⟩,h3⟩
     exact ⟨h1,⟨fun h=>by omega,fun _=>h3.symm,fun h=>by omega,fun h=>by omega,fun h=>by omega,fun h=>by omega⟩,fun i a ha=>h2 a (List.mem_of_getElem? ha)⟩
    ·rintro ⟨h1,h2,h3⟩
     refine ⟨⟨h1,fun a ha=>?_⟩,(h2.b (by omega)).symm⟩
     obtain ⟨i,hi⟩:=List.mem_iff_getElem?.1 ha
     exact h3 i a hi
   ·
    have ho:=Bu h
    obtain ⟨a,b,ha⟩:=QU (l:=e.args) (by unfold Ar at har;omega)
    have ea:e.args[0]?=some a:=by rw [ha];rfl
    have eb:e.args[1]?=some b:=by rw [ha];rfl
    have e2:Wan p e 0 t=1:=by unfold Wan;rw [if_neg (by omega),if_neg (by omega),if_neg (by omega),if_neg (by omega),if_neg (by omega),if_neg (by omega)]
    have e3:Wan p e 1 t=3:=by unfold Wan;rw [if_neg (by omega),if_pos ⟨ho,rfl⟩]
    refine ET.eq (B1 (i:=0) ea) (ET.bind (one ea Γ 1 flt hΓ (by omega) (by omega)) fun r hr=>ET.eq (B1 (i:=1) eb) ?_)
    rw [hr.1,hr.2.1]
    refine ET.bind (one eb Γ 3 r.2.2 hΓ (by omega) (by omega)) fun r2 hr2=> .some ⟨hr2.1,hr2.2.1,?_⟩
    show (r2.2.2.why=0∧(3:Int)=t)↔_
    rw [hr2.2.2,hr.2.2,LG (e:=e),ha,ABK,e1,e1,e2,e3]
    constructor
    ·rintro ⟨⟨⟨h1,h2⟩,h3⟩,h4⟩
     exact ⟨h1,⟨fun h=>by omega,fun h=>by omega,fun _=>h4.symm,fun h=>by omega,fun h=>by omega,fun h=>by omega⟩,h2,h3⟩
    ·rintro ⟨h1,h2,h3,h4⟩
     exact ⟨⟨⟨h1,h3⟩,h4⟩,(h2.l (by omega)).symm⟩
   ·
    have h4:=BY h4;have h5:=BY h5;have h6:=BY h6;have h7:=BY h7;have h14:=BY h14;have h18:=BY h18
    have e2: ∀i,Wan p e i t=1:=fun i=>by unfold Wan;rw [if_neg (by omega),if_neg (by omega),if_neg (by omega),if_neg (by omega),if_neg (by omega),if_neg (by omega)]
    refine ET.bind (alls e.args (fun a h=>h) (Nat.le_refl _) 1 flt (by omega)) fun r hr=>?_
    have out: ∀o:Int,(o=t↔OwT p Γ e t)→Wo p Γ flt t (WTy p Γ e t) (o,r.1,r.2.1,r.2.2):=fun o ho=>⟨hr.1,hr.2.1,by
     show (r.2.2.why=0∧o=t)↔_
     rw [hr.2.2,LG (e:=e),ho]
     simp only [e1,e2]
     constructor
     ·rintro ⟨⟨h1,h2⟩,h3⟩
      exact ⟨h1,h3,fun i a ha=>h2 a (List.mem_of_getElem? ha)⟩
     ·rintro ⟨h1,h2,h3⟩
      refine ⟨⟨h1,fun a ha=>?_⟩,h2⟩
      obtain ⟨i,hi⟩:=List.mem_iff_getElem?.1 ha
      exact h3 i a hi⟩
    have two':(e.op=12∨e.op=13)→ET (fun _N=>Gz r true) (Wo p Γ flt t (WTy p Γ e t)):=fun ho=>
     .some (out 2 ⟨fun h=>⟨fun h=>by omega,fun _=>h.symm,fun h=>by omega,fun h=>by omega,fun h=>by omega,fun h=>by omega⟩,fun h=>(h.b (by omega)).symm⟩)
    refine ET.cond (fun h=>two' (.inl (Bu h))) fun h12=>?_
    have h12:=BY h12
    cases h13:(e.op==13)
    ·have h13:=BY h13
     exact .some (out 1 ⟨fun h=>⟨fun _=>h.symm,fun h=>by omega,fun h=>by omega,fun h=>by omega,fun h=>by omega,fun h=>by omega⟩,fun h=>(h.n (by omega)).symm⟩)
    ·exact two' (.inr (Bu h13))
end
theorem Zo{p:AN}(hp:WP p):ET (fun N=>F7 N p) fun r=>r.why=0↔Sm p:=by
 have hb: ∀f∈p.funcs,EF f.body≤1000000∧f.params.length≤1000000:=fun f hf=>⟨(hp.fns f hf).size,(hp.fns f hf).pars⟩
 have hlen:=hp.len
 unfold F7
 refine ET.bind (Zi hlen hb) fun r hr=>ET.cond (fun h=> .some ⟨fun h'=>absurd h' (J8 h),fun h'=>hr.2 h'.1⟩) fun h=>?_
 have h:=Iu h
 have hsc:=hr.1 h
 refine ET.bind (Zn hlen r) fun o ho=>?_
 have fns: ∀(j i:Nat),i+j=p.funcs.length→∀(f0:AE) (fs:List AK) (env:List AH),fs=p.funcs→EL (fun N k=>G0 N p o k (i:Int) f0.why f0.at_ fs env) fun r=>r.why=0↔f0.why=0∧∀i' f,i≤i'→p.funcs[i']?=some f→WTy p f.params.reverse f.body f.type_:=by
  intro j
  induction j with
  |zero=>
   intro i hi f0 fs env hfs
   refine EL.down ?_
   show EL (fun N k=>HI N p o (G0 N p o k) i f0.why f0.at_ fs env) _
   unfold HI
   exact EL.cond (fun h=>by have:=CD h;omega) fun _=> .some ⟨fun h=>⟨h,fun i' f hi' hf=>by have:=(List.getElem?_eq_some_iff.1 hf).1;omega⟩,fun h=>h.1⟩
  |succ j ihj=>
   intro i hi f0 fs env hfs
   subst hfs
   obtain ⟨f,hf⟩: ∃f,p.funcs[i]?=some f:=⟨_,List.getElem?_eq_getElem (by omega)⟩
   have hfn:=hp.fns f (List.mem_of_getElem? hf)
   have hfs:=hfn.size
   have hfp:=hfn.pars
   refine EL.down ?_
   show EL (fun N k=>HI N p o (G0 N p o k) i f0.why f0.at_ p.funcs env) _
   unfold HI
   refine EL.cond (fun _=>?_) fun h=>by have:=Df h;omega
   refine EL.eq (B1 hf) (EL.tb (F1 (by decide) (by simp;omega)) fun _ _=>?_)
   rw [PH,List.nil_append]
   have hΓ:TyE f.params.reverse:=fun x hx=>hfn.ptyp x (List.mem_reverse.1 hx)
   have hw:=YS hp ho.2 (EF f.body) f.body (Nat.le_refl _) (by omega) hfn.body f.params.reverse f.type_ ⟨f0.why,f0.at_⟩ hΓ (by rw [List.length_reverse];omega) hfn.typ
   rw [List.reverse_reverse] at hw
   refine EL.bind hw fun w hw=>?_
   rw [wr (by omega) (by omega),show (i:Int)+1=((i+1:Nat):Int) by omega]
   refine (ihj (i+1) (by omega) w.2.2 w.1 w.2.1 hw.1).mono fun r hr=>hr.trans ?_
   rw [hw.2.2]
   constructor
   ·rintro ⟨⟨h1,h2⟩,h3⟩
    refine ⟨h1,fun i' g hi' hg=>?_⟩
    rcases Nat.eq_or_lt_of_le hi' with rfl|hlt
    ·rw [hf] at hg;cases hg;exact h2
    ·exact h3 i' g hlt hg
   ·rintro ⟨h1,h2⟩
    exact ⟨⟨h1,h2 i f (Nat.le_refl _) hf⟩,fun i' g hi' hg=>h2 i' g (by omega) hg⟩
 refine (fns p.funcs.length 0 (by omega) r o.2.1 o.2.2.1 ho.1).diag.mono fun q hq=>hq.trans ⟨fun h'=>⟨hsc,fun f hf=>?_⟩,fun h'=>⟨h,fun i' f _ hf=>h'.2 f (List.mem_of_getElem? hf)⟩⟩
 obtain ⟨i,hi⟩:=List.mem_iff_getElem?.1 hf
 exact h'.2 i f (Nat.zero_le _) hi
end Fth
namespace Fth
open Go
def gv(v:AG):Th:=if v.type_=3 then v.list.foldr (fun z t=> .done v0 (.done ⟨1,z,false,[]⟩ .nil .nil) t) (.done ⟨3,(0,0),false,[]⟩ .nil .nil) else .done v .nil .nil
theorem U9{v:AG}{N:Nat}(hl:v.list.length≤1000000000)(hN:v.list.length+2≤N):Hs N v=some (gv v)∧N7 N v=some (gv v):=by
 have loop: ∀(l2 l1:List (Nat×Nat)),v.list=l1++l2→∀k,l1.length<k→
   IG v k (l2.foldr (fun z t=> .done v0 (.done ⟨1,z,false,[]⟩ .nil .nil) t) (.done ⟨3,(0,0),false,[]⟩ .nil .nil)) ((l1.length:Int) - 1)=some (v.list.foldr (fun z t=> .done v0 (.done ⟨1,z,false,[]⟩ .nil .nil) t) (.done ⟨3,(0,0),false,[]⟩ .nil .nil))∧
   Kk v k (l2.foldr (fun z t=> .done v0 (.done ⟨1,z,false,[]⟩ .nil .nil) t) (.done ⟨3,(0,0),false,[]⟩ .nil .nil)) ((l1.length:Int) - 1)=some (v.list.foldr (fun z t=> .done v0 (.done ⟨1,z,false,[]⟩ .nil .nil) t) (.done ⟨3,(0,0),false,[]⟩ .nil .nil)):=by
  intro l2 l1
  induction hn:l1.length generalizing l1 l2 with
  |zero=>
   intro h k hk
   obtain ⟨k,rfl⟩: ∃j,k=j+1:=⟨k - 1,by omega⟩
   have:l1=[]:=List.length_eq_zero_iff.1 hn
   subst this
   rw [h]
   exact ⟨rfl,rfl⟩
  |succ n ih=>
   intro h k hk
   obtain ⟨k,rfl⟩: ∃j,k=j+1:=⟨k - 1,by omega⟩
   have hne:l1≠[]:=fun e=>by subst e;cases hn
   obtain ⟨l0,z,rfl⟩: ∃l0 z,l1=l0++[z]:=⟨l1.dropLast,l1.getLast hne,(List.dropLast_concat_getLast hne).symm⟩
   have hl0:l0.length=n:=by simp at hn;exact hn
   have hz:v.list[n]?=some z:=by rw [h,List.append_assoc,List.getElem?_append_right (by omega),hl0];simp
   have hnl:n<v.list.length:=(List.getElem?_eq_some_iff.1 hz).1
   have ihh:=ih (z::l2) l0 hl0 (by rw [h];simp) k (by omega)
   have e1:((n+1:Nat):Int) - 1=(n:Int):=by omega
   rw [e1]
   constructor
   ·show JX v (IG v k) _ (n:Int)=_
    unfold JX
    rw [show decide ((n:Int)≥0)=true from decide_eq_true (by omega),cond_true,B1 hz,Option.bind_some,wr (by omega) (by omega)]
    exact ihh.1
   ·show LP v (Kk v k) _ (n:Int)=_
    unfold LP
    rw [show decide ((n:Int)≥0)=true from decide_eq_true (by omega),cond_true,B1 hz,Option.bind_some,wr (by omega) (by omega)]
    exact ihh.2
 unfold Hs N7 gv
 cases h:(v.type_ != 3)
 ·have h:=Iu h
  rw [if_pos h,wr (by omega) (by omega)]
  have:=loop [] v.list (by simp) N (by omega)
  exact this
 ·have h:=J8 h
  rw [if_neg h]
  exact ⟨rfl,rfl⟩
theorem ABM{p:AN}{L:Nat}{v:AG}(h:VV v.type_ v)(hl:v.list.length+1<L):TOK p L v.type_ (gv v):=by
 unfold gv
 rcases Decidable.em (v.type_=3) with h3|h3
 ·rw [if_pos h3]
  have hg: ∀z∈v.list,Gn z:=by
   rcases h with ⟨e,_⟩| ⟨e,_⟩| ⟨_,_,_,_,h⟩
   ·omega
   ·omega
   ·exact h
  rw [h3]
  have key: ∀l:List (Nat×Nat),(∀z∈l,Gn z)→l.length+1<L→TOK p L 3 (l.foldr (fun z t=> .done v0 (.done ⟨1,z,false,[]⟩ .nil .nil) t) (.done ⟨3,(0,0),false,[]⟩ .nil .nil))∧ch (l.foldr (fun z t=> .done v0 (.done ⟨1,z,false,[]⟩ .nil .nil) t) (.done ⟨3,(0,0),false,[]⟩ .nil .nil))=l.length+1:=by
   intro l
   induction l with
   |nil=>intro _ _;exact ⟨.val 3 _ (.inr (.inr ⟨rfl,rfl,rfl,rfl,by simp⟩)) fun _=>rfl,rfl⟩
   |cons z l ih=>
    intro hz hl
    have:=ih (fun w hw=>hz w (List.mem_cons_of_mem _ hw)) (by simp at hl;omega)
    refine ⟨.pair _ _ (.val 1 _ (.inl ⟨rfl,rfl,hz z (List.mem_cons_self ..),rfl,rfl⟩) fun h=>by cases h) this.1 (by rw [this.2];simp at hl;omega),?_⟩
    simp only [List.foldr_cons,ch,this.2,List.length_cons];omega
  exact (key v.list hg hl).1
 ·rw [if_neg h3]
  exact .val _ v h fun e=>absurd e h3
def Px:List AH→List AG→Nm→Nm
 |x::ps,v::vs,acc=>Px ps vs (.bind x.name (gv v) acc)
 |_,_,acc=>acc
theorem Zp{p:AN}{L:Nat}: ∀(ps:List AH) (vs:List AG) (Δ:List AH) (acc:Nm),ps.length=vs.length→EOK p L Δ acc→(∀(i:Nat) (x:AH) (v:AG),ps[i]?=some x→vs[i]?=some v→v.type_=x.type_∧VV v.type_ v∧v.list.length+1<L)→EOK p L (ps.reverse++Δ) (Px ps vs acc):=by
 intro ps
 induction ps with
 |nil=>intro vs Δ acc h he _;cases vs with
  |nil=>exact he
  |cons=>cases h
 |cons x ps ih=>
  intro vs Δ acc h he ha
  cases vs with
  |nil=>cases h
  |cons v vs=>
   have h0:=ha 0 x v rfl rfl
   have:=ih vs (x::Δ) (.bind x.name (gv v) acc) (by simpa using h) (.bind x Δ _ acc (h0.1▸ABM h0.2.1 h0.2.2) he) fun i y w h1 h2=>ha (i+1) y w h1 h2
   rw [List.reverse_cons,List.append_assoc]
   exact this
def M1(most:Int):Nat:=(if (16384:Int)< (if most<0 then 0 else most) then 16384 else (if most<0 then 0 else most)).toNat
theorem Py(most:Int):(if (16384:Int)< (if most<0 then 0 else most) then 16384 else (if most<0 then 0 else most))=(M1 most:Int):=by
 unfold M1;split<;>split<;>omega
theorem RR(most:Int):M1 most≤16384:=by unfold M1;split<;>split<;>omega
theorem WW{n:Nat}(h:n≤16384):M1 (n:Int)=n:=by unfold M1;rw [if_neg (by omega: ¬((n:Int)<0)),if_neg (by omega)];rfl
def WZ(f:AK)(args:List AG):Prop:=args.length=f.params.length∧∀(i:Nat) (v:AG) (x:AH),args[i]?=some v→f.params[i]?=some x→v.type_=x.type_∧chk v=true
def Nx(y:Int):Az:=⟨y,v0,0,0,0,0⟩
def QW(r:Except Int AG)(c:Nat):Az:=match r with
 | .ok v=>⟨0,v,c,0,0,0⟩
 | .error y=>⟨y,v0,c,0,0,0⟩
inductive Qk(p:AN)(nm:List UInt8)(args:List AG)(m:Nat):Az→Prop
 |shape (h: ¬Sm p):Qk p nm args m (Nx 3)
 |func (h:Sm p) (hf:hd p nm=none):Qk p nm args m (Nx 32)
 |args {f:AK} (h:Sm p) (hf:hd p nm=some f) (ha: ¬WZ f args):Qk p nm args m (Nx 40)
 |run {f:AK} {r:Except Int AG} {c:Nat} (h:Sm p) (hf:hd p nm=some f) (ha:WZ f args) (hr:Rn p m f.body (Px f.params args .nil) r c) (hc:c≤m) (hv:Rv m f.type_ r c):Qk p nm args m (QW r c)
def AV(args:List AG):Prop:=(∀v∈args,GV v∧v.list.length≤1048577)∧args.length≤1000000000
theorem LV.av{l:List AG}(h:LV l):AV l:=⟨fun v hv=>⟨(h.1 v hv).1.gv (by have:=(h.1 v hv).2;omega),(h.1 v hv).2⟩,by have:=h.2;omega⟩
section
variable{p:AN}{nm:List UInt8}{args:List AG}
theorem YT(hlen:p.funcs.length≤50000)(hS:FN p): ∀(j i:Nat),i+j=p.funcs.length→∀(m:Ae),(∀s,Na m s=decide (s∈(p.funcs.take i).map (·.name))∧∀k f,k<i→p.funcs[k]?=some f→f.name=s→CJ m s=(k:Int))→
  ∃mp,Mpp p mp∧(∀s,Na mp s=(hd p s).isSome)∧∃n0,∀N k most,n0≤k→H9 N p nm args most k (i:Int) m=(bif !(Na mp nm) then some (Nx 32) else ((idx p.funcs (CJ mp nm)).bind fun x239=>bif ((args.length:Int) != (x239.params.length:Int)) then some (Nx 40) else EB N p args most mp x239 N Nm.nil 0)):=by
 intro j
 induction j with
 |zero=>
  intro i hi m hm
  have htk:p.funcs.take i=p.funcs:=List.take_of_length_le (by omega)
  refine ⟨m,fun s f hf=>?_,fun s=>?_,1,fun N k most hk=>?_⟩
  ·have hfm:=List.mem_of_find?_eq_some hf
   obtain ⟨k,hk⟩:=List.mem_iff_getElem?.1 hfm
   have hfn:f.name=s:=by have:=List.find?_some hf;simpa using this
   have:=(hm s).2 k f (by have:=(List.getElem?_eq_some_iff.1 hk).1;omega) hk hfn
   rw [this]
   exact B1 hk
  ·rw [(hm s).1,htk]
   cases hh:hd p s with
   |none=>
    rw [decide_eq_false];rfl
    intro h
    obtain ⟨f,hf,hfn⟩:=List.mem_map.1 h
    unfold hd at hh
    rw [List.find?_eq_none] at hh
    exact hh f hf (by simpa using hfn)
   |some f=>
    rw [decide_eq_true];rfl
    have hfn:f.name=s:=by have:=List.find?_some hh;simpa using this
    exact List.mem_map.2 ⟨f,List.mem_of_find?_eq_some hh,hfn⟩
  ·obtain ⟨k,rfl⟩: ∃j,k=j+1:=⟨k - 1,by omega⟩
   show IK N p nm args most (H9 N p nm args most k) i m=_
   unfold IK
   rw [show decide ((i:Int)< (p.funcs.length:Int))=false from decide_eq_false (by omega),cond_false]
   rfl
 |succ j ihj=>
  intro i hi m hm
  obtain ⟨f,hf⟩: ∃f,p.funcs[i]?=some f:=⟨_,List.getElem?_eq_getElem (by omega)⟩
  have htk:(p.funcs.take (i+1)).map (·.name)=(p.funcs.take i).map (·.name)++[f.name]:=by rw [List.take_add_one,hf];simp
  obtain ⟨mp,h1,h2,n0,h3⟩:=ihj (i+1) (by omega) (Ko f.name i m) fun s=>by
   rw [W2,Ll,htk]
   cases hn:(s==f.name)
   ·have hne:s≠f.name:=by simpa using hn
    rw [cond_false,cond_false]
    refine ⟨?_,fun k g hk hg hgn=>?_⟩
    ·rw [(hm s).1];congr 1;simp [hne]
    ·rcases Nat.eq_or_lt_of_le (Nat.le_of_lt_succ hk) with rfl|hlt
     ·rw [hf] at hg;cases hg;exact absurd hgn.symm hne
     ·exact (hm s).2 k g hlt hg hgn
   ·have hne:s=f.name:=by simpa using hn
    rw [cond_true,cond_true]
    refine ⟨?_,fun k g hk hg hgn=>?_⟩
    ·rw [decide_eq_true];rw [hne];simp
    ·rcases Nat.eq_or_lt_of_le (Nat.le_of_lt_succ hk) with rfl|hlt
     ·rfl
     ·refine absurd (List.mem_map.2 ⟨g,?_,hgn.trans hne⟩) (hS i f hf)
      rw [List.mem_take_iff_getElem]
      obtain ⟨a1,a2⟩:=List.getElem?_eq_some_iff.1 hg
      exact ⟨k,by omega,a2⟩
  refine ⟨mp,h1,h2,n0+1,fun N k most hk=>?_⟩
  obtain ⟨k,rfl⟩: ∃j,k=j+1:=⟨k - 1,by omega⟩
  show IK N p nm args most (H9 N p nm args most k) i m=_
  unfold IK
  rw [show decide ((i:Int)< (p.funcs.length:Int))=true from decide_eq_true (by omega),cond_true,B1 hf,Option.bind_some,wr (by omega) (by omega),show (i:Int)+1=((i+1:Nat):Int) by omega]
  exact h3 N k most (by omega)
theorem Zq(hA:AV args){f:AK}(hf:f.params.length≤1000000):ET (fun N=>Ky N f args) fun b=>b=true↔WZ f args:=by
 unfold Ky
 refine ET.cond (fun h=> .some ⟨fun h=>(by cases h),fun h'=>absurd (congrArg Int.ofNat h'.1) (J8 h)⟩) fun h=>?_
 have h:=Iu h
 have hlen:args.length=f.params.length:=by omega
 have loop: ∀(j i:Nat),i+j=args.length→EL (fun N k=>J5 N f args k (i:Int)) fun b=>b=true↔∀(i':Nat) (v:AG) (x:AH),i≤i'→args[i']?=some v→f.params[i']?=some x→v.type_=x.type_∧chk v=true:=by
  intro j
  induction j with
  |zero=>
   intro i hi
   refine EL.down ?_
   show EL (fun N k=>Jf N f args (J5 N f args k) i) _
   unfold Jf
   exact EL.cond (fun h=>by have:=CD h;omega) fun _=> .some ⟨fun _ i' v x hi' hv _=>by have:=(List.getElem?_eq_some_iff.1 hv).1;omega,fun _=>rfl⟩
  |succ j ihj=>
   intro i hi
   obtain ⟨v,hv⟩: ∃v,args[i]?=some v:=⟨_,List.getElem?_eq_getElem (by omega)⟩
   obtain ⟨x,hx⟩: ∃x,f.params[i]?=some x:=⟨_,List.getElem?_eq_getElem (by omega)⟩
   have hg:=hA.1 v (List.mem_of_getElem? hv)
   refine EL.down ?_
   show EL (fun N k=>Jf N f args (J5 N f args k) i) _
   unfold Jf Ma
   rw [wr (by omega) (by omega),show (i:Int)+1=((i+1:Nat):Int) by omega]
   refine EL.cond (fun _=>?_) fun h=>by have:=Df h;omega
   refine EL.eq (B1 hv) (EL.eq (B1 hx) (EL.cond (fun h=>?_) fun h=>?_))
   ·exact EL.cond (fun _=> .some ⟨fun h=>(by cases h),fun h'=>absurd (h' i v x (Nat.le_refl _) hv hx).1 (J8 h)⟩) fun h=>by cases h
   ·refine EL.bind (P:=fun b=>b=chk v) (Qj (v.list.length+2) ⟨_,rfl,fun N hN=>LI hg.1 hN⟩) fun b hb=>?_
    subst hb
    refine EL.cond (fun hc=> .some ⟨fun h=>(by cases h),fun h'=>?_⟩) fun hc=>(ihj (i+1) (by omega)).mono fun b hb=>hb.trans ?_
    ·have:=(h' i v x (Nat.le_refl _) hv hx).2;rw [this] at hc;cases hc
    ·constructor
     ·intro h' i' w y hi' hw hy
      rcases Nat.eq_or_lt_of_le hi' with rfl|hlt
      ·rw [hv] at hw;cases hw;rw [hx] at hy;cases hy;exact ⟨Iu h,by simpa using hc⟩
      ·exact h' i' w y hlt hw hy
     ·intro h' i' w y hi' hw hy;exact h' i' w y (by omega) hw hy
 refine (loop args.length 0 (by omega)).diag.mono fun b hb=>hb.trans ⟨fun h=>⟨hlen,fun i v x hv hx=>h i v x (Nat.zero_le _) hv hx⟩,fun h i v x _ hv hx=>h.2 i v x hv hx⟩
theorem RS(hp:WP p)(hA:AV args)(most:Int): ∃r,Qk p nm args (M1 most) r∧Ev fun N=>EE N p nm args most=some r∧Kz N p nm args most=some r:=by
 have hlen:=hp.len
 obtain ⟨ft,hft,et⟩:=Zo hp
 obtain ⟨fr,hfr,er⟩:=YP hp
 replace et:Ev fun N=>F7 N p=some ft:=et
 replace er:Ev fun N=>MN N p=some fr:=er
 rcases Classical.em (Sm p) with hS|hS
 rotate_left
 ·refine ⟨_,.shape hS,(et.and er).mono fun N hN=>⟨?_,?_⟩⟩
  ·unfold EE
   rw [hN.1,Option.bind_some,show (ft.why != 0)=true by simp;exact fun h=>hS (hft.1 h)];rfl
  ·unfold Kz
   rw [hN.2,Option.bind_some,show (fr.why != 0)=true by simp;exact fun h=>hS (hfr.1 h)];rfl
 have zt:(ft.why != 0)=false:=by simp;exact hft.2 hS
 have zr:(fr.why != 0)=false:=by simp;exact hfr.2 hS
 obtain ⟨mp,hmpp,hmh,n0,hmap⟩:=YT (nm:=nm) (args:=args) hlen hS.1.1 p.funcs.length 0 (by omega) [] fun s=>⟨by simp;rfl,fun k f hk=>by omega⟩
 have mean0:Ev fun N=>EE N p nm args most=(bif !(Na mp nm) then some (Nx 32) else ((idx p.funcs (CJ mp nm)).bind fun x239=>bif ((args.length:Int) != (x239.params.length:Int)) then some (Nx 40) else EB N p args most mp x239 N Nm.nil 0)):=
  (et.and (L7 n0)).mono fun N hN=>by
   unfold EE
   rw [hN.1,Option.bind_some,zt,cond_false]
   exact hmap N N most hN.2
 have ref0:Ev fun N=>Kz N p nm args most=(bif (!(hdR (hd p nm)).2) then some (Nx 32) else ((Ky N (hdR (hd p nm)).1 args).bind fun x80=>bif (!x80) then some (Nx 40) else (IL N p args most (hdR (hd p nm)) N Nm.nil 0))):=
  (er.and (L7 (p.funcs.length+2))).mono fun N hN=>by
   unfold Kz
   rw [hN.1,Option.bind_some,zr,cond_false,RP (by omega) hN.2,Option.bind_some];rfl
 cases hh:hd p nm with
 |none=>
  refine ⟨_,.func hS hh,(mean0.and ref0).mono fun N hN=>⟨?_,?_⟩⟩
  ·rw [hN.1,hmh,hh];rfl
  ·rw [hN.2,hh];rfl
 |some f=>
  have hfm:=List.mem_of_find?_eq_some hh
  have hfn:=hp.fns f hfm
  have hfp:=hfn.pars
  obtain ⟨b,hb,eb⟩:=Zq (f:=f) hA hfp
  replace eb:Ev fun N=>Ky N f args=some b:=eb
  have mean1:Ev fun N=>EE N p nm args most=(bif ((args.length:Int) != (f.params.length:Int)) then some (Nx 40) else EB N p args most mp f N Nm.nil 0):=mean0.mono fun N hN=>by
   rw [hN,hmh,hh,hmpp nm f hh];rfl
  have ref1:Ev fun N=>Kz N p nm args most=(bif (!b) then some (Nx 40) else (IL N p args most (f,true) N Nm.nil 0)):=(ref0.and eb).mono fun N hN=>by
   rw [hN.1,hh]
   show (bif (!true) then _ else ((Ky N f args).bind fun x80=>_))=_
   rw [hN.2];rfl
  have loopM: ∀(Z:Option Az),args.length=f.params.length→∀(j i:Nat),i+j=args.length→∀(acc:Nm),
    ((∀(i':Nat) (v:AG) (x:AH),i≤i'→args[i']?=some v→f.params[i']?=some x→v.type_=x.type_∧chk v=true)→
     ∃n1,∀N k,n1≤N→n1≤k→EB N p args most mp f k acc (i:Int)=FH N p args most mp f (fun _ _=>Z) (Px (f.params.drop i) (args.drop i) acc) (args.length:Int))∧
    ((¬∀(i':Nat) (v:AG) (x:AH),i≤i'→args[i']?=some v→f.params[i']?=some x→v.type_=x.type_∧chk v=true)→
     ∃n1,∀N k,n1≤N→n1≤k→EB N p args most mp f k acc (i:Int)=some (Nx 40)):=by
   intro Z hlen2 j
   induction j with
   |zero=>
    intro i hi acc
    refine ⟨fun _=>⟨1,fun N k _ hk=>?_⟩,fun h=>absurd (fun i' v x hi' hv _=>by have:=(List.getElem?_eq_some_iff.1 hv).1;omega) h⟩
    obtain ⟨k,rfl⟩: ∃j,k=j+1:=⟨k - 1,by omega⟩
    show FH N p args most mp f (EB N p args most mp f k) acc i=_
    have e1:f.params.drop i=[]:=List.drop_eq_nil_of_le (by omega)
    have e2:args.drop i=[]:=List.drop_eq_nil_of_le (by omega)
    rw [e1,e2]
    unfold FH
    rw [show decide ((i:Int)< (args.length:Int))=false from decide_eq_false (by omega),show decide ((args.length:Int)< (args.length:Int))=false from decide_eq_false (by omega)]
    rfl
   |succ j ihj=>
    intro i hi acc
    obtain ⟨v,hv⟩: ∃v,args[i]?=some v:=⟨_,List.getElem?_eq_getElem (by omega)⟩
    obtain ⟨x,hx⟩: ∃x,f.params[i]?=some x:=⟨_,List.getElem?_eq_getElem (by omega)⟩
    have hg:=hA.1 v (List.mem_of_getElem? hv)
    have step: ∀N k,v.list.length+2≤N→EB N p args most mp f (k+1) acc (i:Int)=(bif (v.type_==x.type_&&chk v) then EB N p args most mp f k (.bind x.name (gv v) acc) ((i+1:Nat):Int) else some (Nx 40)):=by
     intro N k hN
     show FH N p args most mp f (EB N p args most mp f k) acc i=_
     unfold FH Kh
     rw [show decide ((i:Int)< (args.length:Int))=true from decide_eq_true (by omega),cond_true,B1 hv,Option.bind_some,B1 hx,Option.bind_some,My hg.1 hN,Option.bind_some,(U9 (v:=v) (N:=N) (by have:=hg.2;omega) hN).1,wr (by omega) (by omega),show (i:Int)+1=((i+1:Nat):Int) by omega,Option.bind_some,Option.bind_some]
     cases h1:(v.type_==x.type_)
     ·rw [show (v.type_ != x.type_)=true by simp only [bne,h1];rfl];rfl
     ·rw [show (v.type_ != x.type_)=false by simp only [bne,h1];rfl]
      cases chk v<;>rfl
    have ihh:=ihj (i+1) (by omega) (.bind x.name (gv v) acc)
    have heq:v.type_=x.type_∧chk v=true↔(v.type_==x.type_&&chk v)=true:=by simp
    have henv:Px (f.params.drop i) (args.drop i) acc=Px (f.params.drop (i+1)) (args.drop (i+1)) (.bind x.name (gv v) acc):=by rw [KS hx,KS hv];rfl
    constructor
    ·intro h
     have h0:=h i v x (Nat.le_refl _) hv hx
     obtain ⟨n1,hn1⟩:=ihh.1 fun i' w y hi' hw hy=>h i' w y (by omega) hw hy
     refine ⟨n1+v.list.length+3,fun N k hN hk=>?_⟩
     obtain ⟨k,rfl⟩: ∃j,k=j+1:=⟨k - 1,by omega⟩
     rw [step N k (by omega),heq.1 h0,cond_true,hn1 N k (by omega) (by omega),henv]
    ·intro h
     cases hc:(v.type_==x.type_&&chk v)
     ·refine ⟨v.list.length+3,fun N k hN hk=>?_⟩
      obtain ⟨k,rfl⟩: ∃j,k=j+1:=⟨k - 1,by omega⟩
      rw [step N k (by omega),hc];rfl
     ·obtain ⟨n1,hn1⟩:=ihh.2 fun h'=>h fun i' w y hi' hw hy=>by
       rcases Nat.eq_or_lt_of_le hi' with rfl|hlt
       ·rw [hv] at hw;cases hw;rw [hx] at hy;cases hy;exact heq.2 hc
       ·exact h' i' w y hlt hw hy
      refine ⟨n1+v.list.length+3,fun N k hN hk=>?_⟩
      obtain ⟨k,rfl⟩: ∃j,k=j+1:=⟨k - 1,by omega⟩
      rw [step N k (by omega),hc]
      exact hn1 N k (by omega) (by omega)
  rcases Classical.em (WZ f args) with hF|hF
  ·
   have hEnv:EOK p 1100000 f.params.reverse (Px f.params args .nil):=by
    have:=Zp (p:=p) (L:=1100000) f.params args [] .nil hF.1.symm .nil fun i x v hx hv=>by
     have h1:=hF.2 i v x hv hx
     have h2:=hA.1 v (List.mem_of_getElem? hv)
     exact ⟨h1.1,(X5 h2.1).1 h1.2,by omega⟩
    rwa [List.append_nil] at this
   obtain ⟨r,c,hr,hc,hv⟩:=ABI hp hS.2 (by omega) (Nat.le_refl 1100000) (RR most) hEnv (hS.2 f hfm) hfn.body hfn.typ
   refine ⟨_,.run hS hh hF hr hc hv,?_⟩
   obtain ⟨n1,hn1⟩:=(loopM none hF.1 args.length 0 (by omega) .nil).1 fun i v x _ hv hx=>hF.2 i v x hv hx
   have mean2:Ev fun N=>EE N p nm args most=FH N p args most mp f (fun _ _=>none) (Px f.params args .nil) (args.length:Int):=(mean1.and (L7 n1)).mono fun N hN=>by
    rw [hN.1,show ((args.length:Int) != (f.params.length:Int))=false by simp;have:=hF.1;omega,cond_false]
    exact hn1 N N hN.2 hN.2
   have hbt:b=true:=hb.2 hF
   have loopR: ∀(j i:Nat),i+j=args.length→∀(acc:Nm),∃n1,∀N k,n1≤N→n1≤k→IL N p args most (f,true) k acc (i:Int)=Fx N p args most (f,true) (fun _ _=>none) (Px (f.params.drop i) (args.drop i) acc) (args.length:Int):=by
    intro j
    induction j with
    |zero=>
     intro i hi acc
     refine ⟨1,fun N k _ hk=>?_⟩
     obtain ⟨k,rfl⟩: ∃j,k=j+1:=⟨k - 1,by omega⟩
     show Fx N p args most (f,true) (IL N p args most (f,true) k) acc i=_
     have e1:f.params.drop i=[]:=List.drop_eq_nil_of_le (by have:=hF.1;omega)
     have e2:args.drop i=[]:=List.drop_eq_nil_of_le (by omega)
     rw [e1,e2]
     unfold Fx
     rw [show decide ((i:Int)< (args.length:Int))=false from decide_eq_false (by omega),show decide ((args.length:Int)< (args.length:Int))=false from decide_eq_false (by omega)]
     rfl
    |succ j ihj=>
     intro i hi acc
     obtain ⟨v,hv⟩: ∃v,args[i]?=some v:=⟨_,List.getElem?_eq_getElem (by omega)⟩
     obtain ⟨x,hx⟩: ∃x,f.params[i]?=some x:=⟨_,List.getElem?_eq_getElem (by have:=hF.1;omega)⟩
     have hg:=hA.1 v (List.mem_of_getElem? hv)
     obtain ⟨n1,hn1⟩:=ihj (i+1) (by omega) (.bind x.name (gv v) acc)
     refine ⟨n1+v.list.length+3,fun N k hN hk=>?_⟩
     obtain ⟨k,rfl⟩: ∃j,k=j+1:=⟨k - 1,by omega⟩
     show Fx N p args most (f,true) (IL N p args most (f,true) k) acc i=_
     have henv:Px (f.params.drop i) (args.drop i) acc=Px (f.params.drop (i+1)) (args.drop (i+1)) (.bind x.name (gv v) acc):=by rw [KS hx,KS hv];rfl
     rw [henv,←hn1 N k (by omega) (by omega)]
     conv=>lhs;unfold Fx
     have hx':idx (f,true).1.params (i:Int)=some x:=B1 hx
     have hai:(i:Int)< (args.length:Int):=by omega
     have hfl:=hF.1
     rw [show decide ((i:Int)< (args.length:Int))=true from decide_eq_true hai,cond_true,hx',Option.bind_some,B1 hv,Option.bind_some,(U9 (v:=v) (N:=N) (by have:=hg.2;omega) (by omega)).2,Option.bind_some,wr (by omega) (by omega),show (i:Int)+1=((i+1:Nat):Int) by omega]
   obtain ⟨n2,hn2⟩:=loopR args.length 0 (by omega) .nil
   have ref2:Ev fun N=>Kz N p nm args most=Fx N p args most (f,true) (fun _ _=>none) (Px f.params args .nil) (args.length:Int):=(ref1.and (L7 n2)).mono fun N hN=>by
    rw [hN.1,hbt]
    exact hn2 N N hN.2 hN.2
   have hm:=RR most
   have dl:decide ((args.length:Int)< (args.length:Int))=false:=decide_eq_false (by omega)
   cases hr with
   |err h=>
    rename_i y
    have hy:=Ob h y rfl
    refine (((mean2.and ref2).and (Pq hp hmpp hm h)).and ((Vq hp hm h).and (L7 1))).mono fun N hN=>⟨?_,?_⟩
    ·rw [hN.1.1.1]
     unfold FH
     rw [dl,cond_false,PH,Py]
     have:=hN.1.2
     rw [show ((0:Nat):Int)=0 from rfl] at this
     rw [this];rfl
    ·rw [hN.1.1.2]
     unfold Fx
     rw [dl,cond_false,PH,Py]
     have:=hN.2.1
     rw [show ((0:Nat):Int)=0 from rfl] at this
     rw [this]
     obtain ⟨M,hM⟩: ∃M,N=M+1:=⟨N - 1,by have:=hN.2.2;omega⟩
     subst hM
     show ((HP (M+1) ⟨p,M1 most,c,y⟩ th0).bind fun x312=>_)=_
     unfold HP Fw
     rw [show ((Af.mk p (M1 most) c y).why==0)=false by simpa using hy,cond_false,cond_false]
     show ((Ds (M+1) (B0 (M+1) M) th0 p.funcs (M1 most) c y []).bind fun x312=>_)=_
     unfold Ds
     rw [show (y==0)=false by simpa using hy]
     show (bif (y != 0) then _ else _)=_
     rw [show (y != 0)=true by simpa using hy];rfl
   |val h h2=>
    rename_i x c1
    refine (((mean2.and ref2).and ((Pq hp hmpp hm h).and (US hp hmpp hm h2))).and ((Vq hp hm h).and (ABG hp hm h2))).mono fun N hN=>⟨?_,?_⟩
    ·rw [hN.1.1.1]
     unfold FH
     rw [dl,cond_false,PH,Py]
     have:=hN.1.2.1
     rw [show ((0:Nat):Int)=0 from rfl] at this
     rw [this]
     show ((Dr N p.funcs c1 (M1 most) mp x).bind fun x757=>_)=_
     rw [hN.1.2.2]
     cases r<;>rfl
    ·rw [hN.1.1.2]
     unfold Fx
     rw [dl,cond_false,PH,Py]
     have:=hN.2.1
     rw [show ((0:Nat):Int)=0 from rfl] at this
     rw [this]
     obtain ⟨v,hv1,hv2⟩:=hN.2.2
     show ((HP N ⟨p,M1 most,c1,0⟩ (.done x.plain x.head x.tail)).bind fun x312=>_)=_
     rw [hv1,Option.bind_some]
     cases r with
     |ok u=>rw [hv2 u rfl];rfl
     |error y=>
      have hy:y≠0:=by rcases hv with ⟨h,_⟩| ⟨h,_⟩<;>omega
      show (bif (y != 0) then _ else _)=_
      rw [show (y != 0)=true by simpa using hy];rfl
  ·
   have hbf:b=false:=by cases hbb:b;rfl;exact absurd (hb.1 hbb) hF
   refine ⟨_,.args hS hh hF,?_⟩
   rcases Decidable.em (args.length=f.params.length) with hl2|hl2
   ·obtain ⟨n1,hn1⟩:=(loopM none hl2 args.length 0 (by omega) .nil).2 fun h=>hF ⟨hl2,fun i v x hv hx=>h i v x (Nat.zero_le _) hv hx⟩
    refine ((mean1.and ref1).and (L7 n1)).mono fun N hN=>⟨?_,?_⟩
    ·rw [hN.1.1,show ((args.length:Int) != (f.params.length:Int))=false by simp;omega,cond_false]
     exact hn1 N N hN.2 hN.2
    ·rw [hN.1.2,hbf];rfl
   ·refine (mean1.and ref1).mono fun N hN=>⟨?_,?_⟩
    ·rw [hN.1,show ((args.length:Int) != (f.params.length:Int))=true by simp;omega];rfl
    ·rw [hN.2,hbf];rfl
end
end Fth
namespace Fth
open Go
def Rvv(v:AG):Prop:=v=v0∨(VV v.type_ v∧GV v)
theorem W4{v:AG}(h:Rvv v):Ev fun N=>Fc N v v=some true:=by
 rcases h with rfl| ⟨h,hg⟩
 ·refine Ev.all fun N=>?_
  have c0:ceq ((0,0):Nat×Nat) (0,0)=true:=by decide
  unfold Fc Im
  rw [show (v0.type_==0)=true from rfl,cond_true,cond_true,show v0.num=(0,0) from rfl,c0]
  rfl
 ·have ht:v.type_≠0:=by rcases h with ⟨e,_⟩| ⟨e,_⟩| ⟨e,_⟩<;>omega
  have hl:=hg.2.2
  refine (L7 (v.list.length+2)).mono fun N hN=>?_
  have cself: ∀z,Gn z→cne z z=false:=fun z hz=>by
   obtain ⟨n,hn,rfl⟩:=(QS z).1 hz
   have:=Xx hn hn
   simp only [decide_true,Bool.and_self] at this
   unfold ceq at this
   unfold cne
   rw [this];rfl
  have loop: ∀(k i:Nat),i≤v.list.length→v.list.length<i+k→IM v v k (i:Int)=some true:=by
   intro k
   induction k with
   |zero=>intro i _ _;omega
   |succ k ih=>
    intro i hi hk
    show Jg v v (IM v v k) i=_
    unfold Jg
    cases hc:decide ((i:Int)< (v.list.length:Int))
    ·rfl
    ·have hc:=CD hc
     obtain ⟨z,hz⟩: ∃z,v.list[i]?=some z:=⟨_,List.getElem?_eq_getElem (by omega)⟩
     rw [cond_true,B1 hz,Option.bind_some,Option.bind_some,cself z (hg.2.1 z (List.mem_of_getElem? hz)),cond_false,wr (by omega) (by omega),show (i:Int)+1=((i+1:Nat):Int) by omega]
     exact ih (i+1) (by omega) (by omega)
  have hch:=(X5 hg).2 h
  unfold Fc Im
  rw [show (v.type_==0)=false by simpa using ht,cond_false,cond_false]
  unfold IN Ga
  rw [LI hg hN,Option.bind_some,hch,Bool.not_true,cond_false,Option.bind_some,Bool.not_true,cond_false,show (v.type_ != v.type_)=false by simp,cond_false,cself v.num hg.1,cond_false,show (!(v.bool==v.bool))=false by simp,cond_false,show ((v.list.length:Int) != (v.list.length:Int))=false by simp,cond_false]
  have:=loop N 0 (by omega) (by omega)
  rw [show ((0:Nat):Int)=0 from rfl] at this
  rw [this];rfl
theorem Wa{r:Az}(h:Rvv r.value):Ev fun N=>GT N r r=some true:=by
 refine (W4 h).mono fun N hN=>?_
 unfold GT Gb
 rw [show (r.why==r.why)=true by simp,cond_true]
 show ((Fc N r.value r.value).bind fun x48=>_)=_
 rw [hN,Option.bind_some,cond_true,show (r.moves==r.moves)=true by simp,show (r.thunks==r.thunks)=true by simp,show (r.updates==r.updates)=true by simp,show (r.calls==r.calls)=true by simp]
 rfl
section
variable{p:AN}{nm:List UInt8}{args:List AG}{m:Nat}
theorem YU{r:Az}(h:Qk p nm args m r):Rvv r.value:=by
 cases h with
 |shape=>exact .inl rfl
 |func=>exact .inl rfl
 |args=>exact .inl rfl
 | @run f r c h hf ha hr hc hv=>
  cases r with
  |error y=>exact .inl rfl
  |ok v=>exact .inr ⟨hv.1.type▸hv.1,hv.1.gv (by have:=hv.2.2;omega)⟩
theorem JN{c:Nat}{e:AD}{ρ:Nm}{r:Except Int Ak}{c':Nat}(h:Lk p m c e ρ r c'):c≤c'∧(r≠ .error 60→c<c'):=by
 induction h with
 |fuel=>exact ⟨Nat.le_refl _,fun h=>absurd rfl h⟩
 |num=>exact ⟨by omega,fun _=>by omega⟩
 |tru=>exact ⟨by omega,fun _=>by omega⟩
 |fls=>exact ⟨by omega,fun _=>by omega⟩
 |nil=>exact ⟨by omega,fun _=>by omega⟩
 |fail=>exact ⟨by omega,fun _=>by omega⟩
 |vdone=>exact ⟨by omega,fun _=>by omega⟩
 |cons=>exact ⟨by omega,fun _=>by omega⟩
 |vlater _ _ _ _ ih=>exact ⟨by omega,fun _=>by omega⟩
 |call _ _ _ _ _ ih=>exact ⟨by omega,fun _=>by omega⟩
 |ifE _ _ _ _ ih=>exact ⟨by omega,fun _=>by omega⟩
 |ifT _ _ _ _ _ _ ih1 ih=>exact ⟨by omega,fun _=>by omega⟩
 |ifF _ _ _ _ _ _ ih1 ih=>exact ⟨by omega,fun _=>by omega⟩
 |caE _ _ _ _ ih=>exact ⟨by omega,fun _=>by omega⟩
 |caN _ _ _ _ _ _ ih1 ih=>exact ⟨by omega,fun _=>by omega⟩
 |caC _ _ _ _ _ _ ih1 ih=>exact ⟨by omega,fun _=>by omega⟩
 |lt _ _ _ _ ih=>exact ⟨by omega,fun _=>by omega⟩
 |stE _ _ _ _ ih=>exact ⟨by omega,fun _=>by omega⟩
 |stV _ _ _ _ _ ih1 ih=>exact ⟨by omega,fun _=>by omega⟩
 |unE _ _ _ _ ih=>exact ⟨by omega,fun _=>by omega⟩
 |un _ _ _ _ _ ih=>exact ⟨by omega,fun _=>by omega⟩
 |biE _ _ _ _ ih=>exact ⟨by omega,fun _=>by omega⟩
 |biE2 _ _ _ _ _ ih1 ih=>exact ⟨by omega,fun _=>by omega⟩
 |bi _ _ _ _ _ _ ih1 ih=>exact ⟨by omega,fun _=>by omega⟩
theorem KH{m' c:Nat}{e:AD}{ρ:Nm}{r:Except Int Ak}{c':Nat}(h:Lk p m c e ρ r c')(hr:r≠ .error 60)(hc:c'≤m'):Lk p m' c e ρ r c':=by
 induction h with
 |fuel=>exact absurd rfl hr
 |num _ ho=>exact .num (by omega) ho
 |tru _ ho=>exact .tru (by omega) ho
 |fls _ ho=>exact .fls (by omega) ho
 |nil _ ho=>exact .nil (by omega) ho
 |fail _ ho=>exact .fail (by omega) ho
 |vdone _ ho hf=>exact .vdone (by omega) ho hf
 |cons _ ho ha=>exact .cons (by omega) ho ha
 |vlater _ ho hf h1 ih=>have:=(JN h1).1;exact .vlater (by omega) ho hf (ih hr hc)
 |call _ ho hf hl h1 ih=>have:=(JN h1).1;exact .call (by omega) ho hf hl (ih hr hc)
 |ifE _ ho ha h1 ih=>have:=(JN h1).1;exact .ifE (by omega) ho ha (ih (fun e=>hr (by cases e;rfl)) hc)
 |ifT _ ho ha h1 hb h2 ih1 ih=>have:=(JN h1).1;have:=(JN h2).1;exact .ifT (by omega) ho ha (ih1 (fun e=>by cases e) (by omega)) hb (ih hr hc)
 |ifF _ ho ha h1 hb h2 ih1 ih=>have:=(JN h1).1;have:=(JN h2).1;exact .ifF (by omega) ho ha (ih1 (fun e=>by cases e) (by omega)) hb (ih hr hc)
 |caE _ ho ha h1 ih=>have:=(JN h1).1;exact .caE (by omega) ho ha (ih (fun e=>hr (by cases e;rfl)) hc)
 |caN _ ho ha h1 hb h2 ih1 ih=>have:=(JN h1).1;have:=(JN h2).1;exact .caN (by omega) ho ha (ih1 (fun e=>by cases e) (by omega)) hb (ih hr hc)
 |caC _ ho ha h1 hb h2 ih1 ih=>have:=(JN h1).1;have:=(JN h2).1;exact .caC (by omega) ho ha (ih1 (fun e=>by cases e) (by omega)) hb (ih hr hc)
 |lt _ ho ha h1 ih=>have:=(JN h1).1;exact .lt (by omega) ho ha (ih hr hc)
 |stE _ ho ha h1 ih=>have:=(JN h1).1;exact .stE (by omega) ho ha (ih (fun e=>hr (by cases e;rfl)) hc)
 |stV _ ho ha h1 h2 ih1 ih=>have:=(JN h1).1;have:=(JN h2).1;exact .stV (by omega) ho ha (ih1 (fun e=>by cases e) (by omega)) (ih hr hc)
 |unE _ ho ha h1 ih=>have:=(JN h1).1;exact .unE (by omega) ho ha (ih (fun e=>hr (by cases e;rfl)) hc)
 |un _ ho ha h1 hq ih=>have:=(JN h1).1;exact .un (by omega) ho ha (ih (fun e=>by cases e) hc) hq
 |biE _ ho ha h1 ih=>have:=(JN h1).1;exact .biE (by omega) ho ha (ih (fun e=>hr (by cases e;rfl)) hc)
 |biE2 _ ho ha h1 h2 ih1 ih=>have:=(JN h1).1;have:=(JN h2).1;exact .biE2 (by omega) ho ha (ih1 (fun e=>by cases e) (by omega)) (ih (fun e=>hr (by cases e;rfl)) hc)
 |bi _ ho ha h1 h2 hq ih1 ih=>have:=(JN h1).1;have:=(JN h2).1;exact .bi (by omega) ho ha (ih1 (fun e=>by cases e) (by omega)) (ih (fun e=>by cases e) hc) hq
theorem UV{m' c:Nat}{e:AD}{ρ:Nm}{r:Except Int Ak}{c':Nat}(h:Lk p m c e ρ r c')(h1:c≤m')(h2:m'<c'):Lk p m' c e ρ (.error 60) m':=by
 have z: ∀{c:Nat} {e:AD} {ρ:Nm},c≤m'→¬c<m'→Lk p m' c e ρ (.error 60) m':=fun {c e ρ} a b=>by
  have:m'=c:=by omega
  subst this;exact .fuel (Nat.le_refl _)
 induction h with
 |fuel=>omega
 |num _ ho=>exact z h1 (by omega)
 |tru _ ho=>exact z h1 (by omega)
 |fls _ ho=>exact z h1 (by omega)
 |nil _ ho=>exact z h1 (by omega)
 |fail _ ho=>exact z h1 (by omega)
 |vdone _ ho hf=>exact z h1 (by omega)
 |cons _ ho ha=>exact z h1 (by omega)
 | @vlater c e ρ e' ρ' r c' _ ho hf _ ih=>
  rcases Nat.lt_or_ge c m' with h|h
  ·exact .vlater h ho hf (ih (by omega) h2)
  ·exact z h1 (by omega)
 | @call c e ρ f r c' _ ho hf hl _ ih=>
  rcases Nat.lt_or_ge c m' with h|h
  ·exact .call h ho hf hl (ih (by omega) h2)
  ·exact z h1 (by omega)
 | @ifE c e ρ a b d y c' _ ho ha _ ih=>
  rcases Nat.lt_or_ge c m' with h|h
  ·exact .ifE h ho ha (ih (by omega) h2)
  ·exact z h1 (by omega)
 | @ifT c e ρ a b d x c1 r c' _ ho ha k1 hb k2 ih1 ih=>
  rcases Nat.lt_or_ge c m' with h|h
  ·rcases Nat.lt_or_ge m' c1 with h'|h'
   ·exact .ifE h ho ha (ih1 (by omega) h')
   ·exact .ifT h ho ha (KH k1 (fun e=>by cases e) h') hb (ih h' h2)
  ·exact z h1 (by omega)
 | @ifF c e ρ a b d x c1 r c' _ ho ha k1 hb k2 ih1 ih=>
  rcases Nat.lt_or_ge c m' with h|h
  ·rcases Nat.lt_or_ge m' c1 with h'|h'
   ·exact .ifE h ho ha (ih1 (by omega) h')
   ·exact .ifF h ho ha (KH k1 (fun e=>by cases e) h') hb (ih h' h2)
  ·exact z h1 (by omega)
 | @caE c e ρ a b d y c' _ ho ha _ ih=>
  rcases Nat.lt_or_ge c m' with h|h
  ·exact .caE h ho ha (ih (by omega) h2)
  ·exact z h1 (by omega)
 | @caN c e ρ a b d x c1 r c' _ ho ha k1 hb k2 ih1 ih=>
  rcases Nat.lt_or_ge c m' with h|h
  ·rcases Nat.lt_or_ge m' c1 with h'|h'
   ·exact .caE h ho ha (ih1 (by omega) h')
   ·exact .caN h ho ha (KH k1 (fun e=>by cases e) h') hb (ih h' h2)
  ·exact z h1 (by omega)
 | @caC c e ρ a b d x c1 r c' _ ho ha k1 hb k2 ih1 ih=>
  rcases Nat.lt_or_ge c m' with h|h
  ·rcases Nat.lt_or_ge m' c1 with h'|h'
   ·exact .caE h ho ha (ih1 (by omega) h')
   ·exact .caC h ho ha (KH k1 (fun e=>by cases e) h') hb (ih h' h2)
  ·exact z h1 (by omega)
 | @lt c e ρ a b r c' _ ho ha _ ih=>
  rcases Nat.lt_or_ge c m' with h|h
  ·exact .lt h ho ha (ih (by omega) h2)
  ·exact z h1 (by omega)
 | @stE c e ρ a b y c' _ ho ha _ ih=>
  rcases Nat.lt_or_ge c m' with h|h
  ·exact .stE h ho ha (ih (by omega) h2)
  ·exact z h1 (by omega)
 | @stV c e ρ a b x c1 r c' _ ho ha k1 k2 ih1 ih=>
  rcases Nat.lt_or_ge c m' with h|h
  ·rcases Nat.lt_or_ge m' c1 with h'|h'
   ·exact .stE h ho ha (ih1 (by omega) h')
   ·exact .stV h ho ha (KH k1 (fun e=>by cases e) h') (ih h' h2)
  ·exact z h1 (by omega)
 | @unE c e ρ a y c' _ ho ha _ ih=>
  rcases Nat.lt_or_ge c m' with h|h
  ·exact .unE h ho ha (ih (by omega) h2)
  ·exact z h1 (by omega)
 | @un c e ρ a x c' r _ ho ha _ _ ih=>
  rcases Nat.lt_or_ge c m' with h|h
  ·exact .unE h ho ha (ih (by omega) h2)
  ·exact z h1 (by omega)
 | @biE c e ρ a b y c' _ ho ha _ ih=>
  rcases Nat.lt_or_ge c m' with h|h
  ·exact .biE h ho ha (ih (by omega) h2)
  ·exact z h1 (by omega)
 | @biE2 c e ρ a b x c1 y c' _ ho ha k1 k2 ih1 ih=>
  rcases Nat.lt_or_ge c m' with h|h
  ·rcases Nat.lt_or_ge m' c1 with h'|h'
   ·exact .biE h ho ha (ih1 (by omega) h')
   ·exact .biE2 h ho ha (KH k1 (fun e=>by cases e) h') (ih h' h2)
  ·exact z h1 (by omega)
 | @bi c e ρ a b x c1 w c' r _ ho ha k1 k2 _ ih1 ih=>
  rcases Nat.lt_or_ge c m' with h|h
  ·rcases Nat.lt_or_ge m' c1 with h'|h'
   ·exact .biE h ho ha (ih1 (by omega) h')
   ·exact .biE2 h ho ha (KH k1 (fun e=>by cases e) h') (ih h' h2)
  ·exact z h1 (by omega)
theorem O3{c:Nat}{h:Th}{r:Except Int Ak}{c':Nat}(ht:Tg p m c h r c'):c≤c':=by
 cases ht with
 |done=>exact Nat.le_refl _
 |later h=>exact (JN h).1
theorem KI{m' c:Nat}{h:Th}{r:Except Int Ak}{c':Nat}(ht:Tg p m c h r c')(hr:r≠ .error 60)(hc:c'≤m'):Tg p m' c h r c':=by
 cases ht with
 |done=>exact .done
 |later h=>exact .later (KH h hr hc)
theorem NV{m' c:Nat}{h:Th}{r:Except Int Ak}{c':Nat}(ht:Tg p m c h r c')(h1:c≤m')(h2:m'<c'):Tg p m' c h (.error 60) m':=by
 cases ht with
 |done=>omega
 |later h=>exact .later (UV h h1 h2)
theorem Z0{c:Nat}{h t:Th}{acc:List (Nat×Nat)}{r:Except Int AG}{c':Nat}(hw:Wl p m c h t acc r c'):c≤c':=by
 induction hw with
 |hE _ h1=>exact O3 h1
 |tE _ h1 h2=>have:=O3 h1;have:=O3 h2;omega
 |stop _ h1 h2=>have:=O3 h1;have:=O3 h2;omega
 |go _ h1 h2 _ _ ih=>have:=O3 h1;have:=O3 h2;omega
theorem Zr{m' c:Nat}{h t:Th}{acc:List (Nat×Nat)}{r:Except Int AG}{c':Nat}(hw:Wl p m c h t acc r c')(hr:r≠ .error 60)(hc:c'≤m'):Wl p m' c h t acc r c':=by
 induction hw with
 |hE hb h1=>exact .hE hb (KI h1 (fun e=>hr (by cases e;rfl)) hc)
 |tE hb h1 h2=>have:=O3 h2;exact .tE hb (KI h1 (fun e=>by cases e) (by omega)) (KI h2 (fun e=>hr (by cases e;rfl)) hc)
 |stop hb h1 h2 hz=>have:=O3 h2;exact .stop hb (KI h1 (fun e=>by cases e) (by omega)) (KI h2 (fun e=>by cases e) hc) hz
 |go hb h1 h2 hz h3 ih=>have:=O3 h2;have:=Z0 h3;exact .go hb (KI h1 (fun e=>by cases e) (by omega)) (KI h2 (fun e=>by cases e) (by omega)) hz (ih hr hc)
theorem Zs{m' c:Nat}{h t:Th}{acc:List (Nat×Nat)}{r:Except Int AG}{c':Nat}(hw:Wl p m c h t acc r c')(h1:c≤m')(h2:m'<c'):Wl p m' c h t acc (.error 60) m':=by
 induction hw with
 |hE hb k1=>exact .hE hb (NV k1 h1 h2)
 | @tE c h t acc x c1 y c' hb k1 k2=>
  rcases Nat.lt_or_ge m' c1 with h'|h'
  ·exact .hE hb (NV k1 h1 h')
  ·exact .tE hb (KI k1 (fun e=>by cases e) h') (NV k2 h' h2)
 | @stop c h t acc x c1 z c' hb k1 k2 hz=>
  rcases Nat.lt_or_ge m' c1 with h'|h'
  ·exact .hE hb (NV k1 h1 h')
  ·exact .tE hb (KI k1 (fun e=>by cases e) h') (NV k2 h' h2)
 | @go c h t acc x c1 z c2 r c' hb k1 k2 hz k3 ih=>
  rcases Nat.lt_or_ge m' c1 with h'|h'
  ·exact .hE hb (NV k1 h1 h')
  ·rcases Nat.lt_or_ge m' c2 with h''|h''
   ·exact .tE hb (KI k1 (fun e=>by cases e) h') (NV k2 h' h'')
   ·exact .go hb (KI k1 (fun e=>by cases e) h') (KI k2 (fun e=>by cases e) h'') hz (ih h'' h2)
theorem Zt{m':Nat}{e:AD}{ρ:Nm}{r:Except Int AG}{c':Nat}(h:Rn p m e ρ r c')(hr:r≠ .error 60)(hc:c'≤m'):Rn p m' e ρ r c':=by
 cases h with
 |err h=>exact .err (KH h (fun e=>hr (by cases e;rfl)) hc)
 |val h h2=>
  cases h2 with
  |plain hx=>exact .val (KH h (fun e=>by cases e) hc) (.plain hx)
  |list hx h2=>exact .val (KH h (fun e=>by cases e) (by have:=Z0 h2;omega)) (.list hx (Zr h2 hr hc))
theorem Zu{m':Nat}{e:AD}{ρ:Nm}{r:Except Int AG}{c':Nat}(h:Rn p m e ρ r c')(h2:m'<c'):Rn p m' e ρ (.error 60) m':=by
 cases h with
 |err h=>exact .err (UV h (Nat.zero_le _) h2)
 |val h h3=>
  rename_i x c1
  rcases Nat.lt_or_ge m' c1 with h'|h'
  ·exact .err (UV h (Nat.zero_le _) h')
  ·cases h3 with
   |plain hx=>omega
   |list hx h3=>exact .val (KH h (fun e=>by cases e) h') (.list hx (Zs h3 h' h2))
end
end Fth
namespace Fth
open Go
class OL{α:Type}(x y:Option α):Prop where
 le: ∀a,x=some a→y=some a
class Up(N M:Nat):Prop where
 le:N≤M
instance OL.refl {α:Type} {x:Option α}:OL x x:=⟨fun _ h=>h⟩
theorem OL.none{α:Type}{x:Option α}:OL none x:=⟨fun _ h=>by cases h⟩
instance OL.bind {α β:Type} {x y:Option α} {f g:α→Option β} [h:OL x y] [k: ∀a,OL (f a) (g a)]:OL (x.bind f) (y.bind g):=⟨fun b hb=>by
 cases x with
 |none=>cases hb
 |some a=>rw [h.le a rfl];exact (k a).le b hb⟩
instance OL.cond {α:Type} {c:Bool} {x y x' y':Option α} [h1:OL x x'] [h2:OL y y']:OL (bif c then x else y) (bif c then x' else y'):=by
 cases c
 ·exact h2
 ·exact h1
theorem Up.go{P:Nat→Nat→Prop}(h0: ∀M,P 0 M)(hs: ∀n m [Up n m],P n m→P (n+1) (m+1)){N M:Nat}[h:Up N M]:P N M:=by
 have: ∀N M,N≤M→P N M:=by
  intro N
  induction N with
  |zero=>intro M _;exact h0 M
  |succ n ih=>
   intro M hM
   cases M with
   |zero=>exact absurd hM (Nat.not_succ_le_zero n)
   |succ m=>exact @hs n m ⟨Nat.le_of_succ_le_succ hM⟩ (ih m (Nat.le_of_succ_le_succ hM))
 exact this N M h.le
set_option linter.unusedVariables false
set_option synthInstance.maxHeartbeats 400000
set_option synthInstance.maxSize 4000
theorem YV{α0 β:Type}{f f':Nat→α0→Option β}(hs: ∀n m [Up n m] [∀y0,OL (f n y0) (f' m y0)] y0,OL (f (n+1) y0) (f' (m+1) y0))(h0: ∀y0,f 0 y0=none:=by intros;rfl){N M}[Up N M]{y0}:OL (f N y0) (f' M y0):=Up.go (P:=fun N M=>∀y0,OL (f N y0) (f' M y0)) (fun _ _=>by rw [h0];exact .none) (fun n m _ h=>@hs n m _ h) y0
theorem Ta{α0 α1 β:Type}{f f':Nat→α0→α1→Option β}(hs: ∀n m [Up n m] [∀y0 y1,OL (f n y0 y1) (f' m y0 y1)] y0 y1,OL (f (n+1) y0 y1) (f' (m+1) y0 y1))(h0: ∀y0 y1,f 0 y0 y1=none:=by intros;rfl){N M}[Up N M]{y0 y1}:OL (f N y0 y1) (f' M y0 y1):=Up.go (P:=fun N M=>∀y0 y1,OL (f N y0 y1) (f' M y0 y1)) (fun _ _ _=>by rw [h0];exact .none) (fun n m _ h=>@hs n m _ h) y0 y1
theorem ABa{α0 α1 α2 β:Type}{f f':Nat→α0→α1→α2→Option β}(hs: ∀n m [Up n m] [∀y0 y1 y2,OL (f n y0 y1 y2) (f' m y0 y1 y2)] y0 y1 y2,OL (f (n+1) y0 y1 y2) (f' (m+1) y0 y1 y2))(h0: ∀y0 y1 y2,f 0 y0 y1 y2=none:=by intros;rfl){N M}[Up N M]{y0 y1 y2}:OL (f N y0 y1 y2) (f' M y0 y1 y2):=Up.go (P:=fun N M=>∀y0 y1 y2,OL (f N y0 y1 y2) (f' M y0 y1 y2)) (fun _ _ _ _=>by rw [h0];exact .none) (fun n m _ h=>@hs n m _ h) y0 y1 y2
theorem ABb{α0 α1 α2 α3 β:Type}{f f':Nat→α0→α1→α2→α3→Option β}(hs: ∀n m [Up n m] [∀y0 y1 y2 y3,OL (f n y0 y1 y2 y3) (f' m y0 y1 y2 y3)] y0 y1 y2 y3,OL (f (n+1) y0 y1 y2 y3) (f' (m+1) y0 y1 y2 y3))(h0: ∀y0 y1 y2 y3,f 0 y0 y1 y2 y3=none:=by intros;rfl){N M}[Up N M]{y0 y1 y2 y3}:OL (f N y0 y1 y2 y3) (f' M y0 y1 y2 y3):=Up.go (P:=fun N M=>∀y0 y1 y2 y3,OL (f N y0 y1 y2 y3) (f' M y0 y1 y2 y3)) (fun _ _ _ _ _=>by rw [h0];exact .none) (fun n m _ h=>@hs n m _ h) y0 y1 y2 y3
instance {p0 p2} {s1 s1'} [∀x0,OL (s1 x0) (s1' x0)]:OL (Fn p0 s1 p2) (Fn p0 s1' p2):=by unfold Fn;infer_instance
instance {p0 p1 p3} {s2 s2'} [∀x0,OL (s2 x0) (s2' x0)]:OL (Fh p0 p1 s2 p3) (Fh p0 p1 s2' p3):=by unfold Fh;infer_instance
instance {p0 p1} {k j} [Up k j] {y0}:OL (D9 p0 p1 k y0) (D9 p0 p1 j y0):=YV fun n m _ _ y0=>inferInstanceAs (OL (Fh p0 p1 (D9 p0 p1 n) y0) (Fh p0 p1 (D9 p0 p1 m) y0))
instance {p1 p2} {N M} [Up N M]:OL (Hf N p1 p2) (Hf M p1 p2):=by unfold Hf;infer_instance
instance {p0 p1 p2 p3 p5} {s4 s4'} [∀x0 x1,OL (s4 x0 x1) (s4' x0 x1)]:OL (EH p0 p1 p2 p3 s4 p5) (EH p0 p1 p2 p3 s4' p5):=by unfold EH;infer_instance
instance {p0 p1 p3 p4} {s2 s2'} [∀x0 x1,OL (s2 x0 x1) (s2' x0 x1)]:OL (EY p0 p1 s2 p3 p4) (EY p0 p1 s2' p3 p4):=by unfold EY;infer_instance
instance {p0 p1} {k j} [Up k j] {y0 y1}:OL (Dz p0 p1 k y0 y1) (Dz p0 p1 j y0 y1):=Ta fun n m _ _ y0 y1=>inferInstanceAs (OL (EY p0 p1 (Dz p0 p1 n) y0 y1) (EY p0 p1 (Dz p0 p1 m) y0 y1))
instance {p1 p2} {N M} [Up N M]:OL (Hj N p1 p2) (Hj M p1 p2):=by unfold Hj;infer_instance
instance {p1 p2} {N M} [Up N M]:OL (Gi N p1 p2) (Gi M p1 p2):=by unfold Gi;infer_instance
instance {p1} {N M} [Up N M]:OL (EI N p1) (EI M p1):=by unfold EI;infer_instance
class A6.Le(φ ψ:A6):Prop where
 ref01_digits: ∀x0,OL (φ.ref01_digits x0) (ψ.ref01_digits x0)
attribute [instance] A6.Le.ref01_digits
instance {p2} {φ ψ} [A6.Le φ ψ] {N M} [Up N M]:OL (Cz φ N p2) (Cz ψ M p2):=by unfold Cz;infer_instance
instance {N M} [Up N M]:A6.Le (A6.at N) (A6.at M):=Up.go (P:=fun N M=>A6.Le (A6.at N) (A6.at M)) (fun _=>⟨fun _=> .none⟩) fun n m _ _=>⟨fun x0=>inferInstanceAs (OL (Cz (A6.at n) n x0) (Cz (A6.at m) m x0))⟩
instance {N M} [Up N M] {y0}:OL (ref01_digits N y0) (ref01_digits M y0):=A6.Le.ref01_digits _
instance {p1} {N M} [Up N M]:OL (FP N p1) (FP M p1):=by unfold FP;infer_instance
instance {p1 p2 p3} {N M} [Up N M]:OL (FA N p1 p2 p3) (FA M p1 p2 p3):=by unfold FA;infer_instance
instance {p1 p2 p3} {N M} [Up N M]:OL (Gk N p1 p2 p3) (Gk M p1 p2 p3):=by unfold Gk;infer_instance
instance {p1} {N M} [Up N M]:OL (D6 N p1) (D6 M p1):=by unfold D6;infer_instance
instance {p0 p1 p3} {s2 s2'} [∀x0,OL (s2 x0) (s2' x0)]:OL (DZ p0 p1 s2 p3) (DZ p0 p1 s2' p3):=by unfold DZ;infer_instance
instance {p0 p1} {k j} [Up k j] {y0}:OL (DM p0 p1 k y0) (DM p0 p1 j y0):=YV fun n m _ _ y0=>inferInstanceAs (OL (DZ p0 p1 (DM p0 p1 n) y0) (DZ p0 p1 (DM p0 p1 m) y0))
instance {p1} {N M} [Up N M]:OL (DN N p1) (DN M p1):=by unfold DN;infer_instance
instance {p1 p2 p3 p4 p5} {N M} [Up N M]:OL (HT N p1 p2 p3 p4 p5) (HT M p1 p2 p3 p4 p5):=by unfold HT;infer_instance
instance {p1 p2 p3 p4 p5} {N M} [Up N M]:OL (HU N p1 p2 p3 p4 p5) (HU M p1 p2 p3 p4 p5):=by unfold HU;infer_instance
instance {p1 p2} {N M} [Up N M]:OL (HC N p1 p2) (HC M p1 p2):=by unfold HC;infer_instance
instance {p0 p2 p4} {s1 s1'} [∀x0 x1,OL (s1 x0 x1) (s1' x0 x1)] {s3 s3'} [∀x0,OL (s3 x0) (s3' x0)]:OL (Gl p0 s1 p2 s3 p4) (Gl p0 s1' p2 s3' p4):=by unfold Gl;infer_instance
instance {p0 p1 p4} {s2 s2'} [∀x0 x1,OL (s2 x0 x1) (s2' x0 x1)] {s3 s3'} [∀x0,OL (s3 x0) (s3' x0)]:OL (EZ p0 p1 s2 s3 p4) (EZ p0 p1 s2' s3' p4):=by unfold EZ;infer_instance
instance {p0 p1} {s2 s2'} [∀x0 x1,OL (s2 x0 x1) (s2' x0 x1)] {k j} [Up k j] {y0}:OL (EJ p0 p1 s2 k y0) (EJ p0 p1 s2' j y0):=YV fun n m _ _ y0=>inferInstanceAs (OL (EZ p0 p1 s2 (EJ p0 p1 s2 n) y0) (EZ p0 p1 s2' (EJ p0 p1 s2' m) y0))
instance {p1 p3 p4} {N M} [Up N M] {s2 s2'} [∀x0 x1,OL (s2 x0 x1) (s2' x0 x1)]:OL (Ea N p1 s2 p3 p4) (Ea M p1 s2' p3 p4):=by unfold Ea;infer_instance
instance {p1} {N M} [Up N M] {k j} [Up k j] {y0 y1}:OL (DO N p1 k y0 y1) (DO M p1 j y0 y1):=Ta fun n m _ _ y0 y1=>inferInstanceAs (OL (Ea N p1 (DO N p1 n) y0 y1) (Ea M p1 (DO M p1 m) y0 y1))
instance {p1} {N M} [Up N M]:OL (FR N p1) (FR M p1):=by unfold FR;infer_instance
instance {p1 p2 p3 p4 p5 p6 p7 p8 p9 p10} {s0 s0'} [∀x0 x1 x2 x3 x4 x5 x6 x7 x8 x9,OL (s0 x0 x1 x2 x3 x4 x5 x6 x7 x8 x9) (s0' x0 x1 x2 x3 x4 x5 x6 x7 x8 x9)]:OL (Cr s0 p1 p2 p3 p4 p5 p6 p7 p8 p9 p10) (Cr s0' p1 p2 p3 p4 p5 p6 p7 p8 p9 p10):=by unfold Cr;infer_instance
instance {k j} [Up k j] {y0 y1 y2 y3 y4 y5 y6 y7 y8 y9}:OL (B3 k y0 y1 y2 y3 y4 y5 y6 y7 y8 y9) (B3 j y0 y1 y2 y3 y4 y5 y6 y7 y8 y9):=Up.go (P:=fun k j=>∀y0 y1 y2 y3 y4 y5 y6 y7 y8 y9,OL (B3 k y0 y1 y2 y3 y4 y5 y6 y7 y8 y9) (B3 j y0 y1 y2 y3 y4 y5 y6 y7 y8 y9)) (fun _ _ _ _ _ _ _ _ _ _ _=> .none) (fun n m _ _ y0 y1 y2 y3 y4 y5 y6 y7 y8 y9=>inferInstanceAs (OL (Cr (B3 n) y0 y1 y2 y3 y4 y5 y6 y7 y8 y9) (Cr (B3 m) y0 y1 y2 y3 y4 y5 y6 y7 y8 y9))) y0 y1 y2 y3 y4 y5 y6 y7 y8 y9
instance {p1} {N M} [Up N M]:OL (B4 N p1) (B4 M p1):=by unfold B4;infer_instance
class AC.Le(φ ψ:AC):Prop where
 ref04_reader_expr: ∀x0,OL (φ.ref04_reader_expr x0) (ψ.ref04_reader_expr x0)
 ref04_reader_cons: ∀x0,OL (φ.ref04_reader_cons x0) (ψ.ref04_reader_cons x0)
 ref04_reader_parts: ∀x0 x1,OL (φ.ref04_reader_parts x0 x1) (ψ.ref04_reader_parts x0 x1)
 ref04_reader_branches: ∀x0 x1,OL (φ.ref04_reader_branches x0 x1) (ψ.ref04_reader_branches x0 x1)
 ref04_reader_comp: ∀x0,OL (φ.ref04_reader_comp x0) (ψ.ref04_reader_comp x0)
 ref04_reader_sum: ∀x0,OL (φ.ref04_reader_sum x0) (ψ.ref04_reader_sum x0)
 ref04_reader_term: ∀x0,OL (φ.ref04_reader_term x0) (ψ.ref04_reader_term x0)
 ref04_reader_unit: ∀x0,OL (φ.ref04_reader_unit x0) (ψ.ref04_reader_unit x0)
 ref04_reader_named: ∀x0 x1,OL (φ.ref04_reader_named x0 x1) (ψ.ref04_reader_named x0 x1)
attribute [instance] AC.Le.ref04_reader_expr AC.Le.ref04_reader_cons AC.Le.ref04_reader_parts AC.Le.ref04_reader_branches AC.Le.ref04_reader_comp AC.Le.ref04_reader_sum AC.Le.ref04_reader_term AC.Le.ref04_reader_unit AC.Le.ref04_reader_named
instance {p2 p3 p4 p5 p6 p7 p8 p9 p10 p11 p12 p13} {φ ψ} [AC.Le φ ψ] {N M} [Up N M]:OL (DP φ N p2 p3 p4 p5 p6 p7 p8 p9 p10 p11 p12 p13) (DP ψ M p2 p3 p4 p5 p6 p7 p8 p9 p10 p11 p12 p13):=by unfold DP;infer_instance
instance {p2 p3 p4 p5 p6 p7 p8 p9 p10 p11 p12} {φ ψ} [AC.Le φ ψ] {N M} [Up N M]:OL (DQ φ N p2 p3 p4 p5 p6 p7 p8 p9 p10 p11 p12) (DQ ψ M p2 p3 p4 p5 p6 p7 p8 p9 p10 p11 p12):=by unfold DQ;infer_instance
instance {p2 p3 p4 p5 p6 p7 p8 p9 p10 p11 p12 p13} {φ ψ} [AC.Le φ ψ] {N M} [Up N M]:OL (DR φ N p2 p3 p4 p5 p6 p7 p8 p9 p10 p11 p12 p13) (DR ψ M p2 p3 p4 p5 p6 p7 p8 p9 p10 p11 p12 p13):=by unfold DR;infer_instance
instance {p2 p3 p4 p5 p6 p7 p8 p9 p10 p11 p12} {φ ψ} [AC.Le φ ψ] {N M} [Up N M]:OL (DS φ N p2 p3 p4 p5 p6 p7 p8 p9 p10 p11 p12) (DS ψ M p2 p3 p4 p5 p6 p7 p8 p9 p10 p11 p12):=by unfold DS;infer_instance
instance {p2 p3 p4 p5} {φ ψ} [AC.Le φ ψ] {N M} [Up N M]:OL (DT φ N p2 p3 p4 p5) (DT ψ M p2 p3 p4 p5):=by unfold DT;infer_instance
instance {p2 p3 p4} {φ ψ} [AC.Le φ ψ] {N M} [Up N M]:OL (Cs φ N p2 p3 p4) (Cs ψ M p2 p3 p4):=by unfold Cs;infer_instance
instance {p2} {φ ψ} [AC.Le φ ψ] {N M} [Up N M]:OL (Ce φ N p2) (Ce ψ M p2):=by unfold Ce;infer_instance
instance {p2} {φ ψ} [AC.Le φ ψ] {N M} [Up N M]:OL (Cf φ N p2) (Cf ψ M p2):=by unfold Cf;infer_instance
instance {p1 p2 p4 p5 p6 p7 p8 p9 p10 p11 p12} {φ ψ} [AC.Le φ ψ] {s3 s3'} [∀x0 x1 x2 x3 x4 x5 x6 x7 x8 x9 x10,OL (s3 x0 x1 x2 x3 x4 x5 x6 x7 x8 x9 x10) (s3' x0 x1 x2 x3 x4 x5 x6 x7 x8 x9 x10)]:OL (C9 φ p1 p2 s3 p4 p5 p6 p7 p8 p9 p10 p11 p12) (C9 ψ p1 p2 s3' p4 p5 p6 p7 p8 p9 p10 p11 p12):=by unfold C9;infer_instance
instance {p1 p3 p4 p5 p6 p7 p8 p9 p10 p11 p12 p13} {φ ψ} [AC.Le φ ψ] {s2 s2'} [∀x0 x1 x2 x3 x4 x5 x6 x7 x8 x9 x10,OL (s2 x0 x1 x2 x3 x4 x5 x6 x7 x8 x9 x10) (s2' x0 x1 x2 x3 x4 x5 x6 x7 x8 x9 x10)]:OL (CL φ p1 s2 p3 p4 p5 p6 p7 p8 p9 p10 p11 p12 p13) (CL ψ p1 s2' p3 p4 p5 p6 p7 p8 p9 p10 p11 p12 p13):=by unfold CL;infer_instance
instance {p1} {φ ψ} [AC.Le φ ψ] {k j} [Up k j] {y0 y1 y2 y3 y4 y5 y6 y7 y8 y9 y10}:OL (BU φ p1 k y0 y1 y2 y3 y4 y5 y6 y7 y8 y9 y10) (BU ψ p1 j y0 y1 y2 y3 y4 y5 y6 y7 y8 y9 y10):=Up.go (P:=fun k j=>∀y0 y1 y2 y3 y4 y5 y6 y7 y8 y9 y10,OL (BU φ p1 k y0 y1 y2 y3 y4 y5 y6 y7 y8 y9 y10) (BU ψ p1 j y0 y1 y2 y3 y4 y5 y6 y7 y8 y9 y10)) (fun _ _ _ _ _ _ _ _ _ _ _ _=> .none) (fun n m _ _ y0 y1 y2 y3 y4 y5 y6 y7 y8 y9 y10=>inferInstanceAs (OL (CL φ p1 (BU φ p1 n) y0 y1 y2 y3 y4 y5 y6 y7 y8 y9 y10) (CL ψ p1 (BU ψ p1 m) y0 y1 y2 y3 y4 y5 y6 y7 y8 y9 y10))) y0 y1 y2 y3 y4 y5 y6 y7 y8 y9 y10
instance {p2 p3} {φ ψ} [AC.Le φ ψ] {N M} [Up N M]:OL (CO φ N p2 p3) (CO ψ M p2 p3):=by unfold CO;infer_instance
instance {p2 p3} {φ ψ} [AC.Le φ ψ] {N M} [Up N M]:OL (Bm φ N p2 p3) (Bm ψ M p2 p3):=by unfold Bm;infer_instance
instance {p1 p2 p3 p4 p5 p6 p7 p8 p9 p10 p11 p12 p13} {φ ψ} [AC.Le φ ψ]:OL (Dt φ p1 p2 p3 p4 p5 p6 p7 p8 p9 p10 p11 p12 p13) (Dt ψ p1 p2 p3 p4 p5 p6 p7 p8 p9 p10 p11 p12 p13):=by unfold Dt;infer_instance
instance {p1 p2 p3} {φ ψ} [AC.Le φ ψ]:OL (DU φ p1 p2 p3) (DU ψ p1 p2 p3):=by unfold DU;infer_instance
instance {p2} {φ ψ} [AC.Le φ ψ] {N M} [Up N M]:OL (Cg φ N p2) (Cg ψ M p2):=by unfold Cg;infer_instance
instance {p0 p1 p2 p3 p4 p5 p6 p8 p9 p10} {s7 s7'} [∀x0 x1 x2 x3 x4 x5 x6 x7 x8 x9 x10 x11 x12 x13 x14 x15,OL (s7 x0 x1 x2 x3 x4 x5 x6 x7 x8 x9 x10 x11 x12 x13 x14 x15) (s7' x0 x1 x2 x3 x4 x5 x6 x7 x8 x9 x10 x11 x12 x13 x14 x15)]:OL (Dj p0 p1 p2 p3 p4 p5 p6 s7 p8 p9 p10) (Dj p0 p1 p2 p3 p4 p5 p6 s7' p8 p9 p10):=by unfold Dj;infer_instance
instance {p1 p2 p3 p4 p5 p6 p7 p8 p9 p10 p11 p12 p13 p14 p15 p16 p18} {φ ψ} [AC.Le φ ψ] {s17 s17'} [∀x0 x1 x2 x3 x4 x5 x6 x7 x8 x9 x10 x11 x12 x13 x14 x15,OL (s17 x0 x1 x2 x3 x4 x5 x6 x7 x8 x9 x10 x11 x12 x13 x14 x15) (s17' x0 x1 x2 x3 x4 x5 x6 x7 x8 x9 x10 x11 x12 x13 x14 x15)]:OL (Dk φ p1 p2 p3 p4 p5 p6 p7 p8 p9 p10 p11 p12 p13 p14 p15 p16 s17 p18) (Dk ψ p1 p2 p3 p4 p5 p6 p7 p8 p9 p10 p11 p12 p13 p14 p15 p16 s17' p18):=by unfold Dk;infer_instance
instance {p2 p3 p4 p5 p6 p7 p8 p9 p10 p11 p12 p13 p14 p15 p16 p17} {φ ψ} [AC.Le φ ψ] {s1 s1'} [∀x0 x1 x2 x3 x4 x5 x6 x7 x8 x9 x10 x11 x12 x13 x14 x15,OL (s1 x0 x1 x2 x3 x4 x5 x6 x7 x8 x9 x10 x11 x12 x13 x14 x15) (s1' x0 x1 x2 x3 x4 x5 x6 x7 x8 x9 x10 x11 x12 x13 x14 x15)]:OL (Ct φ s1 p2 p3 p4 p5 p6 p7 p8 p9 p10 p11 p12 p13 p14 p15 p16 p17) (Ct ψ s1' p2 p3 p4 p5 p6 p7 p8 p9 p10 p11 p12 p13 p14 p15 p16 p17):=by unfold Ct;infer_instance
instance {φ ψ} [AC.Le φ ψ] {k j} [Up k j] {y0 y1 y2 y3 y4 y5 y6 y7 y8 y9 y10 y11 y12 y13 y14 y15}:OL (BZ φ k y0 y1 y2 y3 y4 y5 y6 y7 y8 y9 y10 y11 y12 y13 y14 y15) (BZ ψ j y0 y1 y2 y3 y4 y5 y6 y7 y8 y9 y10 y11 y12 y13 y14 y15):=Up.go (P:=fun k j=>∀y0 y1 y2 y3 y4 y5 y6 y7 y8 y9 y10 y11 y12 y13 y14 y15,OL (BZ φ k y0 y1 y2 y3 y4 y5 y6 y7 y8 y9 y10 y11 y12 y13 y14 y15) (BZ ψ j y0 y1 y2 y3 y4 y5 y6 y7 y8 y9 y10 y11 y12 y13 y14 y15)) (fun _ _ _ _ _ _ _ _ _ _ _ _ _ _ _ _ _=> .none) (fun n m _ _ y0 y1 y2 y3 y4 y5 y6 y7 y8 y9 y10 y11 y12 y13 y14 y15=>inferInstanceAs (OL (Ct φ (BZ φ n) y0 y1 y2 y3 y4 y5 y6 y7 y8 y9 y10 y11 y12 y13 y14 y15) (Ct ψ (BZ ψ m) y0 y1 y2 y3 y4 y5 y6 y7 y8 y9 y10 y11 y12 y13 y14 y15))) y0 y1 y2 y3 y4 y5 y6 y7 y8 y9 y10 y11 y12 y13 y14 y15
instance {p2} {φ ψ} [AC.Le φ ψ] {N M} [Up N M]:OL (C7 φ N p2) (C7 ψ M p2):=by unfold C7;infer_instance
instance {p0 p1 p2 p3 p4 p5 p6 p8 p9 p10} {s7 s7'} [∀x0 x1 x2 x3 x4 x5 x6 x7 x8 x9 x10 x11 x12 x13 x14 x15,OL (s7 x0 x1 x2 x3 x4 x5 x6 x7 x8 x9 x10 x11 x12 x13 x14 x15) (s7' x0 x1 x2 x3 x4 x5 x6 x7 x8 x9 x10 x11 x12 x13 x14 x15)]:OL (DV p0 p1 p2 p3 p4 p5 p6 s7 p8 p9 p10) (DV p0 p1 p2 p3 p4 p5 p6 s7' p8 p9 p10):=by unfold DV;infer_instance
instance {p1 p2 p3 p4 p5 p6 p7 p8 p9 p10 p11 p12 p13 p14 p15 p16 p18} {φ ψ} [AC.Le φ ψ] {s17 s17'} [∀x0 x1 x2 x3 x4 x5 x6 x7 x8 x9 x10 x11 x12 x13 x14 x15,OL (s17 x0 x1 x2 x3 x4 x5 x6 x7 x8 x9 x10 x11 x12 x13 x14 x15) (s17' x0 x1 x2 x3 x4 x5 x6 x7 x8 x9 x10 x11 x12 x13 x14 x15)]:OL (DW φ p1 p2 p3 p4 p5 p6 p7 p8 p9 p10 p11 p12 p13 p14 p15 p16 s17 p18) (DW ψ p1 p2 p3 p4 p5 p6 p7 p8 p9 p10 p11 p12 p13 p14 p15 p16 s17' p18):=by unfold DW;infer_instance
instance {p2 p3 p4 p5 p6 p7 p8 p9 p10 p11 p12 p13 p14 p15 p16 p17} {φ ψ} [AC.Le φ ψ] {s1 s1'} [∀x0 x1 x2 x3 x4 x5 x6 x7 x8 x9 x10 x11 x12 x13 x14 x15,OL (s1 x0 x1 x2 x3 x4 x5 x6 x7 x8 x9 x10 x11 x12 x13 x14 x15) (s1' x0 x1 x2 x3 x4 x5 x6 x7 x8 x9 x10 x11 x12 x13 x14 x15)]:OL (CV φ s1 p2 p3 p4 p5 p6 p7 p8 p9 p10 p11 p12 p13 p14 p15 p16 p17) (CV ψ s1' p2 p3 p4 p5 p6 p7 p8 p9 p10 p11 p12 p13 p14 p15 p16 p17):=by unfold CV;infer_instance
instance {φ ψ} [AC.Le φ ψ] {k j} [Up k j] {y0 y1 y2 y3 y4 y5 y6 y7 y8 y9 y10 y11 y12 y13 y14 y15}:OL (BS φ k y0 y1 y2 y3 y4 y5 y6 y7 y8 y9 y10 y11 y12 y13 y14 y15) (BS ψ j y0 y1 y2 y3 y4 y5 y6 y7 y8 y9 y10 y11 y12 y13 y14 y15):=Up.go (P:=fun k j=>∀y0 y1 y2 y3 y4 y5 y6 y7 y8 y9 y10 y11 y12 y13 y14 y15,OL (BS φ k y0 y1 y2 y3 y4 y5 y6 y7 y8 y9 y10 y11 y12 y13 y14 y15) (BS ψ j y0 y1 y2 y3 y4 y5 y6 y7 y8 y9 y10 y11 y12 y13 y14 y15)) (fun _ _ _ _ _ _ _ _ _ _ _ _ _ _ _ _ _=> .none) (fun n m _ _ y0 y1 y2 y3 y4 y5 y6 y7 y8 y9 y10 y11 y12 y13 y14 y15=>inferInstanceAs (OL (CV φ (BS φ n) y0 y1 y2 y3 y4 y5 y6 y7 y8 y9 y10 y11 y12 y13 y14 y15) (CV ψ (BS ψ m) y0 y1 y2 y3 y4 y5 y6 y7 y8 y9 y10 y11 y12 y13 y14 y15))) y0 y1 y2 y3 y4 y5 y6 y7 y8 y9 y10 y11 y12 y13 y14 y15
instance {p2} {φ ψ} [AC.Le φ ψ] {N M} [Up N M]:OL (Ch φ N p2) (Ch ψ M p2):=by unfold Ch;infer_instance
instance {p1 p2 p3 p4 p5 p6 p7 p8} {φ ψ} [AC.Le φ ψ]:OL (B5 φ p1 p2 p3 p4 p5 p6 p7 p8) (B5 ψ p1 p2 p3 p4 p5 p6 p7 p8):=by unfold B5;infer_instance
instance {p2 p3 p4 p5 p6 p7 p8} {φ ψ} [AC.Le φ ψ] {N M} [Up N M]:OL (EM φ N p2 p3 p4 p5 p6 p7 p8) (EM ψ M p2 p3 p4 p5 p6 p7 p8):=by unfold EM;infer_instance
instance {p2 p3 p4} {φ ψ} [AC.Le φ ψ] {N M} [Up N M]:OL (Cu φ N p2 p3 p4) (Cu ψ M p2 p3 p4):=by unfold Cu;infer_instance
instance {p2} {φ ψ} [AC.Le φ ψ] {N M} [Up N M]:OL (Ci φ N p2) (Ci ψ M p2):=by unfold Ci;infer_instance
instance {p1 p3 p4 p5 p6 p7 p8 p9 p10 p11} {φ ψ} [AC.Le φ ψ] {s2 s2'} [∀x0 x1 x2 x3 x4 x5 x6 x7 x8 x9,OL (s2 x0 x1 x2 x3 x4 x5 x6 x7 x8 x9) (s2' x0 x1 x2 x3 x4 x5 x6 x7 x8 x9)]:OL (DA φ p1 s2 p3 p4 p5 p6 p7 p8 p9 p10 p11) (DA ψ p1 s2' p3 p4 p5 p6 p7 p8 p9 p10 p11):=by unfold DA;infer_instance
instance {p1 p2 p3 p4 p5 p6 p7 p8 p9 p10 p11 p13} {φ ψ} [AC.Le φ ψ] {s12 s12'} [∀x0 x1 x2 x3 x4 x5 x6 x7 x8 x9,OL (s12 x0 x1 x2 x3 x4 x5 x6 x7 x8 x9) (s12' x0 x1 x2 x3 x4 x5 x6 x7 x8 x9)]:OL (DB φ p1 p2 p3 p4 p5 p6 p7 p8 p9 p10 p11 s12 p13) (DB ψ p1 p2 p3 p4 p5 p6 p7 p8 p9 p10 p11 s12' p13):=by unfold DB;infer_instance
instance {p1 p3 p4 p5 p6 p7 p8 p9 p10 p11 p12} {φ ψ} [AC.Le φ ψ] {s2 s2'} [∀x0 x1 x2 x3 x4 x5 x6 x7 x8 x9,OL (s2 x0 x1 x2 x3 x4 x5 x6 x7 x8 x9) (s2' x0 x1 x2 x3 x4 x5 x6 x7 x8 x9)]:OL (CM φ p1 s2 p3 p4 p5 p6 p7 p8 p9 p10 p11 p12) (CM ψ p1 s2' p3 p4 p5 p6 p7 p8 p9 p10 p11 p12):=by unfold CM;infer_instance
instance {p1} {φ ψ} [AC.Le φ ψ] {k j} [Up k j] {y0 y1 y2 y3 y4 y5 y6 y7 y8 y9}:OL (BP φ p1 k y0 y1 y2 y3 y4 y5 y6 y7 y8 y9) (BP ψ p1 j y0 y1 y2 y3 y4 y5 y6 y7 y8 y9):=Up.go (P:=fun k j=>∀y0 y1 y2 y3 y4 y5 y6 y7 y8 y9,OL (BP φ p1 k y0 y1 y2 y3 y4 y5 y6 y7 y8 y9) (BP ψ p1 j y0 y1 y2 y3 y4 y5 y6 y7 y8 y9)) (fun _ _ _ _ _ _ _ _ _ _ _=> .none) (fun n m _ _ y0 y1 y2 y3 y4 y5 y6 y7 y8 y9=>inferInstanceAs (OL (CM φ p1 (BP φ p1 n) y0 y1 y2 y3 y4 y5 y6 y7 y8 y9) (CM ψ p1 (BP ψ p1 m) y0 y1 y2 y3 y4 y5 y6 y7 y8 y9))) y0 y1 y2 y3 y4 y5 y6 y7 y8 y9
instance {p2 p3} {φ ψ} [AC.Le φ ψ] {N M} [Up N M]:OL (CP φ N p2 p3) (CP ψ M p2 p3):=by unfold CP;infer_instance
instance {N M} [Up N M]:AC.Le (AC.at N) (AC.at M):=Up.go (P:=fun N M=>AC.Le (AC.at N) (AC.at M)) (fun _=>⟨fun _=> .none,fun _=> .none,fun _ _=> .none,fun _ _=> .none,fun _=> .none,fun _=> .none,fun _=> .none,fun _=> .none,fun _ _=> .none⟩) fun n m _ _=>⟨fun x0=>inferInstanceAs (OL (Ce (AC.at n) n x0) (Ce (AC.at m) m x0)),fun x0=>inferInstanceAs (OL (Cf (AC.at n) n x0) (Cf (AC.at m) m x0)),fun x0 x1=>inferInstanceAs (OL (CO (AC.at n) n x0 x1) (CO (AC.at m) m x0 x1)),fun x0 x1=>inferInstanceAs (OL (Bm (AC.at n) n x0 x1) (Bm (AC.at m) m x0 x1)),fun x0=>inferInstanceAs (OL (Cg (AC.at n) n x0) (Cg (AC.at m) m x0)),fun x0=>inferInstanceAs (OL (C7 (AC.at n) n x0) (C7 (AC.at m) m x0)),fun x0=>inferInstanceAs (OL (Ch (AC.at n) n x0) (Ch (AC.at m) m x0)),fun x0=>inferInstanceAs (OL (Ci (AC.at n) n x0) (Ci (AC.at m) m x0)),fun x0 x1=>inferInstanceAs (OL (CP (AC.at n) n x0 x1) (CP (AC.at m) m x0 x1))⟩
instance {N M} [Up N M] {y0}:OL (ref04_reader_expr N y0) (ref04_reader_expr M y0):=AC.Le.ref04_reader_expr _
instance {N M} [Up N M] {y0}:OL (ref04_reader_cons N y0) (ref04_reader_cons M y0):=AC.Le.ref04_reader_cons _
instance {N M} [Up N M] {y0 y1}:OL (ref04_reader_parts N y0 y1) (ref04_reader_parts M y0 y1):=AC.Le.ref04_reader_parts _ _
instance {N M} [Up N M] {y0 y1}:OL (ref04_reader_branches N y0 y1) (ref04_reader_branches M y0 y1):=AC.Le.ref04_reader_branches _ _
instance {N M} [Up N M] {y0}:OL (ref04_reader_comp N y0) (ref04_reader_comp M y0):=AC.Le.ref04_reader_comp _
instance {N M} [Up N M] {y0}:OL (ref04_reader_sum N y0) (ref04_reader_sum M y0):=AC.Le.ref04_reader_sum _
instance {N M} [Up N M] {y0}:OL (ref04_reader_term N y0) (ref04_reader_term M y0):=AC.Le.ref04_reader_term _
instance {N M} [Up N M] {y0}:OL (ref04_reader_unit N y0) (ref04_reader_unit M y0):=AC.Le.ref04_reader_unit _
instance {N M} [Up N M] {y0 y1}:OL (ref04_reader_named N y0 y1) (ref04_reader_named M y0 y1):=AC.Le.ref04_reader_named _ _
instance {p1 p3 p4 p5 p6 p7 p8 p9 p10 p11} {N M} [Up N M] {s2 s2'} [∀x0 x1 x2 x3 x4 x5 x6 x7 x8 x9,OL (s2 x0 x1 x2 x3 x4 x5 x6 x7 x8 x9) (s2' x0 x1 x2 x3 x4 x5 x6 x7 x8 x9)]:OL (Dl N p1 s2 p3 p4 p5 p6 p7 p8 p9 p10 p11) (Dl M p1 s2' p3 p4 p5 p6 p7 p8 p9 p10 p11):=by unfold Dl;infer_instance
instance {p1 p3 p4 p5 p6 p7 p8 p9 p10 p11 p12} {N M} [Up N M] {s2 s2'} [∀x0 x1 x2 x3 x4 x5 x6 x7 x8 x9,OL (s2 x0 x1 x2 x3 x4 x5 x6 x7 x8 x9) (s2' x0 x1 x2 x3 x4 x5 x6 x7 x8 x9)]:OL (DF N p1 s2 p3 p4 p5 p6 p7 p8 p9 p10 p11 p12) (DF M p1 s2' p3 p4 p5 p6 p7 p8 p9 p10 p11 p12):=by unfold DF;infer_instance
instance {p1 p3 p4 p5 p6 p7 p8 p9 p10 p11} {N M} [Up N M] {s2 s2'} [∀x0 x1 x2 x3 x4 x5 x6 x7 x8 x9,OL (s2 x0 x1 x2 x3 x4 x5 x6 x7 x8 x9) (s2' x0 x1 x2 x3 x4 x5 x6 x7 x8 x9)]:OL (Dm N p1 s2 p3 p4 p5 p6 p7 p8 p9 p10 p11) (Dm M p1 s2' p3 p4 p5 p6 p7 p8 p9 p10 p11):=by unfold Dm;infer_instance
instance {p1 p2 p3 p4 p5 p6 p7 p8 p9 p10 p11 p13} {N M} [Up N M] {s12 s12'} [∀x0 x1 x2 x3 x4 x5 x6 x7 x8 x9,OL (s12 x0 x1 x2 x3 x4 x5 x6 x7 x8 x9) (s12' x0 x1 x2 x3 x4 x5 x6 x7 x8 x9)]:OL (DG N p1 p2 p3 p4 p5 p6 p7 p8 p9 p10 p11 s12 p13) (DG M p1 p2 p3 p4 p5 p6 p7 p8 p9 p10 p11 s12' p13):=by unfold DG;infer_instance
instance {p1 p3 p4 p5 p6 p7 p8 p9 p10 p11 p12} {N M} [Up N M] {s2 s2'} [∀x0 x1 x2 x3 x4 x5 x6 x7 x8 x9,OL (s2 x0 x1 x2 x3 x4 x5 x6 x7 x8 x9) (s2' x0 x1 x2 x3 x4 x5 x6 x7 x8 x9)]:OL (Cv N p1 s2 p3 p4 p5 p6 p7 p8 p9 p10 p11 p12) (Cv M p1 s2' p3 p4 p5 p6 p7 p8 p9 p10 p11 p12):=by unfold Cv;infer_instance
instance {p1} {N M} [Up N M] {k j} [Up k j] {y0 y1 y2 y3 y4 y5 y6 y7 y8 y9}:OL (BO N p1 k y0 y1 y2 y3 y4 y5 y6 y7 y8 y9) (BO M p1 j y0 y1 y2 y3 y4 y5 y6 y7 y8 y9):=Up.go (P:=fun k j=>∀y0 y1 y2 y3 y4 y5 y6 y7 y8 y9,OL (BO N p1 k y0 y1 y2 y3 y4 y5 y6 y7 y8 y9) (BO M p1 j y0 y1 y2 y3 y4 y5 y6 y7 y8 y9)) (fun _ _ _ _ _ _ _ _ _ _ _=> .none) (fun n m _ _ y0 y1 y2 y3 y4 y5 y6 y7 y8 y9=>inferInstanceAs (OL (Cv N p1 (BO N p1 n) y0 y1 y2 y3 y4 y5 y6 y7 y8 y9) (Cv M p1 (BO M p1 m) y0 y1 y2 y3 y4 y5 y6 y7 y8 y9))) y0 y1 y2 y3 y4 y5 y6 y7 y8 y9
instance {p1 p2 p3 p4 p5 p6 p7 p8 p9} {N M} [Up N M]:OL (Dn N p1 p2 p3 p4 p5 p6 p7 p8 p9) (Dn M p1 p2 p3 p4 p5 p6 p7 p8 p9):=by unfold Dn;infer_instance
instance {p1 p2} {N M} [Up N M]:OL (Do N p1 p2) (Do M p1 p2):=by unfold Do;infer_instance
instance {p1 p2} {N M} [Up N M]:OL (CU N p1 p2) (CU M p1 p2):=by unfold CU;infer_instance
instance {p1 p2 p3 p4 p5 p6 p7 p8 p9 p10 p12} {N M} [Up N M] {s11 s11'} [∀x0 x1 x2 x3 x4 x5 x6 x7 x8 x9,OL (s11 x0 x1 x2 x3 x4 x5 x6 x7 x8 x9) (s11' x0 x1 x2 x3 x4 x5 x6 x7 x8 x9)]:OL (Bn N p1 p2 p3 p4 p5 p6 p7 p8 p9 p10 s11 p12) (Bn M p1 p2 p3 p4 p5 p6 p7 p8 p9 p10 s11' p12):=by unfold Bn;infer_instance
instance {p2 p3 p4 p5 p6 p7 p8 p9 p10 p11} {N M} [Up N M] {s1 s1'} [∀x0 x1 x2 x3 x4 x5 x6 x7 x8 x9,OL (s1 x0 x1 x2 x3 x4 x5 x6 x7 x8 x9) (s1' x0 x1 x2 x3 x4 x5 x6 x7 x8 x9)]:OL (Bw N s1 p2 p3 p4 p5 p6 p7 p8 p9 p10 p11) (Bw M s1' p2 p3 p4 p5 p6 p7 p8 p9 p10 p11):=by unfold Bw;infer_instance
instance {N M} [Up N M] {k j} [Up k j] {y0 y1 y2 y3 y4 y5 y6 y7 y8 y9}:OL (BI N k y0 y1 y2 y3 y4 y5 y6 y7 y8 y9) (BI M j y0 y1 y2 y3 y4 y5 y6 y7 y8 y9):=Up.go (P:=fun k j=>∀y0 y1 y2 y3 y4 y5 y6 y7 y8 y9,OL (BI N k y0 y1 y2 y3 y4 y5 y6 y7 y8 y9) (BI M j y0 y1 y2 y3 y4 y5 y6 y7 y8 y9)) (fun _ _ _ _ _ _ _ _ _ _ _=> .none) (fun n m _ _ y0 y1 y2 y3 y4 y5 y6 y7 y8 y9=>inferInstanceAs (OL (Bw N (BI N n) y0 y1 y2 y3 y4 y5 y6 y7 y8 y9) (Bw M (BI M m) y0 y1 y2 y3 y4 y5 y6 y7 y8 y9))) y0 y1 y2 y3 y4 y5 y6 y7 y8 y9
instance {p1} {N M} [Up N M]:OL (Bd N p1) (Bd M p1):=by unfold Bd;infer_instance
instance {p1 p2} {N M} [Up N M]:OL (E4 N p1 p2) (E4 M p1 p2):=by unfold E4;infer_instance
instance {p0 p2 p3} {s1 s1'} [∀x0 x1 x2,OL (s1 x0 x1 x2) (s1' x0 x1 x2)]:OL (Gs p0 s1 p2 p3) (Gs p0 s1' p2 p3):=by unfold Gs;infer_instance
instance {p0 p2} {s1 s1'} [∀x0 x1 x2,OL (s1 x0 x1 x2) (s1' x0 x1 x2)]:OL (Gt p0 s1 p2) (Gt p0 s1' p2):=by unfold Gt;infer_instance
instance {p0 p1 p2 p3 p5} {s4 s4'} [∀x0 x1 x2,OL (s4 x0 x1 x2) (s4' x0 x1 x2)]:OL (Fo p0 p1 p2 p3 s4 p5) (Fo p0 p1 p2 p3 s4' p5):=by unfold Fo;infer_instance
instance {p0 p2 p3 p4} {s1 s1'} [∀x0 x1 x2,OL (s1 x0 x1 x2) (s1' x0 x1 x2)]:OL (Eb p0 s1 p2 p3 p4) (Eb p0 s1' p2 p3 p4):=by unfold Eb;infer_instance
instance {p0} {k j} [Up k j] {y0 y1 y2}:OL (D0 p0 k y0 y1 y2) (D0 p0 j y0 y1 y2):=ABa fun n m _ _ y0 y1 y2=>inferInstanceAs (OL (Eb p0 (D0 p0 n) y0 y1 y2) (Eb p0 (D0 p0 m) y0 y1 y2))
instance {p1} {N M} [Up N M]:OL (FU N p1) (FU M p1):=by unfold FU;infer_instance
instance {p0 p2} {s1 s1'} [∀x0 x1,OL (s1 x0 x1) (s1' x0 x1)]:OL (Gu p0 s1 p2) (Gu p0 s1' p2):=by unfold Gu;infer_instance
instance {p0 p2 p3} {s1 s1'} [∀x0 x1,OL (s1 x0 x1) (s1' x0 x1)]:OL (Ec p0 s1 p2 p3) (Ec p0 s1' p2 p3):=by unfold Ec;infer_instance
instance {p0} {k j} [Up k j] {y0 y1}:OL (EN p0 k y0 y1) (EN p0 j y0 y1):=Ta fun n m _ _ y0 y1=>inferInstanceAs (OL (Ec p0 (EN p0 n) y0 y1) (Ec p0 (EN p0 m) y0 y1))
instance {p1} {N M} [Up N M]:OL (Bq N p1) (Bq M p1):=by unfold Bq;infer_instance
instance {p1} {N M} [Up N M]:OL (Du N p1) (Du M p1):=by unfold Du;infer_instance
instance {p1 p2 p4} {N M} [Up N M] {s3 s3'} [∀x0 x1,OL (s3 x0 x1) (s3' x0 x1)]:OL (GY N p1 p2 s3 p4) (GY M p1 p2 s3' p4):=by unfold GY;infer_instance
instance {p1 p3 p4} {N M} [Up N M] {s2 s2'} [∀x0 x1,OL (s2 x0 x1) (s2' x0 x1)]:OL (FC N p1 s2 p3 p4) (FC M p1 s2' p3 p4):=by unfold FC;infer_instance
instance {p1} {N M} [Up N M] {k j} [Up k j] {y0 y1}:OL (Ed N p1 k y0 y1) (Ed M p1 j y0 y1):=Ta fun n m _ _ y0 y1=>inferInstanceAs (OL (FC N p1 (Ed N p1 n) y0 y1) (FC M p1 (Ed M p1 m) y0 y1))
instance {p1} {N M} [Up N M]:OL (Fp N p1) (Fp M p1):=by unfold Fp;infer_instance
instance {p1 p2 p4 p5 p6 p7} {N M} [Up N M] {s3 s3'} [∀x0 x1 x2 x3,OL (s3 x0 x1 x2 x3) (s3' x0 x1 x2 x3)]:OL (Ee N p1 p2 s3 p4 p5 p6 p7) (Ee M p1 p2 s3' p4 p5 p6 p7):=by unfold Ee;infer_instance
instance {p1 p2} {N M} [Up N M] {k j} [Up k j] {y0 y1 y2 y3}:OL (EO N p1 p2 k y0 y1 y2 y3) (EO M p1 p2 j y0 y1 y2 y3):=ABb fun n m _ _ y0 y1 y2 y3=>inferInstanceAs (OL (Ee N p1 p2 (EO N p1 p2 n) y0 y1 y2 y3) (Ee M p1 p2 (EO M p1 p2 m) y0 y1 y2 y3))
instance {p1 p2 p3} {N M} [Up N M]:OL (FD N p1 p2 p3) (FD M p1 p2 p3):=by unfold FD;infer_instance
instance {p1 p2} {N M} [Up N M]:OL (Fq N p1 p2) (Fq M p1 p2):=by unfold Fq;infer_instance
instance {p1} {N M} [Up N M]:OL (E5 N p1) (E5 M p1):=by unfold E5;infer_instance
instance {p0 p2} {s1 s1'} [∀x0 x1,OL (s1 x0 x1) (s1' x0 x1)]:OL (Gv p0 s1 p2) (Gv p0 s1' p2):=by unfold Gv;infer_instance
instance {p1 p2 p3 p5 p6 p8} {N M} [Up N M] {s4 s4'} [∀x0 x1,OL (s4 x0 x1) (s4' x0 x1)] {s7 s7'} [∀x0 x1,OL (s7 x0 x1) (s7' x0 x1)]:OL (D1 N p1 p2 p3 s4 p5 p6 s7 p8) (D1 M p1 p2 p3 s4' p5 p6 s7' p8):=by unfold D1;infer_instance
instance {p1 p2 p3 p6 p7} {N M} [Up N M] {s4 s4'} [∀x0 x1,OL (s4 x0 x1) (s4' x0 x1)] {s5 s5'} [∀x0 x1,OL (s5 x0 x1) (s5' x0 x1)]:OL (Eg N p1 p2 p3 s4 s5 p6 p7) (Eg M p1 p2 p3 s4' s5' p6 p7):=by unfold Eg;infer_instance
instance {p1 p2 p3} {N M} [Up N M] {s4 s4'} [∀x0 x1,OL (s4 x0 x1) (s4' x0 x1)] {k j} [Up k j] {y0 y1}:OL (Dp N p1 p2 p3 s4 k y0 y1) (Dp M p1 p2 p3 s4' j y0 y1):=Ta fun n m _ _ y0 y1=>inferInstanceAs (OL (Eg N p1 p2 p3 s4 (Dp N p1 p2 p3 s4 n) y0 y1) (Eg M p1 p2 p3 s4' (Dp M p1 p2 p3 s4' m) y0 y1))
instance {p1 p3 p4} {N M} [Up N M] {s2 s2'} [∀x0 x1,OL (s2 x0 x1) (s2' x0 x1)]:OL (Eh N p1 s2 p3 p4) (Eh M p1 s2' p3 p4):=by unfold Eh;infer_instance
instance {p1} {N M} [Up N M] {k j} [Up k j] {y0 y1}:OL (CB N p1 k y0 y1) (CB M p1 j y0 y1):=Ta fun n m _ _ y0 y1=>inferInstanceAs (OL (Eh N p1 (CB N p1 n) y0 y1) (Eh M p1 (CB M p1 m) y0 y1))
instance {p1} {N M} [Up N M]:OL (FV N p1) (FV M p1):=by unfold FV;infer_instance
instance {p1 p2 p3} {N M} [Up N M]:OL (Fr N p1 p2 p3) (Fr M p1 p2 p3):=by unfold Fr;infer_instance
instance {p1} {N M} [Up N M]:OL (Br N p1) (Br M p1):=by unfold Br;infer_instance
theorem Pz{N M}(h:N≤M){a}: ∀x,Br N a=some x→Br M a=some x:=haveI:Up N M:=⟨h⟩;(inferInstance:OL (Br N a) (Br M a)).le
end Fth
namespace Fth
open Go
theorem Zv(k:Nat):G4 (k+200)=some true:=by kernel_rfl
theorem VA:Ev fun N=>G4 N=some true:=Ev.down 200 (Ev.all Zv)
theorem Zw{a:Dy}(h:a.args.length≤1048576): ∃x:AN×List AG×Bool,(x.2.2=true→WP x.1∧LV x.2.1)∧Ev fun N=>Br N a=some x:=by
 obtain ⟨x,hx,hq⟩:=Zc (N:=20000000) h (Nat.le_refl _)
 exact ⟨x,hq,⟨20000000,fun N hN=>Pz hN x hx⟩⟩
theorem W5{p:AN}{nm:List UInt8}{args:List AG}{m:Nat}{r:Az}(h:Qk p nm args m r):r.thunks=0∧r.updates=0∧r.calls=0∧0≤r.moves∧r.moves≤m:=by
 cases h with
 |shape=>exact ⟨rfl,rfl,rfl,Int.le_refl _,by show (0:Int)≤m;omega⟩
 |func=>exact ⟨rfl,rfl,rfl,Int.le_refl _,by show (0:Int)≤m;omega⟩
 |args=>exact ⟨rfl,rfl,rfl,Int.le_refl _,by show (0:Int)≤m;omega⟩
 | @run f r c _ _ _ _ hc _=>cases r<;>exact ⟨rfl,rfl,rfl,by show (0:Int)≤c;omega,by show (c:Int)≤m;omega⟩
theorem ABN{p:AN}(hp:WP p)(hS:FN p): ∃mp,Mpp p mp:=by
 obtain ⟨mp,h,_⟩:=YT (nm:=[]) (args:=[]) hp.len hS p.funcs.length 0 (by omega) [] fun s=>⟨by simp;rfl,fun k f hk=>by omega⟩
 exact ⟨mp,h⟩
theorem ABO{p:AN}{m:Nat}(hp:WP p)(hS:FN p)(hm:m≤16384){e:AD}{ρ:Nm}{q1 q2:Except Int AG}{c1 c2:Nat}(h1:Rn p m e ρ q1 c1)(h2:Rn p m e ρ q2 c2):q1=q2∧c1=c2:=by
 obtain ⟨mp,hmp⟩:=ABN hp hS
 have lk: ∀{r1 r2:Except Int Ak} {c1 c2:Nat},Lk p m 0 e ρ r1 c1→Lk p m 0 e ρ r2 c2→r1=r2∧c1=c2:=fun h1 h2=>by
  obtain ⟨N,e1,e2⟩:=((Pq hp hmp hm h1).and (Pq hp hmp hm h2)).get
  rw [e1] at e2
  have:=Option.some.inj e2
  simp only [Prod.mk.injEq] at this
  exact ⟨this.1,by omega⟩
 cases h1 with
 |err h1=>
  cases h2 with
  |err h2=>obtain ⟨e1,e2⟩:=lk h1 h2;cases e1;exact ⟨rfl,e2⟩
  |val h2 _=>obtain ⟨e1,_⟩:=lk h1 h2;cases e1
 |val h1 k1=>
  cases h2 with
  |err h2=>obtain ⟨e1,_⟩:=lk h1 h2;cases e1
  |val h2 k2=>
   obtain ⟨e1,e2⟩:=lk h1 h2
   cases e1;subst e2
   obtain ⟨N,e1,e2⟩:=((US hp hmp hm k1).and (US hp hmp hm k2)).get
   rw [e1] at e2
   have:=Option.some.inj e2
   simp only [Prod.mk.injEq] at this
   exact ⟨this.1,by omega⟩
theorem VB(a:Int){c:Nat}(hc:0<c):(a.tmod c).natAbs<c:=by
 rw [Int.natAbs_tmod];exact Nat.mod_lt _ (by omega)
theorem TL(a:Dy)(most less:Int)(h:a.args.length≤1048576): ∃N,C8 N a most less=some true:=by
 obtain ⟨x,hx,er⟩:=Zw h
 cases hb:x.2.2
 ·refine ((VA.and er).mono (q:=fun N=>C8 N a most less=some true) fun N hN=>?_).get
  unfold C8
  rw [hN.1,Option.bind_some,Bool.not_true,cond_false,hN.2,Option.bind_some,hb];rfl
 ·obtain ⟨hp,hl⟩:=hx hb
  obtain ⟨r,hr,ec⟩:=RS (nm:=a.name) hp hl.av 16384
  obtain ⟨s,hs,ec2⟩:=RS (nm:=a.name) hp hl.av most
  have hw:=W5 hr
  have cut0:M1 16384=16384:=by decide
  rw [cut0] at hw hr
  have em:=ec.mono fun N h=>h.1
  have em2:=ec2.mono fun N h=>h.1
  have goal:(Ev fun N=>ED N a most less x r false=some true)→(r.why=60→r.moves=16384)→∃N,C8 N a most less=some true:=fun hj h60=>by
   refine (((VA.and er).and (em.and hj)).mono (q:=fun N=>C8 N a most less=some true) fun N hN=>?_).get
   unfold C8
   rw [hN.1.1,Option.bind_some,Bool.not_true,cond_false,hN.1.2,Option.bind_some,hb,Bool.not_true,cond_false,hN.2.1,Option.bind_some,show decide (r.moves<0)=false from decide_eq_false (by omega),cond_false,show decide (r.moves>16384)=false from decide_eq_false (by omega),cond_false]
   cases hy:(r.why==60)
   ·exact hN.2.2
   ·rw [cond_true,show (r.moves != 16384)=false by rw [h60 (Bu hy)];rfl]
    exact hN.2.2
  have wrong: ∀y:Int,r=Nx y→s=Nx y→(y=3∨y=32∨y=40)→∃N,C8 N a most less=some true:=fun y h1 h2 hy=>by
   refine goal ?_ (fun h=>by rw [h1] at h;have:y=60:=h;omega)
   subst h1;subst h2
   refine (em2.and (Wa (r:=Nx y) (.inl rfl))).mono fun N hN=>?_
   unfold ED
   rw [cond_false,hN.1,Option.bind_some]
   have j2:E7 N a most less x (Nx y) (Nx y) true=some true:=by
    unfold E7
    rw [cond_true,hN.2];rfl
   rcases hy with rfl|rfl|rfl
   ·exact j2
   ·exact j2
   ·exact j2
  cases hr with
  |shape hS=>
   cases hs with
   |shape=>exact wrong 3 rfl rfl (.inl rfl)
   |func h=>exact absurd h hS
   |args h=>exact absurd h hS
   |run h=>exact absurd h hS
  |func hS hf=>
   cases hs with
   |shape h=>exact absurd hS h
   |func=>exact wrong 32 rfl rfl (.inr (.inl rfl))
   |args _ h=>rw [hf] at h;cases h
   |run _ h=>rw [hf] at h;cases h
  | @args f hS hf ha=>
   cases hs with
   |shape h=>exact absurd hS h
   |func _ h=>rw [hf] at h;cases h
   |args=>exact wrong 40 rfl rfl (.inr (.inr rfl))
   | @run f' _ _ _ h ha'=>rw [hf] at h;cases h;exact absurd ha' ha
  | @run f q c hS hf ha hrn hc hv=>
   have hfm:=List.mem_of_find?_eq_some hf
   have other: ∀(m':Nat),m'≤16384→∀r',Qk x.1 a.name x.2.1 m' r'→(m'<c→r'=⟨60,v0,m',0,0,0⟩)∧(c≤m'→q≠ .error 60→r'=QW q c)∧(m'=16384→r'=QW q c):=fun m' hm' r' hr'=>by
    cases hr' with
    |shape h=>exact absurd hS h
    |func _ h=>rw [hf] at h;cases h
    |args _ h ha'=>rw [hf] at h;cases h;exact absurd ha ha'
    | @run f' q' c' _ h ha' hrn' hc' hv'=>
     rw [hf] at h;cases h
     have one: ∀{q1 q2:Except Int AG} {c1 c2:Nat},Rn x.1 m' f.body (Px f.params x.2.1 .nil) q1 c1→Rn x.1 m' f.body (Px f.params x.2.1 .nil) q2 c2→q1=q2∧c1=c2:=ABO hp hS.1.1 hm'
     refine ⟨fun hlt=>?_,fun hge hq=>?_,fun h16=>?_⟩
     ·obtain ⟨e1,e2⟩:=one hrn' (Zu hrn hlt)
      subst e1;subst e2;rfl
     ·obtain ⟨e1,e2⟩:=one hrn' (Zt hrn hq hge)
      subst e1;subst e2;rfl
     ·subst h16
      obtain ⟨e1,e2⟩:=one hrn' hrn
      subst e1;subst e2;rfl
   have hq60:q= .error 60→c=16384:=fun h=>by
    subst h
    rcases hv with ⟨_,h⟩| ⟨h,_⟩
    ·exact h
    ·omega
   have hcp:0<c:=by
    cases q with
    |ok v=>exact hv.2.1
    |error y=>rcases hv with ⟨_,h⟩| ⟨_,h⟩<;>omega
   have hmv:(QW q c).moves=(c:Int):=by cases q<;>rfl
   have hwy:(QW q c).why=60↔q= .error 60:=by
    cases q with
    |ok v=>exact ⟨fun h=>(by cases h),fun h=>by cases h⟩
    |error y=>exact ⟨fun h=>by have:y=60:=h;rw [this],fun h=>by cases h;rfl⟩
   have hw3:((QW q c).why==3)=false∧((QW q c).why==32)=false∧((QW q c).why==40)=false:=by
    cases q with
    |ok v=>exact ⟨rfl,rfl,rfl⟩
    |error y=>rcases hv with ⟨rfl,_⟩| ⟨rfl|rfl|rfl,_⟩<;>exact ⟨rfl,rfl,rfl⟩
   refine goal ?_ fun h=>by rw [hmv,hq60 (hwy.1 h)];rfl
   have hsame:=Wa (r:=QW q c) (YU (.run (nm:=a.name) hS hf ha hrn hc hv))
   obtain ⟨hs1,hs2,hs3⟩:=other (M1 most) (RR most) s hs
   obtain ⟨u,hu,ecu⟩:=RS (nm:=a.name) hp hl.av (c:Int)
   rw [WW (show c≤16384 by omega)] at hu
   obtain ⟨_,hu2,_⟩:=other c (by omega) u hu
   have eu:=ecu.mono fun N h=>h.1
   have n0:0≤((less.tmod c)+c).tmod c∧((less.tmod c)+c).tmod c<c:=by
    have h1:=Int.tmod_lt_of_pos less (show (0:Int)<c by omega)
    have h2:=VB less (show 0<c by omega)
    have h3:0≤(less.tmod c)+c:=by omega
    rw [Int.tmod_eq_emod_of_nonneg h3]
    exact ⟨Int.emod_nonneg _ (by omega),Int.emod_lt_of_pos _ (by omega)⟩
   obtain ⟨n,hn⟩: ∃n:Nat,((less.tmod c)+c).tmod c=(n:Int):=⟨(((less.tmod c)+c).tmod c).toNat,by omega⟩
   rw [hn] at n0
   obtain ⟨w,hw',ecw⟩:=RS (nm:=a.name) hp hl.av (n:Int)
   rw [WW (show n≤16384 by omega)] at hw'
   obtain ⟨hw1,_,_⟩:=other n (by omega) w hw'
   have ew:=ecw.mono fun N h=>h.1
   have hmod:(IntKind.i64.wrap ((less.tmod c)+c)).tmod c=(n:Int):=by
    have h1:=Int.tmod_lt_of_pos less (show (0:Int)<c by omega)
    have h2:=VB less (show 0<c by omega)
    rw [wr (by omega) (by omega)];exact hn
   refine (((em2.and hsame).and (eu.and ew))).mono fun N hN=>?_
   have j6:E6 N a less x (QW q c) false=some true:=by
    unfold E6 IB
    have hnz:nz (c:Int)=some ():=by rw [nz,if_neg (by omega)]
    rw [cond_false,hmv,hnz,Option.bind_some,Option.bind_some,hmod,hN.2.2,Option.bind_some,hw1 (by omega)]
    show (bif ((60:Int)==60) then some (((n:Int))==(n:Int)) else _)=_
    simp
   have j4:HD N a most less x (QW q c) s false=some true:=by
    unfold HD IA
    rw [cond_false,Py,hmv]
    rcases Nat.lt_or_ge (M1 most) c with hlt|hge
    ·have es:=hs1 hlt
     rw [show decide ((M1 most:Int)≥(c:Int))=false from decide_eq_false (by omega),cond_false,es,show ((60:Int) != 60)=false from rfl,cond_false,show ((M1 most:Int) != (M1 most:Int))=false by simp,cond_false,show (v0.type_ != 0)=false from rfl,cond_false,show ((c:Int)==0)=false by simp;omega]
     exact j6
    ·rw [show decide ((M1 most:Int)≥(c:Int))=true from decide_eq_true (by omega),cond_true,show decide ((c:Int)>0)=true from decide_eq_true (by omega),cond_true]
     have es:s=QW q c:=by
      rcases Classical.em (q= .error 60) with h60|h60
      ·have hc16:=hq60 h60
       have hcm:M1 most=16384:=by have:=RR most;omega
       exact hs3 hcm
      ·exact hs2 hge h60
     rw [es,hN.1.2];rfl
   unfold ED
   rw [cond_false,hN.1.1,Option.bind_some,hw3.1,cond_false,hw3.2.1,cond_false,hw3.2.2]
   unfold E7
   rw [cond_false]
   cases hne:((QW q c).why != 60)
   ·exact j4
   ·have hne:=J8 hne
    have hq:q≠ .error 60:=fun h=>hne (hwy.2 h)
    rw [cond_true,hmv,hN.2.1,Option.bind_some,hu2 (Nat.le_refl _) hq,hN.1.2]
    exact j4
end Fth
namespace Fth
open Go Go.Proofs Go.ChangeShapes Go.WideShapes Go.ChangeAt Go.RowKit
open Go.Proofs.YtiodboehkcmdnaaGreat
open Go.ChangeMaps (open_string shut_string)
open Go.Deep (trod_struct3_mk)
theorem ABP{n:Int}(h:(Lit.int .u8 n).wf=true):((UInt8.ofNat n.toNat).toNat:Int)=n:=by
 have h:0≤n∧n≤255:=by simpa [Lit.wf,IntKind.min,IntKind.max,IntKind.signed,IntKind.bits] using h
 simp only [UInt8.toNat_ofNat']
 omega
theorem RT(s:ByteArray):bs s.data.toList=s:=by cases s;simp [bs]
section
variable{H:Type}{enc:TypeId×Value→H}{W:World}{base:Nat}
theorem AO.old{C C':Col}{W':World}(h:AO [] C W C' W'): ∀b,b<W.heap.size→W'.heap[b]?=W.heap[b]?:=fun b hb=>h.same b hb (by simp)
theorem AO.keptBut{C C':Col}{W':World}(h:AO [] C W C' W')(may:MemPlace→Prop):W.keptBut W' may:=by
 refine ⟨h.os,h.output,fun i hi=>?_⟩
 rw [h.old i hi]
 exact (World.keptBut_refl W may).2.2 i hi
theorem W6{P:Program}{f:Func}{s:ChangeSpec}{apart fresh handsOn again:Bool}{W':World}{args:Array Value}{v:Value}{ds gs:List (DataW H)}{before pa:List MemPlace}{C C':Col}
  (hW:DataW.Whole enc P f.params.toList s.vars apart W args.toList ds gs before)
  (hres: ∀(b:Nat) (sp:Nat→Bool) (hd:Bool),DataW.TrodAll enc P W' b sp hd f.resultTypes.toList (v.resultList f.resultTypes.size) (s.fn H (ds++gs)).results [])
  (hargs: ∀sp:Nat→Bool,(∀p∈before,sp p.block=true)→DataW.TrodAll enc P W' 0 sp true f.params.toList args.toList (s.fn H (ds++gs)).args pa)
  (hvars: ∀sp:Nat→Bool,DataW.TrodVars enc P W' sp s.vars (s.fn H (ds++gs)).vars [])
  (hps:before=pa) (st:AO [] C W C' W')
  (hok: ∀(j:Nat) (t:TypeId) (r:Value),f.resultTypes[j]?=some t→(v.resultList f.resultTypes.size)[j]?=some r→Value.okWide P W' .any 0 t r):
  s.post enc P f apart fresh handsOn again W args v W':=by
 have hold: ∀p∈before,(fun b=>decide (b<W.heap.size)) p.block=true:=fun p hp=>by simpa using hW.lt p hp
 refine ⟨ds,gs,before,[],pa,[],hW,hres _ _ _,hargs _ hold,hvars _,World.keptBut_mono (fun p hp=>⟨hp,?_⟩) (st.keptBut (· ∈before)),fun _=>?_⟩
 ·rw [hps] at hp
  exact Or.inr (by simpa using hp)
 ·have hlt:=hW.lt
  obtain ⟨_,_,_,_,_,hz,hn⟩:=hW
  refine ⟨hok,_,_,([]++pa)++[],⟨[]++pa,[],trodAll_append (hargs _ (fun _ _=>rfl)) (hres _ _ _),hvars _,rfl,?_,?_⟩,?_⟩
  ·intro b off hp
   have hp':MemPlace.cell b off∈before:=by rw [hps];simpa using hp
   have hb:b<W.heap.size:=hlt _ hp'
   have:=hz b off hp'
   unfold World.frozen? at this ⊢
   rw [st.old b hb]
   exact this
  ·intro ha
   have:=hn ha
   rw [hps] at this
   simpa using this
  ·intro p hp _
   rw [hps]
   simpa using hp
set_option maxRecDepth 100000 in
theorem YW{v:Value}{d:DataW H}{p:List MemPlace}(hv:Value.okWide Tryz.prog W .any base 24 v)(h:DataW.Trod enc Tryz.prog W 0 (fun _=>true) true 24 v d p):
  ∃(a:Dy) (c0:List Value),v= .agg c0.toArray∧Kv.rep (Col.F fun _=>0) W c0 a∧a.args.length≤Rows.uptoBulk d∧a.text.length≤Rows.uptoBulk d∧a.name.length≤Rows.uptoBulk d∧
   ∀W':World,(∀b,b<W.heap.size→W'.heap[b]?=W.heap[b]?)→∀sp:Nat→Bool,(∀q∈p,sp q.block=true)→DataW.Trod enc Tryz.prog W' 0 sp true 24 v d p:=by
 obtain ⟨c0,c1,c2,y0,y1,y2,m,rfl,rfl,rfl,h0,h1,h2⟩:=Go.Joins.open_agg3 Tryz.underlying24 (by kernel_rfl) (by kernel_rfl) hv h
 obtain ⟨s1,e1,rfl,k1⟩:=DataW.trod_string Tryz.underlying9 h1
 obtain ⟨s2,e2,rfl,k2⟩:=DataW.trod_string Tryz.underlying9 h2
 simp only [List.cons.injEq,and_true] at e1 e2
 subst e1 e2
 have hstr: ∀(n:Nat) (W':World) (sp:Nat→Bool) (s:ByteArray),s.size≤maxLen→DataW.trod enc Tryz.prog W' 0 sp true (n+1) 9 [.string s]=some (.lit (.string s.data.toList),[]):=fun n W' sp s hs=>by
  obtain ⟨n',hn⟩:=shut_string (enc:=enc) (P:=Tryz.prog) (w:=W') (base:=0) (sp:=sp) (held:=true) Tryz.underlying9 hs
  cases n' with
  |zero=>simp [DataW.trod] at hn
  |succ n'=>
   simp only [DataW.trod,Value.cells,Tryz.underlying9] at hn ⊢
   exact hn
 have hcells:Tryz.prog.cellsOf 24=3:=by kernel_rfl
 have close: ∀(n:Nat) (W':World) (sp:Nat→Bool),DataW.trod enc Tryz.prog W' 0 sp true (n+1) 22 [c0]=some y0→
   DataW.Trod enc Tryz.prog W' 0 sp true 24 (.agg #[c0,.string s1,.string s2]) (.agg [y0.1,.lit (.string s1.data.toList),.lit (.string s2.data.toList)]) (y0.2++([]++[])):=fun n W' sp hn=>
  ⟨n+1+1,trod_struct3_mk (y1:=(.lit (.string s1.data.toList),[])) (y2:=(.lit (.string s2.data.toList),[])) Tryz.underlying24 (by rw [hcells];rfl) (by rw [show Tryz.prog.cellsOf 22=1 from by kernel_rfl];exact hn) (hstr n W' sp s1 k1) (hstr n W' sp s2 k2)⟩
 have l1:Rows.uptoBulk (.agg [y0.1,.lit (.string s1.data.toList),.lit (.string s2.data.toList)]:DataW H)=Rows.uptoBulk y0.1+(s1.data.toList.length+1)+(s2.data.toList.length+1)+1:=by
  simp only [Rows.uptoBulk,Rows.uptoBulkAll];omega
 rcases open_ints Tryz.underlying22 Tryz.underlying5 (by kernel_rfl) h0 with ⟨e,rfl⟩| ⟨a,len,cap,zs,e,hb,hl,hm,hz,rfl,hcell,hw⟩
 ·simp only [List.cons.injEq,and_true] at e
  subst e
  refine ⟨⟨[],s1.data.toList,s2.data.toList⟩,[.slice none 0 0,.string s1,.string s2],rfl,⟨_,by rw [RT,RT];rfl,none,0,rfl,Nat.le_refl _,.inl rfl⟩,?_,?_,?_,?_⟩
  ·rw [l1];show s2.data.toList.length≤_;omega
  ·rw [l1];show 0≤_;omega
  ·rw [l1];show s1.data.toList.length≤_;omega
  ·intro W' hW' sp hsp
   refine close 1 W' sp ?_
   rw [DataW.trod_step]
   simp only [DataW.trodStep,Tryz.underlying22]
 ·simp only [List.cons.injEq,and_true] at e
  subst e
  simp only [if_true] at hz
  have hlt: ∀i,i<zs.length→a.block<W.heap.size:=fun i hi=>by
   have:=World.block_lt_of_cell? _ _ (hcell i hi)
   simpa [block_add] using this
  refine ⟨⟨(zs.take len).map fun n=>UInt8.ofNat n.toNat,s1.data.toList,s2.data.toList⟩,[.slice (some a) len cap,.string s1,.string s2],rfl,⟨_,by rw [RT,RT],some a,cap,?_,?_,?_⟩,?_,?_,?_,?_⟩
  ·simp [hz,Nat.min_eq_left hl]
  ·simp [hz];omega
  ·by_cases h0:len=0
   ·subst h0;left;rfl
   ·right
    have h00:=hcell 0 (by omega)
    have hs:a.spot=none:=by simpa [Addr.add] using World.cell?_spot h00
    obtain ⟨b,off,spot⟩:=a
    simp only at hs
    subst hs
    refine ⟨b,off,rfl,rfl,hlt 0 (by omega),fun i x hx=>?_⟩
    rw [List.getElem?_map] at hx
    obtain ⟨n,hn,rfl⟩:=Option.map_eq_some_iff.1 hx
    have hi:i<len:=by
     have:=(List.getElem?_eq_some_iff.1 hn).1
     simp at this;omega
    rw [List.getElem?_take_of_lt hi] at hn
    have hm':n∈zs:=List.mem_of_getElem? hn
    refine ⟨_,rfl,rfl,fun j c hj=>?_⟩
    match j,hj with
    |0,hj=>
     simp only [List.getElem?_cons_zero,Option.some.injEq] at hj
     subst hj
     have:=hcell i (by omega)
     rw [add_plain,show zs.getD i 0=n by simp [List.getD,hn]] at this
     show W.cell? ⟨b,off+i*1+0,none⟩=_
     rw [ABP (hw n hm')]
     simpa using this
  ·rw [l1];show s2.data.toList.length≤_;omega
  ·rw [l1]
   show ((zs.take len).map _).length≤_
   have h1:Rows.uptoBulk (.slice (lits .u8 (zs.take len)) (lits .u8 (zs.drop len)):DataW H)≥(zs.take len).length:=by
    have: ∀l:List Int,Rows.uptoBulkAll (lits .u8 l:List (DataW H))=l.length:=fun l=>by
     induction l with
     |nil=>rfl
     |cons x l ih=>
      have e:(lits .u8 (x::l):List (DataW H))= .lit (.int .u8 x)::lits .u8 l:=rfl
      rw [e];simp only [Rows.uptoBulkAll,Rows.uptoBulk,ih,List.length_cons];omega
    simp only [Rows.uptoBulk,this]
    omega
   rw [List.length_map]
   simp only
   omega
  ·rw [l1];show s1.data.toList.length≤_;omega
  ·intro W' hW' sp hsp
   refine close 1 W' sp ?_
   refine shut_ints 0 Tryz.underlying22 Tryz.underlying5 (by kernel_rfl) (Nat.zero_le _) hl hm ?_ ?_ hw
   ·by_cases h0:zs.length=0
    ·split<;>omega
    ·have:sp a.block=true:=hsp (.cell a.block (a.off+0)) (by
      simp only [List.append_nil,MemPlace.row,List.mem_map,List.mem_range]
      exact ⟨0,by omega,rfl⟩)
     rw [if_pos this];exact hz
   ·intro i hi
    rw [World.cell?_of_block (w:=W) (a:=a.add i) (by rw [block_add];exact hW' _ (hlt i hi))]
    exact hcell i hi
end
end Fth
namespace Go.Proofs.YtiodboehkcmdnaaGreat.meanMore
open Go Go.ChangeShapes Go.WideShapes Go.ChangeAt Go.RowKit Fth
set_option linter.unusedVariables false
theorem own:ownKnob Tryz.prog.godebug=none:=by kernel_rfl
set_option maxRecDepth 100000 in
theorem contract(H:Type)(enc:TypeId×Value→H)(W:World)(base:Nat)(args:Array Value)(ds gs:List (DataW H))(before:List MemPlace)
  (hval: ∀(j:Nat) t v,Tryz.f5.params[j]?=some t→args[j]?=some v→Value.okWide Tryz.prog W .any base t v)
  (hW:DataW.Whole enc Tryz.prog Tryz.f5.params.toList Rows.meanMoreSpec.vars false W args.toList ds gs before) (hk:Rows.uptoSmall H (ds++gs)=true):
  Calls Tryz.prog 5 args W fun e W'=>∃v,e= .returned v∧Rows.meanMoreSpec.post enc Tryz.prog Tryz.f5 false true false false W args v W':=by
 have hW':=hW
 obtain ⟨p,q,hA0,hV,rfl,hfz,hnd⟩:=hW
 have hA:DataW.TrodAll enc Tryz.prog W 0 (fun _=>true) true Tryz.f5.params.toList args.toList ds p:=hA0
 rw [Tryz.params5] at hA hval
 obtain ⟨v0,vs0,d0,ds0,p0,q0,hargs,rfl,rfl,h0,r0⟩:=trodAll_cons hA
 obtain ⟨v1,vs1,d1,ds1,p1,q1,rfl,rfl,rfl,h1,r1⟩:=trodAll_cons r0
 obtain ⟨v2,vs2,d2,ds2,p2,q2,rfl,rfl,rfl,h2,r2⟩:=trodAll_cons r1
 obtain ⟨rfl,rfl,rfl⟩:=trodAll_nil r2
 obtain rfl:args=#[v0,v1,v2]:=by cases args;simp_all
 obtain ⟨rfl,rfl⟩:=trodVars_none hV
 obtain ⟨n1,rfl,rfl,rfl,w1⟩:=open_int Tryz.underlying3 (hval 1 3 v1 rfl rfl) h1
 obtain ⟨n2,rfl,rfl,rfl,w2⟩:=open_int Tryz.underlying3 (hval 2 3 v2 rfl rfl) h2
 obtain ⟨a,c0,rfl,ha,l1,_,_,hcl⟩:=YW (hval 0 24 v0 rfl rfl) h0
 clear hA0
 have hb:Rows.uptoBulkAll (d0::[.lit (.int .i64 n1),.lit (.int .i64 n2)])≤1048576:=by
  have h:Rows.uptoBulkAll (d0::[.lit (.int .i64 n1),.lit (.int .i64 n2)]++[])≤1048576:=of_decide_eq_true hk
  simpa using h
 have hl:a.args.length≤1048576:=by
  rw [Rows.uptoBulkAll] at hb
  omega
 obtain ⟨N,hN⟩:=TL a n1 n2 hl
 refine (Pj N (fun _=>0) W hN ha).mono ?_
 rintro e W' ⟨C',rfl,st⟩
 refine ⟨_,rfl,W6 (pa:=p0++([]++([]++[]))) hW' (fun _ _ _=>trodAll_cons_mk (shut_bool Tryz.underlying4 _) trodAll_mk0) (fun sp hsp=>?_) (fun _=>rfl) (by simp) st (ok_one (by kernel_rfl) rfl (okWide_bool_mk Tryz.underlying4 _))⟩
 exact trodAll_cons_mk (hcl W' st.old sp (fun q hq=>hsp q (by simp [hq]))) (trodAll_cons_mk (shut_int Tryz.underlying3 w1) (trodAll_cons_mk (shut_int Tryz.underlying3 w2) trodAll_mk0))
set_option maxRecDepth 100000 in
theorem lifted(os:Os)(started:os.Started)(H:Type)(enc:TypeId×Value→H)(F:Stop.Interp):
  ReturnsInHanded {} Tryz.checked os 5 .any ((Rows.OpenSpec.upto Rows.meanMoreSpec).pre6 enc Tryz.prog Tryz.f5 Rows.meanMoreUptoRow.domain false) (((Rows.OpenSpec.upto Rows.meanMoreSpec).at F).post enc Tryz.prog Tryz.f5 false true false false):=by
 refine returnsInHanded_of_cond (C:=Tryz.checked) (s:=Rows.OpenSpec.upto Rows.meanMoreSpec) (k:=Rows.uptoSmall) rfl own started (by kernel_rfl) Tryz.func5
  (OpenSpec.witness (enc:=enc) (C:=Tryz.checked) (s:=Rows.OpenSpec.upto Rows.meanMoreSpec) (k:=Rows.uptoSmall) rfl false ⟨#[],#[.agg #[.slice none 0 0,.string .empty,.string .empty],.int .i64 0,.int .i64 0],[]⟩ 8 (by kernel_rfl) (by kernel_rfl) (by kernel_rfl)
   (x:=([.agg [.nil,.lit (.string []),.lit (.string [])],.lit (.int .i64 0),.lit (.int .i64 0)],[],[])) (by kernel_rfl) rfl (by kernel_rfl)) ?_
 intro W base args ds gs before hval hW _ hk _
 exact contract H enc W base args ds gs before hval hW hk
theorem proved:Rows.MeanMoreUptoSaid:=
 OpenClaim.holds_of_cond 5 Tryz.f5 rfl rfl rfl rfl rfl rfl rfl ⟨rfl,rfl,rfl,rfl,rfl⟩ rfl rfl rfl rfl rfl (by kernel_rfl) Tryz.func5 (by kernel_rfl)
  (of_decide_eq_true (by kernel_rfl)) (by unfold Func.isWrapper;first| (rw [if_pos (by decide+kernel)];kernel_rfl)| (rw [if_neg (by decide+kernel)];exact ⟨rfl,rfl⟩))
  (fun os started H enc _ F=>lifted os started H enc F)
end Go.Proofs.YtiodboehkcmdnaaGreat.meanMore
