/-
  fathomlaw11.MeanGiven, WHERE WHAT IT READS IS OF BULK AT MOST 1048576: for every text, name and line of arguments the Go function returns true, and its input reads as it did. No condition beside the statement's own.
-/
import Derived.KernelRfl
import Derived.Test.YtiodboehkcmdnaaGreatRows
import Derived.WalkKit
import Derived.ProofKit
import Derived.OpenShut
import Derived.JoinedCond
import Derived.Lib.SmallJoins
import Derived.Test.YtiodboehkcmdnaaGreatGF
set_option linter.all false
set_option exponentiation.threshold 3000
namespace Fth
open Go
theorem QV{p:AL}{nm:List UInt8}{i:Nat}{f:AE}(hi:p.funcs[i]?=some f)(hn:f.name=nm)(h:nm∉(p.funcs.take i).map (·.name)):hd p nm=some f:=by
 unfold hd
 rw [List.find?_eq_some_iff_getElem]
 obtain ⟨hl,he⟩:=List.getElem?_eq_some_iff.1 hi
 refine ⟨by simpa using hn,i,hl,he,fun j hj=>?_⟩
 simp only [Bool.not_eq_true',beq_eq_false_iff_ne,ne_eq]
 intro e
 refine h (List.mem_map.2 ⟨p.funcs[j],?_,e⟩)
 rw [List.mem_take_iff_getElem]
 exact ⟨j,om,rfl⟩
theorem VR{p:AL}{nm:List UInt8}(h:nm∉p.funcs.map (·.name)):hd p nm=none:=by
 unfold hd
 rw [List.find?_eq_none]
 intro f hf e
 exact h (List.mem_map.2 ⟨f,hf,by simpa using e⟩)
section
variable{p:AL}
theorem Z6(hlen:p.funcs.length≤50000)(hb: ∀f∈p.funcs,DZ f.body≤1000000∧f.params.length≤1000000):ET (fun N=>IK N p) fun r=>r.why=0↔Z3 p:=by
 have bodies: ∀(mpl:Ao),Pl p mpl→∀(j i:Nat),i+j=p.funcs.length→∀(f0:AF),
   EL (fun N k=>Cz N p mpl k (i:Int) f0.why f0.at_) fun r=>r.why=0↔f0.why=0∧∀i' f,i≤i'→p.funcs[i']?=some f→PN f∧Sc p (fun s=>s∈f.params.map (·.name)) f.body:=by
  intro mpl hpl j
  induction j with
  |zero=>
   intro i hi f0
   refine EL.down ?_
   show EL (fun N k=>Hz N p mpl (Cz N p mpl k) i f0.why f0.at_) _
   unfold Hz
   refine EL.cond (fun h=>by have:=CO h;omega) fun _=> .some ⟨fun h=>⟨h,fun i' f hi' hf=>?_⟩,fun h=>h.1⟩
   have:=(List.getElem?_eq_some_iff.1 hf).1
   omega
  |succ j ihj=>
   intro i hi f0
   refine EL.down ?_
   show EL (fun N k=>Hz N p mpl (Cz N p mpl k) i f0.why f0.at_) _
   unfold Hz
   refine EL.cond (fun _=>?_) fun h=>by have:=Do h;omega
   obtain ⟨f,hf⟩: ∃f,p.funcs[i]?=some f:=⟨_,List.getElem?_eq_getElem om⟩
   have hfb:=hb f (List.mem_of_getElem? hf)
   refine EL.eq (CA hf) ?_
   have pars: ∀(q t:Nat),t+q=f.params.length→∀(f2:AF) (m:Ao),(∀s,Ck m s=(((f.params.take t).map (·.name)).count s:Int))→
     ∃r:AF,(r.why=0↔f2.why=0∧(∀i' x,t≤i'→f.params[i']?=some x→x.name∉(f.params.take i').map (·.name))∧Sc p (fun s=>s∈f.params.map (·.name)) f.body∧∀i' f,i+1≤i'→p.funcs[i']?=some f→PN f∧Sc p (fun s=>s∈f.params.map (·.name)) f.body)∧
      ∃n0,∀N k kk,n0≤N→n0≤k→n0≤kk→Fo N p mpl i (Cz N p mpl k) f kk (t:Int) f2.why f2.at_ m=some r:=by
    intro q
    induction q with
    |zero=>
     intro t ht f2 m hm
     have htk:f.params.take t=f.params:=List.take_of_length_le om
     obtain ⟨w,hw,n1,hn1⟩:=Z5 hpl om (DZ f.body) f.body (Nat.le_refl _) (f.params.map (·.name)) m ⟨f2.why,f2.at_⟩ (fun s=>by rw [hm,htk]) (by rw [List.length_map];omega)
     obtain ⟨r,hr,n0,hn0⟩:=ihj (i+1) om w.2
     refine ⟨r,?_,n0+n1+1,fun N k kk h1 h2 h3=>?_⟩
     ·rw [hr,hw.2]
      constructor
      ·rintro ⟨⟨h1,h2⟩,h3⟩
       exact ⟨h1,fun i' x hi' hx=>by have:=(List.getElem?_eq_some_iff.1 hx).1;omega,h2,h3⟩
      ·rintro ⟨h1,_,h2,h3⟩;exact ⟨⟨h1,h2⟩,h3⟩
     ·obtain ⟨kk,rfl⟩: ∃j,kk=j+1:=⟨kk - 1,om⟩
      show Fw N p mpl i (Cz N p mpl k) f (Fo N p mpl i (Cz N p mpl k) f kk) t f2.why f2.at_ m=_
      unfold Fw
      have ew:scope_walk N f.body m mpl ⟨f2.why,f2.at_⟩ p=some w:=hn1 N om
      rw [show decide ((t:Int)< (f.params.length:Int))=false from decide_eq_false om,cond_false,Px,ew,Option.bind_some,wr om om,show (i:Int)+1=((i+1:Nat):Int) by omega]
      exact hn0 N k om om
    |succ q ihq=>
     intro t ht f2 m hm
     obtain ⟨x,hx⟩: ∃x,f.params[t]?=some x:=⟨_,List.getElem?_eq_getElem om⟩
     have htk:(f.params.take (t+1)).map (·.name)=(f.params.take t).map (·.name)++[x.name]:=by rw [List.take_add_one,hx];simp
     have hcl:=List.count_le_length (a:=x.name) (l:=(f.params.take t).map (·.name))
     simp only [List.length_map,List.length_take] at hcl
     have hm': ∀s,Ck (Lm x.name (Ck m x.name+1) m) s=(((f.params.take (t+1)).map (·.name)).count s:Int):=fun s=>by
      rw [MV,htk,List.count_append]
      cases hs:(s==x.name)
      ·rw [cond_false,hm,List.count_cons_of_ne (fun e=>by subst e;simp at hs)];simp
      ·have:s=x.name:=by simpa using hs
       subst this
       rw [cond_true,hm,List.count_singleton_self];omega
     have next: ∀f3:AF,(f3.why=0↔f2.why=0∧x.name∉(f.params.take t).map (·.name))→∃r:AF,(r.why=0↔f2.why=0∧(∀i' x,t≤i'→f.params[i']?=some x→x.name∉(f.params.take i').map (·.name))∧Sc p (fun s=>s∈f.params.map (·.name)) f.body∧∀i' f,i+1≤i'→p.funcs[i']?=some f→PN f∧Sc p (fun s=>s∈f.params.map (·.name)) f.body)∧
       ∃n0,∀N k kk,n0≤N→n0≤k→n0≤kk→JZ (t:Int) m (Fo N p mpl i (Cz N p mpl k) f kk) x f3.why f3.at_=some r:=by
      intro f3 hf3
      obtain ⟨r,hr,n0,hn0⟩:=ihq (t+1) om f3 _ hm'
      refine ⟨r,?_,n0,fun N k kk h1 h2 h3=>?_⟩
      ·rw [hr,hf3]
       constructor
       ·rintro ⟨⟨h1,h2⟩,h3,h4⟩
        refine ⟨h1,fun i' y hi' hy=>?_,h4⟩
        rcases Nat.eq_or_lt_of_le hi' with rfl|hlt
        ·rw [hx] at hy;cases hy;exact h2
        ·exact h3 i' y hlt hy
       ·rintro ⟨h1,h2,h3⟩
        exact ⟨⟨h1,h2 t x (Nat.le_refl _) hx⟩,fun i' y hi' hy=>h2 i' y om hy,h3⟩
      ·unfold JZ
       have:=hm x.name
       rw [wr (x:=(t:Int)+1) om om,wr (x:=Ck m x.name+1) om om,show (t:Int)+1=((t+1:Nat):Int) by omega]
       exact hn0 N k kk h1 h2 h3
     have hcnt:=List.count_pos_iff (a:=x.name) (l:=(f.params.take t).map (·.name))
     cases hpos:decide (Ck m x.name>0)
     ·have hpos':=Do hpos
      obtain ⟨r,hr,n0,hn0⟩:=next f2 ⟨fun h=>⟨h,fun h'=>by have:=hcnt.2 h';rw [hm] at hpos';omega⟩,fun h=>h.1⟩
      refine ⟨r,hr,n0+1,fun N k kk h1 h2 h3=>?_⟩
      obtain ⟨kk,rfl⟩: ∃j,kk=j+1:=⟨kk - 1,om⟩
      show Fw N p mpl i (Cz N p mpl k) f (Fo N p mpl i (Cz N p mpl k) f kk) t f2.why f2.at_ m=_
      unfold Fw
      rw [show decide ((t:Int)< (f.params.length:Int))=true from decide_eq_true om,cond_true,CA hx,Option.bind_some,hpos,cond_false]
      exact hn0 N k kk om om om
     ·have hpos':=CO hpos
      obtain ⟨f3,e3,h3⟩:=QU (y:=30) (a:=x.at_) (flt:=⟨f2.why,f2.at_⟩) (by decide)
      obtain ⟨r,hr,n0,hn0⟩:=next f3 ⟨fun h=>absurd h h3,fun h=>absurd (hcnt.1 (by rw [hm] at hpos';omega)) h.2⟩
      refine ⟨r,hr,n0+1,fun N k kk h1 h2 h3=>?_⟩
      obtain ⟨kk,rfl⟩: ∃j,kk=j+1:=⟨kk - 1,om⟩
      show Fw N p mpl i (Cz N p mpl k) f (Fo N p mpl i (Cz N p mpl k) f kk) t f2.why f2.at_ m=_
      unfold Fw
      rw [show decide ((t:Int)< (f.params.length:Int))=true from decide_eq_true om,cond_true,CA hx,Option.bind_some,hpos,cond_true,e3,Option.bind_some]
      exact hn0 N k kk om om om
   obtain ⟨r,hr,n0,hn0⟩:=pars f.params.length 0 om f0 [] fun s=>by simp [Tj]
   refine ⟨r,hr.trans ?_,n0,fun N k h1 h2=>hn0 N k N h1 h2 h1⟩
   constructor
   ·rintro ⟨h1,h2,h3,h4⟩
    refine ⟨h1,fun i' g hi' hg=>?_⟩
    rcases Nat.eq_or_lt_of_le hi' with rfl|hlt
    ·rw [hf] at hg;cases hg;exact ⟨fun i x hx=>h2 i x (Nat.zero_le _) hx,h3⟩
    ·exact h4 i' g hlt hg
   ·rintro ⟨h1,h2⟩
    have:=h2 i f (Nat.le_refl _) hf
    exact ⟨h1,fun i' x _ hx=>this.1 i' x hx,this.2,fun i' g hi' hg=>h2 i' g om hg⟩
 have places: ∀(j i:Nat),i+j=p.funcs.length→∀(f0:AF) (m:Ao),(∀nm,(nm∉(p.funcs.take i).map (·.name)∧Ck m nm=0)∨∃(k:Nat) (f:AE),k<i∧p.funcs[k]?=some f∧hd p nm=some f∧Ck m nm=(k:Int)+1)→
   EL (fun N k=>Hf N p k (i:Int) f0.why f0.at_ m) fun r=>r.why=0↔f0.why=0∧(∀i' f,i≤i'→p.funcs[i']?=some f→f.name∉(p.funcs.take i').map (·.name))∧∀f∈p.funcs,PN f∧Sc p (fun s=>s∈f.params.map (·.name)) f.body:=by
  intro j
  induction j with
  |zero=>
   intro i hi f0 m hm
   have htk:p.funcs.take i=p.funcs:=List.take_of_length_le om
   refine EL.down ?_
   show EL (fun N k=>H0 N p (Hf N p k) i f0.why f0.at_ m) _
   unfold H0
   refine EL.cond (fun h=>by have:=CO h;omega) fun _=>?_
   have hpl:Pl p m:=fun nm=>by
    rcases hm nm with ⟨h1,h2⟩| ⟨k,f,h1,h2,h3,h4⟩
    ·rw [htk] at h1;exact .inl ⟨VR h1,h2⟩
    ·exact .inr ⟨k,f,h2,h3,h4⟩
   refine EL.of ((bodies m hpl p.funcs.length 0 om f0).diag.mono fun r hr=>?_)
   rw [hr]
   constructor
   ·rintro ⟨h1,h2⟩
    refine ⟨h1,fun i' f hi' hf=>by have:=(List.getElem?_eq_some_iff.1 hf).1;omega,fun f hf=>?_⟩
    obtain ⟨i',hi'⟩:=List.mem_iff_getElem?.1 hf
    exact h2 i' f (Nat.zero_le _) hi'
   ·rintro ⟨h1,_,h2⟩
    exact ⟨h1,fun i' f _ hf=>h2 f (List.mem_of_getElem? hf)⟩
  |succ j ihj=>
   intro i hi f0 m hm
   obtain ⟨f,hf⟩: ∃f,p.funcs[i]?=some f:=⟨_,List.getElem?_eq_getElem om⟩
   have htk:(p.funcs.take (i+1)).map (·.name)=(p.funcs.take i).map (·.name)++[f.name]:=by rw [List.take_add_one,hf];simp
   refine EL.down ?_
   show EL (fun N k=>H0 N p (Hf N p k) i f0.why f0.at_ m) _
   unfold H0
   refine EL.cond (fun _=>?_) fun h=>by have:=Do h;omega
   refine EL.eq (CA hf) ?_
   have e1:IntKind.i64.wrap ((i:Int)+1)=((i+1:Nat):Int):=by rw [wr om om];omega
   refine EL.cond (fun h=>?_) fun h=>?_
   ·have h:=CO h
    refine EL.tb (QU (by decide)) fun f3 h3=>?_
    unfold JY
    rw [e1]
    have hin:f.name∈(p.funcs.take i).map (·.name):=by
     rcases hm f.name with ⟨_,h2⟩| ⟨k,g,h1,h2,h3,h4⟩
     ·omega
     ·have hgn:g.name=f.name:=by unfold hd at h3;have:=List.find?_some h3;simpa using this
      rw [←hgn]
      refine List.mem_map.2 ⟨g,?_,rfl⟩
      rw [List.mem_take_iff_getElem]
      obtain ⟨hkl,hke⟩:=List.getElem?_eq_some_iff.1 h2
      exact ⟨k,om,hke⟩
    refine (ihj (i+1) om f3 m fun nm=>?_).mono fun r hr=>?_
    ·rcases hm nm with ⟨h1,h2⟩| ⟨k,g,h1,h2,h3,h4⟩
     ·refine .inl ⟨fun h'=>?_,h2⟩
      rw [htk] at h'
      rcases List.mem_append.1 h' with h'|h'
      ·exact h1 h'
      ·simp at h';subst h';exact h1 hin
     ·exact .inr ⟨k,g,om,h2,h3,h4⟩
    ·rw [hr]
     exact ⟨fun h=>absurd h.1 h3,fun h=>absurd hin (h.2.1 i f (Nat.le_refl _) hf)⟩
   ·have h:=Do h
    unfold JY
    rw [e1]
    have hout:f.name∉(p.funcs.take i).map (·.name):=by
     rcases hm f.name with ⟨h1,_⟩| ⟨k,g,h1,h2,h3,h4⟩
     ·exact h1
     ·omega
    refine (ihj (i+1) om f0 (Lm f.name ((i+1:Nat):Int) m) fun nm=>?_).mono fun r hr=>?_
    ·rw [MV]
     cases hn:(nm==f.name)
     ·have hne:nm≠f.name:=by simpa using hn
      rw [cond_false]
      rcases hm nm with ⟨h1,h2⟩| ⟨k,g,h1,h2,h3,h4⟩
      ·refine .inl ⟨fun h'=>?_,h2⟩
       rw [htk] at h'
       rcases List.mem_append.1 h' with h'|h'
       ·exact h1 h'
       ·simp at h';exact hne h'
      ·exact .inr ⟨k,g,om,h2,h3,h4⟩
     ·have hne:nm=f.name:=by simpa using hn
      subst hne
      rw [cond_true]
      exact .inr ⟨i,f,om,hf,QV hf rfl hout,om⟩
    ·rw [hr]
     constructor
     ·rintro ⟨h1,h2,h3⟩
      refine ⟨h1,fun i' g hi' hg=>?_,h3⟩
      rcases Nat.eq_or_lt_of_le hi' with rfl|hlt
      ·rw [hf] at hg;cases hg;exact hout
      ·exact h2 i' g hlt hg
     ·rintro ⟨h1,h2,h3⟩
      exact ⟨h1,fun i' g hi' hg=>h2 i' g om hg,h3⟩
 refine (places p.funcs.length 0 om ⟨0,0⟩ [] fun nm=> .inl ⟨by simp,Tj nm⟩).diag.mono fun r hr=>?_
 rw [hr]
 constructor
 ·rintro ⟨_,h1,h2⟩;exact ⟨fun i f hf=>h1 i f (Nat.zero_le _) hf,h2⟩
 ·rintro ⟨h1,h2⟩;exact ⟨rfl,fun i f _ hf=>h1 i f hf,h2⟩
end
end Fth
namespace Fth
open Go
theorem P1{α:Type}{b:Nat}{xs ys:List α}(hb:b≤16)(h:xs.length+ys.length≤8000000000000):T (GS b xs ys) fun _=>True:=by
 rw [GS,if_pos]
 ·exact .some trivial
 ·refine ⟨?_,om⟩
  have:=Nat.mul_le_mul h hb
  omega
theorem QW{p:AL}{nm:List UInt8}{N:Nat}(hl:p.funcs.length≤1000000)(hN:p.funcs.length+2≤N):
  T (G3 N p nm) fun r=>(hd p nm=none∧r= -1)∨∃(i:Nat) (f:AE),p.funcs[i]?=some f∧hd p nm=some f∧r=(i:Int)∧f.name=nm∧nm∉(p.funcs.take i).map (·.name):=by
 have loop: ∀(k i:Nat),i≤p.funcs.length→p.funcs.length<i+k→nm∉(p.funcs.take i).map (·.name)→T (Ih p nm k (i:Int)) fun r=>(hd p nm=none∧r= -1)∨∃(i:Nat) (f:AE),p.funcs[i]?=some f∧hd p nm=some f∧r=(i:Int)∧f.name=nm∧nm∉(p.funcs.take i).map (·.name):=by
  intro k
  induction k with
  |zero=>intro i _ _;omega
  |succ k ih=>
   intro i hi hk hno
   show T (J4 p nm (Ih p nm k) i) _
   unfold J4
   refine T.cond (fun h=>?_) fun h=>?_
   ·have h:=CO h
    obtain ⟨f,hf⟩: ∃f,p.funcs[i]?=some f:=⟨_,List.getElem?_eq_getElem om⟩
    refine T.eq (CA hf) (T.cond (fun hn=>?_) fun hn=>?_)
    ·have hn:f.name=nm:=by simpa using hn
     exact .some (.inr ⟨i,f,hf,QV hf hn hno,rfl,hn,hno⟩)
    ·have hn:f.name≠nm:=by simpa using hn
     rw [wr om om,show (i:Int)+1=((i+1:Nat):Int) by omega]
     refine ih (i+1) om om fun h'=>?_
     rw [List.take_add_one,hf] at h'
     simp only [List.map_append,List.mem_append] at h'
     rcases h' with h'|h'
     ·exact hno h'
     ·simp at h';exact hn h'.symm
   ·have h:=Do h
    rw [List.take_of_length_le om] at hno
    exact .some (.inl ⟨VR hno,rfl⟩)
 exact loop N 0 om om (by simp)
theorem Yy{l:List (List UInt8)}{s:List UInt8}{N:Nat}(hl:l.length≤2000000000)(hN:l.length+2≤N):It N l s=some (decide (s∈l)):=by
 have loop: ∀(k i:Nat),i≤l.length→l.length<i+k→s∉l.take i→Jv l s k (i:Int)=some (decide (s∈l)):=by
  intro k
  induction k with
  |zero=>intro i _ _;omega
  |succ k ih=>
   intro i hi hk hno
   show Kw l s (Jv l s k) i=_
   unfold Kw
   cases h:decide ((i:Int)< (l.length:Int))
   ·have h:=Do h
    rw [List.take_of_length_le om] at hno
    rw [cond_false,decide_eq_false hno]
   ·have h:=CO h
    obtain ⟨x,hx⟩: ∃f,l[i]?=some f:=⟨_,List.getElem?_eq_getElem om⟩
    rw [cond_true,CA hx,Option.bind_some]
    cases hn:(x==s)
    ·have hn:x≠s:=by simpa using hn
     rw [cond_false,wr om om,show (i:Int)+1=((i+1:Nat):Int) by omega]
     refine ih (i+1) om om fun h'=>?_
     rw [List.take_add_one,hx] at h'
     rcases List.mem_append.1 h' with h'|h'
     ·exact hno h'
     ·simp at h';exact hn h'.symm
    ·have hn:x=s:=by simpa using hn
     subst hn
     rw [cond_true,decide_eq_true (List.mem_of_getElem? hx)]
 exact loop N 0 om om (by simp)
theorem Z7{a b:List (List UInt8)}(h:a.length+b.length≤2000000000):Ii a b=some (a++b):=by
 unfold Ii
 obtain ⟨_,e1,_⟩:=P1 (b:=16) (xs:=([]:List (List UInt8))) (ys:=a) (by decide) (by simp;omega)
 obtain ⟨_,e2,_⟩:=P1 (b:=16) (xs:=([]:List (List UInt8))++a) (ys:=b) (by decide) (by simp;omega)
 rw [e1,Option.bind_some,e2,Option.bind_some,List.nil_append]
section
variable{p:AL}
def NL(p:AL)(l:List A7):Prop:=∀s∈l,s.free=false∧KI p s.e
theorem Z8: ∀(n:Nat) (e:AB),DZ e≤n→∀(C:List (List UInt8)),C.length+2*n≤1000000000→n≤10000000→ET (fun N=>ref06_seen N e C) fun l=>l.length≤DZ e∧(NL p l↔Sc p (fun s=>s∈C) e):=by
 intro n
 induction n with
 |zero=>intro e he;have:=MT e;omega
 |succ n ih=>
  intro e he C hC hn
  have hal:=Mj e.args
  have hes:=O0 e
  refine ET.down ?_
  show ET (fun N=>Kj (BT.at N) N e C) _
  have loop: ∀(j i:Nat),i+j=e.args.length→∀(acc:List A7),acc.length≤1+CL (e.args.take i)→
    EL (fun N k=>IP (BT.at N) e C k acc (i:Int)) fun l=>l.length≤1+CL e.args - (1+CL (e.args.take i) - acc.length)∧(NL p l↔NL p acc∧∀i' a,i≤i'→e.args[i']?=some a→Sc p (fun s=>s∈bnd e i'∨s∈C) a):=by
   intro j
   induction j with
   |zero=>
    intro i hi acc hacc
    refine EL.down ?_
    show EL (fun N k=>Ij (BT.at N) e C (IP (BT.at N) e C k) acc i) _
    unfold Ij
    have htk:e.args.take i=e.args:=List.take_of_length_le om
    refine EL.cond (fun h=>by have:=CO h;omega) fun _=> .some ⟨by rw [htk] at hacc ⊢;omega,fun h=>⟨h,fun i' a hi' ha=>?_⟩,fun h=>h.1⟩
    have:=(List.getElem?_eq_some_iff.1 ha).1
    omega
   |succ j ihj=>
    intro i hi acc hacc
    refine EL.down ?_
    show EL (fun N k=>Ij (BT.at N) e C (IP (BT.at N) e C k) acc i) _
    unfold Ij
    obtain ⟨a,ha⟩: ∃a,e.args[i]?=some a:=⟨_,List.getElem?_eq_getElem om⟩
    have has:=Nu (List.mem_of_getElem? ha)
    have hbl:=XO e i
    have htk:CL (e.args.take (i+1))=CL (e.args.take i)+DZ a:=by rw [List.take_add_one,ha];simp [JN,CL]
    have htk2:CL (e.args.take (i+1))≤CL e.args:=by
     have:=JN (e.args.take (i+1)) (e.args.drop (i+1))
     rw [List.take_append_drop] at this;omega
    refine EL.cond (fun _=>?_) fun h=>by have:=Do h;omega
    refine EL.eq (Z4 e i) (EL.eq (Z7 om) (EL.eq (CA ha) (EL.bind (P:=fun l=>l.length≤DZ a∧(NL p l↔Sc p (fun s=>s∈bnd e i∨s∈C) a)) ?_ fun l hl=>?_)))
    ·have:=ih a om (C++bnd e i) (by rw [List.length_append];omega) om
     have eB:(fun s=>s∈C++bnd e i)=fun s=>s∈bnd e i∨s∈C:=funext fun s=>propext (List.mem_append.trans Or.comm)
     rw [eB] at this
     exact this
    ·refine EL.tb (Ff (by decide) om) fun _ _=>?_
     rw [wr om om,show (i:Int)+1=((i+1:Nat):Int) by omega]
     refine (ihj (i+1) om (acc++l) (by rw [List.length_append,htk];omega)).mono fun r hr=>⟨by have:=hr.1;rw [List.length_append,htk] at this;omega,?_⟩
     rw [hr.2]
     constructor
     ·rintro ⟨h1,h2⟩
      have a1:NL p acc:=fun s hs=>h1 s (List.mem_append_left _ hs)
      have a2:NL p l:=fun s hs=>h1 s (List.mem_append_right _ hs)
      refine ⟨a1,fun i' b hi' hb=>?_⟩
      rcases Nat.eq_or_lt_of_le hi' with rfl|hlt
      ·rw [ha] at hb;cases hb;exact hl.2.1 a2
      ·exact h2 i' b hlt hb
     ·rintro ⟨h1,h2⟩
      refine ⟨fun s hs=>?_,fun i' b hi' hb=>h2 i' b om hb⟩
      rcases List.mem_append.1 hs with hs|hs
      ·exact h1 s hs
      ·exact hl.2.2 (h2 i a (Nat.le_refl _) ha) s hs
  have j1: ∀(acc:List A7),acc.length≤1→(NL p acc↔(e.op=6→e.name∈C)∧KI p e)→ET (fun N=>JH (BT.at N) N e C acc) fun l=>l.length≤DZ e∧(NL p l↔Sc p (fun s=>s∈C) e):=by
   intro acc hacc hok
   unfold JH
   refine (loop e.args.length 0 om acc om).diag.mono fun r hr=>⟨om,?_⟩
   rw [hr.2,hok,Yw]
   constructor
   ·rintro ⟨⟨h1,h2⟩,h3⟩;exact ⟨h1,h2,fun i a ha=>h3 i a (Nat.zero_le _) ha⟩
   ·rintro ⟨h1,h2,h3⟩;exact ⟨⟨h1,h2⟩,fun i a _ ha=>h3 i a ha⟩
  unfold Kj Kx
  refine ET.cond (fun h=>?_) fun h=>?_
  ·have h6:=B9 h
   refine ET.cond (fun _=>ET.cond (fun _=>?_) fun h=>absurd h6 (Bn h)) fun h=>by cases h
   refine ET.bind (P:=fun b=>b=decide (e.name∈C)) (RP (C.length+2) ⟨_,rfl,fun N hN=>Yy om hN⟩) fun b hb=>?_
   subst hb
   refine ET.tb (Ff (by decide) (by simp)) fun _ _=>j1 _ (by simp) ?_
   simp only [List.nil_append,NL,List.mem_singleton,forall_eq]
   constructor
   ·rintro ⟨h1,h2⟩;exact ⟨fun _=>by simpa using h1,h2⟩
   ·rintro ⟨h1,h2⟩;exact ⟨by simpa using h1 h6,h2⟩
  ·have h6:=Bn h
   cases h7:(e.op==7)
   ·have h7:=Bn h7
    refine ET.cond (fun h=>by cases h) fun _=>j1 _ (by simp) ?_
    exact ⟨fun _=>⟨fun h=>absurd h h6,fun h=>absurd h h7⟩,fun _ s hs=>by cases hs⟩
   ·refine ET.cond (fun _=>ET.cond (fun h=>absurd (B9 h) h6) fun _=>?_) fun h=>by cases h
    refine ET.tb (Ff (by decide) (by simp)) fun _ _=>j1 _ (by simp) ?_
    simp only [List.nil_append,NL,List.mem_singleton,forall_eq]
    exact ⟨fun h=>⟨fun h'=>absurd h' h6,h.2⟩,fun h=>⟨trivial,h.2⟩⟩
def GF(l:List AF)(n:Nat):Prop:=(∀y∈l,y.why≠0)∧l.length≤n
theorem GF.snoc{l:List AF}{n:Nat}{y:AF}(h:GF l n)(hy:y.why≠0):GF (l++[y]) (n+1):=by
 refine ⟨fun z hz=>?_,by simp;exact h.2⟩
 rcases List.mem_append.1 hz with hz|hz
 ·exact h.1 z hz
 ·simp at hz;subst hz;exact hy
theorem Xs(hlen:p.funcs.length≤50000)(hb: ∀f∈p.funcs,DZ f.body≤1000000∧f.params.length≤1000000):ET (fun N=>HQ N p) fun l=>GF l 200000000000∧(l=[]↔Z3 p):=by
 have seens: ∀(l:List A7),l.length≤1000000→∀(i:Nat) (S:Nat→Nat→List AF→Int→Option (List AF)) (n0:Nat),n0+2*l.length≤300000000000→i≤50000→∀(j t:Nat),t+j=l.length→∀acc,GF acc (n0+2*t)→
   ∃acc',GF acc' (n0+2*l.length)∧(acc'=[]↔acc=[]∧∀t' s,t≤t'→l[t']?=some s→s.free=false∧KI p s.e)∧∃n1,∀N k kk,n1≤N→n1≤kk→D4 N p i (S N k) l kk acc (t:Int)=S N k acc' ((i+1:Nat):Int):=by
  intro l hl i S n0 hn0 hi j
  induction j with
  |zero=>
   intro t ht acc hacc
   refine ⟨acc,by rw [show t=l.length by omega] at hacc;exact hacc,⟨fun h=>⟨h,fun t' s ht' hs=>by have:=(List.getElem?_eq_some_iff.1 hs).1;omega⟩,fun h=>h.1⟩,1,fun N k kk _ hkk=>?_⟩
   obtain ⟨kk,rfl⟩: ∃j,kk=j+1:=⟨kk - 1,om⟩
   show FO N p i (S N k) l (D4 N p i (S N k) l kk) acc t=_
   unfold FO
   rw [show decide ((t:Int)< (l.length:Int))=false from decide_eq_false om,cond_false,wr om om,show (i:Int)+1=((i+1:Nat):Int) by omega]
  |succ j ihj=>
   intro t ht acc hacc
   obtain ⟨s,hs⟩: ∃s,l[t]?=some s:=⟨_,List.getElem?_eq_getElem om⟩
   have iff: ∀{A:Prop},(A↔acc=[]∧(s.free=false∧KI p s.e))→((A∧∀t' s,t+1≤t'→l[t']?=some s→s.free=false∧KI p s.e)↔acc=[]∧∀t' s,t≤t'→l[t']?=some s→s.free=false∧KI p s.e):=by
    intro A hA
    rw [hA]
    constructor
    ·rintro ⟨⟨h1,h2⟩,h3⟩
     refine ⟨h1,fun t' s' ht' hs'=>?_⟩
     rcases Nat.eq_or_lt_of_le ht' with rfl|hlt
     ·rw [hs] at hs';cases hs';exact h2
     ·exact h3 t' s' hlt hs'
    ·rintro ⟨h1,h2⟩
     exact ⟨⟨h1,h2 t s (Nat.le_refl _) hs⟩,fun t' s' ht' hs'=>h2 t' s' om hs'⟩
   have e1:IntKind.i64.wrap ((t:Int)+1)=((t+1:Nat):Int):=by rw [wr om om];omega
   have call: ∀(a1:List AF),GF a1 (n0+2*t+1)→(a1=[]↔acc=[]∧s.free=false)→∃acc',GF acc' (n0+2*l.length)∧(acc'=[]↔acc=[]∧∀t' s,t≤t'→l[t']?=some s→s.free=false∧KI p s.e)∧∃n1,∀N k kk,n1≤N→n1≤kk→Fy N p t (D4 N p i (S N k) l kk) s a1=S N k acc' ((i+1:Nat):Int):=by
    intro a1 ha1 hf
    have go: ∀a2,GF a2 (n0+2*(t+1))→(a2=[]↔acc=[]∧(s.free=false∧KI p s.e))→∃acc',GF acc' (n0+2*l.length)∧(acc'=[]↔acc=[]∧∀t' s,t≤t'→l[t']?=some s→s.free=false∧KI p s.e)∧∃n1,∀N k kk,n1≤N→n1≤kk→Fx t (D4 N p i (S N k) l kk) a2=S N k acc' ((i+1:Nat):Int):=by
     intro a2 h2 h3
     obtain ⟨acc',q1,q2,n1,q3⟩:=ihj (t+1) om a2 h2
     refine ⟨acc',q1,q2.trans (iff h3),n1,fun N k kk hN hkk=>?_⟩
     unfold Fx
     rw [e1]
     exact q3 N k kk hN hkk
    have up:GF a1 (n0+2*(t+1)):=⟨ha1.1,by have:=ha1.2;omega⟩
    cases h7:(s.e.op != 7)
    ·have h7':=Jp h7
     have hcall: ∀N,p.funcs.length+2≤N→T (G3 N p s.e.name) fun r=>(hd p s.e.name=none∧r= -1)∨∃(i:Nat) (f:AE),p.funcs[i]?=some f∧hd p s.e.name=some f∧r=(i:Int)∧f.name=s.e.name∧s.e.name∉(p.funcs.take i).map (·.name):=fun N hN=>QW om hN
     have bad: ∀y:Int,y≠0→¬KI p s.e→∃acc',GF acc' (n0+2*l.length)∧(acc'=[]↔acc=[]∧∀t' s,t≤t'→l[t']?=some s→s.free=false∧KI p s.e)∧∃n1,∀N k kk,n1≤N→n1≤kk→((GS 16 a1 [AF.mk y s.e.at_]).bind fun _=>Fx t (D4 N p i (S N k) l kk) (a1++[AF.mk y s.e.at_]))=S N k acc' ((i+1:Nat):Int):=by
      intro y hy hno
      obtain ⟨acc',q1,q2,n1,q3⟩:=go (a1++[AF.mk y s.e.at_]) ⟨(ha1.snoc hy).1,by have:=(ha1.snoc (y:=AF.mk y s.e.at_) hy).2;omega⟩ ⟨fun h=>by simp at h,fun h=>absurd h.2.2 hno⟩
      refine ⟨acc',q1,q2,n1,fun N k kk hN hkk=>?_⟩
      obtain ⟨_,e,_⟩:=P1 (b:=16) (xs:=a1) (ys:=[AF.mk y s.e.at_]) (by decide) (by have:=ha1.2;simp;omega)
      rw [e,Option.bind_some]
      exact q3 N k kk hN hkk
     cases hh:hd p s.e.name with
     |none=>
      obtain ⟨acc',q1,q2,n1,q3⟩:=bad 32 (by decide) fun h=>by obtain ⟨f,hf',_⟩:=h h7';rw [hh] at hf';cases hf'
      refine ⟨acc',q1,q2,n1+p.funcs.length+2,fun N k kk hN hkk=>?_⟩
      unfold Fy
      obtain ⟨r,hr,hr'⟩:=hcall N om
      rcases hr' with ⟨_,h0⟩| ⟨_,f,_,h0,_⟩
      ·subst h0
       rw [h7,cond_false,hr,Option.bind_some,show decide ((-1:Int)<0)=true from rfl,cond_true]
       exact q3 N k kk om om
      ·rw [hh] at h0;cases h0
     |some f=>
      rcases Decidable.em (f.params.length=s.e.args.length) with hfl|hfl
      ·obtain ⟨acc',q1,q2,n1,q3⟩:=go a1 up (by rw [hf];exact ⟨fun h=>⟨h.1,h.2,fun _=>⟨f,hh,hfl⟩⟩,fun h=>⟨h.1,h.2.1⟩⟩)
       refine ⟨acc',q1,q2,n1+p.funcs.length+2,fun N k kk hN hkk=>?_⟩
       unfold Fy
       obtain ⟨r,hr,hr'⟩:=hcall N om
       rcases hr' with ⟨h0,_⟩| ⟨i2,f2,h1,h0,h3,_⟩
       ·rw [hh] at h0;cases h0
       ·rw [hh] at h0;cases h0
        subst h3
        rw [h7,cond_false,hr,Option.bind_some,show decide ((i2:Int)<0)=false from decide_eq_false om,cond_false,CA h1,Option.bind_some,show ((f.params.length:Int) != (s.e.args.length:Int))=false by simp;omega,cond_false]
        exact q3 N k kk om om
      ·obtain ⟨acc',q1,q2,n1,q3⟩:=bad 33 (by decide) fun h=>by obtain ⟨g,hg,hl⟩:=h h7';rw [hh] at hg;cases hg;exact hfl hl
       refine ⟨acc',q1,q2,n1+p.funcs.length+2,fun N k kk hN hkk=>?_⟩
       unfold Fy
       obtain ⟨r,hr,hr'⟩:=hcall N om
       rcases hr' with ⟨h0,_⟩| ⟨i2,f2,h1,h0,h3,_⟩
       ·rw [hh] at h0;cases h0
       ·rw [hh] at h0;cases h0
        subst h3
        rw [h7,cond_false,hr,Option.bind_some,show decide ((i2:Int)<0)=false from decide_eq_false om,cond_false,CA h1,Option.bind_some,show ((f.params.length:Int) != (s.e.args.length:Int))=true by simp;omega,cond_true]
        exact q3 N k kk om om
    ·have h7':=Li h7
     obtain ⟨acc',q1,q2,n1,q3⟩:=go a1 up (by rw [hf];exact ⟨fun h=>⟨h.1,h.2,fun h=>absurd h h7'⟩,fun h=>⟨h.1,h.2.1⟩⟩)
     refine ⟨acc',q1,q2,n1,fun N k kk hN hkk=>?_⟩
     unfold Fy
     rw [h7,cond_true]
     exact q3 N k kk hN hkk
   cases hfr:s.free
   ·obtain ⟨acc',q1,q2,n1,q3⟩:=call acc ⟨hacc.1,by have:=hacc.2;omega⟩ ⟨fun h=>⟨h,hfr⟩,fun h=>h.1⟩
    refine ⟨acc',q1,q2,n1+1,fun N k kk hN hkk=>?_⟩
    obtain ⟨kk,rfl⟩: ∃j,kk=j+1:=⟨kk - 1,om⟩
    show FO N p i (S N k) l (D4 N p i (S N k) l kk) acc t=_
    unfold FO
    rw [show decide ((t:Int)< (l.length:Int))=true from decide_eq_true om,cond_true,CA hs,Option.bind_some,hfr,cond_false]
    exact q3 N k kk om om
   ·obtain ⟨acc',q1,q2,n1,q3⟩:=call (acc++[AF.mk 31 s.e.at_]) (hacc.snoc (y:=AF.mk 31 s.e.at_) (show (31:Int)≠0 by decide)) ⟨fun h=>by simp at h,fun h=>by rw [hfr] at h;cases h.2⟩
    refine ⟨acc',q1,q2,n1+1,fun N k kk hN hkk=>?_⟩
    obtain ⟨kk,rfl⟩: ∃j,kk=j+1:=⟨kk - 1,om⟩
    show FO N p i (S N k) l (D4 N p i (S N k) l kk) acc t=_
    unfold FO
    obtain ⟨_,e,_⟩:=P1 (b:=16) (xs:=acc) (ys:=[AF.mk 31 s.e.at_]) (by decide) (by have:=hacc.2;simp;omega)
    rw [show decide ((t:Int)< (l.length:Int))=true from decide_eq_true om,cond_true,CA hs,Option.bind_some,hfr,cond_true,e,Option.bind_some]
    exact q3 N k kk om om
 have pars: ∀(i:Nat) (f:AE),p.funcs[i]?=some f→∀(S:Nat→Nat→List AF→Int→Option (List AF)) (n0:Nat),n0+3000000≤300000000000→∀(j t:Nat),t+j=f.params.length→∀acc,GF acc (n0+t)→
   ∃acc',GF acc' (n0+3000000)∧(acc'=[]↔acc=[]∧(∀t' x,t≤t'→f.params[t']?=some x→x.name∉(f.params.take t').map (·.name))∧Sc p (fun s=>s∈f.params.map (·.name)) f.body)∧∃n1,∀N k kk,n1≤N→n1≤kk→EQ N p i (S N k) f kk acc ((f.params.take t).map (·.name)) (t:Int)=S N k acc' ((i+1:Nat):Int):=by
  intro i f hf S n0 hn0 j
  have hfb:=hb f (List.mem_of_getElem? hf)
  have hil:=(List.getElem?_eq_some_iff.1 hf).1
  induction j with
  |zero=>
   intro t ht acc hacc
   have htk:f.params.take t=f.params:=List.take_of_length_le om
   obtain ⟨l,hl,n2,hn2⟩:=Z8 (p:=p) (DZ f.body) f.body (Nat.le_refl _) (f.params.map (·.name)) (by rw [List.length_map];omega) om
   obtain ⟨acc',q1,q2,n1,q3⟩:=seens l om i S (n0+t) om om l.length 0 om acc (by simpa using hacc)
   refine ⟨acc',⟨q1.1,by have:=q1.2;omega⟩,?_,n1+n2+1,fun N k kk hN hkk=>?_⟩
   ·rw [q2,←hl.2]
    constructor
    ·rintro ⟨h1,h2⟩
     refine ⟨h1,fun t' x ht' hx=>by have:=(List.getElem?_eq_some_iff.1 hx).1;omega,fun s hs=>?_⟩
     obtain ⟨t',ht'⟩:=List.mem_iff_getElem?.1 hs
     exact h2 t' s (Nat.zero_le _) ht'
    ·rintro ⟨h1,_,h2⟩
     exact ⟨h1,fun t' s _ hs=>h2 s (List.mem_of_getElem? hs)⟩
   ·obtain ⟨kk,rfl⟩: ∃j,kk=j+1:=⟨kk - 1,om⟩
    show FP N p i (S N k) f (EQ N p i (S N k) f kk) acc ((f.params.take t).map (·.name)) t=_
    unfold FP
    have es:ref06_seen N f.body (f.params.map (·.name))=some l:=hn2 N om
    rw [show decide ((t:Int)< (f.params.length:Int))=false from decide_eq_false om,cond_false,Px,htk,es,Option.bind_some]
    exact q3 N k N om om
  |succ j ihj=>
   intro t ht acc hacc
   obtain ⟨x,hx⟩: ∃x,f.params[t]?=some x:=⟨_,List.getElem?_eq_getElem om⟩
   have htk:(f.params.take (t+1)).map (·.name)=(f.params.take t).map (·.name)++[x.name]:=by rw [List.take_add_one,hx];simp
   have hln:((f.params.take t).map (·.name)).length=t:=by simp;omega
   have go: ∀a2,GF a2 (n0+(t+1))→(a2=[]↔acc=[]∧x.name∉(f.params.take t).map (·.name))→∃acc',GF acc' (n0+3000000)∧(acc'=[]↔acc=[]∧(∀t' x,t≤t'→f.params[t']?=some x→x.name∉(f.params.take t').map (·.name))∧Sc p (fun s=>s∈f.params.map (·.name)) f.body)∧
     ∃n1,∀N k kk,n1≤N→n1≤kk→Iu f ((f.params.take t).map (·.name)) t (EQ N p i (S N k) f kk) a2=S N k acc' ((i+1:Nat):Int):=by
    intro a2 h2 h3
    obtain ⟨acc',q1,q2,n1,q3⟩:=ihj (t+1) om a2 h2
    refine ⟨acc',q1,q2.trans ?_,n1,fun N k kk hN hkk=>?_⟩
    ·rw [h3]
     constructor
     ·rintro ⟨⟨h1,h2⟩,h3,h4⟩
      refine ⟨h1,fun t' y ht' hy=>?_,h4⟩
      rcases Nat.eq_or_lt_of_le ht' with rfl|hlt
      ·rw [hx] at hy;cases hy;exact h2
      ·exact h3 t' y hlt hy
     ·rintro ⟨h1,h2,h3⟩
      exact ⟨⟨h1,h2 t x (Nat.le_refl _) hx⟩,fun t' y ht' hy=>h2 t' y om hy,h3⟩
    ·unfold Iu
     obtain ⟨_,e,_⟩:=P1 (b:=16) (xs:=(f.params.take t).map (·.name)) (ys:=[x.name]) (by decide) (by rw [hln];simp;omega)
     rw [CA hx,Option.bind_some,e,Option.bind_some,wr om om,show (t:Int)+1=((t+1:Nat):Int) by omega,←htk]
     exact q3 N k kk hN hkk
   have hhas: ∀N,t+2≤N→It N ((f.params.take t).map (·.name)) x.name=some (decide (x.name∈(f.params.take t).map (·.name))):=fun N hN=>Yy (by rw [hln];omega) (by rw [hln];omega)
   rcases Decidable.em (x.name∈(f.params.take t).map (·.name)) with hin|hin
   ·obtain ⟨acc',q1,q2,n1,q3⟩:=go (acc++[AF.mk 30 x.at_]) ⟨(hacc.snoc (y:=AF.mk 30 x.at_) (show (30:Int)≠0 by decide)).1,by have:=hacc.2;simp;omega⟩ ⟨fun h=>by simp at h,fun h=>absurd hin h.2⟩
    refine ⟨acc',q1,q2,n1+t+2,fun N k kk hN hkk=>?_⟩
    obtain ⟨kk,rfl⟩: ∃j,kk=j+1:=⟨kk - 1,om⟩
    show FP N p i (S N k) f (EQ N p i (S N k) f kk) acc ((f.params.take t).map (·.name)) t=_
    unfold FP
    obtain ⟨_,e,_⟩:=P1 (b:=16) (xs:=acc) (ys:=[AF.mk 30 x.at_]) (by decide) (by have:=hacc.2;simp;omega)
    rw [show decide ((t:Int)< (f.params.length:Int))=true from decide_eq_true om,cond_true,CA hx,Option.bind_some,hhas N om,Option.bind_some,decide_eq_true hin,cond_true,e,Option.bind_some]
    exact q3 N k kk om om
   ·obtain ⟨acc',q1,q2,n1,q3⟩:=go acc ⟨hacc.1,by have:=hacc.2;omega⟩ ⟨fun h=>⟨h,hin⟩,fun h=>h.1⟩
    refine ⟨acc',q1,q2,n1+t+2,fun N k kk hN hkk=>?_⟩
    obtain ⟨kk,rfl⟩: ∃j,kk=j+1:=⟨kk - 1,om⟩
    show FP N p i (S N k) f (EQ N p i (S N k) f kk) acc ((f.params.take t).map (·.name)) t=_
    unfold FP
    rw [show decide ((t:Int)< (f.params.length:Int))=true from decide_eq_true om,cond_true,CA hx,Option.bind_some,hhas N om,Option.bind_some,decide_eq_false hin,cond_false]
    exact q3 N k kk om om
 have fns: ∀(j i:Nat),i+j=p.funcs.length→∀acc,GF acc (i*3000001)→EL (fun N k=>ER N p k acc (i:Int)) fun r=>GF r 200000000000∧(r=[]↔acc=[]∧∀i' f,i≤i'→p.funcs[i']?=some f→f.name∉(p.funcs.take i').map (·.name)∧PN f∧Sc p (fun s=>s∈f.params.map (·.name)) f.body):=by
  intro j
  induction j with
  |zero=>
   intro i hi acc hacc
   refine EL.down ?_
   show EL (fun N k=>HH N p (ER N p k) acc i) _
   unfold HH
   refine EL.cond (fun h=>by have:=CO h;omega) fun _=> .some ⟨⟨hacc.1,by have:=hacc.2;omega⟩,fun h=>⟨h,fun i' f hi' hf=>by have:=(List.getElem?_eq_some_iff.1 hf).1;omega⟩,fun h=>h.1⟩
  |succ j ihj=>
   intro i hi acc hacc
   obtain ⟨f,hf⟩: ∃f,p.funcs[i]?=some f:=⟨_,List.getElem?_eq_getElem om⟩
   have step: ∀a2,GF a2 (i*3000001+1)→(a2=[]↔acc=[]∧f.name∉(p.funcs.take i).map (·.name))→EL (fun N k=>Iv N p i (ER N p k) f a2) fun r=>GF r 200000000000∧(r=[]↔acc=[]∧∀i' f,i≤i'→p.funcs[i']?=some f→f.name∉(p.funcs.take i').map (·.name)∧PN f∧Sc p (fun s=>s∈f.params.map (·.name)) f.body):=by
    intro a2 h2 h3
    obtain ⟨n0,hn0⟩: ∃n,n=i*3000001+1:=⟨_,rfl⟩
    rw [←hn0] at h2
    obtain ⟨acc',q1,q2,n1,q3⟩:=pars i f hf (fun N k=>ER N p k) n0 om f.params.length 0 om a2 h2
    obtain ⟨r,hr,n2,hn2⟩:=ihj (i+1) om acc' ⟨q1.1,by have:=q1.2;omega⟩
    refine ⟨r,⟨hr.1,hr.2.trans ?_⟩,n1+n2,fun N k hN hk=>?_⟩
    ·rw [q2,h3]
     constructor
     ·rintro ⟨⟨⟨h1,h2⟩,h3,h4⟩,h5⟩
      refine ⟨h1,fun i' g hi' hg=>?_⟩
      rcases Nat.eq_or_lt_of_le hi' with rfl|hlt
      ·rw [hf] at hg;cases hg;exact ⟨h2,fun t x hx=>h3 t x (Nat.zero_le _) hx,h4⟩
      ·exact h5 i' g hlt hg
     ·rintro ⟨h1,h2⟩
      have:=h2 i f (Nat.le_refl _) hf
      exact ⟨⟨⟨h1,this.1⟩,fun t x _ hx=>this.2.1 t x hx,this.2.2⟩,fun i' g hi' hg=>h2 i' g om hg⟩
    ·unfold Iv
     have:=q3 N k N om om
     simp only [List.take_zero,List.map_nil] at this
     show EQ N p i (ER N p k) f N a2 [] 0=some r
     refine Eq.trans this ?_
     exact hn2 N k om om
   refine EL.down ?_
   show EL (fun N k=>HH N p (ER N p k) acc i) _
   unfold HH
   refine EL.cond (fun _=>?_) fun h=>by have:=Do h;omega
   refine EL.eq (CA hf) (EL.bind (P:=fun r=>r=(i:Int)∧f.name∉(p.funcs.take i).map (·.name)∨r< (i:Int)∧f.name∈(p.funcs.take i).map (·.name)) ?_ fun r hr=>?_)
   ·rcases Decidable.em (f.name∈(p.funcs.take i).map (·.name)) with hin|hin
    ·obtain ⟨r,hr,hr'⟩:=QW (p:=p) (nm:=f.name) (N:=p.funcs.length+2) om (Nat.le_refl _)
     obtain ⟨g,hg,hgn⟩:=List.mem_map.1 hin
     rw [List.mem_take_iff_getElem] at hg
     obtain ⟨q,hq,hqe⟩:=hg
     refine RP (p.funcs.length+2) ⟨r,?_,fun N hN=>?_⟩
     ·rcases hr' with ⟨h1,_⟩| ⟨i2,f2,h1,h2,h3,h4,h5⟩
      ·unfold hd at h1
       rw [List.find?_eq_none] at h1
       exact absurd (by simp) (h1 f (List.mem_of_getElem? hf))
      ·refine .inr ⟨?_,hin⟩
       rw [h3]
       rcases Nat.lt_or_ge i2 i with h|h
       ·omega
       ·refine absurd (List.mem_map.2 ⟨g,?_,hgn⟩) h5
        rw [List.mem_take_iff_getElem]
        have:=(List.getElem?_eq_some_iff.1 h1).1
        exact ⟨q,om,hqe⟩
     ·obtain ⟨r2,hr2,hr2'⟩:=QW (p:=p) (nm:=f.name) (N:=N) om hN
      rw [hr2];congr 1
      rcases hr' with ⟨h1,h2⟩| ⟨i2,f2,h1,h2,h3,h4,h5⟩
      ·rcases hr2' with ⟨_,h3⟩| ⟨_,_,_,h3,_⟩
       ·rw [h2,h3]
       ·rw [h1] at h3;cases h3
      ·rcases hr2' with ⟨k1,_⟩| ⟨i3,f3,k1,k2,k3,k4,k5⟩
       ·rw [h2] at k1;cases k1
       ·rw [h3,k3]
        rcases Nat.lt_trichotomy i2 i3 with h|h|h
        ·refine absurd (List.mem_map.2 ⟨f2,?_,h4⟩) k5
         rw [List.mem_take_iff_getElem]
         obtain ⟨a1,a2⟩:=List.getElem?_eq_some_iff.1 h1
         have:=(List.getElem?_eq_some_iff.1 k1).1
         exact ⟨i2,om,a2⟩
        ·rw [h]
        ·refine absurd (List.mem_map.2 ⟨f3,?_,k4⟩) h5
         rw [List.mem_take_iff_getElem]
         obtain ⟨a1,a2⟩:=List.getElem?_eq_some_iff.1 k1
         have:=(List.getElem?_eq_some_iff.1 h1).1
         exact ⟨i3,om,a2⟩
    ·refine RP (p.funcs.length+2) ⟨(i:Int),.inl ⟨rfl,hin⟩,fun N hN=>?_⟩
     obtain ⟨r2,hr2,hr2'⟩:=QW (p:=p) (nm:=f.name) (N:=N) om hN
     rw [hr2];congr 1
     have hdi:=QV hf rfl hin
     rcases hr2' with ⟨k1,_⟩| ⟨i3,f3,k1,k2,k3,k4,k5⟩
     ·rw [hdi] at k1;cases k1
     ·rw [k3]
      rcases Nat.lt_trichotomy i3 i with h|h|h
      ·refine absurd (List.mem_map.2 ⟨f3,?_,k4⟩) hin
       rw [List.mem_take_iff_getElem]
       obtain ⟨a1,a2⟩:=List.getElem?_eq_some_iff.1 k1
       exact ⟨i3,om,a2⟩
      ·rw [h]
      ·refine absurd (List.mem_map.2 ⟨f,?_,rfl⟩) k5
       rw [List.mem_take_iff_getElem]
       obtain ⟨a1,a2⟩:=List.getElem?_eq_some_iff.1 hf
       have:=(List.getElem?_eq_some_iff.1 k1).1
       exact ⟨i,om,a2⟩
   ·rcases hr with ⟨h1,h2⟩| ⟨h1,h2⟩
    ·refine EL.cond (fun h=>by have:=CO h;omega) fun _=>step acc ⟨hacc.1,Nat.le_succ_of_le hacc.2⟩ ⟨fun h=>⟨h,h2⟩,fun h=>h.1⟩
    ·refine EL.cond (fun _=>EL.tb (P1 (by decide) (by have:=hacc.2;simp;omega)) fun _ _=>step _ (hacc.snoc (y:=AF.mk 30 f.at_) (show (30:Int)≠0 by decide)) ⟨fun h=>by simp at h,fun h=>absurd h2 h.2⟩) fun h=>by have:=Do h;omega
 refine (fns p.funcs.length 0 om [] ⟨fun y h=>(by cases h),by simp⟩).diag.mono fun r hr=>⟨hr.1,hr.2.trans ?_⟩
 constructor
 ·rintro ⟨_,h⟩
  refine ⟨fun i f hf=>(h i f (Nat.zero_le _) hf).1,fun f hf=>?_⟩
  obtain ⟨i,hi⟩:=List.mem_iff_getElem?.1 hf
  exact (h i f (Nat.zero_le _) hi).2
 ·rintro ⟨h1,h2⟩
  exact ⟨rfl,fun i f _ hf=>⟨h1 i f hf,h2 f (List.mem_of_getElem? hf)⟩⟩
theorem Yz(hlen:p.funcs.length≤50000)(hb: ∀f∈p.funcs,DZ f.body≤1000000∧f.params.length≤1000000):ET (fun N=>Hl N p) fun r=>r.why=0↔Z3 p:=by
 unfold Hl
 refine ET.bind (Xs hlen hb) fun l hl=>?_
 have loop: ∀(j i:Nat),i+j=l.length→∀(y a:Int),EL (fun _N k=>Hk l k (i:Int) y a) fun r=>r.why=0↔y=0∧i=l.length:=by
  intro j
  induction j with
  |zero=>
   intro i hi y a
   refine EL.down ?_
   show EL (fun _N k=>H5 l (Hk l k) i y a) _
   unfold H5
   exact EL.cond (fun h=>by have:=CO h;omega) fun _=> .some ⟨fun h=>⟨h,om⟩,fun h=>h.1⟩
  |succ j ihj=>
   intro i hi y a
   obtain ⟨x,hx⟩: ∃x,l[i]?=some x:=⟨_,List.getElem?_eq_getElem om⟩
   have hy:=hl.1.1 x (List.mem_of_getElem? hx)
   have hll:=hl.1.2
   refine EL.down ?_
   show EL (fun _N k=>H5 l (Hk l k) i y a) _
   unfold H5 KV KU
   rw [wr om om,show (i:Int)+1=((i+1:Nat):Int) by omega]
   have no: ∀{y':Int},y'≠0→∀{r:AF},(r.why=0↔y'=0∧i+1=l.length)→(r.why=0↔y=0∧i=l.length):=fun hy' _ hr=>hr.trans ⟨fun h=>absurd h.1 hy',fun h=>om⟩
   refine EL.cond (fun _=>EL.cond (fun _=>EL.cond (fun _=>EL.eq (CA hx) ((ihj (i+1) om x.why x.at_).mono fun r hr=>no hy hr)) fun h=>by cases h) fun h=>EL.eq (CA hx) (EL.cond (fun _=>EL.eq (CA hx) ((ihj (i+1) om x.why x.at_).mono fun r hr=>no hy hr)) fun _=>(ihj (i+1) om y a).mono fun r hr=>no (Bn h) hr)) fun h=>by have:=Do h;omega
 refine (loop l.length 0 om 0 0).diag.mono fun r hr=>hr.trans ?_
 rw [←hl.2]
 constructor
 ·rintro ⟨_,h⟩;exact List.length_eq_zero_iff.1 h.symm
 ·intro h;subst h;exact ⟨rfl,rfl⟩
end
end Fth
namespace Fth
open Go
def TyE(Γ:List AK):Prop:=∀x∈Γ,1≤x.type_∧x.type_≤3
theorem VS{Γ:List AK}{e:AB}(hΓ:TyE Γ)(he:WE e)(i:Nat):TyE (Win Γ e i)∧(Win Γ e i).length≤Γ.length+2:=by
 unfold Win
 split
 ·rename_i h
  refine ⟨fun x hx=>?_,by simp⟩
  rcases List.mem_cons.1 hx with rfl|hx
  ·exact he.typ om
  ·exact hΓ x hx
 ·split
  ·refine ⟨fun x hx=>?_,by simp⟩
   rcases List.mem_cons.1 hx with rfl|hx
   ·exact ⟨by simp,by simp⟩
   ·rcases List.mem_cons.1 hx with rfl|hx
    ·exact ⟨by simp,by simp⟩
    ·exact hΓ x hx
  ·exact ⟨hΓ,om⟩
theorem ABG{p:AL}(hp:WP p){e:AB}(he:WE e){t:Int}(ht:1≤t∧t≤3)(i:Nat):1≤Wan p e i t∧Wan p e i t≤3:=by
 unfold Wan
 split
 ·omega
 ·split
  ·omega
  ·split
   ·cases hh:hd p e.name with
    |none=>simp
    |some f=>
     have hf:=hp.fns f (List.mem_of_find?_eq_some hh)
     cases hx:f.params[i]? with
     |none=>simp [hx]
     |some x=>simpa [hx] using hf.ptyp x (List.mem_of_getElem? hx)
   ·split
    ·split<;>omega
    ·split
     ·split<;>omega
     ·split
      ·rename_i h
       have:=he.typ om
       split<;>omega
      ·omega
theorem Y0{α:Type}(a b:List α)(x:α):((a++x::b).reverse)[b.length]?=some x:=by
 rw [List.reverse_append,List.reverse_cons,List.append_assoc,List.getElem?_append_right (by simp)]
 simp
section
variable{p:AL}(hp:WP p)
theorem Z9{Γ:List AK}{e:AB}(hl:Γ.length≤1000000000): ∀(Γ2 Γ1:List AK),Γ=Γ1++Γ2→∀k,Γ2.length<k→Jw Γ.reverse e k ((Γ2.length:Int) - 1)=some ((Q9 Γ2 e.name).getD (-1)):=by
 intro Γ2
 induction Γ2 with
 |nil=>
  intro Γ1 h k hk
  obtain ⟨k,rfl⟩: ∃j,k=j+1:=⟨k - 1,by simp at hk;omega⟩
  rfl
 |cons x Γ2 ih=>
  intro Γ1 h k hk
  obtain ⟨k,rfl⟩: ∃j,k=j+1:=⟨k - 1,by simp at hk;omega⟩
  show Ky Γ.reverse e (Jw Γ.reverse e k) (((x::Γ2).length:Int) - 1)=_
  unfold Ky
  have hlen:Γ2.length<1000000000:=by rw [h] at hl;simp at hl;omega
  have e1:(((x::Γ2).length:Nat):Int) - 1=(Γ2.length:Int):=by simp
  have hat:Γ.reverse[Γ2.length]?=some x:=by rw [h];exact Y0 _ _ _
  rw [e1,show decide ((Γ2.length:Int)≥0)=true from decide_eq_true om,cond_true,CA hat,Option.bind_some,wr om om]
  unfold Q9
  rw [List.find?_cons]
  cases hn:(x.name==e.name)
  ·rw [cond_false]
   exact ih (Γ1++[x]) (by rw [h];simp) k (by simp at hk;omega)
  ·rfl
include hp
theorem ABb{Γ:List AK}{e:AB}{t:Int}(hΓ:TyE Γ)(hl:Γ.length≤1000000000)(he:WE e)(ht:1≤t∧t≤3):ET (fun N=>Jg N p Γ.reverse e) fun o=>(o=0∨o=t)↔OwT p Γ e t:=by
 have j1: ∀b,(b=true↔(e.op=1∨(8≤e.op∧e.op≤11)∨(15≤e.op∧e.op≤17)))→ET (fun N=>FQ N p Γ.reverse e b) fun o=>(o=0∨o=t)↔OwT p Γ e t:=by
  intro b hb
  have j2: ∀b',b=false→(b'=true↔(e.op=2∨e.op=3∨(12≤e.op∧e.op≤14)))→ET (fun N=>IF N p Γ.reverse e b') fun o=>(o=0∨o=t)↔OwT p Γ e t:=by
   intro b' hbf hb'
   have n1: ¬(e.op=1∨(8≤e.op∧e.op≤11)∨(15≤e.op∧e.op≤17)):=fun h=>by have:=hb.2 h;rw [hbf] at this;cases this
   have j3: ∀b'',b'=false→(b''=true↔(e.op=4∨e.op=18))→ET (fun N=>Kk N p Γ.reverse e b'') fun o=>(o=0∨o=t)↔OwT p Γ e t:=by
    intro b'' hbf' hb''
    have n2: ¬(e.op=2∨e.op=3∨(12≤e.op∧e.op≤14)):=fun h=>by have:=hb'.2 h;rw [hbf'] at this;cases this
    unfold Kk
    refine ET.cond (fun h=> .some ?_) fun h=>?_
    ·have h:=hb''.1 h
     exact ⟨fun h'=>⟨fun h=>absurd h n1,fun h=>absurd h n2,fun _=>om,fun h'=>om,fun h'=>om,fun h'=>om⟩,fun h'=> .inr (h'.l h).symm⟩
    have n3: ¬(e.op=4∨e.op=18):=fun h'=>by have:=hb''.2 h';rw [h] at this;cases this
    refine ET.cond (fun h=> .some ?_) fun h5=>ET.cond (fun h=>?_) fun h6=>ET.cond (fun h=>?_) fun h7=> .some ?_
    ·have h5:=B9 h
     have:=he.typ (.inl h5)
     exact ⟨fun h'=>⟨fun h=>absurd h n1,fun h=>absurd h n2,fun h=>absurd h n3,fun _=>om,fun h'=>om,fun h'=>om⟩,fun h'=> .inr (h'.f h5).symm⟩
    ·have h6:=B9 h
     refine RP (Γ.length+2) ⟨(Q9 Γ e.name).getD (-1),?_,fun N hN=>?_⟩
     ·cases hlk:Q9 Γ e.name with
      |none=>exact ⟨fun h'=>by simp at h';omega,fun h'=>by have:=h'.v h6;rw [hlk] at this;cases this⟩
      |some u=>
       have hu:1≤u∧u≤3:=by
        unfold Q9 at hlk
        obtain ⟨x,hx,rfl⟩:=Option.map_eq_some_iff.1 hlk
        exact hΓ x (List.mem_of_find?_eq_some hx)
       refine ⟨fun h'=>⟨fun h=>absurd h n1,fun h=>absurd h n2,fun h=>absurd h n3,fun h'=>om,fun _=>?_,fun h'=>om⟩,fun h'=>?_⟩
       ·simp at h';rw [hlk];congr 1;omega
       ·have:=h'.v h6;rw [hlk] at this;cases this;exact .inr rfl
     ·have:=Z9 (e:=e) hl Γ [] rfl N om
      rw [wr (by simp;omega) (by simp;omega),List.length_reverse]
      exact this
    ·have h7:=B9 h
     have hl:=hp.len
     refine ET.bind (P:=fun r=>r=hdR (hd p e.name)) (RP (p.funcs.length+2) ⟨_,rfl,fun N hN=>QR om hN⟩) fun r hr=>?_
     subst hr
     unfold La
     cases hh:hd p e.name with
     |none=>exact .some ⟨fun h=>om,fun h'=>by obtain ⟨f,hf,_⟩:=h'.c h7;rw [hh] at hf;cases hf⟩
     |some f=>
      have hf:=hp.fns f (List.mem_of_find?_eq_some hh)
      refine ET.cond (fun h=>by cases h) fun _=>ET.cond (fun h=> .some ?_) fun h=> .some ?_
      ·have h:=Li h
       exact ⟨fun h=>om,fun h'=>by obtain ⟨g,hg,hgl,_⟩:=h'.c h7;rw [hh] at hg;cases hg;exact absurd (congrArg Int.ofNat hgl) h⟩
      ·have h:=Jp h
       have:=hf.typ
       refine ⟨fun h'=>⟨fun h=>absurd h n1,fun h=>absurd h n2,fun h=>absurd h n3,fun h'=>om,fun h'=>om,fun _=>⟨f,hh,?_,?_⟩⟩,fun h'=>?_⟩
       ·have:(f.params.length:Int)=e.args.length:=h;omega
       ·have h':f.type_=0∨f.type_=t:=h';omega
       ·obtain ⟨g,hg,_,hgt⟩:=h'.c h7;rw [hh] at hg;cases hg;exact .inr hgt
    ·have h5:=Bn h5;have h6:=Bn h6;have h7:=Bn h7
     exact ⟨fun _=>⟨fun h=>absurd h n1,fun h=>absurd h n2,fun h=>absurd h n3,fun h=>absurd h h5,fun h=>absurd h h6,fun h=>absurd h h7⟩,fun _=> .inl rfl⟩
   unfold IF
   refine ET.cond (fun h=> .some ?_) fun h=>?_
   ·have h:=hb'.1 h
    exact ⟨fun h'=>⟨fun h=>absurd h n1,fun _=>om,fun h'=>om,fun h'=>om,fun h'=>om,fun h'=>om⟩,fun h'=> .inr (h'.b h).symm⟩
   ·refine ET.cond (fun h4=>j3 _ h ⟨fun _=> .inl (B9 h4),fun _=>h4⟩) fun h4=>j3 _ h ⟨fun h=> .inr (B9 h),fun h=>?_⟩
    rcases h with h|h
    ·exact absurd h (Bn h4)
    ·simp [h]
  unfold FQ
  refine ET.cond (fun h=> .some ?_) fun h=>?_
  ·have h:=hb.1 h
   exact ⟨fun h'=>⟨fun _=>om,fun h'=>om,fun h'=>om,fun h'=>om,fun h'=>om,fun h'=>om⟩,fun h'=> .inr (h'.n h).symm⟩
  ·refine ET.cond (fun h2=>j2 _ h ⟨fun _=>by have:=B9 h2;omega,fun _=>h2⟩) fun h2=>ET.cond (fun h3=>j2 _ h ⟨fun _=>by have:=B9 h3;omega,fun _=>h3⟩) fun h3=>ET.cond (fun h4=>j2 _ h ⟨fun _=>by have:=B9 h4;omega,fun _=>h4⟩) fun h4=>ET.cond (fun h5=>j2 _ h ⟨fun _=>by have:=B9 h5;omega,fun _=>h5⟩) fun h5=>j2 _ h ⟨fun h6=>by have:=B9 h6;omega,fun h6=>?_⟩
   have:=Bn h2;have:=Bn h3;have:=Bn h4;have:=Bn h5
   simp;omega
 unfold Jg
 have yes: ∀{k:Int},(k=1∨(8≤k∧k≤11)∨(15≤k∧k≤17))→(e.op==k)=true→ET (fun N=>FQ N p Γ.reverse e (e.op==k)) fun o=>(o=0∨o=t)↔OwT p Γ e t:=fun hk h=>j1 _ ⟨fun _=>by have:=B9 h;omega,fun _=>h⟩
 refine ET.cond (fun h=>yes om h) fun h1=>ET.cond (fun h=>yes om h) fun h2=>ET.cond (fun h=>yes om h) fun h3=>ET.cond (fun h=>yes om h) fun h4=>ET.cond (fun h=>yes om h) fun h5=>ET.cond (fun h=>yes om h) fun h6=>ET.cond (fun h=>yes om h) fun h7=>j1 _ ⟨fun h=>by have:=B9 h;omega,fun h=>?_⟩
 have:=Bn h1;have:=Bn h2;have:=Bn h3;have:=Bn h4;have:=Bn h5;have:=Bn h6;have:=Bn h7
 simp;omega
omit hp in
theorem Y1{l:List AK}{nm:List UInt8}{t:Int}(h:l.length≤1000000100):HI l nm t=some (l++[⟨nm,t,0⟩]):=by
 unfold HI
 obtain ⟨_,e1,_⟩:=Ff (b:=32) (xs:=([]:List AK)) (ys:=l) (by decide) (by simp;omega)
 obtain ⟨_,e2,_⟩:=Ff (b:=32) (xs:=([]:List AK)++l) (ys:=[AK.mk nm t 0]) (by decide) (by simp;omega)
 rw [e1,Option.bind_some,e2,Option.bind_some,List.nil_append]
omit hp in
theorem Y5{Γ:List AK}{e:AB}(hl:Γ.length≤1000000000)(i:Nat):Gg Γ.reverse e (i:Int)=some (Win Γ e i).reverse:=by
 unfold Gg Iw J5 Win
 have e1:((i:Int)==1)=decide (i=1):=by rw [Bool.eq_iff_iff];simp;omega
 have e2:((i:Int)==2)=decide (i=2):=by rw [Bool.eq_iff_iff];simp;omega
 rw [e1,e2,Y1 (by rw [List.length_reverse];omega),Y1 (by rw [List.length_reverse];omega)]
 simp only [Option.bind_some]
 rw [Y1 (by simp;omega)]
 cases h1:(e.op==21)
 ·have h1:=Bn h1
  cases h2:(e.op==22)
  ·have h2:=Bn h2
   rw [if_neg om]
   cases h3:(e.op==20)
   ·have h3:=Bn h3
    rw [if_neg om];rfl
   ·have h3:=B9 h3
    cases h4:decide (i=2)
    ·have h4:=Do h4;rw [if_neg om];rfl
    ·have h4:=CO h4;rw [if_pos ⟨h3,h4⟩];simp
  ·have h2:=B9 h2
   cases h3:decide (i=1)
   ·have h3:=Do h3
    rw [if_neg om,if_neg om,show (e.op==20)=false by simp;omega];rfl
   ·have h3:=CO h3
    rw [if_pos (.inr ⟨h2,h3⟩)];simp
 ·have h1:=B9 h1
  rw [if_pos (.inl h1)];simp
theorem Y6{e:AB}{t:Int}(i:Nat):ET (fun N=>Gh N p e (i:Int) t) fun r=>r=Wan p e i t:=by
 have hl:=hp.len
 unfold Gh J7 Iy Wan
 have e1:((i:Int)==1)=decide (i=1):=by rw [Bool.eq_iff_iff];simp;omega
 have e0:((i:Int)==0)=decide (i=0):=by rw [Bool.eq_iff_iff];simp
 rw [e1,e0]
 refine ET.cond (fun h=> .some ?_) fun h14=>ET.cond (fun h=>ET.cond (fun h'=> .some ?_) fun h'=> .some ?_) fun h18=>ET.cond (fun h=>?_) fun h7=>ET.cond (fun h=>ET.cond (fun h'=> .some ?_) fun h'=> .some ?_) fun h19=>ET.cond (fun h=>ET.cond (fun h'=> .some ?_) fun h'=> .some ?_) fun h20=>ET.cond (fun h=>ET.cond (fun h'=>ET.cond (fun h''=> .some ?_) fun h''=> .some ?_) fun h'=>absurd (h.symm.trans h') (by decide)) fun h21=>ET.cond (fun h'=>ET.cond (fun h''=> .some ?_) fun h''=> .some ?_) fun h22=> .some ?_
 ·rw [if_pos (B9 h)]
 ·have:=Bn h14;rw [if_neg om,if_pos ⟨B9 h,CO h'⟩]
 ·have:=Bn h14;have:=B9 h;have:=Do h';rw [if_neg om,if_neg om,if_neg om,if_neg om,if_neg om,if_neg om]
 ·have:=Bn h14;have:=Bn h18;have h7:=B9 h
  refine ET.bind (P:=fun r=>r=hdR (hd p e.name)) (RP (p.funcs.length+2) ⟨_,rfl,fun N hN=>QR om hN⟩) fun r hr=>?_
  subst hr
  rw [if_neg om,if_neg om,if_pos h7]
  unfold J6
  cases hh:hd p e.name with
  |none=>exact .some rfl
  |some f=>
   refine ET.cond (fun _=>ET.cond (fun h'=>?_) fun h'=>?_) fun h=>by cases h
   ·have h':=CO h'
    have h':(i:Int)< (f.params.length:Int):=h'
    obtain ⟨x,hx⟩: ∃x,f.params[i]?=some x:=⟨_,List.getElem?_eq_getElem om⟩
    refine ET.eq (CA hx) (.some ?_)
    show x.type_=(match f.params[i]? with |some x=>x.type_|none=>1)
    rw [hx]
   ·have h':=Do h'
    have h': ¬(i:Int)< (f.params.length:Int):=h'
    refine .some ?_
    show 1=(match f.params[i]? with |some x=>x.type_|none=>1)
    rw [List.getElem?_eq_none om]
 ·have:=Bn h14;have:=Bn h18;have:=Bn h7;rw [if_neg om,if_neg om,if_neg om,if_pos (B9 h),if_pos (CO h')]
 ·have:=Bn h14;have:=Bn h18;have:=Bn h7;rw [if_neg om,if_neg om,if_neg om,if_pos (B9 h),if_neg (Do h')]
 ·have:=Bn h14;have:=Bn h18;have:=Bn h7;have:=Bn h19;rw [if_neg om,if_neg om,if_neg om,if_neg om,if_pos (B9 h),if_pos (CO h')]
 ·have:=Bn h14;have:=Bn h18;have:=Bn h7;have:=Bn h19;rw [if_neg om,if_neg om,if_neg om,if_neg om,if_pos (B9 h),if_neg (Do h')]
 ·have:=B9 h;rw [if_neg om,if_neg om,if_neg om,if_neg om,if_neg om,if_pos om,if_pos (CO h'')]
 ·have:=B9 h;rw [if_neg om,if_neg om,if_neg om,if_neg om,if_neg om,if_pos om,if_neg (Do h'')]
 ·have:=B9 h';rw [if_neg om,if_neg om,if_neg om,if_neg om,if_neg om,if_pos om,if_pos (CO h'')]
 ·have:=B9 h';rw [if_neg om,if_neg om,if_neg om,if_neg om,if_neg om,if_pos om,if_neg (Do h'')]
 ·have:=Bn h14;have:=Bn h18;have:=Bn h7;have:=Bn h19;have:=Bn h20;have:=Bn h21;have:=Bn h22
  rw [if_neg om,if_neg om,if_neg om,if_neg om,if_neg om,if_neg om]
omit hp in
theorem L5{Γ:List AK}{e:AB}{t:Int}:WTy p Γ e t↔OwT p Γ e t∧∀i a,e.args[i]?=some a→WTy p (Win Γ e i) a (Wan p e i t):=
 ⟨fun h=>⟨h.own,h.sub⟩,fun h=> .mk Γ e t h.1 h.2⟩
theorem AAA: ∀(n:Nat) (e:AB),DZ e≤n→n≤10000000→WE e→∀(Γ:List AK) (t:Int),TyE Γ→Γ.length+2*n≤1000000000→1≤t∧t≤3→
  ET (fun N=>ref07_wrong N p Γ.reverse e t) fun l=>l.length≤DZ e∧(l=[]↔WTy p Γ e t):=by
 intro n
 induction n with
 |zero=>intro e he;have:=MT e;omega
 |succ n ih=>
  intro e hen hn he Γ t hΓ hl ht
  have hal:=Mj e.args
  have hes:=O0 e
  refine ET.down ?_
  show ET (fun N=>KD (BF.at N) N p Γ.reverse e t) _
  have loop: ∀(j i:Nat),i+j=e.args.length→∀(acc:List Int),acc.length≤1+CL (e.args.take i)→
    EL (fun N k=>Hm (BF.at N) N p Γ.reverse e t k acc (i:Int)) fun l=>l.length≤1+CL e.args∧(l=[]↔acc=[]∧∀i' a,i≤i'→e.args[i']?=some a→WTy p (Win Γ e i') a (Wan p e i' t)):=by
   intro j
   induction j with
   |zero=>
    intro i hi acc hacc
    refine EL.down ?_
    show EL (fun N k=>H6 (BF.at N) N p Γ.reverse e t (Hm (BF.at N) N p Γ.reverse e t k) acc i) _
    unfold H6
    have htk:e.args.take i=e.args:=List.take_of_length_le om
    refine EL.cond (fun h=>by have:=CO h;omega) fun _=> .some ⟨by rw [htk] at hacc;omega,fun h=>⟨h,fun i' a hi' ha=>?_⟩,fun h=>h.1⟩
    have:=(List.getElem?_eq_some_iff.1 ha).1
    omega
   |succ j ihj=>
    intro i hi acc hacc
    refine EL.down ?_
    show EL (fun N k=>H6 (BF.at N) N p Γ.reverse e t (Hm (BF.at N) N p Γ.reverse e t k) acc i) _
    unfold H6
    obtain ⟨a,ha⟩: ∃a,e.args[i]?=some a:=⟨_,List.getElem?_eq_getElem om⟩
    have has:=Nu (List.mem_of_getElem? ha)
    have htk:CL (e.args.take (i+1))=CL (e.args.take i)+DZ a:=by rw [List.take_add_one,ha];simp [JN,CL]
    have htk2:CL (e.args.take (i+1))≤CL e.args:=by
     have:=JN (e.args.take (i+1)) (e.args.drop (i+1))
     rw [List.take_append_drop] at this;omega
    have hwin:=VS hΓ he i
    refine EL.cond (fun _=>?_) fun h=>by have:=Do h;omega
    refine EL.eq (CA ha) (EL.eq (Y5 om i) (EL.bind (Y6 hp i) fun w hw=>?_))
    subst hw
    refine EL.bind (ih a om om (he.sub a (List.mem_of_getElem? ha)) (Win Γ e i) _ hwin.1 om (ABG hp he ht i)) fun l hl=>?_
    refine EL.tb (Ff (by decide) om) fun _ _=>?_
    rw [wr om om,show (i:Int)+1=((i+1:Nat):Int) by omega]
    refine (ihj (i+1) om (acc++l) (by rw [List.length_append,htk];omega)).mono fun r hr=>⟨hr.1,?_⟩
    rw [hr.2,List.append_eq_nil_iff,hl.2]
    constructor
    ·rintro ⟨⟨h1,h2⟩,h3⟩
     refine ⟨h1,fun i' b hi' hb=>?_⟩
     rcases Nat.eq_or_lt_of_le hi' with rfl|hlt
     ·rw [ha] at hb;cases hb;exact h2
     ·exact h3 i' b hlt hb
    ·rintro ⟨h1,h2⟩
     exact ⟨⟨h1,h2 i a (Nat.le_refl _) ha⟩,fun i' b hi' hb=>h2 i' b om hb⟩
  unfold KD
  refine ET.bind (ABb hp hΓ om he ht) fun o ho=>?_
  have fin: ∀(acc:List Int),acc.length≤1→(acc=[]↔OwT p Γ e t)→ET (fun N=>Jh (BF.at N) N p Γ.reverse e t acc) fun l=>l.length≤DZ e∧(l=[]↔WTy p Γ e t):=by
   intro acc h1 h2
   unfold Jh
   refine (loop e.args.length 0 om acc om).diag.mono fun r hr=>⟨om,?_⟩
   rw [hr.2,h2,L5]
   exact ⟨fun h=>⟨h.1,fun i a ha=>h.2 i a (Nat.zero_le _) ha⟩,fun h=>⟨h.1,fun i a _ ha=>h.2 i a ha⟩⟩
  unfold KX
  refine ET.cond (fun h=>ET.cond (fun h'=>ET.tb (Ff (by decide) (by simp)) fun _ _=>fin _ (by simp) ⟨fun h=>by simp at h,fun h''=>?_⟩) fun h'=>fin [] (by simp) ⟨fun _=>ho.1 (.inr (Jp h')),fun _=>rfl⟩) fun h=>ET.cond (fun h'=>by cases h') fun _=>fin [] (by simp) ⟨fun _=>ho.1 (.inl (Jp h)),fun _=>rfl⟩
  rcases ho.2 h'' with h0|h0
  ·exact absurd h0 (Li h)
  ·exact absurd h0 (Li h')
def O7(p:AL):Prop:=Z3 p∧∀f∈p.funcs,WTy p f.params.reverse f.body f.type_
theorem Tk:ET (fun N=>Dx N p) fun r=>r.why=0↔O7 p:=by
 have hb: ∀f∈p.funcs,DZ f.body≤1000000∧f.params.length≤1000000:=fun f hf=>⟨(hp.fns f hf).size,(hp.fns f hf).pars⟩
 have hlen:=hp.len
 unfold Dx
 refine ET.bind (Yz hlen hb) fun r hr=>ET.cond (fun h=> .some ⟨fun h'=>absurd h' (Li h),fun h'=>hr.2 h'.1⟩) fun h=>?_
 have h:=Jp h
 have hsc:=hr.1 h
 have fns: ∀(j i:Nat),i+j=p.funcs.length→∀(y a:Int),EL (fun N k=>B6 N p k (i:Int) y a) fun r=>r.why=0↔y=0∧∀i' f,i≤i'→p.funcs[i']?=some f→WTy p f.params.reverse f.body f.type_:=by
  intro j
  induction j with
  |zero=>
   intro i hi y a
   refine EL.down ?_
   show EL (fun N k=>H7 N p (B6 N p k) i y a) _
   unfold H7
   refine EL.cond (fun h=>by have:=CO h;omega) fun _=> .some ⟨fun h=>⟨h,fun i' f hi' hf=>by have:=(List.getElem?_eq_some_iff.1 hf).1;omega⟩,fun h=>h.1⟩
  |succ j ihj=>
   intro i hi y a
   obtain ⟨f,hf⟩: ∃f,p.funcs[i]?=some f:=⟨_,List.getElem?_eq_getElem om⟩
   have hfn:=hp.fns f (List.mem_of_getElem? hf)
   have hfs:=hfn.size
   have hfp:=hfn.pars
   refine EL.down ?_
   show EL (fun N k=>H7 N p (B6 N p k) i y a) _
   unfold H7
   refine EL.cond (fun _=>?_) fun h=>by have:=Do h;omega
   refine EL.eq (CA hf) ?_
   rw [Px]
   have hΓ:TyE f.params.reverse:=fun x hx=>hfn.ptyp x (List.mem_reverse.1 hx)
   have hw:=AAA hp (DZ f.body) f.body (Nat.le_refl _) om hfn.body f.params.reverse f.type_ hΓ (by rw [List.length_reverse];omega) hfn.typ
   rw [List.reverse_reverse] at hw
   refine EL.bind hw fun l hl=>?_
   have inner: ∀(q t:Nat),t+q=l.length→∀(y a:Int),∃y' a',(y'=0↔y=0∧t=l.length)∧∃n0,∀N k kk,n0≤kk→Ez i (B6 N p k) l kk (t:Int) y a=B6 N p k ((i+1:Nat):Int) y' a':=by
    intro q
    induction q with
    |zero=>
     intro t ht y a
     refine ⟨y,a,⟨fun h=>⟨h,om⟩,fun h=>h.1⟩,1,fun N k kk hkk=>?_⟩
     obtain ⟨kk,rfl⟩: ∃j,kk=j+1:=⟨kk - 1,om⟩
     show ES i (B6 N p k) l (Ez i (B6 N p k) l kk) t y a=_
     unfold ES
     rw [show decide ((t:Int)< (l.length:Int))=false from decide_eq_false om,cond_false,wr om om,show (i:Int)+1=((i+1:Nat):Int) by omega]
    |succ q ihq=>
     intro t ht y a
     obtain ⟨x,hx⟩: ∃x,l[t]?=some x:=⟨_,List.getElem?_eq_getElem om⟩
     have hll:=hl.1
     have e1:IntKind.i64.wrap ((t:Int)+1)=((t+1:Nat):Int):=by rw [wr om om];omega
     have take: ∃y' a',(y'=0↔y=0∧t=l.length)∧∃n0,∀N k kk,n0≤kk→Ez i (B6 N p k) l kk ((t+1:Nat):Int) 34 x=B6 N p k ((i+1:Nat):Int) y' a':=by
      obtain ⟨y',a',h1,n0,h2⟩:=ihq (t+1) om 34 x
      exact ⟨y',a',⟨fun h=>absurd (h1.1 h).1 (by decide),fun h=>om⟩,n0,h2⟩
     cases hy:(y==0)
     ·have hy':=Bn hy
      cases hlt:decide (x<a)
      ·obtain ⟨y',a',h1,n0,h2⟩:=ihq (t+1) om y a
       refine ⟨y',a',⟨fun h=>absurd (h1.1 h).1 hy',fun h=>om⟩,n0+1,fun N k kk hkk=>?_⟩
       obtain ⟨kk,rfl⟩: ∃j,kk=j+1:=⟨kk - 1,om⟩
       show ES i (B6 N p k) l (Ez i (B6 N p k) l kk) t y a=_
       unfold ES Il Ik
       rw [show decide ((t:Int)< (l.length:Int))=true from decide_eq_true om,cond_true,hy,cond_false,CA hx,Option.bind_some,hlt,cond_false,e1]
       exact h2 N k kk om
      ·obtain ⟨y',a',h1,n0,h2⟩:=take
       refine ⟨y',a',h1,n0+1,fun N k kk hkk=>?_⟩
       obtain ⟨kk,rfl⟩: ∃j,kk=j+1:=⟨kk - 1,om⟩
       show ES i (B6 N p k) l (Ez i (B6 N p k) l kk) t y a=_
       unfold ES Il Ik
       rw [show decide ((t:Int)< (l.length:Int))=true from decide_eq_true om,cond_true,hy,cond_false,CA hx,Option.bind_some,hlt,cond_true,Option.bind_some,e1]
       exact h2 N k kk om
     ·obtain ⟨y',a',h1,n0,h2⟩:=take
      refine ⟨y',a',h1,n0+1,fun N k kk hkk=>?_⟩
      obtain ⟨kk,rfl⟩: ∃j,kk=j+1:=⟨kk - 1,om⟩
      show ES i (B6 N p k) l (Ez i (B6 N p k) l kk) t y a=_
      unfold ES Il Ik
      rw [show decide ((t:Int)< (l.length:Int))=true from decide_eq_true om,cond_true,hy,cond_true,cond_true,CA hx,Option.bind_some,e1]
      exact h2 N k kk om
   obtain ⟨y',a',h1,n0,h2⟩:=inner l.length 0 om y a
   obtain ⟨r,hr,n1,h3⟩:=ihj (i+1) om y' a'
   refine ⟨r,hr.trans ?_,n0+n1,fun N k hN hk=>?_⟩
   ·rw [h1]
    have hz:(0=l.length)↔WTy p f.params.reverse f.body f.type_:=by
     rw [←hl.2]
     exact ⟨fun h=>List.length_eq_zero_iff.1 h.symm,fun h=>by rw [h];rfl⟩
    rw [hz]
    constructor
    ·rintro ⟨⟨h1,h2⟩,h3⟩
     refine ⟨h1,fun i' g hi' hg=>?_⟩
     rcases Nat.eq_or_lt_of_le hi' with rfl|hlt
     ·rw [hf] at hg;cases hg;exact h2
     ·exact h3 i' g hlt hg
    ·rintro ⟨h1,h2⟩
     exact ⟨⟨h1,h2 i f (Nat.le_refl _) hf⟩,fun i' g hi' hg=>h2 i' g om hg⟩
   ·exact (h2 N k N om).trans (h3 N k om om)
 refine (fns p.funcs.length 0 om r.why r.at_).diag.mono fun q hq=>hq.trans ⟨fun h'=>⟨hsc,fun f hf=>?_⟩,fun h'=>⟨h,fun i' f _ hf=>h'.2 f (List.mem_of_getElem? hf)⟩⟩
 obtain ⟨i,hi⟩:=List.mem_iff_getElem?.1 hf
 exact h'.2 i f (Nat.zero_le _) hi
end
end Fth
namespace Fth
open Go
theorem ABH{α:Type}{P:Nat→α→Prop}{a b:α}:(∀i x,[a,b][i]?=some x→P i x)↔P 0 a∧P 1 b:=by
 constructor
 ·intro h;exact ⟨h 0 a rfl,h 1 b rfl⟩
 ·intro h i x hx
  match i,hx with
  |0,hx=>cases hx;exact h.1
  |1,hx=>cases hx;exact h.2
theorem ABc{α:Type}{P:Nat→α→Prop}{a b c:α}:(∀i x,[a,b,c][i]?=some x→P i x)↔P 0 a∧P 1 b∧P 2 c:=by
 constructor
 ·intro h;exact ⟨h 0 a rfl,h 1 b rfl,h 2 c rfl⟩
 ·intro h i x hx
  match i,hx with
  |0,hx=>cases hx;exact h.1
  |1,hx=>cases hx;exact h.2.1
  |2,hx=>cases hx;exact h.2.2
section
variable{p:AL}
theorem AAB(hlen:p.funcs.length≤50000)(flt:AF):ET (fun N=>KN N p flt) fun r=>r.2.1=p.funcs∧Pl p r.2.2.2:=by
 have loop: ∀(i:Nat),i≤p.funcs.length→∀(m:Ao),(∀nm,((∀k f,i≤k→p.funcs[k]?=some f→f.name≠nm)∧Ck m nm=0)∨∃(k:Nat) (f:AE),i≤k∧p.funcs[k]?=some f∧f.name=nm∧(∀k' f',i≤k'→k'<k→p.funcs[k']?=some f'→f'.name≠nm)∧Ck m nm=(k:Int)+1)→
   EL (fun _N k=>IL p k ((i:Int) - 1) m) fun r=>r.2.1=p.funcs∧Pl p r.2.2.2:=by
  intro i
  induction i with
  |zero=>
   intro _ m hm
   refine EL.down ?_
   show EL (fun _N k=>Ib p (IL p k) (((0:Nat):Int) - 1) m) _
   unfold Ib
   refine EL.cond (fun h=>by have:=CO h;omega) fun _=> .some ⟨rfl,fun nm=>?_⟩
   rcases hm nm with ⟨h1,h2⟩| ⟨k,f,_,h2,h3,h4,h5⟩
   ·refine .inl ⟨VR fun h=>?_,h2⟩
    obtain ⟨f,hf,hfn⟩:=List.mem_map.1 h
    obtain ⟨k,hk⟩:=List.mem_iff_getElem?.1 hf
    exact h1 k f (Nat.zero_le _) hk hfn
   ·refine .inr ⟨k,f,h2,QV h2 h3 fun h=>?_,h5⟩
    obtain ⟨g,hg,hgn⟩:=List.mem_map.1 h
    rw [List.mem_take_iff_getElem] at hg
    obtain ⟨q,hq,hqe⟩:=hg
    exact h4 q g (Nat.zero_le _) om (by rw [List.getElem?_eq_getElem om,hqe]) hgn
  |succ i ih=>
   intro hi m hm
   obtain ⟨f,hf⟩: ∃f,p.funcs[i]?=some f:=⟨_,List.getElem?_eq_getElem om⟩
   refine EL.down ?_
   show EL (fun _N k=>Ib p (IL p k) (((i+1:Nat):Int) - 1) m) _
   unfold Ib
   rw [show ((i+1:Nat):Int) - 1=(i:Int) by omega]
   refine EL.cond (fun _=>?_) fun h=>by have:=Do h;omega
   refine EL.eq (CA hf) ?_
   rw [wr om om,wr om om]
   refine ih om _ fun nm=>?_
   rw [MV]
   cases hn:(nm==f.name)
   ·have hne:nm≠f.name:=by simpa using hn
    rw [cond_false]
    rcases hm nm with ⟨h1,h2⟩| ⟨k,g,h1,h2,h3,h4,h5⟩
    ·refine .inl ⟨fun k g hk hg e=>?_,h2⟩
     rcases Nat.eq_or_lt_of_le hk with rfl|hlt
     ·rw [hf] at hg;cases hg;exact hne e.symm
     ·exact h1 k g hlt hg e
    ·refine .inr ⟨k,g,om,h2,h3,fun k' g' hk1 hk2 hg' e=>?_,h5⟩
     rcases Nat.eq_or_lt_of_le hk1 with rfl|hlt
     ·rw [hf] at hg';cases hg';exact hne e.symm
     ·exact h4 k' g' hlt hk2 hg' e
   ·have hne:nm=f.name:=by simpa using hn
    rw [cond_true]
    exact .inr ⟨i,f,Nat.le_refl _,hf,hne.symm,fun k' g' h1 h2=>om,rfl⟩
 have:=(loop p.funcs.length (Nat.le_refl _) [] fun nm=> .inl ⟨fun k f hk hf=>by have:=(List.getElem?_eq_some_iff.1 hf).1;omega,Tj nm⟩).diag
 refine this.cg fun N=>?_
 unfold KN
 rw [wr om om]
theorem Y7{a:Int}{flt:AF}:T (Fp a flt) fun r=>r.why≠0:=by
 unfold Fp Ja
 exact T.cond (fun _=>T.cond (fun _=> .some (show (34:Int)≠0 by decide)) fun h=>by cases h) fun h=>T.cond (fun _=> .some (show (34:Int)≠0 by decide)) fun _=> .some (Bn h)
theorem Y8{e:AB}{t o:Int}{fs:List AE}{env:List AK}{y a:Int}:T (CR e t o fs env y a) fun r=>r.1=fs∧r.2.1=env∧(r.2.2.why=0↔y=0∧o=t):=by
 unfold CR
 refine T.cond (fun h=>T.bind Y7 fun r hr=> .some ⟨rfl,rfl,fun h'=>absurd h' hr,fun h'=>absurd h'.2 (Li h)⟩) fun h=> .some ⟨rfl,rfl,fun h'=>⟨h',Jp h⟩,fun h'=>h'.1⟩
def Wn(p:AL)(Γ:List AK)(flt:AF)(A:Prop)(r:List AE×List AK×AF):Prop:=r.1=p.funcs∧r.2.1=Γ.reverse∧(r.2.2.why=0↔flt.why=0∧A)
def Wo(p:AL)(Γ:List AK)(flt:AF)(t:Int)(A:Prop)(r:Int×List AE×List AK×AF):Prop:=r.2.1=p.funcs∧r.2.2.1=Γ.reverse∧((r.2.2.2.why=0∧r.1=t)↔flt.why=0∧A)
theorem ABI{Γ:List AK}{e:AB}{fs:List AE}{flt:AF}(hl:Γ.length≤1000000000): ∀(Γ2 Γ1:List AK),Γ=Γ1++Γ2→∀k,Γ2.length<k→Et fs Γ.reverse flt e k ((Γ2.length:Int) - 1)=some ((Q9 Γ2 e.name).getD 0,fs,Γ.reverse,flt):=by
 intro Γ2
 induction Γ2 with
 |nil=>
  intro Γ1 h k hk
  obtain ⟨k,rfl⟩: ∃j,k=j+1:=⟨k - 1,by simp at hk;omega⟩
  rfl
 |cons x Γ2 ih=>
  intro Γ1 h k hk
  obtain ⟨k,rfl⟩: ∃j,k=j+1:=⟨k - 1,by simp at hk;omega⟩
  show HA fs Γ.reverse flt e (Et fs Γ.reverse flt e k) (((x::Γ2).length:Int) - 1)=_
  unfold HA
  have hlen:Γ2.length<1000000000:=by rw [h] at hl;simp at hl;omega
  have e1:(((x::Γ2).length:Nat):Int) - 1=(Γ2.length:Int):=by simp
  have hat:Γ.reverse[Γ2.length]?=some x:=by rw [h];exact Y0 _ _ _
  rw [e1,show decide ((Γ2.length:Int)≥0)=true from decide_eq_true om,cond_true,CA hat,Option.bind_some,Option.bind_some,wr om om]
  unfold Q9
  rw [List.find?_cons]
  cases hn:(x.name==e.name)
  ·rw [cond_false]
   exact ih (Γ1++[x]) (by rw [h];simp) k (by simp at hk;omega)
  ·rfl
variable(hp:WP p){mp:Ao}(hmp:Pl p mp)
include hp hmp
theorem Y9: ∀(n:Nat) (e:AB),DZ e≤n→n≤10000000→WE e→∀(Γ:List AK) (t:Int) (flt:AF),TyE Γ→Γ.length+2*n≤1000000000→1≤t∧t≤3→
  ET (fun N=>types_checker_want N p.funcs Γ.reverse mp flt e t) (Wn p Γ flt (WTy p Γ e t)):=by
 intro n
 induction n with
 |zero=>intro e he;have:=MT e;omega
 |succ n ih=>
  intro e hen hn he Γ t flt hΓ hl ht
  have hal:=Mj e.args
  have hes:=O0 e
  have hfl:=hp.len
  have mem: ∀{i:Nat} {a:AB},e.args[i]?=some a→WE a∧DZ a≤n:=fun h=>⟨he.sub _ (List.mem_of_getElem? h),by have:=Nu (List.mem_of_getElem? h);omega⟩
  have one: ∀{i:Nat} {a:AB},e.args[i]?=some a→∀(Δ:List AK) (u:Int) (flt:AF),TyE Δ→Δ.length≤Γ.length+2→1≤u∧u≤3→ET (fun N=>types_checker_want N p.funcs Δ.reverse mp flt a u) (Wn p Δ flt (WTy p Δ a u)):=
   fun h Δ u flt h1 h2 h3=>ih _ (mem h).2 om (mem h).1 Δ u flt h1 om h3
  have alls: ∀(l:List AB),(∀a∈l,a∈e.args)→l.length≤e.args.length→∀(u:Int) (flt:AF),1≤u∧u≤3→ET (fun N=>types_checker_all N p.funcs Γ.reverse mp flt u l) (Wn p Γ flt (∀a∈l,WTy p Γ a u)):=by
   intro l hl1 hl2 u flt hu
   refine ET.down ?_
   show ET (fun N=>Dm (AG.at N) mp u l N 0 p.funcs Γ.reverse flt.why flt.at_) _
   have loop: ∀(j i:Nat),i+j=l.length→∀(fs:List AE) (env:List AK) (f:AF),fs=p.funcs→env=Γ.reverse→EL (fun N k=>Dm (AG.at N) mp u l k (i:Int) fs env f.why f.at_) (Wn p Γ f (∀i' a,i≤i'→l[i']?=some a→WTy p Γ a u)):=by
    intro j
    induction j with
    |zero=>
     intro i hi fs env f hfs henv
     subst hfs;subst henv
     refine EL.down ?_
     show EL (fun N k=>EY (AG.at N) mp u l (Dm (AG.at N) mp u l k) i p.funcs Γ.reverse f.why f.at_) _
     unfold EY
     refine EL.cond (fun h=>by have:=CO h;omega) fun _=> .some ⟨rfl,rfl,fun h=>⟨h,fun i' a hi' ha=>by have:=(List.getElem?_eq_some_iff.1 ha).1;omega⟩,fun h=>h.1⟩
    |succ j ihj=>
     intro i hi fs env f hfs henv
     subst hfs;subst henv
     obtain ⟨a,ha⟩: ∃a,l[i]?=some a:=⟨_,List.getElem?_eq_getElem om⟩
     obtain ⟨q,hq⟩:=List.mem_iff_getElem?.1 (hl1 a (List.mem_of_getElem? ha))
     refine EL.down ?_
     show EL (fun N k=>EY (AG.at N) mp u l (Dm (AG.at N) mp u l k) i p.funcs Γ.reverse f.why f.at_) _
     unfold EY
     refine EL.cond (fun _=>?_) fun h=>by have:=Do h;omega
     refine EL.eq (CA ha) (EL.bind (one hq Γ u ⟨f.why,f.at_⟩ hΓ om hu) fun r hr=>?_)
     rw [wr om om,show (i:Int)+1=((i+1:Nat):Int) by omega]
     refine (ihj (i+1) om r.1 r.2.1 r.2.2 hr.1 hr.2.1).mono fun w hw=>⟨hw.1,hw.2.1,hw.2.2.trans ?_⟩
     rw [hr.2.2]
     constructor
     ·rintro ⟨⟨h1,h2⟩,h3⟩
      refine ⟨h1,fun i' b hi' hb=>?_⟩
      rcases Nat.eq_or_lt_of_le hi' with rfl|hlt
      ·rw [ha] at hb;cases hb;exact h2
      ·exact h3 i' b hlt hb
     ·rintro ⟨h1,h2⟩
      exact ⟨⟨h1,h2 i a (Nat.le_refl _) ha⟩,fun i' b hi' hb=>h2 i' b om hb⟩
   refine (loop l.length 0 om p.funcs Γ.reverse flt rfl rfl).diag.mono fun r hr=>⟨hr.1,hr.2.1,hr.2.2.trans ?_⟩
   constructor
   ·rintro ⟨h1,h2⟩
    refine ⟨h1,fun a ha=>?_⟩
    obtain ⟨i,hi⟩:=List.mem_iff_getElem?.1 ha
    exact h2 i a (Nat.zero_le _) hi
   ·rintro ⟨h1,h2⟩
    exact ⟨h1,fun i a _ ha=>h2 a (List.mem_of_getElem? ha)⟩
  have last: ∀(r:List AE×List AK×AF) (f:AF) (A:Prop),Wn p Γ f A r→(f.why=0↔flt.why=0)→(A↔WTy p Γ e t)→T (CR e t t r.1 r.2.1 r.2.2.why r.2.2.at_) (Wn p Γ flt (WTy p Γ e t)):=by
   intro r f A hr hf hA
   refine Y8.mono fun w hw=>⟨hw.1.trans hr.1,hw.2.1.trans hr.2.1,hw.2.2.trans ?_⟩
   rw [hr.2.2,hA,hf]
   exact ⟨fun h=>h.1,fun h=>⟨h,rfl⟩⟩
  refine ET.down ?_
  show ET (fun N=>GE (AG.at N) N p.funcs Γ.reverse mp flt e t) _
  unfold GE
  have ow:19≤e.op∧e.op≤22→OwT p Γ e t:=fun h=>⟨fun h=>om,fun h=>om,fun h=>om,fun h=>om,fun h=>om,fun h=>om⟩
  have har:=he.ar
  refine ET.cond (fun h=>?_) fun h19=>ET.cond (fun h=>?_) fun h20=>ET.cond (fun h=>?_) fun h21=>ET.cond (fun h=>?_) fun h22=>?_
  ·
   have ho:=B9 h
   obtain ⟨a,b,d,ha⟩:=Tf (l:=e.args) (by unfold Ar at har;omega)
   have ea:e.args[0]?=some a:=by rw [ha];rfl
   have eb:e.args[1]?=some b:=by rw [ha];rfl
   have ed:e.args[2]?=some d:=by rw [ha];rfl
   have hsub:sub e.args 1 (e.args.length:Int)=some [b,d]:=by rw [ha];rfl
   refine ET.eq (CA (i:=0) ea) (ET.bind (one ea Γ 2 flt hΓ om om) fun r hr=>ET.eq hsub ?_)
   rw [hr.1,hr.2.1]
   refine ET.bind (alls [b,d] (fun x hx=>by rw [ha];simp at hx ⊢;rcases hx with rfl|rfl<;>simp) (by rw [ha];simp) t r.2.2 ht) fun r2 hr2=> .of ?_
   refine last r2 flt (WTy p Γ a 2∧∀x∈[b,d],WTy p Γ x t) ⟨hr2.1,hr2.2.1,by rw [hr2.2.2,hr.2.2];exact and_assoc⟩ Iff.rfl ?_
   have e1: ∀i,Win Γ e i=Γ:=fun i=>by unfold Win;rw [if_neg om,if_neg om]
   have e2: ∀i,Wan p e i t=if i=0 then 2 else t:=fun i=>by unfold Wan;rw [if_neg om,if_neg om,if_neg om,if_pos ho]
   rw [L5 (e:=e),ha,ABc,e1,e1,e1,e2,e2,e2]
   simp only [List.mem_cons,List.not_mem_nil,or_false,forall_eq_or_imp,forall_eq]
   exact ⟨fun h=>⟨ow om,h.1,h.2.1,h.2.2⟩,fun h=>⟨h.2.1,h.2.2.1,h.2.2.2⟩⟩
  ·
   have ho:=B9 h
   obtain ⟨a,b,d,ha⟩:=Tf (l:=e.args) (by unfold Ar at har;omega)
   have ea:e.args[0]?=some a:=by rw [ha];rfl
   have eb:e.args[1]?=some b:=by rw [ha];rfl
   have ed:e.args[2]?=some d:=by rw [ha];rfl
   have e1: ∀i,i≠2→Win Γ e i=Γ:=fun i hi=>by unfold Win;rw [if_neg om,if_neg om]
   have e1':Win Γ e 2=⟨e.tail,3,0⟩::⟨e.name,1,0⟩::Γ:=by unfold Win;rw [if_neg om,if_pos ⟨ho,rfl⟩]
   have e2: ∀i,Wan p e i t=if i=0 then 3 else t:=fun i=>by unfold Wan;rw [if_neg om,if_neg om,if_neg om,if_neg om,if_pos ho]
   have hwin:=VS hΓ he 2
   rw [e1'] at hwin
   refine ET.eq (CA (i:=0) ea) (ET.bind (one ea Γ 3 flt hΓ om om) fun r hr=>ET.eq (CA (i:=1) eb) ?_)
   rw [hr.1,hr.2.1]
   refine ET.bind (one eb Γ t r.2.2 hΓ om ht) fun r2 hr2=>?_
   rw [hr2.1,hr2.2.1]
   refine ET.bind (P:=Wn p Γ r2.2.2 (WTy p (⟨e.tail,3,0⟩::⟨e.name,1,0⟩::Γ) d t)) ?_ fun r3 hr3=> .of ?_
   ·refine ET.down ?_
    show ET (fun N=>HF (AG.at N) N p.funcs Γ.reverse mp r2.2.2 e t [⟨e.name,1,0⟩,⟨e.tail,3,0⟩]) _
    unfold HF
    refine ET.tb (Ff (by decide) (by simp;omega)) fun _ _=>?_
    refine ET.bind (P:=Wn p (⟨e.tail,3,0⟩::⟨e.name,1,0⟩::Γ) r2.2.2 (WTy p (⟨e.tail,3,0⟩::⟨e.name,1,0⟩::Γ) d t)) ?_ fun w hw=>?_
    ·refine ET.down ?_
     have hrev:Γ.reverse++[⟨e.name,1,0⟩,⟨e.tail,3,0⟩]=(⟨e.tail,3,0⟩::⟨e.name,1,0⟩::Γ:List AK).reverse:=by simp
     rw [hrev]
     show ET (fun N=>FJ (AG.at N) N p.funcs (⟨e.tail,3,0⟩::⟨e.name,1,0⟩::Γ:List AK).reverse mp r2.2.2 e t) _
     unfold FJ
     exact ET.eq (CA (i:=2) ed) (ET.bind (one ed _ t r2.2.2 hwin.1 hwin.2 ht) fun w hw=> .some hw)
    ·refine ET.tb (P:=fun x=>x=Γ.reverse) ?_ fun x hx=> .some ⟨hw.1,hx,hw.2.2⟩
     refine (NK om om (by rw [hw.2.1];simp;omega)).mono fun x hx=>?_
     rw [hx,hw.2.1];simp
   ·refine last r3 flt (WTy p Γ a 3∧WTy p Γ b t∧WTy p (⟨e.tail,3,0⟩::⟨e.name,1,0⟩::Γ) d t) ⟨hr3.1,hr3.2.1,by rw [hr3.2.2,hr2.2.2,hr.2.2,and_assoc,and_assoc]⟩ Iff.rfl ?_
    rw [L5 (e:=e),ha,ABc,e1 0 om,e1 1 om,e1',e2,e2,e2]
    exact ⟨fun h=>⟨ow om,h.1,h.2.1,h.2.2⟩,fun h=>⟨h.2.1,h.2.2.1,h.2.2.2⟩⟩
  ·
   have ho:=B9 h
   obtain ⟨a,b,ha⟩:=RA (l:=e.args) (by unfold Ar at har;omega)
   have ea:e.args[0]?=some a:=by rw [ha];rfl
   have eb:e.args[1]?=some b:=by rw [ha];rfl
   have e1: ∀i,Win Γ e i=⟨e.name,e.type_,0⟩::Γ:=fun i=>by unfold Win;rw [if_pos (.inl ho)]
   have e2: ∀i,Wan p e i t=if i=0 then e.type_ else t:=fun i=>by unfold Wan;rw [if_neg om,if_neg om,if_neg om,if_neg om,if_neg om,if_pos om]
   have hwin:=VS hΓ he 0
   rw [e1] at hwin
   have het:=he.typ om
   refine ET.bind (P:=Wn p Γ flt (WTy p (⟨e.name,e.type_,0⟩::Γ) a e.type_∧WTy p (⟨e.name,e.type_,0⟩::Γ) b t)) ?_ fun r3 hr3=> .of ?_
   ·refine ET.down ?_
    show ET (fun N=>GG (AG.at N) N p.funcs Γ.reverse mp flt e t [⟨e.name,e.type_,0⟩]) _
    unfold GG
    refine ET.tb (Ff (by decide) (by simp;omega)) fun _ _=>?_
    refine ET.bind (P:=Wn p (⟨e.name,e.type_,0⟩::Γ) flt (WTy p (⟨e.name,e.type_,0⟩::Γ) a e.type_∧WTy p (⟨e.name,e.type_,0⟩::Γ) b t)) ?_ fun w hw=>?_
    ·refine ET.down ?_
     have hrev:Γ.reverse++[⟨e.name,e.type_,0⟩]=(⟨e.name,e.type_,0⟩::Γ:List AK).reverse:=by simp
     rw [hrev]
     show ET (fun N=>FK (AG.at N) N p.funcs (⟨e.name,e.type_,0⟩::Γ:List AK).reverse mp flt e t) _
     unfold FK
     refine ET.eq (CA (i:=0) ea) (ET.bind (one ea _ e.type_ flt hwin.1 hwin.2 het) fun w hw=>ET.eq (CA (i:=1) eb) ?_)
     rw [hw.1,hw.2.1]
     exact ET.bind (one eb _ t w.2.2 hwin.1 hwin.2 ht) fun w2 hw2=> .some ⟨hw2.1,hw2.2.1,by rw [hw2.2.2,hw.2.2];exact and_assoc⟩
    ·refine ET.tb (P:=fun x=>x=Γ.reverse) ?_ fun x hx=> .some ⟨hw.1,hx,hw.2.2⟩
     refine (NK om om (by rw [hw.2.1];simp;omega)).mono fun x hx=>?_
     rw [hx,hw.2.1];simp
   ·refine last r3 flt _ hr3 Iff.rfl ?_
    rw [L5 (e:=e),ha,ABH,e1,e1,e2,e2]
    exact ⟨fun h=>⟨ow om,h.1,h.2⟩,fun h=>⟨h.2.1,h.2.2⟩⟩
  ·
   have ho:=B9 h
   obtain ⟨a,b,ha⟩:=RA (l:=e.args) (by unfold Ar at har;omega)
   have ea:e.args[0]?=some a:=by rw [ha];rfl
   have eb:e.args[1]?=some b:=by rw [ha];rfl
   have e1:Win Γ e 0=Γ:=by unfold Win;rw [if_neg om,if_neg om]
   have e1':Win Γ e 1=⟨e.name,e.type_,0⟩::Γ:=by unfold Win;rw [if_pos (.inr ⟨ho,rfl⟩)]
   have e2: ∀i,Wan p e i t=if i=0 then e.type_ else t:=fun i=>by unfold Wan;rw [if_neg om,if_neg om,if_neg om,if_neg om,if_neg om,if_pos om]
   have hwin:=VS hΓ he 1
   rw [e1'] at hwin
   have het:=he.typ om
   refine ET.eq (CA (i:=0) ea) (ET.bind (one ea Γ e.type_ flt hΓ om het) fun r hr=>?_)
   rw [hr.1,hr.2.1]
   refine ET.bind (P:=Wn p Γ r.2.2 (WTy p (⟨e.name,e.type_,0⟩::Γ) b t)) ?_ fun r3 hr3=> .of ?_
   ·refine ET.down ?_
    show ET (fun N=>GH (AG.at N) N p.funcs Γ.reverse mp r.2.2 e t [⟨e.name,e.type_,0⟩]) _
    unfold GH
    refine ET.tb (Ff (by decide) (by simp;omega)) fun _ _=>?_
    refine ET.bind (P:=Wn p (⟨e.name,e.type_,0⟩::Γ) r.2.2 (WTy p (⟨e.name,e.type_,0⟩::Γ) b t)) ?_ fun w hw=>?_
    ·refine ET.down ?_
     have hrev:Γ.reverse++[⟨e.name,e.type_,0⟩]=(⟨e.name,e.type_,0⟩::Γ:List AK).reverse:=by simp
     rw [hrev]
     show ET (fun N=>FL (AG.at N) N p.funcs (⟨e.name,e.type_,0⟩::Γ:List AK).reverse mp r.2.2 e t) _
     unfold FL
     exact ET.eq (CA (i:=1) eb) (ET.bind (one eb _ t r.2.2 hwin.1 hwin.2 ht) fun w hw=> .some hw)
    ·refine ET.tb (P:=fun x=>x=Γ.reverse) ?_ fun x hx=> .some ⟨hw.1,hx,hw.2.2⟩
     refine (NK om om (by rw [hw.2.1];simp;omega)).mono fun x hx=>?_
     rw [hx,hw.2.1];simp
   ·refine last r3 flt (WTy p Γ a e.type_∧WTy p (⟨e.name,e.type_,0⟩::Γ) b t) ⟨hr3.1,hr3.2.1,by rw [hr3.2.2,hr.2.2];exact and_assoc⟩ Iff.rfl ?_
    rw [L5 (e:=e),ha,ABH,e1,e1',e2,e2]
    exact ⟨fun h=>⟨ow om,h.1,h.2⟩,fun h=>⟨h.2.1,h.2.2⟩⟩
  ·
   have h19:=Bn h19;have h20:=Bn h20;have h21:=Bn h21;have h22:=Bn h22
   have hop:1≤e.op∧e.op≤18:=by unfold Ar at har;omega
   have e1: ∀i,Win Γ e i=Γ:=fun i=>by unfold Win;rw [if_neg om,if_neg om]
   have fin:ET (fun N=>types_checker_own N p.funcs Γ.reverse mp flt e) (Wo p Γ flt t (WTy p Γ e t))→ET (fun N=>((AG.at N).types_checker_own p.funcs Γ.reverse mp flt e).bind fun x2165=>CR e t x2165.1 x2165.2.1 x2165.2.2.1 x2165.2.2.2.why x2165.2.2.2.at_) (Wn p Γ flt (WTy p Γ e t)):=fun h=>
    ET.bind h fun r hr=> .of (Y8.mono fun w hw=>⟨hw.1.trans hr.1,hw.2.1.trans hr.2.1,hw.2.2.trans hr.2.2⟩)
   refine fin (ET.down ?_)
   show ET (fun N=>Gv (AG.at N) N p.funcs Γ.reverse mp flt e) _
   have leaf: ∀(o:Int),e.args=[]→((o=t)↔OwT p Γ e t)→Wo p Γ flt t (WTy p Γ e t) (o,p.funcs,Γ.reverse,flt):=fun o ha ho=>⟨rfl,rfl,by
    rw [L5 (e:=e),ha]
    exact ⟨fun h=>⟨h.1,ho.1 h.2,fun i a h=>by simp at h⟩,fun h=>⟨h.1,ho.2 h.2.1⟩⟩⟩
   have nil_of:(1≤e.op∧e.op≤6)→e.args=[]:=fun h=>List.length_eq_zero_iff.1 (by unfold Ar at har;omega)
   unfold Gv
   have j1t:(e.op=2∨e.op=3)→ET (fun N=>Ew (AG.at N) N p.funcs Γ.reverse mp flt e true) (Wo p Γ flt t (WTy p Γ e t)):=by
    intro ho
    unfold Ew
    refine ET.cond (fun _=> .some (leaf 2 (nil_of om) ⟨fun h=>⟨fun h=>om,fun _=>h.symm,fun h=>om,fun h=>om,fun h=>om,fun h=>om⟩,fun h=>(h.b om).symm⟩)) fun h=>by cases h
   refine ET.cond (fun h=>by rw [h];exact j1t (.inl (B9 h))) fun h2=>?_
   have h2:=Bn h2
   cases h3:(e.op==3)
   rotate_left
   ·exact j1t (.inr (B9 h3))
   have h3:=Bn h3
   unfold Ew
   refine ET.cond (fun h=>by cases h) fun _=>ET.cond (fun h=> .some ?_) fun h4=>ET.cond (fun h=> .some ?_) fun h5=>ET.cond (fun h=>?_) fun h6=>ET.cond (fun h=>?_) fun h7=>ET.cond (fun h=>?_) fun h14=>ET.cond (fun h=>?_) fun h18=>?_
   ·have ho:=B9 h
    exact leaf 3 (nil_of om) ⟨fun h=>⟨fun h=>om,fun h=>om,fun _=>h.symm,fun h=>om,fun h=>om,fun h=>om⟩,fun h=>(h.l om).symm⟩
   ·have ho:=B9 h
    exact leaf e.type_ (nil_of om) ⟨fun h=>⟨fun h=>om,fun h=>om,fun h=>om,fun _=>h.symm,fun h=>om,fun h=>om⟩,fun h=>(h.f ho).symm⟩
   ·have ho:=B9 h
    refine RP (Γ.length+2) ⟨((Q9 Γ e.name).getD 0,p.funcs,Γ.reverse,flt),leaf _ (nil_of om) ⟨fun h=>⟨fun h=>om,fun h=>om,fun h=>om,fun h=>om,fun _=>?_,fun h=>om⟩,fun h=>?_⟩,fun N hN=>?_⟩
    ·cases hlk:Q9 Γ e.name with
     |none=>rw [hlk] at h;simp at h;omega
     |some u=>rw [hlk] at h;simp at h;rw [h]
    ·rw [h.v ho];rfl
    ·have:=ABI (e:=e) (fs:=p.funcs) (flt:=flt) (Γ:=Γ) om Γ [] rfl N om
     rw [wr (by simp;omega) (by simp;omega),List.length_reverse]
     exact this
   ·
    have ho:=B9 h
    have hwan: ∀f,hd p e.name=some f→∀i x,f.params[i]?=some x→Wan p e i t=x.type_:=fun f hf i x hx=>by
     unfold Wan
     rw [if_neg om,if_neg om,if_pos ho,hf]
     show (match f.params[i]? with |some x=>x.type_|none=>1)=_
     rw [hx]
    refine ET.bind (P:=Wo p Γ flt t (WTy p Γ e t)) ?_ fun r hr=> .some hr
    refine ET.down ?_
    show ET (fun N=>GI (AG.at N) N p.funcs Γ.reverse mp flt e) _
    have bad: ¬WTy p Γ e t→Wo p Γ flt t (WTy p Γ e t) (0,p.funcs,Γ.reverse,flt):=fun h=>⟨rfl,rfl,fun h'=>by have:(0:Int)=t:=h'.2;omega,fun h'=>absurd h'.2 h⟩
    unfold GI
    rcases hmp e.name with ⟨hn0,h0⟩| ⟨i,f,hi,hf,hm⟩
    ·rw [h0]
     refine ET.cond (fun _=>?_) fun h=>by cases h
     unfold Fg
     refine ET.cond (fun _=> .some (bad fun h=>?_)) fun h=>by cases h
     obtain ⟨g,hg,_⟩:=h.own.c ho
     rw [hn0] at hg;cases hg
    ·have hil:=(List.getElem?_eq_some_iff.1 hi).1
     have hfn:=hp.fns f (List.mem_of_find?_eq_some hf)
     have hfp:=hfn.pars
     rw [hm]
     refine ET.cond (fun h=>by have:=B9 h;omega) fun _=>?_
     rw [wr (x:=(i:Int)+1 - 1) om om,show (i:Int)+1 - 1=(i:Int) by omega]
     refine ET.eq (CA hi) ?_
     unfold Fg
     refine ET.cond (fun h=> .some (bad fun h'=>?_)) fun h=>?_
     ·obtain ⟨g,hg,hgl,_⟩:=h'.own.c ho
      rw [hf] at hg;cases hg
      exact absurd (congrArg Int.ofNat hgl) (Li h)
     have hfl:f.params.length=e.args.length:=by have:=Jp h;omega
     rw [hm,wr (x:=(i:Int)+1 - 1) om om,show (i:Int)+1 - 1=(i:Int) by omega]
     refine ET.eq (CA hi) ?_
     have loop: ∀(j q:Nat),q+j=f.params.length→∀(fs:List AE) (env:List AK) (f2:AF),fs=p.funcs→env=Γ.reverse→EL (fun N k=>Dv (AG.at N) mp e f k (q:Int) fs env f2.why f2.at_) fun r=>r.1=f.type_∧r.2.1=p.funcs∧r.2.2.1=Γ.reverse∧(r.2.2.2.why=0↔f2.why=0∧∀i' a,q≤i'→e.args[i']?=some a→WTy p Γ a (Wan p e i' t)):=by
      intro j
      induction j with
      |zero=>
       intro q hq fs env f2 hfs henv
       subst hfs;subst henv
       refine EL.down ?_
       show EL (fun N k=>EG (AG.at N) mp e f (Dv (AG.at N) mp e f k) q p.funcs Γ.reverse f2.why f2.at_) _
       unfold EG
       refine EL.cond (fun h=>by have:=CO h;omega) fun _=>?_
       rw [hm,wr (x:=(i:Int)+1 - 1) om om,show (i:Int)+1 - 1=(i:Int) by omega]
       exact EL.eq (CA hi) (.some ⟨rfl,rfl,rfl,fun h=>⟨h,fun i' a hi' ha=>by have:=(List.getElem?_eq_some_iff.1 ha).1;omega⟩,fun h=>h.1⟩)
      |succ j ihj=>
       intro q hq fs env f2 hfs henv
       subst hfs;subst henv
       obtain ⟨x,hx⟩: ∃x,f.params[q]?=some x:=⟨_,List.getElem?_eq_getElem om⟩
       obtain ⟨a,ha⟩: ∃a,e.args[q]?=some a:=⟨_,List.getElem?_eq_getElem om⟩
       have hxt:=hfn.ptyp x (List.mem_of_getElem? hx)
       refine EL.down ?_
       show EL (fun N k=>EG (AG.at N) mp e f (Dv (AG.at N) mp e f k) q p.funcs Γ.reverse f2.why f2.at_) _
       unfold EG
       refine EL.cond (fun _=>?_) fun h=>by have:=Do h;omega
       refine EL.eq (CA hx) (EL.eq (CA ha) (EL.bind (one ha Γ x.type_ ⟨f2.why,f2.at_⟩ hΓ om hxt) fun w hw=>?_))
       rw [wr om om,show (q:Int)+1=((q+1:Nat):Int) by omega]
       refine (ihj (q+1) om w.1 w.2.1 w.2.2 hw.1 hw.2.1).mono fun r hr=>⟨hr.1,hr.2.1,hr.2.2.1,hr.2.2.2.trans ?_⟩
       rw [hw.2.2]
       constructor
       ·rintro ⟨⟨h1,h2⟩,h3⟩
        refine ⟨h1,fun i' b hi' hb=>?_⟩
        rcases Nat.eq_or_lt_of_le hi' with rfl|hlt
        ·rw [ha] at hb;cases hb;rw [hwan f hf q x hx];exact h2
        ·exact h3 i' b hlt hb
       ·rintro ⟨h1,h2⟩
        exact ⟨⟨h1,by have:=h2 q a (Nat.le_refl _) ha;rwa [hwan f hf q x hx] at this⟩,fun i' b hi' hb=>h2 i' b om hb⟩
     refine (loop f.params.length 0 om p.funcs Γ.reverse flt rfl rfl).diag.mono fun r hr=>⟨hr.2.1,hr.2.2.1,?_⟩
     rw [hr.1,hr.2.2.2,L5 (e:=e)]
     simp only [e1]
     constructor
     ·rintro ⟨⟨h1,h2⟩,h3⟩
      exact ⟨h1,⟨fun h=>om,fun h=>om,fun h=>om,fun h=>om,fun h=>om,fun _=>⟨f,hf,hfl,h3⟩⟩,fun i a ha=>h2 i a (Nat.zero_le _) ha⟩
     ·rintro ⟨h1,h2,h3⟩
      obtain ⟨g,hg,_,hgt⟩:=h2.c ho
      rw [hf] at hg;cases hg
      exact ⟨⟨h1,fun i a _ ha=>h3 i a ha⟩,hgt⟩
   ·
    have ho:=B9 h
    refine ET.bind (alls e.args (fun a h=>h) (Nat.le_refl _) 2 flt om) fun r hr=> .some ⟨hr.1,hr.2.1,?_⟩
    have e2: ∀i,Wan p e i t=2:=fun i=>by unfold Wan;rw [if_pos ho]
    show (r.2.2.why=0∧(2:Int)=t)↔_
    rw [hr.2.2,L5 (e:=e)]
    simp only [e1,e2]
    constructor
    ·rintro ⟨⟨h1,h2⟩,h3⟩
     exact ⟨h1,⟨fun h=>om,fun _=>h3.symm,fun h=>om,fun h=>om,fun h=>om,fun h=>om⟩,fun i a ha=>h2 a (List.mem_of_getElem? ha)⟩
    ·rintro ⟨h1,h2,h3⟩
     refine ⟨⟨h1,fun a ha=>?_⟩,(h2.b om).symm⟩
     obtain ⟨i,hi⟩:=List.mem_iff_getElem?.1 ha
     exact h3 i a hi
   ·
    have ho:=B9 h
    obtain ⟨a,b,ha⟩:=RA (l:=e.args) (by unfold Ar at har;omega)
    have ea:e.args[0]?=some a:=by rw [ha];rfl
    have eb:e.args[1]?=some b:=by rw [ha];rfl
    have e2:Wan p e 0 t=1:=by unfold Wan;rw [if_neg om,if_neg om,if_neg om,if_neg om,if_neg om,if_neg om]
    have e3:Wan p e 1 t=3:=by unfold Wan;rw [if_neg om,if_pos ⟨ho,rfl⟩]
    refine ET.eq (CA (i:=0) ea) (ET.bind (one ea Γ 1 flt hΓ om om) fun r hr=>ET.eq (CA (i:=1) eb) ?_)
    rw [hr.1,hr.2.1]
    refine ET.bind (one eb Γ 3 r.2.2 hΓ om om) fun r2 hr2=> .some ⟨hr2.1,hr2.2.1,?_⟩
    show (r2.2.2.why=0∧(3:Int)=t)↔_
    rw [hr2.2.2,hr.2.2,L5 (e:=e),ha,ABH,e1,e1,e2,e3]
    constructor
    ·rintro ⟨⟨⟨h1,h2⟩,h3⟩,h4⟩
     exact ⟨h1,⟨fun h=>om,fun h=>om,fun _=>h4.symm,fun h=>om,fun h=>om,fun h=>om⟩,h2,h3⟩
    ·rintro ⟨h1,h2,h3,h4⟩
     exact ⟨⟨⟨h1,h3⟩,h4⟩,(h2.l om).symm⟩
   ·
    have h4:=Bn h4;have h5:=Bn h5;have h6:=Bn h6;have h7:=Bn h7;have h14:=Bn h14;have h18:=Bn h18
    have e2: ∀i,Wan p e i t=1:=fun i=>by unfold Wan;rw [if_neg om,if_neg om,if_neg om,if_neg om,if_neg om,if_neg om]
    refine ET.bind (alls e.args (fun a h=>h) (Nat.le_refl _) 1 flt om) fun r hr=>?_
    have out: ∀o:Int,(o=t↔OwT p Γ e t)→Wo p Γ flt t (WTy p Γ e t) (o,r.1,r.2.1,r.2.2):=fun o ho=>⟨hr.1,hr.2.1,by
     show (r.2.2.why=0∧o=t)↔_
     rw [hr.2.2,L5 (e:=e),ho]
     simp only [e1,e2]
     constructor
     ·rintro ⟨⟨h1,h2⟩,h3⟩
      exact ⟨h1,h3,fun i a ha=>h2 a (List.mem_of_getElem? ha)⟩
     ·rintro ⟨h1,h2,h3⟩
      refine ⟨⟨h1,fun a ha=>?_⟩,h2⟩
      obtain ⟨i,hi⟩:=List.mem_iff_getElem?.1 ha
      exact h3 i a hi⟩
    have two':(e.op=12∨e.op=13)→ET (fun _N=>Hg r true) (Wo p Γ flt t (WTy p Γ e t)):=fun ho=>
     .some (out 2 ⟨fun h=>⟨fun h=>om,fun _=>h.symm,fun h=>om,fun h=>om,fun h=>om,fun h=>om⟩,fun h=>(h.b om).symm⟩)
    refine ET.cond (fun h=>two' (.inl (B9 h))) fun h12=>?_
    have h12:=Bn h12
    cases h13:(e.op==13)
    ·have h13:=Bn h13
     exact .some (out 1 ⟨fun h=>⟨fun _=>h.symm,fun h=>om,fun h=>om,fun h=>om,fun h=>om,fun h=>om⟩,fun h=>(h.n om).symm⟩)
    ·exact two' (.inr (B9 h13))
end
theorem AAC{p:AL}(hp:WP p):ET (fun N=>Gz N p) fun r=>r.why=0↔O7 p:=by
 have hb: ∀f∈p.funcs,DZ f.body≤1000000∧f.params.length≤1000000:=fun f hf=>⟨(hp.fns f hf).size,(hp.fns f hf).pars⟩
 have hlen:=hp.len
 unfold Gz
 refine ET.bind (Z6 hlen hb) fun r hr=>ET.cond (fun h=> .some ⟨fun h'=>absurd h' (Li h),fun h'=>hr.2 h'.1⟩) fun h=>?_
 have h:=Jp h
 have hsc:=hr.1 h
 refine ET.bind (AAB hlen r) fun o ho=>?_
 have fns: ∀(j i:Nat),i+j=p.funcs.length→∀(f0:AF) (fs:List AE) (env:List AK),fs=p.funcs→EL (fun N k=>Hh N p o k (i:Int) f0.why f0.at_ fs env) fun r=>r.why=0↔f0.why=0∧∀i' f,i≤i'→p.funcs[i']?=some f→WTy p f.params.reverse f.body f.type_:=by
  intro j
  induction j with
  |zero=>
   intro i hi f0 fs env hfs
   refine EL.down ?_
   show EL (fun N k=>H1 N p o (Hh N p o k) i f0.why f0.at_ fs env) _
   unfold H1
   exact EL.cond (fun h=>by have:=CO h;omega) fun _=> .some ⟨fun h=>⟨h,fun i' f hi' hf=>by have:=(List.getElem?_eq_some_iff.1 hf).1;omega⟩,fun h=>h.1⟩
  |succ j ihj=>
   intro i hi f0 fs env hfs
   subst hfs
   obtain ⟨f,hf⟩: ∃f,p.funcs[i]?=some f:=⟨_,List.getElem?_eq_getElem om⟩
   have hfn:=hp.fns f (List.mem_of_getElem? hf)
   have hfs:=hfn.size
   have hfp:=hfn.pars
   refine EL.down ?_
   show EL (fun N k=>H1 N p o (Hh N p o k) i f0.why f0.at_ p.funcs env) _
   unfold H1
   refine EL.cond (fun _=>?_) fun h=>by have:=Do h;omega
   refine EL.eq (CA hf) (EL.tb (Ff (by decide) (by simp;omega)) fun _ _=>?_)
   rw [Px,List.nil_append]
   have hΓ:TyE f.params.reverse:=fun x hx=>hfn.ptyp x (List.mem_reverse.1 hx)
   have hw:=Y9 hp ho.2 (DZ f.body) f.body (Nat.le_refl _) om hfn.body f.params.reverse f.type_ ⟨f0.why,f0.at_⟩ hΓ (by rw [List.length_reverse];omega) hfn.typ
   rw [List.reverse_reverse] at hw
   refine EL.bind hw fun w hw=>?_
   rw [wr om om,show (i:Int)+1=((i+1:Nat):Int) by omega]
   refine (ihj (i+1) om w.2.2 w.1 w.2.1 hw.1).mono fun r hr=>hr.trans ?_
   rw [hw.2.2]
   constructor
   ·rintro ⟨⟨h1,h2⟩,h3⟩
    refine ⟨h1,fun i' g hi' hg=>?_⟩
    rcases Nat.eq_or_lt_of_le hi' with rfl|hlt
    ·rw [hf] at hg;cases hg;exact h2
    ·exact h3 i' g hlt hg
   ·rintro ⟨h1,h2⟩
    exact ⟨⟨h1,h2 i f (Nat.le_refl _) hf⟩,fun i' g hi' hg=>h2 i' g om hg⟩
 refine (fns p.funcs.length 0 om r o.2.1 o.2.2.1 ho.1).diag.mono fun q hq=>hq.trans ⟨fun h'=>⟨hsc,fun f hf=>?_⟩,fun h'=>⟨h,fun i' f _ hf=>h'.2 f (List.mem_of_getElem? hf)⟩⟩
 obtain ⟨i,hi⟩:=List.mem_iff_getElem?.1 hf
 exact h'.2 i f (Nat.zero_le _) hi
end Fth
namespace Fth
open Go
def gv(v:AH):Th:=if v.type_=3 then v.list.foldr (fun z t=> .done v0 (.done ⟨1,z,false,[]⟩ .nil .nil) t) (.done ⟨3,(0,0),false,[]⟩ .nil .nil) else .done v .nil .nil
theorem WD{v:AH}{N:Nat}(hl:v.list.length≤1000000000)(hN:v.list.length+2≤N):Ie N v=some (gv v)∧OW N v=some (gv v):=by
 have loop: ∀(l2 l1:List (Nat×Nat)),v.list=l1++l2→∀k,l1.length<k→
   JC v k (l2.foldr (fun z t=> .done v0 (.done ⟨1,z,false,[]⟩ .nil .nil) t) (.done ⟨3,(0,0),false,[]⟩ .nil .nil)) ((l1.length:Int) - 1)=some (v.list.foldr (fun z t=> .done v0 (.done ⟨1,z,false,[]⟩ .nil .nil) t) (.done ⟨3,(0,0),false,[]⟩ .nil .nil))∧
   Lb v k (l2.foldr (fun z t=> .done v0 (.done ⟨1,z,false,[]⟩ .nil .nil) t) (.done ⟨3,(0,0),false,[]⟩ .nil .nil)) ((l1.length:Int) - 1)=some (v.list.foldr (fun z t=> .done v0 (.done ⟨1,z,false,[]⟩ .nil .nil) t) (.done ⟨3,(0,0),false,[]⟩ .nil .nil)):=by
  intro l2 l1
  induction hn:l1.length generalizing l1 l2 with
  |zero=>
   intro h k hk
   obtain ⟨k,rfl⟩: ∃j,k=j+1:=⟨k - 1,om⟩
   have:l1=[]:=List.length_eq_zero_iff.1 hn
   subst this
   rw [h]
   exact ⟨rfl,rfl⟩
  |succ n ih=>
   intro h k hk
   obtain ⟨k,rfl⟩: ∃j,k=j+1:=⟨k - 1,om⟩
   have hne:l1≠[]:=fun e=>by subst e;cases hn
   obtain ⟨l0,z,rfl⟩: ∃l0 z,l1=l0++[z]:=⟨l1.dropLast,l1.getLast hne,(List.dropLast_concat_getLast hne).symm⟩
   have hl0:l0.length=n:=by simp at hn;exact hn
   have hz:v.list[n]?=some z:=by rw [h,List.append_assoc,List.getElem?_append_right om,hl0];simp
   have hnl:n<v.list.length:=(List.getElem?_eq_some_iff.1 hz).1
   have ihh:=ih (z::l2) l0 hl0 (by rw [h];simp) k om
   have e1:((n+1:Nat):Int) - 1=(n:Int):=om
   rw [e1]
   constructor
   ·show KQ v (JC v k) _ (n:Int)=_
    unfold KQ
    rw [show decide ((n:Int)≥0)=true from decide_eq_true om,cond_true,CA hz,Option.bind_some,wr om om]
    exact ihh.1
   ·show ME v (Lb v k) _ (n:Int)=_
    unfold ME
    rw [show decide ((n:Int)≥0)=true from decide_eq_true om,cond_true,CA hz,Option.bind_some,wr om om]
    exact ihh.2
 unfold Ie OW gv
 cases h:(v.type_ != 3)
 ·have h:=Jp h
  rw [if_pos h,wr om om]
  have:=loop [] v.list (by simp) N om
  exact this
 ·have h:=Li h
  rw [if_neg h]
  exact ⟨rfl,rfl⟩
theorem ABJ{p:AL}{L:Nat}{v:AH}(h:VV v.type_ v)(hl:v.list.length+1<L):TOK p L v.type_ (gv v):=by
 unfold gv
 rcases Decidable.em (v.type_=3) with h3|h3
 ·rw [if_pos h3]
  have hg: ∀z∈v.list,Gn z:=by
   rcases h with ⟨e,_⟩| ⟨e,_⟩| ⟨_,_,_,_,h⟩
   ·omega
   ·omega
   ·exact h
  rw [h3]
  have key: ∀l:List (Nat×Nat),(∀z∈l,Gn z)→l.length+1<L→TOK p L 3 (l.foldr (fun z t=> .done v0 (.done ⟨1,z,false,[]⟩ .nil .nil) t) (.done ⟨3,(0,0),false,[]⟩ .nil .nil))∧ch (l.foldr (fun z t=> .done v0 (.done ⟨1,z,false,[]⟩ .nil .nil) t) (.done ⟨3,(0,0),false,[]⟩ .nil .nil))=l.length+1:=by
   intro l
   induction l with
   |nil=>intro _ _;exact ⟨.val 3 _ (.inr (.inr ⟨rfl,rfl,rfl,rfl,by simp⟩)) fun _=>rfl,rfl⟩
   |cons z l ih=>
    intro hz hl
    have:=ih (fun w hw=>hz w (List.mem_cons_of_mem _ hw)) (by simp at hl;omega)
    refine ⟨.pair _ _ (.val 1 _ (.inl ⟨rfl,rfl,hz z (List.mem_cons_self ..),rfl,rfl⟩) fun h=>by cases h) this.1 (by rw [this.2];simp at hl;omega),?_⟩
    simp only [List.foldr_cons,ch,this.2,List.length_cons];omega
  exact (key v.list hg hl).1
 ·rw [if_neg h3]
  exact .val _ v h fun e=>absurd e h3
def RC:List AK→List AH→Nm→Nm
 |x::ps,v::vs,acc=>RC ps vs (.bind x.name (gv v) acc)
 |_,_,acc=>acc
theorem AAD{p:AL}{L:Nat}: ∀(ps:List AK) (vs:List AH) (Δ:List AK) (acc:Nm),ps.length=vs.length→EOK p L Δ acc→(∀(i:Nat) (x:AK) (v:AH),ps[i]?=some x→vs[i]?=some v→v.type_=x.type_∧VV v.type_ v∧v.list.length+1<L)→EOK p L (ps.reverse++Δ) (RC ps vs acc):=by
 intro ps
 induction ps with
 |nil=>intro vs Δ acc h he _;cases vs with
  |nil=>exact he
  |cons=>cases h
 |cons x ps ih=>
  intro vs Δ acc h he ha
  cases vs with
  |nil=>cases h
  |cons v vs=>
   have h0:=ha 0 x v rfl rfl
   have:=ih vs (x::Δ) (.bind x.name (gv v) acc) (by simpa using h) (.bind x Δ _ acc (h0.1▸ABJ h0.2.1 h0.2.2) he) fun i y w h1 h2=>ha (i+1) y w h1 h2
   rw [List.reverse_cons,List.append_assoc]
   exact this
def QX(most:Int):Nat:=(if (16384:Int)< (if most<0 then 0 else most) then 16384 else (if most<0 then 0 else most)).toNat
theorem SH(most:Int):(if (16384:Int)< (if most<0 then 0 else most) then 16384 else (if most<0 then 0 else most))=(QX most:Int):=by
 unfold QX;split<;>split<;>omega
theorem XP(most:Int):QX most≤16384:=by unfold QX;split<;>split<;>omega
theorem XQ{n:Nat}(h:n≤16384):QX (n:Int)=n:=by unfold QX;rw [if_neg (by omega: ¬((n:Int)<0)),if_neg om];rfl
def Tl(f:AE)(args:List AH):Prop:=args.length=f.params.length∧∀(i:Nat) (v:AH) (x:AK),args[i]?=some v→f.params[i]?=some x→v.type_=x.type_∧chk v=true
def RD(y:Int):BR:=⟨y,v0,0,0,0,0⟩
def ABm(r:Except Int AH)(c:Nat):BR:=match r with
 | .ok v=>⟨0,v,c,0,0,0⟩
 | .error y=>⟨y,v0,c,0,0,0⟩
inductive Ue(p:AL)(nm:List UInt8)(args:List AH)(m:Nat):BR→Prop
 |shape (h: ¬O7 p):Ue p nm args m (RD 3)
 |func (h:O7 p) (hf:hd p nm=none):Ue p nm args m (RD 32)
 |args {f:AE} (h:O7 p) (hf:hd p nm=some f) (ha: ¬Tl f args):Ue p nm args m (RD 40)
 |run {f:AE} {r:Except Int AH} {c:Nat} (h:O7 p) (hf:hd p nm=some f) (ha:Tl f args) (hr:Rn p m f.body (RC f.params args .nil) r c) (hc:c≤m) (hv:Rv m f.type_ r c):Ue p nm args m (ABm r c)
def AV(args:List AH):Prop:=(∀v∈args,GV v∧v.list.length≤1048577)∧args.length≤1000000000
theorem LV.av{l:List AH}(h:LV l):AV l:=⟨fun v hv=>⟨(h.1 v hv).1.gv (by have:=(h.1 v hv).2;omega),(h.1 v hv).2⟩,by have:=h.2;omega⟩
section
variable{p:AL}{nm:List UInt8}{args:List AH}
theorem ZA(hlen:p.funcs.length≤50000)(hS:FN p): ∀(j i:Nat),i+j=p.funcs.length→∀(m:Ao),(∀s,N5 m s=decide (s∈(p.funcs.take i).map (·.name))∧∀k f,k<i→p.funcs[k]?=some f→f.name=s→Ck m s=(k:Int))→
  ∃mp,Mpp p mp∧(∀s,N5 mp s=(hd p s).isSome)∧∃n0,∀N k most,n0≤k→I5 N p nm args most k (i:Int) m=(bif !(N5 mp nm) then some (RD 32) else ((idx p.funcs (Ck mp nm)).bind fun x239=>bif ((args.length:Int) != (x239.params.length:Int)) then some (RD 40) else Ed N p args most mp x239 N Nm.nil 0)):=by
 intro j
 induction j with
 |zero=>
  intro i hi m hm
  have htk:p.funcs.take i=p.funcs:=List.take_of_length_le om
  refine ⟨m,fun s f hf=>?_,fun s=>?_,1,fun N k most hk=>?_⟩
  ·have hfm:=List.mem_of_find?_eq_some hf
   obtain ⟨k,hk⟩:=List.mem_iff_getElem?.1 hfm
   have hfn:f.name=s:=by have:=List.find?_some hf;simpa using this
   have:=(hm s).2 k f (by have:=(List.getElem?_eq_some_iff.1 hk).1;omega) hk hfn
   rw [this]
   exact CA hk
  ·rw [(hm s).1,htk]
   cases hh:hd p s with
   |none=>
    rw [decide_eq_false];rfl
    intro h
    obtain ⟨f,hf,hfn⟩:=List.mem_map.1 h
    unfold hd at hh
    rw [List.find?_eq_none] at hh
    exact hh f hf (by simpa using hfn)
   |some f=>
    rw [decide_eq_true];rfl
    have hfn:f.name=s:=by have:=List.find?_some hh;simpa using this
    exact List.mem_map.2 ⟨f,List.mem_of_find?_eq_some hh,hfn⟩
  ·obtain ⟨k,rfl⟩: ∃j,k=j+1:=⟨k - 1,om⟩
   show JG N p nm args most (I5 N p nm args most k) i m=_
   unfold JG
   rw [show decide ((i:Int)< (p.funcs.length:Int))=false from decide_eq_false om,cond_false]
   rfl
 |succ j ihj=>
  intro i hi m hm
  obtain ⟨f,hf⟩: ∃f,p.funcs[i]?=some f:=⟨_,List.getElem?_eq_getElem om⟩
  have htk:(p.funcs.take (i+1)).map (·.name)=(p.funcs.take i).map (·.name)++[f.name]:=by rw [List.take_add_one,hf];simp
  obtain ⟨mp,h1,h2,n0,h3⟩:=ihj (i+1) om (Lm f.name i m) fun s=>by
   rw [Xr,MV,htk]
   cases hn:(s==f.name)
   ·have hne:s≠f.name:=by simpa using hn
    rw [cond_false,cond_false]
    refine ⟨?_,fun k g hk hg hgn=>?_⟩
    ·rw [(hm s).1];congr 1;simp [hne]
    ·rcases Nat.eq_or_lt_of_le (Nat.le_of_lt_succ hk) with rfl|hlt
     ·rw [hf] at hg;cases hg;exact absurd hgn.symm hne
     ·exact (hm s).2 k g hlt hg hgn
   ·have hne:s=f.name:=by simpa using hn
    rw [cond_true,cond_true]
    refine ⟨?_,fun k g hk hg hgn=>?_⟩
    ·rw [decide_eq_true];rw [hne];simp
    ·rcases Nat.eq_or_lt_of_le (Nat.le_of_lt_succ hk) with rfl|hlt
     ·rfl
     ·refine absurd (List.mem_map.2 ⟨g,?_,hgn.trans hne⟩) (hS i f hf)
      rw [List.mem_take_iff_getElem]
      obtain ⟨a1,a2⟩:=List.getElem?_eq_some_iff.1 hg
      exact ⟨k,om,a2⟩
  refine ⟨mp,h1,h2,n0+1,fun N k most hk=>?_⟩
  obtain ⟨k,rfl⟩: ∃j,k=j+1:=⟨k - 1,om⟩
  show JG N p nm args most (I5 N p nm args most k) i m=_
  unfold JG
  rw [show decide ((i:Int)< (p.funcs.length:Int))=true from decide_eq_true om,cond_true,CA hf,Option.bind_some,wr om om,show (i:Int)+1=((i+1:Nat):Int) by omega]
  exact h3 N k most om
theorem XR(hA:AV args){f:AE}(hf:f.params.length≤1000000):ET (fun N=>FX N f args) fun b=>b=true↔Tl f args:=by
 unfold FX
 refine ET.cond (fun h=> .some ⟨fun h=>(by cases h),fun h'=>absurd (congrArg Int.ofNat h'.1) (Li h)⟩) fun h=>?_
 have h:=Jp h
 have hlen:args.length=f.params.length:=om
 have loop: ∀(j i:Nat),i+j=args.length→EL (fun N k=>IQ N f args k (i:Int)) fun b=>b=true↔∀(i':Nat) (v:AH) (x:AK),i≤i'→args[i']?=some v→f.params[i']?=some x→v.type_=x.type_∧chk v=true:=by
  intro j
  induction j with
  |zero=>
   intro i hi
   refine EL.down ?_
   show EL (fun N k=>Im N f args (IQ N f args k) i) _
   unfold Im
   exact EL.cond (fun h=>by have:=CO h;omega) fun _=> .some ⟨fun _ i' v x hi' hv _=>by have:=(List.getElem?_eq_some_iff.1 hv).1;omega,fun _=>rfl⟩
  |succ j ihj=>
   intro i hi
   obtain ⟨v,hv⟩: ∃v,args[i]?=some v:=⟨_,List.getElem?_eq_getElem om⟩
   obtain ⟨x,hx⟩: ∃x,f.params[i]?=some x:=⟨_,List.getElem?_eq_getElem om⟩
   have hg:=hA.1 v (List.mem_of_getElem? hv)
   refine EL.down ?_
   show EL (fun N k=>Im N f args (IQ N f args k) i) _
   unfold Im Kz
   rw [wr om om,show (i:Int)+1=((i+1:Nat):Int) by omega]
   refine EL.cond (fun _=>?_) fun h=>by have:=Do h;omega
   refine EL.eq (CA hv) (EL.eq (CA hx) (EL.cond (fun h=>?_) fun h=>?_))
   ·exact EL.cond (fun _=> .some ⟨fun h=>(by cases h),fun h'=>absurd (h' i v x (Nat.le_refl _) hv hx).1 (Li h)⟩) fun h=>by cases h
   ·refine EL.bind (P:=fun b=>b=chk v) (RP (v.list.length+2) ⟨_,rfl,fun N hN=>MB hg.1 hN⟩) fun b hb=>?_
    subst hb
    refine EL.cond (fun hc=> .some ⟨fun h=>(by cases h),fun h'=>?_⟩) fun hc=>(ihj (i+1) om).mono fun b hb=>hb.trans ?_
    ·have:=(h' i v x (Nat.le_refl _) hv hx).2;rw [this] at hc;cases hc
    ·constructor
     ·intro h' i' w y hi' hw hy
      rcases Nat.eq_or_lt_of_le hi' with rfl|hlt
      ·rw [hv] at hw;cases hw;rw [hx] at hy;cases hy;exact ⟨Jp h,by simpa using hc⟩
      ·exact h' i' w y hlt hw hy
     ·intro h' i' w y hi' hw hy;exact h' i' w y om hw hy
 refine (loop args.length 0 om).diag.mono fun b hb=>hb.trans ⟨fun h=>⟨hlen,fun i v x hv hx=>h i v x (Nat.zero_le _) hv hx⟩,fun h i v x _ hv hx=>h.2 i v x hv hx⟩
theorem XS(hp:WP p)(hA:AV args)(most:Int): ∃r,Ue p nm args (QX most) r∧Ev fun N=>FM N p nm args most=some r∧Lt N p nm args most=some r:=by
 have hlen:=hp.len
 obtain ⟨ft,hft,et⟩:=AAC hp
 obtain ⟨fr,hfr,er⟩:=Tk hp
 replace et:Ev fun N=>Gz N p=some ft:=et
 replace er:Ev fun N=>Dx N p=some fr:=er
 rcases Classical.em (O7 p) with hS|hS
 rotate_left
 ·refine ⟨_,.shape hS,(et.and er).mono fun N hN=>⟨?_,?_⟩⟩
  ·unfold FM
   rw [hN.1,Option.bind_some,show (ft.why != 0)=true by simp;exact fun h=>hS (hft.1 h)];rfl
  ·unfold Lt
   rw [hN.2,Option.bind_some,show (fr.why != 0)=true by simp;exact fun h=>hS (hfr.1 h)];rfl
 have zt:(ft.why != 0)=false:=by simp;exact hft.2 hS
 have zr:(fr.why != 0)=false:=by simp;exact hfr.2 hS
 obtain ⟨mp,hmpp,hmh,n0,hmap⟩:=ZA (nm:=nm) (args:=args) hlen hS.1.1 p.funcs.length 0 om [] fun s=>⟨by simp;rfl,fun k f hk=>om⟩
 have mean0:Ev fun N=>FM N p nm args most=(bif !(N5 mp nm) then some (RD 32) else ((idx p.funcs (Ck mp nm)).bind fun x239=>bif ((args.length:Int) != (x239.params.length:Int)) then some (RD 40) else Ed N p args most mp x239 N Nm.nil 0)):=
  (et.and (MJ n0)).mono fun N hN=>by
   unfold FM
   rw [hN.1,Option.bind_some,zt,cond_false]
   exact hmap N N most hN.2
 have ref0:Ev fun N=>Lt N p nm args most=(bif (!(hdR (hd p nm)).2) then some (RD 32) else ((FX N (hdR (hd p nm)).1 args).bind fun x80=>bif (!x80) then some (RD 40) else (JJ N p args most (hdR (hd p nm)) N Nm.nil 0))):=
  (er.and (MJ (p.funcs.length+2))).mono fun N hN=>by
   unfold Lt
   rw [hN.1,Option.bind_some,zr,cond_false,QR om hN.2,Option.bind_some];rfl
 cases hh:hd p nm with
 |none=>
  refine ⟨_,.func hS hh,(mean0.and ref0).mono fun N hN=>⟨?_,?_⟩⟩
  ·rw [hN.1,hmh,hh];rfl
  ·rw [hN.2,hh];rfl
 |some f=>
  have hfm:=List.mem_of_find?_eq_some hh
  have hfn:=hp.fns f hfm
  have hfp:=hfn.pars
  obtain ⟨b,hb,eb⟩:=XR (f:=f) hA hfp
  replace eb:Ev fun N=>FX N f args=some b:=eb
  have mean1:Ev fun N=>FM N p nm args most=(bif ((args.length:Int) != (f.params.length:Int)) then some (RD 40) else Ed N p args most mp f N Nm.nil 0):=mean0.mono fun N hN=>by
   rw [hN,hmh,hh,hmpp nm f hh];rfl
  have ref1:Ev fun N=>Lt N p nm args most=(bif (!b) then some (RD 40) else (JJ N p args most (f,true) N Nm.nil 0)):=(ref0.and eb).mono fun N hN=>by
   rw [hN.1,hh]
   show (bif (!true) then _ else ((FX N f args).bind fun x80=>_))=_
   rw [hN.2];rfl
  have loopM: ∀(Z:Option BR),args.length=f.params.length→∀(j i:Nat),i+j=args.length→∀(acc:Nm),
    ((∀(i':Nat) (v:AH) (x:AK),i≤i'→args[i']?=some v→f.params[i']?=some x→v.type_=x.type_∧chk v=true)→
     ∃n1,∀N k,n1≤N→n1≤k→Ed N p args most mp f k acc (i:Int)=Fq N p args most mp f (fun _ _=>Z) (RC (f.params.drop i) (args.drop i) acc) (args.length:Int))∧
    ((¬∀(i':Nat) (v:AH) (x:AK),i≤i'→args[i']?=some v→f.params[i']?=some x→v.type_=x.type_∧chk v=true)→
     ∃n1,∀N k,n1≤N→n1≤k→Ed N p args most mp f k acc (i:Int)=some (RD 40)):=by
   intro Z hlen2 j
   induction j with
   |zero=>
    intro i hi acc
    refine ⟨fun _=>⟨1,fun N k _ hk=>?_⟩,fun h=>absurd (fun i' v x hi' hv _=>by have:=(List.getElem?_eq_some_iff.1 hv).1;omega) h⟩
    obtain ⟨k,rfl⟩: ∃j,k=j+1:=⟨k - 1,om⟩
    show Fq N p args most mp f (Ed N p args most mp f k) acc i=_
    have e1:f.params.drop i=[]:=List.drop_eq_nil_of_le om
    have e2:args.drop i=[]:=List.drop_eq_nil_of_le om
    rw [e1,e2]
    unfold Fq
    rw [show decide ((i:Int)< (args.length:Int))=false from decide_eq_false om,show decide ((args.length:Int)< (args.length:Int))=false from decide_eq_false om]
    rfl
   |succ j ihj=>
    intro i hi acc
    obtain ⟨v,hv⟩: ∃v,args[i]?=some v:=⟨_,List.getElem?_eq_getElem om⟩
    obtain ⟨x,hx⟩: ∃x,f.params[i]?=some x:=⟨_,List.getElem?_eq_getElem om⟩
    have hg:=hA.1 v (List.mem_of_getElem? hv)
    have step: ∀N k,v.list.length+2≤N→Ed N p args most mp f (k+1) acc (i:Int)=(bif (v.type_==x.type_&&chk v) then Ed N p args most mp f k (.bind x.name (gv v) acc) ((i+1:Nat):Int) else some (RD 40)):=by
     intro N k hN
     show Fq N p args most mp f (Ed N p args most mp f k) acc i=_
     unfold Fq LY
     rw [show decide ((i:Int)< (args.length:Int))=true from decide_eq_true om,cond_true,CA hv,Option.bind_some,CA hx,Option.bind_some,NV hg.1 hN,Option.bind_some,(WD (v:=v) (N:=N) (by have:=hg.2;omega) hN).1,wr om om,show (i:Int)+1=((i+1:Nat):Int) by omega,Option.bind_some,Option.bind_some]
     cases h1:(v.type_==x.type_)
     ·rw [show (v.type_ != x.type_)=true by simp only [bne,h1];rfl];rfl
     ·rw [show (v.type_ != x.type_)=false by simp only [bne,h1];rfl]
      cases chk v<;>rfl
    have ihh:=ihj (i+1) om (.bind x.name (gv v) acc)
    have heq:v.type_=x.type_∧chk v=true↔(v.type_==x.type_&&chk v)=true:=by simp
    have henv:RC (f.params.drop i) (args.drop i) acc=RC (f.params.drop (i+1)) (args.drop (i+1)) (.bind x.name (gv v) acc):=by rw [LJ hx,LJ hv];rfl
    constructor
    ·intro h
     have h0:=h i v x (Nat.le_refl _) hv hx
     obtain ⟨n1,hn1⟩:=ihh.1 fun i' w y hi' hw hy=>h i' w y om hw hy
     refine ⟨n1+v.list.length+3,fun N k hN hk=>?_⟩
     obtain ⟨k,rfl⟩: ∃j,k=j+1:=⟨k - 1,om⟩
     rw [step N k om,heq.1 h0,cond_true,hn1 N k om om,henv]
    ·intro h
     cases hc:(v.type_==x.type_&&chk v)
     ·refine ⟨v.list.length+3,fun N k hN hk=>?_⟩
      obtain ⟨k,rfl⟩: ∃j,k=j+1:=⟨k - 1,om⟩
      rw [step N k om,hc];rfl
     ·obtain ⟨n1,hn1⟩:=ihh.2 fun h'=>h fun i' w y hi' hw hy=>by
       rcases Nat.eq_or_lt_of_le hi' with rfl|hlt
       ·rw [hv] at hw;cases hw;rw [hx] at hy;cases hy;exact heq.2 hc
       ·exact h' i' w y hlt hw hy
      refine ⟨n1+v.list.length+3,fun N k hN hk=>?_⟩
      obtain ⟨k,rfl⟩: ∃j,k=j+1:=⟨k - 1,om⟩
      rw [step N k om,hc]
      exact hn1 N k om om
  rcases Classical.em (Tl f args) with hF|hF
  ·
   have hEnv:EOK p 1100000 f.params.reverse (RC f.params args .nil):=by
    have:=AAD (p:=p) (L:=1100000) f.params args [] .nil hF.1.symm .nil fun i x v hx hv=>by
     have h1:=hF.2 i v x hv hx
     have h2:=hA.1 v (List.mem_of_getElem? hv)
     exact ⟨h1.1,(Yj h2.1).1 h1.2,om⟩
    rwa [List.append_nil] at this
   obtain ⟨r,c,hr,hc,hv⟩:=ABF hp hS.2 om (Nat.le_refl 1100000) (XP most) hEnv (hS.2 f hfm) hfn.body hfn.typ
   refine ⟨_,.run hS hh hF hr hc hv,?_⟩
   obtain ⟨n1,hn1⟩:=(loopM none hF.1 args.length 0 om .nil).1 fun i v x _ hv hx=>hF.2 i v x hv hx
   have mean2:Ev fun N=>FM N p nm args most=Fq N p args most mp f (fun _ _=>none) (RC f.params args .nil) (args.length:Int):=(mean1.and (MJ n1)).mono fun N hN=>by
    rw [hN.1,show ((args.length:Int) != (f.params.length:Int))=false by simp;have:=hF.1;omega,cond_false]
    exact hn1 N N hN.2 hN.2
   have hbt:b=true:=hb.2 hF
   have loopR: ∀(j i:Nat),i+j=args.length→∀(acc:Nm),∃n1,∀N k,n1≤N→n1≤k→JJ N p args most (f,true) k acc (i:Int)=Gj N p args most (f,true) (fun _ _=>none) (RC (f.params.drop i) (args.drop i) acc) (args.length:Int):=by
    intro j
    induction j with
    |zero=>
     intro i hi acc
     refine ⟨1,fun N k _ hk=>?_⟩
     obtain ⟨k,rfl⟩: ∃j,k=j+1:=⟨k - 1,om⟩
     show Gj N p args most (f,true) (JJ N p args most (f,true) k) acc i=_
     have e1:f.params.drop i=[]:=List.drop_eq_nil_of_le (by have:=hF.1;omega)
     have e2:args.drop i=[]:=List.drop_eq_nil_of_le om
     rw [e1,e2]
     unfold Gj
     rw [show decide ((i:Int)< (args.length:Int))=false from decide_eq_false om,show decide ((args.length:Int)< (args.length:Int))=false from decide_eq_false om]
     rfl
    |succ j ihj=>
     intro i hi acc
     obtain ⟨v,hv⟩: ∃v,args[i]?=some v:=⟨_,List.getElem?_eq_getElem om⟩
     obtain ⟨x,hx⟩: ∃x,f.params[i]?=some x:=⟨_,List.getElem?_eq_getElem (by have:=hF.1;omega)⟩
     have hg:=hA.1 v (List.mem_of_getElem? hv)
     obtain ⟨n1,hn1⟩:=ihj (i+1) om (.bind x.name (gv v) acc)
     refine ⟨n1+v.list.length+3,fun N k hN hk=>?_⟩
     obtain ⟨k,rfl⟩: ∃j,k=j+1:=⟨k - 1,om⟩
     show Gj N p args most (f,true) (JJ N p args most (f,true) k) acc i=_
     have henv:RC (f.params.drop i) (args.drop i) acc=RC (f.params.drop (i+1)) (args.drop (i+1)) (.bind x.name (gv v) acc):=by rw [LJ hx,LJ hv];rfl
     rw [henv,←hn1 N k om om]
     conv=>lhs;unfold Gj
     have hx':idx (f,true).1.params (i:Int)=some x:=CA hx
     have hai:(i:Int)< (args.length:Int):=om
     have hfl:=hF.1
     rw [show decide ((i:Int)< (args.length:Int))=true from decide_eq_true hai,cond_true,hx',Option.bind_some,CA hv,Option.bind_some,(WD (v:=v) (N:=N) (by have:=hg.2;omega) om).2,Option.bind_some,wr om om,show (i:Int)+1=((i+1:Nat):Int) by omega]
   obtain ⟨n2,hn2⟩:=loopR args.length 0 om .nil
   have ref2:Ev fun N=>Lt N p nm args most=Gj N p args most (f,true) (fun _ _=>none) (RC f.params args .nil) (args.length:Int):=(ref1.and (MJ n2)).mono fun N hN=>by
    rw [hN.1,hbt]
    exact hn2 N N hN.2 hN.2
   have hm:=XP most
   have dl:decide ((args.length:Int)< (args.length:Int))=false:=decide_eq_false om
   cases hr with
   |err h=>
    rename_i y
    have hy:=O6 h y rfl
    refine (((mean2.and ref2).and (QQ hp hmpp hm h)).and ((Wz hp hm h).and (MJ 1))).mono fun N hN=>⟨?_,?_⟩
    ·rw [hN.1.1.1]
     unfold Fq
     rw [dl,cond_false,Px,SH]
     have:=hN.1.2
     rw [show ((0:Nat):Int)=0 from rfl] at this
     rw [this];rfl
    ·rw [hN.1.1.2]
     unfold Gj
     rw [dl,cond_false,Px,SH]
     have:=hN.2.1
     rw [show ((0:Nat):Int)=0 from rfl] at this
     rw [this]
     obtain ⟨M,hM⟩: ∃M,N=M+1:=⟨N - 1,by have:=hN.2.2;omega⟩
     subst hM
     show ((IA (M+1) ⟨p,QX most,c,y⟩ th0).bind fun x312=>_)=_
     unfold IA Gi
     rw [show ((Ak.mk p (QX most) c y).why==0)=false by simpa using hy,cond_false,cond_false]
     show ((D9 (M+1) (CH (M+1) M) th0 p.funcs (QX most) c y []).bind fun x312=>_)=_
     unfold D9
     rw [show (y==0)=false by simpa using hy]
     show (bif (y != 0) then _ else _)=_
     rw [show (y != 0)=true by simpa using hy];rfl
   |val h h2=>
    rename_i x c1
    refine (((mean2.and ref2).and ((QQ hp hmpp hm h).and (VQ hp hmpp hm h2))).and ((Wz hp hm h).and (ABD hp hm h2))).mono fun N hN=>⟨?_,?_⟩
    ·rw [hN.1.1.1]
     unfold Fq
     rw [dl,cond_false,Px,SH]
     have:=hN.1.2.1
     rw [show ((0:Nat):Int)=0 from rfl] at this
     rw [this]
     show ((D8 N p.funcs c1 (QX most) mp x).bind fun x757=>_)=_
     rw [hN.1.2.2]
     cases r<;>rfl
    ·rw [hN.1.1.2]
     unfold Gj
     rw [dl,cond_false,Px,SH]
     have:=hN.2.1
     rw [show ((0:Nat):Int)=0 from rfl] at this
     rw [this]
     obtain ⟨v,hv1,hv2⟩:=hN.2.2
     show ((IA N ⟨p,QX most,c1,0⟩ (.done x.plain x.head x.tail)).bind fun x312=>_)=_
     rw [hv1,Option.bind_some]
     cases r with
     |ok u=>rw [hv2 u rfl];rfl
     |error y=>
      have hy:y≠0:=by rcases hv with ⟨h,_⟩| ⟨h,_⟩<;>omega
      show (bif (y != 0) then _ else _)=_
      rw [show (y != 0)=true by simpa using hy];rfl
  ·
   have hbf:b=false:=by cases hbb:b;rfl;exact absurd (hb.1 hbb) hF
   refine ⟨_,.args hS hh hF,?_⟩
   rcases Decidable.em (args.length=f.params.length) with hl2|hl2
   ·obtain ⟨n1,hn1⟩:=(loopM none hl2 args.length 0 om .nil).2 fun h=>hF ⟨hl2,fun i v x hv hx=>h i v x (Nat.zero_le _) hv hx⟩
    refine ((mean1.and ref1).and (MJ n1)).mono fun N hN=>⟨?_,?_⟩
    ·rw [hN.1.1,show ((args.length:Int) != (f.params.length:Int))=false by simp;omega,cond_false]
     exact hn1 N N hN.2 hN.2
    ·rw [hN.1.2,hbf];rfl
   ·refine (mean1.and ref1).mono fun N hN=>⟨?_,?_⟩
    ·rw [hN.1,show ((args.length:Int) != (f.params.length:Int))=true by simp;omega];rfl
    ·rw [hN.2,hbf];rfl
end
end Fth
namespace Fth
open Go
def Rvv(v:AH):Prop:=v=v0∨(VV v.type_ v∧GV v)
theorem Xt{v:AH}(h:Rvv v):Ev fun N=>G5 N v v=some true:=by
 rcases h with rfl| ⟨h,hg⟩
 ·refine Ev.all fun N=>?_
  have c0:ceq ((0,0):Nat×Nat) (0,0)=true:=by decide
  unfold G5 Jk
  rw [show (v0.type_==0)=true from rfl,cond_true,cond_true,show v0.num=(0,0) from rfl,c0]
  rfl
 ·have ht:v.type_≠0:=by rcases h with ⟨e,_⟩| ⟨e,_⟩| ⟨e,_⟩<;>omega
  have hl:=hg.2.2
  refine (MJ (v.list.length+2)).mono fun N hN=>?_
  have cself: ∀z,Gn z→cne z z=false:=fun z hz=>by
   obtain ⟨n,hn,rfl⟩:=(Py z).1 hz
   have:=Yb hn hn
   simp only [decide_true,Bool.and_self] at this
   unfold ceq at this
   unfold cne
   rw [this];rfl
  have loop: ∀(k i:Nat),i≤v.list.length→v.list.length<i+k→JK v v k (i:Int)=some true:=by
   intro k
   induction k with
   |zero=>intro i _ _;omega
   |succ k ih=>
    intro i hi hk
    show KY v v (JK v v k) i=_
    unfold KY
    cases hc:decide ((i:Int)< (v.list.length:Int))
    ·rfl
    ·have hc:=CO hc
     obtain ⟨z,hz⟩: ∃z,v.list[i]?=some z:=⟨_,List.getElem?_eq_getElem om⟩
     rw [cond_true,CA hz,Option.bind_some,Option.bind_some,cself z (hg.2.1 z (List.mem_of_getElem? hz)),cond_false,wr om om,show (i:Int)+1=((i+1:Nat):Int) by omega]
     exact ih (i+1) om om
  have hch:=(Yj hg).2 h
  unfold G5 Jk
  rw [show (v.type_==0)=false by simpa using ht,cond_false,cond_false]
  unfold JL HR
  rw [MB hg hN,Option.bind_some,hch,Bool.not_true,cond_false,Option.bind_some,Bool.not_true,cond_false,show (v.type_ != v.type_)=false by simp,cond_false,cself v.num hg.1,cond_false,show (!(v.bool==v.bool))=false by simp,cond_false,show ((v.list.length:Int) != (v.list.length:Int))=false by simp,cond_false]
  have:=loop N 0 om om
  rw [show ((0:Nat):Int)=0 from rfl] at this
  rw [this];rfl
section
variable{p:AL}{nm:List UInt8}{args:List AH}{m:Nat}
theorem ZB{r:BR}(h:Ue p nm args m r):Rvv r.value:=by
 cases h with
 |shape=>exact .inl rfl
 |func=>exact .inl rfl
 |args=>exact .inl rfl
 | @run f r c h hf ha hr hc hv=>
  cases r with
  |error y=>exact .inl rfl
  |ok v=>exact .inr ⟨hv.1.type▸hv.1,hv.1.gv (by have:=hv.2.2;omega)⟩
theorem J9{c:Nat}{e:AB}{ρ:Nm}{r:Except Int Al}{c':Nat}(h:Lk p m c e ρ r c'):c≤c'∧(r≠ .error 60→c<c'):=by
 induction h with
 |fuel=>exact ⟨Nat.le_refl _,fun h=>absurd rfl h⟩
 |num=>exact ⟨om,fun _=>om⟩
 |tru=>exact ⟨om,fun _=>om⟩
 |fls=>exact ⟨om,fun _=>om⟩
 |nil=>exact ⟨om,fun _=>om⟩
 |fail=>exact ⟨om,fun _=>om⟩
 |vdone=>exact ⟨om,fun _=>om⟩
 |cons=>exact ⟨om,fun _=>om⟩
 |vlater _ _ _ _ ih=>exact ⟨om,fun _=>om⟩
 |call _ _ _ _ _ ih=>exact ⟨om,fun _=>om⟩
 |ifE _ _ _ _ ih=>exact ⟨om,fun _=>om⟩
 |ifT _ _ _ _ _ _ ih1 ih=>exact ⟨om,fun _=>om⟩
 |ifF _ _ _ _ _ _ ih1 ih=>exact ⟨om,fun _=>om⟩
 |caE _ _ _ _ ih=>exact ⟨om,fun _=>om⟩
 |caN _ _ _ _ _ _ ih1 ih=>exact ⟨om,fun _=>om⟩
 |caC _ _ _ _ _ _ ih1 ih=>exact ⟨om,fun _=>om⟩
 |lt _ _ _ _ ih=>exact ⟨om,fun _=>om⟩
 |stE _ _ _ _ ih=>exact ⟨om,fun _=>om⟩
 |stV _ _ _ _ _ ih1 ih=>exact ⟨om,fun _=>om⟩
 |unE _ _ _ _ ih=>exact ⟨om,fun _=>om⟩
 |un _ _ _ _ _ ih=>exact ⟨om,fun _=>om⟩
 |biE _ _ _ _ ih=>exact ⟨om,fun _=>om⟩
 |biE2 _ _ _ _ _ ih1 ih=>exact ⟨om,fun _=>om⟩
 |bi _ _ _ _ _ _ ih1 ih=>exact ⟨om,fun _=>om⟩
theorem MS{m' c:Nat}{e:AB}{ρ:Nm}{r:Except Int Al}{c':Nat}(h:Lk p m c e ρ r c')(hr:r≠ .error 60)(hc:c'≤m'):Lk p m' c e ρ r c':=by
 induction h with
 |fuel=>exact absurd rfl hr
 |num _ ho=>exact .num om ho
 |tru _ ho=>exact .tru om ho
 |fls _ ho=>exact .fls om ho
 |nil _ ho=>exact .nil om ho
 |fail _ ho=>exact .fail om ho
 |vdone _ ho hf=>exact .vdone om ho hf
 |cons _ ho ha=>exact .cons om ho ha
 |vlater _ ho hf h1 ih=>have:=(J9 h1).1;exact .vlater om ho hf (ih hr hc)
 |call _ ho hf hl h1 ih=>have:=(J9 h1).1;exact .call om ho hf hl (ih hr hc)
 |ifE _ ho ha h1 ih=>have:=(J9 h1).1;exact .ifE om ho ha (ih (fun e=>hr (by cases e;rfl)) hc)
 |ifT _ ho ha h1 hb h2 ih1 ih=>have:=(J9 h1).1;have:=(J9 h2).1;exact .ifT om ho ha (ih1 (fun e=>by cases e) om) hb (ih hr hc)
 |ifF _ ho ha h1 hb h2 ih1 ih=>have:=(J9 h1).1;have:=(J9 h2).1;exact .ifF om ho ha (ih1 (fun e=>by cases e) om) hb (ih hr hc)
 |caE _ ho ha h1 ih=>have:=(J9 h1).1;exact .caE om ho ha (ih (fun e=>hr (by cases e;rfl)) hc)
 |caN _ ho ha h1 hb h2 ih1 ih=>have:=(J9 h1).1;have:=(J9 h2).1;exact .caN om ho ha (ih1 (fun e=>by cases e) om) hb (ih hr hc)
 |caC _ ho ha h1 hb h2 ih1 ih=>have:=(J9 h1).1;have:=(J9 h2).1;exact .caC om ho ha (ih1 (fun e=>by cases e) om) hb (ih hr hc)
 |lt _ ho ha h1 ih=>have:=(J9 h1).1;exact .lt om ho ha (ih hr hc)
 |stE _ ho ha h1 ih=>have:=(J9 h1).1;exact .stE om ho ha (ih (fun e=>hr (by cases e;rfl)) hc)
 |stV _ ho ha h1 h2 ih1 ih=>have:=(J9 h1).1;have:=(J9 h2).1;exact .stV om ho ha (ih1 (fun e=>by cases e) om) (ih hr hc)
 |unE _ ho ha h1 ih=>have:=(J9 h1).1;exact .unE om ho ha (ih (fun e=>hr (by cases e;rfl)) hc)
 |un _ ho ha h1 hq ih=>have:=(J9 h1).1;exact .un om ho ha (ih (fun e=>by cases e) hc) hq
 |biE _ ho ha h1 ih=>have:=(J9 h1).1;exact .biE om ho ha (ih (fun e=>hr (by cases e;rfl)) hc)
 |biE2 _ ho ha h1 h2 ih1 ih=>have:=(J9 h1).1;have:=(J9 h2).1;exact .biE2 om ho ha (ih1 (fun e=>by cases e) om) (ih (fun e=>hr (by cases e;rfl)) hc)
 |bi _ ho ha h1 h2 hq ih1 ih=>have:=(J9 h1).1;have:=(J9 h2).1;exact .bi om ho ha (ih1 (fun e=>by cases e) om) (ih (fun e=>by cases e) hc) hq
theorem VT{m' c:Nat}{e:AB}{ρ:Nm}{r:Except Int Al}{c':Nat}(h:Lk p m c e ρ r c')(h1:c≤m')(h2:m'<c'):Lk p m' c e ρ (.error 60) m':=by
 have z: ∀{c:Nat} {e:AB} {ρ:Nm},c≤m'→¬c<m'→Lk p m' c e ρ (.error 60) m':=fun {c e ρ} a b=>by
  have:m'=c:=om
  subst this;exact .fuel (Nat.le_refl _)
 induction h with
 |fuel=>omega
 |num _ ho=>exact z h1 om
 |tru _ ho=>exact z h1 om
 |fls _ ho=>exact z h1 om
 |nil _ ho=>exact z h1 om
 |fail _ ho=>exact z h1 om
 |vdone _ ho hf=>exact z h1 om
 |cons _ ho ha=>exact z h1 om
 | @vlater c e ρ e' ρ' r c' _ ho hf _ ih=>
  rcases Nat.lt_or_ge c m' with h|h
  ·exact .vlater h ho hf (ih om h2)
  ·exact z h1 om
 | @call c e ρ f r c' _ ho hf hl _ ih=>
  rcases Nat.lt_or_ge c m' with h|h
  ·exact .call h ho hf hl (ih om h2)
  ·exact z h1 om
 | @ifE c e ρ a b d y c' _ ho ha _ ih=>
  rcases Nat.lt_or_ge c m' with h|h
  ·exact .ifE h ho ha (ih om h2)
  ·exact z h1 om
 | @ifT c e ρ a b d x c1 r c' _ ho ha k1 hb k2 ih1 ih=>
  rcases Nat.lt_or_ge c m' with h|h
  ·rcases Nat.lt_or_ge m' c1 with h'|h'
   ·exact .ifE h ho ha (ih1 om h')
   ·exact .ifT h ho ha (MS k1 (fun e=>by cases e) h') hb (ih h' h2)
  ·exact z h1 om
 | @ifF c e ρ a b d x c1 r c' _ ho ha k1 hb k2 ih1 ih=>
  rcases Nat.lt_or_ge c m' with h|h
  ·rcases Nat.lt_or_ge m' c1 with h'|h'
   ·exact .ifE h ho ha (ih1 om h')
   ·exact .ifF h ho ha (MS k1 (fun e=>by cases e) h') hb (ih h' h2)
  ·exact z h1 om
 | @caE c e ρ a b d y c' _ ho ha _ ih=>
  rcases Nat.lt_or_ge c m' with h|h
  ·exact .caE h ho ha (ih om h2)
  ·exact z h1 om
 | @caN c e ρ a b d x c1 r c' _ ho ha k1 hb k2 ih1 ih=>
  rcases Nat.lt_or_ge c m' with h|h
  ·rcases Nat.lt_or_ge m' c1 with h'|h'
   ·exact .caE h ho ha (ih1 om h')
   ·exact .caN h ho ha (MS k1 (fun e=>by cases e) h') hb (ih h' h2)
  ·exact z h1 om
 | @caC c e ρ a b d x c1 r c' _ ho ha k1 hb k2 ih1 ih=>
  rcases Nat.lt_or_ge c m' with h|h
  ·rcases Nat.lt_or_ge m' c1 with h'|h'
   ·exact .caE h ho ha (ih1 om h')
   ·exact .caC h ho ha (MS k1 (fun e=>by cases e) h') hb (ih h' h2)
  ·exact z h1 om
 | @lt c e ρ a b r c' _ ho ha _ ih=>
  rcases Nat.lt_or_ge c m' with h|h
  ·exact .lt h ho ha (ih om h2)
  ·exact z h1 om
 | @stE c e ρ a b y c' _ ho ha _ ih=>
  rcases Nat.lt_or_ge c m' with h|h
  ·exact .stE h ho ha (ih om h2)
  ·exact z h1 om
 | @stV c e ρ a b x c1 r c' _ ho ha k1 k2 ih1 ih=>
  rcases Nat.lt_or_ge c m' with h|h
  ·rcases Nat.lt_or_ge m' c1 with h'|h'
   ·exact .stE h ho ha (ih1 om h')
   ·exact .stV h ho ha (MS k1 (fun e=>by cases e) h') (ih h' h2)
  ·exact z h1 om
 | @unE c e ρ a y c' _ ho ha _ ih=>
  rcases Nat.lt_or_ge c m' with h|h
  ·exact .unE h ho ha (ih om h2)
  ·exact z h1 om
 | @un c e ρ a x c' r _ ho ha _ _ ih=>
  rcases Nat.lt_or_ge c m' with h|h
  ·exact .unE h ho ha (ih om h2)
  ·exact z h1 om
 | @biE c e ρ a b y c' _ ho ha _ ih=>
  rcases Nat.lt_or_ge c m' with h|h
  ·exact .biE h ho ha (ih om h2)
  ·exact z h1 om
 | @biE2 c e ρ a b x c1 y c' _ ho ha k1 k2 ih1 ih=>
  rcases Nat.lt_or_ge c m' with h|h
  ·rcases Nat.lt_or_ge m' c1 with h'|h'
   ·exact .biE h ho ha (ih1 om h')
   ·exact .biE2 h ho ha (MS k1 (fun e=>by cases e) h') (ih h' h2)
  ·exact z h1 om
 | @bi c e ρ a b x c1 w c' r _ ho ha k1 k2 _ ih1 ih=>
  rcases Nat.lt_or_ge c m' with h|h
  ·rcases Nat.lt_or_ge m' c1 with h'|h'
   ·exact .biE h ho ha (ih1 om h')
   ·exact .biE2 h ho ha (MS k1 (fun e=>by cases e) h') (ih h' h2)
  ·exact z h1 om
theorem Pb{c:Nat}{h:Th}{r:Except Int Al}{c':Nat}(ht:Tg p m c h r c'):c≤c':=by
 cases ht with
 |done=>exact Nat.le_refl _
 |later h=>exact (J9 h).1
theorem QY{m' c:Nat}{h:Th}{r:Except Int Al}{c':Nat}(ht:Tg p m c h r c')(hr:r≠ .error 60)(hc:c'≤m'):Tg p m' c h r c':=by
 cases ht with
 |done=>exact .done
 |later h=>exact .later (MS h hr hc)
theorem Ny{m' c:Nat}{h:Th}{r:Except Int Al}{c':Nat}(ht:Tg p m c h r c')(h1:c≤m')(h2:m'<c'):Tg p m' c h (.error 60) m':=by
 cases ht with
 |done=>omega
 |later h=>exact .later (VT h h1 h2)
theorem AAM{c:Nat}{h t:Th}{acc:List (Nat×Nat)}{r:Except Int AH}{c':Nat}(hw:Wl p m c h t acc r c'):c≤c':=by
 induction hw with
 |hE _ h1=>exact Pb h1
 |tE _ h1 h2=>have:=Pb h1;have:=Pb h2;omega
 |stop _ h1 h2=>have:=Pb h1;have:=Pb h2;omega
 |go _ h1 h2 _ _ ih=>have:=Pb h1;have:=Pb h2;omega
theorem AAE{m' c:Nat}{h t:Th}{acc:List (Nat×Nat)}{r:Except Int AH}{c':Nat}(hw:Wl p m c h t acc r c')(h1:c≤m')(h2:m'<c'):Wl p m' c h t acc (.error 60) m':=by
 induction hw with
 |hE hb k1=>exact .hE hb (Ny k1 h1 h2)
 | @tE c h t acc x c1 y c' hb k1 k2=>
  rcases Nat.lt_or_ge m' c1 with h'|h'
  ·exact .hE hb (Ny k1 h1 h')
  ·exact .tE hb (QY k1 (fun e=>by cases e) h') (Ny k2 h' h2)
 | @stop c h t acc x c1 z c' hb k1 k2 hz=>
  rcases Nat.lt_or_ge m' c1 with h'|h'
  ·exact .hE hb (Ny k1 h1 h')
  ·exact .tE hb (QY k1 (fun e=>by cases e) h') (Ny k2 h' h2)
 | @go c h t acc x c1 z c2 r c' hb k1 k2 hz k3 ih=>
  rcases Nat.lt_or_ge m' c1 with h'|h'
  ·exact .hE hb (Ny k1 h1 h')
  ·rcases Nat.lt_or_ge m' c2 with h''|h''
   ·exact .tE hb (QY k1 (fun e=>by cases e) h') (Ny k2 h' h'')
   ·exact .go hb (QY k1 (fun e=>by cases e) h') (QY k2 (fun e=>by cases e) h'') hz (ih h'' h2)
theorem AAF{m':Nat}{e:AB}{ρ:Nm}{r:Except Int AH}{c':Nat}(h:Rn p m e ρ r c')(h2:m'<c'):Rn p m' e ρ (.error 60) m':=by
 cases h with
 |err h=>exact .err (VT h (Nat.zero_le _) h2)
 |val h h3=>
  rename_i x c1
  rcases Nat.lt_or_ge m' c1 with h'|h'
  ·exact .err (VT h (Nat.zero_le _) h')
  ·cases h3 with
   |plain hx=>omega
   |list hx h3=>exact .val (MS h (fun e=>by cases e) h') (.list hx (AAE h3 h' h2))
end
end Fth
namespace Fth
open Go
class OL{α:Type}(x y:Option α):Prop where
 le: ∀a,x=some a→y=some a
class Up(N M:Nat):Prop where
 le:N≤M
instance OL.refl {α:Type} {x:Option α}:OL x x:=⟨fun _ h=>h⟩
theorem OL.none{α:Type}{x:Option α}:OL none x:=⟨fun _ h=>by cases h⟩
instance OL.bind {α β:Type} {x y:Option α} {f g:α→Option β} [h:OL x y] [k: ∀a,OL (f a) (g a)]:OL (x.bind f) (y.bind g):=⟨fun b hb=>by
 cases x with
 |none=>cases hb
 |some a=>rw [h.le a rfl];exact (k a).le b hb⟩
instance OL.cond {α:Type} {c:Bool} {x y x' y':Option α} [h1:OL x x'] [h2:OL y y']:OL (bif c then x else y) (bif c then x' else y'):=by
 cases c
 ·exact h2
 ·exact h1
theorem Up.go{P:Nat→Nat→Prop}(h0: ∀M,P 0 M)(hs: ∀n m [Up n m],P n m→P (n+1) (m+1)){N M:Nat}[h:Up N M]:P N M:=by
 have: ∀N M,N≤M→P N M:=by
  intro N
  induction N with
  |zero=>intro M _;exact h0 M
  |succ n ih=>
   intro M hM
   cases M with
   |zero=>exact absurd hM (Nat.not_succ_le_zero n)
   |succ m=>exact @hs n m ⟨Nat.le_of_succ_le_succ hM⟩ (ih m (Nat.le_of_succ_le_succ hM))
 exact this N M h.le
set_option linter.unusedVariables false
set_option synthInstance.maxHeartbeats 400000
set_option synthInstance.maxSize 4000
theorem ZC{α0 β:Type}{f f':Nat→α0→Option β}(hs: ∀n m [Up n m] [∀y0,OL (f n y0) (f' m y0)] y0,OL (f (n+1) y0) (f' (m+1) y0))(h0: ∀y0,f 0 y0=none:=by intros;rfl){N M}[Up N M]{y0}:OL (f N y0) (f' M y0):=Up.go (P:=fun N M=>∀y0,OL (f N y0) (f' M y0)) (fun _ _=>by rw [h0];exact .none) (fun n m _ h=>@hs n m _ h) y0
theorem Uf{α0 α1 β:Type}{f f':Nat→α0→α1→Option β}(hs: ∀n m [Up n m] [∀y0 y1,OL (f n y0 y1) (f' m y0 y1)] y0 y1,OL (f (n+1) y0 y1) (f' (m+1) y0 y1))(h0: ∀y0 y1,f 0 y0 y1=none:=by intros;rfl){N M}[Up N M]{y0 y1}:OL (f N y0 y1) (f' M y0 y1):=Up.go (P:=fun N M=>∀y0 y1,OL (f N y0 y1) (f' M y0 y1)) (fun _ _ _=>by rw [h0];exact .none) (fun n m _ h=>@hs n m _ h) y0 y1
theorem ABd{α0 α1 α2 β:Type}{f f':Nat→α0→α1→α2→Option β}(hs: ∀n m [Up n m] [∀y0 y1 y2,OL (f n y0 y1 y2) (f' m y0 y1 y2)] y0 y1 y2,OL (f (n+1) y0 y1 y2) (f' (m+1) y0 y1 y2))(h0: ∀y0 y1 y2,f 0 y0 y1 y2=none:=by intros;rfl){N M}[Up N M]{y0 y1 y2}:OL (f N y0 y1 y2) (f' M y0 y1 y2):=Up.go (P:=fun N M=>∀y0 y1 y2,OL (f N y0 y1 y2) (f' M y0 y1 y2)) (fun _ _ _ _=>by rw [h0];exact .none) (fun n m _ h=>@hs n m _ h) y0 y1 y2
theorem ABe{α0 α1 α2 α3 β:Type}{f f':Nat→α0→α1→α2→α3→Option β}(hs: ∀n m [Up n m] [∀y0 y1 y2 y3,OL (f n y0 y1 y2 y3) (f' m y0 y1 y2 y3)] y0 y1 y2 y3,OL (f (n+1) y0 y1 y2 y3) (f' (m+1) y0 y1 y2 y3))(h0: ∀y0 y1 y2 y3,f 0 y0 y1 y2 y3=none:=by intros;rfl){N M}[Up N M]{y0 y1 y2 y3}:OL (f N y0 y1 y2 y3) (f' M y0 y1 y2 y3):=Up.go (P:=fun N M=>∀y0 y1 y2 y3,OL (f N y0 y1 y2 y3) (f' M y0 y1 y2 y3)) (fun _ _ _ _ _=>by rw [h0];exact .none) (fun n m _ h=>@hs n m _ h) y0 y1 y2 y3
instance {p0 p2} {s1 s1'} [∀x0,OL (s1 x0) (s1' x0)]:OL (GX p0 s1 p2) (GX p0 s1' p2):=by unfold GX;infer_instance
instance {p0 p1 p3} {s2 s2'} [∀x0,OL (s2 x0) (s2' x0)]:OL (GR p0 p1 s2 p3) (GR p0 p1 s2' p3):=by unfold GR;infer_instance
instance {p0 p1} {k j} [Up k j] {y0}:OL (Eb p0 p1 k y0) (Eb p0 p1 j y0):=ZC fun n m _ _ y0=>inferInstanceAs (OL (GR p0 p1 (Eb p0 p1 n) y0) (GR p0 p1 (Eb p0 p1 m) y0))
instance {p1 p2} {N M} [Up N M]:OL (IS N p1 p2) (IS M p1 p2):=by unfold IS;infer_instance
instance {p0 p1 p2 p3 p5} {s4 s4'} [∀x0 x1,OL (s4 x0 x1) (s4' x0 x1)]:OL (Ek p0 p1 p2 p3 s4 p5) (Ek p0 p1 p2 p3 s4' p5):=by unfold Ek;infer_instance
instance {p0 p1 p3 p4} {s2 s2'} [∀x0 x1,OL (s2 x0 x1) (s2' x0 x1)]:OL (E8 p0 p1 s2 p3 p4) (E8 p0 p1 s2' p3 p4):=by unfold E8;infer_instance
instance {p0 p1} {k j} [Up k j] {y0 y1}:OL (EJ p0 p1 k y0 y1) (EJ p0 p1 j y0 y1):=Uf fun n m _ _ y0 y1=>inferInstanceAs (OL (E8 p0 p1 (EJ p0 p1 n) y0 y1) (E8 p0 p1 (EJ p0 p1 m) y0 y1))
instance {p1 p2} {N M} [Up N M]:OL (IW N p1 p2) (IW M p1 p2):=by unfold IW;infer_instance
instance {p1 p2} {N M} [Up N M]:OL (HV N p1 p2) (HV M p1 p2):=by unfold HV;infer_instance
instance {p1} {N M} [Up N M]:OL (El N p1) (El M p1):=by unfold El;infer_instance
class A8.Le(φ ψ:A8):Prop where
 ref01_digits: ∀x0,OL (φ.ref01_digits x0) (ψ.ref01_digits x0)
attribute [instance] A8.Le.ref01_digits
instance {p2} {φ ψ} [A8.Le φ ψ] {N M} [Up N M]:OL (DL φ N p2) (DL ψ M p2):=by unfold DL;infer_instance
instance {N M} [Up N M]:A8.Le (A8.at N) (A8.at M):=Up.go (P:=fun N M=>A8.Le (A8.at N) (A8.at M)) (fun _=>⟨fun _=> .none⟩) fun n m _ _=>⟨fun x0=>inferInstanceAs (OL (DL (A8.at n) n x0) (DL (A8.at m) m x0))⟩
instance {N M} [Up N M] {y0}:OL (ref01_digits N y0) (ref01_digits M y0):=A8.Le.ref01_digits _
instance {p1} {N M} [Up N M]:OL (F2 N p1) (F2 M p1):=by unfold F2;infer_instance
instance {p1 p2 p3} {N M} [Up N M]:OL (Fi N p1 p2 p3) (Fi M p1 p2 p3):=by unfold Fi;infer_instance
instance {p1 p2 p3} {N M} [Up N M]:OL (HX N p1 p2 p3) (HX M p1 p2 p3):=by unfold HX;infer_instance
instance {p1} {N M} [Up N M]:OL (EX N p1) (EX M p1):=by unfold EX;infer_instance
instance {p0 p1 p3} {s2 s2'} [∀x0,OL (s2 x0) (s2' x0)]:OL (Dp p0 p1 s2 p3) (Dp p0 p1 s2' p3):=by unfold Dp;infer_instance
instance {p0 p1} {k j} [Up k j] {y0}:OL (Db p0 p1 k y0) (Db p0 p1 j y0):=ZC fun n m _ _ y0=>inferInstanceAs (OL (Dp p0 p1 (Db p0 p1 n) y0) (Dp p0 p1 (Db p0 p1 m) y0))
instance {p1} {N M} [Up N M]:OL (Dc N p1) (Dc M p1):=by unfold Dc;infer_instance
instance {p1 p2 p3 p4 p5} {N M} [Up N M]:OL (IC N p1 p2 p3 p4 p5) (IC M p1 p2 p3 p4 p5):=by unfold IC;infer_instance
instance {p1 p2 p3 p4 p5} {N M} [Up N M]:OL (ID N p1 p2 p3 p4 p5) (ID M p1 p2 p3 p4 p5):=by unfold ID;infer_instance
instance {p1 p2} {N M} [Up N M]:OL (Hv N p1 p2) (Hv M p1 p2):=by unfold Hv;infer_instance
instance {p0 p2 p4} {s1 s1'} [∀x0 x1,OL (s1 x0 x1) (s1' x0 x1)] {s3 s3'} [∀x0,OL (s3 x0) (s3' x0)]:OL (HY p0 s1 p2 s3 p4) (HY p0 s1' p2 s3' p4):=by unfold HY;infer_instance
instance {p0 p1 p4} {s2 s2'} [∀x0 x1,OL (s2 x0 x1) (s2' x0 x1)] {s3 s3'} [∀x0,OL (s3 x0) (s3' x0)]:OL (E9 p0 p1 s2 s3 p4) (E9 p0 p1 s2' s3' p4):=by unfold E9;infer_instance
instance {p0 p1} {s2 s2'} [∀x0 x1,OL (s2 x0 x1) (s2' x0 x1)] {k j} [Up k j] {y0}:OL (Em p0 p1 s2 k y0) (Em p0 p1 s2' j y0):=ZC fun n m _ _ y0=>inferInstanceAs (OL (E9 p0 p1 s2 (Em p0 p1 s2 n) y0) (E9 p0 p1 s2' (Em p0 p1 s2' m) y0))
instance {p1 p3 p4} {N M} [Up N M] {s2 s2'} [∀x0 x1,OL (s2 x0 x1) (s2' x0 x1)]:OL (FA N p1 s2 p3 p4) (FA M p1 s2' p3 p4):=by unfold FA;infer_instance
instance {p1} {N M} [Up N M] {k j} [Up k j] {y0 y1}:OL (Dd N p1 k y0 y1) (Dd M p1 j y0 y1):=Uf fun n m _ _ y0 y1=>inferInstanceAs (OL (FA N p1 (Dd N p1 n) y0 y1) (FA M p1 (Dd M p1 m) y0 y1))
instance {p1} {N M} [Up N M]:OL (F8 N p1) (F8 M p1):=by unfold F8;infer_instance
instance {p1 p2 p3 p4 p5 p6 p7 p8 p9 p10} {s0 s0'} [∀x0 x1 x2 x3 x4 x5 x6 x7 x8 x9,OL (s0 x0 x1 x2 x3 x4 x5 x6 x7 x8 x9) (s0' x0 x1 x2 x3 x4 x5 x6 x7 x8 x9)]:OL (DC s0 p1 p2 p3 p4 p5 p6 p7 p8 p9 p10) (DC s0' p1 p2 p3 p4 p5 p6 p7 p8 p9 p10):=by unfold DC;infer_instance
instance {k j} [Up k j] {y0 y1 y2 y3 y4 y5 y6 y7 y8 y9}:OL (CI k y0 y1 y2 y3 y4 y5 y6 y7 y8 y9) (CI j y0 y1 y2 y3 y4 y5 y6 y7 y8 y9):=Up.go (P:=fun k j=>∀y0 y1 y2 y3 y4 y5 y6 y7 y8 y9,OL (CI k y0 y1 y2 y3 y4 y5 y6 y7 y8 y9) (CI j y0 y1 y2 y3 y4 y5 y6 y7 y8 y9)) (fun _ _ _ _ _ _ _ _ _ _ _=> .none) (fun n m _ _ y0 y1 y2 y3 y4 y5 y6 y7 y8 y9=>inferInstanceAs (OL (DC (CI n) y0 y1 y2 y3 y4 y5 y6 y7 y8 y9) (DC (CI m) y0 y1 y2 y3 y4 y5 y6 y7 y8 y9))) y0 y1 y2 y3 y4 y5 y6 y7 y8 y9
instance {p1} {N M} [Up N M]:OL (CJ N p1) (CJ M p1):=by unfold CJ;infer_instance
class AC.Le(φ ψ:AC):Prop where
 ref04_reader_expr: ∀x0,OL (φ.ref04_reader_expr x0) (ψ.ref04_reader_expr x0)
 ref04_reader_cons: ∀x0,OL (φ.ref04_reader_cons x0) (ψ.ref04_reader_cons x0)
 ref04_reader_parts: ∀x0 x1,OL (φ.ref04_reader_parts x0 x1) (ψ.ref04_reader_parts x0 x1)
 ref04_reader_branches: ∀x0 x1,OL (φ.ref04_reader_branches x0 x1) (ψ.ref04_reader_branches x0 x1)
 ref04_reader_comp: ∀x0,OL (φ.ref04_reader_comp x0) (ψ.ref04_reader_comp x0)
 ref04_reader_sum: ∀x0,OL (φ.ref04_reader_sum x0) (ψ.ref04_reader_sum x0)
 ref04_reader_term: ∀x0,OL (φ.ref04_reader_term x0) (ψ.ref04_reader_term x0)
 ref04_reader_unit: ∀x0,OL (φ.ref04_reader_unit x0) (ψ.ref04_reader_unit x0)
 ref04_reader_named: ∀x0 x1,OL (φ.ref04_reader_named x0 x1) (ψ.ref04_reader_named x0 x1)
attribute [instance] AC.Le.ref04_reader_expr AC.Le.ref04_reader_cons AC.Le.ref04_reader_parts AC.Le.ref04_reader_branches AC.Le.ref04_reader_comp AC.Le.ref04_reader_sum AC.Le.ref04_reader_term AC.Le.ref04_reader_unit AC.Le.ref04_reader_named
instance {p2 p3 p4 p5 p6 p7 p8 p9 p10 p11 p12 p13} {φ ψ} [AC.Le φ ψ] {N M} [Up N M]:OL (De φ N p2 p3 p4 p5 p6 p7 p8 p9 p10 p11 p12 p13) (De ψ M p2 p3 p4 p5 p6 p7 p8 p9 p10 p11 p12 p13):=by unfold De;infer_instance
instance {p2 p3 p4 p5 p6 p7 p8 p9 p10 p11 p12} {φ ψ} [AC.Le φ ψ] {N M} [Up N M]:OL (Df φ N p2 p3 p4 p5 p6 p7 p8 p9 p10 p11 p12) (Df ψ M p2 p3 p4 p5 p6 p7 p8 p9 p10 p11 p12):=by unfold Df;infer_instance
instance {p2 p3 p4 p5 p6 p7 p8 p9 p10 p11 p12 p13} {φ ψ} [AC.Le φ ψ] {N M} [Up N M]:OL (Dg φ N p2 p3 p4 p5 p6 p7 p8 p9 p10 p11 p12 p13) (Dg ψ M p2 p3 p4 p5 p6 p7 p8 p9 p10 p11 p12 p13):=by unfold Dg;infer_instance
instance {p2 p3 p4 p5 p6 p7 p8 p9 p10 p11 p12} {φ ψ} [AC.Le φ ψ] {N M} [Up N M]:OL (Dh φ N p2 p3 p4 p5 p6 p7 p8 p9 p10 p11 p12) (Dh ψ M p2 p3 p4 p5 p6 p7 p8 p9 p10 p11 p12):=by unfold Dh;infer_instance
instance {p2 p3 p4 p5} {φ ψ} [AC.Le φ ψ] {N M} [Up N M]:OL (Di φ N p2 p3 p4 p5) (Di ψ M p2 p3 p4 p5):=by unfold Di;infer_instance
instance {p2 p3 p4} {φ ψ} [AC.Le φ ψ] {N M} [Up N M]:OL (DD φ N p2 p3 p4) (DD ψ M p2 p3 p4):=by unfold DD;infer_instance
instance {p2} {φ ψ} [AC.Le φ ψ] {N M} [Up N M]:OL (Ct φ N p2) (Ct ψ M p2):=by unfold Ct;infer_instance
instance {p2} {φ ψ} [AC.Le φ ψ] {N M} [Up N M]:OL (Cu φ N p2) (Cu ψ M p2):=by unfold Cu;infer_instance
instance {p1 p2 p4 p5 p6 p7 p8 p9 p10 p11 p12} {φ ψ} [AC.Le φ ψ] {s3 s3'} [∀x0 x1 x2 x3 x4 x5 x6 x7 x8 x9 x10,OL (s3 x0 x1 x2 x3 x4 x5 x6 x7 x8 x9 x10) (s3' x0 x1 x2 x3 x4 x5 x6 x7 x8 x9 x10)]:OL (DN φ p1 p2 s3 p4 p5 p6 p7 p8 p9 p10 p11 p12) (DN ψ p1 p2 s3' p4 p5 p6 p7 p8 p9 p10 p11 p12):=by unfold DN;infer_instance
instance {p1 p3 p4 p5 p6 p7 p8 p9 p10 p11 p12 p13} {φ ψ} [AC.Le φ ψ] {s2 s2'} [∀x0 x1 x2 x3 x4 x5 x6 x7 x8 x9 x10,OL (s2 x0 x1 x2 x3 x4 x5 x6 x7 x8 x9 x10) (s2' x0 x1 x2 x3 x4 x5 x6 x7 x8 x9 x10)]:OL (CY φ p1 s2 p3 p4 p5 p6 p7 p8 p9 p10 p11 p12 p13) (CY ψ p1 s2' p3 p4 p5 p6 p7 p8 p9 p10 p11 p12 p13):=by unfold CY;infer_instance
instance {p1} {φ ψ} [AC.Le φ ψ] {k j} [Up k j] {y0 y1 y2 y3 y4 y5 y6 y7 y8 y9 y10}:OL (Bg φ p1 k y0 y1 y2 y3 y4 y5 y6 y7 y8 y9 y10) (Bg ψ p1 j y0 y1 y2 y3 y4 y5 y6 y7 y8 y9 y10):=Up.go (P:=fun k j=>∀y0 y1 y2 y3 y4 y5 y6 y7 y8 y9 y10,OL (Bg φ p1 k y0 y1 y2 y3 y4 y5 y6 y7 y8 y9 y10) (Bg ψ p1 j y0 y1 y2 y3 y4 y5 y6 y7 y8 y9 y10)) (fun _ _ _ _ _ _ _ _ _ _ _ _=> .none) (fun n m _ _ y0 y1 y2 y3 y4 y5 y6 y7 y8 y9 y10=>inferInstanceAs (OL (CY φ p1 (Bg φ p1 n) y0 y1 y2 y3 y4 y5 y6 y7 y8 y9 y10) (CY ψ p1 (Bg ψ p1 m) y0 y1 y2 y3 y4 y5 y6 y7 y8 y9 y10))) y0 y1 y2 y3 y4 y5 y6 y7 y8 y9 y10
instance {p2 p3} {φ ψ} [AC.Le φ ψ] {N M} [Up N M]:OL (Ce φ N p2 p3) (Ce ψ M p2 p3):=by unfold Ce;infer_instance
instance {p2 p3} {φ ψ} [AC.Le φ ψ] {N M} [Up N M]:OL (B1 φ N p2 p3) (B1 ψ M p2 p3):=by unfold B1;infer_instance
instance {p1 p2 p3 p4 p5 p6 p7 p8 p9 p10 p11 p12 p13} {φ ψ} [AC.Le φ ψ]:OL (EE φ p1 p2 p3 p4 p5 p6 p7 p8 p9 p10 p11 p12 p13) (EE ψ p1 p2 p3 p4 p5 p6 p7 p8 p9 p10 p11 p12 p13):=by unfold EE;infer_instance
instance {p1 p2 p3} {φ ψ} [AC.Le φ ψ]:OL (Dj φ p1 p2 p3) (Dj ψ p1 p2 p3):=by unfold Dj;infer_instance
instance {p2} {φ ψ} [AC.Le φ ψ] {N M} [Up N M]:OL (Cv φ N p2) (Cv ψ M p2):=by unfold Cv;infer_instance
instance {p0 p1 p2 p3 p4 p5 p6 p8 p9 p10} {s7 s7'} [∀x0 x1 x2 x3 x4 x5 x6 x7 x8 x9 x10 x11 x12 x13 x14 x15,OL (s7 x0 x1 x2 x3 x4 x5 x6 x7 x8 x9 x10 x11 x12 x13 x14 x15) (s7' x0 x1 x2 x3 x4 x5 x6 x7 x8 x9 x10 x11 x12 x13 x14 x15)]:OL (Dy p0 p1 p2 p3 p4 p5 p6 s7 p8 p9 p10) (Dy p0 p1 p2 p3 p4 p5 p6 s7' p8 p9 p10):=by unfold Dy;infer_instance
instance {p1 p2 p3 p4 p5 p6 p7 p8 p9 p10 p11 p12 p13 p14 p15 p16 p18} {φ ψ} [AC.Le φ ψ] {s17 s17'} [∀x0 x1 x2 x3 x4 x5 x6 x7 x8 x9 x10 x11 x12 x13 x14 x15,OL (s17 x0 x1 x2 x3 x4 x5 x6 x7 x8 x9 x10 x11 x12 x13 x14 x15) (s17' x0 x1 x2 x3 x4 x5 x6 x7 x8 x9 x10 x11 x12 x13 x14 x15)]:OL (Dz φ p1 p2 p3 p4 p5 p6 p7 p8 p9 p10 p11 p12 p13 p14 p15 p16 s17 p18) (Dz ψ p1 p2 p3 p4 p5 p6 p7 p8 p9 p10 p11 p12 p13 p14 p15 p16 s17' p18):=by unfold Dz;infer_instance
instance {p2 p3 p4 p5 p6 p7 p8 p9 p10 p11 p12 p13 p14 p15 p16 p17} {φ ψ} [AC.Le φ ψ] {s1 s1'} [∀x0 x1 x2 x3 x4 x5 x6 x7 x8 x9 x10 x11 x12 x13 x14 x15,OL (s1 x0 x1 x2 x3 x4 x5 x6 x7 x8 x9 x10 x11 x12 x13 x14 x15) (s1' x0 x1 x2 x3 x4 x5 x6 x7 x8 x9 x10 x11 x12 x13 x14 x15)]:OL (DE φ s1 p2 p3 p4 p5 p6 p7 p8 p9 p10 p11 p12 p13 p14 p15 p16 p17) (DE ψ s1' p2 p3 p4 p5 p6 p7 p8 p9 p10 p11 p12 p13 p14 p15 p16 p17):=by unfold DE;infer_instance
instance {φ ψ} [AC.Le φ ψ] {k j} [Up k j] {y0 y1 y2 y3 y4 y5 y6 y7 y8 y9 y10 y11 y12 y13 y14 y15}:OL (Bq φ k y0 y1 y2 y3 y4 y5 y6 y7 y8 y9 y10 y11 y12 y13 y14 y15) (Bq ψ j y0 y1 y2 y3 y4 y5 y6 y7 y8 y9 y10 y11 y12 y13 y14 y15):=Up.go (P:=fun k j=>∀y0 y1 y2 y3 y4 y5 y6 y7 y8 y9 y10 y11 y12 y13 y14 y15,OL (Bq φ k y0 y1 y2 y3 y4 y5 y6 y7 y8 y9 y10 y11 y12 y13 y14 y15) (Bq ψ j y0 y1 y2 y3 y4 y5 y6 y7 y8 y9 y10 y11 y12 y13 y14 y15)) (fun _ _ _ _ _ _ _ _ _ _ _ _ _ _ _ _ _=> .none) (fun n m _ _ y0 y1 y2 y3 y4 y5 y6 y7 y8 y9 y10 y11 y12 y13 y14 y15=>inferInstanceAs (OL (DE φ (Bq φ n) y0 y1 y2 y3 y4 y5 y6 y7 y8 y9 y10 y11 y12 y13 y14 y15) (DE ψ (Bq ψ m) y0 y1 y2 y3 y4 y5 y6 y7 y8 y9 y10 y11 y12 y13 y14 y15))) y0 y1 y2 y3 y4 y5 y6 y7 y8 y9 y10 y11 y12 y13 y14 y15
instance {p2} {φ ψ} [AC.Le φ ψ] {N M} [Up N M]:OL (DM φ N p2) (DM ψ M p2):=by unfold DM;infer_instance
instance {p0 p1 p2 p3 p4 p5 p6 p8 p9 p10} {s7 s7'} [∀x0 x1 x2 x3 x4 x5 x6 x7 x8 x9 x10 x11 x12 x13 x14 x15,OL (s7 x0 x1 x2 x3 x4 x5 x6 x7 x8 x9 x10 x11 x12 x13 x14 x15) (s7' x0 x1 x2 x3 x4 x5 x6 x7 x8 x9 x10 x11 x12 x13 x14 x15)]:OL (Dk p0 p1 p2 p3 p4 p5 p6 s7 p8 p9 p10) (Dk p0 p1 p2 p3 p4 p5 p6 s7' p8 p9 p10):=by unfold Dk;infer_instance
instance {p1 p2 p3 p4 p5 p6 p7 p8 p9 p10 p11 p12 p13 p14 p15 p16 p18} {φ ψ} [AC.Le φ ψ] {s17 s17'} [∀x0 x1 x2 x3 x4 x5 x6 x7 x8 x9 x10 x11 x12 x13 x14 x15,OL (s17 x0 x1 x2 x3 x4 x5 x6 x7 x8 x9 x10 x11 x12 x13 x14 x15) (s17' x0 x1 x2 x3 x4 x5 x6 x7 x8 x9 x10 x11 x12 x13 x14 x15)]:OL (Dl φ p1 p2 p3 p4 p5 p6 p7 p8 p9 p10 p11 p12 p13 p14 p15 p16 s17 p18) (Dl ψ p1 p2 p3 p4 p5 p6 p7 p8 p9 p10 p11 p12 p13 p14 p15 p16 s17' p18):=by unfold Dl;infer_instance
instance {p2 p3 p4 p5 p6 p7 p8 p9 p10 p11 p12 p13 p14 p15 p16 p17} {φ ψ} [AC.Le φ ψ] {s1 s1'} [∀x0 x1 x2 x3 x4 x5 x6 x7 x8 x9 x10 x11 x12 x13 x14 x15,OL (s1 x0 x1 x2 x3 x4 x5 x6 x7 x8 x9 x10 x11 x12 x13 x14 x15) (s1' x0 x1 x2 x3 x4 x5 x6 x7 x8 x9 x10 x11 x12 x13 x14 x15)]:OL (Cq φ s1 p2 p3 p4 p5 p6 p7 p8 p9 p10 p11 p12 p13 p14 p15 p16 p17) (Cq ψ s1' p2 p3 p4 p5 p6 p7 p8 p9 p10 p11 p12 p13 p14 p15 p16 p17):=by unfold Cq;infer_instance
instance {φ ψ} [AC.Le φ ψ] {k j} [Up k j] {y0 y1 y2 y3 y4 y5 y6 y7 y8 y9 y10 y11 y12 y13 y14 y15}:OL (Be φ k y0 y1 y2 y3 y4 y5 y6 y7 y8 y9 y10 y11 y12 y13 y14 y15) (Be ψ j y0 y1 y2 y3 y4 y5 y6 y7 y8 y9 y10 y11 y12 y13 y14 y15):=Up.go (P:=fun k j=>∀y0 y1 y2 y3 y4 y5 y6 y7 y8 y9 y10 y11 y12 y13 y14 y15,OL (Be φ k y0 y1 y2 y3 y4 y5 y6 y7 y8 y9 y10 y11 y12 y13 y14 y15) (Be ψ j y0 y1 y2 y3 y4 y5 y6 y7 y8 y9 y10 y11 y12 y13 y14 y15)) (fun _ _ _ _ _ _ _ _ _ _ _ _ _ _ _ _ _=> .none) (fun n m _ _ y0 y1 y2 y3 y4 y5 y6 y7 y8 y9 y10 y11 y12 y13 y14 y15=>inferInstanceAs (OL (Cq φ (Be φ n) y0 y1 y2 y3 y4 y5 y6 y7 y8 y9 y10 y11 y12 y13 y14 y15) (Cq ψ (Be ψ m) y0 y1 y2 y3 y4 y5 y6 y7 y8 y9 y10 y11 y12 y13 y14 y15))) y0 y1 y2 y3 y4 y5 y6 y7 y8 y9 y10 y11 y12 y13 y14 y15
instance {p2} {φ ψ} [AC.Le φ ψ] {N M} [Up N M]:OL (Cw φ N p2) (Cw ψ M p2):=by unfold Cw;infer_instance
instance {p1 p2 p3 p4 p5 p6 p7 p8} {φ ψ} [AC.Le φ ψ]:OL (CM φ p1 p2 p3 p4 p5 p6 p7 p8) (CM ψ p1 p2 p3 p4 p5 p6 p7 p8):=by unfold CM;infer_instance
instance {p2 p3 p4 p5 p6 p7 p8} {φ ψ} [AC.Le φ ψ] {N M} [Up N M]:OL (Eo φ N p2 p3 p4 p5 p6 p7 p8) (Eo ψ M p2 p3 p4 p5 p6 p7 p8):=by unfold Eo;infer_instance
instance {p2 p3 p4} {φ ψ} [AC.Le φ ψ] {N M} [Up N M]:OL (DF φ N p2 p3 p4) (DF ψ M p2 p3 p4):=by unfold DF;infer_instance
instance {p2} {φ ψ} [AC.Le φ ψ] {N M} [Up N M]:OL (Cy φ N p2) (Cy ψ M p2):=by unfold Cy;infer_instance
instance {p1 p3 p4 p5 p6 p7 p8 p9 p10 p11} {φ ψ} [AC.Le φ ψ] {s2 s2'} [∀x0 x1 x2 x3 x4 x5 x6 x7 x8 x9,OL (s2 x0 x1 x2 x3 x4 x5 x6 x7 x8 x9) (s2' x0 x1 x2 x3 x4 x5 x6 x7 x8 x9)]:OL (DO φ p1 s2 p3 p4 p5 p6 p7 p8 p9 p10 p11) (DO ψ p1 s2' p3 p4 p5 p6 p7 p8 p9 p10 p11):=by unfold DO;infer_instance
instance {p1 p2 p3 p4 p5 p6 p7 p8 p9 p10 p11 p13} {φ ψ} [AC.Le φ ψ] {s12 s12'} [∀x0 x1 x2 x3 x4 x5 x6 x7 x8 x9,OL (s12 x0 x1 x2 x3 x4 x5 x6 x7 x8 x9) (s12' x0 x1 x2 x3 x4 x5 x6 x7 x8 x9)]:OL (DP φ p1 p2 p3 p4 p5 p6 p7 p8 p9 p10 p11 s12 p13) (DP ψ p1 p2 p3 p4 p5 p6 p7 p8 p9 p10 p11 s12' p13):=by unfold DP;infer_instance
instance {p1 p3 p4 p5 p6 p7 p8 p9 p10 p11 p12} {φ ψ} [AC.Le φ ψ] {s2 s2'} [∀x0 x1 x2 x3 x4 x5 x6 x7 x8 x9,OL (s2 x0 x1 x2 x3 x4 x5 x6 x7 x8 x9) (s2' x0 x1 x2 x3 x4 x5 x6 x7 x8 x9)]:OL (CZ φ p1 s2 p3 p4 p5 p6 p7 p8 p9 p10 p11 p12) (CZ ψ p1 s2' p3 p4 p5 p6 p7 p8 p9 p10 p11 p12):=by unfold CZ;infer_instance
instance {p1} {φ ψ} [AC.Le φ ψ] {k j} [Up k j] {y0 y1 y2 y3 y4 y5 y6 y7 y8 y9}:OL (Ba φ p1 k y0 y1 y2 y3 y4 y5 y6 y7 y8 y9) (Ba ψ p1 j y0 y1 y2 y3 y4 y5 y6 y7 y8 y9):=Up.go (P:=fun k j=>∀y0 y1 y2 y3 y4 y5 y6 y7 y8 y9,OL (Ba φ p1 k y0 y1 y2 y3 y4 y5 y6 y7 y8 y9) (Ba ψ p1 j y0 y1 y2 y3 y4 y5 y6 y7 y8 y9)) (fun _ _ _ _ _ _ _ _ _ _ _=> .none) (fun n m _ _ y0 y1 y2 y3 y4 y5 y6 y7 y8 y9=>inferInstanceAs (OL (CZ φ p1 (Ba φ p1 n) y0 y1 y2 y3 y4 y5 y6 y7 y8 y9) (CZ ψ p1 (Ba ψ p1 m) y0 y1 y2 y3 y4 y5 y6 y7 y8 y9))) y0 y1 y2 y3 y4 y5 y6 y7 y8 y9
instance {p2 p3} {φ ψ} [AC.Le φ ψ] {N M} [Up N M]:OL (Cf φ N p2 p3) (Cf ψ M p2 p3):=by unfold Cf;infer_instance
instance {N M} [Up N M]:AC.Le (AC.at N) (AC.at M):=Up.go (P:=fun N M=>AC.Le (AC.at N) (AC.at M)) (fun _=>⟨fun _=> .none,fun _=> .none,fun _ _=> .none,fun _ _=> .none,fun _=> .none,fun _=> .none,fun _=> .none,fun _=> .none,fun _ _=> .none⟩) fun n m _ _=>⟨fun x0=>inferInstanceAs (OL (Ct (AC.at n) n x0) (Ct (AC.at m) m x0)),fun x0=>inferInstanceAs (OL (Cu (AC.at n) n x0) (Cu (AC.at m) m x0)),fun x0 x1=>inferInstanceAs (OL (Ce (AC.at n) n x0 x1) (Ce (AC.at m) m x0 x1)),fun x0 x1=>inferInstanceAs (OL (B1 (AC.at n) n x0 x1) (B1 (AC.at m) m x0 x1)),fun x0=>inferInstanceAs (OL (Cv (AC.at n) n x0) (Cv (AC.at m) m x0)),fun x0=>inferInstanceAs (OL (DM (AC.at n) n x0) (DM (AC.at m) m x0)),fun x0=>inferInstanceAs (OL (Cw (AC.at n) n x0) (Cw (AC.at m) m x0)),fun x0=>inferInstanceAs (OL (Cy (AC.at n) n x0) (Cy (AC.at m) m x0)),fun x0 x1=>inferInstanceAs (OL (Cf (AC.at n) n x0 x1) (Cf (AC.at m) m x0 x1))⟩
instance {N M} [Up N M] {y0}:OL (ref04_reader_expr N y0) (ref04_reader_expr M y0):=AC.Le.ref04_reader_expr _
instance {N M} [Up N M] {y0}:OL (ref04_reader_cons N y0) (ref04_reader_cons M y0):=AC.Le.ref04_reader_cons _
instance {N M} [Up N M] {y0 y1}:OL (ref04_reader_parts N y0 y1) (ref04_reader_parts M y0 y1):=AC.Le.ref04_reader_parts _ _
instance {N M} [Up N M] {y0 y1}:OL (ref04_reader_branches N y0 y1) (ref04_reader_branches M y0 y1):=AC.Le.ref04_reader_branches _ _
instance {N M} [Up N M] {y0}:OL (ref04_reader_comp N y0) (ref04_reader_comp M y0):=AC.Le.ref04_reader_comp _
instance {N M} [Up N M] {y0}:OL (ref04_reader_sum N y0) (ref04_reader_sum M y0):=AC.Le.ref04_reader_sum _
instance {N M} [Up N M] {y0}:OL (ref04_reader_term N y0) (ref04_reader_term M y0):=AC.Le.ref04_reader_term _
instance {N M} [Up N M] {y0}:OL (ref04_reader_unit N y0) (ref04_reader_unit M y0):=AC.Le.ref04_reader_unit _
instance {N M} [Up N M] {y0 y1}:OL (ref04_reader_named N y0 y1) (ref04_reader_named M y0 y1):=AC.Le.ref04_reader_named _ _
instance {p1 p3 p4 p5 p6 p7 p8 p9 p10 p11} {N M} [Up N M] {s2 s2'} [∀x0 x1 x2 x3 x4 x5 x6 x7 x8 x9,OL (s2 x0 x1 x2 x3 x4 x5 x6 x7 x8 x9) (s2' x0 x1 x2 x3 x4 x5 x6 x7 x8 x9)]:OL (D0 N p1 s2 p3 p4 p5 p6 p7 p8 p9 p10 p11) (D0 M p1 s2' p3 p4 p5 p6 p7 p8 p9 p10 p11):=by unfold D0;infer_instance
instance {p1 p3 p4 p5 p6 p7 p8 p9 p10 p11 p12} {N M} [Up N M] {s2 s2'} [∀x0 x1 x2 x3 x4 x5 x6 x7 x8 x9,OL (s2 x0 x1 x2 x3 x4 x5 x6 x7 x8 x9) (s2' x0 x1 x2 x3 x4 x5 x6 x7 x8 x9)]:OL (DT N p1 s2 p3 p4 p5 p6 p7 p8 p9 p10 p11 p12) (DT M p1 s2' p3 p4 p5 p6 p7 p8 p9 p10 p11 p12):=by unfold DT;infer_instance
instance {p1 p3 p4 p5 p6 p7 p8 p9 p10 p11} {N M} [Up N M] {s2 s2'} [∀x0 x1 x2 x3 x4 x5 x6 x7 x8 x9,OL (s2 x0 x1 x2 x3 x4 x5 x6 x7 x8 x9) (s2' x0 x1 x2 x3 x4 x5 x6 x7 x8 x9)]:OL (D1 N p1 s2 p3 p4 p5 p6 p7 p8 p9 p10 p11) (D1 M p1 s2' p3 p4 p5 p6 p7 p8 p9 p10 p11):=by unfold D1;infer_instance
instance {p1 p2 p3 p4 p5 p6 p7 p8 p9 p10 p11 p13} {N M} [Up N M] {s12 s12'} [∀x0 x1 x2 x3 x4 x5 x6 x7 x8 x9,OL (s12 x0 x1 x2 x3 x4 x5 x6 x7 x8 x9) (s12' x0 x1 x2 x3 x4 x5 x6 x7 x8 x9)]:OL (DU N p1 p2 p3 p4 p5 p6 p7 p8 p9 p10 p11 s12 p13) (DU M p1 p2 p3 p4 p5 p6 p7 p8 p9 p10 p11 s12' p13):=by unfold DU;infer_instance
instance {p1 p3 p4 p5 p6 p7 p8 p9 p10 p11 p12} {N M} [Up N M] {s2 s2'} [∀x0 x1 x2 x3 x4 x5 x6 x7 x8 x9,OL (s2 x0 x1 x2 x3 x4 x5 x6 x7 x8 x9) (s2' x0 x1 x2 x3 x4 x5 x6 x7 x8 x9)]:OL (DG N p1 s2 p3 p4 p5 p6 p7 p8 p9 p10 p11 p12) (DG M p1 s2' p3 p4 p5 p6 p7 p8 p9 p10 p11 p12):=by unfold DG;infer_instance
instance {p1} {N M} [Up N M] {k j} [Up k j] {y0 y1 y2 y3 y4 y5 y6 y7 y8 y9}:OL (BY N p1 k y0 y1 y2 y3 y4 y5 y6 y7 y8 y9) (BY M p1 j y0 y1 y2 y3 y4 y5 y6 y7 y8 y9):=Up.go (P:=fun k j=>∀y0 y1 y2 y3 y4 y5 y6 y7 y8 y9,OL (BY N p1 k y0 y1 y2 y3 y4 y5 y6 y7 y8 y9) (BY M p1 j y0 y1 y2 y3 y4 y5 y6 y7 y8 y9)) (fun _ _ _ _ _ _ _ _ _ _ _=> .none) (fun n m _ _ y0 y1 y2 y3 y4 y5 y6 y7 y8 y9=>inferInstanceAs (OL (DG N p1 (BY N p1 n) y0 y1 y2 y3 y4 y5 y6 y7 y8 y9) (DG M p1 (BY M p1 m) y0 y1 y2 y3 y4 y5 y6 y7 y8 y9))) y0 y1 y2 y3 y4 y5 y6 y7 y8 y9
instance {p1 p2 p3 p4 p5 p6 p7 p8 p9} {N M} [Up N M]:OL (D2 N p1 p2 p3 p4 p5 p6 p7 p8 p9) (D2 M p1 p2 p3 p4 p5 p6 p7 p8 p9):=by unfold D2;infer_instance
instance {p1 p2} {N M} [Up N M]:OL (D3 N p1 p2) (D3 M p1 p2):=by unfold D3;infer_instance
instance {p1 p2} {N M} [Up N M]:OL (Cp N p1 p2) (Cp M p1 p2):=by unfold Cp;infer_instance
instance {p1 p2 p3 p4 p5 p6 p7 p8 p9 p10 p12} {N M} [Up N M] {s11 s11'} [∀x0 x1 x2 x3 x4 x5 x6 x7 x8 x9,OL (s11 x0 x1 x2 x3 x4 x5 x6 x7 x8 x9) (s11' x0 x1 x2 x3 x4 x5 x6 x7 x8 x9)]:OL (B3 N p1 p2 p3 p4 p5 p6 p7 p8 p9 p10 s11 p12) (B3 M p1 p2 p3 p4 p5 p6 p7 p8 p9 p10 s11' p12):=by unfold B3;infer_instance
instance {p2 p3 p4 p5 p6 p7 p8 p9 p10 p11} {N M} [Up N M] {s1 s1'} [∀x0 x1 x2 x3 x4 x5 x6 x7 x8 x9,OL (s1 x0 x1 x2 x3 x4 x5 x6 x7 x8 x9) (s1' x0 x1 x2 x3 x4 x5 x6 x7 x8 x9)]:OL (CE N s1 p2 p3 p4 p5 p6 p7 p8 p9 p10 p11) (CE M s1' p2 p3 p4 p5 p6 p7 p8 p9 p10 p11):=by unfold CE;infer_instance
instance {N M} [Up N M] {k j} [Up k j] {y0 y1 y2 y3 y4 y5 y6 y7 y8 y9}:OL (BS N k y0 y1 y2 y3 y4 y5 y6 y7 y8 y9) (BS M j y0 y1 y2 y3 y4 y5 y6 y7 y8 y9):=Up.go (P:=fun k j=>∀y0 y1 y2 y3 y4 y5 y6 y7 y8 y9,OL (BS N k y0 y1 y2 y3 y4 y5 y6 y7 y8 y9) (BS M j y0 y1 y2 y3 y4 y5 y6 y7 y8 y9)) (fun _ _ _ _ _ _ _ _ _ _ _=> .none) (fun n m _ _ y0 y1 y2 y3 y4 y5 y6 y7 y8 y9=>inferInstanceAs (OL (CE N (BS N n) y0 y1 y2 y3 y4 y5 y6 y7 y8 y9) (CE M (BS M m) y0 y1 y2 y3 y4 y5 y6 y7 y8 y9))) y0 y1 y2 y3 y4 y5 y6 y7 y8 y9
instance {p1} {N M} [Up N M]:OL (Bu N p1) (Bu M p1):=by unfold Bu;infer_instance
instance {p1 p2} {N M} [Up N M]:OL (Fc N p1 p2) (Fc M p1 p2):=by unfold Fc;infer_instance
instance {p0 p2 p3} {s1 s1'} [∀x0 x1 x2,OL (s1 x0 x1 x2) (s1' x0 x1 x2)]:OL (Ha p0 s1 p2 p3) (Ha p0 s1' p2 p3):=by unfold Ha;infer_instance
instance {p0 p2} {s1 s1'} [∀x0 x1 x2,OL (s1 x0 x1 x2) (s1' x0 x1 x2)]:OL (Hb p0 s1 p2) (Hb p0 s1' p2):=by unfold Hb;infer_instance
instance {p0 p1 p2 p3 p5} {s4 s4'} [∀x0 x1 x2,OL (s4 x0 x1 x2) (s4' x0 x1 x2)]:OL (GY p0 p1 p2 p3 s4 p5) (GY p0 p1 p2 p3 s4' p5):=by unfold GY;infer_instance
instance {p0 p2 p3 p4} {s1 s1'} [∀x0 x1 x2,OL (s1 x0 x1 x2) (s1' x0 x1 x2)]:OL (FB p0 s1 p2 p3 p4) (FB p0 s1' p2 p3 p4):=by unfold FB;infer_instance
instance {p0} {k j} [Up k j] {y0 y1 y2}:OL (EK p0 k y0 y1 y2) (EK p0 j y0 y1 y2):=ABd fun n m _ _ y0 y1 y2=>inferInstanceAs (OL (FB p0 (EK p0 n) y0 y1 y2) (FB p0 (EK p0 m) y0 y1 y2))
instance {p1} {N M} [Up N M]:OL (GB N p1) (GB M p1):=by unfold GB;infer_instance
instance {p0 p2} {s1 s1'} [∀x0 x1,OL (s1 x0 x1) (s1' x0 x1)]:OL (Hc p0 s1 p2) (Hc p0 s1' p2):=by unfold Hc;infer_instance
instance {p0 p2 p3} {s1 s1'} [∀x0 x1,OL (s1 x0 x1) (s1' x0 x1)]:OL (FC p0 s1 p2 p3) (FC p0 s1' p2 p3):=by unfold FC;infer_instance
instance {p0} {k j} [Up k j] {y0 y1}:OL (Ep p0 k y0 y1) (Ep p0 j y0 y1):=Uf fun n m _ _ y0 y1=>inferInstanceAs (OL (FC p0 (Ep p0 n) y0 y1) (FC p0 (Ep p0 m) y0 y1))
instance {p1} {N M} [Up N M]:OL (B4 N p1) (B4 M p1):=by unfold B4;infer_instance
instance {p1} {N M} [Up N M]:OL (EF N p1) (EF M p1):=by unfold EF;infer_instance
instance {p1 p2 p4} {N M} [Up N M] {s3 s3'} [∀x0 x1,OL (s3 x0 x1) (s3' x0 x1)]:OL (HO N p1 p2 s3 p4) (HO M p1 p2 s3' p4):=by unfold HO;infer_instance
instance {p1 p3 p4} {N M} [Up N M] {s2 s2'} [∀x0 x1,OL (s2 x0 x1) (s2' x0 x1)]:OL (Fk N p1 s2 p3 p4) (Fk M p1 s2' p3 p4):=by unfold Fk;infer_instance
instance {p1} {N M} [Up N M] {k j} [Up k j] {y0 y1}:OL (FD N p1 k y0 y1) (FD M p1 j y0 y1):=Uf fun n m _ _ y0 y1=>inferInstanceAs (OL (Fk N p1 (FD N p1 n) y0 y1) (Fk M p1 (FD M p1 m) y0 y1))
instance {p1} {N M} [Up N M]:OL (GZ N p1) (GZ M p1):=by unfold GZ;infer_instance
instance {p1 p2 p4 p5 p6 p7} {N M} [Up N M] {s3 s3'} [∀x0 x1 x2 x3,OL (s3 x0 x1 x2 x3) (s3' x0 x1 x2 x3)]:OL (FE N p1 p2 s3 p4 p5 p6 p7) (FE M p1 p2 s3' p4 p5 p6 p7):=by unfold FE;infer_instance
instance {p1 p2} {N M} [Up N M] {k j} [Up k j] {y0 y1 y2 y3}:OL (Er N p1 p2 k y0 y1 y2 y3) (Er M p1 p2 j y0 y1 y2 y3):=ABe fun n m _ _ y0 y1 y2 y3=>inferInstanceAs (OL (FE N p1 p2 (Er N p1 p2 n) y0 y1 y2 y3) (FE M p1 p2 (Er M p1 p2 m) y0 y1 y2 y3))
instance {p1 p2 p3} {N M} [Up N M]:OL (Fm N p1 p2 p3) (Fm M p1 p2 p3):=by unfold Fm;infer_instance
instance {p1 p2} {N M} [Up N M]:OL (Ga N p1 p2) (Ga M p1 p2):=by unfold Ga;infer_instance
instance {p1} {N M} [Up N M]:OL (Fe N p1) (Fe M p1):=by unfold Fe;infer_instance
instance {p0 p2} {s1 s1'} [∀x0 x1,OL (s1 x0 x1) (s1' x0 x1)]:OL (Hd p0 s1 p2) (Hd p0 s1' p2):=by unfold Hd;infer_instance
instance {p1 p2 p3 p5 p6 p8} {N M} [Up N M] {s4 s4'} [∀x0 x1,OL (s4 x0 x1) (s4' x0 x1)] {s7 s7'} [∀x0 x1,OL (s7 x0 x1) (s7' x0 x1)]:OL (EM N p1 p2 p3 s4 p5 p6 s7 p8) (EM M p1 p2 p3 s4' p5 p6 s7' p8):=by unfold EM;infer_instance
instance {p1 p2 p3 p6 p7} {N M} [Up N M] {s4 s4'} [∀x0 x1,OL (s4 x0 x1) (s4' x0 x1)] {s5 s5'} [∀x0 x1,OL (s5 x0 x1) (s5' x0 x1)]:OL (FF N p1 p2 p3 s4 s5 p6 p7) (FF M p1 p2 p3 s4' s5' p6 p7):=by unfold FF;infer_instance
instance {p1 p2 p3} {N M} [Up N M] {s4 s4'} [∀x0 x1,OL (s4 x0 x1) (s4' x0 x1)] {k j} [Up k j] {y0 y1}:OL (D6 N p1 p2 p3 s4 k y0 y1) (D6 M p1 p2 p3 s4' j y0 y1):=Uf fun n m _ _ y0 y1=>inferInstanceAs (OL (FF N p1 p2 p3 s4 (D6 N p1 p2 p3 s4 n) y0 y1) (FF M p1 p2 p3 s4' (D6 M p1 p2 p3 s4' m) y0 y1))
instance {p1 p3 p4} {N M} [Up N M] {s2 s2'} [∀x0 x1,OL (s2 x0 x1) (s2' x0 x1)]:OL (FG N p1 s2 p3 p4) (FG M p1 s2' p3 p4):=by unfold FG;infer_instance
instance {p1} {N M} [Up N M] {k j} [Up k j] {y0 y1}:OL (CQ N p1 k y0 y1) (CQ M p1 j y0 y1):=Uf fun n m _ _ y0 y1=>inferInstanceAs (OL (FG N p1 (CQ N p1 n) y0 y1) (FG M p1 (CQ M p1 m) y0 y1))
instance {p1} {N M} [Up N M]:OL (GC N p1) (GC M p1):=by unfold GC;infer_instance
instance {p1 p2 p3} {N M} [Up N M]:OL (Gb N p1 p2 p3) (Gb M p1 p2 p3):=by unfold Gb;infer_instance
instance {p1} {N M} [Up N M]:OL (B5 N p1) (B5 M p1):=by unfold B5;infer_instance
theorem QZ{N M}(h:N≤M){a}: ∀x,B5 N a=some x→B5 M a=some x:=haveI:Up N M:=⟨h⟩;(inferInstance:OL (B5 N a) (B5 M a)).le
end Fth
namespace Fth
open Go
theorem AAG(k:Nat):Hj (k+200)=some true:=by kernel_rfl
theorem Qa:Ev fun N=>Hj N=some true:=Ev.down 200 (Ev.all AAG)
theorem AAH{a:D5}(h:a.args.length≤1048576): ∃x:AL×List AH×Bool,(WPt x.1∧(x.2.2=true→LV x.2.1))∧Ev fun N=>B5 N a=some x:=by
 obtain ⟨x,hx,hq⟩:=Z0 (N:=20000000) h (Nat.le_refl _)
 exact ⟨x,hq,⟨20000000,fun N hN=>QZ hN x hx⟩⟩
theorem ABK{p:AL}(hp:WP p)(hS:FN p): ∃mp,Mpp p mp:=by
 obtain ⟨mp,h,_⟩:=ZA (nm:=[]) (args:=[]) hp.len hS p.funcs.length 0 om [] fun s=>⟨by simp;rfl,fun k f hk=>om⟩
 exact ⟨mp,h⟩
theorem ZD{p:AL}{m:Nat}(hp:WP p)(hS:FN p)(hm:m≤16384){e:AB}{ρ:Nm}{q1 q2:Except Int AH}{c1 c2:Nat}(h1:Rn p m e ρ q1 c1)(h2:Rn p m e ρ q2 c2):q1=q2∧c1=c2:=by
 obtain ⟨mp,hmp⟩:=ABK hp hS
 have lk: ∀{r1 r2:Except Int Al} {c1 c2:Nat},Lk p m 0 e ρ r1 c1→Lk p m 0 e ρ r2 c2→r1=r2∧c1=c2:=fun h1 h2=>by
  obtain ⟨N,e1,e2⟩:=((QQ hp hmp hm h1).and (QQ hp hmp hm h2)).get
  rw [e1] at e2
  have:=Option.some.inj e2
  simp only [Prod.mk.injEq] at this
  exact ⟨this.1,om⟩
 cases h1 with
 |err h1=>
  cases h2 with
  |err h2=>obtain ⟨e1,e2⟩:=lk h1 h2;cases e1;exact ⟨rfl,e2⟩
  |val h2 _=>obtain ⟨e1,_⟩:=lk h1 h2;cases e1
 |val h1 k1=>
  cases h2 with
  |err h2=>obtain ⟨e1,_⟩:=lk h1 h2;cases e1
  |val h2 k2=>
   obtain ⟨e1,e2⟩:=lk h1 h2
   cases e1;subst e2
   obtain ⟨N,e1,e2⟩:=((VQ hp hmp hm k1).and (VQ hp hmp hm k2)).get
   rw [e1] at e2
   have:=Option.some.inj e2
   simp only [Prod.mk.injEq] at this
   exact ⟨this.1,om⟩
end Fth
namespace Fth
open Go
def zz:List UInt8:=[122,122]
section
variable{p q:AL}{m d:Nat}
end
end Fth
namespace Fth
open Go
end Fth
namespace Fth
open Go
section
variable{p:AL}{f:AE}{b:AB}
def qOf(p:AL)(g:AE):AL:=⟨([]++p.funcs)++[g]⟩
theorem PJ(p:AL)(g:AE):(qOf p g).funcs=p.funcs++[g]:=rfl
theorem ZE(g:AE): ∀nm x,hd p nm=some x→hd (qOf p g) nm=some x:=fun nm x h=>by
 unfold hd at h ⊢
 rw [PJ,List.find?_append,h];rfl
theorem ABL(g:AE)(hg:g.name=zz)(hS:FN (qOf p g)):hd (qOf p g) zz=some g:=by
 have hi:(qOf p g).funcs[p.funcs.length]?=some g:=by rw [PJ];simp
 have:=hS _ _ hi
 exact QV hi hg (hg▸this)
end
theorem ABn(v:AH):AH.mk v.type_ v.num v.bool v.list=v:=by cases v;rfl
end Fth
namespace Fth
open Go
def Evl(e:AB)(v:AH):Prop:=∃k,1≤k∧∀(q:AL) (ρ:Nm) (c M:Nat),c+k≤M→Lk q M c e ρ (.ok ⟨v,.nil,.nil⟩) (c+k)
inductive SB:Th→AB→Prop
 |plain (v:AH) (e:AB) (h:Evl e v):SB (.done v .nil .nil) e
 |cons (h t:Th) (a b:AB) (ha:SB h a) (hb:SB t b):SB (.done v0 h t) ⟨18,[],[],0,(0,0),[a,b],0⟩
def eN(z:Nat×Nat):AB:=⟨1,[],[],0,z,[],0⟩
theorem ABM{z:Nat×Nat}(h:Gn z):WE (eN z):= .mk _ (.inl ⟨Int.le_refl 1,by show (1:Int)≤6;decide,rfl⟩) (fun _=>h) (fun h=>by rcases h with h|h|h<;>cases h) fun a ha=>by cases ha
theorem AAN{o:Int}{a b:AB}(ho:8≤o∧o≤13)(ha:WE a)(hb:WE b):WE ⟨o,[],[],0,(0,0),[a,b],0⟩:=
 .mk _ (.inr (.inr (.inl ⟨ho.1,ho.2,rfl⟩))) (fun h=>by have:o=1:=h;omega) (fun h=>by have:o=5∨o=21∨o=22:=h;omega) fun y hy=>by
  simp only [List.mem_cons,List.not_mem_nil,or_false] at hy
  rcases hy with rfl|rfl<;>assumption
theorem AAI{a b:AB}(ha:WE a)(hb:WE b):WE ⟨18,[],[],0,(0,0),[a,b],0⟩:=
 .mk _ (.inr (.inr (.inr (.inr (.inl ⟨rfl,rfl⟩))))) (fun h=>by cases h) (fun h=>by rcases h with h|h|h<;>cases h) fun y hy=>by
  simp only [List.mem_cons,List.not_mem_nil,or_false] at hy
  rcases hy with rfl|rfl<;>assumption
theorem ZF{o:Int}(ho:2≤o∧o≤4):WE ⟨o,[],[],0,(0,0),[],0⟩:=
 .mk _ (.inl ⟨by show 1≤o;omega,by show o≤6;omega,rfl⟩) (fun h=>by have:o=1:=h;omega) (fun h=>by have:o=5∨o=21∨o=22:=h;omega) fun y hy=>by cases hy
theorem ZG(n:Aj):Evl (eN (rn n)) (CW n):=⟨1,Nat.le_refl _,fun q ρ c M h=> .num om rfl⟩
theorem ZH{n:Aj}(h:Gu n):inn n=(n,0):=by
 unfold inn;rw [if_pos h]
theorem ABN{n:Aj}:fin (nv (n,0))= .ok ⟨CW n,.nil,.nil⟩:=rfl
theorem ZI{o:Int}{a b:AB}{x y z:Aj}(ho:o=8∨o=9)(hx:Gu x)(hy:Gu y)(hz:Gu z)(ha:Evl a (CW x))(hb:Evl b (CW y))(h8:o=8→z=⟨x.re+y.re,x.im+y.im⟩)(h9:o=9→z=⟨x.re - y.re,x.im - y.im⟩):
  Evl ⟨o,[],[],0,(0,0),[a,b],0⟩ (CW z):=by
 obtain ⟨k1,hk1,l1⟩:=ha
 obtain ⟨k2,hk2,l2⟩:=hb
 refine ⟨1+k1+k2,om,fun q ρ c M h=>?_⟩
 have hA:Ap o [CW x,CW y] (nv (z,0)):=fun N hN=>by
  have e:two o x y=nv (z,0):=by
   unfold two
   rcases ho with rfl|rfl
   ·rw [if_pos rfl,←h8 rfl,ZH hz]
   ·rw [if_neg (by decide),if_pos rfl,←h9 rfl,ZH hz]
  exact e▸Yo (N:=N) (op:=o) hN om hx hy
 have:=Lk.bi (p:=q) (m:=M) (c:=c) (e:=⟨o,[],[],0,(0,0),[a,b],0⟩) (ρ:=ρ) om (by show 8≤o∧o≤13;omega) rfl (l1 q ρ (c+1) M om) (l2 q ρ (c+1+k1) M om) hA
 rw [ABN] at this
 rw [show c+(1+k1+k2)=c+1+k1+k2 by omega]
 exact this
def uni(u:Bool):Nat×Nat:=bif u then (0,4607182418800017408) else (4607182418800017408,0)
def ofU(u:Bool)(b:Int):Aj:=bif u then ⟨0,b⟩ else ⟨b,0⟩
theorem RE{u:Bool}{b:Int}(h1: -16777216≤b)(h2:b≤16777216):Gu (ofU u b):=by
 have z1:(-16777216:Int)≤0:=by decide
 have z2:(0:Int)≤16777216:=by decide
 cases u
 ·exact ⟨⟨h1,h2⟩,z1,z2⟩
 ·exact ⟨⟨z1,z2⟩,h1,h2⟩
theorem WF{b:Int}(h0:0≤b)(hb:b≤16777216)(u:Bool){N:Nat}:law11_part (N+1) (FloatKind.f64.nearest b) (uni u)=some (eN (rn (ofU u b))):=by
 have hlt:flt_ (FloatKind.f64.nearest b) 0=false:=by rw [Fz.flt (a:=b) (b:=0) .of fz0 om (by decide)];exact decide_eq_false om
 have z00:FloatKind.f64.nearest 0=0:=z0.symm
 show I6 _ N (FloatKind.f64.nearest b) (uni u)=_
 unfold I6
 rw [hlt,cond_false]
 cases u
 ·rw [show feq (uni false).1 0=false by kernel_rfl,cond_false];simp only [ofU,cond_false,rn,z00,eN]
 ·rw [show feq (uni true).1 0=true by kernel_rfl,cond_true];simp only [ofU,cond_true,rn,z00,eN]
theorem WG{b:Int}(h1: -16777216≤b)(h2:b≤16777216)(u:Bool):
  ∃e,(Ev fun N=>law11_part N (FloatKind.f64.nearest b) (uni u)=some e)∧Evl e (CW (ofU u b))∧WE e∧DZ e≤3:=by
 by_cases h0:0≤b
 ·exact ⟨_,Ev.down 1 (Ev.all fun N=>WF h0 h2 u),ZG _,ABM (.of (RE h1 h2)),by show 1≤3;decide⟩
 ·have hn:Op.negFloat .f64 (FloatKind.f64.nearest b)=FloatKind.f64.nearest (-b):=(Te (a:=b) .of om).eq om
  have hlt:flt_ (FloatKind.f64.nearest b) 0=true:=by rw [Fz.flt (a:=b) (b:=0) .of fz0 om (by decide)];exact decide_eq_true om
  have r0:rn ⟨0,0⟩=(0,0):=by rw [rn,←z0]
  refine ⟨⟨9,[],[],0,(0,0),[eN (rn ⟨0,0⟩),eN (rn (ofU u (-b)))],0⟩,Ev.down 2 (Ev.all fun N=>?_),?_,AAN (by decide) (ABM (.of (by decide))) (ABM (.of (RE om om))),by show 3≤3;decide⟩
  ·show I6 (Ci.at (N+1)) (N+1) (FloatKind.f64.nearest b) (uni u)=_
   unfold I6
   rw [hlt,cond_true,hn]
   show ((law11_part (N+1) (FloatKind.f64.nearest (-b)) (uni u)).bind fun x8=>_)=_
   rw [WF om om u,Option.bind_some,r0];rfl
  ·refine ZI (.inr rfl) (x:=⟨0,0⟩) (y:=ofU u (-b)) (by decide) (RE om om) (RE h1 h2) (ZG _) (ZG _) (fun h=>by cases h) fun _=>?_
   cases u<;>simp [ofU]
theorem Ug{z:Nat×Nat}(h:Gn z): ∃e,(Ev fun N=>GK N z=some e)∧Evl e ⟨1,z,false,[]⟩∧WE e∧DZ e≤7:=by
 obtain ⟨n,hn,rfl⟩:=(Py z).1 h
 obtain ⟨a,a1,a2,a3,a4⟩:=WG hn.1.1 hn.1.2 false
 obtain ⟨b,b1,b2,b3,b4⟩:=WG hn.2.1 hn.2.2 true
 refine ⟨⟨8,[],[],0,(0,0),[a,b],0⟩,(a1.and b1).mono fun N hN=>?_,?_,AAN (by decide) a3 b3,by simp only [DZ,CL];omega⟩
 ·unfold GK
  show ((law11_part N (FloatKind.f64.nearest n.re) (uni false)).bind fun x7=>(law11_part N (FloatKind.f64.nearest n.im) (uni true)).bind fun x20=>_)=_
  rw [hN.1,Option.bind_some,hN.2,Option.bind_some]
 ·refine ZI (.inl rfl) (RE hn.1.1 hn.1.2) (RE hn.2.1 hn.2.2) hn a2 b2 (fun _=>?_) fun h=>by cases h
  simp [ofU]
def tl(l:List (Nat×Nat)):Th:=l.foldr (fun z t=> .done v0 (.done ⟨1,z,false,[]⟩ .nil .nil) t) (.done ⟨3,(0,0),false,[]⟩ .nil .nil)
theorem WH{v:AH}(h:VV v.type_ v)(hl:v.list.length≤1000000000): ∃e,(Ev fun N=>Ds N v=some e)∧SB (gv v) e∧WE e∧DZ e≤7+8*v.list.length:=by
 rcases h with ⟨h1,_,h2,h3,h4⟩| ⟨h1,_,h2,h3⟩| ⟨h1,_,h2,h3,h4⟩
 ·obtain ⟨e,e1,e2,e3,e4⟩:=Ug h2
  refine ⟨e,e1.mono fun N hN=>?_,?_,e3,om⟩
  ·unfold Ds
   rw [h1,show ((1:Int)==2)=false from rfl,cond_false,show ((1:Int)==1)=true from rfl,cond_true,hN];rfl
  ·have:v=⟨1,v.num,false,[]⟩:=by cases v;simp_all
   rw [gv,h1,if_neg (by decide)]
   rw [this] at e2 ⊢
   exact .plain _ _ e2
 ·have hv:v=⟨2,(0,0),v.bool,[]⟩:=by cases v;simp_all
  have eg:gv v= .done ⟨2,(0,0),v.bool,[]⟩ .nil .nil:=by rw [gv,h1,if_neg (by decide),←hv]
  cases hb:v.bool
  ·refine ⟨⟨3,[],[],0,(0,0),[],0⟩,Ev.all fun N=>?_,?_,ZF (by decide),by show 1≤_;omega⟩
   ·unfold Ds;rw [h1,hb];rfl
   ·rw [eg,hb];exact .plain _ _ ⟨1,Nat.le_refl _,fun q ρ c M h=> .fls om rfl⟩
  ·refine ⟨⟨2,[],[],0,(0,0),[],0⟩,Ev.all fun N=>?_,?_,ZF (by decide),by show 1≤_;omega⟩
   ·unfold Ds;rw [h1,hb];rfl
   ·rw [eg,hb];exact .plain _ _ ⟨1,Nat.le_refl _,fun q ρ c M h=> .tru om rfl⟩
 ·have eg:gv v=tl v.list:=by rw [gv,h1,if_pos rfl];rfl
  have loop: ∀(i:Nat),i≤v.list.length→∀(o:Int) (l:List AB),SB (tl (v.list.drop i)) ⟨o,[],[],0,(0,0),l,0⟩→WE ⟨o,[],[],0,(0,0),l,0⟩→DZ ⟨o,[],[],0,(0,0),l,0⟩≤7+8*(v.list.length - i)→
    EL (fun N k=>FR N v k ((i:Int) - 1) o l) fun e=>SB (tl v.list) e∧WE e∧DZ e≤7+8*v.list.length:=by
   intro i
   induction i with
   |zero=>
    intro _ o l e1 e2 e3
    refine EL.down ?_
    show EL (fun N k=>Gk N v (FR N v k) _ o l) _
    unfold Gk
    exact EL.cond (fun h=>by have:=CO h;omega) fun _=> .some ⟨e1,e2,om⟩
   |succ i ih=>
    intro hi o l e1 e2 e3
    refine EL.down ?_
    show EL (fun N k=>Gk N v (FR N v k) _ o l) _
    unfold Gk
    obtain ⟨z,hz⟩: ∃z,v.list[i]?=some z:=⟨_,List.getElem?_eq_getElem om⟩
    obtain ⟨a,a1,a2,a3,a4⟩:=Ug (h4 z (List.mem_of_getElem? hz))
    rw [show ((i+1:Nat):Int) - 1=(i:Int) by omega]
    refine EL.cond (fun _=>EL.eq (CA hz) (EL.bind (f:=fun N=>GK N z) (P:=fun x=>x=a) ⟨a,rfl,a1⟩ fun x hx=>?_)) fun h=>by have:=Do h;omega
    subst hx
    rw [wr om om]
    refine ih om 18 _ ?_ (AAI a3 e2) (by simp only [DZ,CL] at e3 ⊢;omega)
    have ed:v.list.drop i=z::v.list.drop (i+1):=by
     have hlt:=(List.getElem?_eq_some_iff.1 hz).1
     rw [List.drop_eq_getElem_cons hlt]
     congr 1
     exact Option.some.inj ((List.getElem?_eq_getElem hlt).symm.trans hz)
    rw [ed]
    exact .cons _ _ _ _ (.plain _ _ a2) e1
  have hk:EL (fun N k=>FR N v k ((v.list.length:Int) - 1) 4 []) fun e=>SB (tl v.list) e∧WE e∧DZ e≤7+8*v.list.length:=
   loop v.list.length (Nat.le_refl _) 4 [] (by rw [List.drop_length];exact .plain _ _ ⟨1,Nat.le_refl _,fun q ρ c M h=> .nil om rfl⟩) (ZF (by decide)) (by show 1≤_;omega)
  obtain ⟨e,⟨h5,h6,h7⟩,h8⟩:=EL.diag hk
  refine ⟨e,h8.mono fun N hN=>?_,eg▸h5,h6,h7⟩
  unfold Ds
  rw [h1,show ((3:Int)==2)=false from rfl,cond_false,show ((3:Int)==1)=false from rfl,cond_false,wr om om]
  exact hN
end Fth
namespace Fth
open Go
mutual
inductive Ge:Nm→Nm→Prop
 |nil:Ge .nil .nil
 |bind (n:List UInt8) (t t':Th) (ρ ρ':Nm) (ht:Gt t t') (hr:Ge ρ ρ'):Ge (.bind n t ρ) (.bind n t' ρ')
 |letrec (n:List UInt8) (e:AB) (ρ ρ':Nm) (hr:Ge ρ ρ'):Ge (.letrec n e ρ) (.letrec n e ρ')
inductive Gt:Th→Th→Prop
 |nil:Gt .nil .nil
 |done (v:AH) (h t h' t':Th) (hh:Gt h h') (ht:Gt t t'):Gt (.done v h t) (.done v h' t')
 |later (e:AB) (ρ ρ':Nm) (hr:Ge ρ ρ'):Gt (.later e ρ) (.later e ρ')
 |lit (t:Th) (e:AB) (ρ':Nm) (h:SB t e):Gt t (.later e ρ')
end
def Gq:Except Int Al→Except Int Al→Prop
 | .ok x,.ok y=>x.plain=y.plain∧Gt x.head y.head∧Gt x.tail y.tail
 | .error a,.error b=>a=b
 |_,_=>False
theorem NY{t t':Th}(h:Gt t t'):t'.isNil=t.isNil:=by
 cases h with
 |lit _ _ _ h=>cases h<;>rfl
 |_=>rfl
theorem ABf{nm:List UInt8}{ρ ρ':Nm}(h:Ge ρ ρ'): ∀th,fnd nm ρ=some th→∃th',fnd nm ρ'=some th'∧Gt th th':=by
 refine Ge.rec (motive_1:=fun ρ ρ' _=>∀th,fnd nm ρ=some th→∃th',fnd nm ρ'=some th'∧Gt th th') (motive_2:=fun _ _ _=>True) ?_ ?_ ?_ ?_ ?_ ?_ ?_ h
 ·intro th h;cases h
 ·intro n t t' ρ ρ' ht hr _ ih th h
  rw [fnd] at h ⊢
  cases hx:(n==nm)
  ·rw [hx] at h;exact ih th h
  ·rw [hx] at h;cases h;exact ⟨t',rfl,ht⟩
 ·intro n e ρ ρ' hr ih th h
  rw [fnd] at h ⊢
  cases hx:(n==nm)
  ·rw [hx] at h;exact ih th h
  ·rw [hx] at h;cases h;exact ⟨_,rfl,.later _ _ _ (.letrec _ _ _ _ hr)⟩
 ·trivial
 ·intros;trivial
 ·intros;trivial
 ·intros;trivial
theorem ABO{ρ ρ':Nm}(h:Ge ρ ρ'): ∀(ps:List AK) (l:List AB) (acc acc':Nm),Ge acc acc'→Ge (Pa ρ ps l acc) (Pa ρ' ps l acc'):=by
 intro ps
 induction ps with
 |nil=>intro l acc acc' ha;cases l<;>exact ha
 |cons x ps ih=>
  intro l acc acc' ha
  cases l with
  |nil=>exact ha
  |cons a l=>exact ih l _ _ (.bind _ _ _ _ _ (.later _ _ _ h) ha)
theorem Nz{y:Int}{r':Except Int Al}(h:Gq (.error y) r'):r'= .error y:=by
 cases r' with
 |ok x=>exact h.elim
 |error z=>cases h;rfl
theorem Ml{x:Al}{r':Except Int Al}(h:Gq (.ok x) r'): ∃y,r'= .ok y∧x.plain=y.plain∧Gt x.head y.head∧Gt x.tail y.tail:=by
 cases r' with
 |ok y=>exact ⟨y,rfl,h⟩
 |error z=>exact h.elim
theorem ZJ(r:AH×Int):Gq (fin r) (fin r):=by
 unfold fin
 cases (r.2 != 0)
 ·exact ⟨rfl,.nil,.nil⟩
 ·exact rfl
theorem XT{v:AH}{h t:Th}{e:AB}(hl:SB (.done v h t) e)(ρ:Nm): ∃(y:Al) (k:Nat),1≤k∧y.plain=v∧Gt h y.head∧Gt t y.tail∧∀(q:AL) (c M:Nat),c+k≤M→Lk q M c e ρ (.ok y) (c+k):=by
 cases hl with
 |plain _ _ h=>
  obtain ⟨k,hk,l⟩:=h
  exact ⟨⟨v,.nil,.nil⟩,k,hk,rfl,.nil,.nil,fun q c M=>l q ρ c M⟩
 |cons _ _ a b ha hb=>exact ⟨⟨v0,.later a ρ,.later b ρ⟩,1,Nat.le_refl _,rfl,.lit _ _ _ ha,.lit _ _ _ hb,fun q c M h=> .cons om rfl rfl⟩
section
variable{p q:AL}{m:Nat}
def ABo(q:AL)(c:Nat)(e:AB)(ρ':Nm)(r:Except Int Al)(c':Nat):Prop:=
 ∀c2,∃r' c2',Gq r r'∧c2+c'≤c2'+c∧∀M,c2'≤M→Lk q M c2 e ρ' r' c2'
theorem W0(hq: ∀nm f,hd p nm=some f→hd q nm=some f){c:Nat}{e:AB}{ρ:Nm}{r:Except Int Al}{c':Nat}(h:Lk p m c e ρ r c'):
  r≠ .error 60→∀ρ',Ge ρ ρ'→ABo q c e ρ' r c':=by
 have sp: ∀{c e ρ r c'},Lk p m c e ρ r c'→r≠ .error 60→c<c':=fun h hr=>(J9 h).2 hr
 have okn: ∀{x:Al},(Except.ok x:Except Int Al)≠ .error 60:=fun h=>by cases h
 induction h with
 |fuel h=>intro hr;exact absurd rfl hr
 |num h ho=>intro _ ρ' _ c2;exact ⟨plain _,c2+1,⟨rfl,.nil,.nil⟩,om,fun M hM=> .num om ho⟩
 |tru h ho=>intro _ ρ' _ c2;exact ⟨plain _,c2+1,⟨rfl,.nil,.nil⟩,om,fun M hM=> .tru om ho⟩
 |fls h ho=>intro _ ρ' _ c2;exact ⟨plain _,c2+1,⟨rfl,.nil,.nil⟩,om,fun M hM=> .fls om ho⟩
 |nil h ho=>intro _ ρ' _ c2;exact ⟨plain _,c2+1,⟨rfl,.nil,.nil⟩,om,fun M hM=> .nil om ho⟩
 |fail h ho=>intro _ ρ' _ c2;exact ⟨.error 52,c2+1,rfl,om,fun M hM=> .fail om ho⟩
 | @vdone c e ρ x h ho hf=>
  intro _ ρ' hr c2
  obtain ⟨th,h1,h2⟩:=ABf hr _ hf
  cases h2 with
  |done _ _ _ h' t' hh ht=>exact ⟨.ok ⟨x.plain,h',t'⟩,c2+1,⟨rfl,hh,ht⟩,om,fun M hM=> .vdone (x:=⟨x.plain,h',t'⟩) om ho h1⟩
  |lit _ e1 ρ1 hl=>
   obtain ⟨y,k,hk,e1,e2,e3,l⟩:=XT hl ρ1
   exact ⟨.ok y,c2+1+k,⟨e1.symm,e2,e3⟩,om,fun M hM=> .vlater om ho h1 (l q (c2+1) M hM)⟩
 | @vlater c e ρ e' ρ1 r c' h ho hf hl ih=>
  intro hr60 ρ' hr c2
  obtain ⟨th,h1,h2⟩:=ABf hr _ hf
  cases h2 with
  |later _ _ ρ1' hr1=>
   obtain ⟨r',d,rr,hc,l⟩:=ih hr60 ρ1' hr1 (c2+1)
   have:=sp hl hr60
   exact ⟨r',d,rr,om,fun M hM=> .vlater om ho h1 (l M hM)⟩
  |lit _ _ _ hl'=>cases hl'
 | @call c e ρ f r c' h ho hf hl hk ih=>
  intro hr60 ρ' hr c2
  obtain ⟨r',d,rr,hc,l⟩:=ih hr60 _ (ABO hr f.params e.args .nil .nil .nil) (c2+1)
  have:=sp hk hr60
  exact ⟨r',d,rr,om,fun M hM=> .call om ho (hq _ _ hf) hl (l M hM)⟩
 | @cons c e ρ x y h ho ha=>
  intro _ ρ' hr c2
  exact ⟨.ok ⟨v0,.later x ρ',.later y ρ'⟩,c2+1,⟨rfl,.later _ _ _ hr,.later _ _ _ hr⟩,om,fun M hM=> .cons om ho ha⟩
 | @ifE c e ρ x y z w c' h ho ha hk ih=>
  intro hr60 ρ' hr c2
  obtain ⟨r',d,rr,hc,l⟩:=ih hr60 ρ' hr (c2+1)
  obtain rfl:=Nz rr
  have:=sp hk hr60
  exact ⟨.error w,d,rfl,om,fun M hM=> .ifE om ho ha (l M hM)⟩
 | @ifT c e ρ x y z w c1 r c' h ho ha hk hb hk2 ih1 ih2=>
  intro hr60 ρ' hr c2
  obtain ⟨r1,d1,rr1,hc1,l1⟩:=ih1 okn ρ' hr (c2+1)
  obtain ⟨u,rfl,e1,e2,e3⟩:=Ml rr1
  obtain ⟨r',d,rr,hc,l⟩:=ih2 hr60 ρ' hr d1
  have:=sp hk okn;have:=sp hk2 hr60
  exact ⟨r',d,rr,om,fun M hM=> .ifT om ho ha (l1 M om) (e1▸hb) (l M hM)⟩
 | @ifF c e ρ x y z w c1 r c' h ho ha hk hb hk2 ih1 ih2=>
  intro hr60 ρ' hr c2
  obtain ⟨r1,d1,rr1,hc1,l1⟩:=ih1 okn ρ' hr (c2+1)
  obtain ⟨u,rfl,e1,e2,e3⟩:=Ml rr1
  obtain ⟨r',d,rr,hc,l⟩:=ih2 hr60 ρ' hr d1
  have:=sp hk okn;have:=sp hk2 hr60
  exact ⟨r',d,rr,om,fun M hM=> .ifF om ho ha (l1 M om) (e1▸hb) (l M hM)⟩
 | @caE c e ρ x y z w c' h ho ha hk ih=>
  intro hr60 ρ' hr c2
  obtain ⟨r',d,rr,hc,l⟩:=ih hr60 ρ' hr (c2+1)
  obtain rfl:=Nz rr
  have:=sp hk hr60
  exact ⟨.error w,d,rfl,om,fun M hM=> .caE om ho ha (l M hM)⟩
 | @caN c e ρ x y z w c1 r c' h ho ha hk hb hk2 ih1 ih2=>
  intro hr60 ρ' hr c2
  obtain ⟨r1,d1,rr1,hc1,l1⟩:=ih1 okn ρ' hr (c2+1)
  obtain ⟨u,rfl,e1,e2,e3⟩:=Ml rr1
  obtain ⟨r',d,rr,hc,l⟩:=ih2 hr60 ρ' hr d1
  have:=sp hk okn;have:=sp hk2 hr60
  exact ⟨r',d,rr,om,fun M hM=> .caN om ho ha (l1 M om) ((NY e2).trans hb) (l M hM)⟩
 | @caC c e ρ x y z w c1 r c' h ho ha hk hb hk2 ih1 ih2=>
  intro hr60 ρ' hr c2
  obtain ⟨r1,d1,rr1,hc1,l1⟩:=ih1 okn ρ' hr (c2+1)
  obtain ⟨u,rfl,e1,e2,e3⟩:=Ml rr1
  obtain ⟨r',d,rr,hc,l⟩:=ih2 hr60 _ (.bind _ _ _ _ _ e3 (.bind _ _ _ _ _ e2 hr)) d1
  have:=sp hk okn;have:=sp hk2 hr60
  exact ⟨r',d,rr,om,fun M hM=> .caC om ho ha (l1 M om) ((NY e2).trans hb) (l M hM)⟩
 | @lt c e ρ x y r c' h ho ha hk ih=>
  intro hr60 ρ' hr c2
  obtain ⟨r',d,rr,hc,l⟩:=ih hr60 _ (.letrec _ _ _ _ hr) (c2+1)
  have:=sp hk hr60
  exact ⟨r',d,rr,om,fun M hM=> .lt om ho ha (l M hM)⟩
 | @stE c e ρ x y w c' h ho ha hk ih=>
  intro hr60 ρ' hr c2
  obtain ⟨r',d,rr,hc,l⟩:=ih hr60 ρ' hr (c2+1)
  obtain rfl:=Nz rr
  have:=sp hk hr60
  exact ⟨.error w,d,rfl,om,fun M hM=> .stE om ho ha (l M hM)⟩
 | @stV c e ρ x y w c1 r c' h ho ha hk hk2 ih1 ih2=>
  intro hr60 ρ' hr c2
  obtain ⟨r1,d1,rr1,hc1,l1⟩:=ih1 okn ρ' hr (c2+1)
  obtain ⟨u,rfl,e1,e2,e3⟩:=Ml rr1
  obtain ⟨r',d,rr,hc,l⟩:=ih2 hr60 (.bind e.name (.done u.plain u.head u.tail) ρ') (.bind _ _ _ _ _ (e1▸ .done _ _ _ _ _ e2 e3) hr) d1
  have:=sp hk okn;have:=sp hk2 hr60
  exact ⟨r',d,rr,om,fun M hM=> .stV om ho ha (l1 M om) (l M hM)⟩
 | @unE c e ρ x w c' h ho ha hk ih=>
  intro hr60 ρ' hr c2
  obtain ⟨r',d,rr,hc,l⟩:=ih hr60 ρ' hr (c2+1)
  obtain rfl:=Nz rr
  have:=sp hk hr60
  exact ⟨.error w,d,rfl,om,fun M hM=> .unE om ho ha (l M hM)⟩
 | @un c e ρ x w c' r h ho ha hk hA ih=>
  intro _ ρ' hr c2
  obtain ⟨r1,d,rr1,hc,l⟩:=ih okn ρ' hr (c2+1)
  obtain ⟨u,rfl,e1,e2,e3⟩:=Ml rr1
  have:=sp hk okn
  exact ⟨_,d,ZJ r,om,fun M hM=> .un om ho ha (l M hM) (e1▸hA)⟩
 | @biE c e ρ x y w c' h ho ha hk ih=>
  intro hr60 ρ' hr c2
  obtain ⟨r',d,rr,hc,l⟩:=ih hr60 ρ' hr (c2+1)
  obtain rfl:=Nz rr
  have:=sp hk hr60
  exact ⟨.error w,d,rfl,om,fun M hM=> .biE om ho ha (l M hM)⟩
 | @biE2 c e ρ x y w c1 v c' h ho ha hk hk2 ih1 ih2=>
  intro hr60 ρ' hr c2
  obtain ⟨r1,d1,rr1,hc1,l1⟩:=ih1 okn ρ' hr (c2+1)
  obtain ⟨u,rfl,e1,e2,e3⟩:=Ml rr1
  obtain ⟨r',d,rr,hc,l⟩:=ih2 hr60 ρ' hr d1
  obtain rfl:=Nz rr
  have:=sp hk okn;have:=sp hk2 hr60
  exact ⟨.error v,d,rfl,om,fun M hM=> .biE2 om ho ha (l1 M om) (l M hM)⟩
 | @bi c e ρ x y w c1 v c' r h ho ha hk hk2 hA ih1 ih2=>
  intro _ ρ' hr c2
  obtain ⟨r1,d1,rr1,hc1,l1⟩:=ih1 okn ρ' hr (c2+1)
  obtain ⟨u,rfl,e1,e2,e3⟩:=Ml rr1
  obtain ⟨r2,d,rr2,hc,l⟩:=ih2 okn ρ' hr d1
  obtain ⟨u2,rfl,f1,f2,f3⟩:=Ml rr2
  have:=sp hk okn;have:=sp hk2 okn
  exact ⟨_,d,ZJ r,om,fun M hM=> .bi om ho ha (l1 M om) (l M hM) (e1▸f1▸hA)⟩
theorem P2(hq: ∀nm f,hd p nm=some f→hd q nm=some f){c:Nat}{h h':Th}{r:Except Int Al}{c':Nat}(ht:Tg p m c h r c')(hr:r≠ .error 60)(hh:Gt h h'):
  ∀c2,∃r' c2',Gq r r'∧c2+c'≤c2'+c∧∀M,c2'≤M→Tg q M c2 h' r' c2':=by
 intro c2
 cases ht with
 | @done x=>
  cases hh with
  |done _ _ _ a b e1 e2=>exact ⟨.ok ⟨x.plain,a,b⟩,c2,⟨rfl,e1,e2⟩,om,fun M hM=> .done (x:=⟨x.plain,a,b⟩)⟩
  |lit _ e ρ' hl=>
   obtain ⟨y,k,hk,e1,e2,e3,l⟩:=XT hl ρ'
   exact ⟨.ok y,c2+k,⟨e1.symm,e2,e3⟩,om,fun M hM=> .later (l q c2 M hM)⟩
 |later hl=>
  cases hh with
  |later _ _ ρ' hr'=>
   obtain ⟨r',d,rr,hc,l⟩:=W0 hq hl hr ρ' hr' c2
   exact ⟨r',d,rr,hc,fun M hM=> .later (l M hM)⟩
  |lit _ _ _ hl'=>cases hl'
theorem ABP(hq: ∀nm f,hd p nm=some f→hd q nm=some f){c:Nat}{h t:Th}{acc:List (Nat×Nat)}{r:Except Int AH}{c':Nat}(hw:Wl p m c h t acc r c'):
  r≠ .error 60→∀h' t',Gt h h'→Gt t t'→∀c2,∃c2',c2+c'≤c2'+c∧∀M,c2'≤M→Wl q M c2 h' t' acc r c2':=by
 have okn: ∀{x:Al},(Except.ok x:Except Int Al)≠ .error 60:=fun h=>by cases h
 induction hw with
 |hE hb h1=>
  intro hr h' t' hh _ c2
  obtain ⟨r',d,rr,hc,l⟩:=P2 hq h1 (fun e=>hr (by cases e;rfl)) hh c2
  obtain rfl:=Nz rr
  exact ⟨d,hc,fun M hM=> .hE hb (l M hM)⟩
 |tE hb h1 h2=>
  intro hr h' t' hh ht c2
  obtain ⟨r1,d1,rr1,hc1,l1⟩:=P2 hq h1 okn hh c2
  obtain ⟨u,rfl,e1,e2,e3⟩:=Ml rr1
  obtain ⟨r',d,rr,hc,l⟩:=P2 hq h2 (fun e=>hr (by cases e;rfl)) ht d1
  obtain rfl:=Nz rr
  have:=Pb h2
  exact ⟨d,om,fun M hM=> .tE hb (l1 M om) (l M hM)⟩
 |stop hb h1 h2 hz=>
  intro hr h' t' hh ht c2
  obtain ⟨r1,d1,rr1,hc1,l1⟩:=P2 hq h1 okn hh c2
  obtain ⟨u,rfl,e1,e2,e3⟩:=Ml rr1
  obtain ⟨r2,d,rr2,hc,l⟩:=P2 hq h2 okn ht d1
  obtain ⟨u2,rfl,f1,f2,f3⟩:=Ml rr2
  have:=Pb h2
  rw [e1]
  exact ⟨d,om,fun M hM=> .stop hb (l1 M om) (l M hM) ((NY f2).trans hz)⟩
 |go hb h1 h2 hz h3 ih=>
  intro hr h' t' hh ht c2
  obtain ⟨r1,d1,rr1,hc1,l1⟩:=P2 hq h1 okn hh c2
  obtain ⟨u,rfl,e1,e2,e3⟩:=Ml rr1
  obtain ⟨r2,d2,rr2,hc2,l2⟩:=P2 hq h2 okn ht d1
  obtain ⟨u2,rfl,f1,f2,f3⟩:=Ml rr2
  obtain ⟨d,hc,l⟩:=ih hr _ _ f2 f3 d2
  rw [e1] at l
  have:=Pb h2;have:=AAM h3
  exact ⟨d,om,fun M hM=> .go hb (l1 M om) (l2 M om) ((NY f2).trans hz) (l M hM)⟩
theorem ABQ(hq: ∀nm f,hd p nm=some f→hd q nm=some f){e e':AB}{ρ ρ' ρ2:Nm}{r:Except Int AH}{c':Nat}(h:Rn p m e ρ r c')(hr:r≠ .error 60)(he:Ge ρ ρ')
  (hcall: ∀(M:Nat) (r:Except Int Al) (d:Nat),0<M→Lk q M 1 e ρ' r d→Lk q M 0 e' ρ2 r d): ∃d,c'<d∧∀M,d≤M→Rn q M e' ρ2 r d:=by
 have okn: ∀{x:Al},(Except.ok x:Except Int Al)≠ .error 60:=fun h=>by cases h
 cases h with
 |err h=>
  obtain ⟨r',d,rr,hc,l⟩:=W0 hq h (fun e=>hr (by cases e;rfl)) ρ' he 1
  obtain rfl:=Nz rr
  exact ⟨d,om,fun M hM=> .err (hcall M _ _ om (l M hM))⟩
 |val h h2=>
  obtain ⟨r1,d1,rr1,hc1,l1⟩:=W0 hq h okn ρ' he 1
  obtain ⟨u,rfl,e1,e2,e3⟩:=Ml rr1
  cases h2 with
  |plain hx=>
   refine ⟨d1,om,fun M hM=>?_⟩
   rw [e1]
   exact .val (hcall M _ _ om (l1 M hM)) (.plain ((NY e2).trans hx))
  |list hx hw=>
   obtain ⟨d,hc,l⟩:=ABP hq hw hr _ _ e2 e3 d1
   have:=AAM hw
   exact ⟨d,om,fun M hM=> .val (hcall M _ _ om (l1 M om)) (.list ((NY e2).trans hx) (l M hM))⟩
end
end Fth
namespace Fth
open Go
inductive MG:List AH→List AB→Prop
 |nil:MG [] []
 |cons (v:AH) (e:AB) (vs:List AH) (es:List AB) (h:SB (gv v) e) (hs:MG vs es):MG (v::vs) (e::es)
theorem MG.len{vs:List AH}{es:List AB}(h:MG vs es):vs.length=es.length:=by
 induction h with
 |nil=>rfl
 |cons _ _ _ _ _ _ ih=>simp [ih]
theorem MG.snoc{vs:List AH}{es:List AB}{v:AH}{e:AB}(h:MG vs es)(he:SB (gv v) e):MG (vs++[v]) (es++[e]):=by
 induction h with
 |nil=>exact .cons _ _ _ _ he .nil
 |cons _ _ _ _ h1 _ ih=>exact .cons _ _ _ _ h1 ih
theorem ABp{vs:List AH}{es:List AB}(h:MG vs es): ∀(ps:List AK) (acc acc':Nm),Ge acc acc'→Ge (RC ps vs acc) (Pa .nil ps es acc'):=by
 induction h with
 |nil=>intro ps acc acc' ha;cases ps<;>exact ha
 |cons v e vs es h1 _ ih=>
  intro ps acc acc' ha
  cases ps with
  |nil=>exact ha
  |cons x ps=>exact ih ps _ _ (.bind _ _ _ _ _ (.lit _ _ _ h1) ha)
def WI(f:AE)(es:List AB):AB:=⟨7,f.name,[],0,(0,0),es,0⟩
def gC(f:AE)(es:List AB):AE:=⟨zz,[],f.type_,WI f es,0⟩
section
variable{p:AL}{f:AE}{es:List AB}
theorem AAO(hp:WPt p)(hf:f∈p.funcs)(hw: ∀a∈es,WE a)(hs:CL es≤900000):WP (qOf p (gC f es)):=by
 refine ⟨fun x hx=>?_,?_⟩
 ·rw [PJ] at hx
  rcases List.mem_append.1 hx with hx|hx
  ·exact hp.wp.fns x hx
  ·simp at hx;subst hx
   refine ⟨.mk _ (.inr (.inl rfl)) (fun h=>by cases h) (fun h=>by rcases h with h|h|h<;>cases h) hw,?_,by show 0≤_;omega,(hp.fns f hf).typ,fun x h=>by cases h⟩
   have:DZ (WI f es)=1+CL es:=by simp [WI,DZ]
   show DZ (WI f es)≤_
   omega
 ·have:=hp.len
  rw [PJ,List.length_append];simp;omega
end
theorem ZK{a:D5}{x:AL×List AH×Bool}{f:AE}{es:List AB}(hp:WPt x.1)(hl:LV x.2.1)(hSp:O7 x.1)(hf:hd x.1 a.name=some f)(hF:Tl f x.2.1)
  (hA:MG x.2.1 es) (hw: ∀e∈es,WE e) (hs:CL es≤900000) (hSq:O7 (qOf x.1 (gC f es))):Ev fun N=>F4 N a x false (qOf x.1 (gC f es)).funcs=some true:=by
 have hfm:f∈x.1.funcs:=List.mem_of_find?_eq_some hf
 have hnm:f.name=a.name:=by simpa using List.find?_some hf
 have hq:=AAO hp hfm hw hs
 obtain ⟨r,hr,ec⟩:=XS (nm:=a.name) hp.wp hl.av 1000
 obtain ⟨s,hs',e2⟩:=XS (nm:=zz) (args:=[]) hq ⟨(fun v h=>by cases h),by simp⟩ 16384
 have hzz:hd (qOf x.1 (gC f es)) zz=some (gC f es):=ABL _ rfl hSq.1.1
 have hqf:hd (qOf x.1 (gC f es)) f.name=some f:=ZE _ _ _ (hnm▸hf)
 have em1:QX 1000=1000:=XQ (n:=1000) (by decide)
 have em2:QX 16384=16384:=XQ (n:=16384) (by decide)
 rw [em1] at hr;rw [em2] at hs'
 have fin:((r.why=60∨s.why=60)∨(r.why=s.why∧r.value=s.value∧r.moves<s.moves))→Ev fun N=>F4 N a x false (qOf x.1 (gC f es)).funcs=some true:=by
  intro H
  refine ((ec.and e2).and (Xt (ZB hr))).mono fun N hN=>?_
  unfold F4
  rw [cond_false,hN.1.1.1,Option.bind_some]
  show ((FM N (qOf x.1 (gC f es)) zz [] 16384).bind fun x1286=>_)=_
  rw [hN.1.2.1,Option.bind_some]
  have hT:(r.why=60∨s.why=60)→F3 N r s true=some true:=fun h=>by
   unfold F3
   rw [cond_true]
   rcases h with h|h
   ·rw [h];cases (s.why != 0)<;>rfl
   ·rw [h];rfl
  cases h1:(r.why==60)
  ·rw [cond_false]
   cases h2:(s.why==60)
   ·rcases H with h| ⟨h3,h4,h5⟩
    ·rcases h with h|h
     ·rw [h] at h1;cases h1
     ·rw [h] at h2;cases h2
    ·unfold F3
     rw [cond_false,show (r.why==s.why)=true by simp [h3],cond_true,←h4,ABn,hN.2,Option.bind_some,cond_true]
     unfold HJ
     rw [decide_eq_true (show s.moves>r.moves from h5)]
   ·exact hT (.inr (B9 h2))
  ·rw [cond_true];exact hT (.inl (B9 h1))
 refine fin ?_
 cases hr with
 |shape h=>exact absurd hSp h
 |func _ h=>rw [hf] at h;cases h
 | @args f' _ h ha=>rw [hf] at h;cases h;exact absurd hF ha
 | @run f' r c _ h ha hR hc hv=>
  rw [hf] at h;cases h
  by_cases h60:r= .error 60
  ·subst h60;exact .inl (.inl rfl)
  obtain ⟨d,hd,hL⟩:=ABQ (q:=qOf x.1 (gC f es)) (e':=WI f es) (ρ2:= .nil) (ZE _) hR h60 (ABp hA f.params .nil .nil .nil) fun M r d hM l=> .call hM rfl hqf (by rw [←hF.1];exact hA.len) l
  cases hs' with
  |shape h=>exact absurd hSq h
  |func _ h=>rw [hzz] at h;cases h
  |args _ h ha'=>
   rw [hzz] at h;cases h
   exact absurd ⟨rfl,fun i v x h=>by cases h⟩ ha'
  | @run g r' c' _ h _ hR' _ _=>
   rw [hzz] at h;cases h
   by_cases hd2:d≤16384
   ·obtain ⟨rfl,rfl⟩:=ZD hq hSq.1.1 (Nat.le_refl _) (hL 16384 hd2) hR'
    refine .inr ?_
    cases r<;>exact ⟨rfl,rfl,by show (c:Int)< (d:Int);omega⟩
   ·obtain ⟨rfl,rfl⟩:=ZD hq hSq.1.1 (Nat.le_refl _) (AAF (hL d (Nat.le_refl _)) om) hR'
    exact .inl (.inr rfl)
theorem ZL{a:D5}{x:AL×List AH×Bool}{f:AE}{es:List AB}{n:Nat}(hp:WPt x.1)(hl:LV x.2.1)(hSp:O7 x.1)(hf:hd x.1 a.name=some f)(hF:Tl f x.2.1)
  (hA:MG x.2.1 es) (hw: ∀e∈es,WE e) (hs:CL es≤7*x.2.1.length+8*n):Ev fun N=>F5 N a x (n:Int) (qOf x.1 (gC f es)).funcs=some true:=by
 have hfm:f∈x.1.funcs:=List.mem_of_find?_eq_some hf
 by_cases hn:200<n
 ·refine Ev.all fun N=>?_
  unfold F5
  rw [decide_eq_true (show (n:Int)>200 by omega)];rfl
 ·have hpl:=(hp.fns f hfm).pars
  have hlen:=hF.1
  have hs2:CL es≤900000:=om
  obtain ⟨fr,hfr,e1⟩:=Tk (AAO hp hfm hw hs2)
  replace e1:Ev fun N=>Dx N (qOf x.1 (gC f es))=some fr:=e1
  by_cases h0:fr.why=0
  ·refine (e1.and (ZK hp hl hSp hf hF hA hw hs2 (hfr.1 h0))).mono fun N hN=>?_
   unfold F5
   rw [decide_eq_false (show¬(n:Int)>200 by omega),cond_false]
   show ((Dx N (qOf x.1 (gC f es))).bind fun x1369=>_)=_
   rw [hN.1,Option.bind_some,show (fr.why != 0)=false by simp [h0]]
   exact hN.2
  ·refine e1.mono fun N hN=>?_
   unfold F5
   rw [decide_eq_false (show¬(n:Int)>200 by omega),cond_false]
   show ((Dx N (qOf x.1 (gC f es))).bind fun x1369=>_)=_
   rw [hN,Option.bind_some,show (fr.why != 0)=true by simp [h0]];rfl
theorem ZM{a:D5}{x:AL×List AH×Bool}{f:AE}(hp:WPt x.1)(hl:LV x.2.1)(hSp:O7 x.1)(hf:hd x.1 a.name=some f)(hF:Tl f x.2.1):
  Ev fun N=>EI N a x (f,true) N 0 0 []=some true:=by
 have hlen:=hp.len
 have hl2:=hl.2
 have loop: ∀(j i n:Nat) (es:List AB),i+j=x.2.1.length→MG (x.2.1.take i) es→(∀e∈es,WE e)→CL es≤7*i+8*n→n≤i*1048577→EL (fun N k=>EI N a x (f,true) k (n:Int) (i:Int) es) fun b=>b=true:=by
  intro j
  induction j with
  |zero=>
   intro i n es hi hA hw hs hn
   have hel:=hA.len
   rw [List.length_take] at hel
   refine EL.down ?_
   show EL (fun N k=>FY N a x (f,true) (EI N a x (f,true) k) n i es) _
   unfold FY
   refine EL.cond (fun h=>by have:=CO h;omega) fun _=>EL.tb (Ff (by decide) (by simp;omega)) fun _ _=>EL.tb (Ff (by decide) (by simp;omega)) fun _ _=>?_
   rw [List.take_of_length_le om] at hA
   exact EL.of ⟨true,rfl,ZL hp hl hSp hf hF hA hw om⟩
  |succ j ih=>
   intro i n es hi hA hw hs hn
   have hel:=hA.len
   rw [List.length_take] at hel
   refine EL.down ?_
   show EL (fun N k=>FY N a x (f,true) (EI N a x (f,true) k) n i es) _
   unfold FY
   obtain ⟨v,hv⟩: ∃v,x.2.1[i]?=some v:=⟨_,List.getElem?_eq_getElem om⟩
   have hvl:=hl.1 v (List.mem_of_getElem? hv)
   have hvl2:=hvl.2
   obtain ⟨e,e1,e2,e3,e4⟩:=WH hvl.1 om
   refine EL.cond (fun _=>EL.eq (CA hv) (EL.bind (f:=fun N=>Ds N v) (P:=fun y=>y=e) ⟨e,rfl,e1⟩ fun y hy=>?_)) fun h=>by have:=Do h;omega
   subst hy
   refine EL.tb (Ff (by decide) (by simp;omega)) fun _ _=>?_
   have hm:n+v.list.length≤(i+1)*1048577:=by rw [Nat.add_mul];omega
   have hm2:(i+1)*1048577≤1048577*1048577:=Nat.mul_le_mul_right _ om
   rw [wr om om,wr om om,show (i:Int)+1=((i+1:Nat):Int) by omega,show (n:Int)+(v.list.length:Int)=((n+v.list.length:Nat):Int) by omega]
   refine ih (i+1) (n+v.list.length) (es++[y]) om ?_ (fun z hz=>?_) (by rw [JN,Nt];omega) hm
   ·rw [List.take_add_one,hv];exact hA.snoc e2
   ·rcases List.mem_append.1 hz with hz|hz
    ·exact hw z hz
    ·simp at hz;subst hz;exact e3
 obtain ⟨b,hb,e⟩:=(loop x.2.1.length 0 0 [] om (by rw [List.take_zero];exact .nil) (fun e h=>by cases h) (by simp [CL]) om).diag
 exact e.mono fun N hN=>hb▸hN
theorem Tm(a:D5)(h:a.args.length≤1048576): ∃N,CC N a=some true:=by
 obtain ⟨x,⟨hpt,hl⟩,er⟩:=AAH h
 have hp:=hpt.wp
 have hlen:=hp.len
 have eh:Ev fun N=>Ey N x.1 a.name=some (hdR (hd x.1 a.name)):=(MJ (x.1.funcs.length+2)).mono fun N hN=>QR om hN
 cases hb:x.2.2
 ·refine (((Qa.and er).and eh).mono (q:=fun N=>CC N a=some true) fun N hN=>?_).get
  unfold CC
  rw [hN.1.1,Option.bind_some,Bool.not_true,cond_false,hN.1.2,Option.bind_some,hN.2,Option.bind_some,hb];rfl
 have hl:=hl hb
 cases hf:hd x.1 a.name with
 |none=>
  refine (((Qa.and er).and eh).mono (q:=fun N=>CC N a=some true) fun N hN=>?_).get
  unfold CC
  rw [hN.1.1,Option.bind_some,Bool.not_true,cond_false,hN.1.2,Option.bind_some,hN.2,Option.bind_some,hb,hf];rfl
 |some f=>
  rw [hf] at eh
  replace eh:Ev fun N=>Ey N x.1 a.name=some (f,true):=eh
  obtain ⟨fr,hfr,e1⟩:=Tk hp
  replace e1:Ev fun N=>Dx N x.1=some fr:=e1
  by_cases h0: ¬fr.why=0
  ·refine ((((Qa.and er).and eh).and e1).mono (q:=fun N=>CC N a=some true) fun N hN=>?_).get
   unfold CC
   rw [hN.1.1.1,Option.bind_some,Bool.not_true,cond_false,hN.1.1.2,Option.bind_some,hN.1.2,Option.bind_some,hb,Bool.not_true,cond_false,cond_false,hN.2,Option.bind_some,show (fr.why != 0)=true by simp [h0]];rfl
  have h0:=Decidable.not_not.1 h0
  have hfm:f∈x.1.funcs:=List.mem_of_find?_eq_some hf
  obtain ⟨b,hbF,eF⟩:=XR hl.av (hp.fns f hfm).pars
  replace eF:Ev fun N=>FX N f x.2.1=some b:=eF
  have fin:(Ev fun N=>F6 N a x (f,true) (!b)=some true)→∃N,CC N a=some true:=fun hj=>by
   refine ((((((Qa.and er).and eh).and e1).and eF).and hj).mono (q:=fun N=>CC N a=some true) fun N hN=>?_).get
   unfold CC
   rw [hN.1.1.1.1.1,Option.bind_some,Bool.not_true,cond_false,hN.1.1.1.1.2,Option.bind_some,hN.1.1.1.2,Option.bind_some,hb,Bool.not_true,cond_false,cond_false,hN.1.1.2,Option.bind_some,show (fr.why != 0)=false by simp [h0],cond_false,hN.1.2,Option.bind_some]
   exact hN.2
  refine fin ?_
  cases b
  ·exact Ev.all fun N=>rfl
  ·exact ZM hpt hl (hfr.1 h0) hf (hbF.1 rfl)
end Fth
namespace Fth
open Go Go.Proofs Go.ChangeShapes Go.WideShapes Go.ChangeAt Go.RowKit
open Go.Proofs.YtiodboehkcmdnaaGreat
open Go.ChangeMaps (open_string shut_string)
open Go.Deep (trod_struct3_mk)
theorem ABR{n:Int}(h:(Lit.int .u8 n).wf=true):((UInt8.ofNat n.toNat).toNat:Int)=n:=by
 have h:0≤n∧n≤255:=by simpa [Lit.wf,IntKind.min,IntKind.max,IntKind.signed,IntKind.bits] using h
 simp only [UInt8.toNat_ofNat']
 omega
theorem SI(s:ByteArray):bs s.data.toList=s:=by cases s;simp [bs]
section
variable{H:Type}{enc:TypeId×Value→H}{W:World}{base:Nat}
theorem AS.old{C C':Col}{W':World}(h:AS [] C W C' W'): ∀b,b<W.heap.size→W'.heap[b]?=W.heap[b]?:=fun b hb=>h.same b hb (by simp)
theorem AS.keptBut{C C':Col}{W':World}(h:AS [] C W C' W')(may:MemPlace→Prop):W.keptBut W' may:=by
 refine ⟨h.os,h.output,fun i hi=>?_⟩
 rw [h.old i hi]
 exact (World.keptBut_refl W may).2.2 i hi
theorem Xu{P:Program}{f:Func}{s:ChangeSpec}{apart fresh handsOn again:Bool}{W':World}{args:Array Value}{v:Value}{ds gs:List (DataW H)}{before pa:List MemPlace}{C C':Col}
  (hW:DataW.Whole enc P f.params.toList s.vars apart W args.toList ds gs before)
  (hres: ∀(b:Nat) (sp:Nat→Bool) (hd:Bool),DataW.TrodAll enc P W' b sp hd f.resultTypes.toList (v.resultList f.resultTypes.size) (s.fn H (ds++gs)).results [])
  (hargs: ∀sp:Nat→Bool,(∀p∈before,sp p.block=true)→DataW.TrodAll enc P W' 0 sp true f.params.toList args.toList (s.fn H (ds++gs)).args pa)
  (hvars: ∀sp:Nat→Bool,DataW.TrodVars enc P W' sp s.vars (s.fn H (ds++gs)).vars [])
  (hps:before=pa) (st:AS [] C W C' W')
  (hok: ∀(j:Nat) (t:TypeId) (r:Value),f.resultTypes[j]?=some t→(v.resultList f.resultTypes.size)[j]?=some r→Value.okWide P W' .any 0 t r):
  s.post enc P f apart fresh handsOn again W args v W':=by
 have hold: ∀p∈before,(fun b=>decide (b<W.heap.size)) p.block=true:=fun p hp=>by simpa using hW.lt p hp
 refine ⟨ds,gs,before,[],pa,[],hW,hres _ _ _,hargs _ hold,hvars _,World.keptBut_mono (fun p hp=>⟨hp,?_⟩) (st.keptBut (· ∈before)),fun _=>?_⟩
 ·rw [hps] at hp
  exact Or.inr (by simpa using hp)
 ·have hlt:=hW.lt
  obtain ⟨_,_,_,_,_,hz,hn⟩:=hW
  refine ⟨hok,_,_,([]++pa)++[],⟨[]++pa,[],trodAll_append (hargs _ (fun _ _=>rfl)) (hres _ _ _),hvars _,rfl,?_,?_⟩,?_⟩
  ·intro b off hp
   have hp':MemPlace.cell b off∈before:=by rw [hps];simpa using hp
   have hb:b<W.heap.size:=hlt _ hp'
   have:=hz b off hp'
   unfold World.frozen? at this ⊢
   rw [st.old b hb]
   exact this
  ·intro ha
   have:=hn ha
   rw [hps] at this
   simpa using this
  ·intro p hp _
   rw [hps]
   simpa using hp
set_option maxRecDepth 100000 in
theorem ZN{v:Value}{d:DataW H}{p:List MemPlace}(hv:Value.okWide Tryz.prog W .any base 24 v)(h:DataW.Trod enc Tryz.prog W 0 (fun _=>true) true 24 v d p):
  ∃(a:D5) (c0:List Value),v= .agg c0.toArray∧NP.rep (Col.F fun _=>0) W c0 a∧a.args.length≤Rows.uptoBulk d∧a.text.length≤Rows.uptoBulk d∧a.name.length≤Rows.uptoBulk d∧
   ∀W':World,(∀b,b<W.heap.size→W'.heap[b]?=W.heap[b]?)→∀sp:Nat→Bool,(∀q∈p,sp q.block=true)→DataW.Trod enc Tryz.prog W' 0 sp true 24 v d p:=by
 obtain ⟨c0,c1,c2,y0,y1,y2,m,rfl,rfl,rfl,h0,h1,h2⟩:=Go.Joins.open_agg3 Tryz.underlying24 (by kernel_rfl) (by kernel_rfl) hv h
 obtain ⟨s1,e1,rfl,k1⟩:=DataW.trod_string Tryz.underlying9 h1
 obtain ⟨s2,e2,rfl,k2⟩:=DataW.trod_string Tryz.underlying9 h2
 simp only [List.cons.injEq,and_true] at e1 e2
 subst e1 e2
 have hstr: ∀(n:Nat) (W':World) (sp:Nat→Bool) (s:ByteArray),s.size≤maxLen→DataW.trod enc Tryz.prog W' 0 sp true (n+1) 9 [.string s]=some (.lit (.string s.data.toList),[]):=fun n W' sp s hs=>by
  obtain ⟨n',hn⟩:=shut_string (enc:=enc) (P:=Tryz.prog) (w:=W') (base:=0) (sp:=sp) (held:=true) Tryz.underlying9 hs
  cases n' with
  |zero=>simp [DataW.trod] at hn
  |succ n'=>
   simp only [DataW.trod,Value.cells,Tryz.underlying9] at hn ⊢
   exact hn
 have hcells:Tryz.prog.cellsOf 24=3:=by kernel_rfl
 have close: ∀(n:Nat) (W':World) (sp:Nat→Bool),DataW.trod enc Tryz.prog W' 0 sp true (n+1) 22 [c0]=some y0→
   DataW.Trod enc Tryz.prog W' 0 sp true 24 (.agg #[c0,.string s1,.string s2]) (.agg [y0.1,.lit (.string s1.data.toList),.lit (.string s2.data.toList)]) (y0.2++([]++[])):=fun n W' sp hn=>
  ⟨n+1+1,trod_struct3_mk (y1:=(.lit (.string s1.data.toList),[])) (y2:=(.lit (.string s2.data.toList),[])) Tryz.underlying24 (by rw [hcells];rfl) (by rw [show Tryz.prog.cellsOf 22=1 from by kernel_rfl];exact hn) (hstr n W' sp s1 k1) (hstr n W' sp s2 k2)⟩
 have l1:Rows.uptoBulk (.agg [y0.1,.lit (.string s1.data.toList),.lit (.string s2.data.toList)]:DataW H)=Rows.uptoBulk y0.1+(s1.data.toList.length+1)+(s2.data.toList.length+1)+1:=by
  simp only [Rows.uptoBulk,Rows.uptoBulkAll];omega
 rcases open_ints Tryz.underlying22 Tryz.underlying5 (by kernel_rfl) h0 with ⟨e,rfl⟩| ⟨a,len,cap,zs,e,hb,hl,hm,hz,rfl,hcell,hw⟩
 ·simp only [List.cons.injEq,and_true] at e
  subst e
  refine ⟨⟨[],s1.data.toList,s2.data.toList⟩,[.slice none 0 0,.string s1,.string s2],rfl,⟨_,by rw [SI,SI];rfl,none,0,rfl,Nat.le_refl _,.inl rfl⟩,?_,?_,?_,?_⟩
  ·rw [l1];show s2.data.toList.length≤_;omega
  ·rw [l1];show 0≤_;omega
  ·rw [l1];show s1.data.toList.length≤_;omega
  ·intro W' hW' sp hsp
   refine close 1 W' sp ?_
   rw [DataW.trod_step]
   simp only [DataW.trodStep,Tryz.underlying22]
 ·simp only [List.cons.injEq,and_true] at e
  subst e
  simp only [if_true] at hz
  have hlt: ∀i,i<zs.length→a.block<W.heap.size:=fun i hi=>by
   have:=World.block_lt_of_cell? _ _ (hcell i hi)
   simpa [block_add] using this
  refine ⟨⟨(zs.take len).map fun n=>UInt8.ofNat n.toNat,s1.data.toList,s2.data.toList⟩,[.slice (some a) len cap,.string s1,.string s2],rfl,⟨_,by rw [SI,SI],some a,cap,?_,?_,?_⟩,?_,?_,?_,?_⟩
  ·simp [hz,Nat.min_eq_left hl]
  ·simp [hz];omega
  ·by_cases h0:len=0
   ·subst h0;left;rfl
   ·right
    have h00:=hcell 0 om
    have hs:a.spot=none:=by simpa [Addr.add] using World.cell?_spot h00
    obtain ⟨b,off,spot⟩:=a
    simp only at hs
    subst hs
    refine ⟨b,off,rfl,rfl,hlt 0 om,fun i x hx=>?_⟩
    rw [List.getElem?_map] at hx
    obtain ⟨n,hn,rfl⟩:=Option.map_eq_some_iff.1 hx
    have hi:i<len:=by
     have:=(List.getElem?_eq_some_iff.1 hn).1
     simp at this;omega
    rw [List.getElem?_take_of_lt hi] at hn
    have hm':n∈zs:=List.mem_of_getElem? hn
    refine ⟨_,rfl,rfl,fun j c hj=>?_⟩
    match j,hj with
    |0,hj=>
     simp only [List.getElem?_cons_zero,Option.some.injEq] at hj
     subst hj
     have:=hcell i om
     rw [add_plain,show zs.getD i 0=n by simp [List.getD,hn]] at this
     show W.cell? ⟨b,off+i*1+0,none⟩=_
     rw [ABR (hw n hm')]
     simpa using this
  ·rw [l1];show s2.data.toList.length≤_;omega
  ·rw [l1]
   show ((zs.take len).map _).length≤_
   have h1:Rows.uptoBulk (.slice (lits .u8 (zs.take len)) (lits .u8 (zs.drop len)):DataW H)≥(zs.take len).length:=by
    have: ∀l:List Int,Rows.uptoBulkAll (lits .u8 l:List (DataW H))=l.length:=fun l=>by
     induction l with
     |nil=>rfl
     |cons x l ih=>
      have e:(lits .u8 (x::l):List (DataW H))= .lit (.int .u8 x)::lits .u8 l:=rfl
      rw [e];simp only [Rows.uptoBulkAll,Rows.uptoBulk,ih,List.length_cons];omega
    simp only [Rows.uptoBulk,this]
    omega
   rw [List.length_map]
   simp only
   omega
  ·rw [l1];show s1.data.toList.length≤_;omega
  ·intro W' hW' sp hsp
   refine close 1 W' sp ?_
   refine shut_ints 0 Tryz.underlying22 Tryz.underlying5 (by kernel_rfl) (Nat.zero_le _) hl hm ?_ ?_ hw
   ·by_cases h0:zs.length=0
    ·split<;>omega
    ·have:sp a.block=true:=hsp (.cell a.block (a.off+0)) (by
      simp only [List.append_nil,MemPlace.row,List.mem_map,List.mem_range]
      exact ⟨0,om,rfl⟩)
     rw [if_pos this];exact hz
   ·intro i hi
    rw [World.cell?_of_block (w:=W) (a:=a.add i) (by rw [block_add];exact hW' _ (hlt i hi))]
    exact hcell i hi
end
end Fth
namespace Go.Proofs.YtiodboehkcmdnaaGreat.meanGiven
open Go Go.ChangeShapes Go.WideShapes Go.ChangeAt Go.RowKit Fth
set_option linter.unusedVariables false
theorem own:ownKnob Tryz.prog.godebug=none:=by kernel_rfl
set_option maxRecDepth 100000 in
theorem contract(H:Type)(enc:TypeId×Value→H)(W:World)(base:Nat)(args:Array Value)(ds gs:List (DataW H))(before:List MemPlace)
  (hval: ∀(j:Nat) t v,Tryz.f9.params[j]?=some t→args[j]?=some v→Value.okWide Tryz.prog W .any base t v)
  (hW:DataW.Whole enc Tryz.prog Tryz.f9.params.toList Rows.meanGivenSpec.vars false W args.toList ds gs before) (hk:Rows.uptoSmall H (ds++gs)=true):
  Calls Tryz.prog 9 args W fun e W'=>∃v,e= .returned v∧Rows.meanGivenSpec.post enc Tryz.prog Tryz.f9 false true false false W args v W':=by
 have hW':=hW
 obtain ⟨p,q,hA0,hV,rfl,hfz,hnd⟩:=hW
 have hA:DataW.TrodAll enc Tryz.prog W 0 (fun _=>true) true Tryz.f9.params.toList args.toList ds p:=hA0
 rw [Tryz.params9] at hA hval
 obtain ⟨v0,vs0,d0,ds0,p0,q0,hargs,rfl,rfl,h0,r0⟩:=trodAll_cons hA
 obtain ⟨rfl,rfl,rfl⟩:=trodAll_nil r0
 obtain rfl:args=#[v0]:=by cases args;simp_all
 obtain ⟨rfl,rfl⟩:=trodVars_none hV
 obtain ⟨a,c0,rfl,ha,l1,_,_,hcl⟩:=ZN (hval 0 24 v0 rfl rfl) h0
 clear hA0
 have hb:Rows.uptoBulkAll (d0::[])≤1048576:=by
  have h:Rows.uptoBulkAll (d0::[]++[])≤1048576:=of_decide_eq_true hk
  simpa using h
 have hl:a.args.length≤1048576:=by
  rw [Rows.uptoBulkAll] at hb
  omega
 obtain ⟨N,hN⟩:=Tm a hl
 refine (Pw N (fun _=>0) W hN ha).mono ?_
 rintro e W' ⟨C',rfl,st⟩
 refine ⟨_,rfl,Xu (pa:=p0++[]) hW' (fun _ _ _=>trodAll_cons_mk (shut_bool Tryz.underlying4 _) trodAll_mk0) (fun sp hsp=>?_) (fun _=>rfl) (by simp) st (ok_one (by kernel_rfl) rfl (okWide_bool_mk Tryz.underlying4 _))⟩
 exact trodAll_cons_mk (hcl W' st.old sp (fun q hq=>hsp q (by simp [hq]))) trodAll_mk0
set_option maxRecDepth 100000 in
theorem lifted(os:Os)(started:os.Started)(H:Type)(enc:TypeId×Value→H)(F:Stop.Interp):
  ReturnsInHanded {} Tryz.checked os 9 .any ((Rows.OpenSpec.upto Rows.meanGivenSpec).pre6 enc Tryz.prog Tryz.f9 Rows.meanGivenUptoRow.domain false) (((Rows.OpenSpec.upto Rows.meanGivenSpec).at F).post enc Tryz.prog Tryz.f9 false true false false):=by
 refine returnsInHanded_of_cond (C:=Tryz.checked) (s:=Rows.OpenSpec.upto Rows.meanGivenSpec) (k:=Rows.uptoSmall) rfl own started (by kernel_rfl) Tryz.func9
  (OpenSpec.witness (enc:=enc) (C:=Tryz.checked) (s:=Rows.OpenSpec.upto Rows.meanGivenSpec) (k:=Rows.uptoSmall) rfl false ⟨#[],#[.agg #[.slice none 0 0,.string .empty,.string .empty]],[]⟩ 8 (by kernel_rfl) (by kernel_rfl) (by kernel_rfl)
   (x:=([.agg [.nil,.lit (.string []),.lit (.string [])]],[],[])) (by kernel_rfl) rfl (by kernel_rfl)) ?_
 intro W base args ds gs before hval hW _ hk _
 exact contract H enc W base args ds gs before hval hW hk
theorem proved:Rows.MeanGivenUptoSaid:=
 OpenClaim.holds_of_cond 9 Tryz.f9 rfl rfl rfl rfl rfl rfl rfl ⟨rfl,rfl,rfl,rfl,rfl⟩ rfl rfl rfl rfl rfl (by kernel_rfl) Tryz.func9 (by kernel_rfl)
  (of_decide_eq_true (by kernel_rfl)) (by unfold Func.isWrapper;first| (rw [if_pos (by decide+kernel)];kernel_rfl)| (rw [if_neg (by decide+kernel)];exact ⟨rfl,rfl⟩))
  (fun os started H enc _ F=>lifted os started H enc F)
end Go.Proofs.YtiodboehkcmdnaaGreat.meanGiven
