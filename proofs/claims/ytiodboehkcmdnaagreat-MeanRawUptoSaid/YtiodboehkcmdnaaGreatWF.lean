/- Part 6 of the proof: what it says holds of the given program; no condition. -/
import Derived.Test.YtiodboehkcmdnaaGreatWE
set_option linter.all false
set_option exponentiation.threshold 3000
namespace Fth
open Go
theorem QF(e:AE):AE.mk e.op e.name e.tail e.type_ e.num e.args e.at_=e:=by cases e;rfl
mutual
def E5:AE→Nat
 | ⟨_,_,_,_,_,l,_⟩=>1+DL l
def DL:List AE→Nat
 | []=>0
 |e::l=>E5 e+DL l
end
theorem PT(e:AE):E5 e=1+DL e.args:=by cases e;simp [E5]
theorem Kk(l m:List AE):DL (l++m)=DL l+DL m:=by
 induction l with
 |nil=>simp [DL]
 |cons e l ih=>simp [DL,ih];omega
theorem QG(e:AE):DL [e]=E5 e:=by simp [DL]
theorem M3(e:AE):1≤E5 e:=by rw [PT];omega
theorem ON{l:List AE}{e:AE}(h:e∈l):E5 e≤DL l:=by
 induction l with
 |nil=>cases h
 |cons x l ih=>
  rcases List.mem_cons.1 h with rfl|h
  ·simp [DL]
  ·have:=ih h;simp only [DL];omega
theorem NL(l:List AE):l.length≤DL l:=by
 induction l with
 |nil=>simp
 |cons x l ih=>have:=M3 x;simp only [DL,List.length_cons];omega
def Ar(op:Int)(n:Nat):Prop:=
 (1≤op∧op≤6∧n=0)∨op=7∨(8≤op∧op≤13∧n=2)∨(14≤op∧op≤17∧n=1)∨(op=18∧n=2)∨(19≤op∧op≤20∧n=3)∨(21≤op∧op≤22∧n=2)
inductive WE:AE→Prop
 |mk (e:AE) (ha:Ar e.op e.args.length) (hn:e.op=1→Gn e.num) (ht:e.op=5∨e.op=21∨e.op=22→1≤e.type_∧e.type_≤3) (hs: ∀a∈e.args,WE a):WE e
theorem WE.ar{e:AE}(h:WE e):Ar e.op e.args.length:=by cases h;assumption
theorem WE.num{e:AE}(h:WE e):e.op=1→Gn e.num:=by cases h;assumption
theorem WE.typ{e:AE}(h:WE e):e.op=5∨e.op=21∨e.op=22→1≤e.type_∧e.type_≤3:=by cases h;assumption
theorem WE.sub{e:AE}(h:WE e): ∀a∈e.args,WE a:=by cases h;assumption
section
variable{ms:List Aj}
def Rd(ms:List Aj)(r:AC):Prop:=r.marks=ms∧0≤r.at_∧r.at_<ms.length
theorem V7(hM:GM ms){i:Nat}{m:Aj}(h:ms[i]?=some m):(m.kind≠4→i+1<ms.length)∧(m.kind=2→Gn m.num):=by
 obtain ⟨l,e,rfl,he,hl⟩:=hM
 rcases Nat.lt_or_ge i l.length with hi|hi
 ·rw [List.getElem?_append_left hi] at h
  have:=hl m (List.mem_of_getElem? h)
  exact ⟨fun _=>by simp;omega,this.2⟩
 ·rw [List.getElem?_append_right hi] at h
  have h0:i - l.length=0:=by
   rcases Nat.eq_zero_or_pos (i - l.length) with h'|h'
   ·exact h'
   ·rw [List.getElem?_eq_none (by simp;omega)] at h;cases h
  rw [h0] at h
  simp at h
  subst h
  exact ⟨fun h=>absurd he h,fun h=>by rw [he] at h;exact absurd h (by decide)⟩
theorem Ln{r:AC}(hr:Rd ms r):T (Bf r) fun m=>ms[r.at_.toNat]?=some m:=by
 obtain ⟨rfl,h0,h1⟩:=hr
 exact T.bind (E7 h0 h1) fun m hm=> .some hm
theorem OO{r:AC}{y:Int}(hr:Rd ms r)(hy:y≠0):T (B5 r y) fun r'=>Rd ms r'∧r'.at_=r.at_∧r'.why≠0:=by
 unfold B5
 refine T.cond (fun _=>T.bind (Ln (ms:=ms) (r:=AC.mk _ _ _ _ _ _) hr) fun m _=> .some ⟨hr,rfl,hy⟩) fun h=> .some ⟨hr,rfl,B1 h⟩
def Km(r:AC):AC:=⟨r.marks,r.at_+1,r.why,r.where_,r.l,r.nest⟩
theorem OU(hM:GM ms){r:AC}{s:List UInt8}(hr:Rd ms r):T (Br r s) fun b=>b=true→r.why=0∧r.at_+1<ms.length:=by
 unfold Br
 refine T.bind (Ln hr) fun m hm=>T.cond (fun hw=>?_) fun _=> .some fun h=>by cases h
 have hw:=CN hw
 have h2:=(V7 hM hm).1
 have:=hr.2.1
 refine T.cond (fun hk=> .some fun _=>⟨hw,?_⟩) fun _=>T.cond (fun hk=> .some fun _=>⟨hw,?_⟩) fun _=> .some fun h=>by cases h
 ·have:=h2 (by rw [CN hk];decide);omega
 ·have:=h2 (by rw [CN hk];decide);omega
variable(hlen:ms.length≤1000000000)
include hlen
theorem NY{r:AC}(hr:Rd ms r):(AC.mk r.marks (IntKind.i64.wrap (r.at_+1)) r.why r.where_ (Ai.mk r.l.text r.l.funcs r.l.arity r.l.nest) r.nest)=Km r:=by
 rw [wr (by have:=hr.2.1;omega) (by have:=hr.2.2;omega)];rfl
theorem OP(hM:GM ms){r:AC}{s:List UInt8}(hr:Rd ms r):T (B6 r s) fun x=>(x.1=true→r.why=0∧x.2=Km r∧Rd ms (Km r))∧(x.1=false→x.2=r):=by
 unfold B6
 refine T.bind (OU hM hr) fun b hb=>T.cond (fun h=> .some ⟨fun h=>(by cases h),fun _=>rfl⟩) fun h=>?_
 rw [NY hlen hr]
 have:=hb (by simpa using h)
 exact .some ⟨fun _=>⟨this.1,rfl,hr.1,by show 0≤r.at_+1;have:=hr.2.1;omega,this.2⟩,fun h=>by cases h⟩
theorem JI(hM:GM ms){r:AC}{s:List UInt8}(hr:Rd ms r):T (BB r s) fun r'=>Rd ms r'∧r.at_≤r'.at_∧(r'.why=0→r.why=0∧r'.at_=r.at_+1):=by
 unfold BB
 refine T.bind (OP hlen hM hr) fun x hx=>T.cond (fun h=>?_) fun h=>?_
 ·have e:=hx.2 (by simpa using h)
  rw [e]
  refine T.bind (OO hr (by decide)) fun r' hr'=> .some ⟨hr'.1,by rw [hr'.2.1];omega,fun h=>absurd h hr'.2.2⟩
 ·obtain ⟨h0,e,h1⟩:=hx.1 (by simpa using h)
  rw [e]
  exact .some ⟨h1,by show r.at_≤r.at_+1;omega,fun _=>⟨h0,rfl⟩⟩
theorem Qk(hM:GM ms){r:AC}(hr:Rd ms r):T (CM r) fun x=>Rd ms x.2∧r.at_≤x.2.at_∧(x.2.why=0→r.why=0∧x.2.at_=r.at_+1):=by
 unfold CM
 refine T.bind (Ln hr) fun m hm=>?_
 have bad:T (GL r m true) fun x=>Rd ms x.2∧r.at_≤x.2.at_∧(x.2.why=0→r.why=0∧x.2.at_=r.at_+1):=
  T.bind (OO hr (by decide)) fun r' hr'=> .some ⟨hr'.1,by simp only;rw [hr'.2.1];omega,fun h=>absurd h hr'.2.2⟩
 refine T.cond (fun _=>bad) fun hw=>?_
 cases hk:(m.kind != 0)
 ·unfold GL
  rw [NY hlen hr]
  have h2:=(V7 hM hm).1 (by rw [KH hk];decide)
  have:=hr.2.1
  exact .some ⟨⟨hr.1,by show 0≤r.at_+1;omega,by show r.at_+1<_;omega⟩,by show r.at_≤r.at_+1;omega,fun _=>⟨KH hw,rfl⟩⟩
 ·exact bad
theorem V8(hM:GM ms){r:AC}{N:Nat}(hN:5≤N)(hr:Rd ms r):T (CP N r) fun x=>Rd ms x.2∧r.at_≤x.2.at_∧(x.2.why=0→r.why=0∧x.2.at_=r.at_+1∧1≤x.1∧x.1≤3):=by
 have key: ∀(k:Nat) (i:Int),0≤i→i≤3→3 - i<k→T (CO k i r.marks r.at_ r.why r.where_ r.l.text r.l.funcs r.l.arity r.l.nest r.nest) fun x=>Rd ms x.2∧r.at_≤x.2.at_∧(x.2.why=0→r.why=0∧x.2.at_=r.at_+1∧1≤x.1∧x.1≤3):=by
  intro k
  induction k with
  |zero=>intro i _ _ _;omega
  |succ k ih=>
   intro i h0 h1 h2
   show T (DN (CO k) i r.marks r.at_ r.why r.where_ r.l.text r.l.funcs r.l.arity r.l.nest r.nest) _
   unfold DN
   refine T.cond (fun h=>?_) fun h=>?_
   ·have h:=CR h
    have h:i<3:=h
    refine T.bind (E7 h0 (by simpa using h)) fun s _=>T.bind (OP hlen hM (r:=r) hr) fun x hx=>T.cond (fun hb=>?_) fun hb=>?_
    ·obtain ⟨h3,e,h4⟩:=hx.1 hb
     rw [e,wr om om]
     exact .some ⟨h4,by show r.at_≤r.at_+1;omega,fun _=>⟨h3,rfl,by simp only;omega,by simp only;omega⟩⟩
    ·rw [hx.2 hb,wr om om]
     exact ih _ om om om
   ·exact T.bind (OO (r:=r) hr (by decide)) fun r' hr'=> .some ⟨hr'.1,by simp only;rw [hr'.2.1];omega,fun h=>absurd h hr'.2.2⟩
 exact key N 0 om om om
omit hlen
def EP(ms:List Aj)(r:AC)(x:AE×AC):Prop:=Rd ms x.2∧r.at_≤x.2.at_∧(x.2.why=0→r.why=0∧WE x.1∧(E5 x.1:Int)≤x.2.at_ - r.at_)
def Fu(ms:List Aj)(n:Nat)(r:AC)(lvl:Int):Prop:=lvl≤n∧(r.why=0→20*((ms.length:Int) - r.at_)+lvl≤n)
structure PSp(ms:List Aj)(n:Nat)(φ:AB):Prop where
 expr: ∀r,Rd ms r→Fu ms n r 18→T (φ.ref04_reader_expr r) (EP ms r)
 cons: ∀r,Rd ms r→Fu ms n r 17→T (φ.ref04_reader_cons r) (EP ms r)
 comp: ∀r,Rd ms r→Fu ms n r 16→T (φ.ref04_reader_comp r) (EP ms r)
 sum: ∀r,Rd ms r→Fu ms n r 15→T (φ.ref04_reader_sum r) (EP ms r)
 term: ∀r,Rd ms r→Fu ms n r 14→T (φ.ref04_reader_term r) (EP ms r)
 unit: ∀r,Rd ms r→Fu ms n r 13→T (φ.ref04_reader_unit r) (EP ms r)
 named: ∀r m,Rd ms r→r.why=0→Fu ms n r 12→T (φ.ref04_reader_named r m) fun x=>Rd ms x.2∧r.at_≤x.2.at_∧(x.2.why=0→WE x.1∧(E5 x.1:Int)≤x.2.at_ - r.at_+1)
 parts: ∀r l,Rd ms r→l.length≤3→Fu ms n r 19→T (φ.ref04_reader_parts r l) fun x=>Rd ms x.2∧r.at_≤x.2.at_∧(x.2.why=0→(l≠[]→r.why=0)∧x.1.length=l.length∧(∀a∈x.1,WE a)∧(DL x.1:Int)≤x.2.at_ - r.at_)
 branches: ∀r e,Rd ms r→Fu ms n r 19→T (φ.ref04_reader_branches r e) fun x=>Rd ms x.1∧r.at_≤x.1.at_∧(x.1.why=0→r.why=0∧WE x.2∧(E5 x.2:Int)≤x.1.at_ - r.at_+1)
theorem Fu.le{n m:Nat}{r r':AC}{l l':Int}(h:Fu ms n r l)(ha:r.at_≤r'.at_)(hw:r'.why=0→r.why=0)(hl:l'+n≤l+m):Fu ms m r' l':=by
 obtain ⟨h1,h2⟩:=h
 exact ⟨om,fun h=>by have:=h2 (hw h);omega⟩
theorem Fu.lt{n m:Nat}{r r':AC}{l l':Int}(h:Fu ms n r l)(ha:r.at_<r'.at_)(hw:r.why=0)(h1:r.at_<ms.length)(hl:l'+n≤l+20+m):Fu ms m r' l':=by
 obtain ⟨h1,h2⟩:=h
 have:=h2 hw
 exact ⟨om,fun _=>om⟩
theorem WE.two{op:Int}{a b:AE}{nm tl:List UInt8}{ty:Int}{z:Nat×Nat}{p:Int}(ho:(8≤op∧op≤13)∨op=18)(ha:WE a)(hb:WE b):WE ⟨op,nm,tl,ty,z,[a,b],p⟩:=by
 refine .mk _ ?_ (fun h=>?_) (fun h=>?_) fun x hx=>?_
 ·rcases ho with ho|ho
  ·exact .inr (.inr (.inl ⟨ho.1,ho.2,rfl⟩))
  ·exact .inr (.inr (.inr (.inr (.inl ⟨ho,rfl⟩))))
 ·simp only at h;omega
 ·simp only at h;omega
 ·simp at hx;rcases hx with rfl|rfl<;>assumption
section
variable(hlen:ms.length≤1000000000)(hM:GM ms){n:Nat}{φ:AB}(hφ:PSp ms n φ)
include hlen hM hφ
theorem AB3{r:AC}(hr:Rd ms r)(hf:Fu ms (n+1) r 17):T (DD φ n r) (EP ms r):=by
 unfold DD
 refine T.bind (hφ.comp r hr (hf.le om id om)) fun x hx=>T.bind (Ln hx.1) fun m _=>T.bind (OP hlen hM hx.1) fun y hy=>T.cond (fun hb=>?_) fun hb=>?_
 ·rw [hy.2 (by simpa using hb)]
  exact .some hx
 ·obtain ⟨h0,e,h1⟩:=hy.1 (by simpa using hb)
  rw [e]
  have h2:=hx.2.2 h0
  have h3:=hx.2.1
  refine T.bind (hφ.cons _ h1 (hf.lt (by show r.at_<x.2.at_+1;omega) h2.1 hr.2.2 om)) fun z hz=>?_
  refine .some (a:=_) ⟨hz.1,by have:=hz.2.1;simp only [Km] at this;simp only;omega,fun hw=>?_⟩
  have hz':=hz.2.2 hw
  refine ⟨h2.1,.two (.inr rfl) h2.2.1 hz'.2.1,?_⟩
  have hz1:=hz'.2.2
  simp only [Km] at hz1
  simp only [E5,DL]
  omega
theorem AB4{r:AC}(hr:Rd ms r)(hf:Fu ms (n+1) r 16):T (DE φ n r) (EP ms r):=by
 unfold DE
 refine T.bind (hφ.sum r hr (hf.le om id om)) fun x hx=>T.bind (Ln hx.1) fun m _=>T.bind (OU hM hx.1) fun b _=>?_
 have go: ∀op:Int,8≤op∧op≤13→T (Dv φ x m op) (EP ms r):=by
  intro op hop
  have yes: ∀y:AC,x.2.why=0→y=Km x.2→Rd ms y→T (EV φ x m op false y.marks y.at_ y.why y.where_ y.l.text y.l.funcs y.l.arity y.l.nest y.nest) (EP ms r):=by
   rintro y h0 rfl h1
   have h2:=hx.2.2 h0
   have h3:=hx.2.1
   refine T.cond (fun h=>by cases h) fun _=>T.bind (hφ.sum (Km x.2) h1 (hf.lt (by show r.at_<x.2.at_+1;omega) h2.1 hr.2.2 om)) fun z hz=>?_
   refine .some (a:=_) ⟨hz.1,by have:=hz.2.1;simp only [Km] at this;simp only;omega,fun hw=>?_⟩
   have hz':=hz.2.2 hw
   refine ⟨h2.1,.two (.inl hop) h2.2.1 hz'.2.1,?_⟩
   have hz1:=hz'.2.2
   simp only [Km] at hz1
   simp only [E5,DL]
   omega
  unfold Dv
  refine T.bind (OP hlen hM hx.1) fun y hy=>T.cond (fun hb=>?_) fun hb=>?_
  ·rw [hy.2 (by simpa using hb)]
   refine T.bind (OP hlen hM hx.1) fun y hy=>?_
   cases hb:y.1
   ·rw [hy.2 hb]
    exact .some hx
   ·obtain ⟨h0,e,h1⟩:=hy.1 hb
    exact yes _ h0 e (e▸h1)
  ·obtain ⟨h0,e,h1⟩:=hy.1 (by simpa using hb)
   exact yes _ h0 e (e▸h1)
 exact T.cond (fun _=>go 13 ⟨om,om⟩) fun _=>go 12 ⟨om,om⟩
theorem ACc{r:AC}(hr:Rd ms r)(hf:Fu ms (n+1) r 15):T (DX φ n r) (EP ms r):=by
 unfold DX
 refine T.bind (hφ.term r hr (hf.le om id om)) fun x hx=>?_
 have key: ∀(k:Nat) (x:AE×AC),EP ms r x→1≤k→(x.2.why=0→(ms.length:Int) - x.2.at_<k)→T (B4 φ k x.2.marks x.2.at_ x.2.why x.2.where_ x.2.l.text x.2.l.funcs x.2.l.arity x.2.l.nest x.2.nest x.1.op x.1.name x.1.tail x.1.type_ x.1.num x.1.args x.1.at_) (EP ms r):=by
  intro k
  induction k with
  |zero=>intro x _ _ _;omega
  |succ k ih=>
   intro x hx _ hk
   have go: ∀b,(b=true→x.2.why=0∧x.2.at_+1<ms.length)→T (EF φ x.2.marks x.2.at_ x.2.why x.2.where_ x.2.l.text x.2.l.funcs x.2.l.arity x.2.l.nest x.2.nest x.1.op x.1.name x.1.tail x.1.type_ x.1.num x.1.args x.1.at_ (B4 φ k) b) (EP ms r):=by
    intro b hb
    unfold EF
    refine T.cond (fun h=>?_) fun _=> .some (by rw [QF];exact hx)
    obtain ⟨h0,h1⟩:=hb h
    have h2:=hx.2.2 h0
    have h3:=hx.2.1
    have hk:=hk h0
    have hbr:Rd ms (Km x.2):=⟨hx.1.1,by show 0≤x.2.at_+1;have:=hx.1.2.1;omega,h1⟩
    refine T.bind (Ln (r:=x.2) hx.1) fun m _=>?_
    rw [NY hlen hx.1]
    refine T.bind (hφ.term (Km x.2) hbr (hf.lt (by show r.at_<x.2.at_+1;omega) h2.1 hr.2.2 om)) fun z hz=>?_
    have hz1:=hz.2.1
    simp only [Km] at hz1
    have fin: ∀op:Int,8≤op∧op≤13→T (EE x.1.op x.1.name x.1.tail x.1.type_ x.1.num x.1.args x.1.at_ (B4 φ k) m z op) (EP ms r):=by
     intro op hop
     unfold EE
     rw [QF]
     refine ih (⟨op,[],[],0,(0,0),[x.1,z.1],m.at_⟩,z.2) ⟨hz.1,by simp only;omega,fun hw=>?_⟩ ?_ fun hw=>?_
     ·have hz':=hz.2.2 hw
      have hz2:=hz'.2.2
      simp only [Km] at hz2
      exact ⟨h2.1,.two (.inl hop) h2.2.1 hz'.2.1,by simp only [E5,DL];omega⟩
     ·have:=hx.1.2.2;omega
     ·simp only;omega
    exact T.cond (fun _=>fin 9 ⟨om,om⟩) fun _=>fin 8 ⟨om,om⟩
   show T (DP φ (B4 φ k) x.2.marks x.2.at_ x.2.why x.2.where_ x.2.l.text x.2.l.funcs x.2.l.arity x.2.l.nest x.2.nest x.1.op x.1.name x.1.tail x.1.type_ x.1.num x.1.args x.1.at_) _
   unfold DP
   exact T.bind (OU hM (r:=x.2) hx.1) fun b hb=>T.cond (fun h=>go true fun _=>hb h) fun _=>T.bind (OU hM (r:=x.2) hx.1) fun b hb=>go b hb
 refine key n x hx (by have:=hf.1;omega) fun hw=>?_
 have h2:=hx.2.2 hw
 have h3:=hf.2 h2.1
 have:=hx.2.1
 have:=hr.2.2
 omega
theorem AB5{r:AC}(hr:Rd ms r)(hf:Fu ms (n+1) r 14):T (DF φ n r) (EP ms r):=by
 unfold DF
 refine T.bind (hφ.unit r hr (hf.le om id om)) fun x hx=>?_
 have key: ∀(k:Nat) (x:AE×AC),EP ms r x→1≤k→(x.2.why=0→(ms.length:Int) - x.2.at_<k)→T (Bx φ k x.2.marks x.2.at_ x.2.why x.2.where_ x.2.l.text x.2.l.funcs x.2.l.arity x.2.l.nest x.2.nest x.1.op x.1.name x.1.tail x.1.type_ x.1.num x.1.args x.1.at_) (EP ms r):=by
  intro k
  induction k with
  |zero=>intro x _ _ _;omega
  |succ k ih=>
   intro x hx _ hk
   have go: ∀b,(b=true→x.2.why=0∧x.2.at_+1<ms.length)→T (Dx φ x.2.marks x.2.at_ x.2.why x.2.where_ x.2.l.text x.2.l.funcs x.2.l.arity x.2.l.nest x.2.nest x.1.op x.1.name x.1.tail x.1.type_ x.1.num x.1.args x.1.at_ (Bx φ k) b) (EP ms r):=by
    intro b hb
    unfold Dx
    refine T.cond (fun h=>?_) fun _=> .some (by rw [QF];exact hx)
    obtain ⟨h0,h1⟩:=hb h
    have h2:=hx.2.2 h0
    have h3:=hx.2.1
    have hk:=hk h0
    have hbr:Rd ms (Km x.2):=⟨hx.1.1,by show 0≤x.2.at_+1;have:=hx.1.2.1;omega,h1⟩
    refine T.bind (Ln (r:=x.2) hx.1) fun m _=>?_
    rw [NY hlen hx.1]
    refine T.bind (hφ.unit (Km x.2) hbr (hf.lt (by show r.at_<x.2.at_+1;omega) h2.1 hr.2.2 om)) fun z hz=>?_
    have hz1:=hz.2.1
    simp only [Km] at hz1
    have fin: ∀op:Int,8≤op∧op≤13→T (Dw x.1.op x.1.name x.1.tail x.1.type_ x.1.num x.1.args x.1.at_ (Bx φ k) m z op) (EP ms r):=by
     intro op hop
     unfold Dw
     rw [QF]
     refine ih (⟨op,[],[],0,(0,0),[x.1,z.1],m.at_⟩,z.2) ⟨hz.1,by simp only;omega,fun hw=>?_⟩ ?_ fun hw=>?_
     ·have hz':=hz.2.2 hw
      have hz2:=hz'.2.2
      simp only [Km] at hz2
      exact ⟨h2.1,.two (.inl hop) h2.2.1 hz'.2.1,by simp only [E5,DL];omega⟩
     ·have:=hx.1.2.2;omega
     ·simp only;omega
    exact T.cond (fun _=>fin 11 ⟨om,om⟩) fun _=>fin 10 ⟨om,om⟩
   show T (C9 φ (Bx φ k) x.2.marks x.2.at_ x.2.why x.2.where_ x.2.l.text x.2.l.funcs x.2.l.arity x.2.l.nest x.2.nest x.1.op x.1.name x.1.tail x.1.type_ x.1.num x.1.args x.1.at_) _
   unfold C9
   exact T.bind (OU hM (r:=x.2) hx.1) fun b hb=>T.cond (fun h=>go true fun _=>hb h) fun _=>T.bind (OU hM (r:=x.2) hx.1) fun b hb=>go b hb
 refine key n x hx (by have:=hf.1;omega) fun hw=>?_
 have h2:=hx.2.2 hw
 have h3:=hf.2 h2.1
 have:=hx.2.1
 have:=hr.2.2
 omega
omit hφ hM hlen in
theorem AAp(s:List UInt8):T (IB s) fun o=>o=0∨(2≤o∧o≤5)∨(14≤o∧o≤17):=by
 unfold IB
 repeat (first|exact T.some om|refine T.cond (fun _=>?_) (fun _=>?_))
theorem AB6{r:AC}(hr:Rd ms r)(hf:Fu ms (n+1) r 13):T (DG φ n r) (EP ms r):=by
 unfold DG
 have h1:=hr.2.1
 have h2:=hr.2.2
 refine T.bind (Ln hr) fun m hm=>T.cond (fun h=> .some ⟨hr,by simp only;omega,fun h'=>absurd h' (MJ h)⟩) fun hw=>?_
 have hw:=KH hw
 have hm':=V7 hM hm
 refine T.cond (fun hk=>?_) fun hk2=>T.cond (fun hk=>?_) fun hk0=>?_
 ·rw [NY hlen hr]
  have hk:=CN hk
  have h3:=hm'.1 (by rw [hk];decide)
  refine .some (a:=_) ⟨⟨hr.1,by show 0≤r.at_+1;omega,by show r.at_+1<_;omega⟩,by show r.at_≤r.at_+1;omega,fun _=>⟨hw,.mk _ (.inl ⟨by simp,by simp,rfl⟩) (fun _=>hm'.2 hk) (fun h=>by simp at h) (fun a h=>by simp at h),?_⟩⟩
  simp only [E5,DL,Km];omega
 ·rw [NY hlen hr]
  have hk:=CN hk
  have h3:=hm'.1 (by rw [hk];decide)
  have hbr:Rd ms (Km r):=⟨hr.1,by show 0≤r.at_+1;omega,by show r.at_+1<_;omega⟩
  refine T.bind (hφ.named (Km r) m hbr hw (hf.lt (by show r.at_<r.at_+1;omega) hw h2 om)) fun x hx=>?_
  have hx1:=hx.2.1
  simp only [Km] at hx1
  refine .some (a:=_) ⟨hx.1,by simp only;omega,fun h=>⟨hw,(hx.2.2 h).1,?_⟩⟩
  have:=(hx.2.2 h).2
  simp only [Km] at this
  simp only;omega
 ·have hk2:=B1 hk2
  have hk0:=B1 hk0
  refine T.bind (OP hlen hM hr) fun x hx=>T.cond (fun hb=>?_) fun hb=>?_
  ·obtain ⟨_,e,hbr⟩:=hx.1 hb
   rw [e]
   refine T.bind (hφ.expr (Km r) hbr (hf.lt (by show r.at_<r.at_+1;omega) hw h2 om)) fun y hy=>T.bind (JI hlen hM hy.1) fun r' hr'=>?_
   have hy1:=hy.2.1
   simp only [Km] at hy1
   refine .some (a:=_) ⟨hr'.1,by have:=hr'.2.1;simp only;omega,fun h=>?_⟩
   have h3:=hr'.2.2 h
   have h4:=hy.2.2 h3.1
   have h5:=h4.2.2
   simp only [Km] at h5
   exact ⟨hw,h4.2.1,by simp only;omega⟩
  ·have bad:T (DQ φ n m x true) (EP ms r):=by
    unfold DQ
    refine T.cond (fun _=>?_) fun h=>by cases h
    rw [hx.2 hb]
    exact T.bind (OO hr (by decide)) fun r' hr'=> .some ⟨hr'.1,by simp only;rw [hr'.2.1];omega,fun h=>absurd h hr'.2.2⟩
   refine T.cond (fun _=>bad) fun hk1=>?_
   have hk1:=KH hk1
   have h3:=hm'.1 (by rw [hk1];decide)
   have hbr:Rd ms (Km r):=⟨hr.1,by show 0≤r.at_+1;omega,by show r.at_+1<_;omega⟩
   obtain ⟨o,ho,ho'⟩:=AAp m.text
   refine T.eq ho ?_
   cases hz:(o==0)
   ·have hz:=B1 hz
    unfold DQ
    refine T.cond (fun h=>by cases h) fun _=>T.eq ho ?_
    unfold FF
    rw [hx.2 hb,NY hlen hr]
    have fin: ∀(r':AC) (ty:Int) (l:List AE),Rd ms r'→r.at_≤r'.at_→(r'.why=0→Ar o l.length∧(o=5→1≤ty∧ty≤3)∧(∀a∈l,WE a)∧(1+DL l:Int)≤r'.at_ - r.at_)→
      T (GN o [] [] (0,0) m.at_ r'.marks r'.at_ r'.why r'.where_ r'.l.text r'.l.funcs r'.l.arity r'.l.nest r'.nest ty l) (EP ms r):=by
     intro r' ty l h1 h2 h3
     refine .some (a:=_) ⟨h1,h2,fun h=>⟨hw,?_,?_⟩⟩
     ·obtain ⟨ha,ht,hl,_⟩:=h3 h
      exact .mk _ ha (fun h=>by simp only at h;omega) (fun h=>ht (by simp only at h;omega)) hl
     ·have:=(h3 h).2.2.2
      simp only [E5];omega
    have j4:14≤o∧o≤17→T (CU φ (x.1,r) o [] [] 0 (0,0) m.at_ true) (EP ms r):=by
     intro ho2
     unfold CU
     refine T.cond (fun _=>?_) fun h=>by cases h
     rw [NY hlen hr]
     refine T.bind (JI hlen hM hbr) fun r1 hr1=>?_
     have e1:=hr1.2.1
     simp only [Km] at e1
     refine T.bind (hφ.expr r1 hr1.1 (hf.lt om hw h2 om)) fun y hy=>T.bind (JI hlen hM hy.1) fun r2 hr2=>fin r2 0 [y.1] hr2.1 (by have:=hr2.2.1;have:=hy.2.1;omega) fun h=>?_
     have h5:=hr2.2.2 h
     have h6:=hy.2.2 h5.1
     refine ⟨.inr (.inr (.inr (.inl ⟨ho2.1,ho2.2,rfl⟩))),fun h=>om,fun a ha=>by simp at ha;subst ha;exact h6.2.1,?_⟩
     have:=h6.2.2
     rw [QG];omega
    have ex:x=(x.1,r):=by rw [←hx.2 hb]
    rw [ex]
    refine T.cond (fun h5=>?_) fun h5=>?_
    ·have h5:=CN h5
     have:=hf.1
     refine T.bind (V8 hlen hM om hbr) fun y hy=>fin y.2 y.1 [] hy.1 (by have:=hy.2.1;simp only [Km] at this;omega) fun h=>?_
     have h6:=hy.2.2 h
     refine ⟨.inl ⟨om,om,rfl⟩,fun _=>⟨h6.2.2.1,h6.2.2.2⟩,fun a h=>by simp at h,?_⟩
     have:=h6.2.1
     simp only [Km] at this
     simp only [DL];omega
    ·have h5:=B1 h5
     refine T.cond (fun h=>by rw [h];exact j4 (by have:=CN h;omega)) fun hn1=>T.cond (fun h=>by rw [h];exact j4 (by have:=CN h;omega)) fun hn2=>T.cond (fun h=>by rw [h];exact j4 (by have:=CN h;omega)) fun hn3=>?_
     cases h17:(o==17)
     ·have:=B1 hn1;have:=B1 hn2;have:=B1 hn3;have:=B1 h17
      unfold CU
      refine T.cond (fun h=>by cases h) fun _=>?_
      dsimp only
      rw [wr (x:=r.at_+1) om om]
      refine fin (Km r) 0 [] hbr (by show r.at_≤r.at_+1;omega) fun _=>⟨.inl ⟨om,om,rfl⟩,fun h=>om,fun a h=>by simp at h,by simp only [DL,Km];omega⟩
     ·exact j4 (by have:=CN h17;omega)
   ·exact bad
theorem AAq{r:AC}{m:Aj}(hr:Rd ms r)(hw:r.why=0)(hf:Fu ms (n+1) r 12):T (Cp φ n r m) fun x=>Rd ms x.2∧r.at_≤x.2.at_∧(x.2.why=0→WE x.1∧(E5 x.1:Int)≤x.2.at_ - r.at_+1):=by
 unfold Cp
 have h2:=hr.2.2
 have h1:=hr.2.1
 refine T.bind (OP hlen hM hr) fun x hx=>T.cond (fun hb=>?_) fun hb=>?_
 ·rw [hx.2 (by simpa using hb)]
  exact .some ⟨hr,by simp only;omega,fun _=>⟨.mk _ (.inl ⟨by simp,by simp,rfl⟩) (fun h=>by simp at h) (fun h=>by simp at h) (fun a h=>by simp at h),by simp only [E5,DL];omega⟩⟩
 ·obtain ⟨_,e,hbr⟩:=hx.1 (by simpa using hb)
  have key: ∀(k:Nat) (s:AC) (l:List AE),Rd ms s→r.at_+1≤s.at_→1≤k→(s.why=0→(ms.length:Int) - s.at_<k)→(s.why=0→(∀a∈l,WE a)∧(DL l:Int)≤s.at_ - r.at_)→
    T (Bl φ m k s.marks s.at_ s.why s.where_ s.l.text s.l.funcs s.l.arity s.l.nest s.nest l) fun x=>Rd ms x.2∧r.at_≤x.2.at_∧(x.2.why=0→WE x.1∧(E5 x.1:Int)≤x.2.at_ - r.at_+1):=by
   intro k
   induction k with
   |zero=>intro s l _ _ _ _;omega
   |succ k ih=>
    intro s l hs hat _ hk hl
    show T (Cj φ m (Bl φ m k) s.marks s.at_ s.why s.where_ s.l.text s.l.funcs s.l.arity s.l.nest s.nest l) _
    unfold Cj
    have fin:T (Db φ m s.marks s.at_ s.why s.where_ s.l.text s.l.funcs s.l.arity s.l.nest s.nest l (Bl φ m k) false) fun x=>Rd ms x.2∧r.at_≤x.2.at_∧(x.2.why=0→WE x.1∧(E5 x.1:Int)≤x.2.at_ - r.at_+1):=by
     unfold Db
     refine T.cond (fun h=>by cases h) fun _=>T.bind (JI hlen hM (r:=s) hs) fun r' hr'=> .some ⟨hr'.1,by have:=hr'.2.1;simp only;omega,fun h=>?_⟩
     have h3:=hr'.2.2 h
     have h4:=hl h3.1
     exact ⟨.mk _ (.inr (.inl rfl)) (fun h=>by simp at h) (fun h=>by simp at h) h4.1,by simp only [E5];omega⟩
    refine T.cond (fun hsw=>?_) fun _=>fin
    have hsw:=CN hsw
    refine T.bind (OU hM (r:=s) hs) fun b _=>?_
    cases b
    ·have go: ∀s':AC,Rd ms s'→s.at_≤s'.at_→T (Da φ l (Bl φ m k) s'.marks s'.at_ s'.why s'.where_ s'.l.text s'.l.funcs s'.l.arity s'.l.nest s'.nest) fun x=>Rd ms x.2∧r.at_≤x.2.at_∧(x.2.why=0→WE x.1∧(E5 x.1:Int)≤x.2.at_ - r.at_+1):=by
      intro s' hs' hle
      unfold Da
      have h5:=hs.2.2
      refine T.bind (hφ.expr s' hs' (hf.lt om hw h2 om)) fun y hy=>?_
      have hy1:=hy.2.1
      have hll':=hl hsw
      have hlen':=NL l
      refine T.bind (GC om (by simp;omega)) fun _ _=>ih y.2 (l++[y.1]) hy.1 om ?_ (fun h=>?_) fun h=>?_
      ·have:=hk hsw;omega
      ·have:=hy.2.2 h;have:=M3 y.1;have:=hk hsw;omega
      ·have h6:=hy.2.2 h
       refine ⟨fun a ha=>?_,?_⟩
       ·rcases List.mem_append.1 ha with ha|ha
        ·exact hll'.1 a ha
        ·simp at ha;subst ha;exact h6.2.1
       ·rw [Kk,QG];omega
     refine T.cond (fun _=>T.cond (fun _=>T.bind (JI hlen hM (r:=s) hs) fun s' hs'=>go s' hs'.1 hs'.2.1) fun _=>go s hs om) fun h=>by cases h
    ·exact fin
  rw [e]
  refine key n (Km r) [] hbr (by show r.at_+1≤r.at_+1;omega) (by have:=hf.1;omega) (fun _=>?_) fun _=>⟨fun a h=>by simp at h,by simp only [DL,Km];omega⟩
  have:=hf.2 hw
  simp only [Km];omega
theorem AAr{r:AC}{ws:List (List UInt8)}(hr:Rd ms r)(hl3:ws.length≤3)(hf:Fu ms (n+1) r 19):T (Cm φ n r ws) fun x=>Rd ms x.2∧r.at_≤x.2.at_∧(x.2.why=0→(ws≠[]→r.why=0)∧x.1.length=ws.length∧(∀a∈x.1,WE a)∧(DL x.1:Int)≤x.2.at_ - r.at_):=by
 unfold Cm
 have key: ∀(k i:Nat) (l:List AE) (s:AC),i≤ws.length→ws.length<i+k→l.length=i→Rd ms s→r.at_≤s.at_→(s.why=0→r.why=0∧(∀a∈l,WE a)∧(DL l:Int)≤s.at_ - r.at_)→
   T (By φ ws k l (i:Int) s.marks s.at_ s.why s.where_ s.l.text s.l.funcs s.l.arity s.l.nest s.nest) fun x=>Rd ms x.2∧r.at_≤x.2.at_∧(x.2.why=0→(ws≠[]→r.why=0)∧x.1.length=ws.length∧(∀a∈x.1,WE a)∧(DL x.1:Int)≤x.2.at_ - r.at_):=by
  intro k
  induction k with
  |zero=>intro i l s _ _;omega
  |succ k ih=>
   intro i l s hi hk hli hs hat hw
   show T (Ci φ ws (By φ ws k) l i s.marks s.at_ s.why s.where_ s.l.text s.l.funcs s.l.arity s.l.nest s.nest) _
   unfold Ci
   refine T.cond (fun h=>?_) fun h=>?_
   ·have h:=CR h
    have go: ∀s':AC,Rd ms s'→s.at_≤s'.at_→(s'.why=0→s.why=0)→T (DZ φ l i (By φ ws k) s'.marks s'.at_ s'.why s'.where_ s'.l.text s'.l.funcs s'.l.arity s'.l.nest s'.nest) fun x=>Rd ms x.2∧r.at_≤x.2.at_∧(x.2.why=0→(ws≠[]→r.why=0)∧x.1.length=ws.length∧(∀a∈x.1,WE a)∧(DL x.1:Int)≤x.2.at_ - r.at_):=by
     intro s' hs' hle hw'
     unfold DZ
     refine T.bind (hφ.expr s' hs' (hf.le om (fun h=>(hw (hw' h)).1) om)) fun y hy=>T.bind (GC om (by simp;omega)) fun _ _=>?_
     rw [wr om om,show (i:Int)+1=((i+1:Nat):Int) by omega]
     refine ih (i+1) (l++[y.1]) y.2 om om (by simp;omega) hy.1 (by have:=hy.2.1;omega) fun h=>?_
     have h1:=hy.2.2 h
     have h2:=hw (hw' h1.1)
     refine ⟨h2.1,fun a ha=>?_,?_⟩
     ·rcases List.mem_append.1 ha with ha|ha
      ·exact h2.2.1 a ha
      ·simp at ha;subst ha;exact h1.2.1
     ·rw [Kk,QG];have:=h1.2.2;have:=h2.2.2;omega
    refine T.bind (E7 om h) fun w _=>T.cond (fun _=>T.bind (JI hlen hM (r:=s) hs) fun s' hs'=>go s' hs'.1 hs'.2.1 fun h=>(hs'.2.2 h).1) fun _=>go s hs om id
   ·have h:=Dj h
    exact .some ⟨hs,hat,fun h'=>⟨fun _=>(hw h').1,by simp only;omega,(hw h').2.1,(hw h').2.2⟩⟩
 cases ws with
 |nil=>
  obtain ⟨n,rfl⟩: ∃m,n=m+1:=⟨n - 1,by have:=hf.1;omega⟩
  exact .some ⟨hr,by simp only;omega,fun _=>⟨fun h=>absurd rfl h,rfl,fun a h=>(by cases h),by simp [DL]⟩⟩
 |cons w ws=>
  rcases Decidable.em (r.why=0) with h|h
  ·exact key n 0 [] r om (by have:=hf.1;omega) rfl hr om fun _=>⟨h,fun a h=>(by cases h),by simp [DL]⟩
  ·exact key n 0 [] r om (by have:=hf.1;omega) rfl hr om fun h'=>absurd h' h
theorem Xi{r:AC}{e:AE}(hr:Rd ms r)(hf:Fu ms (n+1) r 19):T (CD φ n r e) fun x=>Rd ms x.1∧r.at_≤x.1.at_∧(x.1.why=0→r.why=0∧WE x.2∧(E5 x.2:Int)≤x.1.at_ - r.at_+1):=by
 unfold CD
 refine T.bind (hφ.expr r hr (hf.le om id om)) fun a ha=>T.bind (JI hlen hM ha.1) fun r1 h1=>T.bind (JI hlen hM h1.1) fun r2 h2=>T.bind (JI hlen hM h2.1) fun r3 h3=>?_
 have a1:=ha.2.1;have b1:=h1.2.1;have b2:=h2.2.1;have b3:=h3.2.1
 refine T.bind (hφ.expr r3 h3.1 (hf.le om (fun h=>(ha.2.2 (h1.2.2 (h2.2.2 (h3.2.2 h).1).1).1).1) om)) fun b hb=>T.bind (JI hlen hM hb.1) fun r4 h4=>T.bind (Qk hlen hM h4.1) fun x5 h5=>T.bind (JI hlen hM h5.1) fun r6 h6=>T.bind (Qk hlen hM h6.1) fun x7 h7=>T.bind (JI hlen hM h7.1) fun r8 h8=>?_
 have a2:=hb.2.1;have b4:=h4.2.1;have b5:=h5.2.1;have b6:=h6.2.1;have b7:=h7.2.1;have b8:=h8.2.1
 have back:r8.why=0→b.2.why=0:=fun h=>(h4.2.2 (h5.2.2 (h6.2.2 (h7.2.2 (h8.2.2 h).1).1).1).1).1
 have back2:r3.why=0→a.2.why=0:=fun h=>(h1.2.2 (h2.2.2 (h3.2.2 h).1).1).1
 refine T.bind (hφ.expr r8 h8.1 (hf.le om (fun h=>(ha.2.2 (back2 (hb.2.2 (back h)).1)).1) om)) fun c hc=>?_
 have a3:=hc.2.1
 refine .some (a:=_) ⟨hc.1,by simp only;omega,fun h=>?_⟩
 have p3:=hc.2.2 h
 have p2:=hb.2.2 (back p3.1)
 have p1:=ha.2.2 (back2 p2.1)
 have e1:=p1.2.2;have e2:=p2.2.2;have e3:=p3.2.2
 refine ⟨p1.1,.mk _ (.inr (.inr (.inr (.inr (.inr (.inl ⟨by simp,by simp,rfl⟩)))))) (fun h=>by simp at h) (fun h=>by simp at h) fun x hx=>?_,?_⟩
 ·simp at hx
  rcases hx with rfl|rfl|rfl
  ·exact p1.2.1
  ·exact p2.2.1
  ·exact p3.2.1
 ·simp only [E5,DL];omega
theorem AB7{r:AC}(hr:Rd ms r)(hf:Fu ms (n+1) r 18):T (DC φ n r) (EP ms r):=by
 unfold DC
 have hr1:=hr.2.1
 have hr2:=hr.2.2
 refine T.bind (Ln hr) fun m hm=>?_
 have out: ∀(bd:Bool) (y:AC) (e:AE),Rd ms y→r.at_≤y.at_→(y.why=0→r.why=0∧WE e∧(E5 e:Int)≤y.at_ - r.at_)→
   T (FE bd y.marks y.at_ y.why y.where_ y.l.text y.l.funcs y.l.arity y.l.nest y.nest e.op e.name e.tail e.type_ e.num e.args e.at_) (EP ms r):=by
  intro bd y e hy hat hw
  unfold FE Hr
  rw [QF]
  exact T.cond (fun _=> .some ⟨hy,hat,hw⟩) fun _=> .some ⟨hy,hat,hw⟩
 have j7: ∀(bd:Bool) (y:AC) (op:Int),21≤op∧op≤22→Rd ms y→y.at_=r.at_→y.why=0→r.why=0→Rd ms (Km y)→∀nn:Int,T (Dq φ n m bd y.marks y.at_ y.why y.where_ y.l.text y.l.funcs y.l.arity y.l.nest nn op) (EP ms r):=by
  intro bd y op hop hy hat hw hrw hby nn
  unfold Dq
  rw [wr (x:=y.at_+1) (by have:=hy.2.1;omega) (by have:=hy.2.2;omega)]
  have hby':Rd ms (AC.mk y.marks (y.at_+1) y.why y.where_ (Ai.mk y.l.text y.l.funcs y.l.arity y.l.nest) nn):=hby
  refine T.bind (Qk hlen hM hby') fun x hx=>?_
  have h1:=hf.1
  refine T.bind (V8 hlen hM om hx.1) fun t ht=>?_
  have x1:=hx.2.1;have t1:=ht.2.1
  simp only at x1
  refine T.bind (hφ.parts t.2 _ ht.1 (by simp) (hf.lt om hrw hr2 om)) fun l hl=>?_
  have l1:=hl.2.1
  refine out bd l.2 ⟨op,x.1.text,[],t.1,(0,0),l.1,m.at_⟩ hl.1 om fun h=>?_
  have p:=hl.2.2 h
  have q:=ht.2.2 (p.1 (by simp))
  refine ⟨hrw,.mk _ (.inr (.inr (.inr (.inr (.inr (.inr ⟨hop.1,hop.2,p.2.1⟩)))))) (fun h=>by simp only at h;omega) (fun _=>⟨q.2.2.1,q.2.2.2⟩) p.2.2.1,?_⟩
  have:=p.2.2.2
  simp only [E5];omega
 have j4: ∀(bd:Bool) (y:AC),Rd ms y→y.at_=r.at_→y.why=0→r.why=0→Rd ms (Km y)→∀nn:Int,T (Dr φ n m bd y.marks y.at_ y.why y.where_ y.l.text y.l.funcs y.l.arity y.l.nest nn) (EP ms r):=by
  intro bd y hy hat hw hrw hby nn
  unfold Dr
  have hby':Rd ms (AC.mk y.marks (y.at_+1) y.why y.where_ (Ai.mk y.l.text y.l.funcs y.l.arity y.l.nest) nn):=hby
  refine T.cond (fun _=>?_) fun _=>T.cond (fun _=>?_) fun _=>T.cond (fun _=>j7 bd y 22 ⟨om,om⟩ hy hat hw hrw hby nn) fun _=>j7 bd y 21 ⟨om,om⟩ hy hat hw hrw hby nn
  ·rw [wr (x:=y.at_+1) (by have:=hy.2.1;omega) (by have:=hy.2.2;omega)]
   refine T.bind (hφ.parts _ _ hby' (by simp) (hf.lt (by show r.at_<y.at_+1;omega) hrw hr2 om)) fun l hl=>?_
   have l1:=hl.2.1
   simp only at l1
   refine out bd l.2 ⟨19,[],[],0,(0,0),l.1,m.at_⟩ hl.1 om fun h=>?_
   have p:=hl.2.2 h
   refine ⟨hrw,.mk _ (.inr (.inr (.inr (.inr (.inr (.inl ⟨by simp,by simp,p.2.1⟩)))))) (fun h=>by simp at h) (fun h=>by simp at h) p.2.2.1,?_⟩
   have:=p.2.2.2
   simp only at this
   simp only [E5];omega
  ·rw [wr (x:=y.at_+1) (by have:=hy.2.1;omega) (by have:=hy.2.2;omega)]
   refine T.bind (hφ.branches _ _ hby' (hf.lt (by show r.at_<y.at_+1;omega) hrw hr2 om)) fun l hl=>?_
   have l1:=hl.2.1
   simp only at l1
   refine out bd l.1 l.2 hl.1 om fun h=>?_
   have p:=hl.2.2 h
   have:=p.2.2
   simp only at this
   exact ⟨hrw,p.2.1,om⟩
 have j2: ∀(bd:Bool) (y:AC),Rd ms y→y.at_=r.at_→(y.why=0→r.why=0)→(bd=true→y.why=0→Rd ms (Km y))→T (Dt φ n m bd y.marks y.at_ y.why y.where_ y.l.text y.l.funcs y.l.arity y.l.nest y.nest) (EP ms r):=by
  intro bd y hy hat hw hb
  unfold Dt
  refine T.cond (fun h=> .some ⟨hy,by simp only;omega,fun h'=>absurd h' (MJ h)⟩) fun h=>?_
  have h:=KH h
  have hrw:=hw h
  refine T.cond (fun hbd=>?_) fun hbd=>?_
  ·refine T.bind (OU hM (r:=y) hy) fun c hc=>?_
   unfold Ds
   refine T.cond (fun _=>?_) fun hc'=>T.cond (fun h'=>by rw [h'] at hbd;cases hbd) fun _=>?_
   ·refine T.bind (hφ.cons y hy (hf.le om (fun _=>hrw) om)) fun z hz=> .some ⟨hz.1,by have:=hz.2.1;simp only;omega,fun h=>?_⟩
    have:=hz.2.2 h
    exact ⟨hrw,this.2.1,by have:=this.2.2;simp only;omega⟩
   ·have hc1:=hc (by simpa using hc')
    exact j4 bd y hy hat h hrw ⟨hy.1,by show 0≤y.at_+1;omega,hc1.2⟩ y.nest
  ·have hbd:bd=true:=by simpa using hbd
   unfold Ds
   refine T.cond (fun h=>by cases h) fun _=>T.cond (fun _=>j4 bd y hy hat h hrw (hb hbd h) _) fun h'=>by rw [h'] at hbd;cases hbd
 have j8: ∀(bd c:Bool),(bd=true→r.why=0∧r.at_+1<ms.length)→T (Du φ n r m bd c) (EP ms r):=by
  intro bd c hb
  unfold Du
  refine T.cond (fun _=>T.bind (OO hr (by decide)) fun y hy=>j2 bd y hy.1 hy.2.1 (fun h=>absurd h hy.2.2) fun _ h=>absurd h hy.2.2) fun _=>j2 bd r hr rfl id fun h _=>⟨hr.1,by show 0≤r.at_+1;omega,(hb h).2⟩
 have j1: ∀(bd:Bool),(bd=true→r.why=0∧r.at_+1<ms.length)→T (DO φ n r m bd) (EP ms r):=by
  intro bd hb
  unfold DO
  exact T.cond (fun _=>j8 bd _ hb) fun _=>j8 bd _ hb
 refine T.bind (OU hM hr) fun b hb=>T.cond (fun h=>j1 true fun _=>hb h) fun _=>T.bind (OU hM hr) fun b hb=>T.cond (fun h=>j1 true fun _=>hb h) fun _=>T.bind (OU hM hr) fun b hb=>j1 b hb
omit hφ in
theorem psp: ∀n,PSp ms n (AB.at n)
 |0=>⟨fun r _ h=>absurd h.1 (by decide),fun r _ h=>absurd h.1 (by decide),fun r _ h=>absurd h.1 (by decide),fun r _ h=>absurd h.1 (by decide),fun r _ h=>absurd h.1 (by decide),fun r _ h=>absurd h.1 (by decide),fun r _ _ _ h=>absurd h.1 (by decide),fun r _ _ _ h=>absurd h.1 (by decide),fun r _ _ h=>absurd h.1 (by decide)⟩
 |n+1=>
  have hp:=psp n
  ⟨fun _ hr hf=>AB7 hlen hM hp hr hf,fun _ hr hf=>AB3 hlen hM hp hr hf,fun _ hr hf=>AB4 hlen hM hp hr hf,fun _ hr hf=>ACc hlen hM hp hr hf,fun _ hr hf=>AB5 hlen hM hp hr hf,fun _ hr hf=>AB6 hlen hM hp hr hf,
   fun _ _ hr hw hf=>AAq hlen hM hp hr hw hf,fun _ _ hr hl hf=>AAr hlen hM hp hr hl hf,fun _ _ hr hf=>Xi hlen hM hp hr hf⟩
end
end
end Fth
namespace Fth
open Go
structure WFn(f:AO):Prop where
 body:WE f.body
 size:E5 f.body≤1000000
 pars:f.params.length≤1000000
 typ:1≤f.type_∧f.type_≤3
 ptyp: ∀x∈f.params,1≤x.type_∧x.type_≤3
structure WP(p:AM):Prop where
 fns: ∀f∈p.funcs,WFn f
 len:p.funcs.length≤50000
structure WFt(f:AO):Prop where
 body:WE f.body
 size:E5 f.body≤900000
 pars:f.params.length≤50000
 typ:1≤f.type_∧f.type_≤3
 ptyp: ∀x∈f.params,1≤x.type_∧x.type_≤3
structure WPt(p:AM):Prop where
 fns: ∀f∈p.funcs,WFt f
 len:p.funcs.length≤49000
theorem WPt.wp{p:AM}(h:WPt p):WP p:=
 ⟨fun f hf=>let g:=h.fns f hf;⟨g.body,Nat.le_trans g.size (by decide),Nat.le_trans g.pars (by decide),g.typ,g.ptyp⟩,Nat.le_trans h.len (by decide)⟩
section
variable{ms:List Aj}(hlen:ms.length≤40000)(hM:GM ms){N:Nat}(hN:1000000≤N)
include hlen hM hN
theorem AB8{r:AC}{k:Int}(hr:Rd ms r):T (Cz N r k) fun x=>Rd ms x.2∧r.at_≤x.2.at_∧(x.2.why=0→r.why=0∧r.at_<x.2.at_∧WFt x.1):=by
 have hlen':ms.length≤1000000000:=om
 have hps:=psp hlen' hM N
 have fu: ∀r,Rd ms r→Fu ms N r 18:=fun r hr=>⟨om,fun _=>by have:=hr.2.1;omega⟩
 have j1: ∀s:AC,Rd ms s→r.at_≤s.at_→(s.why=0→r.why=0)→T (EI N s.marks s.at_ s.why s.where_ s.l.text s.l.funcs s.l.arity s.l.nest s.nest) fun x=>Rd ms x.2∧r.at_≤x.2.at_∧(x.2.why=0→r.why=0∧r.at_<x.2.at_∧WFt x.1):=by
  intro s hs hat hw
  unfold EI
  refine T.bind (Qk hlen' hM (r:=s) hs) fun x hx=>T.bind (JI hlen' hM hx.1) fun s1 h1=>?_
  have x1:=hx.2.1;have a1:=h1.2.1
  have hw1:s1.why=0→r.why=0∧r.at_<s1.at_:=fun h=>by
   have p:=h1.2.2 h
   have q:=hx.2.2 p.1
   exact ⟨hw q.1,by have:=q.2;omega⟩
  have key: ∀(k:Nat) (s:AC) (l:List AJ),Rd ms s→s1.at_≤s.at_→(s.why=0→s1.why=0)→1≤k→(s.why=0→(ms.length:Int) - s.at_<k)→(s.why=0→l.length≤s.at_)→(s.why=0→∀x∈l,1≤x.type_∧x.type_≤3)→
    T (Bj N x k s.marks s.at_ s.why s.where_ s.l.text s.l.funcs s.l.arity s.l.nest s.nest l) fun x=>Rd ms x.2∧r.at_≤x.2.at_∧(x.2.why=0→r.why=0∧r.at_<x.2.at_∧WFt x.1):=by
   intro k
   induction k with
   |zero=>intro s l _ _ _ _ _;omega
   |succ k ih=>
    intro s l hs hat hw _ hk hl ht
    show T (DR N x (Bj N x k) s.marks s.at_ s.why s.where_ s.l.text s.l.funcs s.l.arity s.l.nest s.nest l) _
    unfold DR
    have fin:T (Dg N x s.marks s.at_ s.why s.where_ s.l.text s.l.funcs s.l.arity s.l.nest s.nest l (Bj N x k) false) fun x=>Rd ms x.2∧r.at_≤x.2.at_∧(x.2.why=0→r.why=0∧r.at_<x.2.at_∧WFt x.1):=by
     unfold Dg
     refine T.cond (fun h=>by cases h) fun _=>T.bind (JI hlen' hM (r:=s) hs) fun s2 h2=>T.bind (JI hlen' hM h2.1) fun s3 h3=>T.bind (V8 hlen' hM om h3.1) fun t ht4=>T.bind (JI hlen' hM ht4.1) fun s5 h5=>T.bind (hps.expr s5 h5.1 (fu _ h5.1)) fun b hb=>T.bind (JI hlen' hM hb.1) fun s6 h6=>?_
     have b2:=h2.2.1;have b3:=h3.2.1;have b4:=ht4.2.1;have b5:=h5.2.1;have b6:=hb.2.1;have b7:=h6.2.1
     refine .some (a:=_) ⟨h6.1,by simp only;omega,fun h=>?_⟩
     have p1:=h6.2.2 h
     have p2:=hb.2.2 p1.1
     have p3:=h5.2.2 p2.1
     have p4:=ht4.2.2 p3.1
     have p5:=h3.2.2 p4.1
     have p6:=h2.2.2 p5.1
     have p7:=hw1 (hw p6.1)
     have sz:=p2.2.2
     have e1:=h6.1.2.2
     have e2:=hs.2.1
     have e3:=hl p6.1
     have e4:=hs.2.2
     have e5:=h5.1.2.1
     exact ⟨p7.1,by simp only;omega,⟨p2.2.1,by simp only;omega,by simp only;omega,p4.2.2,ht p6.1⟩⟩
    refine T.cond (fun hsw=>?_) fun _=>fin
    have hsw:=CN hsw
    refine T.bind (OU hM (r:=s) hs) fun b _=>?_
    cases b
    ·have j5: ∀s':AC,Rd ms s'→s.at_≤s'.at_→T (EG N l (Bj N x k) s'.marks s'.at_ s'.why s'.where_ s'.l.text s'.l.funcs s'.l.arity s'.l.nest s'.nest) fun x=>Rd ms x.2∧r.at_≤x.2.at_∧(x.2.why=0→r.why=0∧r.at_<x.2.at_∧WFt x.1):=by
      intro s' hs' hle
      unfold EG
      have hl':=hl hsw
      have hs2:=hs.2.2
      refine T.bind (Qk hlen' hM (r:=s') hs') fun y hy=>T.bind (V8 hlen' hM om hy.1) fun t ht'=>T.bind (GC om (by simp;omega)) fun _ _=>?_
      have y1:=hy.2.1;have t1:=ht'.2.1
      refine ih t.2 (l++[_]) ht'.1 om (fun _=>hw hsw) ?_ (fun h=>?_) (fun h=>?_) fun h z hz=>?_
      ·have:=hk hsw;omega
      ·have p:=ht'.2.2 h;have q:=hy.2.2 p.1;have:=hk hsw;omega
      ·have p:=ht'.2.2 h;rw [List.length_append,List.length_singleton];omega
      ·rcases List.mem_append.1 hz with hz|hz
       ·exact ht hsw z hz
       ·simp at hz;subst hz;exact (ht'.2.2 h).2.2
     have j6: ∀(s':AC) (c:Bool),Rd ms s'→s.at_≤s'.at_→T (Df N l (Bj N x k) s'.marks s'.at_ s'.why s'.where_ s'.l.text s'.l.funcs s'.l.arity s'.l.nest s'.nest c) fun x=>Rd ms x.2∧r.at_≤x.2.at_∧(x.2.why=0→r.why=0∧r.at_<x.2.at_∧WFt x.1):=by
      intro s' c hs' hle
      unfold Df
      exact T.cond (fun _=>T.bind (OO (r:=s') hs' (by decide)) fun s2 h2=>j5 s2 h2.1 (by rw [h2.2.1];exact hle)) fun _=>j5 s' hs' hle
     have j4: ∀(s':AC),Rd ms s'→s.at_≤s'.at_→T (EH N l (Bj N x k) s'.marks s'.at_ s'.why s'.where_ s'.l.text s'.l.funcs s'.l.arity s'.l.nest s'.nest) fun x=>Rd ms x.2∧r.at_≤x.2.at_∧(x.2.why=0→r.why=0∧r.at_<x.2.at_∧WFt x.1):=by
      intro s' hs' hle
      unfold EH
      exact T.cond (fun _=>T.bind (Ln (r:=s') hs') fun m _=>T.cond (fun _=>j6 s' _ hs' hle) fun _=>j6 s' _ hs' hle) fun _=>j6 s' _ hs' hle
     unfold Dg
     exact T.cond (fun _=>T.cond (fun _=>T.bind (JI hlen' hM (r:=s) hs) fun s' h'=>j4 s' h'.1 h'.2.1) fun _=>j4 s hs om) fun h=>by cases h
    ·exact fin
  refine key N s1 [] h1.1 om id om (fun _=>?_) (fun _=>?_) fun _ x h=>by cases h
  ·have:=h1.1.2.1;omega
  ·have:=h1.1.2.1;simp;omega
 have j7: ∀c,T (EJ N r c) fun x=>Rd ms x.2∧r.at_≤x.2.at_∧(x.2.why=0→r.why=0∧r.at_<x.2.at_∧WFt x.1):=by
  intro c
  unfold EJ
  exact T.cond (fun _=>T.bind (OO hr (by decide)) fun s h=>j1 s h.1 (by rw [h.2.1];omega) fun h'=>absurd h' h.2.2) fun _=>j1 r hr om id
 unfold Cz
 exact T.bind (Ln hr) fun m _=>T.cond (fun _=>j7 _) fun _=>j7 _
theorem Xj{r:AC}(hr:Rd ms r):T (B7 N r) fun x=>x.2.why=0→WPt x.1:=by
 have hlen':ms.length≤1000000000:=om
 have key: ∀(k:Nat) (s:AC) (l:List AO),Rd ms s→1≤k→(s.why=0→(ms.length:Int) - s.at_<k)→(s.why=0→l.length≤s.at_)→(s.why=0→∀f∈l,WFt f)→
   T (Bd N k s.marks s.at_ s.why s.where_ s.l.text s.l.funcs s.l.arity s.l.nest s.nest l) fun x=>x.2.why=0→WPt x.1:=by
  intro k
  induction k with
  |zero=>intro s l _ _;omega
  |succ k ih=>
   intro s l hs _ hk hl hf
   show T (CL N (Bd N k) s.marks s.at_ s.why s.where_ s.l.text s.l.funcs s.l.arity s.l.nest s.nest l) _
   unfold CL
   have h2:=hs.2.2
   have fin:T (CE N s.marks s.at_ s.why s.where_ s.l.text s.l.funcs s.l.arity s.l.nest s.nest l (Bd N k) false) fun x=>x.2.why=0→WPt x.1:=by
    refine .some (a:=_) fun h=>⟨hf h,?_⟩
    have:=hl h;simp only;omega
   refine T.cond (fun hw=>?_) fun _=>fin
   have hw:=CN hw
   have go:T (CE N s.marks s.at_ s.why s.where_ s.l.text s.l.funcs s.l.arity s.l.nest s.nest l (Bd N k) true) fun x=>x.2.why=0→WPt x.1:=by
    unfold CE
    refine T.cond (fun _=>?_) fun h=>by cases h
    have hl':=hl hw
    have hk':=hk hw
    refine T.bind (AB8 hlen hM hN (r:=s) hs) fun x hx=>T.bind (GC om (by simp;omega)) fun _ _=>ih x.2 (l++[x.1]) hx.1 om (fun h=>?_) (fun h=>?_) fun h f hf'=>?_
    ·have:=(hx.2.2 h).2.1;omega
    ·have:=(hx.2.2 h).2.1;rw [List.length_append,List.length_singleton];omega
    ·rcases List.mem_append.1 hf' with hf'|hf'
     ·exact hf hw f hf'
     ·simp at hf';subst hf';exact (hx.2.2 h).2.2
   refine T.cond (fun _=>go) fun _=>T.bind (Ln (r:=s) hs) fun m _=>?_
   generalize (m.kind != 4)=b
   cases b
   ·exact fin
   ·exact go
 unfold B7
 refine key N r [] hr om (fun _=>by have:=hr.2.1;omega) (fun _=>by have:=hr.2.1;simp;omega) fun _ f h=>by cases h
omit hM hN hlen
theorem Yf{N:Nat}(hN:1000000≤N)(t:List UInt8):T (Fp N t ⟨32768,32768,32768,32768⟩) fun x=>WPt x.1:=by
 have wp0:WPt (AM.mk []):=⟨fun f h=>(by cases h),Nat.zero_le _⟩
 unfold Fp
 refine T.cond (fun _=> .some wp0) fun h=>?_
 have h:=Dj h
 simp at h
 refine T.bind (Zb om om) fun x hx=>T.cond (fun _=> .some wp0) fun h2=>?_
 have h2:=Dj h2
 have hx:=hx om
 have hr:Rd x.1 (AC.mk x.1 0 0 0 (Ai.mk (if (32768:Int)< (if (32768:Int)<0 then 0 else 32768) then 32768 else (if (32768:Int)<0 then 0 else 32768)) 32768 32768 32768) 0):=by
  refine ⟨rfl,by simp,?_⟩
  obtain ⟨⟨l,e,he,_⟩,_⟩:=hx
  rw [he];simp
 refine T.bind (Xj om hx.1 hN hr) fun y hy=>T.cond (fun h=> .some wp0) fun h=> .some (hy (KH h))
end
end Fth
namespace Fth
open Go Ieee
def Wd(d:Datum)(n:Int):Prop:=∃(s:Bool) (k:Nat),d= .number s (n.natAbs*2^k) (-(k:Int))∧(n≠0→s=decide (n<0))
def Wp(d:Datum)(n:Int):Prop:=∃k:Nat,d= .number (decide (n<0)) (n.natAbs*2^k) (-(k:Int))
theorem Wp.wd{d:Datum}{n:Int}(h:Wp d n):Wd d n:=let ⟨k,h⟩:=h;⟨_,k,h,fun _=>rfl⟩
theorem Wd.wp{d:Datum}{n:Int}(h:Wd d n)(h0:n≠0):Wp d n:=by obtain ⟨s,k,h,hs⟩:=h;exact ⟨k,by rw [h,hs h0]⟩
def fw(s:Bool)(m:Nat):Nat:=double.word s ((m.log2+1022)*2^52+m*2^(52 - m.log2))
theorem LO{m:Nat}(h0:0<m)(h:m<2^53):m.log2≤52:=by
 have h1:=Nat.log2_self_le (n:=m) om
 have h2:2^m.log2<2^53:=Nat.lt_of_le_of_lt h1 h
 have:=(Nat.pow_lt_pow_iff_right (by decide:1<2)).1 h2
 omega
theorem M2{m:Nat}(h0:0<m)(h:m<2^53):2^52≤m*2^(52 - m.log2)∧m*2^(52 - m.log2)<2^53:=by
 have hl:=LO h0 h
 have h1:=Nat.log2_self_le (n:=m) om
 have h2:=Nat.lt_log2_self (n:=m)
 have e1:2^m.log2*2^(52 - m.log2)=2^52:=by rw [←Nat.pow_add];congr 1;omega
 have e2:2^(m.log2+1)*2^(52 - m.log2)=2^53:=by rw [←Nat.pow_add];congr 1;omega
 constructor
 ·rw [←e1];exact Nat.mul_le_mul_right _ h1
 ·rw [←e2];exact Nat.mul_lt_mul_of_pos_right h2 (Nat.pow_pos (by decide))
theorem Ml{m k:Nat}(h0:0<m):(m*2^k).log2=m.log2+k:=by
 have h1:=Nat.log2_self_le (n:=m) om
 have h2:=Nat.lt_log2_self (n:=m)
 rw [Nat.log2_eq_iff (Nat.ne_of_gt (Nat.mul_pos h0 (Nat.pow_pos (by decide))))]
 rw [Nat.pow_add,show m.log2+k+1=(m.log2+1)+k by omega,Nat.pow_add]
 exact ⟨Nat.mul_le_mul_right _ h1,Nat.mul_lt_mul_of_pos_right h2 (Nat.pow_pos (by decide))⟩
theorem XB{s:Bool}{q d:Nat}(h:d≤(q*2^d).log2+2):Toward.even.cut s (q*2^d) d=q:=by
 simp only [Toward.cut,Nat.min_eq_left h,Nat.one_shiftLeft]
 have hp:0<2^d:=Nat.pow_pos (by decide)
 have e1:q*2^d / 2^d=q:=Nat.mul_div_cancel _ hp
 have e2:q*2^d % 2^d=0:=Nat.mul_mod_left _ _
 rw [e1,e2]
 simp
theorem VC{s:Bool}{m k:Nat}(h0:0<m)(h:m<2^53):double.nearest s (m*2^k) (-(k:Int))=fw s m:=by
 have hl:=LO h0 h
 have hpos: ¬(m*2^k=0):=Nat.ne_of_gt (Nat.mul_pos h0 (Nat.pow_pos (by decide)))
 have hlast:max (-(k:Int)+((m*2^k).log2:Nat) - (double.fractionBits:Nat)) double.leastPlace=(m.log2:Int) - 52:=by
  rw [Ml h0]
  simp only [double,Format.leastPlace]
  omega
 have hkept:Toward.even.cut s ((m*2^k) <<< (-(k:Int) - ((m.log2:Int) - 52)).toNat) (((m.log2:Int) - 52) - -(k:Int)).toNat=m*2^(52 - m.log2):=by
  rw [Nat.shiftLeft_eq]
  rcases Nat.le_total k (52 - m.log2) with hk|hk
  ·have e1:(-(k:Int) - ((m.log2:Int) - 52)).toNat=52 - m.log2 - k:=om
   have e2:(((m.log2:Int) - 52) - -(k:Int)).toNat=0:=om
   rw [e1,e2,Nat.mul_assoc,←Nat.pow_add,show k+(52 - m.log2 - k)=52 - m.log2 by omega]
   have:=XB (s:=s) (q:=m*2^(52 - m.log2)) (d:=0) om
   simpa using this
  ·have e1:(-(k:Int) - ((m.log2:Int) - 52)).toNat=0:=om
   obtain ⟨d,hd⟩: ∃d,k=(52 - m.log2)+d:=⟨k - (52 - m.log2),om⟩
   have e2:(((m.log2:Int) - 52) - -(k:Int)).toNat=d:=om
   rw [e1,e2,Nat.pow_zero,Nat.mul_one,hd,Nat.pow_add,←Nat.mul_assoc]
   refine XB ?_
   rw [Nat.mul_assoc,←Nat.pow_add,Ml h0]
   omega
 have hb:=M2 h0 h
 simp only [Format.nearest,hpos,if_false,hlast,hkept,fw]
 congr 1
 have e3:((m.log2:Int) - 52 - double.leastPlace).toNat=m.log2+1022:=by simp only [double,Format.leastPlace];omega
 rw [e3]
 have e4:double.binade=2^52:=rfl
 have e5:double.infRung=2047*2^52:=by decide
 rw [e4,e5]
 omega
theorem T8{s:Bool}{k:Int}:double.nearest s 0 k=double.word s 0:=by simp [Format.nearest]
theorem X2{s:Bool}{m:Nat}(h0:0<m)(h:m<2^53):double.read (fw s m)= .number s (m*2^(52 - m.log2)) (-((52 - m.log2:Nat):Int)):=by
 have hl:=LO h0 h
 have hb:=M2 h0 h
 have e0:double.signWeight=2^63:=by decide
 have e4:double.binade=2^52:=rfl
 have e5:double.infRung=2047*2^52:=by decide
 have e6:double.leastPlace= -1074:=by decide
 generalize hq:m*2^(52 - m.log2)=q at*
 generalize hL:m.log2=L at*
 have hw:fw s m=(if s then 2^63 else 0)+((L+1022)*2^52+q):=by
  simp only [fw,Format.word,hq,hL,e0];cases s<;>simp
 have hr:fw s m % 2^63=(L+1022)*2^52+q:=by rw [hw];cases s<;>simp<;>omega
 have hn:(fw s m / 2^63 % 2==1)=s:=by rw [hw];cases s<;>simp<;>omega
 simp only [Format.read,e0,hr,hn,e4,e5,e6]
 rw [if_neg om,if_pos om]
 congr 1
 ·omega
 ·omega
theorem QH(n:Int):FloatKind.f64.nearest n=double.nearest (decide (n<0)) n.natAbs 0:=rfl
theorem KK{n:Int}(h0:n≠0)(h:n.natAbs<2^53):FloatKind.f64.nearest n=fw (decide (n<0)) n.natAbs:=by
 rw [QH]
 have:=VC (s:=decide (n<0)) (m:=n.natAbs) (k:=0) om h
 simpa using this
theorem Pm:FloatKind.f64.nearest 0=0:=by decide
theorem MK{n:Int}(h:n.natAbs<2^53):Wp (double.read (FloatKind.f64.nearest n)) n:=by
 rcases Decidable.em (n=0) with h0|h0
 ·subst h0;exact ⟨1074,by rw [Pm,Int.natAbs_zero,Nat.zero_mul];decide⟩
 ·rw [KK h0 h,X2 om h];exact ⟨_,rfl⟩
theorem T9{d:Datum}{n:Int}(h:n.natAbs<2^53)(hd:Wp d n):double.write d=FloatKind.f64.nearest n:=by
 obtain ⟨k,rfl⟩:=hd
 rcases Decidable.em (n=0) with h0|h0
 ·subst h0;simp only [Int.natAbs_zero,Nat.zero_mul,Format.write];rw [T8];decide
 ·rw [KK h0 h];exact VC om h
def Fz(x:Nat)(n:Int):Prop:=x=FloatKind.f64.nearest n∨(n=0∧x=9223372036854775808)
theorem Fz.of{n:Int}:Fz (FloatKind.f64.nearest n) n:= .inl rfl
theorem Fz.eq{x:Nat}{n:Int}(h:Fz x n)(h0:n≠0):x=FloatKind.f64.nearest n:=h.resolve_right fun h'=>h0 h'.1
theorem Fz.read{x:Nat}{n:Int}(hx:Fz x n)(h:n.natAbs<2^53):Wd (double.read x) n:=by
 rcases hx with rfl| ⟨rfl,rfl⟩
 ·exact (MK h).wd
 ·exact ⟨true,1074,by rw [Int.natAbs_zero,Nat.zero_mul];decide,fun h=>absurd rfl h⟩
theorem Fz.write{d:Datum}{n:Int}(hd:Wd d n)(h:n.natAbs<2^53):Fz (double.write d) n:=by
 rcases Decidable.em (n=0) with h0|h0
 ·subst h0
  obtain ⟨s,k,rfl,_⟩:=hd
  simp only [Int.natAbs_zero,Nat.zero_mul,Format.write]
  rw [T8]
  cases s
  ·exact .inl (by decide)
  ·exact .inr ⟨rfl,by decide⟩
 ·exact .inl (T9 h (hd.wp h0))
theorem MV{s:Bool}{n:Int}{k:Nat}(hs:n≠0→s=decide (n<0))(up:Nat):signed s (n.natAbs*2^k) up=n*2^(k+up):=by
 rw [signed,Nat.shiftLeft_eq,Nat.mul_assoc,←Nat.pow_add]
 rcases Decidable.em (n=0) with h0|h0
 ·subst h0;simp
 ·rw [hs h0]
  rcases Int.lt_or_le n 0 with h|h
  ·simp only [h,decide_true,if_true]
   rw [Int.natCast_mul,Int.natCast_pow,show ((n.natAbs:Nat):Int)= -n by omega,Int.neg_mul,Int.neg_neg];rfl
  ·have: ¬n<0:=om
   simp only [this,decide_false,if_false,Bool.false_eq_true]
   rw [Int.natCast_mul,Int.natCast_pow,show ((n.natAbs:Nat):Int)=n by omega];rfl
theorem natAbs_pow(n:Int)(k:Nat):(n*2^k).natAbs=n.natAbs*2^k:=by
 rw [Int.natAbs_mul,Int.natAbs_pow];rfl
theorem X3{n:Int}{k:Nat}:n*2^k<0↔n<0:=by
 have hp:(0:Int)<2^k:=Int.pow_pos (by decide)
 constructor
 ·intro h
  rcases Int.lt_or_le n 0 with h'|h'
  ·exact h'
  ·have:=Int.mul_nonneg h' (Int.le_of_lt hp);omega
 ·intro h;exact Int.mul_neg_of_neg_of_pos h hp
theorem UA{n:Int}{k:Nat}:n*2^k=0↔n=0:=by
 have hp:(2:Int)^k≠0:=Int.ne_of_gt (Int.pow_pos (by decide))
 constructor
 ·intro h;rcases Int.mul_eq_zero.1 h with h|h
  ·exact h
  ·exact absurd h hp
 ·intro h;rw [h];simp
theorem Xk{c d:Datum}{a b:Int}(hc:Wd c a)(hd:Wd d b): ∃e,c.sum d=some e∧Wd e (a+b)∧(Wp c a∨Wp d b→Wp e (a+b)):=by
 obtain ⟨s,k,rfl,hs⟩:=hc
 obtain ⟨t,j,rfl,ht⟩:=hd
 refine ⟨_,rfl,?_⟩
 have e1:min (-(k:Int)) (-(j:Int))= -((max k j:Nat):Int):=om
 rw [e1]
 have e2:((-(k:Int)) - -((max k j:Nat):Int)).toNat=max k j - k:=om
 have e3:((-(j:Int)) - -((max k j:Nat):Int)).toNat=max k j - j:=om
 rw [e2,e3,MV hs,MV ht,show k+(max k j - k)=max k j by omega,show j+(max k j - j)=max k j by omega,←Int.add_mul]
 generalize max k j=M
 refine ⟨⟨_,M,by rw [natAbs_pow],fun h=>?_⟩,fun h=>⟨M,?_⟩⟩
 ·rw [if_neg (by rw [UA];exact h)];simp [X3]
 ·rw [natAbs_pow]
  congr 1
  rcases Decidable.em (a+b=0) with h0|h0
  ·rw [if_pos (by rw [UA];exact h0),h0]
   simp only [Int.lt_irrefl,decide_false,Bool.and_eq_false_iff]
   rcases Decidable.em (a=0) with ha|ha
   ·have hb:b=0:=om
    rcases h with ⟨k',h⟩| ⟨j',h⟩
    ·injection h with h _ _;left;rw [h,ha];decide
    ·injection h with h _ _;right;rw [h,hb];decide
   ·rw [hs ha,ht om]
    simp only [decide_eq_false_iff_not];omega
  ·rw [if_neg (by rw [UA];exact h0)];simp [X3]
theorem AB9{d:Datum}{b:Int}(hd:Wd d b):Wd d.opposite (-b):=by
 obtain ⟨t,j,rfl,ht⟩:=hd
 refine ⟨!t,j,by simp [Datum.opposite],fun h=>?_⟩
 rw [ht om]
 rcases Int.lt_or_le b 0 with h'|h'
 ·simp [h'];omega
 ·have h1: ¬b<0:=om
  have h2: -b<0:=om
  simp [h1];omega
theorem AAs{c d:Datum}{a b:Int}(hc:Wd c a)(hd:Wd d b): ∃e,c.product d=some e∧Wd e (a*b):=by
 obtain ⟨s,k,rfl,hs⟩:=hc
 obtain ⟨t,j,rfl,ht⟩:=hd
 refine ⟨_,rfl,s^^t,k+j,?_,fun h=>?_⟩
 ·congr 1
  ·rw [Int.natAbs_mul,Nat.pow_add];simp only [Nat.mul_assoc,Nat.mul_left_comm]
  ·omega
 ·have ha:a≠0:=fun e=>h (by rw [e];simp)
  have hb:b≠0:=fun e=>h (by rw [e];simp)
  rw [hs ha,ht hb]
  rcases Int.lt_or_le a 0 with h1|h1<;>rcases Int.lt_or_le b 0 with h2|h2
  ·have:=Int.mul_pos_of_neg_of_neg h1 h2
   simp [h1,h2];omega
  ·have:=Int.mul_neg_of_neg_of_pos h1 (show 0<b by omega)
   have h3: ¬b<0:=om
   simp [h1,h3,this]
  ·have:=Int.mul_neg_of_pos_of_neg (show 0<a by omega) h2
   have h3: ¬a<0:=om
   simp [h2,h3,this]
  ·have:=Int.mul_pos (show 0<a by omega) (show 0<b by omega)
   have h3: ¬a<0:=om
   have h4: ¬b<0:=om
   simp [h3,h4];omega
theorem Zc{c d:Datum}{a b:Int}(hc:Wd c a)(hd:Wd d b):c.order d=some (compare a b):=by
 obtain ⟨s,k,rfl,hs⟩:=hc
 obtain ⟨t,j,rfl,ht⟩:=hd
 simp only [Datum.order]
 have e1:min (-(k:Int)) (-(j:Int))= -((max k j:Nat):Int):=om
 rw [e1]
 have e2:((-(k:Int)) - -((max k j:Nat):Int)).toNat=max k j - k:=om
 have e3:((-(j:Int)) - -((max k j:Nat):Int)).toNat=max k j - j:=om
 rw [e2,e3,MV hs,MV ht,show k+(max k j - k)=max k j by omega,show j+(max k j - j)=max k j by omega]
 generalize max k j=M
 have hp:(0:Int)<2^M:=Int.pow_pos (by decide)
 congr 1
 simp only [compare,compareOfLessAndEq]
 have hlt:a*2^M<b*2^M↔a<b:=Int.mul_lt_mul_right hp
 have:a*2^M=b*2^M↔a=b:=by
  constructor
  ·intro h;exact Int.eq_of_mul_eq_mul_right (Int.ne_of_gt hp) h
  ·rintro rfl;rfl
 simp only [hlt,this]
section
variable{x y:Nat}{a b:Int}
theorem Fz.add(hx:Fz x a)(hy:Fz y b)(ha:a.natAbs<2^53)(hb:b.natAbs<2^53)(h:(a+b).natAbs<2^53): ∃z,FloatKind.f64.format.add x y=some z∧Fz z (a+b):=by
 obtain ⟨e,he,hw,_⟩:=Xk (hx.read ha) (hy.read hb)
 refine ⟨double.write e,?_,Fz.write hw h⟩
 show ((double.read x).sum (double.read y)).map double.write=_
 rw [he];rfl
theorem Fz.add0(hx:Fz x a)(ha:a.natAbs<2^53):FloatKind.f64.format.add x 0=some (FloatKind.f64.nearest a):=by
 obtain ⟨e,he,_,hw⟩:=Xk (hx.read ha) (MK (n:=0) (by decide)).wd
 have hw:=hw (.inr (MK (n:=0) (by decide)))
 rw [Int.add_zero] at hw
 show ((double.read x).sum (double.read 0)).map double.write=_
 rw [Pm] at he
 rw [he]
 exact congrArg some (T9 ha hw)
theorem Fz.sub(hx:Fz x a)(hy:Fz y b)(ha:a.natAbs<2^53)(hb:b.natAbs<2^53)(h:(a - b).natAbs<2^53): ∃z,FloatKind.f64.format.sub x y=some z∧Fz z (a - b):=by
 obtain ⟨e,he,hw,_⟩:=Xk (hx.read ha) (AB9 (hy.read hb))
 refine ⟨double.write e,?_,Fz.write (by rwa [Int.sub_eq_add_neg]) h⟩
 show ((double.read x).sum (double.read y).opposite).map double.write=_
 rw [he];rfl
theorem Fz.mul(hx:Fz x a)(hy:Fz y b)(ha:a.natAbs<2^53)(hb:b.natAbs<2^53)(h:(a*b).natAbs<2^53): ∃z,FloatKind.f64.format.mul x y=some z∧Fz z (a*b):=by
 obtain ⟨e,he,hw⟩:=AAs (hx.read ha) (hy.read hb)
 refine ⟨double.write e,?_,Fz.write hw h⟩
 show ((double.read x).product (double.read y)).map double.write=_
 rw [he];rfl
theorem Fz.order(hx:Fz x a)(hy:Fz y b)(ha:a.natAbs<2^53)(hb:b.natAbs<2^53):FloatKind.f64.format.order x y=some (compare a b):=
 Zc (hx.read ha) (hy.read hb)
theorem UB{a b:Int}:(compare a b= .lt)↔a<b:=by
 simp only [compare,compareOfLessAndEq];split<;>simp_all;split<;>simp_all
theorem Zd{a b:Int}:(compare a b= .eq)↔a=b:=by
 simp only [compare,compareOfLessAndEq];split
 ·simp;omega
 ·split<;>simp_all
theorem ACA{a b:Int}:(compare a b= .gt)↔b<a:=by
 simp only [compare,compareOfLessAndEq];split
 ·simp;omega
 ·split
  ·simp;omega
  ·simp;omega
theorem Fz.feq(hx:Fz x a)(hy:Fz y b)(ha:a.natAbs<2^53)(hb:b.natAbs<2^53):feq x y=decide (a=b):=by
 rw [Fth.feq,hx.order hy ha hb,Bool.eq_iff_iff];simp [Zd]
theorem Fz.fne(hx:Fz x a)(hy:Fz y b)(ha:a.natAbs<2^53)(hb:b.natAbs<2^53):fne x y= !decide (a=b):=by
 rw [Fth.fne,hx.order hy ha hb,Bool.eq_iff_iff];simp [Zd]
theorem Fz.flt(hx:Fz x a)(hy:Fz y b)(ha:a.natAbs<2^53)(hb:b.natAbs<2^53):flt_ x y=decide (a<b):=by
 rw [Fth.flt_,hx.order hy ha hb,Bool.eq_iff_iff];simp [UB]
theorem Fz.fle(hx:Fz x a)(hy:Fz y b)(ha:a.natAbs<2^53)(hb:b.natAbs<2^53):fle x y=decide (a≤b):=by
 rw [Fth.fle,hx.order hy ha hb,Bool.eq_iff_iff];simp [UB];omega
theorem Fz.fge(hx:Fz x a)(hy:Fz y b)(ha:a.natAbs<2^53)(hb:b.natAbs<2^53):fge x y=decide (b≤a):=by
 rw [Fth.fge,hx.order hy ha hb,Bool.eq_iff_iff];simp [ACA];omega
end
end Fth
namespace Fth
open Go Ieee
theorem UC{s:Bool}{m k:Nat}:Toward.zero.cut s (m*2^k) k=m:=by
 rcases Nat.eq_zero_or_pos m with h|h
 ·subst h;simp [Toward.cut]
 ·have hl:=Ml (k:=k) h
  simp only [Toward.cut,Nat.one_shiftLeft,Nat.min_eq_left (show k≤(m*2^k).log2+2 by omega)]
  rw [Nat.mul_div_cancel _ (Nat.pow_pos (by decide))]
  simp
theorem XC{d:Datum}{n:Int}(h:Wd d n):Wd (d.integral .zero) n:=by
 obtain ⟨s,k,rfl,hs⟩:=h
 refine ⟨s,0,?_,hs⟩
 have e:(-(k:Int)).toNat=0:=om
 have e2:(- -(k:Int)).toNat=k:=om
 simp only [Datum.integral,e,e2,Nat.shiftLeft_zero,UC]
 simp
theorem XD{d:Datum}{n:Int}(h:Wp d n):Wp (d.integral .zero) n:=by
 obtain ⟨k,rfl⟩:=h
 refine ⟨0,?_⟩
 have e:(-(k:Int)).toNat=0:=om
 have e2:(- -(k:Int)).toNat=k:=om
 simp only [Datum.integral,e,e2,Nat.shiftLeft_zero,UC]
 simp
theorem Ze{d:Datum}{n:Int}(h:Wd d n):d.toInt .zero=some n:=by
 have h':=XC h
 obtain ⟨s,k,rfl,hs⟩:=h
 have e:(-(k:Int)).toNat=0:=om
 have e2:(- -(k:Int)).toNat=k:=om
 simp only [Datum.toInt,Datum.integral,e,e2,Nat.shiftLeft_zero,UC]
 have:=MV (k:=0) hs 0
 simpa using this
theorem Zf{n:Int}(h1: -16777216≤n)(h2:n≤16777216):n.natAbs<2^53:=om
theorem m24:(13938640846711685120:Nat)=FloatKind.f64.nearest (-16777216):=by decide
theorem p24:(4715268809856909312:Nat)=FloatKind.f64.nearest 16777216:=by decide
theorem z0:(0:Nat)=FloatKind.f64.nearest 0:=by decide
theorem fz0:Fz 0 0:= .inl z0
theorem AAt{n:Int}(h:n.natAbs<2^53):IF (FloatKind.f64.nearest n)=some (FloatKind.f64.nearest n):=by
 have hr:=MK h
 have hi:=XD hr
 have hw:=T9 h hi
 have:P5 (FloatKind.f64.nearest n)=some (FloatKind.f64.nearest n):=by
  obtain ⟨k,hk⟩:=hr
  unfold P5
  have e:FloatKind.f64.decode (FloatKind.f64.nearest n)= .number (decide (n<0)) (n.natAbs*2^k) (-(k:Int)):=hk
  rw [e]
  rw [hk] at hw
  exact congrArg some hw
 unfold IF
 rw [this];rfl
theorem V9{n:Int}(h:n.natAbs<2^53):Er (FloatKind.f64.nearest n)=some (decide (-16777216≤n∧n≤16777216)):=by
 have hx:Fz (FloatKind.f64.nearest n) n:= .of
 unfold Er Hz
 rw [m24,p24,hx.fge .of h (by decide),hx.fle .of h (by decide),AAt h]
 simp only [Option.bind_some]
 rw [hx.feq .of h h,hx.fne fz0 h (by decide)]
 cases h1:decide (-16777216≤n)
 ·have:=Dj h1
  simp [this]
 ·cases h2:decide (n≤16777216)
  ·have:=Dj h2;simp [this]
  ·have h1:=CR h1;have h2:=CR h2
   simp only [decide_true,cond_true,h1,h2,and_self]
   cases h0:decide (n=0)
   ·rfl
   ·have h0:=CR h0;subst h0;decide
theorem X4{a b:Int}(ha:a.natAbs<2^53)(hb:b.natAbs<2^53):Bt (FloatKind.f64.nearest a,FloatKind.f64.nearest b)=some (decide ((-16777216≤a∧a≤16777216)∧(-16777216≤b∧b≤16777216))):=by
 unfold Bt J6
 simp only [V9 ha,V9 hb,Option.bind_some]
 cases h:decide (-16777216≤a∧a≤16777216)
 ·have:=Dj h;simp [this]
 ·have:=CR h;simp [this]
def rn(n:Ad):Nat×Nat:=(FloatKind.f64.nearest n.re,FloatKind.f64.nearest n.im)
def Hi(n:Ad):Prop:=(-16777216≤n.re∧n.re≤16777216)∧(-16777216≤n.im∧n.im≤16777216)
instance (n:Ad):Decidable (Hi n):=inferInstanceAs (Decidable (_∧_))
theorem QI(z:Nat×Nat):Gn z↔∃n,Hi n∧z=rn n:=by
 constructor
 ·rintro ⟨a,b,⟨h1,h2,h3⟩,h4,h5,h6⟩
  exact ⟨⟨a,b⟩,⟨⟨h2,h3⟩,h5,h6⟩,by rw [rn,←h1,←h4]⟩
 ·rintro ⟨n,h,rfl⟩
  exact ⟨n.re,n.im,⟨rfl,h.1.1,h.1.2⟩,rfl,h.2.1,h.2.2⟩
theorem Gn.of{n:Ad}(h:Hi n):Gn (rn n):=(QI _).2 ⟨n,h,rfl⟩
theorem Hi.re{n:Ad}(h:Hi n):n.re.natAbs<2^53:=Zf h.1.1 h.1.2
theorem Hi.im{n:Ad}(h:Hi n):n.im.natAbs<2^53:=Zf h.2.1 h.2.2
theorem Kb{n:Ad}(h:Hi n):Bt (rn n)=some true:=by
 rw [rn,X4 h.re h.im];congr 1;exact decide_eq_true h
theorem Xl{n:Int}(h1: -16777216≤n)(h2:n≤16777216):Fn (FloatKind.f64.nearest n)=some (n,true):=by
 have h:=Zf h1 h2
 have hx:Fz (FloatKind.f64.nearest n) n:= .of
 have e1:f2i .i64 (FloatKind.f64.nearest n)=some n:=by
  unfold f2i
  have:(FloatKind.f64.decode (FloatKind.f64.nearest n)).toInt .zero=some n:=Ze (hx.read h)
  rw [this]
  simp only [IntKind.min,IntKind.max,IntKind.signed,IntKind.bits]
  rw [if_pos]
  simp only [if_true];omega
 unfold Fn Fx
 rw [m24,p24,hx.fge .of h (by decide),hx.fle .of h (by decide),hx.feq fz0 h (by decide),e1]
 simp only [h1,h2,decide_true,cond_true,Option.bind_some,Bool.not_true,cond_false]
 rw [hx.feq .of h h]
 cases h0:decide (n=0)
 ·simp
 ·have h0:=CR h0;subst h0;decide
theorem VD{n:Ad}(h:Hi n):EW (rn n)=some (n,true):=by
 unfold EW
 simp only [rn,Xl h.1.1 h.1.2,Xl h.2.1 h.2.2,Option.bind_some]
 rfl
theorem Zg{z:Nat×Nat}(h:Gn z): ∃n,Hi n∧z=rn n∧EW z=some (n,true):=by
 obtain ⟨n,hn,rfl⟩:=(QI z).1 h
 exact ⟨n,hn,rfl,VD hn⟩
def inn(n:Ad):Ad×Int:=if Hi n then (n,0) else (⟨0,0⟩,50)
theorem X5(n:Ad):Hn n=some (inn n):=by
 unfold Hn KI inn
 cases h1:decide (n.re< -16777216)
 ·cases h2:decide (n.re>16777216)
  ·cases h3:decide (n.im< -16777216)
   ·cases h4:decide (n.im>16777216)
    ·have:=Dj h1;have:=Dj h2;have:=Dj h3;have:=Dj h4
     rw [if_pos (show Hi n from ⟨⟨om,om⟩,om,om⟩)];rfl
    ·have:=CR h4;rw [if_neg (show¬Hi n by unfold Hi;omega)];rfl
   ·have:=CR h3;rw [if_neg (show¬Hi n by unfold Hi;omega)];rfl
  ·have:=CR h2;rw [if_neg (show¬Hi n by unfold Hi;omega)];rfl
 ·have:=CR h1;rw [if_neg (show¬Hi n by unfold Hi;omega)];rfl
theorem PU{x y:Nat}{a b:Int}(hx:Fz x a)(hy:Fz y b)(ha:a.natAbs<2^53)(hb:b.natAbs<2^53):FJ (x,y)=some (rn (inn ⟨a,b⟩).1,(inn ⟨a,b⟩).2):=by
 unfold FJ
 simp only [hx.add0 ha,hy.add0 hb,Option.bind_some,X4 ha hb]
 unfold inn
 cases h:decide ((-16777216≤a∧a≤16777216)∧(-16777216≤b∧b≤16777216))
 ·have h:=Dj h
  rw [if_neg (show¬Hi ⟨a,b⟩ from h)]
  simp only [Bool.not_false,cond_true]
  congr 1
 ·have h:=CR h
  rw [if_pos (show Hi ⟨a,b⟩ from h)]
  rfl
theorem Fz.re{a:Ad}(_h:Hi a):Fz (rn a).1 a.re:= .inl rfl
theorem Fz.im{a:Ad}(_h:Hi a):Fz (rn a).2 a.im:= .inl rfl
section
variable{a b:Ad}(ha:Hi a)(hb:Hi b)
include ha hb
theorem ACB:J8 (rn a) (rn b)=some (rn (inn ⟨a.re+b.re,a.im+b.im⟩).1,(inn ⟨a.re+b.re,a.im+b.im⟩).2):=by
 obtain ⟨⟨h1,h2⟩,h3,h4⟩:=ha
 obtain ⟨⟨h5,h6⟩,h7,h8⟩:=hb
 have ha:Hi a:=⟨⟨h1,h2⟩,h3,h4⟩
 have hb:Hi b:=⟨⟨h5,h6⟩,h7,h8⟩
 obtain ⟨z,hz,hz'⟩:=(Fz.re ha).add (Fz.re hb) ha.re hb.re om
 obtain ⟨y,hy,hy'⟩:=(Fz.im ha).add (Fz.im hb) ha.im hb.im om
 unfold J8 Lz
 simp only [Kb ha,Kb hb,Option.bind_some,Bool.not_true,cond_false,cadd,hz,hy,PU hz' hy' om om]
theorem ACC:J9 (rn a) (rn b)=some (rn (inn ⟨a.re - b.re,a.im - b.im⟩).1,(inn ⟨a.re - b.re,a.im - b.im⟩).2):=by
 obtain ⟨⟨h1,h2⟩,h3,h4⟩:=ha
 obtain ⟨⟨h5,h6⟩,h7,h8⟩:=hb
 have ha:Hi a:=⟨⟨h1,h2⟩,h3,h4⟩
 have hb:Hi b:=⟨⟨h5,h6⟩,h7,h8⟩
 obtain ⟨z,hz,hz'⟩:=(Fz.re ha).sub (Fz.re hb) ha.re hb.re om
 obtain ⟨y,hy,hy'⟩:=(Fz.im ha).sub (Fz.im hb) ha.im hb.im om
 unfold J9 L0
 simp only [Kb ha,Kb hb,Option.bind_some,Bool.not_true,cond_false,csub,hz,hy,PU hz' hy' om om]
end
theorem ML{x y:Int}{A B:Nat}(hx:x.natAbs≤A)(hy:y.natAbs≤B):(x*y).natAbs≤A*B:=by
 rw [Int.natAbs_mul];exact Nat.mul_le_mul hx hy
theorem Hi.reA{n:Ad}(h:Hi n):n.re.natAbs≤16777216:=by have:=h.1;omega
theorem Hi.imA{n:Ad}(h:Hi n):n.im.natAbs≤16777216:=by have:=h.2;omega
theorem WB{x1 x2 y1 y2:Nat}{a1 a2 b1 b2:Int}(h1:Fz x1 a1)(h2:Fz x2 a2)(h3:Fz y1 b1)(h4:Fz y2 b2)(l1:a1.natAbs≤16777216)(l2:a2.natAbs≤16777216)(l3:b1.natAbs≤16777216)(l4:b2.natAbs≤16777216):
  ∃z1 z2,cmul (x1,x2) (y1,y2)=some (z1,z2)∧Fz z1 (a1*b1 - a2*b2)∧Fz z2 (a1*b2+a2*b1)∧(a1*b1 - a2*b2).natAbs≤562949953421312∧(a1*b2+a2*b1).natAbs≤562949953421312:=by
 have m1:=ML l1 l3
 have m2:=ML l2 l4
 have m3:=ML l1 l4
 have m4:=ML l2 l3
 obtain ⟨p,hp,hp'⟩:=h1.mul h3 om om om
 obtain ⟨q,hq,hq'⟩:=h2.mul h4 om om om
 obtain ⟨r,hr,hr'⟩:=hp'.sub hq' om om om
 obtain ⟨s,hs,hs'⟩:=h1.mul h4 om om om
 obtain ⟨t,ht,ht'⟩:=h2.mul h3 om om om
 obtain ⟨u,hu,hu'⟩:=hs'.add ht' om om om
 refine ⟨r,u,?_,hr',hu',om,om⟩
 simp only [cmul,hp,hq,hr,hs,ht,hu,Option.bind_some]
section
variable{a b:Ad}(ha:Hi a)(hb:Hi b)
include ha hb
theorem ACD:KA (rn a) (rn b)=some (rn (inn ⟨a.re*b.re - a.im*b.im,a.re*b.im+a.im*b.re⟩).1,(inn ⟨a.re*b.re - a.im*b.im,a.re*b.im+a.im*b.re⟩).2):=by
 obtain ⟨z1,z2,hz,h1,h2,l1,l2⟩:=WB (Fz.re ha) (Fz.im ha) (Fz.re hb) (Fz.im hb) ha.reA ha.imA hb.reA hb.imA
 unfold KA L1
 have e:cmul (rn a) (rn b)=some (z1,z2):=hz
 simp only [Kb ha,Kb hb,Option.bind_some,Bool.not_true,cond_false,e,PU h1 h2 om om]
theorem AAu:I5 (rn a) (rn b)=some ((decide (a.re<b.re)||(decide (a.re=b.re)&&decide (a.im<b.im))),0):=by
 unfold I5 LY
 simp only [Kb ha,Kb hb,Option.bind_some,Bool.not_true,cond_false]
 rw [(Fz.re ha).fne (Fz.re hb) ha.re hb.re,(Fz.re ha).flt (Fz.re hb) ha.re hb.re,(Fz.im ha).flt (Fz.im hb) ha.im hb.im]
 cases h:decide (a.re=b.re)
 ·simp
 ·have h:=CR h
  simp [h]
theorem Zh:ceq (rn a) (rn b)=(decide (a.re=b.re)&&decide (a.im=b.im)):=by
 rw [ceq,(Fz.re ha).feq (Fz.re hb) ha.re hb.re,(Fz.im ha).feq (Fz.im hb) ha.im hb.im]
end
theorem WD{x:Nat}{a:Int}(h:Fz x a)(ha:a.natAbs<2^53):Fz (Op.negFloat .f64 x) (-a):=by
 have e: ∀y:Nat,Op.negFloat .f64 y=y ^^^ 9223372036854775808:=fun y=>rfl
 rw [e]
 rcases Decidable.em (a=0) with h0|h0
 ·subst h0
  rcases h with rfl| ⟨_,rfl⟩
  ·exact .inr ⟨rfl,by decide⟩
  ·exact .inl (by decide)
 ·have h':=h.eq h0
  subst h'
  left
  rw [KK h0 ha,KK (n:= -a) om om,Int.natAbs_neg]
  have hb:=M2 (m:=a.natAbs) om ha
  have hl:=LO (m:=a.natAbs) om ha
  simp only [fw,Format.word]
  have hs:double.signWeight=2^63:=by decide
  rw [hs]
  generalize a.natAbs.log2=L at*
  generalize a.natAbs*2^(52 - L)=q at*
  have hr:(L+1022)*2^52+q<2^63:=om
  obtain ⟨r,hrr⟩: ∃r,(L+1022)*2^52+q=r:=⟨_,rfl⟩
  simp only [hrr] at hr ⊢
  have x1:r ^^^ 9223372036854775808=2^63+r:=by
   have h1:=Nat.two_pow_add_eq_or_of_lt hr 1
   rw [Nat.mul_one] at h1
   rw [h1,show (9223372036854775808:Nat)=2^63 by decide]
   refine Nat.eq_of_testBit_eq fun i=>?_
   rw [Nat.testBit_xor,Nat.testBit_or,Nat.testBit_two_pow]
   by_cases hi:63=i
   ·subst hi;simp [Nat.testBit_lt_two_pow hr]
   ·simp [hi]
  have x2:(2^63+r) ^^^ 9223372036854775808=r:=by
   rw [←x1,Nat.xor_assoc,Nat.xor_self,Nat.xor_zero]
  rcases Int.lt_or_le a 0 with hn|hn
  ·have h2: ¬(-a<0):=om
   simp only [hn,h2,decide_true,decide_false,if_true,Bool.false_eq_true,if_false]
   exact x2
  ·have h1: ¬(a<0):=om
   have h2: -a<0:=om
   simp only [h1,h2,decide_true,decide_false,if_true,Bool.false_eq_true,if_false]
   exact x1
theorem AAv{a:Ad}(ha:Hi a):II (rn a)=some (rn ⟨a.re,-a.im⟩,0):=by
 unfold II
 have hn:Hi ⟨a.re,-a.im⟩:=by obtain ⟨⟨h1,h2⟩,h3,h4⟩:=ha;exact ⟨⟨h1,h2⟩,by simp only;omega,by simp only;omega⟩
 have:=PU (Fz.re ha) (WD (Fz.im ha) ha.im) ha.re (by have:=ha.im;omega)
 simp only [Kb ha,Option.bind_some,Bool.not_true,cond_false,this,inn,if_pos hn]
end Fth
namespace Fth
open Go Ieee
theorem wu{x:Int}(h1:0≤x)(h2:x<18446744073709551616):IntKind.u64.wrap x=x:=by
 simp only [IntKind.wrap,IntKind.signed,IntKind.bits]
 simp
 omega
theorem PV{x:Nat}(h:x<2^64):(BitVec.ofInt 64 (x:Int)).toNat=x:=by
 rw [BitVec.toNat_ofInt];omega
theorem AAw{x y:Nat}(hx:x<2^64)(hy:y<2^64):E9 .u64 (x:Int) (y:Int)=((x&&& y:Nat):Int):=by
 have hb:(x&&& y)<2^64:=Nat.lt_of_le_of_lt Nat.and_le_left hx
 have e:(BitVec.ofInt IntKind.u64.bits (x:Int)&&& BitVec.ofInt IntKind.u64.bits (y:Int)).toNat=x&&& y:=by
  show (BitVec.ofInt 64 (x:Int)&&& BitVec.ofInt 64 (y:Int)).toNat=_
  rw [BitVec.toNat_and,PV hx,PV hy]
 rw [E9,e,wu om om]
theorem Zi{x y:Nat}(hx:x<2^64)(hy:y<2^64):MN .u64 (x:Int) (y:Int)=((x|||y:Nat):Int):=by
 have hb:(x|||y)<2^64:=Nat.or_lt_two_pow hx hy
 have e:(BitVec.ofInt IntKind.u64.bits (x:Int)|||BitVec.ofInt IntKind.u64.bits (y:Int)).toNat=x|||y:=by
  show (BitVec.ofInt 64 (x:Int)|||BitVec.ofInt 64 (y:Int)).toNat=_
  rw [BitVec.toNat_or,PV hx,PV hy]
 rw [MN,e,wu om om]
theorem QJ{x y:Nat}(hx:x<2^64)(hy:y<2^64):Cy .u64 (x:Int) (y:Int)=((x&&& (2^64 - 1 - y):Nat):Int):=by
 have hb:(x&&& (2^64 - 1 - y))<2^64:=Nat.lt_of_le_of_lt Nat.and_le_left hx
 have e:(BitVec.ofInt IntKind.u64.bits (x:Int)&&& ~~~ BitVec.ofInt IntKind.u64.bits (y:Int)).toNat=x&&& (2^64 - 1 - y):=by
  show (BitVec.ofInt 64 (x:Int)&&& ~~~ BitVec.ofInt 64 (y:Int)).toNat=_
  rw [BitVec.toNat_and,BitVec.toNat_not,PV hx,PV hy]
 rw [Cy,e,wu om om]
theorem AAx{x n:Nat}(h:x<2^n):x&&& 2^n=0:=by
 refine Nat.eq_of_testBit_eq fun i=>?_
 rw [Nat.testBit_and,Nat.testBit_two_pow,Nat.zero_testBit]
 by_cases hi:n=i
 ·subst hi;simp [Nat.testBit_lt_two_pow h]
 ·simp [hi]
theorem X6{x:Nat}(h:x<2^63):IT x=some x:=by
 unfold IT
 have:=QJ (x:=x) (y:=9223372036854775808) om om
 rw [show ((9223372036854775808:Nat):Int)=9223372036854775808 from rfl] at this
 rw [this]
 have e:(2^64 - 1 - 9223372036854775808:Nat)=2^63 - 1:=by decide
 rw [e,Nat.and_two_pow_sub_one_eq_mod,Nat.mod_eq_of_lt h];rfl
theorem AAy{r:Nat}(h:r<2^63):IT (2^63+r)=some r:=by
 unfold IT
 have:=QJ (x:=2^63+r) (y:=9223372036854775808) om om
 rw [show ((9223372036854775808:Nat):Int)=9223372036854775808 from rfl] at this
 rw [this]
 have e:(2^64 - 1 - 9223372036854775808:Nat)=2^63 - 1:=by decide
 rw [e,Nat.and_two_pow_sub_one_eq_mod,Nat.add_mod_left,Nat.mod_eq_of_lt h];rfl
theorem X7{m:Nat}(h0:0<m)(h:m<2^53):fw false m<2^63∧fw false m / 2^52=m.log2+1023∧fw false m % 2^52=m*2^(52 - m.log2) - 2^52∧fw true m=2^63+fw false m:=by
 have hb:=M2 h0 h
 have hl:=LO h0 h
 have hs:double.signWeight=2^63:=by decide
 simp only [fw,Format.word,hs,if_true,Bool.false_eq_true,if_false]
 generalize m*2^(52 - m.log2)=q at*
 refine ⟨?_,?_,?_,trivial⟩<;>omega
theorem Zj{x:Nat}{a:Int}(h:Fz x a)(ha:a.natAbs<2^53):IT x=some (FloatKind.f64.nearest a.natAbs):=by
 rcases Decidable.em (a=0) with h0|h0
 ·subst h0
  rcases h with rfl| ⟨_,rfl⟩<;>decide
 ·rw [h.eq h0,KK h0 ha,KK (n:=(a.natAbs:Int)) om om]
  have hb:=X7 (m:=a.natAbs) om ha
  have e:((a.natAbs:Int)).natAbs=a.natAbs:=rfl
  have e2:decide ((a.natAbs:Int)<0)=false:=by simp
  rw [e,e2]
  cases h1:decide (a<0)
  ·exact X6 hb.1
  ·rw [hb.2.2.2];exact AAy hb.1
theorem Yg{x:Nat}{a:Int}(h:Fz x a)(ha:a.natAbs<2^53):fgt x 9218868437227405311=false:=by
 obtain ⟨s,k,hk,hs⟩:=h.read ha
 have hm:double.read 9218868437227405311= .number false 9007199254740991 971:=by decide
 have:FloatKind.f64.format.order x 9218868437227405311=some (compare (signed s (a.natAbs*2^k) 0) (signed false 9007199254740991 (971+k))):=by
  show (double.read x).order (double.read 9218868437227405311)=_
  rw [hk,hm]
  simp only [Datum.order]
  have e1:min (-(k:Int)) 971= -(k:Int):=om
  rw [e1]
  have e2:(-(k:Int) - -(k:Int)).toNat=0:=om
  have e3:((971:Int) - -(k:Int)).toNat=971+k:=om
  rw [e2,e3]
 rw [fgt,this,MV hs]
 have h1:signed false 9007199254740991 (971+k)=9007199254740991*(2^971*2^k):=by
  simp only [signed,Bool.false_eq_true,if_false,Nat.shiftLeft_eq]
  rw [Int.natCast_mul,Int.natCast_pow,Int.pow_add];rfl
 rw [h1]
 have h2:a*2^(k+0)<9007199254740991*(2^971*2^k):=by
  rw [Nat.add_zero,←Int.mul_assoc]
  have hp:(0:Int)<2^k:=Int.pow_pos (by decide)
  refine Int.mul_lt_mul_of_pos_right ?_ hp
  have hp2:(4:Int)≤2^971:=by
   have:(2:Int)^2≤2^971:=by exact_mod_cast Nat.pow_le_pow_right (by decide:0<2) (by omega:2≤971)
   simpa using this
  generalize (2:Int)^971=q at*
  omega
 have h3:=UB.2 h2
 rw [h3];rfl
theorem Xm{x:Nat}{a:Int}(h:Fz x a)(ha:a.natAbs<2^53):HY x 0=some false:=by
 unfold HY Kg
 simp only [Zj h ha,Option.bind_some]
 rw [Yg (a:=(a.natAbs:Int)) .of om];rfl
theorem WF{x:Nat}{a:Int}(h:Fz x a)(ha:a.natAbs<2^53):Gw x=some false:=by
 unfold Gw
 rw [h.fne h ha ha];simp
theorem Zk{m:Nat}(h0:0<m)(h:m<2^53):flt_ (fw false m) 4503599627370496=false:=by
 have hl:=LO h0 h
 have hb:=M2 h0 h
 have hm:double.read 4503599627370496= .number false 4503599627370496 (-1074):=by decide
 have:FloatKind.f64.format.order (fw false m) 4503599627370496=some (compare (signed false (m*2^(52 - m.log2)) (1074 - (52 - m.log2))) (signed false 4503599627370496 0)):=by
  show (double.read (fw false m)).order (double.read 4503599627370496)=_
  rw [X2 h0 h,hm]
  simp only [Datum.order]
  have e1:min (-((52 - m.log2:Nat):Int)) (-1074)= -1074:=om
  rw [e1]
  have e2:(-((52 - m.log2:Nat):Int) - -1074).toNat=1074 - (52 - m.log2):=om
  have e3:((-1074:Int) - -1074).toNat=0:=om
  rw [e2,e3]
 rw [flt_,this]
 simp only [signed,Bool.false_eq_true,if_false,Nat.shiftLeft_eq,Nat.pow_zero,Nat.mul_one]
 generalize m*2^(52 - m.log2)=q at*
 have hp:1≤2^(1074 - (52 - m.log2)):=Nat.pow_pos (by decide)
 generalize 2^(1074 - (52 - m.log2))=p at*
 have:q*1≤q*p:=Nat.mul_le_mul_left _ hp
 cases hc:compare ((q*p:Nat):Int) ((4503599627370496:Nat):Int)
 ·have:=UB.1 hc;omega
 ·rfl
 ·rfl
theorem Ql{m:Nat}(h0:0<m)(h:m<2^53):Ej (fw false m)=some (fw false m,0):=by
 unfold Ej
 rw [X6 (X7 h0 h).1,Option.bind_some,Zk h0 h,cond_false]
theorem NZ{m:Nat}(h0:0<m)(h:m<2^53):FloatKind.f64.nearest (m:Int)=fw false m:=by
 have e:decide ((m:Int)<0)=false:=decide_eq_false om
 have:=KK (n:=(m:Int)) om om
 rw [e] at this
 exact this
theorem Qm{m:Nat}(h0:0<m)(h:m<2^53):Fz (fw false m) m:= .inl (NZ h0 h).symm
theorem ABU{f e:Nat}(hf:f<2^52):f|||e*2^52=e*2^52+f:=by
 have h:=Nat.two_pow_add_eq_or_of_lt hf e
 rw [Nat.mul_comm e,h,Nat.or_comm]
theorem X8{x:Nat}(h:x<2^63):Cy .u64 ((x:Nat):Int) 9218868437227405312=((x % 2^52:Nat):Int):=by
 have:=QJ (x:=x) (y:=9218868437227405312) om om
 rw [show ((9218868437227405312:Nat):Int)=9218868437227405312 from rfl] at this
 rw [this]
 have e:(2^64 - 1 - 9218868437227405312:Nat)=2^63||| (2^52 - 1):=by decide
 rw [e,Nat.and_or_distrib_left,AAx h,Nat.zero_or,Nat.and_two_pow_sub_one_eq_mod]
theorem ABV(x:Nat):shr .u64 ((x:Nat):Int) 52=((x / 2^52:Nat):Int):=by
 have e:min (52:Int).toNat IntKind.u64.bits=52:=by decide
 rw [shr,e,Int.fdiv_eq_ediv_of_nonneg _ (by decide)];rfl
theorem ACr{x:Nat}(h:x<2^63):E9 .u64 (shr .u64 ((x:Nat):Int) 52) 2047=((x / 2^52:Nat):Int):=by
 rw [ABV]
 have:=AAw (x:=x / 2^52) (y:=2047) om om
 rw [show ((2047:Nat):Int)=2047 from rfl] at this
 rw [this]
 have e:(2047:Nat)=2^11 - 1:=by decide
 rw [e,Nat.and_two_pow_sub_one_eq_mod,Nat.mod_eq_of_lt om]
theorem ACE{m:Nat}(h0:0<m)(h:m<2^53):feq (fw false m) 0=false:=by
 rw [(Qm h0 h).feq fz0 om (by decide)];simp;omega
theorem XE{m:Nat}(h0:0<m)(h:m<2^53):IJ (fw false m)=some (1021*2^52+m*2^(52 - m.log2),(m.log2:Int)+1):=by
 have hl:=LO h0 h
 have hb:=M2 h0 h
 have hf:=X7 h0 h
 have hz:=Qm h0 h
 unfold IJ Jl LR
 rw [ACE h0 h,Xm hz om,WF hz om,Ql h0 h]
 have nn52:nn 52=some ():=rfl
 simp only [cond_false,Option.bind_some,nn52,X8 hf.1,ACr hf.1,hf.2.1]
 have hr:=Zi (x:=fw false m % 2^52) (y:=4602678819172646912) om om
 rw [show ((4602678819172646912:Nat):Int)=4602678819172646912 from rfl] at hr
 rw [hr,show (4602678819172646912:Nat)=1022*2^52 by decide,ABU om,hf.2.2.1]
 generalize m*2^(52 - m.log2)=q at*
 refine congrArg some (Prod.ext ?_ ?_)
 ·simp only [Int.toNat_natCast];omega
 ·dsimp only
  rw [wr (x:=((m.log2+1023:Nat):Int)) om om,wr (x:=((m.log2+1023:Nat):Int) - 1023) om om,wr (x:=((m.log2+1023:Nat):Int) - 1023+1) om om,wr om om];omega
theorem AAz{x:Nat}(h:x<2^11):E9 .i64 (x:Int) 2047=(x:Int):=by
 have e:(BitVec.ofInt IntKind.i64.bits (x:Int)&&& BitVec.ofInt IntKind.i64.bits (2047:Int)).toNat=x:=by
  show (BitVec.ofInt 64 (x:Int)&&& BitVec.ofInt 64 ((2047:Nat):Int)).toNat=_
  rw [BitVec.toNat_and,PV om,PV om,show (2047:Nat)=2^11 - 1 by decide,Nat.and_two_pow_sub_one_eq_mod,Nat.mod_eq_of_lt h]
 rw [E9,e,wr om om]
theorem ACd{x:Nat}(h:x<2^11):shl .u64 (x:Int) 52=((x*2^52:Nat):Int):=by
 have e:min (52:Int).toNat IntKind.u64.bits=52:=by decide
 rw [shl,e,wu om om];omega
theorem Xn{m k:Nat}(h0:0<m)(hb:2^52≤m*2^(52 - m.log2))(hl2:m.log2+k≤52):(m.log2+k+1023)*2^52+(m*2^(52 - m.log2) - 2^52)=fw false (m*2^k):=by
 have e7:m*2^k*2^(52 - (m.log2+k))=m*2^(52 - m.log2):=by
  rw [Nat.mul_assoc,←Nat.pow_add];congr 2;omega
 simp only [fw,Format.word,Ml h0,e7,Bool.false_eq_true,if_false]
 generalize m*2^(52 - m.log2)=q at*
 omega
theorem Zl{m k:Nat}(h0:0<m)(h:m*2^k<2^53):I4 (fw false m) (k:Int)=some (fw false (m*2^k)):=by
 have hm:m<2^53:=Nat.lt_of_le_of_lt (Nat.le_mul_of_pos_right m (Nat.pow_pos (by decide))) h
 have h1:0<m*2^k:=Nat.mul_pos h0 (Nat.pow_pos (by decide))
 have hl:=LO h0 hm
 have hl2:=LO h1 h
 rw [Ml h0] at hl2
 have e3:IntKind.i64.wrap (IntKind.i64.wrap ((k:Int)+0)+IntKind.i64.wrap (((m.log2+1023:Nat):Int) - 1023))=(m.log2+k:Nat):=by
  rw [wr (x:=(k:Int)+0) om om,wr (x:=((m.log2+1023:Nat):Int) - 1023) om om,wr om om];omega
 have hL:m.log2+1023<2^11:=om
 have hL2:m.log2+k+1023<2^11:=om
 have e6a:0≤((m.log2+k+1023:Nat):Int):=om
 have e6b:((m.log2+k+1023:Nat):Int)<18446744073709551616:=om
 have e7:fw false m % 2^52<2^64:=Nat.lt_trans (Nat.mod_lt _ (Nat.pow_pos (by decide))) (by decide)
 have e8:(m.log2+k+1023)*2^52<2^64:=Nat.lt_of_lt_of_le (Nat.mul_lt_mul_of_pos_right hL2 (Nat.pow_pos (by decide))) (by decide)
 have d1:decide (((m.log2+k:Nat):Int)< -1075)=false:=by simp;omega
 have d2:decide (((m.log2+k:Nat):Int)>1023)=false:=by simp;omega
 have d3:decide (((m.log2+k:Nat):Int)< -1022)=false:=by simp;omega
 have e4:IntKind.i64.wrap (((m.log2+k:Nat):Int)+1023)=((m.log2+k+1023:Nat):Int):=by rw [wr om om];omega
 have hb:=M2 h0 hm
 have hf:=X7 h0 hm
 have hz:=Qm h0 hm
 have nn52:nn 52=some ():=rfl
 unfold I4 Jm
 rw [ACE h0 hm,cond_false,Xm hz om,Option.bind_some,cond_false,WF hz om,Option.bind_some]
 unfold LW
 rw [cond_false,Ql h0 hm,Option.bind_some,nn52,Option.bind_some]
 have e1:IntKind.i64.wrap (shr .u64 ((fw false m:Nat):Int) 52)=((fw false m / 2^52:Nat):Int):=by
  rw [ABV,hf.2.1,wr om om]
 have e2:E9 .i64 ((fw false m / 2^52:Nat):Int) 2047=((m.log2+1023:Nat):Int):=by rw [hf.2.1];exact AAz hL
 dsimp only
 rw [e1,e2,e3]
 rw [d1,cond_false,d2,cond_false,d3,cond_false]
 unfold LU
 rw [nn52,Option.bind_some]
 dsimp only
 have e5:=ACd hL2
 rw [e4,wu e6a e6b,e5,X8 hf.1,Zi e7 e8,ABU (Nat.mod_lt _ (Nat.pow_pos (by decide))),hf.2.2.1,Int.toNat_natCast]
 have e6:=Xn h0 hb.1 hl2
 rw [e6]
 have one:Fz 4607182418800017408 1:= .inl (by decide)
 obtain ⟨z,hz1,hz2⟩:=one.mul (Qm h1 h) (by decide) om om
 rw [Int.one_mul] at hz2
 rw [hz1,hz2.eq om,NZ h1 h];rfl
theorem AA0{p q:Nat}(hp:2^52≤p)(hp':p<2^53)(hq:2^52≤q)(hq':q<2^53):flt_ (1021*2^52+p) (1021*2^52+q)=decide (p<q):=by
 have rd: ∀p,2^52≤p→p<2^53→double.read (1021*2^52+p)= .number false p (-53):=by
  intro p h1 h2
  have e0:double.signWeight=2^63:=by decide
  have e4:double.binade=2^52:=rfl
  have e5:double.infRung=2047*2^52:=by decide
  have e6:double.leastPlace= -1074:=by decide
  have hr:(1021*2^52+p) % 2^63=1021*2^52+p:=om
  have hn:((1021*2^52+p) / 2^63 % 2==1)=false:=by simp;omega
  simp only [Format.read,e0,hr,hn,e4,e5,e6]
  rw [if_neg om,if_pos om]
  congr 1
  ·omega
  ·omega
 have:FloatKind.f64.format.order (1021*2^52+p) (1021*2^52+q)=some (compare (p:Int) (q:Int)):=by
  show (double.read _).order (double.read _)=_
  rw [rd p hp hp',rd q hq hq']
  simp [Datum.order,signed]
 rw [flt_,this,Bool.eq_iff_iff]
 simp [UB]
theorem Zm{n r j:Nat}{R:Nat→Option Nat}{B:Nat→Nat}(h0:0<n)(hj:n*2^j≤r)(hr:r<2^53){e1:Nat×Int}
  (ih: ∀w,Fz w ((r - n*2^j:Nat):Int)→∃z,R w=some (B z)∧Fz z (((r - n*2^j) % n:Nat):Int)) (hj53:j<53) (he:e1.2=(n.log2:Int)+1) (_hn:n.log2≤52):
  ∃z,Kw (fw false n) e1 (fw false r) R ((n.log2:Int)+1+j)=some (B z)∧Fz z ((r % n:Nat):Int):=by
 have hpj:0<n*2^j:=Nat.mul_pos h0 (Nat.pow_pos (by decide))
 have hnj:n*2^j<2^53:=Nat.lt_of_le_of_lt hj hr
 have hr0:0<r:=Nat.lt_of_lt_of_le hpj hj
 have e:IntKind.i64.wrap ((n.log2:Int)+1+j - e1.2)=(j:Int):=by rw [he,wr om om];omega
 have e2:((r:Int) - ((n*2^j:Nat):Int))=((r - n*2^j:Nat):Int):=om
 have k1:(r:Int).natAbs<2^53:=hr
 have k2:((n*2^j:Nat):Int).natAbs<2^53:=hnj
 have k3:((r:Int) - ((n*2^j:Nat):Int)).natAbs<2^53:=by rw [e2];exact Nat.lt_of_le_of_lt (Nat.sub_le _ _) hr
 have hm:(r - n*2^j) % n=r % n:=by
  conv=>rhs;rw [←Nat.sub_add_cancel hj]
  rw [Nat.add_mul_mod_self_left]
 unfold Kw
 rw [e,Zl h0 hnj,Option.bind_some]
 obtain ⟨z,hz1,hz2⟩:=(Qm hr0 hr).sub (Qm hpj hnj) k1 k2 k3
 rw [hz1,Option.bind_some]
 rw [e2] at hz2
 obtain ⟨z',h1,h2⟩:=ih z hz2
 rw [hm] at h2
 exact ⟨z',h1,h2⟩
theorem Xo{n r:Nat}(hn:n.log2≤52)(hr:r.log2≤52)(hle:n.log2≤r.log2)(hq:n*2^(52 - n.log2)≤r*2^(52 - r.log2)):n*2^(r.log2 - n.log2)≤r:=by
 have h1:n*2^(r.log2 - n.log2)*2^(52 - r.log2)=n*2^(52 - n.log2):=by
  rw [Nat.mul_assoc,←Nat.pow_add];congr 2;omega
 have h2:n*2^(r.log2 - n.log2)*2^(52 - r.log2)≤r*2^(52 - r.log2):=by rw [h1];exact hq
 exact Nat.le_of_mul_le_mul_right h2 (Nat.pow_pos (by decide))
theorem Xp{n r:Nat}(hr0:0<r)(hlt:n.log2<r.log2):n*2^(r.log2 - n.log2 - 1)≤r:=by
 have h1:n*2^(r.log2 - n.log2 - 1)<2^(n.log2+1)*2^(r.log2 - n.log2 - 1):=Nat.mul_lt_mul_of_pos_right Nat.lt_log2_self (Nat.pow_pos (by decide))
 rw [←Nat.pow_add,show n.log2+1+(r.log2 - n.log2 - 1)=r.log2 by omega] at h1
 exact Nat.le_trans (Nat.le_of_lt h1) (Nat.log2_self_le om)
theorem Yh{n r:Nat}(h0:0<n)(h:n≤r):n.log2≤r.log2:=by
 have h1:=Nat.log2_self_le (n:=n) om
 have h2:=Nat.lt_log2_self (n:=r)
 have h3:2^n.log2<2^(r.log2+1):=om
 have:=(Nat.pow_lt_pow_iff_right (by decide:1<2)).1 h3
 omega
theorem XF{x n:Nat}(h0:0<n)(hlt:n<2^53): ∀(k w r:Nat),Fz w (r:Int)→r<2^53→r<k→
  ∃z,KJ x (fw false n) (1021*2^52+n*2^(52 - n.log2),(n.log2:Int)+1) k w=some (bif flt_ x 0 then Op.negFloat .f64 z else z)∧Fz z ((r % n:Nat):Int):=by
 intro k
 have bn:=M2 h0 hlt
 have ln:=LO h0 hlt
 have lnI:(n:Int).natAbs<2^53:=hlt
 obtain ⟨c,hc0⟩: ∃c:Nat×Int,c=(1021*2^52+n*2^(52 - n.log2),(n.log2:Int)+1):=⟨_,rfl⟩
 rw [←hc0]
 have c1:c.1=1021*2^52+n*2^(52 - n.log2):=by rw [hc0]
 have c2:c.2=(n.log2:Int)+1:=by rw [hc0]
 clear hc0
 induction k with
 |zero=>intro w r _ _ h;exact absurd h (Nat.not_lt_zero _)
 |succ k ih=>
  intro w r hw hr hk
  have lrI:(r:Int).natAbs<2^53:=hr
  show∃z,L3 x (fw false n) c (KJ x (fw false n) c k) w=some _∧_
  unfold L3
  rw [hw.fge (Qm h0 hlt) lrI lnI]
  cases hc:decide ((n:Int)≤(r:Int))
  ·have hc:=Dj hc
   refine ⟨w,?_,by rw [Nat.mod_eq_of_lt om];exact hw⟩
   rw [cond_false]
   cases flt_ x 0<;>rfl
  ·have hc:n≤r:=by have:=CR hc;omega
   have hr0:0<r:=Nat.lt_of_lt_of_le h0 hc
   have hwr:w=fw false r:=by rw [hw.eq om,NZ hr0 hr]
   subst hwr
   have br:=M2 hr0 hr
   have lr:=LO hr0 hr
   have hLe:=Yh h0 hc
   rw [cond_true,XE hr0 hr,Option.bind_some]
   dsimp only
   rw [c1,AA0 br.1 br.2 bn.1 bn.2]
   have step: ∀j:Nat,n*2^j≤r→j<53→∃z,Kw (fw false n) c (fw false r) (KJ x (fw false n) c k) ((n.log2:Int)+1+j)=some (bif flt_ x 0 then Op.negFloat .f64 z else z)∧Fz z ((r % n:Nat):Int):=by
    intro j hj hj53
    have hpj:0<n*2^j:=Nat.mul_pos h0 (Nat.pow_pos (by decide))
    exact Zm h0 hj hr (fun w hw=>ih w _ hw (Nat.lt_of_le_of_lt (Nat.sub_le _ _) hr) om) hj53 c2 ln
   cases hq:decide (r*2^(52 - r.log2)<n*2^(52 - n.log2))
   ·have hq:=Dj hq
    obtain ⟨z,h1,h2⟩:=step _ (Xo ln lr hLe (Nat.le_of_not_lt hq)) om
    refine ⟨z,?_,h2⟩
    have e:(r.log2:Int)+1=(n.log2:Int)+1+((r.log2 - n.log2:Nat):Int):=om
    rw [cond_false,e]
    exact h1
   ·have hq:=CR hq
    have hLt:n.log2<r.log2:=by
     rcases Nat.lt_or_ge n.log2 r.log2 with h|h
     ·exact h
     ·have e:n.log2=r.log2:=Nat.le_antisymm hLe h
      rw [e] at hq
      exact absurd (Nat.lt_of_mul_lt_mul_right hq) (Nat.not_lt.2 hc)
    obtain ⟨z,h1,h2⟩:=step _ (Xp hr0 hLt) om
    refine ⟨z,?_,h2⟩
    have e:IntKind.i64.wrap ((r.log2:Int)+1 - 1)=(n.log2:Int)+1+((r.log2 - n.log2 - 1:Nat):Int):=by rw [wr om om];omega
    rw [cond_true,e]
    exact h1
theorem Zn{N x y:Nat}{a n:Int}(hN:2^54≤N)(hx:Fz x a)(hy:Fz y n)(ha:a.natAbs<2^53)(hn0:0<n)(hn:n<2^53): ∃z,KT N x y=some z∧Fz z (a.tmod n):=by
 obtain ⟨n,rfl⟩: ∃m:Nat,n=m:=⟨n.toNat,om⟩
 have h0:0<n:=om
 have hlt:n<2^53:=om
 have lnI:(n:Int).natAbs<2^53:=hlt
 have h254: ∀q:Nat,q<2^53→q<N:=fun q h=>om
 clear hN hn hn0
 have ey:=NZ h0 hlt
 have hyy:y=fw false n:=by rw [hy.eq om,ey]
 subst hyy
 have eabs:=Zj (Qm h0 hlt) lnI
 rw [show ((n:Int).natAbs:Int)=(n:Int) from rfl,ey] at eabs
 have nz0:(0:Int).natAbs<2^53:=by decide
 unfold KT LX
 rw [ACE h0 hlt,cond_false,Xm hx ha,Option.bind_some,cond_false,WF hx ha,Option.bind_some,cond_false,WF (Qm h0 hlt) lnI,Option.bind_some]
 unfold Kx
 rw [cond_false,eabs,Option.bind_some,XE h0 hlt,Option.bind_some,hx.flt fz0 ha nz0]
 cases hs:decide (a<0)
 ·have hs':=Dj hs
  have ea:((a.toNat:Nat):Int)=a:=om
  have hxa:Fz x ((a.toNat:Nat):Int):=by rw [ea];exact hx
  have la:a.toNat<2^53:=om
  obtain ⟨z,h1,h2⟩:=XF (x:=x) h0 hlt N x a.toNat hxa la (h254 _ la)
  rw [hx.flt fz0 ha nz0,hs] at h1
  refine ⟨z,?_,?_⟩
  ·rw [cond_false]
   unfold Lr
   rw [h1];rfl
  ·have e:((a.toNat % n:Nat):Int)=a.tmod n:=by rw [Int.tmod_eq_emod_of_nonneg om,Int.natCast_emod,ea]
   rw [e] at h2;exact h2
 ·have hs':=CR hs
  have ea:((a.natAbs:Nat):Int)= -a:=om
  have hxa:Fz (Op.negFloat .f64 x) ((a.natAbs:Nat):Int):=by rw [ea];exact WD hx ha
  obtain ⟨z,h1,h2⟩:=XF (x:=x) h0 hlt N (Op.negFloat .f64 x) a.natAbs hxa ha (h254 _ ha)
  rw [hx.flt fz0 ha nz0,hs] at h1
  have hm:(((a.natAbs % n:Nat):Int)).natAbs<2^53:=Nat.lt_of_le_of_lt (Nat.mod_le _ _) ha
  refine ⟨Op.negFloat .f64 z,?_,?_⟩
  ·rw [cond_true]
   unfold Lr
   rw [h1];rfl
  ·have h3:=WD h2 hm
   have e: -((a.natAbs % n:Nat):Int)=a.tmod n:=by
    rw [show a= -(a.natAbs:Int) by omega,Int.neg_tmod,Int.tmod_eq_emod_of_nonneg om,Int.natCast_emod,Int.natAbs_neg]
    rfl
   rw [e] at h3;exact h3
theorem Zo{x y:Nat}{a n c:Int}(hx:Fz x a)(hy:Fz y n)(ha:a.natAbs<2^53)(hn0:0<n)(hn:n<2^53)(hc:a=c*n): ∃z,FloatKind.f64.format.div x y=some z∧Fz z c:=by
 obtain ⟨s,k,hk,hs⟩:=hx.read ha
 obtain ⟨t,j,hj,ht⟩:=hy.read (show n.natAbs<2^53 by omega)
 have ht':t=false:=by rw [ht om];simp;omega
 subst ht'
 have hcl:c.natAbs<2^53:=by
  have h1:a.natAbs=c.natAbs*n.natAbs:=by rw [hc,Int.natAbs_mul]
  have h2:c.natAbs*1≤c.natAbs*n.natAbs:=Nat.mul_le_mul_left _ om
  omega
 have main: ∃e,(double.read x).quotient (double.fractionBits+2) (double.read y)=some e∧Wd e c:=by
  rw [hk,hj]
  simp only [Datum.quotient]
  have hp:0<n.natAbs*2^j:=Nat.mul_pos om (Nat.pow_pos (by decide))
  rw [if_neg om]
  have hlog:j≤k+(double.fractionBits+2+(n.natAbs*2^j).log2 - (a.natAbs*2^k).log2):=by
   have e1:double.fractionBits+2=54:=rfl
   rw [e1,Ml om]
   rcases Nat.eq_zero_or_pos a.natAbs with h|h
   ·rw [h];simp;omega
   ·have:=LO h ha
    rw [Ml h];omega
  generalize double.fractionBits+2+(n.natAbs*2^j).log2 - (a.natAbs*2^k).log2=more at*
  have e2:(a.natAbs*2^k) <<< more=c.natAbs*2^(k+more - j)*(n.natAbs*2^j):=by
   rw [Nat.shiftLeft_eq,hc,Int.natAbs_mul]
   have:2^k*2^more=2^(k+more - j)*2^j:=by rw [←Nat.pow_add,←Nat.pow_add];congr 1;omega
   calc c.natAbs*n.natAbs*2^k*2^more=c.natAbs*n.natAbs*(2^k*2^more):=by rw [Nat.mul_assoc]
    _=c.natAbs*n.natAbs*(2^(k+more - j)*2^j):=by rw [this]
    _=c.natAbs*2^(k+more - j)*(n.natAbs*2^j):=by simp only [Nat.mul_assoc,Nat.mul_left_comm]
  rw [e2,Nat.mul_div_cancel _ hp,Nat.mul_mod_left]
  refine ⟨_,rfl,s,k+more - j+1,?_,fun h=>?_⟩
  ·simp only [bne_self_eq_false,Bool.toNat_false,Nat.add_zero,Bool.bne_false]
   congr 1
   ·rw [Nat.pow_succ];simp only [Nat.mul_comm,Nat.mul_left_comm]
   ·omega
  ·rw [hs (by rw [hc];exact Int.mul_ne_zero h om),hc]
   have:c*n<0↔c<0:=by
    constructor
    ·intro h1
     rcases Int.lt_or_le c 0 with h2|h2
     ·exact h2
     ·have:=Int.mul_nonneg h2 (Int.le_of_lt hn0);omega
    ·intro h1;exact Int.mul_neg_of_neg_of_pos h1 hn0
   simp [this]
 obtain ⟨e,he,hw⟩:=main
 refine ⟨double.write e,?_,Fz.write hw hcl⟩
 show ((double.read x).quotient (double.fractionBits+2) (double.read y)).map double.write=_
 rw [he];rfl
theorem X9(a b:Int):(a.tmod b).natAbs≤a.natAbs:=by rw [Int.natAbs_tmod];exact Nat.mod_le _ _
theorem SY(a b:Int):(a.tdiv b).natAbs≤a.natAbs:=by rw [Int.natAbs_tdiv];exact Nat.div_le_self _ _
def quo(a b:Ad):Ad×Int:=
 let n:=b.re*b.re+b.im*b.im
 let x:=a.re*b.re+a.im*b.im
 let y:=a.im*b.re - a.re*b.im
 if n=0∨x.tmod n≠0∨y.tmod n≠0 then (⟨0,0⟩,51) else inn ⟨x.tdiv n,y.tdiv n⟩
section
variable{a b:Ad}(ha:Hi a)(hb:Hi b)
include ha hb
theorem ACF(h: ¬(b.re=0∧b.im=0)):0<b.re*b.re+b.im*b.im:=by
 have h1:0≤b.re*b.re:=by
  rcases Int.le_total 0 b.re with h|h
  ·exact Int.mul_nonneg h h
  ·exact Int.mul_nonneg_of_nonpos_of_nonpos h h
 have h2:0≤b.im*b.im:=by
  rcases Int.le_total 0 b.im with h|h
  ·exact Int.mul_nonneg h h
  ·exact Int.mul_nonneg_of_nonpos_of_nonpos h h
 rcases Decidable.em (b.re*b.re=0) with h3|h3
 ·rcases Decidable.em (b.im*b.im=0) with h4|h4
  ·refine absurd ⟨?_,?_⟩ h
   ·rcases Int.mul_eq_zero.1 h3 with h|h<;>exact h
   ·rcases Int.mul_eq_zero.1 h4 with h|h<;>exact h
  ·omega
 ·omega
theorem ACG{N:Nat}(hN:2^54≤N):KB N (rn a) (rn b)=some (rn (quo a b).1,(quo a b).2):=by
 unfold KB L5
 simp only [Kb ha,Kb hb,Option.bind_some,Bool.not_true,cond_false]
 have hz:ceq (rn b) (0,0)=(decide (b.re=0)&&decide (b.im=0)):=by
  rw [ceq,(Fz.re hb).feq fz0 hb.re (by decide),(Fz.im hb).feq fz0 hb.im (by decide)]
 rw [hz]
 cases h0:(decide (b.re=0)&&decide (b.im=0))
 ·simp only [cond_false]
  have hne: ¬(b.re=0∧b.im=0):=by
   intro h;rw [h.1,h.2] at h0;simp at h0
  have hn:=ACF ha hb hne
  have hni:=WD (Fz.im hb) hb.im
  have hia:(-b.im).natAbs≤16777216:=by have:=hb.imA;omega
  obtain ⟨p1,p2,hp,q1,q2,l1,l2⟩:=WB (Fz.re ha) (Fz.im ha) (Fz.re hb) hni ha.reA ha.imA hb.reA hia
  obtain ⟨n1,n2,hm,q3,_,l3,_⟩:=WB (Fz.re hb) (Fz.im hb) (Fz.re hb) hni hb.reA hb.imA hb.reA hia
  have e1:a.re*b.re - a.im* -b.im=a.re*b.re+a.im*b.im:=by rw [Int.mul_neg];omega
  have e2:a.re* -b.im+a.im*b.re=a.im*b.re - a.re*b.im:=by rw [Int.mul_neg];omega
  have e3:b.re*b.re - b.im* -b.im=b.re*b.re+b.im*b.im:=by rw [Int.mul_neg];omega
  rw [e1] at q1 l1;rw [e2] at q2 l2;rw [e3] at q3 l3
  have ep:cmul (rn a) ((rn b).1,Op.negFloat .f64 (rn b).2)=some (p1,p2):=hp
  have em:cmul (rn b) ((rn b).1,Op.negFloat .f64 (rn b).2)=some (n1,n2):=hm
  obtain ⟨z1,hz1,w1⟩:=Zn hN q1 q3 om hn om
  obtain ⟨z2,hz2,w2⟩:=Zn hN q2 q3 om hn om
  have b1:=X9 (a.re*b.re+a.im*b.im) (b.re*b.re+b.im*b.im)
  have b2:=X9 (a.im*b.re - a.re*b.im) (b.re*b.re+b.im*b.im)
  simp only [ep,em,Option.bind_some,hz1,hz2]
  rw [w1.fne fz0 om (by decide),w2.fne fz0 om (by decide)]
  unfold L4 quo
  simp only
  cases h1:decide ((a.re*b.re+a.im*b.im).tmod (b.re*b.re+b.im*b.im)=0)
  ·have h1:=Dj h1
   rw [if_pos (.inr (.inl h1))]
   rfl
  ·have h1:=CR h1
   simp only [Bool.not_true,cond_false]
   cases h2:decide ((a.im*b.re - a.re*b.im).tmod (b.re*b.re+b.im*b.im)=0)
   ·have h2:=Dj h2
    rw [if_pos (.inr (.inr h2))]
    rfl
   ·have h2:=CR h2
    rw [if_neg (by rintro (h|h|h)<;>omega)]
    simp only [Bool.not_true,cond_false]
    have c1:a.re*b.re+a.im*b.im=(a.re*b.re+a.im*b.im).tdiv (b.re*b.re+b.im*b.im)*(b.re*b.re+b.im*b.im):=by
     have:=Int.tmod_add_tdiv_mul (a.re*b.re+a.im*b.im) (b.re*b.re+b.im*b.im);omega
    have c2:a.im*b.re - a.re*b.im=(a.im*b.re - a.re*b.im).tdiv (b.re*b.re+b.im*b.im)*(b.re*b.re+b.im*b.im):=by
     have:=Int.tmod_add_tdiv_mul (a.im*b.re - a.re*b.im) (b.re*b.re+b.im*b.im);omega
    obtain ⟨d1,hd1,v1⟩:=Zo q1 q3 om hn om c1
    obtain ⟨d2,hd2,v2⟩:=Zo q2 q3 om hn om c2
    have k1:=SY (a.re*b.re+a.im*b.im) (b.re*b.re+b.im*b.im)
    have k2:=SY (a.im*b.re - a.re*b.im) (b.re*b.re+b.im*b.im)
    simp only [hd1,hd2,Option.bind_some,PU v1 v2 om om]
 ·simp only [Bool.and_eq_true,decide_eq_true_eq] at h0
  unfold quo
  simp only
  rw [if_pos (.inl (by rw [h0.1,h0.2];rfl))]
  rfl
theorem AA1:JT a b=some (quo a b):=by
 have m1:=ML hb.reA hb.reA
 have m2:=ML hb.imA hb.imA
 have m3:=ML ha.reA hb.reA
 have m4:=ML ha.imA hb.imA
 have m5:=ML ha.imA hb.reA
 have m6:=ML ha.reA hb.imA
 unfold JT LL
 rw [wr (x:=b.re*b.re) om om,wr (x:=b.im*b.im) om om,wr (x:=a.re*b.re) om om,wr (x:=a.im*b.im) om om,wr (x:=a.im*b.re) om om,wr (x:=a.re*b.im) om om,
  wr (x:=b.re*b.re+b.im*b.im) om om,wr (x:=a.re*b.re+a.im*b.im) om om,wr (x:=a.im*b.re - a.re*b.im) om om]
 have k1:=SY (a.re*b.re+a.im*b.im) (b.re*b.re+b.im*b.im)
 have k2:=SY (a.im*b.re - a.re*b.im) (b.re*b.re+b.im*b.im)
 rw [wr (x:=(a.re*b.re+a.im*b.im).tdiv (b.re*b.re+b.im*b.im)) om om,wr (x:=(a.im*b.re - a.re*b.im).tdiv (b.re*b.re+b.im*b.im)) om om]
 unfold quo
 simp only
 cases h0:(b.re*b.re+b.im*b.im==0)
 ·have h0:=B1 h0
  have hnz:nz (b.re*b.re+b.im*b.im)=some ():=by rw [nz,if_neg h0]
  simp only [cond_false,hnz,Option.bind_some]
  cases h1:((a.re*b.re+a.im*b.im).tmod (b.re*b.re+b.im*b.im) != 0)
  ·have h1:=KH h1
   simp only [cond_false]
   cases h2:((a.im*b.re - a.re*b.im).tmod (b.re*b.re+b.im*b.im) != 0)
   ·have h2:=KH h2
    rw [if_neg (by rintro (h|h|h)<;>contradiction),X5]
    rfl
   ·have h2:=MJ h2
    rw [if_pos (.inr (.inr h2))];rfl
  ·have h1:=MJ h1
   rw [if_pos (.inr (.inl h1))];rfl
 ·have h0:=CN h0
  rw [if_pos (.inl h0)];rfl
end
end Fth
namespace Fth
open Go
def VV(t:Int)(v:AF):Prop:=
 (t=1∧v.type_=1∧Gn v.num∧v.bool=false∧v.list=[])∨(t=2∧v.type_=2∧v.num=(0,0)∧v.list=[])∨
 (t=3∧v.type_=3∧v.num=(0,0)∧v.bool=false∧∀z∈v.list,Gn z)
def GV(v:AF):Prop:=Gn v.num∧(∀z∈v.list,Gn z)∧v.list.length≤1000000000000
def chk(v:AF):Bool:=
 bif v.type_==1 then !v.bool&&v.list.isEmpty else bif v.type_==2 then decide (v.num=(0,0))&&v.list.isEmpty else bif v.type_==3 then decide (v.num=(0,0))&& !v.bool else false
theorem gn0:Gn (0,0):=⟨0,0,⟨z0,by decide,by decide⟩,⟨z0,by decide,by decide⟩⟩
theorem Zp{v:AF}(h:GV v):chk v=true↔VV v.type_ v:=by
 obtain ⟨h1,h2,_⟩:=h
 unfold chk VV
 cases e1:(v.type_==1)
 ·have e1:=B1 e1
  cases e2:(v.type_==2)
  ·have e2:=B1 e2
   cases e3:(v.type_==3)
   ·have e3:=B1 e3
    simp [e1,e2,e3]
   ·have e3:=CN e3
    simp [e3];intro _ _;exact fun z w hz=>h2 (z,w) hz
  ·have e2:=CN e2
   simp [e2]
 ·have e1:=CN e1
  simp [e1,h1]
theorem VV.gv{t:Int}{v:AF}(h:VV t v)(hl:v.list.length≤1000000000000):GV v:=by
 rcases h with ⟨_,_,h,_,h'⟩| ⟨_,_,h,h'⟩| ⟨_,_,h,_,h'⟩
 ·exact ⟨h,by rw [h'];simp,hl⟩
 ·exact ⟨by rw [h];exact gn0,by rw [h'];simp,hl⟩
 ·exact ⟨by rw [h];exact gn0,h',hl⟩
theorem VV.type{t:Int}{v:AF}(h:VV t v):v.type_=t:=by
 rcases h with ⟨h1,h2,_⟩| ⟨h1,h2,_⟩| ⟨h1,h2,_⟩<;>rw [h1,h2]
theorem ACH{z:Nat×Nat}(h:Gn z):ceq z (0,0)=decide (z=(0,0)):=by
 obtain ⟨n,hn,rfl⟩:=(QI z).1 h
 have e1:=(Fz.re hn).feq fz0 hn.re (by decide)
 have e2:=(Fz.im hn).feq fz0 hn.im (by decide)
 rw [ceq]
 dsimp only
 rw [e1,e2,Bool.eq_iff_iff]
 simp only [Bool.and_eq_true,decide_eq_true_eq]
 constructor
 ·rintro ⟨h1,h2⟩
  rw [rn,h1,h2,Pm]
 ·intro h
  have h1:FloatKind.f64.nearest n.re=0:=congrArg Prod.fst h
  have h2:FloatKind.f64.nearest n.im=0:=congrArg Prod.snd h
  have f0:feq 0 0=true:=by decide
  have k1:(rn n).1=0:=h1
  have k2:(rn n).2=0:=h2
  rw [k1,f0] at e1
  rw [k2,f0] at e2
  exact ⟨CR e1.symm,CR e2.symm⟩
theorem XG{z:Nat×Nat}(h:Gn z):Bt z=some true:=by
 obtain ⟨n,hn,rfl⟩:=(QI z).1 h
 exact Kb hn
theorem PW{N:Nat}{v:AF}(h:GV v)(hN:v.list.length+2≤N):Cr N v=some (bif chk v then 0 else 3):=by
 obtain ⟨h1,h2,h3⟩:=h
 have loop: ∀(k:Nat) (b:Bool) (i:Nat),i≤v.list.length→v.list.length<i+k→F4 v k b (i:Int)=some (bif b then 0 else 3):=by
  intro k
  induction k with
  |zero=>intro b i _ _;omega
  |succ k ih=>
   intro b i hi hk
   show IG v (F4 v k) b i=_
   unfold IG J7 Dz
   cases hc:decide ((i:Int)< (v.list.length:Int))
   ·rw [cond_false];cases b<;>rfl
   ·have hc:=CR hc
    obtain ⟨z,hz,hz'⟩:=E7 (xs:=v.list) (i:=(i:Int)) om hc
    rw [cond_true,hz,Option.bind_some,wr om om,show (i:Int)+1=((i+1:Nat):Int) by omega]
    have hg:=h2 z (List.mem_of_getElem? hz')
    rw [XG hg,Option.bind_some]
    cases b
    ·exact ih false (i+1) om om
    ·exact ih true (i+1) om om
 have loop0:=fun b=>loop N b 0 om om
 have he:((v.list.length:Int)==0)=v.list.isEmpty:=by cases v.list<;>simp;omega
 unfold Cr Dz I2 chk
 rw [XG h1,Option.bind_some,ACH h1,he]
 cases e1:(v.type_==1)
 ·rw [cond_false,cond_false]
  cases e2:(v.type_==2)
  ·rw [cond_false,cond_false]
   cases e3:(v.type_==3)
   ·rfl
   ·rw [cond_true,cond_true,Option.bind_some,cond_true]
    cases decide (v.num=(0,0))
    ·exact loop0 false
    ·exact loop0 (!v.bool)
  ·rw [cond_true,cond_true,Option.bind_some,cond_true]
   cases decide (v.num=(0,0))
   ·rfl
   ·cases v.list.isEmpty<;>rfl
 ·rw [cond_true,cond_true,cond_true]
  cases v.bool
  ·cases v.list.isEmpty<;>rfl
  ·rfl
theorem NM{N:Nat}{v:AF}(h:GV v)(hN:v.list.length+2≤N):B8 N v=some (chk v):=by
 obtain ⟨h1,h2,h3⟩:=h
 have he:((v.list.length:Int)==0)=v.list.isEmpty:=by cases v.list<;>simp;omega
 have loop: ∀(k i:Nat),i≤v.list.length→v.list.length<i+k→EN v k true (i:Int)=some (chk v):=by
  intro k
  induction k with
  |zero=>intro i _ _;omega
  |succ k ih=>
   intro i hi hk
   show EK v (EN v k) true i=_
   unfold EK Gs Iu Iv Iw
   cases hc:decide ((i:Int)< (v.list.length:Int))
   ·rw [cond_false,ACH h1,he]
    unfold chk
    cases e1:(v.type_==1)
    ·rw [cond_false,cond_false]
     cases e2:(v.type_==2)
     ·rw [cond_false,cond_false]
      cases e3:(v.type_==3)
      ·rfl
      ·cases decide (v.num=(0,0))<;>rfl
     ·cases decide (v.num=(0,0))<;>rfl
    ·cases v.bool<;>rfl
   ·have hc:=CR hc
    obtain ⟨z,hz,hz'⟩:=E7 (xs:=v.list) (i:=(i:Int)) om hc
    rw [cond_true,hz,Option.bind_some,wr om om,show (i:Int)+1=((i+1:Nat):Int) by omega]
    obtain ⟨n,_,_,hn⟩:=Zg (h2 z (List.mem_of_getElem? hz'))
    rw [hn,Option.bind_some,cond_true]
    exact ih (i+1) om om
 obtain ⟨n,_,_,hn⟩:=Zg h1
 unfold B8
 rw [hn,Option.bind_some]
 exact loop N 0 om om
def v0:AF:=⟨0,(0,0),false,[]⟩
def nv(x:Ad×Int):AF×Int:=if x.2=0 then (⟨1,rn x.1,false,[]⟩,0) else (v0,x.2)
theorem AA2(x:Ad×Int):EC (rn x.1) x.2=some (nv x):=by
 unfold EC nv
 cases h:(x.2 != 0)
 ·rw [if_pos (KH h)];rfl
 ·rw [if_neg (MJ h)];rfl
theorem WG(x:Ad×Int):CY x.1 x.2=some (nv x):=by
 unfold CY nv
 cases h:(x.2 != 0)
 ·rw [if_pos (KH h)];rfl
 ·rw [if_neg (MJ h)];rfl
def two(op:Int)(a b:Ad):AF×Int:=
 if op=8 then nv (inn ⟨a.re+b.re,a.im+b.im⟩) else if op=9 then nv (inn ⟨a.re - b.re,a.im - b.im⟩)
 else if op=10 then nv (inn ⟨a.re*b.re - a.im*b.im,a.re*b.im+a.im*b.re⟩) else if op=11 then nv (quo a b)
 else if op=12 then (⟨2,(0,0),decide (a.re=b.re)&&decide (a.im=b.im),[]⟩,0)
 else (⟨2,(0,0),decide (a.re<b.re)||(decide (a.re=b.re)&&decide (a.im<b.im)),[]⟩,0)
theorem Zq{N:Nat}{op:Int}{a b:Ad}(hN:2^54≤N)(ha:Hi a)(hb:Hi b):KU N op (rn a) (rn b)=some (two op a b):=by
 unfold KU two
 rw [ACB ha hb,ACC ha hb,ACD ha hb,ACG ha hb hN,Zh ha hb,AAu ha hb]
 simp only [Option.bind_some,AA2]
 cases h1:(op==8)
 ·rw [if_neg (B1 h1)]
  cases h2:(op==9)
  ·rw [if_neg (B1 h2)]
   cases h3:(op==10)
   ·rw [if_neg (B1 h3)]
    cases h4:(op==11)
    ·rw [if_neg (B1 h4)]
     cases h5:(op==12)
     ·rw [if_neg (B1 h5)];rfl
     ·rw [if_pos (CN h5)];rfl
    ·rw [if_pos (CN h4)];rfl
   ·rw [if_pos (CN h3)];rfl
  ·rw [if_pos (CN h2)];rfl
 ·rw [if_pos (CN h1)];rfl
section
variable{a b:Ad}(ha:Hi a)(hb:Hi b)
include ha hb
theorem AA3:JQ a b=some (inn ⟨a.re+b.re,a.im+b.im⟩):=by
 obtain ⟨⟨h1,h2⟩,h3,h4⟩:=ha
 obtain ⟨⟨h5,h6⟩,h7,h8⟩:=hb
 unfold JQ
 rw [wr om om,wr om om,X5];rfl
theorem AA4:JR a b=some (inn ⟨a.re - b.re,a.im - b.im⟩):=by
 obtain ⟨⟨h1,h2⟩,h3,h4⟩:=ha
 obtain ⟨⟨h5,h6⟩,h7,h8⟩:=hb
 unfold JR
 rw [wr om om,wr om om,X5];rfl
theorem AA5:JS a b=some (inn ⟨a.re*b.re - a.im*b.im,a.re*b.im+a.im*b.re⟩):=by
 have m3:=ML ha.reA hb.reA
 have m4:=ML ha.imA hb.imA
 have m5:=ML ha.imA hb.reA
 have m6:=ML ha.reA hb.imA
 unfold JS
 rw [wr (x:=a.re*b.re) om om,wr (x:=a.im*b.im) om om,wr (x:=a.im*b.re) om om,wr (x:=a.re*b.im) om om,wr om om,wr om om,X5];rfl
theorem Zr:IN a b=some (decide (a.re<b.re)||(decide (a.re=b.re)&&decide (a.im<b.im))):=by
 unfold IN Ki
 have e:(a.re==b.re)=decide (a.re=b.re):=by rw [Bool.eq_iff_iff];simp
 rw [e]
 cases decide (a.re<b.re)
 ·cases decide (a.re=b.re)<;>rfl
 ·rfl
end
theorem Zs{op:Int}(h:8≤op∧op≤13):IH op=some (2,1)∧HH op=some (2,1):=by
 have:op=8∨op=9∨op=10∨op=11∨op=12∨op=13:=om
 rcases this with rfl|rfl|rfl|rfl|rfl|rfl<;>exact ⟨rfl,rfl⟩
theorem Zt{op:Int}(h:15≤op∧op≤17):IH op=some (1,1)∧HH op=some (1,1):=by
 have:op=15∨op=16∨op=17:=om
 rcases this with rfl|rfl|rfl<;>exact ⟨rfl,rfl⟩
def DB(a:Ad):AF:=⟨1,rn a,false,[]⟩
theorem Yi{a:Ad}(ha:Hi a):GV (DB a):=⟨.of ha,by simp [DB],by simp [DB]⟩
theorem VE(a:Ad):chk (DB a)=true:=rfl
def Jh(c:Bool):AF:=⟨2,(0,0),c,[]⟩
theorem AA6(b:Bool):GV (Jh b):=⟨gn0,by simp [Jh],by simp [Jh]⟩
theorem ACI{N:Nat}{op:Int}{a b:Ad}(hN:2^54≤N)(h:8≤op∧op≤13)(ha:Hi a)(hb:Hi b):
  EQ N op [DB a,DB b]=some (two op a b)∧Dc N op [DB a,DB b]=some (two op a b):=by
 obtain ⟨M,rfl⟩: ∃M,N=M+3:=⟨N - 3,om⟩
 have c1:Cr (M+3) (DB a)=some 0:=by rw [PW (Yi ha) (by simp [DB]),VE];rfl
 have c2:Cr (M+3) (DB b)=some 0:=by rw [PW (Yi hb) (by simp [DB]),VE];rfl
 have d1:B8 (M+3) (DB a)=some true:=by rw [NM (Yi ha) (by simp [DB]),VE]
 have d2:B8 (M+3) (DB b)=some true:=by rw [NM (Yi hb) (by simp [DB]),VE]
 have o1:EW (DB a).num=some (a,true):=VD ha
 have o2:EW (DB b).num=some (b,true):=VD hb
 constructor
 ·unfold EQ
  rw [(Zs h).1,Option.bind_some]
  show Cs (M+3) op [DB a,DB b] (2,1) (Dh (M+3) op [DB a,DB b] (2,1) (M+2)) 0=_
  unfold Cs
  show (Cr (M+3) (DB a)).bind (fun x208=>Ii 0 (Dh (M+3) op [DB a,DB b] (2,1) (M+2)) (x208 != 0))=_
  rw [c1,Option.bind_some]
  show Cs (M+3) op [DB a,DB b] (2,1) (Dh (M+3) op [DB a,DB b] (2,1) (M+1)) 1=_
  unfold Cs
  show (Cr (M+3) (DB b)).bind (fun x208=>Ii 1 (Dh (M+3) op [DB a,DB b] (2,1) (M+1)) (x208 != 0))=_
  rw [c2,Option.bind_some]
  show Cs (M+3) op [DB a,DB b] (2,1) (Dh (M+3) op [DB a,DB b] (2,1) M) 2=_
  unfold Cs
  have hop:(op==14)=false∧(op==15)=false∧(op==16)=false∧(op==17)=false:=by
   refine ⟨?_,?_,?_,?_⟩<;>(simp;omega)
  rw [hop.1,hop.2.1,hop.2.2.1,hop.2.2.2]
  show (KU (M+3) op (rn a) (rn b)).bind (fun x321=>some (x321.1,x321.2))=_
  rw [Zq hN ha hb];rfl
 ·unfold Dc
  rw [(Zs h).2,Option.bind_some]
  show CV (M+3) op [DB a,DB b] (2,1) (Bm (M+3) op [DB a,DB b] (2,1) (M+2)) true [] 0=_
  unfold CV
  show (B8 (M+3) (DB a)).bind (fun x412=>bif x412 then (En [DB a,DB b] [] 0 (Bm (M+3) op [DB a,DB b] (2,1) (M+2)) true) else (En [DB a,DB b] [] 0 (Bm (M+3) op [DB a,DB b] (2,1) (M+2)) false))=_
  rw [d1,Option.bind_some,cond_true]
  show (EW (DB a).num).bind (fun x354=>(HB 16 ([]:List Ad) [x354.1]).bind fun _=>Bm (M+3) op [DB a,DB b] (2,1) (M+2) true ([]++[x354.1]) (IntKind.i64.wrap (0+1)))=_
  rw [o1,Option.bind_some]
  show CV (M+3) op [DB a,DB b] (2,1) (Bm (M+3) op [DB a,DB b] (2,1) (M+1)) true [a] 1=_
  unfold CV
  show (B8 (M+3) (DB b)).bind (fun x412=>bif x412 then (En [DB a,DB b] [a] 1 (Bm (M+3) op [DB a,DB b] (2,1) (M+1)) true) else (En [DB a,DB b] [a] 1 (Bm (M+3) op [DB a,DB b] (2,1) (M+1)) false))=_
  rw [d2,Option.bind_some,cond_true]
  show (EW (DB b).num).bind (fun x354=>(HB 16 [a] [x354.1]).bind fun _=>Bm (M+3) op [DB a,DB b] (2,1) (M+1) true ([a]++[x354.1]) (IntKind.i64.wrap (1+1)))=_
  rw [o2,Option.bind_some]
  show CV (M+3) op [DB a,DB b] (2,1) (Bm (M+3) op [DB a,DB b] (2,1) M) true [a,b] 2=_
  unfold CV two
  have e:(a.re==b.re&&a.im==b.im)=(decide (a.re=b.re)&&decide (a.im=b.im)):=by rw [Bool.eq_iff_iff];simp
  have hh:op=8∨op=9∨op=10∨op=11∨op=12∨op=13:=om
  rcases hh with rfl|rfl|rfl|rfl|rfl|rfl
  ·show ((JQ a b).bind fun x504=>(CY x504.1 x504.2).bind fun x511=>some (x511.1,x511.2))=_
   rw [AA3 ha hb,Option.bind_some,WG];rfl
  ·show ((JR a b).bind fun x504=>(CY x504.1 x504.2).bind fun x511=>some (x511.1,x511.2))=_
   rw [AA4 ha hb,Option.bind_some,WG];rfl
  ·show ((JS a b).bind fun x504=>(CY x504.1 x504.2).bind fun x511=>some (x511.1,x511.2))=_
   rw [AA5 ha hb,Option.bind_some,WG];rfl
  ·show ((JT a b).bind fun x504=>(CY x504.1 x504.2).bind fun x511=>some (x511.1,x511.2))=_
   rw [AA1 ha hb,Option.bind_some,WG];rfl
  ·show some ((⟨2,(0,0),(a.re==b.re&&a.im==b.im),[]⟩:AF),(0:Int))=_
   rw [e];rfl
  ·show ((IN a b).bind fun x1013=>(HI x1013).bind fun x1018=>some (x1018.1,x1018.2))=_
   rw [Zr ha hb];rfl
theorem YA{op:Int}(h:op=14):IH op=some (1,2)∧HH op=some (1,2):=by subst h;exact ⟨rfl,rfl⟩
theorem ACJ{N:Nat}{c:Bool}{op:Int}(h:op=14)(hN:10≤N):EQ N op [Jh c]=some (Jh !c,0):=by
 obtain ⟨M,rfl⟩: ∃M,N=M+3:=⟨N - 3,om⟩
 clear hN
 have c1:Cr (M+3) (Jh c)=some 0:=by rw [PW (AA6 c) (by simp [Jh])];rfl
 have d1:B8 (M+3) (Jh c)=some true:=by rw [NM (AA6 c) (by simp [Jh])];rfl
 have o1:EW (Jh c).num=some (⟨0,0⟩,true):=VD (n:=⟨0,0⟩) ⟨⟨by decide,by decide⟩,by decide,by decide⟩
 unfold EQ
 rw [(YA h).1,Option.bind_some]
 show Cs (M+3) op [Jh c] (1,2) (Dh (M+3) op [Jh c] (1,2) (M+2)) 0=_
 unfold Cs
 show (Cr (M+3) (Jh c)).bind (fun x208=>Ii 0 (Dh (M+3) op [Jh c] (1,2) (M+2)) (x208 != 0))=_
 rw [c1,Option.bind_some]
 show Cs (M+3) op [Jh c] (1,2) (Dh (M+3) op [Jh c] (1,2) (M+1)) 1=_
 unfold Cs
 have h1:decide ((1:Int)< (([Jh c].length:Nat):Int))=false:=rfl
 have h2:idx [Jh c] 0=some (Jh c):=rfl
 have h3:(op==14)=true:=by rw [h];rfl
 rw [h1,cond_false,h2,Option.bind_some,h3,cond_true]
 rfl
theorem ACe{N:Nat}{c:Bool}{op:Int}(h:op=14)(hN:10≤N):Dc N op [Jh c]=some (Jh !c,0):=by
 obtain ⟨M,rfl⟩: ∃M,N=M+3:=⟨N - 3,om⟩
 clear hN
 have c1:Cr (M+3) (Jh c)=some 0:=by rw [PW (AA6 c) (by simp [Jh])];rfl
 have d1:B8 (M+3) (Jh c)=some true:=by rw [NM (AA6 c) (by simp [Jh])];rfl
 have o1:EW (Jh c).num=some (⟨0,0⟩,true):=VD (n:=⟨0,0⟩) ⟨⟨by decide,by decide⟩,by decide,by decide⟩
 unfold Dc
 rw [(YA h).2,Option.bind_some]
 show CV (M+3) op [Jh c] (1,2) (Bm (M+3) op [Jh c] (1,2) (M+2)) true [] 0=_
 unfold CV
 show (B8 (M+3) (Jh c)).bind (fun x412=>bif x412 then (En [Jh c] [] 0 (Bm (M+3) op [Jh c] (1,2) (M+2)) true) else (En [Jh c] [] 0 (Bm (M+3) op [Jh c] (1,2) (M+2)) false))=_
 rw [d1,Option.bind_some,cond_true]
 show (EW (Jh c).num).bind (fun x354=>(HB 16 ([]:List Ad) [x354.1]).bind fun _=>Bm (M+3) op [Jh c] (1,2) (M+2) true ([]++[x354.1]) (IntKind.i64.wrap (0+1)))=_
 rw [o1,Option.bind_some]
 show CV (M+3) op [Jh c] (1,2) (Bm (M+3) op [Jh c] (1,2) (M+1)) true [⟨0,0⟩] 1=_
 unfold CV
 have h1:decide ((1:Int)< ((1,2):Int×Int).1)=false:=rfl
 rw [cond_true,h1]
 unfold K7
 have h2:idx [Jh c] 0=some (Jh c):=rfl
 have h3:(op==14)=true:=by rw [h];rfl
 have k1:(op==8)=false:=by rw [h];rfl
 have k2:(op==9)=false:=by rw [h];rfl
 have k3:(op==10)=false:=by rw [h];rfl
 have k4:(op==11)=false:=by rw [h];rfl
 have k5:(op==12)=false:=by rw [h];rfl
 have k6:(op==13)=false:=by rw [h];rfl
 rw [cond_false,Bool.not_true,cond_false,k1,cond_false,k2,cond_false,k3,cond_false,k4,cond_false,k5,cond_false,k6,cond_false,h3,cond_true,h2,Option.bind_some]
 rfl
theorem AA7{N:Nat}{c:Bool}(hN:2^54≤N):EQ N 14 [Jh c]=some (Jh !c,0)∧Dc N 14 [Jh c]=some (Jh !c,0):=⟨ACJ rfl om,ACe rfl om⟩
theorem nv0(x:Int):DB ⟨x,0⟩=⟨1,(FloatKind.f64.nearest x,0),false,[]⟩:=by rw [DB,rn,Pm]
def uno(op:Int)(a:Ad):AF×Int:=(DB (if op=15 then ⟨a.re,0⟩ else if op=16 then ⟨a.im,0⟩ else ⟨a.re,-a.im⟩),0)
theorem ACK{N:Nat}{op:Int}{a:Ad}(hN:2^54≤N)(h:15≤op∧op≤17)(ha:Hi a):EQ N op [DB a]=some (uno op a)∧Dc N op [DB a]=some (uno op a):=by
 obtain ⟨M,rfl⟩: ∃M,N=M+3:=⟨N - 3,om⟩
 have c1:Cr (M+3) (DB a)=some 0:=by rw [PW (Yi ha) (by simp [DB]),VE];rfl
 have d1:B8 (M+3) (DB a)=some true:=by rw [NM (Yi ha) (by simp [DB]),VE]
 have o1:EW (DB a).num=some (a,true):=VD ha
 have hh:op=15∨op=16∨op=17:=om
 constructor
 ·unfold EQ
  rw [(Zt h).1,Option.bind_some]
  show Cs (M+3) op [DB a] (1,1) (Dh (M+3) op [DB a] (1,1) (M+2)) 0=_
  unfold Cs
  show (Cr (M+3) (DB a)).bind (fun x208=>Ii 0 (Dh (M+3) op [DB a] (1,1) (M+2)) (x208 != 0))=_
  rw [c1,Option.bind_some]
  show Cs (M+3) op [DB a] (1,1) (Dh (M+3) op [DB a] (1,1) (M+1)) 1=_
  unfold Cs uno
  rcases hh with rfl|rfl|rfl
  ·rw [if_pos rfl,nv0];rfl
  ·rw [if_neg (by decide),if_pos rfl,nv0];rfl
  ·rw [if_neg (by decide),if_neg (by decide)]
   show ((II (rn a)).bind fun x279=>(EC x279.1 x279.2).bind fun x284=>some (x284.1,x284.2))=_
   rw [AAv ha];rfl
 ·unfold Dc
  rw [(Zt h).2,Option.bind_some]
  show CV (M+3) op [DB a] (1,1) (Bm (M+3) op [DB a] (1,1) (M+2)) true [] 0=_
  unfold CV
  show (B8 (M+3) (DB a)).bind (fun x412=>bif x412 then (En [DB a] [] 0 (Bm (M+3) op [DB a] (1,1) (M+2)) true) else (En [DB a] [] 0 (Bm (M+3) op [DB a] (1,1) (M+2)) false))=_
  rw [d1,Option.bind_some,cond_true]
  show (EW (DB a).num).bind (fun x354=>(HB 16 ([]:List Ad) [x354.1]).bind fun _=>Bm (M+3) op [DB a] (1,1) (M+2) true ([]++[x354.1]) (IntKind.i64.wrap (0+1)))=_
  rw [o1,Option.bind_some]
  show CV (M+3) op [DB a] (1,1) (Bm (M+3) op [DB a] (1,1) (M+1)) true [a] 1=_
  unfold CV uno
  rcases hh with rfl|rfl|rfl
  ·rw [if_pos rfl];rfl
  ·rw [if_neg (by decide),if_pos rfl];rfl
  ·rw [if_neg (by decide),if_neg (by decide)]
   show ((CY ⟨a.re,IntKind.i64.wrap (0 - a.im)⟩ 0).bind fun x1213=>some (x1213.1,x1213.2))=_
   have:=ha.imA
   rw [wr om om,Int.zero_sub];rfl
def Res(t:Int)(r:AF×Int):Prop:=(r.2=0∧VV t r.1)∨((r.2=50∨r.2=51)∧r.1=v0)
theorem ACL{a:Ad}(h:Hi a):VV 1 (DB a):= .inl ⟨rfl,rfl,.of h,rfl,rfl⟩
theorem WH{x:Ad×Int}(h:(x.2=0∧Hi x.1)∨x.2=50∨x.2=51):Res 1 (nv x):=by
 unfold nv
 rcases h with ⟨h1,h2⟩|h
 ·rw [if_pos h1];exact .inl ⟨rfl,ACL h2⟩
 ·rw [if_neg om];exact .inr ⟨h,rfl⟩
theorem WI(n:Ad):((inn n).2=0∧Hi (inn n).1)∨(inn n).2=50∨(inn n).2=51:=by
 unfold inn
 rcases Decidable.em (Hi n) with h|h
 ·rw [if_pos h];exact .inl ⟨rfl,h⟩
 ·rw [if_neg h];exact .inr (.inl rfl)
theorem ACM(a b:Ad):((quo a b).2=0∧Hi (quo a b).1)∨(quo a b).2=50∨(quo a b).2=51:=by
 unfold quo
 simp only
 split
 ·exact .inr (.inr rfl)
 ·exact WI _
theorem Yj(b:Bool):VV 2 ⟨2,(0,0),b,[]⟩:= .inr (.inl ⟨rfl,rfl,rfl,rfl⟩)
def opT(op:Int):Int:=if op=12∨op=13∨op=14 then 2 else 1
theorem vv1{v:AF}(h:VV 1 v): ∃a,Hi a∧v=DB a:=by
 rcases h with ⟨_,h1,h2,h3,h4⟩| ⟨h,_⟩| ⟨h,_⟩
 ·obtain ⟨n,hn,e⟩:=(QI _).1 h2
  refine ⟨n,hn,?_⟩
  cases v;simp only at h1 h2 h3 h4 e;rw [DB,h1,h3,h4,e]
 ·cases h
 ·cases h
theorem vv2{v:AF}(h:VV 2 v):v=⟨2,(0,0),v.bool,[]⟩:=by
 rcases h with ⟨h,_⟩| ⟨_,h1,h2,h3⟩| ⟨h,_⟩
 ·cases h
 ·cases v;simp only at h1 h2 h3;rw [h1,h2,h3]
 ·cases h
theorem XH{op:Int}{args:List AF}(h:(8≤op∧op≤13∧∃a b,VV 1 a∧VV 1 b∧args=[a,b])∨(op=14∧∃a,VV 2 a∧args=[a])∨(15≤op∧op≤17∧∃a,VV 1 a∧args=[a])):
  ∃r,Res (opT op) r∧∀N,2^54≤N→EQ N op args=some r∧Dc N op args=some r:=by
 rcases h with ⟨h1,h2,x,y,hx,hy,rfl⟩| ⟨rfl,x,hx,rfl⟩| ⟨h1,h2,x,hx,rfl⟩
 ·obtain ⟨a,ha,rfl⟩:=vv1 hx
  obtain ⟨b,hb,rfl⟩:=vv1 hy
  refine ⟨two op a b,?_,fun N hN=>ACI hN ⟨h1,h2⟩ ha hb⟩
  unfold two opT
  have hh:op=8∨op=9∨op=10∨op=11∨op=12∨op=13:=om
  rcases hh with rfl|rfl|rfl|rfl|rfl|rfl
  ·exact WH (WI _)
  ·exact WH (WI _)
  ·exact WH (WI _)
  ·exact WH (ACM a b)
  ·exact .inl ⟨rfl,Yj _⟩
  ·exact .inl ⟨rfl,Yj _⟩
 ·rw [vv2 hx]
  exact ⟨(Jh !x.bool,0),.inl ⟨rfl,Yj _⟩,fun N hN=>AA7 hN⟩
 ·obtain ⟨a,ha,rfl⟩:=vv1 hx
  refine ⟨uno op a,?_,fun N hN=>ACK hN ⟨h1,h2⟩ ha⟩
  have e:opT op=1:=by unfold opT;rw [if_neg om]
  rw [e]
  refine .inl ⟨rfl,ACL ?_⟩
  obtain ⟨⟨l1,l2⟩,l3,l4⟩:=ha
  split
  ·exact ⟨⟨l1,l2⟩,by simp,by simp⟩
  ·split
   ·exact ⟨⟨l3,l4⟩,by simp,by simp⟩
   ·exact ⟨⟨l1,l2⟩,by simp only;omega,by simp only;omega⟩
end Fth
namespace Fth
open Go
theorem Zu{N:Nat}{t:List UInt8}(hl:t.length≤10000000)(hN:t.length+3≤N):T (GO N t) fun ws=>ws.length≤t.length+1∧∀w∈ws,w.length≤t.length:=by
 have key: ∀(k:Nat) (ws:List (List UInt8)) (f i:Int),0≤f→f≤i+1→0≤i→i≤t.length+1→(t.length:Int)+1 - i<k→ws.length≤i→(∀w∈ws,w.length≤t.length)→T (Eh t k ws f i) fun ws=>ws.length≤t.length+1∧∀w∈ws,w.length≤t.length:=by
  intro k
  induction k with
  |zero=>intro ws f i _ _ _ _ _;omega
  |succ k ih=>
   intro ws f i h1 h2 h3 h4 h5 h6 h7
   show T (FV t (Eh t k) ws f i) _
   unfold FV
   refine T.cond (fun h=>?_) fun h=>?_
   ·have h:=CR h
    have e1:IntKind.i64.wrap (i+1)=i+1:=wr om om
    have go: ∀b,T (Gq t ws f i (Eh t k) b) fun ws=>ws.length≤t.length+1∧∀w∈ws,w.length≤t.length:=by
     intro b
     unfold Gq Ht Hs
     rw [e1]
     refine T.cond (fun _=>ih _ _ _ h1 om om om om om h7) fun _=>T.cond (fun hgt=>?_) fun _=>ih _ _ _ om om om om om om h7
     have hgt:=CR hgt
     refine T.bind (Nr h1 om h) fun w hw=>T.bind (GC om (by simp;omega)) fun _ _=>ih _ _ _ om om om om om (by simp;omega) fun x hx=>?_
     rcases List.mem_append.1 hx with hx|hx
     ·exact h7 x hx
     ·simp at hx;subst hx;subst hw;simp;omega
    exact T.cond (fun hi=>T.bind (E7 h3 (CR hi)) fun c _=>go _) fun _=>go _
   ·have h:=Dj h
    exact .some ⟨om,h7⟩
 exact key N [] 0 0 om om om om om (by simp) (by simp)
theorem VF{N:Nat}{z:Nat×Nat}(hN:40≤N)(h:Gn z):T (EZ N z) fun s=>s.length≤100:=by
 obtain ⟨n,hn,rfl,ho⟩:=Zg h
 unfold EZ
 exact T.eq ho (T.bind (X1 hN hn.1.1 hn.1.2 hn.2.1 hn.2.2) fun s hs=> .some hs)
theorem Zv{N:Nat}{v:AF}(h:GV v)(hl:v.list.length≤20000000)(hN:v.list.length+50≤N):T (Gt N v) fun _=>True:=by
 unfold Gt
 refine T.eq (NM h om) (T.cond (fun _=> .some trivial) fun _=>T.cond (fun _=>T.bind (VF om h.1) fun _ _=> .some trivial) fun _=>T.cond (fun _=>T.cond (fun _=> .some trivial) fun _=> .some trivial) fun _=>?_)
 have key: ∀(k:Nat) (s:List UInt8) (i:Int),0≤i→i≤v.list.length→(v.list.length:Int) - i<k→(s.length:Int)≤101*i→T (FW N v k s i) fun _=>True:=by
  intro k
  induction k with
  |zero=>intro s i _ _ _;omega
  |succ k ih=>
   intro s i h0 h1 h2 h3
   show T (Fy N v (FW N v k) s i) _
   unfold Fy
   refine T.cond (fun hi=>?_) fun _=>T.bind (Mc (by simp;omega)) fun u hu=>T.bind (Mc (by subst hu;simp;omega)) fun _ _=> .some trivial
   have hi:=CR hi
   have go: ∀s':List UInt8,(s'.length:Int)≤101*i+1→T (Hd N v i (FW N v k) s') fun _=>True:=by
    intro s' hs'
    unfold Hd
    refine T.bind (E7 h0 hi) fun z hz=>T.bind (VF om (h.2.1 z (List.mem_of_getElem? hz))) fun u hu=>T.bind (GC om om) fun _ _=>?_
    rw [wr om om]
    exact ih _ _ om om om (by simp;omega)
   exact T.cond (fun _=>T.bind (GC om (by simp;omega)) fun _ _=>go _ (by simp;omega)) fun _=>go _ om
 exact key N [] 0 om om om (by simp)
theorem Yk{N:Nat}{t:List UInt8}(hl:t.length≤10000000)(hN:t.length+100≤N):T (Fq N t) fun x=>x.2=0→VV x.1.type_ x.1∧x.1.list.length≤t.length+1:=by
 have j1: ∀b,T (Gu N t b) fun x=>x.2=0→VV x.1.type_ x.1∧x.1.list.length≤t.length+1:=by
  intro b
  unfold Gu
  refine T.cond (fun _=> .some fun _=>⟨Yj _,by simp⟩) fun _=>T.bind (RM om om) fun x hx=>T.cond (fun h=>?_) fun _=>?_
  ·have hx:=hx (CN h)
   refine .some (a:=_) fun _=>⟨ACL (a:=x.1) ⟨⟨hx.1,hx.2.1⟩,hx.2.2.1,hx.2.2.2⟩,by simp⟩
  ·have j2: ∀b,(b=false→2≤t.length)→T (F0 N t x b) fun x=>x.2=0→VV x.1.type_ x.1∧x.1.list.length≤t.length+1:=by
    intro b hb
    unfold F0
    refine T.cond (fun _=> .some fun h=>by cases h) fun h=>?_
    have h2:=hb h
    rw [wr om om]
    refine T.bind (Nr om om om) fun u hu=>?_
    have hul:u.length≤t.length:=by subst hu;simp;omega
    refine T.bind (Zu om om) fun ws hws=>?_
    have key: ∀(k:Nat) (i a b:Int) (l:List (Nat×Nat)),0≤i→i≤ws.length→(ws.length:Int) - i<k→(l.length:Int)=i→(∀z∈l,Gn z)→T (FG N t ws k i a b l) fun x=>x.2=0→VV x.1.type_ x.1∧x.1.list.length≤t.length+1:=by
     intro k
     induction k with
     |zero=>intro i a b l _ _ _;omega
     |succ k ih=>
      intro i a b l h0 h1 h3 h4 h5
      show T (FX N t ws (FG N t ws k) i a b l) _
      unfold FX
      refine T.cond (fun hi=>?_) fun _=>?_
      ·have hi:=CR hi
       refine T.bind (E7 h0 hi) fun w hw=>?_
       have hwl:=hws.2 w (List.mem_of_getElem? hw)
       refine T.bind (RM om om) fun y hy=>T.cond (fun _=> .some fun h=>by cases h) fun h=>?_
       have hy:=hy (KH h)
       refine T.bind (ACq hy) fun z hz=>T.bind (GC om (by simp;omega)) fun _ _=>?_
       rw [wr om om]
       refine ih _ _ _ _ om om om (by simp;omega) fun q hq=>?_
       rcases List.mem_append.1 hq with hq|hq
       ·exact h5 q hq
       ·simp at hq;subst hq;exact hz
      ·have gv:GV ⟨3,(0,0),false,l⟩:=⟨gn0,h5,by simp only;omega⟩
       refine T.bind (Zv gv (by simp only;omega) (by simp only;omega)) fun _ _=>T.cond (fun _=> .some fun h=>by cases h) fun _=> .some fun _=>⟨.inr (.inr ⟨rfl,rfl,rfl,rfl,h5⟩),by simp only;omega⟩
    exact key N 0 _ _ [] om om om (by simp) (by simp)
   refine T.cond (fun _=>j2 _ fun h=>by cases h) fun h=>?_
   have h:=Dj h
   refine T.bind (E7 om om) fun c _=>T.cond (fun _=>j2 _ fun h=>by cases h) fun _=>?_
   rw [wr om om]
   exact T.bind (E7 om om) fun c _=>j2 _ fun _=>om
 unfold Fq
 exact T.cond (fun _=>j1 _) fun _=>j1 _
def LV(l:List AF):Prop:=(∀v∈l,VV v.type_ v∧v.list.length≤1048577)∧l.length≤1048576
theorem Zw{N:Nat}{t:List UInt8}(hl:t.length≤1048576)(hN:t.length+200≤N):T (Id N t) fun x=>LV x.1:=by
 have outer: ∀(k:Nat) (l:List AF) (i:Int),0≤i→i≤t.length→(t.length:Int) - i<k→(l.length:Int)≤i→(∀v∈l,VV v.type_ v∧v.list.length≤1048577)→T (CZ N t k l i) fun x=>LV x.1:=by
  intro k
  induction k with
  |zero=>intro l i _ _ _;omega
  |succ k ih=>
   intro l i h0 h1 h2 h3 h4
   show T (FZ N t (CZ N t k) l i) _
   unfold FZ
   refine T.cond (fun hi=>?_) fun hi=> .some ⟨h4,by have:=Dj hi;simp only;omega⟩
   have hi:=CR hi
   refine T.bind (E7 h0 hi) fun c hc=>T.cond (fun _=>?_) fun hb=>?_
   ·rw [wr om om]
    exact ih _ _ om om om om h4
   ·have hb:=B1 hb
    refine T.bind (E7 h0 hi) fun c' _=>?_
    have inner: ∀(j:Nat) (p:Int) (b:Bool),i≤p→p≤t.length→(t.length:Int) - p<j→(p=i∨i<p)→T (EO N t l i (CZ N t k) j p b) fun x=>LV x.1:=by
     intro j
     induction j with
     |zero=>intro p b _ _ _;omega
     |succ j ihj=>
      intro p b hp1 hp2 hp3 hp4
      show T (FY N t l i (CZ N t k) (EO N t l i (CZ N t k) j) p b) _
      unfold FY
      have on:p<t.length→T (Ei N t l i (CZ N t k) p b (EO N t l i (CZ N t k) j) true) fun x=>LV x.1:=by
       intro hp
       unfold Ei Hu
       rw [wr (x:=p+1) om om]
       refine T.cond (fun _=>T.bind (E7 om hp) fun d _=>T.cond (fun _=>ihj _ _ om om om om) fun _=>ihj _ _ om om om om) fun h=>by cases h
      have off:i<p→T (Ei N t l i (CZ N t k) p b (EO N t l i (CZ N t k) j) false) fun x=>LV x.1:=by
       intro hp
       unfold Ei
       refine T.cond (fun h=>by cases h) fun _=>T.bind (Nr h0 om hp2) fun u hu=>?_
       have hul:u.length≤t.length:=by subst hu;simp;omega
       refine T.bind (Yk om om) fun x hx=>T.cond (fun _=> .some ⟨fun v h=>(by cases h),Nat.zero_le _⟩) fun h=>?_
       have hx:=hx (KH h)
       refine T.bind (GC om (by simp;omega)) fun _ _=>ih _ _ om om om (by simp;omega) fun v hv=>?_
       rcases List.mem_append.1 hv with hv|hv
       ·exact h4 v hv
       ·simp at hv;subst hv;exact ⟨hx.1,by have:=hx.2;omega⟩
      refine T.cond (fun hp=>?_) fun hp=>?_
      ·have hp:=CR hp
       refine T.cond (fun _=>on hp) fun _=>T.bind (E7 om hp) fun d hd=>?_
       cases hne:(((d.toNat:Nat):Int) != (((32:UInt8).toNat:Nat):Int))
       ·have hne:=KH hne
        refine off ?_
        rcases hp4 with rfl|hp4
        ·rw [hd] at hc;cases hc;exact absurd hne hb
        ·exact hp4
       ·exact on hp
      ·have hp:=Dj hp
       exact off om
    exact inner N i _ om om om (.inl rfl)
 exact outer N [] 0 om om om (by simp) (by simp)
theorem AA8{N:Nat}{a:Ft}(hl:a.args.length≤1048576)(hN:20000000≤N):T (Cq N a) fun x=>WPt x.1∧LV x.2.1:=by
 unfold Cq Gv JZ
 refine T.bind (P:=fun l=>l=⟨32768,32768,32768,32768⟩) (.some rfl) fun l hlm=>?_
 subst hlm
 refine T.bind (Yf om a.text) fun x hx=>T.bind (Zw hl om) fun y hy=>T.cond (fun h=> .some ⟨hx,hy⟩) fun _=> .some ⟨hx,hy⟩
end Fth
namespace Fth
open Go
theorem Ev.up{p:Nat→Prop}(k:Nat)(h:Ev p):Ev fun N=>p (N+k):=let ⟨n,hn⟩:=h;⟨n,fun N hN=>hn _ om⟩
theorem Ev.down{p:Nat→Prop}(k:Nat)(h:Ev fun N=>p (N+k)):Ev p:=by
 obtain ⟨n,hn⟩:=h
 refine ⟨n+k,fun N hN=>?_⟩
 have:=hn (N - k) om
 dsimp only at this
 rwa [Nat.sub_add_cancel om] at this
def hd(p:AM)(nm:List UInt8):Option AO:=p.funcs.find? fun f=>f.name==nm
def fnd(nm:List UInt8):Nm→Option Th
 | .nil=>none
 | .bind n t o=>bif n==nm then some t else fnd nm o
 | .letrec n e o=>bif n==nm then some (.later e (.letrec n e o)) else fnd nm o
theorem SZ{nm:List UInt8}{ρ:Nm}{th:Th}(h:fnd nm ρ=some th):Ev fun N=>Dl N ρ nm=some th∧GX N ρ nm=some th:=by
 revert h
 refine Nm.rec (motive_1:=fun ρ=>fnd nm ρ=some th→Ev fun N=>Dl N ρ nm=some th∧GX N ρ nm=some th) (motive_2:=fun _=>True) ?_ ?_ ?_ ?_ ?_ ?_ ρ
 ·intro h;cases h
 ·intro n t o _ ih h
  rw [fnd] at h
  cases hn:(n==nm)
  ·rw [hn] at h
   refine Ev.down 1 ((ih h).mono fun N hN=>?_)
   constructor
   ·show (bif !(n==nm) then Eb nm N o else some t)=_
    rw [hn];exact hN.1
   ·show (bif !(n==nm) then G5 nm N o else some t)=_
    rw [hn];exact hN.2
  ·rw [hn] at h
   refine Ev.down 1 (Ev.all fun N=>?_)
   constructor
   ·show (bif !(n==nm) then Eb nm N o else some t)=_
    rw [hn];exact h
   ·show (bif !(n==nm) then G5 nm N o else some t)=_
    rw [hn];exact h
 ·intro n e o ih h
  rw [fnd] at h
  cases hn:(n==nm)
  ·rw [hn] at h
   refine Ev.down 1 ((ih h).mono fun N hN=>?_)
   constructor
   ·show (bif !(n==nm) then Eb nm N o else some (.later e (.letrec n e o)))=_
    rw [hn];exact hN.1
   ·show (bif !(n==nm) then G5 nm N o else some (.later e (.letrec n e o)))=_
    rw [hn];exact hN.2
  ·rw [hn] at h
   refine Ev.down 1 (Ev.all fun N=>?_)
   constructor
   ·show (bif !(n==nm) then Eb nm N o else some (.later e (.letrec n e o)))=_
    rw [hn];exact h
   ·show (bif !(n==nm) then G5 nm N o else some (.later e (.letrec n e o)))=_
    rw [hn];exact h
 ·trivial
 ·intros;trivial
 ·intros;trivial
def UD(ρ:Nm):List AJ→List AE→Nm→Nm
 |x::ps,a::bs,acc=>UD ρ ps bs (.bind x.name (.later a ρ) acc)
 |_,_,acc=>acc
def Ap(op:Int)(args:List AF)(r:AF×Int):Prop:=∀N,2^54≤N→EQ N op args=some r∧Dc N op args=some r
def fin(r:AF×Int):Except Int Aw:=bif r.2 != 0 then .error r.2 else .ok ⟨r.1,.nil,.nil⟩
def plain(v:AF):Except Int Aw:= .ok ⟨v,.nil,.nil⟩
inductive Lk(p:AM)(m:Nat):Nat→AE→Nm→Except Int Aw→Nat→Prop
 |fuel {c e ρ} (h:m≤c):Lk p m c e ρ (.error 60) c
 |num {c e ρ} (h:c<m) (ho:e.op=1):Lk p m c e ρ (plain ⟨1,e.num,false,[]⟩) (c+1)
 |tru {c e ρ} (h:c<m) (ho:e.op=2):Lk p m c e ρ (plain ⟨2,(0,0),true,[]⟩) (c+1)
 |fls {c e ρ} (h:c<m) (ho:e.op=3):Lk p m c e ρ (plain ⟨2,(0,0),false,[]⟩) (c+1)
 |nil {c e ρ} (h:c<m) (ho:e.op=4):Lk p m c e ρ (plain ⟨3,(0,0),false,[]⟩) (c+1)
 |fail {c e ρ} (h:c<m) (ho:e.op=5):Lk p m c e ρ (.error 52) (c+1)
 |vdone {c e ρ x} (h:c<m) (ho:e.op=6) (hf:fnd e.name ρ=some (.done x.plain x.head x.tail)):Lk p m c e ρ (.ok x) (c+1)
 |vlater {c e ρ e' ρ' r c'} (h:c<m) (ho:e.op=6) (hf:fnd e.name ρ=some (.later e' ρ')) (h1:Lk p m (c+1) e' ρ' r c'):Lk p m c e ρ r c'
 |call {c e ρ f r c'} (h:c<m) (ho:e.op=7) (hf:hd p e.name=some f) (hl:f.params.length=e.args.length) (h1:Lk p m (c+1) f.body (UD ρ f.params e.args .nil) r c'):Lk p m c e ρ r c'
 |cons {c e ρ a b} (h:c<m) (ho:e.op=18) (ha:e.args=[a,b]):Lk p m c e ρ (.ok ⟨v0,.later a ρ,.later b ρ⟩) (c+1)
 |ifE {c e ρ a b d y c'} (h:c<m) (ho:e.op=19) (ha:e.args=[a,b,d]) (h1:Lk p m (c+1) a ρ (.error y) c'):Lk p m c e ρ (.error y) c'
 |ifT {c e ρ a b d x c1 r c'} (h:c<m) (ho:e.op=19) (ha:e.args=[a,b,d]) (h1:Lk p m (c+1) a ρ (.ok x) c1) (hb:x.plain.bool=true) (h2:Lk p m c1 b ρ r c'):Lk p m c e ρ r c'
 |ifF {c e ρ a b d x c1 r c'} (h:c<m) (ho:e.op=19) (ha:e.args=[a,b,d]) (h1:Lk p m (c+1) a ρ (.ok x) c1) (hb:x.plain.bool=false) (h2:Lk p m c1 d ρ r c'):Lk p m c e ρ r c'
 |caE {c e ρ a b d y c'} (h:c<m) (ho:e.op=20) (ha:e.args=[a,b,d]) (h1:Lk p m (c+1) a ρ (.error y) c'):Lk p m c e ρ (.error y) c'
 |caN {c e ρ a b d x c1 r c'} (h:c<m) (ho:e.op=20) (ha:e.args=[a,b,d]) (h1:Lk p m (c+1) a ρ (.ok x) c1) (hb:x.head.isNil=true) (h2:Lk p m c1 b ρ r c'):Lk p m c e ρ r c'
 |caC {c e ρ a b d x c1 r c'} (h:c<m) (ho:e.op=20) (ha:e.args=[a,b,d]) (h1:Lk p m (c+1) a ρ (.ok x) c1) (hb:x.head.isNil=false) (h2:Lk p m c1 d (.bind e.tail x.tail (.bind e.name x.head ρ)) r c'):Lk p m c e ρ r c'
 |lt {c e ρ a b r c'} (h:c<m) (ho:e.op=21) (ha:e.args=[a,b]) (h1:Lk p m (c+1) b (.letrec e.name a ρ) r c'):Lk p m c e ρ r c'
 |stE {c e ρ a b y c'} (h:c<m) (ho:e.op=22) (ha:e.args=[a,b]) (h1:Lk p m (c+1) a ρ (.error y) c'):Lk p m c e ρ (.error y) c'
 |stV {c e ρ a b x c1 r c'} (h:c<m) (ho:e.op=22) (ha:e.args=[a,b]) (h1:Lk p m (c+1) a ρ (.ok x) c1) (h2:Lk p m c1 b (.bind e.name (.done x.plain x.head x.tail) ρ) r c'):Lk p m c e ρ r c'
 |unE {c e ρ a y c'} (h:c<m) (ho:14≤e.op∧e.op≤17) (ha:e.args=[a]) (h1:Lk p m (c+1) a ρ (.error y) c'):Lk p m c e ρ (.error y) c'
 |un {c e ρ a x c' r} (h:c<m) (ho:14≤e.op∧e.op≤17) (ha:e.args=[a]) (h1:Lk p m (c+1) a ρ (.ok x) c') (hr:Ap e.op [x.plain] r):Lk p m c e ρ (fin r) c'
 |biE {c e ρ a b y c'} (h:c<m) (ho:8≤e.op∧e.op≤13) (ha:e.args=[a,b]) (h1:Lk p m (c+1) a ρ (.error y) c'):Lk p m c e ρ (.error y) c'
 |biE2 {c e ρ a b x c1 y c'} (h:c<m) (ho:8≤e.op∧e.op≤13) (ha:e.args=[a,b]) (h1:Lk p m (c+1) a ρ (.ok x) c1) (h2:Lk p m c1 b ρ (.error y) c'):Lk p m c e ρ (.error y) c'
 |bi {c e ρ a b x c1 z c' r} (h:c<m) (ho:8≤e.op∧e.op≤13) (ha:e.args=[a,b]) (h1:Lk p m (c+1) a ρ (.ok x) c1) (h2:Lk p m c1 b ρ (.ok z) c') (hr:Ap e.op [x.plain,z.plain] r):Lk p m c e ρ (fin r) c'
theorem PX{α:Type}(r:Except Int α){β:Type}(b:β):Jt r (fun y=>some ((Except.error y:Except Int α),b)) (fun x=>some ((Except.ok x:Except Int α),b))=some (r,b):=by cases r<;>rfl
def Mpp(p:AM)(mp:Aq):Prop:=∀nm f,hd p nm=some f→idx p.funcs (Cu mp nm)=some f
section
variable{φ:Ac}{N:Nat}{fs:List AO}{c m:Int}{mp:Aq}{e:AE}{ρ:Nm}
theorem LF(h:c<m):BI φ N fs c m mp e ρ=Cd φ N fs c m mp e ρ:=by
 unfold BI
 rw [show decide (c≥m)=false from decide_eq_false om];rfl
theorem Ji(h:(8≤e.op∧e.op≤17)∨(19≤e.op∧e.op≤22)):Cd φ N fs c m mp e ρ=φ.mean_run_parts fs (IntKind.i64.wrap (c+1)) m mp e ρ:=by
 unfold Cd LI
 rw [show (e.op==1)=false by simp;omega,show (e.op==2)=false by simp;omega,show (e.op==3)=false by simp;omega,show (e.op==4)=false by simp;omega,show (e.op==5)=false by simp;omega,show (e.op==6)=false by simp;omega,show (e.op==7)=false by simp;omega,show (e.op==18)=false by simp;omega]
 simp only [cond_false]
 cases φ.mean_run_parts fs (IntKind.i64.wrap (c+1)) m mp e ρ with
 |none=>rfl
 |some x=>exact PX x.1 x.2
end
section
variable{p:AM}{mp:Aq}{m:Nat}
theorem WJ(hp:WP p)(hmp:Mpp p mp)(hm:m≤16384){c:Nat}{e:AE}{ρ:Nm}{r:Except Int Aw}{c':Nat}(h:Lk p m c e ρ r c'):
  Ev fun N=>mean_run_look N p.funcs c m mp e ρ=some (r,p.funcs,(c':Int),(m:Int)):=by
 have w1: ∀c:Nat,c<m→IntKind.i64.wrap ((c:Int)+1)=((c+1:Nat):Int):=fun c h=>by rw [wr om om];omega
 have lt: ∀c:Nat,c<m→(c:Int)< (m:Int):=fun c h=>om
 induction h with
 | @fuel c e ρ h=>
  refine Ev.down 1 (Ev.all fun N=>?_)
  show BI _ N p.funcs c m mp e ρ=_
  unfold BI
  rw [show decide ((c:Int)≥(m:Int))=true from decide_eq_true om];rfl
 | @num c e ρ h ho=>
  refine Ev.down 1 (Ev.all fun N=>?_)
  show BI _ N p.funcs c m mp e ρ=_
  rw [LF (lt c h)];unfold Cd;rw [ho,w1 c h];rfl
 | @tru c e ρ h ho=>
  refine Ev.down 1 (Ev.all fun N=>?_)
  show BI _ N p.funcs c m mp e ρ=_
  rw [LF (lt c h)];unfold Cd;rw [ho,w1 c h];rfl
 | @fls c e ρ h ho=>
  refine Ev.down 1 (Ev.all fun N=>?_)
  show BI _ N p.funcs c m mp e ρ=_
  rw [LF (lt c h)];unfold Cd;rw [ho,w1 c h];rfl
 | @nil c e ρ h ho=>
  refine Ev.down 1 (Ev.all fun N=>?_)
  show BI _ N p.funcs c m mp e ρ=_
  rw [LF (lt c h)];unfold Cd;rw [ho,w1 c h];rfl
 | @fail c e ρ h ho=>
  refine Ev.down 1 (Ev.all fun N=>?_)
  show BI _ N p.funcs c m mp e ρ=_
  rw [LF (lt c h)];unfold Cd;rw [ho,w1 c h];rfl
 | @vdone c e ρ x h ho hf=>
  refine Ev.down 2 (((SZ hf).up 1).mono fun N hN=>?_)
  show BI _ (N+1) p.funcs c m mp e ρ=_
  rw [LF (lt c h)];unfold Cd;rw [ho,w1 c h]
  show ((Dl (N+1) ρ e.name).bind fun x1087=>_)=_
  rw [hN.1];rfl
 | @vlater c e ρ e' ρ' r c' h ho hf _ ih=>
  refine Ev.down 3 ((((SZ hf).up 2).and ih).mono fun N hN=>?_)
  show BI _ (N+2) p.funcs c m mp e ρ=_
  rw [LF (lt c h)];unfold Cd;rw [ho,w1 c h]
  show ((Dl (N+2) ρ e.name).bind fun x1087=>_)=_
  rw [hN.1.1]
  show (((mean_run_look N p.funcs ((c+1:Nat):Int) m mp e' ρ').bind fun x29=>Jt x29.1 (fun y43=>some ((Except.error y43:Except Int Aw),x29.2.1,x29.2.2.1,x29.2.2.2)) fun r45=>some ((Except.ok r45:Except Int Aw),x29.2.1,x29.2.2.1,x29.2.2.2)).bind fun x1098=>Jt x1098.1 (fun y1116=>some ((Except.error y1116:Except Int Aw),x1098.2.1,x1098.2.2.1,x1098.2.2.2)) fun r1118=>some ((Except.ok r1118:Except Int Aw),x1098.2.1,x1098.2.2.1,x1098.2.2.2))=_
  rw [hN.2,Option.bind_some]
  dsimp only
  rw [PX,Option.bind_some]
  exact PX _ _
 | @call c e ρ f r c' h ho hf hl _ ih=>
  have hfm:f∈p.funcs:=List.mem_of_find?_eq_some hf
  have hps:=(hp.fns f hfm).pars
  have loop: ∀(N k i:Nat) (acc:Nm),i≤f.params.length→f.params.length<i+k→mean_run_look N p.funcs ((c+1:Nat):Int) m mp f.body (UD ρ (f.params.drop i) (e.args.drop i) acc)=some (r,p.funcs,(c':Int),(m:Int))→
    GU (Ac.at N) p.funcs c m mp e ρ f k acc (i:Int)=some (r,p.funcs,(c':Int),(m:Int)):=by
   intro N k
   induction k with
   |zero=>intro i acc _ _;omega
   |succ k ihk=>
    intro i acc hi hk hN
    show Jb _ p.funcs c m mp e ρ f (GU _ p.funcs c m mp e ρ f k) acc i=_
    unfold Jb
    cases hd':decide ((i:Int)< (f.params.length:Int))
    ·have hd':=Dj hd'
     have hi':i=f.params.length:=om
     rw [cond_false,w1 c h,QF]
     have e1:f.params.drop i=[]:=by rw [hi'];exact List.drop_length
     rw [e1] at hN
     have e2:UD ρ [] (e.args.drop i) acc=acc:=by cases e.args.drop i<;>rfl
     rw [e2] at hN
     show ((mean_run_look N p.funcs ((c+1:Nat):Int) m mp f.body acc).bind fun x1655=>_)=_
     rw [hN]
     exact PX _ _
    ·have hd':=CR hd'
     have i1:i<f.params.length:=om
     have i2:i<e.args.length:=om
     obtain ⟨x,hx,hx'⟩:=E7 (xs:=f.params) (i:=(i:Int)) om hd'
     obtain ⟨a,ha,ha'⟩:=E7 (xs:=e.args) (i:=(i:Int)) om om
     rw [cond_true,hx,Option.bind_some,ha,Option.bind_some,wr om om,show (i:Int)+1=((i+1:Nat):Int) by omega]
     refine ihk (i+1) (.bind x.name (.later a ρ) acc) om om ?_
     have e1:f.params.drop i=x::f.params.drop (i+1):=by
      rw [List.drop_eq_getElem_cons i1];congr 1
      have:=List.getElem?_eq_getElem i1
      rw [Int.toNat_natCast,this] at hx';exact Option.some.inj hx'
     have e2:e.args.drop i=a::e.args.drop (i+1):=by
      rw [List.drop_eq_getElem_cons i2];congr 1
      have:=List.getElem?_eq_getElem i2
      rw [Int.toNat_natCast,this] at ha';exact Option.some.inj ha'
     rw [e1,e2] at hN
     exact hN
  refine Ev.down 1 ((ih.and (NK (f.params.length+1))).mono fun N hN=>?_)
  show BI _ N p.funcs c m mp e ρ=_
  rw [LF (lt c h)];unfold Cd;rw [ho]
  show ((idx p.funcs (Cu mp e.name)).bind fun x1151=>GU _ p.funcs c m mp e ρ x1151 N Nm.nil 0)=_
  rw [hmp _ _ hf,Option.bind_some]
  exact loop N N 0 .nil om om hN.1
 | @cons c e ρ a b h ho ha=>
  refine Ev.down 1 (Ev.all fun N=>?_)
  show BI _ N p.funcs c m mp e ρ=_
  rw [LF (lt c h)];unfold Cd;rw [ho,w1 c h,ha];rfl
 | @ifE c e ρ a b d y c' h ho ha _ ih=>
  refine Ev.down 2 (ih.mono fun N hN=>?_)
  show BI _ (N+1) p.funcs c m mp e ρ=_
  rw [LF (lt c h),Ji om,w1 c h]
  show A7 (Ac.at N) N p.funcs ((c+1:Nat):Int) m mp e ρ=_
  unfold A7;rw [ho,ha]
  show ((mean_run_look N p.funcs ((c+1:Nat):Int) m mp a ρ).bind fun x51=>_)=_
  rw [hN];rfl
 | @ifT c e ρ a b d x c1 r c' h ho ha _ hb _ ih1 ih2=>
  refine Ev.down 2 ((ih1.and ih2).mono fun N hN=>?_)
  show BI _ (N+1) p.funcs c m mp e ρ=_
  rw [LF (lt c h),Ji om,w1 c h]
  show A7 (Ac.at N) N p.funcs ((c+1:Nat):Int) m mp e ρ=_
  unfold A7;rw [ho,ha]
  show ((mean_run_look N p.funcs ((c+1:Nat):Int) m mp a ρ).bind fun x51=>Jt x51.1 _ fun r67=>bif r67.plain.bool then _ else _)=_
  rw [hN.1,Option.bind_some]
  show (bif x.plain.bool then ((mean_run_look N p.funcs (c1:Int) m mp b ρ).bind fun x107=>_) else _)=_
  rw [hb,cond_true,hN.2]
  exact PX _ _
 | @ifF c e ρ a b d x c1 r c' h ho ha _ hb _ ih1 ih2=>
  refine Ev.down 2 ((ih1.and ih2).mono fun N hN=>?_)
  show BI _ (N+1) p.funcs c m mp e ρ=_
  rw [LF (lt c h),Ji om,w1 c h]
  show A7 (Ac.at N) N p.funcs ((c+1:Nat):Int) m mp e ρ=_
  unfold A7;rw [ho,ha]
  show ((mean_run_look N p.funcs ((c+1:Nat):Int) m mp a ρ).bind fun x51=>Jt x51.1 _ fun r67=>bif r67.plain.bool then _ else _)=_
  rw [hN.1,Option.bind_some]
  show (bif x.plain.bool then _ else ((mean_run_look N p.funcs (c1:Int) m mp d ρ).bind fun x107=>_))=_
  rw [hb,cond_false,hN.2]
  exact PX _ _
 | @caE c e ρ a b d y c' h ho ha _ ih=>
  refine Ev.down 2 (ih.mono fun N hN=>?_)
  show BI _ (N+1) p.funcs c m mp e ρ=_
  rw [LF (lt c h),Ji om,w1 c h]
  show A7 (Ac.at N) N p.funcs ((c+1:Nat):Int) m mp e ρ=_
  unfold A7;rw [ho,ha]
  show ((mean_run_look N p.funcs ((c+1:Nat):Int) m mp a ρ).bind fun x51=>_)=_
  rw [hN];rfl
 | @caN c e ρ a b d x c1 r c' h ho ha _ hb _ ih1 ih2=>
  refine Ev.down 2 ((ih1.and ih2).mono fun N hN=>?_)
  show BI _ (N+1) p.funcs c m mp e ρ=_
  rw [LF (lt c h),Ji om,w1 c h]
  show A7 (Ac.at N) N p.funcs ((c+1:Nat):Int) m mp e ρ=_
  unfold A7;rw [ho,ha]
  show ((mean_run_look N p.funcs ((c+1:Nat):Int) m mp a ρ).bind fun x51=>Jt x51.1 _ fun r67=>bif Th.isNil r67.head then _ else _)=_
  rw [hN.1,Option.bind_some]
  show (bif Th.isNil x.head then ((mean_run_look N p.funcs (c1:Int) m mp b ρ).bind fun x107=>_) else _)=_
  rw [hb,cond_true,hN.2]
  exact PX _ _
 | @caC c e ρ a b d x c1 r c' h ho ha _ hb _ ih1 ih2=>
  refine Ev.down 2 ((ih1.and ih2).mono fun N hN=>?_)
  show BI _ (N+1) p.funcs c m mp e ρ=_
  rw [LF (lt c h),Ji om,w1 c h]
  show A7 (Ac.at N) N p.funcs ((c+1:Nat):Int) m mp e ρ=_
  unfold A7;rw [ho,ha]
  show ((mean_run_look N p.funcs ((c+1:Nat):Int) m mp a ρ).bind fun x51=>Jt x51.1 _ fun r67=>bif Th.isNil r67.head then _ else _)=_
  rw [hN.1,Option.bind_some]
  show (bif Th.isNil x.head then _ else ((mean_run_look N p.funcs (c1:Int) m mp d (.bind e.tail x.tail (.bind e.name x.head ρ))).bind fun x107=>_))=_
  rw [hb,cond_false,hN.2]
  exact PX _ _
 | @lt c e ρ a b r c' h ho ha _ ih=>
  refine Ev.down 2 (ih.mono fun N hN=>?_)
  show BI _ (N+1) p.funcs c m mp e ρ=_
  rw [LF (lt c h),Ji om,w1 c h]
  show A7 (Ac.at N) N p.funcs ((c+1:Nat):Int) m mp e ρ=_
  unfold A7;rw [ho,ha]
  have ea:Jk a=some a:=rfl
  rw [show ((21:Int)==19)=false from rfl,cond_false,show ((21:Int)==20)=false from rfl,cond_false,show ((21:Int)==21)=true from rfl,cond_true,show idx [a,b] 0=some a from rfl,Option.bind_some,ea,Option.bind_some,show idx [a,b] 1=some b from rfl,Option.bind_some]
  show ((mean_run_look N p.funcs ((c+1:Nat):Int) m mp b (.letrec e.name a ρ)).bind fun x662=>_)=_
  rw [hN]
  exact PX _ _
 | @stE c e ρ a b y c' h ho ha _ ih=>
  refine Ev.down 2 (ih.mono fun N hN=>?_)
  show BI _ (N+1) p.funcs c m mp e ρ=_
  rw [LF (lt c h),Ji om,w1 c h]
  show A7 (Ac.at N) N p.funcs ((c+1:Nat):Int) m mp e ρ=_
  unfold A7;rw [ho,ha]
  show ((mean_run_look N p.funcs ((c+1:Nat):Int) m mp a ρ).bind fun x51=>_)=_
  rw [hN];rfl
 | @stV c e ρ a b x c1 r c' h ho ha _ _ ih1 ih2=>
  refine Ev.down 2 ((ih1.and ih2).mono fun N hN=>?_)
  show BI _ (N+1) p.funcs c m mp e ρ=_
  rw [LF (lt c h),Ji om,w1 c h]
  show A7 (Ac.at N) N p.funcs ((c+1:Nat):Int) m mp e ρ=_
  unfold A7;rw [ho,ha]
  show ((mean_run_look N p.funcs ((c+1:Nat):Int) m mp a ρ).bind fun x51=>_)=_
  rw [hN.1,Option.bind_some]
  show ((mean_run_look N p.funcs (c1:Int) m mp b (.bind e.name (.done x.plain x.head x.tail) ρ)).bind fun x107=>_)=_
  rw [hN.2]
  exact PX _ _
 | @unE c e ρ a y c' h ho ha _ ih=>
  refine Ev.down 5 ((ih.up 3).mono fun N hN=>?_)
  show BI _ (N+4) p.funcs c m mp e ρ=_
  rw [LF (lt c h),Ji om,w1 c h]
  show A7 (Ac.at (N+3)) (N+3) p.funcs ((c+1:Nat):Int) m mp e ρ=_
  unfold A7
  rw [show (e.op==19)=false by simp;omega,show (e.op==20)=false by simp;omega,show (e.op==21)=false by simp;omega,show (e.op==22)=false by simp;omega]
  show BX _ (N+3) mp e ρ _ [] 0 p.funcs ((c+1:Nat):Int) m=_
  unfold BX
  rw [ha]
  show ((mean_run_look (N+3) p.funcs ((c+1:Nat):Int) m mp a ρ).bind fun x51=>_)=_
  rw [hN];rfl
 | @un c e ρ a x c' r h ho ha _ hr ih=>
  refine Ev.down 5 (((ih.up 3).and (NK (2^54))).mono fun N hN=>?_)
  show BI _ (N+4) p.funcs c m mp e ρ=_
  rw [LF (lt c h),Ji om,w1 c h]
  show A7 (Ac.at (N+3)) (N+3) p.funcs ((c+1:Nat):Int) m mp e ρ=_
  unfold A7
  rw [show (e.op==19)=false by simp;omega,show (e.op==20)=false by simp;omega,show (e.op==21)=false by simp;omega,show (e.op==22)=false by simp;omega]
  have hA:=(hr (N+3) (by have:=hN.2;omega)).1
  generalize hop:e.op=op at*
  show BX _ (N+3) mp e ρ (DU (Ac.at (N+3)) (N+3) mp e ρ (N+2)) [] 0 p.funcs ((c+1:Nat):Int) m=_
  unfold BX
  rw [ha]
  show ((mean_run_look (N+3) p.funcs ((c+1:Nat):Int) m mp a ρ).bind fun x51=>_)=_
  rw [hN.1,Option.bind_some]
  show BX _ (N+3) mp e ρ (DU (Ac.at (N+3)) (N+3) mp e ρ (N+1)) [x.plain] 1 p.funcs (c':Int) m=_
  unfold BX
  rw [ha,hop]
  show ((EQ (N+3) op [x.plain]).bind fun x1312=>bif (x1312.2 != 0) then _ else _)=_
  rw [hA,Option.bind_some,fin]
  cases (r.2 != 0)<;>rfl
 | @biE c e ρ a b y c' h ho ha _ ih=>
  refine Ev.down 5 ((ih.up 3).mono fun N hN=>?_)
  show BI _ (N+4) p.funcs c m mp e ρ=_
  rw [LF (lt c h),Ji om,w1 c h]
  show A7 (Ac.at (N+3)) (N+3) p.funcs ((c+1:Nat):Int) m mp e ρ=_
  unfold A7
  rw [show (e.op==19)=false by simp;omega,show (e.op==20)=false by simp;omega,show (e.op==21)=false by simp;omega,show (e.op==22)=false by simp;omega]
  show BX _ (N+3) mp e ρ _ [] 0 p.funcs ((c+1:Nat):Int) m=_
  unfold BX
  rw [ha]
  show ((mean_run_look (N+3) p.funcs ((c+1:Nat):Int) m mp a ρ).bind fun x51=>_)=_
  rw [hN];rfl
 | @biE2 c e ρ a b x c1 y c' h ho ha _ _ ih1 ih2=>
  refine Ev.down 5 (((ih1.up 3).and (ih2.up 3)).mono fun N hN=>?_)
  show BI _ (N+4) p.funcs c m mp e ρ=_
  rw [LF (lt c h),Ji om,w1 c h]
  show A7 (Ac.at (N+3)) (N+3) p.funcs ((c+1:Nat):Int) m mp e ρ=_
  unfold A7
  rw [show (e.op==19)=false by simp;omega,show (e.op==20)=false by simp;omega,show (e.op==21)=false by simp;omega,show (e.op==22)=false by simp;omega]
  show BX _ (N+3) mp e ρ (DU (Ac.at (N+3)) (N+3) mp e ρ (N+2)) [] 0 p.funcs ((c+1:Nat):Int) m=_
  unfold BX
  rw [ha]
  show ((mean_run_look (N+3) p.funcs ((c+1:Nat):Int) m mp a ρ).bind fun x51=>_)=_
  rw [hN.1,Option.bind_some]
  show BX _ (N+3) mp e ρ (DU (Ac.at (N+3)) (N+3) mp e ρ (N+1)) [x.plain] 1 p.funcs (c1:Int) m=_
  unfold BX
  rw [ha]
  show ((mean_run_look (N+3) p.funcs (c1:Int) m mp b ρ).bind fun x51=>_)=_
  rw [hN.2];rfl
 | @bi c e ρ a b x c1 z c' r h ho ha _ _ hr ih1 ih2=>
  refine Ev.down 5 ((((ih1.up 3).and (ih2.up 3)).and (NK (2^54))).mono fun N hN=>?_)
  show BI _ (N+4) p.funcs c m mp e ρ=_
  rw [LF (lt c h),Ji om,w1 c h]
  show A7 (Ac.at (N+3)) (N+3) p.funcs ((c+1:Nat):Int) m mp e ρ=_
  unfold A7
  rw [show (e.op==19)=false by simp;omega,show (e.op==20)=false by simp;omega,show (e.op==21)=false by simp;omega,show (e.op==22)=false by simp;omega]
  have hA:=(hr (N+3) (by have:=hN.2;omega)).1
  generalize hop:e.op=op at*
  show BX _ (N+3) mp e ρ (DU (Ac.at (N+3)) (N+3) mp e ρ (N+2)) [] 0 p.funcs ((c+1:Nat):Int) m=_
  unfold BX
  rw [ha]
  show ((mean_run_look (N+3) p.funcs ((c+1:Nat):Int) m mp a ρ).bind fun x51=>_)=_
  rw [hN.1.1,Option.bind_some]
  show BX _ (N+3) mp e ρ (DU (Ac.at (N+3)) (N+3) mp e ρ (N+1)) [x.plain] 1 p.funcs (c1:Int) m=_
  unfold BX
  rw [ha]
  show ((mean_run_look (N+3) p.funcs (c1:Int) m mp b ρ).bind fun x51=>_)=_
  rw [hN.1.2,Option.bind_some]
  show BX _ (N+3) mp e ρ (DU (Ac.at (N+3)) (N+3) mp e ρ N) [x.plain,z.plain] 2 p.funcs (c':Int) m=_
  unfold BX
  rw [ha,hop]
  show ((EQ (N+3) op [x.plain,z.plain]).bind fun x1312=>bif (x1312.2 != 0) then _ else _)=_
  rw [hA,Option.bind_some,fin]
  cases (r.2 != 0)<;>rfl
end
end Fth
namespace Fth
open Go
def th0:Th:= .later ⟨0,[],[],0,(0,0),[],0⟩ .nil
def f0:AO:=⟨[],[],0,⟨0,[],[],0,(0,0),[],0⟩,0⟩
def hdR(o:Option AO):AO×Bool:=match o with |some f=>(f,true)|none=>(f0,false)
theorem Lt{α:Type}{l:List α}{i:Nat}{x:α}(h:l[i]?=some x):l.drop i=x::l.drop (i+1):=by
 obtain ⟨hi,rfl⟩:=List.getElem?_eq_some_iff.1 h
 exact List.drop_eq_getElem_cons hi
theorem Sa{p:AM}{nm:List UInt8}{N:Nat}(hl:p.funcs.length≤1000000)(hN:p.funcs.length+2≤N):Gz N p nm=some (hdR (hd p nm)):=by
 have loop: ∀(k i:Nat),i≤p.funcs.length→p.funcs.length<i+k→Jp p nm k (i:Int)=some (hdR ((p.funcs.drop i).find? fun f=>f.name==nm)):=by
  intro k
  induction k with
  |zero=>intro i _ _;omega
  |succ k ih=>
   intro i hi hk
   show K1 p nm (Jp p nm k) i=_
   unfold K1
   cases hc:decide ((i:Int)< (p.funcs.length:Int))
   ·have hc:=Dj hc
    rw [cond_false,List.drop_eq_nil_of_le om];rfl
   ·have hc:=CR hc
    obtain ⟨f,hf,hf'⟩:=E7 (xs:=p.funcs) (i:=(i:Int)) om hc
    rw [cond_true,hf,Option.bind_some,wr om om,show (i:Int)+1=((i+1:Nat):Int) by omega,Lt (by rwa [Int.toNat_natCast] at hf'),List.find?_cons]
    cases hn:(f.name==nm)
    ·rw [cond_false]
     exact ih (i+1) om om
    ·rfl
 have:=loop N 0 om om
 rw [List.drop_zero] at this
 exact this
def rth:Except Int Aw→Th
 | .ok x=> .done x.plain x.head x.tail
 | .error _=>th0
def rwy:Except Int Aw→Int
 | .ok _=>0
 | .error y=>y
section
variable{p:AM}{m:Nat}
theorem PY{c:Nat}{e:AE}{ρ:Nm}{r:Except Int Aw}{c':Nat}(h:Lk p m c e ρ r c'): ∀y,r= .error y→y≠0:=by
 induction h with
 |fuel=>rintro y ⟨⟩;decide
 |fail=>rintro y ⟨⟩;decide
 |num=>rintro y ⟨⟩
 |tru=>rintro y ⟨⟩
 |fls=>rintro y ⟨⟩
 |nil=>rintro y ⟨⟩
 |vdone=>rintro y ⟨⟩
 |cons=>rintro y ⟨⟩
 |vlater _ _ _ _ ih=>exact ih
 |call _ _ _ _ _ ih=>exact ih
 |ifE _ _ _ _ ih=>exact ih
 |ifT _ _ _ _ _ _ _ ih=>exact ih
 |ifF _ _ _ _ _ _ _ ih=>exact ih
 |caE _ _ _ _ ih=>exact ih
 |caN _ _ _ _ _ _ _ ih=>exact ih
 |caC _ _ _ _ _ _ _ ih=>exact ih
 |lt _ _ _ _ ih=>exact ih
 |stE _ _ _ _ ih=>exact ih
 |stV _ _ _ _ _ _ ih=>exact ih
 |unE _ _ _ _ ih=>exact ih
 |biE _ _ _ _ ih=>exact ih
 |biE2 _ _ _ _ _ _ ih=>exact ih
 | @un c e ρ a x c' r=>
  intro y hy
  unfold fin at hy
  cases hr:(r.2 != 0)
  ·rw [hr] at hy;cases hy
  ·rw [hr] at hy;cases hy;exact MJ hr
 | @bi c e ρ a b x c1 z c' r=>
  intro y hy
  unfold fin at hy
  cases hr:(r.2 != 0)
  ·rw [hr] at hy;cases hy
  ·rw [hr] at hy;cases hy;exact MJ hr
theorem YB{N:Nat}{c y:Int}{e:AE}{ρ:Nm}(hy:y≠0):ref11_Machine_look (N+1) ⟨p,m,c,y⟩ e ρ=some (th0,⟨p,m,c,y⟩):=by
 show BJ _ N ⟨p,m,c,y⟩ e ρ=_
 unfold BJ
 rw [show (((AU.mk p m c y).why != 0))=true by simpa using hy];rfl
theorem Qn{φ:AP}{N c:Nat}{e:AE}{ρ:Nm}(h:c<m)(h1:e.op≠1):BJ φ N ⟨p,m,c,0⟩ e ρ=Bz φ N ⟨p,m,c,0⟩ e ρ (bif e.op==2 then e.op==2 else e.op==3):=by
 unfold BJ
 rw [show (((AU.mk p m c 0).why != 0))=false from rfl,cond_false,show decide ((AU.mk p m c 0).cost≥(AU.mk p m c 0).most)=false from decide_eq_false (by simp only;omega),cond_false,show (e.op==1)=false by simpa using h1,cond_false]
 cases (e.op==2)<;>rfl
theorem ACf{φ:AP}{N c:Nat}{e:AE}{ρ:Nm}(h:c<m)(hm:m≤16384)(ho:(8≤e.op∧e.op≤17)∨(19≤e.op∧e.op≤22)):BJ φ N ⟨p,m,c,0⟩ e ρ=φ.ref11_Machine_inside ⟨p,m,((c+1:Nat):Int),0⟩ e ρ:=by
 rw [Qn h om,show (e.op==2)=false by simp;omega,show (e.op==3)=false by simp;omega]
 unfold Bz
 rw [cond_false,cond_false,show (e.op==4)=false by simp;omega,show (e.op==5)=false by simp;omega,show (e.op==6)=false by simp;omega,show (e.op==7)=false by simp;omega,show (e.op==18)=false by simp;omega]
 simp only [cond_false]
 rw [wr om om,show (c:Int)+1=((c+1:Nat):Int) by omega]
 show ((φ.ref11_Machine_inside ⟨p,m,((c+1:Nat):Int),0⟩ e ρ).bind fun x824=>some (x824.1,x824.2))=_
 cases φ.ref11_Machine_inside ⟨p,m,((c+1:Nat):Int),0⟩ e ρ<;>rfl
theorem Xq(hp:WP p)(hm:m≤16384){c:Nat}{e:AE}{ρ:Nm}{r:Except Int Aw}{c':Nat}(h:Lk p m c e ρ r c'):
  Ev fun N=>ref11_Machine_look N ⟨p,m,c,0⟩ e ρ=some (rth r,⟨p,m,c',rwy r⟩):=by
 have w1: ∀c:Nat,c<m→IntKind.i64.wrap ((c:Int)+1)=((c+1:Nat):Int):=fun c h=>by rw [wr om om];omega
 have go: ∀{c:Nat} {e:AE} {ρ:Nm} {r:Except Int Aw} {c':Nat},c<m→(8≤e.op∧e.op≤17)∨(19≤e.op∧e.op≤22)→(Ev fun N=>BL (AP.at N) N ⟨p,m,((c+1:Nat):Int),0⟩ e ρ=some (rth r,⟨p,m,c',rwy r⟩))→
   Ev fun N=>ref11_Machine_look N ⟨p,m,c,0⟩ e ρ=some (rth r,⟨p,m,c',rwy r⟩):=fun {c e ρ r c'} h ho hE=>by
  refine Ev.down 2 (hE.mono fun N hN=>?_)
  show BJ (AP.at (N+1)) (N+1) ⟨p,m,c,0⟩ e ρ=_
  rw [ACf h hm ho]
  exact hN
 induction h with
 | @fuel c e ρ h=>
  refine Ev.down 1 (Ev.all fun N=>?_)
  show BJ _ N ⟨p,m,c,0⟩ e ρ=_
  unfold BJ
  rw [show (((AU.mk p m c 0).why != 0))=false from rfl,cond_false,show decide ((AU.mk p m c 0).cost≥(AU.mk p m c 0).most)=true from decide_eq_true (by simp only;omega)];rfl
 | @num c e ρ h ho=>
  refine Ev.down 1 (Ev.all fun N=>?_)
  show BJ _ N ⟨p,m,c,0⟩ e ρ=_
  unfold BJ
  rw [show (((AU.mk p m c 0).why != 0))=false from rfl,cond_false,show decide ((AU.mk p m c 0).cost≥(AU.mk p m c 0).most)=false from decide_eq_false (by simp only;omega),ho,w1 c h];rfl
 | @tru c e ρ h ho=>
  refine Ev.down 1 (Ev.all fun N=>?_)
  show BJ _ N ⟨p,m,c,0⟩ e ρ=_
  rw [Qn h om];unfold Bz;rw [ho,w1 c h];rfl
 | @fls c e ρ h ho=>
  refine Ev.down 1 (Ev.all fun N=>?_)
  show BJ _ N ⟨p,m,c,0⟩ e ρ=_
  rw [Qn h om];unfold Bz;rw [ho,w1 c h];rfl
 | @nil c e ρ h ho=>
  refine Ev.down 1 (Ev.all fun N=>?_)
  show BJ _ N ⟨p,m,c,0⟩ e ρ=_
  rw [Qn h om];unfold Bz;rw [ho,w1 c h];rfl
 | @fail c e ρ h ho=>
  refine Ev.down 1 (Ev.all fun N=>?_)
  show BJ _ N ⟨p,m,c,0⟩ e ρ=_
  rw [Qn h om];unfold Bz;rw [ho,w1 c h];rfl
 | @vdone c e ρ x h ho hf=>
  refine Ev.down 2 (((SZ hf).up 1).mono fun N hN=>?_)
  show BJ _ (N+1) ⟨p,m,c,0⟩ e ρ=_
  rw [Qn h om];unfold Bz;rw [ho,w1 c h]
  show ((GX (N+1) ρ e.name).bind fun x132=>_)=_
  rw [hN.2];rfl
 | @vlater c e ρ e' ρ' r c' h ho hf _ ih=>
  refine Ev.down 2 ((((SZ hf).up 1).and ih).mono fun N hN=>?_)
  show BJ _ (N+1) ⟨p,m,c,0⟩ e ρ=_
  rw [Qn h om];unfold Bz;rw [ho,w1 c h]
  show ((GX (N+1) ρ e.name).bind fun x132=>_)=_
  rw [hN.1.2]
  show (((ref11_Machine_look N ⟨p,m,((c+1:Nat):Int),0⟩ e' ρ').bind fun x131=>some (x131.1,x131.2)).bind fun x142=>some (x142.1,x142.2))=_
  rw [hN.2];rfl
 | @call c e ρ f r c' h ho hf hl _ ih=>
  have hfm:f∈p.funcs:=List.mem_of_find?_eq_some hf
  have hps:=(hp.fns f hfm).pars
  have hpl:=hp.len
  have loop: ∀(N k i:Nat) (acc:Nm),i≤f.params.length→f.params.length<i+k→ref11_Machine_look N ⟨p,m,((c+1:Nat):Int),0⟩ f.body (UD ρ (f.params.drop i) (e.args.drop i) acc)=some (rth r,⟨p,m,c',rwy r⟩)→
    Ex (AP.at N) ⟨p,m,c,0⟩ e ρ f.params f.body.op f.body.name f.body.tail f.body.type_ f.body.num f.body.args f.body.at_ k acc (i:Int)=some (rth r,⟨p,m,c',rwy r⟩):=by
   intro N k
   induction k with
   |zero=>intro i acc _ _;omega
   |succ k ihk=>
    intro i acc hi hk hN
    show G6 _ ⟨p,m,c,0⟩ e ρ f.params f.body.op f.body.name f.body.tail f.body.type_ f.body.num f.body.args f.body.at_ (Ex _ ⟨p,m,c,0⟩ e ρ f.params f.body.op f.body.name f.body.tail f.body.type_ f.body.num f.body.args f.body.at_ k) acc i=_
    unfold G6
    cases hd':decide ((i:Int)< (e.args.length:Int))
    ·have hd':=Dj hd'
     have hi':i=f.params.length:=om
     rw [cond_false,w1 c h,QF]
     have e1:f.params.drop i=[]:=by rw [hi'];exact List.drop_length
     rw [e1] at hN
     have e2:UD ρ [] (e.args.drop i) acc=acc:=by cases e.args.drop i<;>rfl
     rw [e2] at hN
     show ((ref11_Machine_look N ⟨p,m,((c+1:Nat):Int),0⟩ f.body acc).bind fun x493=>_)=_
     rw [hN];rfl
    ·have hd':=CR hd'
     have i1:i<f.params.length:=om
     obtain ⟨x,hx,hx'⟩:=E7 (xs:=f.params) (i:=(i:Int)) om om
     obtain ⟨a,ha,ha'⟩:=E7 (xs:=e.args) (i:=(i:Int)) om hd'
     rw [cond_true,hx,Option.bind_some,ha,Option.bind_some,wr om om,show (i:Int)+1=((i+1:Nat):Int) by omega]
     refine ihk (i+1) (.bind x.name (.later a ρ) acc) om om ?_
     rw [Int.toNat_natCast] at hx' ha'
     rw [Lt hx',Lt ha'] at hN
     exact hN
  refine Ev.down 1 ((ih.and (NK (f.params.length+p.funcs.length+2))).mono fun N hN=>?_)
  show BJ _ N ⟨p,m,c,0⟩ e ρ=_
  rw [Qn h om];unfold Bz;rw [ho]
  show ((Gz N p e.name).bind fun x551=>JG (AP.at N) N ⟨p,m,c,0⟩ e ρ x551.1.params x551.1.body.op x551.1.body.name x551.1.body.tail x551.1.body.type_ x551.1.body.num x551.1.body.args x551.1.body.at_)=_
  rw [Sa om om,hf,Option.bind_some]
  exact loop N N 0 .nil om om hN.1
 | @cons c e ρ a b h ho ha=>
  refine Ev.down 1 (Ev.all fun N=>?_)
  show BJ _ N ⟨p,m,c,0⟩ e ρ=_
  rw [Qn h om];unfold Bz JH;rw [ho,w1 c h,ha];rfl
 | @ifE c e ρ a b d y c' h ho ha h1 ih=>
  have hy:=PY h1 y rfl
  refine go h om (Ev.down 1 ((ih.up 1).mono fun N hN=>?_))
  unfold BL;rw [ho,ha]
  show ((ref11_Machine_look (N+1) ⟨p,m,((c+1:Nat):Int),0⟩ a ρ).bind fun x44=>_)=_
  rw [hN]
  show ((ref11_Machine_look (N+1) ⟨p,m,c',y⟩ d ρ).bind fun x154=>_)=_
  rw [YB hy];rfl
 | @ifT c e ρ a b d x c1 r c' h ho ha _ hb _ ih1 ih2=>
  refine go h om ((ih1.and ih2).mono fun N hN=>?_)
  unfold BL;rw [ho,ha]
  show ((ref11_Machine_look N ⟨p,m,((c+1:Nat):Int),0⟩ a ρ).bind fun x44=>_)=_
  rw [hN.1]
  show (bif x.plain.bool then ((ref11_Machine_look N ⟨p,m,c1,0⟩ b ρ).bind fun x154=>some (x154.1,x154.2)) else _)=_
  rw [hb,cond_true,hN.2];rfl
 | @ifF c e ρ a b d x c1 r c' h ho ha _ hb _ ih1 ih2=>
  refine go h om ((ih1.and ih2).mono fun N hN=>?_)
  unfold BL;rw [ho,ha]
  show ((ref11_Machine_look N ⟨p,m,((c+1:Nat):Int),0⟩ a ρ).bind fun x44=>_)=_
  rw [hN.1]
  show (bif x.plain.bool then _ else ((ref11_Machine_look N ⟨p,m,c1,0⟩ d ρ).bind fun x154=>some (x154.1,x154.2)))=_
  rw [hb,cond_false,hN.2];rfl
 | @caE c e ρ a b d y c' h ho ha h1 ih=>
  have hy:=PY h1 y rfl
  refine go h om (Ev.down 1 ((ih.up 1).mono fun N hN=>?_))
  unfold BL;rw [ho,ha]
  show ((ref11_Machine_look (N+1) ⟨p,m,((c+1:Nat):Int),0⟩ a ρ).bind fun x44=>_)=_
  rw [hN,Option.bind_some]
  show (bif (y != 0) then CX (AP.at (N+1)) e ρ (th0,⟨p,m,c',y⟩) true else _)=_
  rw [show (y != 0)=true by simpa using hy,cond_true]
  unfold CX
  rw [ha]
  show ((ref11_Machine_look (N+1) ⟨p,m,c',y⟩ b ρ).bind fun x273=>_)=_
  rw [YB hy];rfl
 | @caN c e ρ a b d x c1 r c' h ho ha _ hb _ ih1 ih2=>
  refine go h om ((ih1.and ih2).mono fun N hN=>?_)
  unfold BL;rw [ho,ha]
  show ((ref11_Machine_look N ⟨p,m,((c+1:Nat):Int),0⟩ a ρ).bind fun x44=>_)=_
  rw [hN.1,Option.bind_some]
  show CX (AP.at N) e ρ (.done x.plain x.head x.tail,⟨p,m,c1,0⟩) (!!x.head.isNil)=_
  unfold CX
  rw [ha,hb]
  show ((ref11_Machine_look N ⟨p,m,c1,0⟩ b ρ).bind fun x273=>_)=_
  rw [hN.2];rfl
 | @caC c e ρ a b d x c1 r c' h ho ha _ hb _ ih1 ih2=>
  refine go h om ((ih1.and ih2).mono fun N hN=>?_)
  unfold BL;rw [ho,ha]
  show ((ref11_Machine_look N ⟨p,m,((c+1:Nat):Int),0⟩ a ρ).bind fun x44=>_)=_
  rw [hN.1,Option.bind_some]
  show CX (AP.at N) e ρ (.done x.plain x.head x.tail,⟨p,m,c1,0⟩) (!!x.head.isNil)=_
  unfold CX
  rw [ha,hb]
  show ((ref11_Machine_look N ⟨p,m,c1,0⟩ d (.bind e.tail x.tail (.bind e.name x.head ρ))).bind fun x273=>_)=_
  rw [hN.2];rfl
 | @lt c e ρ a b r c' h ho ha _ ih=>
  refine go h om (ih.mono fun N hN=>?_)
  unfold BL
  rw [ho,ha,show ((21:Int)==19)=false from rfl,cond_false,show ((21:Int)==20)=false from rfl,cond_false,show ((21:Int)==21)=true from rfl,cond_true,show idx [a,b] 0=some a from rfl,Option.bind_some,show idx [a,b] 1=some b from rfl,Option.bind_some]
  show ((ref11_Machine_look N ⟨p,m,((c+1:Nat):Int),0⟩ b (.letrec e.name a ρ)).bind fun x735=>_)=_
  rw [hN];rfl
 | @stE c e ρ a b y c' h ho ha h1 ih=>
  have hy:=PY h1 y rfl
  refine go h om (Ev.down 1 ((ih.up 1).mono fun N hN=>?_))
  unfold BL;rw [ho,ha]
  show ((ref11_Machine_look (N+1) ⟨p,m,((c+1:Nat):Int),0⟩ a ρ).bind fun x44=>_)=_
  rw [hN]
  show ((ref11_Machine_look (N+1) ⟨p,m,c',y⟩ b (.bind e.name th0 ρ)).bind fun x154=>_)=_
  rw [YB hy];rfl
 | @stV c e ρ a b x c1 r c' h ho ha _ _ ih1 ih2=>
  refine go h om ((ih1.and ih2).mono fun N hN=>?_)
  unfold BL;rw [ho,ha]
  show ((ref11_Machine_look N ⟨p,m,((c+1:Nat):Int),0⟩ a ρ).bind fun x44=>_)=_
  rw [hN.1]
  show ((ref11_Machine_look N ⟨p,m,c1,0⟩ b (.bind e.name (.done x.plain x.head x.tail) ρ)).bind fun x154=>_)=_
  rw [hN.2];rfl
 | @unE c e ρ a y c' h ho ha h1 ih=>
  have hy:=PY h1 y rfl
  refine go h om (Ev.down 3 ((ih.up 3).mono fun N hN=>?_))
  unfold BL
  rw [show (e.op==19)=false by simp;omega,show (e.op==20)=false by simp;omega,show (e.op==21)=false by simp;omega,show (e.op==22)=false by simp;omega]
  show Au (AP.at (N+3)) (N+3) e ρ (BN (AP.at (N+3)) (N+3) e ρ (N+2)) [] 0 p.funcs m ((c+1:Nat):Int) 0=_
  unfold Au
  rw [ha]
  show ((ref11_Machine_look (N+3) ⟨p,m,((c+1:Nat):Int),0⟩ a ρ).bind fun x44=>_)=_
  rw [hN,Option.bind_some]
  show Au (AP.at (N+3)) (N+3) e ρ (BN (AP.at (N+3)) (N+3) e ρ (N+1)) [MT] 1 p.funcs m c' y=_
  unfold Au
  rw [ha]
  show (bif (y != 0) then _ else _)=_
  rw [show (y != 0)=true by simpa using hy];rfl
 | @un c e ρ a x c' r h ho ha _ hr ih=>
  refine go h om (Ev.down 3 (((ih.up 3).and (NK (2^54))).mono fun N hN=>?_))
  unfold BL
  rw [show (e.op==19)=false by simp;omega,show (e.op==20)=false by simp;omega,show (e.op==21)=false by simp;omega,show (e.op==22)=false by simp;omega]
  have hA:=(hr (N+3) (by have:=hN.2;omega)).2
  generalize hop:e.op=op at*
  show Au (AP.at (N+3)) (N+3) e ρ (BN (AP.at (N+3)) (N+3) e ρ (N+2)) [] 0 p.funcs m ((c+1:Nat):Int) 0=_
  unfold Au
  rw [ha]
  show ((ref11_Machine_look (N+3) ⟨p,m,((c+1:Nat):Int),0⟩ a ρ).bind fun x44=>_)=_
  rw [hN.1,Option.bind_some]
  show Au (AP.at (N+3)) (N+3) e ρ (BN (AP.at (N+3)) (N+3) e ρ (N+1)) [x.plain] 1 p.funcs m c' 0=_
  unfold Au
  rw [ha,hop]
  show ((Dc (N+3) op [x.plain]).bind fun x1299=>bif (x1299.2 != 0) then _ else _)=_
  rw [hA,Option.bind_some,fin]
  cases (r.2 != 0)<;>rfl
 | @biE c e ρ a b y c' h ho ha h1 ih=>
  have hy:=PY h1 y rfl
  refine go h om (Ev.down 3 ((ih.up 3).mono fun N hN=>?_))
  unfold BL
  rw [show (e.op==19)=false by simp;omega,show (e.op==20)=false by simp;omega,show (e.op==21)=false by simp;omega,show (e.op==22)=false by simp;omega]
  show Au (AP.at (N+3)) (N+3) e ρ (BN (AP.at (N+3)) (N+3) e ρ (N+2)) [] 0 p.funcs m ((c+1:Nat):Int) 0=_
  unfold Au
  rw [ha]
  show ((ref11_Machine_look (N+3) ⟨p,m,((c+1:Nat):Int),0⟩ a ρ).bind fun x44=>_)=_
  rw [hN,Option.bind_some]
  show Au (AP.at (N+3)) (N+3) e ρ (BN (AP.at (N+3)) (N+3) e ρ (N+1)) [MT] 1 p.funcs m c' y=_
  unfold Au
  rw [ha]
  show ((ref11_Machine_look (N+3) ⟨p,m,c',y⟩ b ρ).bind fun x44=>_)=_
  rw [YB hy,Option.bind_some]
  show Au (AP.at (N+3)) (N+3) e ρ (BN (AP.at (N+3)) (N+3) e ρ N) [MT,MT] 2 p.funcs m c' y=_
  unfold Au
  rw [ha]
  show (bif (y != 0) then _ else _)=_
  rw [show (y != 0)=true by simpa using hy];rfl
 | @biE2 c e ρ a b x c1 y c' h ho ha _ h2 ih1 ih2=>
  have hy:=PY h2 y rfl
  refine go h om (Ev.down 3 (((ih1.up 3).and (ih2.up 3)).mono fun N hN=>?_))
  unfold BL
  rw [show (e.op==19)=false by simp;omega,show (e.op==20)=false by simp;omega,show (e.op==21)=false by simp;omega,show (e.op==22)=false by simp;omega]
  show Au (AP.at (N+3)) (N+3) e ρ (BN (AP.at (N+3)) (N+3) e ρ (N+2)) [] 0 p.funcs m ((c+1:Nat):Int) 0=_
  unfold Au
  rw [ha]
  show ((ref11_Machine_look (N+3) ⟨p,m,((c+1:Nat):Int),0⟩ a ρ).bind fun x44=>_)=_
  rw [hN.1,Option.bind_some]
  show Au (AP.at (N+3)) (N+3) e ρ (BN (AP.at (N+3)) (N+3) e ρ (N+1)) [x.plain] 1 p.funcs m c1 0=_
  unfold Au
  rw [ha]
  show ((ref11_Machine_look (N+3) ⟨p,m,c1,0⟩ b ρ).bind fun x44=>_)=_
  rw [hN.2,Option.bind_some]
  show Au (AP.at (N+3)) (N+3) e ρ (BN (AP.at (N+3)) (N+3) e ρ N) [x.plain,MT] 2 p.funcs m c' y=_
  unfold Au
  rw [ha]
  show (bif (y != 0) then _ else _)=_
  rw [show (y != 0)=true by simpa using hy];rfl
 | @bi c e ρ a b x c1 z c' r h ho ha _ _ hr ih1 ih2=>
  refine go h om (Ev.down 3 ((((ih1.up 3).and (ih2.up 3)).and (NK (2^54))).mono fun N hN=>?_))
  unfold BL
  rw [show (e.op==19)=false by simp;omega,show (e.op==20)=false by simp;omega,show (e.op==21)=false by simp;omega,show (e.op==22)=false by simp;omega]
  have hA:=(hr (N+3) (by have:=hN.2;omega)).2
  generalize hop:e.op=op at*
  show Au (AP.at (N+3)) (N+3) e ρ (BN (AP.at (N+3)) (N+3) e ρ (N+2)) [] 0 p.funcs m ((c+1:Nat):Int) 0=_
  unfold Au
  rw [ha]
  show ((ref11_Machine_look (N+3) ⟨p,m,((c+1:Nat):Int),0⟩ a ρ).bind fun x44=>_)=_
  rw [hN.1.1,Option.bind_some]
  show Au (AP.at (N+3)) (N+3) e ρ (BN (AP.at (N+3)) (N+3) e ρ (N+1)) [x.plain] 1 p.funcs m c1 0=_
  unfold Au
  rw [ha]
  show ((ref11_Machine_look (N+3) ⟨p,m,c1,0⟩ b ρ).bind fun x44=>_)=_
  rw [hN.1.2,Option.bind_some]
  show Au (AP.at (N+3)) (N+3) e ρ (BN (AP.at (N+3)) (N+3) e ρ N) [x.plain,z.plain] 2 p.funcs m c' 0=_
  unfold Au
  rw [ha,hop]
  show ((Dc (N+3) op [x.plain,z.plain]).bind fun x1299=>bif (x1299.2 != 0) then _ else _)=_
  rw [hA,Option.bind_some,fin]
  cases (r.2 != 0)<;>rfl
end
end Fth
namespace Fth
open Go
def RN(Γ:List AJ)(nm:List UInt8):Option Int:=(Γ.find? fun x=>x.name==nm).map (·.type_)
def Win(Γ:List AJ)(e:AE)(i:Nat):List AJ:=
 if e.op=21∨(e.op=22∧i=1) then ⟨e.name,e.type_,0⟩::Γ else if e.op=20∧i=2 then ⟨e.tail,3,0⟩::⟨e.name,1,0⟩::Γ else Γ
def Wan(p:AM)(e:AE)(i:Nat)(t:Int):Int:=
 if e.op=14 then 2 else if e.op=18∧i=1 then 3 else if e.op=7 then (match (hd p e.name).bind fun f=>f.params[i]? with |some x=>x.type_|none=>1)
 else if e.op=19 then (if i=0 then 2 else t) else if e.op=20 then (if i=0 then 3 else t) else if e.op=21∨e.op=22 then (if i=0 then e.type_ else t) else 1
structure OwT(p:AM)(Γ:List AJ)(e:AE)(t:Int):Prop where
 n:(e.op=1∨(8≤e.op∧e.op≤11)∨(15≤e.op∧e.op≤17))→t=1
 b:(e.op=2∨e.op=3∨(12≤e.op∧e.op≤14))→t=2
 l:(e.op=4∨e.op=18)→t=3
 f:e.op=5→t=e.type_
 v:e.op=6→RN Γ e.name=some t
 c:e.op=7→∃f,hd p e.name=some f∧f.params.length=e.args.length∧f.type_=t
inductive WTy(p:AM):List AJ→AE→Int→Prop
 |mk (Γ:List AJ) (e:AE) (t:Int) (ho:OwT p Γ e t) (hs: ∀i a,e.args[i]?=some a→WTy p (Win Γ e i) a (Wan p e i t)):WTy p Γ e t
theorem WTy.own{p Γ e t}(h:WTy p Γ e t):OwT p Γ e t:=by cases h;assumption
theorem WTy.sub{p Γ e t}(h:WTy p Γ e t): ∀i a,e.args[i]?=some a→WTy p (Win Γ e i) a (Wan p e i t):=by cases h;assumption
def ch:Th→Nat
 | .done _ _ t=>1+ch t
 |_=>0
mutual
inductive EOK(p:AM)(L:Nat):List AJ→Nm→Prop
 |nil:EOK p L [] .nil
 |bind (x:AJ) (Γ:List AJ) (t:Th) (ρ:Nm) (ht:TOK p L x.type_ t) (he:EOK p L Γ ρ):EOK p L (x::Γ) (.bind x.name t ρ)
 |letrec (x:AJ) (Γ:List AJ) (e:AE) (ρ:Nm) (hw:WTy p (x::Γ) e x.type_) (hwe:WE e) (ht:1≤x.type_∧x.type_≤3) (he:EOK p L Γ ρ):EOK p L (x::Γ) (.letrec x.name e ρ)
inductive TOK(p:AM)(L:Nat):Int→Th→Prop
 |val (t:Int) (v:AF) (hv:VV t v) (h3:t=3→v.list=[]):TOK p L t (.done v .nil .nil)
 |pair (h t:Th) (h1:TOK p L 1 h) (h2:TOK p L 3 t) (hc:ch t<L):TOK p L 3 (.done v0 h t)
 |later (Γ:List AJ) (ρ:Nm) (e:AE) (t:Int) (he:EOK p L Γ ρ) (hw:WTy p Γ e t) (hwe:WE e) (ht:1≤t∧t≤3):TOK p L t (.later e ρ)
end
section
variable{p:AM}{L m:Nat}
theorem YC{t:Int}{h:Th}(hh:TOK p L t h):h.isNil=false:=by cases hh<;>rfl
theorem Qo{t:Int}{x:Aw}(h:TOK p L t (.done x.plain x.head x.tail))(h3:t≠3):VV t x.plain:=by
 obtain ⟨pl,hh,tl⟩:=x
 cases h with
 |val _ _ hv _=>exact hv
 |pair=>exact absurd rfl h3
theorem ACN{nm:List UInt8}: ∀(Γ:List AJ) (ρ:Nm) (t:Int),EOK p L Γ ρ→RN Γ nm=some t→∃th,fnd nm ρ=some th∧TOK p L t th:=by
 intro Γ
 induction Γ with
 |nil=>intro ρ t _ h;simp [RN] at h
 |cons x Γ ih=>
  intro ρ t he h
  unfold RN at h
  rw [List.find?_cons] at h
  cases he with
  |bind _ _ th ρ ht he=>
   rw [fnd]
   cases hn:(x.name==nm)
   ·rw [hn] at h
    exact ih ρ t he h
   ·rw [hn] at h
    cases h
    exact ⟨th,rfl,ht⟩
  |letrec _ _ e ρ hw hwe ht he=>
   rw [fnd]
   cases hn:(x.name==nm)
   ·rw [hn] at h
    exact ih ρ t he h
   ·rw [hn] at h
    cases h
    exact ⟨_,rfl,.later (x::Γ) _ _ _ (.letrec x Γ e ρ hw hwe ht he) hw hwe ht⟩
theorem Zx{Γ:List AJ}{ρ:Nm}(hρ:EOK p L Γ ρ): ∀(ps:List AJ) (zs:List AE) (Δ:List AJ) (acc:Nm),ps.length=zs.length→EOK p L Δ acc→
  (∀(i:Nat) (x:AJ) (a:AE),ps[i]?=some x→zs[i]?=some a→WTy p Γ a x.type_∧WE a∧1≤x.type_∧x.type_≤3)→EOK p L (ps.reverse++Δ) (UD ρ ps zs acc):=by
 intro ps
 induction ps with
 |nil=>intro zs Δ acc h he _;cases zs with
  |nil=>exact he
  |cons=>cases h
 |cons x ps ih=>
  intro zs Δ acc h he ha
  cases zs with
  |nil=>cases h
  |cons a zs=>
   have h0:=ha 0 x a rfl rfl
   have:=ih zs (x::Δ) (.bind x.name (.later a ρ) acc) (by simpa using h) (.bind x Δ _ acc (.later Γ ρ a x.type_ hρ h0.1 h0.2.1 h0.2.2) he) fun i y b h1 h2=>ha (i+1) y b h1 h2
   rw [List.reverse_cons,List.append_assoc]
   exact this
def Rt(p:AM)(L m:Nat)(t:Int)(r:Except Int Aw)(c c':Nat):Prop:=
 match r with
 | .ok x=>TOK p L t (.done x.plain x.head x.tail)∧c<c'
 | .error y=>(y=60∧c'=m)∨((y=50∨y=51∨y=52)∧c<c')
theorem Rt.back{t t':Int}{r:Except Int Aw}{c c1 c':Nat}(h:Rt p L m t r c1 c')(hc:c≤c1)(ht:t=t'):Rt p L m t' r c c':=by
 subst ht
 cases r with
 |ok x=>exact ⟨h.1,by have:=h.2;omega⟩
 |error y=>exact h.imp id fun h=>⟨h.1,by have:=h.2;omega⟩
theorem Rt.err{t t' y:Int}{c c1 c':Nat}(h:Rt p L m t (.error y) c1 c')(hc:c≤c1):Rt p L m t' (.error y) c c':=
 Or.imp id (fun h=>⟨h.1,by have:=h.2;omega⟩) h
theorem RO{α:Type}{l:List α}(h:l.length=2): ∃a b,l=[a,b]:=by
 match l,h with
 | [a,b],_=>exact ⟨a,b,rfl⟩
theorem UE{α:Type}{l:List α}(h:l.length=3): ∃a b c,l=[a,b,c]:=by
 match l,h with
 | [a,b,c],_=>exact ⟨a,b,c,rfl⟩
theorem ACO{α:Type}{l:List α}(h:l.length=1): ∃a,l=[a]:=by
 match l,h with
 | [a],_=>exact ⟨a,rfl⟩
theorem Zy(hp:WP p)(hS: ∀f∈p.funcs,WTy p f.params.reverse f.body f.type_)(hL:1≤L): ∀(k c:Nat),m - c≤k→c≤m→∀(Γ:List AJ) (e:AE) (ρ:Nm) (t:Int),EOK p L Γ ρ→WTy p Γ e t→WE e→1≤t∧t≤3→
  ∃r c',Lk p m c e ρ r c'∧c≤c'∧c'≤m∧Rt p L m t r c c':=by
 intro k
 induction k with
 |zero=>
  intro c hk hc Γ e ρ t _ _ _ _
  exact ⟨_,_,.fuel om,om,hc,.inl ⟨rfl,om⟩⟩
 |succ k ih=>
  intro c hk hc Γ e ρ t hρ hw he ht
  rcases Nat.lt_or_ge c m with h|h
  rotate_left
  ·exact ⟨_,_,.fuel h,om,hc,.inl ⟨rfl,om⟩⟩
  have ow:=hw.own
  have sb:=hw.sub
  have se:=he.sub
  have mem: ∀{i:Nat} {a:AE},e.args[i]?=some a→WE a:=fun h=>se _ (List.mem_of_getElem? h)
  rcases he.ar with ⟨h1,h2,h3⟩|h7| ⟨h1,h2,h3⟩| ⟨h1,h2,h3⟩| ⟨h1,h3⟩| ⟨h1,h2,h3⟩| ⟨h1,h2,h3⟩
  ·have hh:e.op=1∨e.op=2∨e.op=3∨e.op=4∨e.op=5∨e.op=6:=om
   rcases hh with ho|ho|ho|ho|ho|ho
   ·refine ⟨_,_,.num h ho,om,om,?_,om⟩
    rw [ow.n (.inl ho)]
    exact .val 1 _ (.inl ⟨rfl,rfl,he.num ho,rfl,rfl⟩) fun h=>by cases h
   ·refine ⟨_,_,.tru h ho,om,om,?_,om⟩
    rw [ow.b (.inl ho)]
    exact .val 2 _ (Yj _) fun h=>by cases h
   ·refine ⟨_,_,.fls h ho,om,om,?_,om⟩
    rw [ow.b (.inr (.inl ho))]
    exact .val 2 _ (Yj _) fun h=>by cases h
   ·refine ⟨_,_,.nil h ho,om,om,?_,om⟩
    rw [ow.l (.inl ho)]
    exact .val 3 _ (.inr (.inr ⟨rfl,rfl,rfl,rfl,by simp⟩)) fun _=>rfl
   ·exact ⟨_,_,.fail h ho,om,om,.inr ⟨.inr (.inr rfl),om⟩⟩
   ·obtain ⟨th,hf,htok⟩:=ACN Γ ρ t hρ (ow.v ho)
    cases th with
    |nil=>cases htok
    |done pl hh tl=>exact ⟨_,_,.vdone (x:=⟨pl,hh,tl⟩) h ho hf,om,om,htok,om⟩
    |later e' ρ'=>
     cases htok with
     |later Γ' _ _ _ he' hw' hwe' ht'=>
      obtain ⟨r,c',h1,h2,h3,h4⟩:=ih (c+1) om om Γ' e' ρ' t he' hw' hwe' ht'
      exact ⟨r,c',.vlater h ho hf h1,om,h3,h4.back om rfl⟩
  ·obtain ⟨f,hf,hl,hft⟩:=ow.c h7
   have hfm:f∈p.funcs:=List.mem_of_find?_eq_some hf
   have hfn:=hp.fns f hfm
   have henv:=Zx hρ f.params e.args [] .nil hl .nil fun i x a hx ha=>by
    have h1:=sb i a ha
    have e1:Win Γ e i=Γ:=by unfold Win;rw [if_neg om,if_neg om]
    have e2:Wan p e i t=x.type_:=by
     unfold Wan
     rw [if_neg om,if_neg om,if_pos h7,hf]
     show (match f.params[i]? with |some x=>x.type_|none=>1)=_
     rw [hx]
    rw [e1,e2] at h1
    exact ⟨h1,mem ha,hfn.ptyp x (List.mem_of_getElem? hx)⟩
   rw [List.append_nil] at henv
   obtain ⟨r,c',h1,h2,h3,h4⟩:=ih (c+1) om om _ f.body _ f.type_ henv (hS f hfm) hfn.body hfn.typ
   exact ⟨r,c',.call h h7 hf hl h1,om,h3,h4.back om hft⟩
  ·
   obtain ⟨a,b,ha⟩:=RO h3
   have wa:=sb 0 a (by rw [ha];rfl)
   have wb:=sb 1 b (by rw [ha];rfl)
   have e1: ∀i,Win Γ e i=Γ:=fun i=>by unfold Win;rw [if_neg om,if_neg om]
   have e2: ∀i,Wan p e i t=1:=fun i=>by unfold Wan;rw [if_neg om,if_neg om,if_neg om,if_neg om,if_neg om,if_neg om]
   rw [e1,e2] at wa wb
   obtain ⟨r1,c1,l1,l2,l3,l4⟩:=ih (c+1) om om Γ a ρ 1 hρ wa (mem (i:=0) (by rw [ha];rfl)) om
   cases r1 with
   |error y=>exact ⟨_,c1,.biE h ⟨h1,h2⟩ ha l1,om,l3,l4.err om⟩
   |ok x=>
    obtain ⟨r2,c2,k1,k2,k3,k4⟩:=ih c1 om l3 Γ b ρ 1 hρ wb (mem (i:=1) (by rw [ha];rfl)) om
    cases r2 with
    |error y=>exact ⟨_,c2,.biE2 h ⟨h1,h2⟩ ha l1 k1,om,k3,k4.err om⟩
    |ok z=>
     have vx:VV 1 x.plain:=Qo l4.1 (by decide)
     have vz:VV 1 z.plain:=Qo k4.1 (by decide)
     obtain ⟨r,hr,hA⟩:=XH (op:=e.op) (args:=[x.plain,z.plain]) (.inl ⟨h1,h2,_,_,vx,vz,rfl⟩)
     refine ⟨fin r,c2,.bi h ⟨h1,h2⟩ ha l1 k1 hA,om,k3,?_⟩
     unfold fin
     rcases hr with ⟨hr0,hv⟩| ⟨hr0,_⟩
     ·rw [show (r.2 != 0)=false by rw [hr0];rfl]
      have hT:opT e.op=t:=by
       unfold opT
       rcases Decidable.em (e.op=12∨e.op=13∨e.op=14) with ho|ho
       ·rw [if_pos ho,ow.b om]
       ·rw [if_neg ho,ow.n om]
      refine ⟨.val t _ (hT▸hv) fun h3=>?_,om⟩
      have:=hT
      unfold opT at this
      split at this<;>omega
     ·rw [show (r.2 != 0)=true by simp;omega]
      exact .inr ⟨om,om⟩
  ·
   obtain ⟨a,ha⟩:=ACO h3
   have wa:=sb 0 a (by rw [ha];rfl)
   have e1: ∀i,Win Γ e i=Γ:=fun i=>by unfold Win;rw [if_neg om,if_neg om]
   have e2:Wan p e 0 t=if e.op=14 then 2 else 1:=by
    unfold Wan
    rcases Decidable.em (e.op=14) with ho|ho
    ·rw [if_pos ho,if_pos ho]
    ·rw [if_neg ho,if_neg ho,if_neg om,if_neg om,if_neg om,if_neg om,if_neg om]
   rw [e1,e2] at wa
   obtain ⟨r1,c1,l1,l2,l3,l4⟩:=ih (c+1) om om Γ a ρ _ hρ wa (mem (i:=0) (by rw [ha];rfl)) (by split<;>omega)
   cases r1 with
   |error y=>exact ⟨_,c1,.unE h ⟨h1,h2⟩ ha l1,om,l3,l4.err om⟩
   |ok x=>
    have vx:VV (if e.op=14 then 2 else 1) x.plain:=Qo l4.1 (by split<;>decide)
    have hargs:(8≤e.op∧e.op≤13∧∃a b,VV 1 a∧VV 1 b∧[x.plain]=[a,b])∨(e.op=14∧∃a,VV 2 a∧[x.plain]=[a])∨(15≤e.op∧e.op≤17∧∃a,VV 1 a∧[x.plain]=[a]):=by
     rcases Decidable.em (e.op=14) with ho|ho
     ·rw [if_pos ho] at vx;exact .inr (.inl ⟨ho,_,vx,rfl⟩)
     ·rw [if_neg ho] at vx;exact .inr (.inr ⟨om,om,_,vx,rfl⟩)
    obtain ⟨r,hr,hA⟩:=XH hargs
    refine ⟨fin r,c1,.un h ⟨h1,h2⟩ ha l1 hA,om,l3,?_⟩
    unfold fin
    rcases hr with ⟨hr0,hv⟩| ⟨hr0,_⟩
    ·rw [show (r.2 != 0)=false by rw [hr0];rfl]
     have hT:opT e.op=t:=by
      unfold opT
      rcases Decidable.em (e.op=12∨e.op=13∨e.op=14) with ho|ho
      ·rw [if_pos ho,ow.b om]
      ·rw [if_neg ho,ow.n om]
     refine ⟨.val t _ (hT▸hv) fun h3=>?_,om⟩
     have:=hT
     unfold opT at this
     split at this<;>omega
    ·rw [show (r.2 != 0)=true by simp;omega]
     exact .inr ⟨om,om⟩
  ·
   obtain ⟨a,b,ha⟩:=RO h3
   have wa:=sb 0 a (by rw [ha];rfl)
   have wb:=sb 1 b (by rw [ha];rfl)
   have e1: ∀i,Win Γ e i=Γ:=fun i=>by unfold Win;rw [if_neg om,if_neg om]
   have e2:Wan p e 0 t=1:=by unfold Wan;rw [if_neg om,if_neg om,if_neg om,if_neg om,if_neg om,if_neg om]
   have e3:Wan p e 1 t=3:=by unfold Wan;rw [if_neg om,if_pos ⟨h1,rfl⟩]
   rw [e1,e2] at wa
   rw [e1,e3] at wb
   refine ⟨_,_,.cons h h1 ha,om,om,?_,om⟩
   rw [ow.l (.inr h1)]
   exact .pair _ _ (.later Γ ρ a 1 hρ wa (mem (i:=0) (by rw [ha];rfl)) om) (.later Γ ρ b 3 hρ wb (mem (i:=1) (by rw [ha];rfl)) om) (by simp only [ch];omega)
  ·obtain ⟨a,b,d,ha⟩:=UE h3
   have wa:=sb 0 a (by rw [ha];rfl)
   have wb:=sb 1 b (by rw [ha];rfl)
   have wd:=sb 2 d (by rw [ha];rfl)
   have ma:=mem (i:=0) (a:=a) (by rw [ha];rfl)
   have mb:=mem (i:=1) (a:=b) (by rw [ha];rfl)
   have md:=mem (i:=2) (a:=d) (by rw [ha];rfl)
   rcases (show e.op=19∨e.op=20 by omega) with ho|ho
   ·have e1: ∀i,Win Γ e i=Γ:=fun i=>by unfold Win;rw [if_neg om,if_neg om]
    have e2: ∀i,Wan p e i t=if i=0 then 2 else t:=fun i=>by unfold Wan;rw [if_neg om,if_neg om,if_neg om,if_pos ho]
    rw [e1,e2] at wa wb wd
    obtain ⟨r1,c1,l1,l2,l3,l4⟩:=ih (c+1) om om Γ a ρ 2 hρ wa ma om
    cases r1 with
    |error y=>exact ⟨_,c1,.ifE h ho ha l1,om,l3,l4.err om⟩
    |ok x=>
     cases hb:x.plain.bool
     ·obtain ⟨r2,c2,k1,k2,k3,k4⟩:=ih c1 om l3 Γ d ρ t hρ wd md ht
      exact ⟨r2,c2,.ifF h ho ha l1 hb k1,om,k3,k4.back om rfl⟩
     ·obtain ⟨r2,c2,k1,k2,k3,k4⟩:=ih c1 om l3 Γ b ρ t hρ wb mb ht
      exact ⟨r2,c2,.ifT h ho ha l1 hb k1,om,k3,k4.back om rfl⟩
   ·have e1: ∀i,i≠2→Win Γ e i=Γ:=fun i hi=>by unfold Win;rw [if_neg om,if_neg om]
    have e1':Win Γ e 2=⟨e.tail,3,0⟩::⟨e.name,1,0⟩::Γ:=by unfold Win;rw [if_neg om,if_pos ⟨ho,rfl⟩]
    have e2: ∀i,Wan p e i t=if i=0 then 3 else t:=fun i=>by unfold Wan;rw [if_neg om,if_neg om,if_neg om,if_neg om,if_pos ho]
    rw [e1 _ om,e2] at wa wb
    rw [e1',e2] at wd
    obtain ⟨r1,c1,l1,l2,l3,l4⟩:=ih (c+1) om om Γ a ρ 3 hρ wa ma om
    cases r1 with
    |error y=>exact ⟨_,c1,.caE h ho ha l1,om,l3,l4.err om⟩
    |ok x=>
     obtain ⟨pl,hx,tx⟩:=x
     have hl4:=l4.1
     simp only at hl4
     generalize hT:(3:Int)=T3 at hl4
     cases hl4 with
     |val _ _ hv h3=>
      obtain ⟨r2,c2,k1,k2,k3,k4⟩:=ih c1 om l3 Γ b ρ t hρ wb mb ht
      exact ⟨r2,c2,.caN h ho ha l1 rfl k1,om,k3,k4.back om rfl⟩
     |pair _ _ t1 t2 hc=>
      have henv:EOK p L (⟨e.tail,3,0⟩::⟨e.name,1,0⟩::Γ) (.bind e.tail tx (.bind e.name hx ρ)):= .bind ⟨e.tail,3,0⟩ _ _ _ t2 (.bind ⟨e.name,1,0⟩ _ _ _ t1 hρ)
      obtain ⟨r2,c2,k1,k2,k3,k4⟩:=ih c1 om l3 _ d _ t henv wd md ht
      exact ⟨r2,c2,.caC h ho ha l1 (YC t1) k1,om,k3,k4.back om rfl⟩
  ·obtain ⟨a,b,ha⟩:=RO h3
   have wa:=sb 0 a (by rw [ha];rfl)
   have wb:=sb 1 b (by rw [ha];rfl)
   have ma:=mem (i:=0) (a:=a) (by rw [ha];rfl)
   have mb:=mem (i:=1) (a:=b) (by rw [ha];rfl)
   have e2: ∀i,Wan p e i t=if i=0 then e.type_ else t:=fun i=>by unfold Wan;rw [if_neg om,if_neg om,if_neg om,if_neg om,if_neg om,if_pos om]
   have et:=he.typ om
   rcases (show e.op=21∨e.op=22 by omega) with ho|ho
   ·have e1: ∀i,Win Γ e i=⟨e.name,e.type_,0⟩::Γ:=fun i=>by unfold Win;rw [if_pos (.inl ho)]
    rw [e1,e2] at wa wb
    have henv:EOK p L (⟨e.name,e.type_,0⟩::Γ) (.letrec e.name a ρ):= .letrec ⟨e.name,e.type_,0⟩ Γ a ρ wa ma et hρ
    obtain ⟨r2,c2,k1,k2,k3,k4⟩:=ih (c+1) om om _ b _ t henv wb mb ht
    exact ⟨r2,c2,.lt h ho ha k1,om,k3,k4.back om rfl⟩
   ·have e1:Win Γ e 0=Γ:=by unfold Win;rw [if_neg om,if_neg om]
    have e1':Win Γ e 1=⟨e.name,e.type_,0⟩::Γ:=by unfold Win;rw [if_pos (.inr ⟨ho,rfl⟩)]
    rw [e1,e2] at wa
    rw [e1',e2] at wb
    obtain ⟨r1,c1,l1,l2,l3,l4⟩:=ih (c+1) om om Γ a ρ _ hρ wa ma et
    cases r1 with
    |error y=>exact ⟨_,c1,.stE h ho ha l1,om,l3,l4.err om⟩
    |ok x=>
     have henv:EOK p L (⟨e.name,e.type_,0⟩::Γ) (.bind e.name (.done x.plain x.head x.tail) ρ):= .bind ⟨e.name,e.type_,0⟩ Γ _ ρ l4.1 hρ
     obtain ⟨r2,c2,k1,k2,k3,k4⟩:=ih c1 om l3 _ b _ t henv wb mb ht
     exact ⟨r2,c2,.stV h ho ha l1 k1,om,k3,k4.back om rfl⟩
end
end Fth
namespace Fth
open Go
inductive Tg(p:AM)(m:Nat):Nat→Th→Except Int Aw→Nat→Prop
 |done {c:Nat} {x:Aw}:Tg p m c (.done x.plain x.head x.tail) (.ok x) c
 |later {c e ρ r c'} (h:Lk p m c e ρ r c'):Tg p m c (.later e ρ) r c'
inductive Wl(p:AM)(m:Nat):Nat→Th→Th→List (Nat×Nat)→Except Int AF→Nat→Prop
 |hE {c h t acc y c'} (hb:acc.length≤34000000000) (h1:Tg p m c h (.error y) c'):Wl p m c h t acc (.error y) c'
 |tE {c h t acc x c1 y c'} (hb:acc.length≤34000000000) (h1:Tg p m c h (.ok x) c1) (h2:Tg p m c1 t (.error y) c'):Wl p m c h t acc (.error y) c'
 |stop {c h t acc x c1 z c'} (hb:acc.length≤34000000000) (h1:Tg p m c h (.ok x) c1) (h2:Tg p m c1 t (.ok z) c') (hz:z.head.isNil=true):Wl p m c h t acc (.ok ⟨3,(0,0),false,acc++[x.plain.num]⟩) c'
 |go {c h t acc x c1 z c2 r c'} (hb:acc.length≤34000000000) (h1:Tg p m c h (.ok x) c1) (h2:Tg p m c1 t (.ok z) c2) (hz:z.head.isNil=false) (h3:Wl p m c2 z.head z.tail (acc++[x.plain.num]) r c'):Wl p m c h t acc r c'
inductive Wh(p:AM)(m:Nat):Nat→Aw→Except Int AF→Nat→Prop
 |plain {c x} (hx:x.head.isNil=true):Wh p m c x (.ok x.plain) c
 |list {c x r c'} (hx:x.head.isNil=false) (h:Wl p m c x.head x.tail [] r c'):Wh p m c x r c'
inductive Rn(p:AM)(m:Nat):AE→Nm→Except Int AF→Nat→Prop
 |err {e ρ y c'} (h:Lk p m 0 e ρ (.error y) c'):Rn p m e ρ (.error y) c'
 |val {e ρ x c1 r c'} (h:Lk p m 0 e ρ (.ok x) c1) (h2:Wh p m c1 x r c'):Rn p m e ρ r c'
def rwv:Except Int AF→Int
 | .ok _=>0
 | .error y=>y
section
variable{p:AM}{m:Nat}{mp:Aq}
theorem Zz{c:Nat}{h:Th}{r:Except Int Aw}{c':Nat}(ht:Tg p m c h r c'): ∀y,r= .error y→y≠0:=by
 cases ht with
 |done=>rintro y ⟨⟩
 |later h=>exact PY h
theorem OQ(hp:WP p)(hmp:Mpp p mp)(hm:m≤16384){c:Nat}{h:Th}{r:Except Int Aw}{c':Nat}(ht:Tg p m c h r c'):Ev fun N=>mean_callth N p.funcs c m mp h=some (r,p.funcs,(c':Int),(m:Int)):=by
 cases ht with
 |done=>exact Ev.down 1 (Ev.all fun N=>rfl)
 |later h=>
  rename_i e ρ
  refine Ev.down 2 ((WJ hp hmp hm h).mono fun N hN=>?_)
  show ((mean_run_look N p.funcs c m mp e ρ).bind fun x29=>Jt x29.1 (fun y43=>some ((Except.error y43:Except Int Aw),x29.2.1,x29.2.2.1,x29.2.2.2)) fun r45=>some ((Except.ok r45:Except Int Aw),x29.2.1,x29.2.2.1,x29.2.2.2))=_
  rw [hN]
  exact PX _ _
theorem QK(hp:WP p)(hm:m≤16384){c:Nat}{h:Th}{r:Except Int Aw}{c':Nat}(ht:Tg p m c h r c'):Ev fun N=>ref11_Machine_of N ⟨p,m,c,0⟩ h=some (rth r,⟨p,m,c',rwy r⟩):=by
 cases ht with
 |done=>exact Ev.down 1 (Ev.all fun N=>rfl)
 |later h=>
  rename_i e ρ
  refine Ev.down 1 ((Xq hp hm h).mono fun N hN=>?_)
  show ((ref11_Machine_look N ⟨p,m,c,0⟩ e ρ).bind fun x131=>some (x131.1,x131.2))=_
  rw [hN];rfl
theorem AA9{N:Nat}{c y:Int}{h:Th}(hy:y≠0):ref11_Machine_of (N+1) ⟨p,m,c,y⟩ h=some (h,⟨p,m,c,y⟩):=by
 show Hb _ N ⟨p,m,c,y⟩ h=_
 unfold Hb
 rw [show (((AU.mk p m c y).why != 0))=true by simpa using hy];rfl
theorem UF{acc:List (Nat×Nat)}{z:Nat×Nat}(h:acc.length≤34000000000):HB 16 acc [z]=some ():=by
 obtain ⟨u,hu,_⟩:=GC (b:=16) (xs:=acc) (ys:=[z]) (by decide) (by simp;omega)
 exact hu
theorem ABA(hp:WP p)(hmp:Mpp p mp)(hm:m≤16384){c:Nat}{h t:Th}{acc:List (Nat×Nat)}{r:Except Int AF}{c':Nat}(hw:Wl p m c h t acc r c')(hn:h.isNil=false):
  ∃k0,Ev fun N=>∀k,k0≤k→∀(a:Int) (b:Nat×Nat) (d:Bool) (l:List (Nat×Nat)),D0 N mp k p.funcs c m a b d l h t acc=some (r,p.funcs,(c':Int),(m:Int)):=by
 induction hw with
 | @hE c h t acc y c' hb h1=>
  refine ⟨1,(OQ hp hmp hm h1).mono fun N hN k hk a b d l=>?_⟩
  obtain ⟨k,rfl⟩: ∃j,k=j+1:=⟨k - 1,om⟩
  show Ce N mp (D0 N mp k) p.funcs c m a b d l h t acc=_
  unfold Ce
  rw [hn,hN];rfl
 | @tE c h t acc x c1 y c' hb h1 h2=>
  refine ⟨1,((OQ hp hmp hm h1).and (OQ hp hmp hm h2)).mono fun N hN k hk a b d l=>?_⟩
  obtain ⟨k,rfl⟩: ∃j,k=j+1:=⟨k - 1,om⟩
  show Ce N mp (D0 N mp k) p.funcs c m a b d l h t acc=_
  unfold Ce
  rw [hn,hN.1]
  show ((HB 16 acc [x.plain.num]).bind fun _=>(mean_callth N p.funcs c1 m mp t).bind fun x730=>_)=_
  rw [UF hb,Option.bind_some,hN.2];rfl
 | @stop c h t acc x c1 z c' hb h1 h2 hz=>
  refine ⟨2,((OQ hp hmp hm h1).and (OQ hp hmp hm h2)).mono fun N hN k hk a b d l=>?_⟩
  obtain ⟨k,rfl⟩: ∃j,k=j+2:=⟨k - 2,om⟩
  show Ce N mp (D0 N mp (k+1)) p.funcs c m a b d l h t acc=_
  unfold Ce
  rw [hn,hN.1]
  show ((HB 16 acc [x.plain.num]).bind fun _=>(mean_callth N p.funcs c1 m mp t).bind fun x730=>_)=_
  rw [UF hb,Option.bind_some,hN.2]
  show Ce N mp (D0 N mp k) p.funcs c' m z.plain.type_ z.plain.num z.plain.bool z.plain.list z.head z.tail (acc++[x.plain.num])=_
  unfold Ce
  rw [hz];rfl
 | @go c h t acc x c1 z c2 r c' hb h1 h2 hz _ ih=>
  obtain ⟨k0,ih⟩:=ih hz
  refine ⟨k0+1,(((OQ hp hmp hm h1).and (OQ hp hmp hm h2)).and ih).mono fun N hN k hk a b d l=>?_⟩
  obtain ⟨k,rfl⟩: ∃j,k=j+1:=⟨k - 1,om⟩
  show Ce N mp (D0 N mp k) p.funcs c m a b d l h t acc=_
  unfold Ce
  rw [hn,hN.1.1]
  show ((HB 16 acc [x.plain.num]).bind fun _=>(mean_callth N p.funcs c1 m mp t).bind fun x730=>_)=_
  rw [UF hb,Option.bind_some,hN.1.2]
  exact hN.2 k om _ _ _ _
theorem ABB(hp:WP p)(hmp:Mpp p mp)(hm:m≤16384){c:Nat}{x:Aw}{r:Except Int AF}{c':Nat}(hw:Wh p m c x r c'):Ev fun N=>ER N p.funcs c m mp x=some (r,p.funcs,(c':Int),(m:Int)):=by
 cases hw with
 |plain hx=>
  refine Ev.all fun N=>?_
  unfold ER
  rw [hx];rfl
 |list hx h=>
  obtain ⟨k0,h⟩:=ABA hp hmp hm h hx
  refine (h.and (NK k0)).mono fun N hN=>?_
  unfold ER
  rw [hx]
  exact hN.1 N hN.2 _ _ _ _
theorem ACP(hp:WP p)(hm:m≤16384){c:Nat}{h t:Th}{acc:List (Nat×Nat)}{r:Except Int AF}{c':Nat}(hw:Wl p m c h t acc r c')(hn:h.isNil=false):
  ∃k0,Ev fun N=>∀k,k0≤k→∀(pl:AF),∃v,Bq N k (.done pl h t) p.funcs m c 0 acc=some (v,⟨p,m,c',rwv r⟩)∧∀u,r= .ok u→v=u:=by
 induction hw with
 | @hE c h t acc y c' hb h1=>
  have hy:=Zz h1 y rfl
  refine ⟨2,Ev.down 1 (((QK hp hm h1).up 1).mono fun N hN k hk pl=>?_)⟩
  obtain ⟨k,rfl⟩: ∃j,k=j+2:=⟨k - 2,om⟩
  refine ⟨⟨3,(0,0),false,acc++[MT.num]⟩,?_,fun u h=>by cases h⟩
  show Bn (N+1) (.done pl h t) p.funcs m c 0 acc (Bq (N+1) (k+1)) (!h.isNil)=_
  unfold Bn
  rw [hn]
  show ((ref11_Machine_of (N+1) ⟨p,m,c,0⟩ h).bind fun x764=>_)=_
  rw [hN]
  show ((HB 16 acc [MT.num]).bind fun _=>(ref11_Machine_of (N+1) ⟨p,m,c',y⟩ t).bind fun x901=>_)=_
  rw [UF hb,Option.bind_some,AA9 hy,Option.bind_some]
  show C7 (N+1) (Bq (N+1) k) t p.funcs m c' y (acc++[MT.num])=_
  unfold C7
  rw [show (y==0)=false by simpa using hy];rfl
 | @tE c h t acc x c1 y c' hb h1 h2=>
  have hy:=Zz h2 y rfl
  refine ⟨2,(((QK hp hm h1).and (QK hp hm h2)).mono fun N hN k hk pl=>?_)⟩
  obtain ⟨k,rfl⟩: ∃j,k=j+2:=⟨k - 2,om⟩
  refine ⟨⟨3,(0,0),false,acc++[x.plain.num]⟩,?_,fun u h=>by cases h⟩
  show Bn N (.done pl h t) p.funcs m c 0 acc (Bq N (k+1)) (!h.isNil)=_
  unfold Bn
  rw [hn]
  show ((ref11_Machine_of N ⟨p,m,c,0⟩ h).bind fun x764=>_)=_
  rw [hN.1]
  show ((HB 16 acc [x.plain.num]).bind fun _=>(ref11_Machine_of N ⟨p,m,c1,0⟩ t).bind fun x901=>_)=_
  rw [UF hb,Option.bind_some,hN.2,Option.bind_some]
  show C7 N (Bq N k) th0 p.funcs m c' y (acc++[x.plain.num])=_
  unfold C7
  rw [show (y==0)=false by simpa using hy];rfl
 | @stop c h t acc x c1 z c' hb h1 h2 hz=>
  refine ⟨2,(((QK hp hm h1).and (QK hp hm h2)).mono fun N hN k hk pl=>?_)⟩
  obtain ⟨k,rfl⟩: ∃j,k=j+2:=⟨k - 2,om⟩
  refine ⟨⟨3,(0,0),false,acc++[x.plain.num]⟩,?_,fun u h=>by cases h;rfl⟩
  show Bn N (.done pl h t) p.funcs m c 0 acc (Bq N (k+1)) (!h.isNil)=_
  unfold Bn
  rw [hn]
  show ((ref11_Machine_of N ⟨p,m,c,0⟩ h).bind fun x764=>_)=_
  rw [hN.1]
  show ((HB 16 acc [x.plain.num]).bind fun _=>(ref11_Machine_of N ⟨p,m,c1,0⟩ t).bind fun x901=>_)=_
  rw [UF hb,Option.bind_some,hN.2,Option.bind_some]
  show Bn N (.done z.plain z.head z.tail) p.funcs m c' 0 (acc++[x.plain.num]) (Bq N k) (!z.head.isNil)=_
  unfold Bn
  rw [hz];rfl
 | @go c h t acc x c1 z c2 r c' hb h1 h2 hz _ ih=>
  obtain ⟨k0,ih⟩:=ih hz
  refine ⟨k0+1,((((QK hp hm h1).and (QK hp hm h2)).and ih).mono fun N hN k hk pl=>?_)⟩
  obtain ⟨k,rfl⟩: ∃j,k=j+1:=⟨k - 1,om⟩
  obtain ⟨v,hv,hv'⟩:=hN.2 k om z.plain
  refine ⟨v,?_,hv'⟩
  show Bn N (.done pl h t) p.funcs m c 0 acc (Bq N k) (!h.isNil)=_
  unfold Bn
  rw [hn]
  show ((ref11_Machine_of N ⟨p,m,c,0⟩ h).bind fun x764=>_)=_
  rw [hN.1.1]
  show ((HB 16 acc [x.plain.num]).bind fun _=>(ref11_Machine_of N ⟨p,m,c1,0⟩ t).bind fun x901=>_)=_
  rw [UF hb,Option.bind_some,hN.1.2]
  exact hv
theorem ACQ(hp:WP p)(hm:m≤16384){c:Nat}{x:Aw}{r:Except Int AF}{c':Nat}(hw:Wh p m c x r c'):Ev fun N=>∃v,CQ N ⟨p,m,c,0⟩ (.done x.plain x.head x.tail)=some (v,⟨p,m,c',rwv r⟩)∧∀u,r= .ok u→v=u:=by
 cases hw with
 |plain hx=>
  refine Ev.all fun N=>⟨x.plain,?_,fun u h=>by cases h;rfl⟩
  show Ec N ⟨p,m,c,0⟩ (.done x.plain x.head x.tail) (!!x.head.isNil)=_
  rw [hx];rfl
 |list hx h=>
  obtain ⟨k0,h⟩:=ACP hp hm h hx
  refine (h.and (NK k0)).mono fun N hN=>?_
  obtain ⟨v,hv,hv'⟩:=hN.1 N hN.2 x.plain
  refine ⟨v,?_,hv'⟩
  show Ec N ⟨p,m,c,0⟩ (.done x.plain x.head x.tail) (!!x.head.isNil)=_
  rw [hx]
  exact hv
def Rv(m:Nat)(t:Int)(r:Except Int AF)(c':Nat):Prop:=
 match r with
 | .ok v=>VV t v∧0<c'∧v.list.length≤34000000001
 | .error y=>(y=60∧c'=m)∨((y=50∨y=51∨y=52)∧0<c')
variable{L:Nat}
theorem RP(hp:WP p)(hS: ∀f∈p.funcs,WTy p f.params.reverse f.body f.type_)(hL:1≤L){c:Nat}(hc:c≤m){t:Int}{h:Th}(ht:TOK p L t h):
  ∃r c',Tg p m c h r c'∧c≤c'∧c'≤m∧(∀y,r= .error y→(y=60∧c'=m)∨((y=50∨y=51∨y=52)∧c<c'))∧(∀x,r= .ok x→TOK p L t (.done x.plain x.head x.tail)∧(c<c'∨(c'=c∧ch x.tail<ch h))):=by
 cases ht with
 |val _ v hv h3=>exact ⟨_,_,.done (x:=⟨v,.nil,.nil⟩),om,hc,fun y h=>(by cases h),fun x h=>by cases h;exact ⟨.val t v hv h3,.inr ⟨rfl,by simp [ch]⟩⟩⟩
 |pair a b h1 h2 h3=>exact ⟨_,_,.done (x:=⟨v0,a,b⟩),om,hc,fun y h=>(by cases h),fun x h=>by cases h;exact ⟨.pair a b h1 h2 h3,.inr ⟨rfl,by simp [ch]⟩⟩⟩
 |later Γ ρ e _ he hw hwe ht=>
  obtain ⟨r,c',l1,l2,l3,l4⟩:=Zy hp hS hL (m - c) c om hc Γ e ρ t he hw hwe ht
  refine ⟨r,c',.later l1,l2,l3,fun y h=>?_,fun x h=>?_⟩
  ·subst h;exact l4
  ·subst h;exact ⟨l4.1,.inl l4.2⟩
theorem ACR(hp:WP p)(hS: ∀f∈p.funcs,WTy p f.params.reverse f.body f.type_)(hL:1≤L): ∀(k n c:Nat) (h t:Th) (acc:List (Nat×Nat)),m - c≤k→ch t≤n→c≤m→TOK p L 1 h→TOK p L 3 t→acc.length+ch t+(L+1)*(m - c)≤34000000000→(∀z∈acc,Gn z)→
  ∃r c',Wl p m c h t acc r c'∧c≤c'∧c'≤m∧(∀y,r= .error y→(y=60∧c'=m)∨((y=50∨y=51∨y=52)∧c<c'))∧∀v,r= .ok v→VV 3 v∧v.list.length≤34000000001:=by
 intro k
 induction k with
 |zero=>
  intro n
  induction n with
  |zero=>
   intro c h t acc hk hn hc h1 h3 hb hg
   obtain ⟨r,c1,t1,t2,t3,t4,t5⟩:=RP hp hS hL hc h1
   cases r with
   |error y=>exact ⟨_,c1,.hE om t1,t2,t3,fun z hz=>by cases hz;exact t4 y rfl,fun v hv=>by cases hv⟩
   |ok x=>
    have hc1:c1=c:=om
    obtain ⟨r2,c2,s1,s2,s3,s4,s5⟩:=RP hp hS hL t3 h3
    cases r2 with
    |error y=>exact ⟨_,c2,.tE om t1 s1,om,s3,fun z hz=>by cases hz;rw [hc1] at s4;exact s4 y rfl,fun v hv=>by cases hv⟩
    |ok z=>have:=(s5 z rfl).2;omega
  |succ n ih=>
   intro c h t acc hk hn hc h1 h3 hb hg
   obtain ⟨r,c1,t1,t2,t3,t4,t5⟩:=RP hp hS hL hc h1
   cases r with
   |error y=>exact ⟨_,c1,.hE om t1,t2,t3,fun z hz=>by cases hz;exact t4 y rfl,fun v hv=>by cases hv⟩
   |ok x=>
    have hc1:c1=c:=om
    have vx:=Qo (t5 x rfl).1 (by decide)
    obtain ⟨a,ha,hae⟩:=vv1 vx
    have gx:Gn x.plain.num:=by rw [hae];exact .of ha
    obtain ⟨r2,c2,s1,s2,s3,s4,s5⟩:=RP hp hS hL t3 h3
    cases r2 with
    |error y=>exact ⟨_,c2,.tE om t1 s1,om,s3,fun z hz=>by cases hz;rw [hc1] at s4;exact s4 y rfl,fun v hv=>by cases hv⟩
    |ok z=>
     have s6:=s5 z rfl
     have hg': ∀w∈acc++[x.plain.num],Gn w:=fun w hw=>by
      rcases List.mem_append.1 hw with hw|hw
      ·exact hg w hw
      ·simp at hw;subst hw;exact gx
     obtain ⟨zp,zh,zt⟩:=z
     cases hz:zh.isNil
     ·have hp2:TOK p L 1 zh∧TOK p L 3 zt:=by
       have:=s6.1
       simp only at this
       generalize (3:Int)=T3 at this
       cases this with
       |val=>cases hz
       |pair _ _ a b _=>exact ⟨a,b⟩
      have hch:ch zt<ch t:=by have:=s6.2;simp only at this;omega
      obtain ⟨r,c',w1,w2,w3,w4,w5⟩:=ih c2 zh zt (acc++[x.plain.num]) om om s3 hp2.1 hp2.2 (by rw [List.length_append,List.length_singleton,show m - c2=m - c by omega];omega) hg'
      exact ⟨r,c',.go om t1 s1 hz w1,om,w3,fun y hy=>(w4 y hy).imp id fun h=>⟨h.1,om⟩,w5⟩
     ·exact ⟨_,c2,.stop om t1 s1 hz,om,s3,fun y h=>(by cases h),fun v hv=>by cases hv;exact ⟨.inr (.inr ⟨rfl,rfl,rfl,rfl,hg'⟩),by simp;omega⟩⟩
 |succ k ihk=>
  intro n
  induction n using Nat.strongRecOn with
  |ind n ih=>
   intro c h t acc hk hn hc h1 h3 hb hg
   obtain ⟨r,c1,t1,t2,t3,t4,t5⟩:=RP hp hS hL hc h1
   cases r with
   |error y=>exact ⟨_,c1,.hE om t1,t2,t3,fun z hz=>by cases hz;exact t4 y rfl,fun v hv=>by cases hv⟩
   |ok x=>
    have vx:=Qo (t5 x rfl).1 (by decide)
    obtain ⟨a,ha,hae⟩:=vv1 vx
    have gx:Gn x.plain.num:=by rw [hae];exact .of ha
    obtain ⟨r2,c2,s1,s2,s3,s4,s5⟩:=RP hp hS hL t3 h3
    cases r2 with
    |error y=>exact ⟨_,c2,.tE om t1 s1,om,s3,fun z hz=>by cases hz;exact (s4 y rfl).imp id fun h=>⟨h.1,om⟩,fun v hv=>by cases hv⟩
    |ok z=>
     have s6:=s5 z rfl
     have hg': ∀w∈acc++[x.plain.num],Gn w:=fun w hw=>by
      rcases List.mem_append.1 hw with hw|hw
      ·exact hg w hw
      ·simp at hw;subst hw;exact gx
     obtain ⟨zp,zh,zt⟩:=z
     cases hz:zh.isNil
     ·have hp2:TOK p L 1 zh∧TOK p L 3 zt∧ch zt<L:=by
       have:=s6.1
       simp only at this
       generalize (3:Int)=T3 at this
       cases this with
       |val=>cases hz
       |pair _ _ a b c=>exact ⟨a,b,c⟩
      rcases Nat.lt_or_ge c c2 with hlt|hge
      ·have hmul:(L+1)*(m - c2)+(L+1)≤(L+1)*(m - c):=by
        have:=Nat.mul_le_mul_left (L+1) (show m - c2+1≤m - c by omega)
        rw [Nat.mul_add,Nat.mul_one] at this;exact this
       obtain ⟨r,c',w1,w2,w3,w4,w5⟩:=ihk (ch zt) c2 zh zt (acc++[x.plain.num]) om om s3 hp2.1 hp2.2.1 (by rw [List.length_append,List.length_singleton];omega) hg'
       exact ⟨r,c',.go om t1 s1 hz w1,om,w3,fun y hy=>(w4 y hy).imp id fun h=>⟨h.1,om⟩,w5⟩
      ·have hch:ch zt<ch t:=by have:=s6.2;simp only at this;omega
       obtain ⟨r,c',w1,w2,w3,w4,w5⟩:=ih (ch zt) om c2 zh zt (acc++[x.plain.num]) om om s3 hp2.1 hp2.2.1 (by rw [List.length_append,List.length_singleton,show m - c2=m - c by omega];omega) hg'
       exact ⟨r,c',.go om t1 s1 hz w1,om,w3,fun y hy=>(w4 y hy).imp id fun h=>⟨h.1,om⟩,w5⟩
     ·exact ⟨_,c2,.stop om t1 s1 hz,om,s3,fun y h=>(by cases h),fun v hv=>by cases hv;exact ⟨.inr (.inr ⟨rfl,rfl,rfl,rfl,hg'⟩),by simp;omega⟩⟩
theorem ACS(hp:WP p)(hS: ∀f∈p.funcs,WTy p f.params.reverse f.body f.type_)(hL:1≤L)(hL2:L≤1100000)(hm:m≤16384){Γ:List AJ}{e:AE}{ρ:Nm}{t:Int}(he:EOK p L Γ ρ)(hw:WTy p Γ e t)(hwe:WE e)(ht:1≤t∧t≤3):
  ∃r c',Rn p m e ρ r c'∧c'≤m∧Rv m t r c':=by
 obtain ⟨r,c1,l1,l2,l3,l4⟩:=Zy hp hS hL (m - 0) 0 (Nat.le_refl _) (Nat.zero_le _) Γ e ρ t he hw hwe ht
 cases r with
 |error y=>exact ⟨_,c1,.err l1,l3,l4⟩
 |ok x=>
  obtain ⟨xp,xh,xt⟩:=x
  obtain ⟨h4,h5⟩:=l4
  simp only at h4
  cases hz:xh.isNil
  ·generalize hT:t=T at h4
   cases h4 with
   |val=>cases hz
   |pair _ _ a b hc=>
    subst hT
    have hmul:(L+1)*(m - c1)≤1100001*16384:=Nat.mul_le_mul om om
    obtain ⟨r,c',w1,w2,w3,w4,w5⟩:=ACR hp hS hL (m - c1) (ch xt) c1 xh xt [] (Nat.le_refl _) (Nat.le_refl _) l3 a b (by simp only [List.length_nil];omega) (by simp)
    refine ⟨r,c',.val l1 (.list hz w1),w3,?_⟩
    cases r with
    |ok v=>exact ⟨(w5 v rfl).1,om,(w5 v rfl).2⟩
    |error y=>exact (w4 y rfl).imp id fun h=>⟨h.1,om⟩
  ·generalize hT:t=T at h4
   cases h4 with
   |val _ v hv h3=>
    have hn:xp.list=[]:=by
     rcases hv with ⟨_,_,_,_,h⟩| ⟨_,_,_,h⟩| ⟨h,_⟩
     ·exact h
     ·exact h
     ·exact h3 h
    exact ⟨_,c1,.val l1 (.plain hz),l3,hv,h5,by simp only;rw [hn];simp⟩
   |pair _ _ a b hc=>rw [YC a] at hz;cases hz
end
end Fth
namespace Fth
open Go
def E2(p:Nat→Nat→Prop):Prop:=∃n,∀N k,n≤N→n≤k→p N k
theorem E2.and{p q:Nat→Nat→Prop}(hp:E2 p)(hq:E2 q):E2 fun N k=>p N k∧q N k:=by
 obtain ⟨n,hn⟩:=hp;obtain ⟨m,hm⟩:=hq
 exact ⟨n+m,fun N k h h'=>⟨hn N k om om,hm N k om om⟩⟩
theorem E2.mono{p q:Nat→Nat→Prop}(hp:E2 p)(h: ∀N k,p N k→q N k):E2 q:=let ⟨n,hn⟩:=hp;⟨n,fun N k a b=>h N k (hn N k a b)⟩
theorem E2.of{p:Nat→Prop}(h:Ev p):E2 fun N _=>p N:=let ⟨n,hn⟩:=h;⟨n,fun N _ a _=>hn N a⟩
theorem E2.diag{p:Nat→Nat→Prop}(h:E2 p):Ev fun N=>p N N:=let ⟨n,hn⟩:=h;⟨n,fun N a=>hn N N a a⟩
theorem Z0{p:Nat→Nat→Prop}(h:E2 fun N k=>p N (k+1)):E2 p:=by
 obtain ⟨n,hn⟩:=h
 refine ⟨n+1,fun N k a b=>?_⟩
 obtain ⟨j,rfl⟩: ∃j,k=j+1:=⟨k - 1,om⟩
 exact hn N j om om
def ET{α:Type}(f:Nat→Option α)(Q:α→Prop):Prop:=∃r,Q r∧Ev fun N=>f N=some r
def EL{α:Type}(f:Nat→Nat→Option α)(Q:α→Prop):Prop:=∃r,Q r∧E2 fun N k=>f N k=some r
section
variable{α β:Type}
theorem ET.of{x:Option α}{Q:α→Prop}(h:T x Q):ET (fun _=>x) Q:=by obtain ⟨r,e,h⟩:=h;exact ⟨r,h,Ev.all fun _=>e⟩
theorem ET.some{r:α}{Q:α→Prop}(h:Q r):ET (fun _=>Option.some r) Q:=⟨r,h,Ev.all fun _=>rfl⟩
theorem ET.bind{f:Nat→Option α}{g:Nat→α→Option β}{P:α→Prop}{Q:β→Prop}(h:ET f P)(k: ∀a,P a→ET (fun N=>g N a) Q):ET (fun N=>(f N).bind (g N)) Q:=by
 obtain ⟨a,ha,hE⟩:=h
 obtain ⟨b,hb,hE2⟩:=k a ha
 exact ⟨b,hb,(hE.and hE2).mono fun N h=>by show (f N).bind (g N)=_;rw [h.1];exact h.2⟩
theorem ET.cond{c:Bool}{f g:Nat→Option α}{Q:α→Prop}(h1:c=true→ET f Q)(h2:c=false→ET g Q):ET (fun N=>bif c then f N else g N) Q:=by
 cases c
 ·exact h2 rfl
 ·exact h1 rfl
theorem ET.mono{f:Nat→Option α}{P Q:α→Prop}(h:ET f P)(k: ∀a,P a→Q a):ET f Q:=let ⟨r,hr,e⟩:=h;⟨r,k r hr,e⟩
theorem ET.down{f:Nat→Option α}{Q:α→Prop}(h:ET (fun N=>f (N+1)) Q):ET f Q:=let ⟨r,hr,e⟩:=h;⟨r,hr,Ev.down 1 e⟩
theorem ET.cg{f g:Nat→Option α}{Q:α→Prop}(h:ET f Q)(e: ∀N,g N=f N):ET g Q:=by
 have:g=f:=funext e
 rw [this];exact h
theorem Rc{f:Nat→Option α}{Q:α→Prop}(n:Nat)(h: ∃r,Q r∧∀N,n≤N→f N=Option.some r):ET f Q:=let ⟨r,hr,e⟩:=h;⟨r,hr,⟨n,e⟩⟩
theorem EL.bind{f:Nat→Option α}{g:Nat→Nat→α→Option β}{P:α→Prop}{Q:β→Prop}(h:ET f P)(k: ∀a,P a→EL (fun N k=>g N k a) Q):EL (fun N k=>(f N).bind (g N k)) Q:=by
 obtain ⟨a,ha,hE⟩:=h
 obtain ⟨b,hb,hE2⟩:=k a ha
 exact ⟨b,hb,((E2.of hE).and hE2).mono fun N k h=>by show (f N).bind (g N k)=_;rw [h.1];exact h.2⟩
theorem EL.cond{c:Bool}{f g:Nat→Nat→Option α}{Q:α→Prop}(h1:c=true→EL f Q)(h2:c=false→EL g Q):EL (fun N k=>bif c then f N k else g N k) Q:=by
 cases c
 ·exact h2 rfl
 ·exact h1 rfl
theorem ET.eq{x:Option α}{a:α}{g:Nat→α→Option β}{Q:β→Prop}(h:x=Option.some a)(k:ET (fun N=>g N a) Q):ET (fun N=>x.bind (g N)) Q:=by subst h;exact k
theorem EL.eq{x:Option α}{a:α}{g:Nat→Nat→α→Option β}{Q:β→Prop}(h:x=Option.some a)(k:EL (fun N k=>g N k a) Q):EL (fun N k=>x.bind (g N k)) Q:=by subst h;exact k
theorem ET.tb{x:Option α}{g:Nat→α→Option β}{P:α→Prop}{Q:β→Prop}(h:T x P)(k: ∀a,P a→ET (fun N=>g N a) Q):ET (fun N=>x.bind (g N)) Q:=by obtain ⟨a,e,ha⟩:=h;exact .eq e (k a ha)
theorem EL.tb{x:Option α}{g:Nat→Nat→α→Option β}{P:α→Prop}{Q:β→Prop}(h:T x P)(k: ∀a,P a→EL (fun N k=>g N k a) Q):EL (fun N k=>x.bind (g N k)) Q:=by obtain ⟨a,e,ha⟩:=h;exact .eq e (k a ha)
theorem EL.of{f:Nat→Option α}{Q:α→Prop}(h:ET f Q):EL (fun N _=>f N) Q:=let ⟨r,hr,e⟩:=h;⟨r,hr,E2.of e⟩
theorem EL.some{r:α}{Q:α→Prop}(h:Q r):EL (fun _ _=>Option.some r) Q:=⟨r,h,⟨0,fun _ _ _ _=>rfl⟩⟩
theorem EL.down{f:Nat→Nat→Option α}{Q:α→Prop}(h:EL (fun N k=>f N (k+1)) Q):EL f Q:=let ⟨r,hr,e⟩:=h;⟨r,hr,Z0 e⟩
theorem EL.diag{f:Nat→Nat→Option α}{Q:α→Prop}(h:EL f Q):ET (fun N=>f N N) Q:=let ⟨r,hr,e⟩:=h;⟨r,hr,e.diag⟩
theorem EL.mono{f:Nat→Nat→Option α}{P Q:α→Prop}(h:EL f P)(k: ∀a,P a→Q a):EL f Q:=let ⟨r,hr,e⟩:=h;⟨r,k r hr,e⟩
end
theorem VG{s:List UInt8}: ∀(m:Aq) (i j:Nat),(Lq s m i).map (·.2)=(Lq s m j).map (·.2):=by
 intro m
 induction m with
 |nil=>intro i j;rfl
 |cons x m ih=>
  intro i j
  obtain ⟨k,v⟩:=x
  simp only [Lq]
  cases (s==k)
  ·exact ih _ _
  ·rfl
theorem XI(m:Aq)(s:List UInt8):Cu m s=((Lq s m 0).map (·.2)).getD 0:=by
 unfold Cu
 cases Lq s m 0<;>rfl
theorem UG(s:List UInt8):Cu [] s=0:=rfl
theorem Nz(k:List UInt8)(v:Int)(m:Aq)(s:List UInt8):Cu ((k,v)::m) s=bif s==k then v else Cu m s:=by
 rw [XI,XI]
 simp only [Lq]
 cases (s==k)
 ·simp only [cond_false];rw [VG m 1 0]
 ·rfl
theorem XJ(m:Aq)(s:List UInt8):OV m s=((Lq s m 0).map (·.2)).isSome:=by
 unfold OV
 cases Lq s m 0<;>rfl
theorem N0(k:List UInt8)(v:Int)(m:Aq)(s:List UInt8):OV ((k,v)::m) s=bif s==k then true else OV m s:=by
 rw [XJ,XJ]
 simp only [Lq]
 cases (s==k)
 ·simp only [cond_false];rw [VG m 1 0]
 ·rfl
theorem M4(s:List UInt8)(v:Int)(m:Aq)(t:List UInt8):Cu (MM s v m) t=bif t==s then v else Cu m t:=by
 induction m with
 |nil=>exact Nz s v [] t
 |cons x m ih=>
  obtain ⟨k,u⟩:=x
  rw [MM]
  cases h:(s==k)
  ·rw [cond_false,Nz,Nz,ih]
   cases h1:(t==k)
   ·rfl
   ·have:t=k:=by simpa using h1
    have h2:(t==s)=false:=by
     rw [this];simp only [beq_eq_false_iff_ne,ne_eq] at h ⊢;exact fun e=>h e.symm
    rw [h2];rfl
  ·have e:s=k:=by simpa using h
   subst e
   rw [cond_true,Nz,Nz]
   cases (t==s)<;>rfl
theorem Yl(s:List UInt8)(v:Int)(m:Aq)(t:List UInt8):OV (MM s v m) t=bif t==s then true else OV m t:=by
 induction m with
 |nil=>exact N0 s v [] t
 |cons x m ih=>
  obtain ⟨k,u⟩:=x
  rw [MM]
  cases h:(s==k)
  ·rw [cond_false,N0,N0,ih]
   cases h1:(t==k)
   ·rfl
   ·have:t=k:=by simpa using h1
    have h2:(t==s)=false:=by
     rw [this];simp only [beq_eq_false_iff_ne,ne_eq] at h ⊢;exact fun e=>h e.symm
    rw [h2];rfl
  ·have e:s=k:=by simpa using h
   subst e
   rw [cond_true,N0,N0]
   cases (t==s)<;>rfl
end Fth
namespace Fth
open Go
def bnd(e:AE)(i:Nat):List (List UInt8):=if e.op=21∨(e.op=22∧i=1) then [e.name] else if e.op=20∧i=2 then [e.name,e.tail] else []
def Kn(p:AM)(e:AE):Prop:=e.op=7→∃f,hd p e.name=some f∧f.params.length=e.args.length
inductive Sc(p:AM):(List UInt8→Prop)→AE→Prop
 |mk (B:List UInt8→Prop) (e:AE) (hv:e.op=6→B e.name) (hc:Kn p e) (hs: ∀i a,e.args[i]?=some a→Sc p (fun s=>s∈bnd e i∨B s) a):Sc p B e
theorem Z1{p:AM}{B:List UInt8→Prop}{e:AE}:Sc p B e↔(e.op=6→B e.name)∧Kn p e∧∀i a,e.args[i]?=some a→Sc p (fun s=>s∈bnd e i∨B s) a:=
 ⟨fun h=>by cases h with |mk _ _ a b c=>exact ⟨a,b,c⟩,fun h=> .mk B e h.1 h.2.1 h.2.2⟩
def FN(p:AM):Prop:=∀i f,p.funcs[i]?=some f→f.name∉(p.funcs.take i).map (·.name)
def PN(f:AO):Prop:=∀i x,f.params[i]?=some x→x.name∉(f.params.take i).map (·.name)
def ABC(p:AM):Prop:=FN p∧∀f∈p.funcs,PN f∧Sc p (fun s=>s∈f.params.map (·.name)) f.body
def Pl(p:AM)(mp:Aq):Prop:=∀nm,(hd p nm=none∧Cu mp nm=0)∨∃(i:Nat) (f:AO),p.funcs[i]?=some f∧hd p nm=some f∧Cu mp nm=(i:Int)+1
theorem Qq{y a:Int}{flt:AD}(hy:y≠0):T (D6 y a flt) fun r=>r.why≠0:=by
 unfold D6 J1
 exact T.cond (fun _=>T.cond (fun _=> .some hy) fun h=>by cases h) fun h=>T.cond (fun _=> .some hy) fun _=> .some (B1 h)
section
variable{p:AM}{mpl:Aq}(hpl:Pl p mpl)(hlen:p.funcs.length≤1000000)
include hpl hlen
theorem Z2{e:AE}{mi:Aq}{flt:AD}:T (F1 e mi mpl flt p) fun r=>r.why=0↔flt.why=0∧(e.op=6→Cu mi e.name≠0)∧Kn p e:=by
 have j3: ∀b,(e.op≠6)→(b=false↔Kn p e)→T (HV e flt b) fun r=>r.why=0↔flt.why=0∧(e.op=6→Cu mi e.name≠0)∧Kn p e:=by
  intro b h6 hb
  unfold HV
  refine T.cond (fun h=>T.bind (Qq (by decide)) fun r hr=> .some ?_) fun h=> .some ?_
  ·subst h
   exact ⟨fun h=>absurd h hr,fun h=>by have:=hb.2 h.2.2;cases this⟩
  ·subst h
   exact ⟨fun h=>⟨h,fun h'=>absurd h' h6,hb.1 rfl⟩,fun h=>h.1⟩
 have j2:e.op≠6→e.op≠7→T (GP e mpl flt p false) fun r=>r.why=0↔flt.why=0∧(e.op=6→Cu mi e.name≠0)∧Kn p e:=by
  intro h6 h7
  unfold GP
  refine T.cond (fun h=>by cases h) fun _=>T.cond (fun h=>absurd (CN h) h7) fun _=>j3 _ h6 ⟨fun _ h=>absurd h h7,fun _=>rfl⟩
 have j1:e.op≠6→T (HW e mpl flt p false) fun r=>r.why=0↔flt.why=0∧(e.op=6→Cu mi e.name≠0)∧Kn p e:=by
  intro h6
  unfold HW
  refine T.cond (fun h=>by cases h) fun _=>T.cond (fun h=>?_) fun h=>j2 h6 (B1 h)
  have h7:=CN h
  unfold GP
  rcases hpl e.name with ⟨hn,h0⟩| ⟨i,f,hi,hf,hm⟩
  ·rw [h0]
   refine T.cond (fun _=>T.bind (Qq (by decide)) fun r hr=> .some ⟨fun h=>absurd h hr,fun h=>?_⟩) fun h=>by cases h
   obtain ⟨f,hf,_⟩:=h.2.2 h7
   rw [hn] at hf;cases hf
  ·rw [hm]
   have hil:=(List.getElem?_eq_some_iff.1 hi).1
   refine T.cond (fun h=>by have:=CN h;omega) fun _=>T.cond (fun _=>?_) fun h=>absurd h7 (B1 h)
   rw [wr (x:=(i:Int)+1 - 1) om om,show (i:Int)+1 - 1=(i:Int) by omega]
   refine T.eq (CI hi) (j3 _ h6 ⟨fun h _=>⟨f,hf,?_⟩,fun h=>?_⟩)
   ·have:=KH h;omega
   ·obtain ⟨g,hg,hl⟩:=h h7
    rw [hf] at hg;cases hg
    simp;omega
 unfold F1
 refine T.cond (fun h=>?_) fun h=>j1 (B1 h)
 have h6:=CN h
 unfold HW
 refine T.cond (fun h=>T.bind (Qq (by decide)) fun r hr=> .some ⟨fun h=>absurd h hr,fun h'=>absurd (CN h) (h'.2.1 h6)⟩) fun h=>T.cond (fun h=>by have:=CN h;omega) fun h7=>?_
 unfold GP
 refine T.cond (fun h=>by cases h) fun _=>T.cond (fun h=>by have:=CN h;omega) fun _=>?_
 unfold HV
 refine T.cond (fun h=>by cases h) fun _=> .some ⟨fun h'=>⟨h',fun _=>B1 h,fun h7=>om⟩,fun h=>h.1⟩
omit hpl hlen in
theorem YD(e:AE)(i:Nat):Hv e (i:Int)=some (bnd e i):=by
 unfold Hv J2 Kt bnd
 have e1:((i:Int)==1)=decide (i=1):=by rw [Bool.eq_iff_iff];simp;omega
 have e2:((i:Int)==2)=decide (i=2):=by rw [Bool.eq_iff_iff];simp;omega
 rw [e1,e2]
 cases h1:(e.op==21)
 ·have h1:=B1 h1
  cases h2:(e.op==22)
  ·have h2:=B1 h2
   rw [if_neg om]
   cases h3:(e.op==20)
   ·have h3:=B1 h3
    rw [if_neg om];rfl
   ·have h3:=CN h3
    cases h4:decide (i=2)
    ·have h4:=Dj h4;rw [if_neg om];rfl
    ·have h4:=CR h4;rw [if_pos ⟨h3,h4⟩];rfl
  ·have h2:=CN h2
   cases h3:decide (i=1)
   ·have h3:=Dj h3
    rw [if_neg om,if_neg om,show (e.op==20)=false by simp;omega];rfl
   ·have h3:=CR h3
    rw [if_pos (.inr ⟨h2,h3⟩)];rfl
 ·have h1:=CN h1
  rw [if_pos (.inl h1)];rfl
omit hpl hlen in
theorem ABD(e:AE)(i:Nat):Ij e (i:Int)=some (bnd e i):=YD e i
omit hpl hlen in
theorem YE(e:AE)(i:Nat):(bnd e i).length≤2:=by
 unfold bnd;split
 ·simp
 ·split<;>simp
theorem ABE: ∀(n:Nat) (e:AE),E5 e≤n→∀(C:List (List UInt8)) (mi:Aq) (flt:AD),(∀s,Cu mi s=(C.count s:Int))→C.length+2*n≤1000000000→
  ET (fun N=>scope_walk N e mi mpl flt p) fun r=>(∀s,Cu r.1 s=(C.count s:Int))∧(r.2.why=0↔flt.why=0∧Sc p (fun s=>s∈C) e):=by
 intro n
 induction n with
 |zero=>intro e he;have:=M3 e;omega
 |succ n ih=>
  intro e he C mi flt hmi hC
  have hal:=NL e.args
  have hes:=PT e
  refine ET.down ?_
  show ET (fun N=>LH (A2.at N) N e mi mpl flt p) _
  unfold LH
  refine ET.bind (.of (Z2 hpl hlen)) fun f1 hf1=>?_
  have cc: ∀s,(C.count s:Int)≠0↔s∈C:=fun s=>by
   have:=List.count_pos_iff (a:=s) (l:=C)
   constructor
   ·intro h;exact this.1 om
   ·intro h;have:=this.2 h;omega
  have loop: ∀(j i:Nat),i+j=e.args.length→∀(mi:Aq) (f2:AD),(∀s,Cu mi s=(C.count s:Int))→
    EL (fun N k=>Ck (A2.at N) N e mpl p k (i:Int) mi f2.why f2.at_) fun r=>(∀s,Cu r.1 s=(C.count s:Int))∧(r.2.why=0↔f2.why=0∧∀i' a,i≤i'→e.args[i']?=some a→Sc p (fun s=>s∈bnd e i'∨s∈C) a):=by
   intro j
   induction j with
   |zero=>
    intro i hi mi f2 hmi
    refine EL.down ?_
    show EL (fun N k=>I0 (A2.at N) N e mpl p (Ck (A2.at N) N e mpl p k) i mi f2.why f2.at_) _
    unfold I0
    refine EL.cond (fun h=>by have:=CR h;omega) fun _=> .some ⟨hmi,fun h=>⟨h,fun i' a hi' ha=>?_⟩,fun h=>h.1⟩
    have:=(List.getElem?_eq_some_iff.1 ha).1
    omega
   |succ j ihj=>
    intro i hi mi f2 hmi
    refine EL.down ?_
    show EL (fun N k=>I0 (A2.at N) N e mpl p (Ck (A2.at N) N e mpl p k) i mi f2.why f2.at_) _
    unfold I0
    refine EL.cond (fun _=>?_) fun h=>by have:=Dj h;omega
    have hil:i<e.args.length:=om
    obtain ⟨a,ha⟩: ∃a,e.args[i]?=some a:=⟨_,List.getElem?_eq_getElem hil⟩
    have has:=ON (List.mem_of_getElem? ha)
    refine EL.eq (CI ha) (EL.eq (YD e i) ?_)
    have hbl:=YE e i
    have l3: ∀(q t:Nat),t+q=(bnd e i).length→∀(m3:Aq) (w:Aq×AD),(∀s,Cu m3 s=(((bnd e i).drop t).count s+C.count s:Nat))→
      E2 (fun N k=>True)→∀(R:Aq×AD→Prop),(∀m4,(∀s,Cu m4 s=(C.count s:Int))→EL (fun N k=>Ck (A2.at N) N e mpl p k ((i+1:Nat):Int) m4 w.2.why w.2.at_) R)→
      ∃r,R r∧∃n0,∀N k kk,n0≤N→n0≤k→n0≤kk→Ie i (Ck (A2.at N) N e mpl p k) (bnd e i) w kk (t:Int) m3=some r:=by
     intro q
     induction q with
     |zero=>
      intro t ht m3 w hm3 _ R hR
      have hd0:(bnd e i).drop t=[]:=List.drop_eq_nil_of_le om
      obtain ⟨r,hr,n0,hn0⟩:=hR m3 (fun s=>by rw [hm3,hd0];simp)
      refine ⟨r,hr,n0+1,fun N k kk h1 h2 h3=>?_⟩
      obtain ⟨kk,rfl⟩: ∃j,kk=j+1:=⟨kk - 1,om⟩
      show Iy i (Ck (A2.at N) N e mpl p k) (bnd e i) w (Ie i (Ck (A2.at N) N e mpl p k) (bnd e i) w kk) t m3=_
      unfold Iy
      rw [show decide ((t:Int)< ((bnd e i).length:Int))=false from decide_eq_false om,cond_false,wr om om,show (i:Int)+1=((i+1:Nat):Int) by omega]
      exact hn0 N k om om
     |succ q ihq=>
      intro t ht m3 w hm3 ht2 R hR
      have htl:t< (bnd e i).length:=om
      obtain ⟨s0,hs0⟩: ∃s0,(bnd e i)[t]?=some s0:=⟨_,List.getElem?_eq_getElem htl⟩
      have hdr:=Lt hs0
      have h0:=hm3 s0
      have hc1:((bnd e i).drop t).count s0+C.count s0≤2+C.length:=by
       have a1:=List.count_le_length (a:=s0) (l:=(bnd e i).drop t)
       have a2:=List.count_le_length (a:=s0) (l:=C)
       simp at a1;omega
      obtain ⟨r,hr,n0,hn0⟩:=ihq (t+1) om (MM s0 (Cu m3 s0 - 1) m3) w (fun s=>by
       rw [M4]
       cases hs:(s==s0)
       ·rw [cond_false,hm3,hdr,List.count_cons_of_ne (fun e=>by subst e;simp at hs)]
       ·have:s=s0:=by simpa using hs
        subst this
        rw [cond_true,hm3,hdr,List.count_cons_self];omega) ht2 R hR
      refine ⟨r,hr,n0+1,fun N k kk h1 h2 h3=>?_⟩
      obtain ⟨kk,rfl⟩: ∃j,kk=j+1:=⟨kk - 1,om⟩
      show Iy i (Ck (A2.at N) N e mpl p k) (bnd e i) w (Ie i (Ck (A2.at N) N e mpl p k) (bnd e i) w kk) t m3=_
      unfold Iy
      rw [show decide ((t:Int)< ((bnd e i).length:Int))=true from decide_eq_true om,cond_true,CI hs0,Option.bind_some,wr (x:=(t:Int)+1) om om,wr (x:=Cu m3 s0 - 1) om om,show (t:Int)+1=((t+1:Nat):Int) by omega]
      exact hn0 N k kk om om om
    have l2: ∀(q t:Nat),t+q=(bnd e i).length→∀(m2:Aq),(∀s,Cu m2 s=(((bnd e i).take t).count s+C.count s:Nat))→
      ∃r:Aq×AD,((∀s,Cu r.1 s=(C.count s:Int))∧(r.2.why=0↔f2.why=0∧∀i' a,i≤i'→e.args[i']?=some a→Sc p (fun s=>s∈bnd e i'∨s∈C) a))∧
       ∃n0,∀N k kk,n0≤N→n0≤k→n0≤kk→If (A2.at N) N mpl p i f2.why f2.at_ (Ck (A2.at N) N e mpl p k) a (bnd e i) kk (t:Int) m2=some r:=by
     intro q
     induction q with
     |zero=>
      intro t ht m2 hm2
      have htk:(bnd e i).take t=bnd e i:=List.take_of_length_le om
      obtain ⟨w,hw,hE⟩:=ih a om (bnd e i++C) m2 ⟨f2.why,f2.at_⟩ (fun s=>by rw [hm2,htk,List.count_append]) (by rw [List.length_append];omega)
      obtain ⟨n1,hn1⟩:=hE
      obtain ⟨r,hr,n0,hn0⟩:=l3 (bnd e i).length 0 om w.1 w (fun s=>by rw [hw.1,List.drop_zero,List.count_append]) ⟨0,fun _ _ _ _=>trivial⟩ (fun r=>(∀s,Cu r.1 s=(C.count s:Int))∧(r.2.why=0↔f2.why=0∧∀i' a,i≤i'→e.args[i']?=some a→Sc p (fun s=>s∈bnd e i'∨s∈C) a)) fun m4 hm4=>(ihj (i+1) om m4 w.2 hm4).mono fun r hr=>⟨hr.1,by
       rw [hr.2,hw.2]
       have eB:(fun s=>s∈bnd e i++C)=fun s=>s∈bnd e i∨s∈C:=funext fun s=>propext List.mem_append
       rw [eB]
       constructor
       ·rintro ⟨⟨h1,h2⟩,h3⟩
        refine ⟨h1,fun i' a' hi' ha'=>?_⟩
        rcases Nat.eq_or_lt_of_le hi' with rfl|hlt
        ·rw [ha] at ha';cases ha';exact h2
        ·exact h3 i' a' hlt ha'
       ·rintro ⟨h1,h2⟩
        exact ⟨⟨h1,h2 i a (Nat.le_refl _) ha⟩,fun i' a' hi' ha'=>h2 i' a' om ha'⟩⟩
      refine ⟨r,hr,n0+n1+1,fun N k kk h1 h2 h3=>?_⟩
      obtain ⟨kk,rfl⟩: ∃j,kk=j+1:=⟨kk - 1,om⟩
      show Iz (A2.at N) N mpl p i f2.why f2.at_ (Ck (A2.at N) N e mpl p k) a (bnd e i) (If (A2.at N) N mpl p i f2.why f2.at_ (Ck (A2.at N) N e mpl p k) a (bnd e i) kk) t m2=_
      unfold Iz
      rw [show decide ((t:Int)< ((bnd e i).length:Int))=false from decide_eq_false om,cond_false]
      show ((scope_walk N a m2 mpl ⟨f2.why,f2.at_⟩ p).bind fun x649=>_)=_
      have ew:scope_walk N a m2 mpl ⟨f2.why,f2.at_⟩ p=some w:=hn1 N om
      rw [ew,Option.bind_some]
      exact hn0 N k N om om om
     |succ q ihq=>
      intro t ht m2 hm2
      have htl:t< (bnd e i).length:=om
      obtain ⟨s0,hs0⟩: ∃s0,(bnd e i)[t]?=some s0:=⟨_,List.getElem?_eq_getElem htl⟩
      have htk:(bnd e i).take (t+1)=(bnd e i).take t++[s0]:=by rw [List.take_add_one,hs0];rfl
      have h0:=hm2 s0
      have hc1:((bnd e i).take t).count s0+C.count s0≤2+C.length:=by
       have a1:=List.count_le_length (a:=s0) (l:=(bnd e i).take t)
       have a2:=List.count_le_length (a:=s0) (l:=C)
       simp at a1;omega
      obtain ⟨r,hr,n0,hn0⟩:=ihq (t+1) om (MM s0 (Cu m2 s0+1) m2) fun s=>by
       rw [M4,htk,List.count_append]
       cases hs:(s==s0)
       ·rw [cond_false,hm2,List.count_cons_of_ne (fun e=>by subst e;simp at hs)];simp
       ·have:s=s0:=by simpa using hs
        subst this
        rw [cond_true,hm2,List.count_singleton_self];omega
      refine ⟨r,hr,n0+1,fun N k kk h1 h2 h3=>?_⟩
      obtain ⟨kk,rfl⟩: ∃j,kk=j+1:=⟨kk - 1,om⟩
      show Iz (A2.at N) N mpl p i f2.why f2.at_ (Ck (A2.at N) N e mpl p k) a (bnd e i) (If (A2.at N) N mpl p i f2.why f2.at_ (Ck (A2.at N) N e mpl p k) a (bnd e i) kk) t m2=_
      unfold Iz
      rw [show decide ((t:Int)< ((bnd e i).length:Int))=true from decide_eq_true om,cond_true,CI hs0,Option.bind_some,wr (x:=(t:Int)+1) om om,wr (x:=Cu m2 s0+1) om om,show (t:Int)+1=((t+1:Nat):Int) by omega]
      exact hn0 N k kk om om om
    obtain ⟨r,hr,n0,hn0⟩:=l2 (bnd e i).length 0 om mi fun s=>by rw [hmi];simp
    exact ⟨r,hr,n0,fun N k h1 h2=>hn0 N k N h1 h2 h1⟩
  refine (loop e.args.length 0 om mi f1 hmi).diag.mono fun r hr=>⟨hr.1,?_⟩
  rw [hr.2,hf1,hmi,Z1,cc]
  constructor
  ·rintro ⟨⟨h1,h2,h3⟩,h4⟩;exact ⟨h1,h2,h3,fun i a ha=>h4 i a (Nat.zero_le _) ha⟩
  ·rintro ⟨h1,h2,h3,h4⟩;exact ⟨⟨h1,h2,h3⟩,fun i a _ ha=>h4 i a ha⟩
end
end Fth
namespace Fth
open Go
theorem Se{p:AM}{nm:List UInt8}{i:Nat}{f:AO}(hi:p.funcs[i]?=some f)(hn:f.name=nm)(h:nm∉(p.funcs.take i).map (·.name)):hd p nm=some f:=by
 unfold hd
 rw [List.find?_eq_some_iff_getElem]
 obtain ⟨hl,he⟩:=List.getElem?_eq_some_iff.1 hi
 refine ⟨by simpa using hn,i,hl,he,fun j hj=>?_⟩
 simp only [Bool.not_eq_true',beq_eq_false_iff_ne,ne_eq]
 intro e
 refine h (List.mem_map.2 ⟨p.funcs[j],?_,e⟩)
 rw [List.mem_take_iff_getElem]
 exact ⟨j,om,rfl⟩
theorem WK{p:AM}{nm:List UInt8}(h:nm∉p.funcs.map (·.name)):hd p nm=none:=by
 unfold hd
 rw [List.find?_eq_none]
 intro f hf e
 exact h (List.mem_map.2 ⟨f,hf,by simpa using e⟩)
section
variable{p:AM}
theorem ABF(hlen:p.funcs.length≤50000)(hb: ∀f∈p.funcs,E5 f.body≤1000000∧f.params.length≤1000000):ET (fun N=>Ig N p) fun r=>r.why=0↔ABC p:=by
 have bodies: ∀(mpl:Aq),Pl p mpl→∀(j i:Nat),i+j=p.funcs.length→∀(f0:AD),
   EL (fun N k=>DH N p mpl k (i:Int) f0.why f0.at_) fun r=>r.why=0↔f0.why=0∧∀i' f,i≤i'→p.funcs[i']?=some f→PN f∧Sc p (fun s=>s∈f.params.map (·.name)) f.body:=by
  intro mpl hpl j
  induction j with
  |zero=>
   intro i hi f0
   refine EL.down ?_
   show EL (fun N k=>IC N p mpl (DH N p mpl k) i f0.why f0.at_) _
   unfold IC
   refine EL.cond (fun h=>by have:=CR h;omega) fun _=> .some ⟨fun h=>⟨h,fun i' f hi' hf=>?_⟩,fun h=>h.1⟩
   have:=(List.getElem?_eq_some_iff.1 hf).1
   omega
  |succ j ihj=>
   intro i hi f0
   refine EL.down ?_
   show EL (fun N k=>IC N p mpl (DH N p mpl k) i f0.why f0.at_) _
   unfold IC
   refine EL.cond (fun _=>?_) fun h=>by have:=Dj h;omega
   obtain ⟨f,hf⟩: ∃f,p.funcs[i]?=some f:=⟨_,List.getElem?_eq_getElem om⟩
   have hfb:=hb f (List.mem_of_getElem? hf)
   refine EL.eq (CI hf) ?_
   have pars: ∀(q t:Nat),t+q=f.params.length→∀(f2:AD) (m:Aq),(∀s,Cu m s=(((f.params.take t).map (·.name)).count s:Int))→
     ∃r:AD,(r.why=0↔f2.why=0∧(∀i' x,t≤i'→f.params[i']?=some x→x.name∉(f.params.take i').map (·.name))∧Sc p (fun s=>s∈f.params.map (·.name)) f.body∧∀i' f,i+1≤i'→p.funcs[i']?=some f→PN f∧Sc p (fun s=>s∈f.params.map (·.name)) f.body)∧
      ∃n0,∀N k kk,n0≤N→n0≤k→n0≤kk→F2 N p mpl i (DH N p mpl k) f kk (t:Int) f2.why f2.at_ m=some r:=by
    intro q
    induction q with
    |zero=>
     intro t ht f2 m hm
     have htk:f.params.take t=f.params:=List.take_of_length_le om
     obtain ⟨w,hw,n1,hn1⟩:=ABE hpl om (E5 f.body) f.body (Nat.le_refl _) (f.params.map (·.name)) m ⟨f2.why,f2.at_⟩ (fun s=>by rw [hm,htk]) (by rw [List.length_map];omega)
     obtain ⟨r,hr,n0,hn0⟩:=ihj (i+1) om w.2
     refine ⟨r,?_,n0+n1+1,fun N k kk h1 h2 h3=>?_⟩
     ·rw [hr,hw.2]
      constructor
      ·rintro ⟨⟨h1,h2⟩,h3⟩
       exact ⟨h1,fun i' x hi' hx=>by have:=(List.getElem?_eq_some_iff.1 hx).1;omega,h2,h3⟩
      ·rintro ⟨h1,_,h2,h3⟩;exact ⟨⟨h1,h2⟩,h3⟩
     ·obtain ⟨kk,rfl⟩: ∃j,kk=j+1:=⟨kk - 1,om⟩
      show F8 N p mpl i (DH N p mpl k) f (F2 N p mpl i (DH N p mpl k) f kk) t f2.why f2.at_ m=_
      unfold F8
      have ew:scope_walk N f.body m mpl ⟨f2.why,f2.at_⟩ p=some w:=hn1 N om
      rw [show decide ((t:Int)< (f.params.length:Int))=false from decide_eq_false om,cond_false,QF,ew,Option.bind_some,wr om om,show (i:Int)+1=((i+1:Nat):Int) by omega]
      exact hn0 N k om om
    |succ q ihq=>
     intro t ht f2 m hm
     obtain ⟨x,hx⟩: ∃x,f.params[t]?=some x:=⟨_,List.getElem?_eq_getElem om⟩
     have htk:(f.params.take (t+1)).map (·.name)=(f.params.take t).map (·.name)++[x.name]:=by rw [List.take_add_one,hx];simp
     have hcl:=List.count_le_length (a:=x.name) (l:=(f.params.take t).map (·.name))
     simp only [List.length_map,List.length_take] at hcl
     have hm': ∀s,Cu (MM x.name (Cu m x.name+1) m) s=(((f.params.take (t+1)).map (·.name)).count s:Int):=fun s=>by
      rw [M4,htk,List.count_append]
      cases hs:(s==x.name)
      ·rw [cond_false,hm,List.count_cons_of_ne (fun e=>by subst e;simp at hs)];simp
      ·have:s=x.name:=by simpa using hs
       subst this
       rw [cond_true,hm,List.count_singleton_self];omega
     have next: ∀f3:AD,(f3.why=0↔f2.why=0∧x.name∉(f.params.take t).map (·.name))→∃r:AD,(r.why=0↔f2.why=0∧(∀i' x,t≤i'→f.params[i']?=some x→x.name∉(f.params.take i').map (·.name))∧Sc p (fun s=>s∈f.params.map (·.name)) f.body∧∀i' f,i+1≤i'→p.funcs[i']?=some f→PN f∧Sc p (fun s=>s∈f.params.map (·.name)) f.body)∧
       ∃n0,∀N k kk,n0≤N→n0≤k→n0≤kk→J4 (t:Int) m (F2 N p mpl i (DH N p mpl k) f kk) x f3.why f3.at_=some r:=by
      intro f3 hf3
      obtain ⟨r,hr,n0,hn0⟩:=ihq (t+1) om f3 _ hm'
      refine ⟨r,?_,n0,fun N k kk h1 h2 h3=>?_⟩
      ·rw [hr,hf3]
       constructor
       ·rintro ⟨⟨h1,h2⟩,h3,h4⟩
        refine ⟨h1,fun i' y hi' hy=>?_,h4⟩
        rcases Nat.eq_or_lt_of_le hi' with rfl|hlt
        ·rw [hx] at hy;cases hy;exact h2
        ·exact h3 i' y hlt hy
       ·rintro ⟨h1,h2,h3⟩
        exact ⟨⟨h1,h2 t x (Nat.le_refl _) hx⟩,fun i' y hi' hy=>h2 i' y om hy,h3⟩
      ·unfold J4
       have:=hm x.name
       rw [wr (x:=(t:Int)+1) om om,wr (x:=Cu m x.name+1) om om,show (t:Int)+1=((t+1:Nat):Int) by omega]
       exact hn0 N k kk h1 h2 h3
     have hcnt:=List.count_pos_iff (a:=x.name) (l:=(f.params.take t).map (·.name))
     cases hpos:decide (Cu m x.name>0)
     ·have hpos':=Dj hpos
      obtain ⟨r,hr,n0,hn0⟩:=next f2 ⟨fun h=>⟨h,fun h'=>by have:=hcnt.2 h';rw [hm] at hpos';omega⟩,fun h=>h.1⟩
      refine ⟨r,hr,n0+1,fun N k kk h1 h2 h3=>?_⟩
      obtain ⟨kk,rfl⟩: ∃j,kk=j+1:=⟨kk - 1,om⟩
      show F8 N p mpl i (DH N p mpl k) f (F2 N p mpl i (DH N p mpl k) f kk) t f2.why f2.at_ m=_
      unfold F8
      rw [show decide ((t:Int)< (f.params.length:Int))=true from decide_eq_true om,cond_true,CI hx,Option.bind_some,hpos,cond_false]
      exact hn0 N k kk om om om
     ·have hpos':=CR hpos
      obtain ⟨f3,e3,h3⟩:=Qq (y:=30) (a:=x.at_) (flt:=⟨f2.why,f2.at_⟩) (by decide)
      obtain ⟨r,hr,n0,hn0⟩:=next f3 ⟨fun h=>absurd h h3,fun h=>absurd (hcnt.1 (by rw [hm] at hpos';omega)) h.2⟩
      refine ⟨r,hr,n0+1,fun N k kk h1 h2 h3=>?_⟩
      obtain ⟨kk,rfl⟩: ∃j,kk=j+1:=⟨kk - 1,om⟩
      show F8 N p mpl i (DH N p mpl k) f (F2 N p mpl i (DH N p mpl k) f kk) t f2.why f2.at_ m=_
      unfold F8
      rw [show decide ((t:Int)< (f.params.length:Int))=true from decide_eq_true om,cond_true,CI hx,Option.bind_some,hpos,cond_true,e3,Option.bind_some]
      exact hn0 N k kk om om om
   obtain ⟨r,hr,n0,hn0⟩:=pars f.params.length 0 om f0 [] fun s=>by simp [UG]
   refine ⟨r,hr.trans ?_,n0,fun N k h1 h2=>hn0 N k N h1 h2 h1⟩
   constructor
   ·rintro ⟨h1,h2,h3,h4⟩
    refine ⟨h1,fun i' g hi' hg=>?_⟩
    rcases Nat.eq_or_lt_of_le hi' with rfl|hlt
    ·rw [hf] at hg;cases hg;exact ⟨fun i x hx=>h2 i x (Nat.zero_le _) hx,h3⟩
    ·exact h4 i' g hlt hg
   ·rintro ⟨h1,h2⟩
    have:=h2 i f (Nat.le_refl _) hf
    exact ⟨h1,fun i' x _ hx=>this.1 i' x hx,this.2,fun i' g hi' hg=>h2 i' g om hg⟩
 have places: ∀(j i:Nat),i+j=p.funcs.length→∀(f0:AD) (m:Aq),(∀nm,(nm∉(p.funcs.take i).map (·.name)∧Cu m nm=0)∨∃(k:Nat) (f:AO),k<i∧p.funcs[k]?=some f∧hd p nm=some f∧Cu m nm=(k:Int)+1)→
   EL (fun N k=>Hw N p k (i:Int) f0.why f0.at_ m) fun r=>r.why=0↔f0.why=0∧(∀i' f,i≤i'→p.funcs[i']?=some f→f.name∉(p.funcs.take i').map (·.name))∧∀f∈p.funcs,PN f∧Sc p (fun s=>s∈f.params.map (·.name)) f.body:=by
  intro j
  induction j with
  |zero=>
   intro i hi f0 m hm
   have htk:p.funcs.take i=p.funcs:=List.take_of_length_le om
   refine EL.down ?_
   show EL (fun N k=>ID N p (Hw N p k) i f0.why f0.at_ m) _
   unfold ID
   refine EL.cond (fun h=>by have:=CR h;omega) fun _=>?_
   have hpl:Pl p m:=fun nm=>by
    rcases hm nm with ⟨h1,h2⟩| ⟨k,f,h1,h2,h3,h4⟩
    ·rw [htk] at h1;exact .inl ⟨WK h1,h2⟩
    ·exact .inr ⟨k,f,h2,h3,h4⟩
   refine EL.of ((bodies m hpl p.funcs.length 0 om f0).diag.mono fun r hr=>?_)
   rw [hr]
   constructor
   ·rintro ⟨h1,h2⟩
    refine ⟨h1,fun i' f hi' hf=>by have:=(List.getElem?_eq_some_iff.1 hf).1;omega,fun f hf=>?_⟩
    obtain ⟨i',hi'⟩:=List.mem_iff_getElem?.1 hf
    exact h2 i' f (Nat.zero_le _) hi'
   ·rintro ⟨h1,_,h2⟩
    exact ⟨h1,fun i' f _ hf=>h2 f (List.mem_of_getElem? hf)⟩
  |succ j ihj=>
   intro i hi f0 m hm
   obtain ⟨f,hf⟩: ∃f,p.funcs[i]?=some f:=⟨_,List.getElem?_eq_getElem om⟩
   have htk:(p.funcs.take (i+1)).map (·.name)=(p.funcs.take i).map (·.name)++[f.name]:=by rw [List.take_add_one,hf];simp
   refine EL.down ?_
   show EL (fun N k=>ID N p (Hw N p k) i f0.why f0.at_ m) _
   unfold ID
   refine EL.cond (fun _=>?_) fun h=>by have:=Dj h;omega
   refine EL.eq (CI hf) ?_
   have e1:IntKind.i64.wrap ((i:Int)+1)=((i+1:Nat):Int):=by rw [wr om om];omega
   refine EL.cond (fun h=>?_) fun h=>?_
   ·have h:=CR h
    refine EL.tb (Qq (by decide)) fun f3 h3=>?_
    unfold J3
    rw [e1]
    have hin:f.name∈(p.funcs.take i).map (·.name):=by
     rcases hm f.name with ⟨_,h2⟩| ⟨k,g,h1,h2,h3,h4⟩
     ·omega
     ·have hgn:g.name=f.name:=by unfold hd at h3;have:=List.find?_some h3;simpa using this
      rw [←hgn]
      refine List.mem_map.2 ⟨g,?_,rfl⟩
      rw [List.mem_take_iff_getElem]
      obtain ⟨hkl,hke⟩:=List.getElem?_eq_some_iff.1 h2
      exact ⟨k,om,hke⟩
    refine (ihj (i+1) om f3 m fun nm=>?_).mono fun r hr=>?_
    ·rcases hm nm with ⟨h1,h2⟩| ⟨k,g,h1,h2,h3,h4⟩
     ·refine .inl ⟨fun h'=>?_,h2⟩
      rw [htk] at h'
      rcases List.mem_append.1 h' with h'|h'
      ·exact h1 h'
      ·simp at h';subst h';exact h1 hin
     ·exact .inr ⟨k,g,om,h2,h3,h4⟩
    ·rw [hr]
     exact ⟨fun h=>absurd h.1 h3,fun h=>absurd hin (h.2.1 i f (Nat.le_refl _) hf)⟩
   ·have h:=Dj h
    unfold J3
    rw [e1]
    have hout:f.name∉(p.funcs.take i).map (·.name):=by
     rcases hm f.name with ⟨h1,_⟩| ⟨k,g,h1,h2,h3,h4⟩
     ·exact h1
     ·omega
    refine (ihj (i+1) om f0 (MM f.name ((i+1:Nat):Int) m) fun nm=>?_).mono fun r hr=>?_
    ·rw [M4]
     cases hn:(nm==f.name)
     ·have hne:nm≠f.name:=by simpa using hn
      rw [cond_false]
      rcases hm nm with ⟨h1,h2⟩| ⟨k,g,h1,h2,h3,h4⟩
      ·refine .inl ⟨fun h'=>?_,h2⟩
       rw [htk] at h'
       rcases List.mem_append.1 h' with h'|h'
       ·exact h1 h'
       ·simp at h';exact hne h'
      ·exact .inr ⟨k,g,om,h2,h3,h4⟩
     ·have hne:nm=f.name:=by simpa using hn
      subst hne
      rw [cond_true]
      exact .inr ⟨i,f,om,hf,Se hf rfl hout,om⟩
    ·rw [hr]
     constructor
     ·rintro ⟨h1,h2,h3⟩
      refine ⟨h1,fun i' g hi' hg=>?_,h3⟩
      rcases Nat.eq_or_lt_of_le hi' with rfl|hlt
      ·rw [hf] at hg;cases hg;exact hout
      ·exact h2 i' g hlt hg
     ·rintro ⟨h1,h2,h3⟩
      exact ⟨h1,fun i' g hi' hg=>h2 i' g om hg,h3⟩
 refine (places p.funcs.length 0 om ⟨0,0⟩ [] fun nm=> .inl ⟨by simp,UG nm⟩).diag.mono fun r hr=>?_
 rw [hr]
 constructor
 ·rintro ⟨_,h1,h2⟩;exact ⟨fun i f hf=>h1 i f (Nat.zero_le _) hf,h2⟩
 ·rintro ⟨h1,h2⟩;exact ⟨rfl,fun i f _ hf=>h1 i f hf,h2⟩
end
end Fth
namespace Fth
open Go
theorem QL{α:Type}{b:Nat}{xs ys:List α}(hb:b≤16)(h:xs.length+ys.length≤8000000000000):T (HB b xs ys) fun _=>True:=by
 rw [HB,if_pos]
 ·exact .some trivial
 ·refine ⟨?_,om⟩
  have:=Nat.mul_le_mul h hb
  omega
theorem Qr{p:AM}{nm:List UInt8}{N:Nat}(hl:p.funcs.length≤1000000)(hN:p.funcs.length+2≤N):
  T (HF N p nm) fun r=>(hd p nm=none∧r= -1)∨∃(i:Nat) (f:AO),p.funcs[i]?=some f∧hd p nm=some f∧r=(i:Int)∧f.name=nm∧nm∉(p.funcs.take i).map (·.name):=by
 have loop: ∀(k i:Nat),i≤p.funcs.length→p.funcs.length<i+k→nm∉(p.funcs.take i).map (·.name)→T (I6 p nm k (i:Int)) fun r=>(hd p nm=none∧r= -1)∨∃(i:Nat) (f:AO),p.funcs[i]?=some f∧hd p nm=some f∧r=(i:Int)∧f.name=nm∧nm∉(p.funcs.take i).map (·.name):=by
  intro k
  induction k with
  |zero=>intro i _ _;omega
  |succ k ih=>
   intro i hi hk hno
   show T (KV p nm (I6 p nm k) i) _
   unfold KV
   refine T.cond (fun h=>?_) fun h=>?_
   ·have h:=CR h
    obtain ⟨f,hf⟩: ∃f,p.funcs[i]?=some f:=⟨_,List.getElem?_eq_getElem om⟩
    refine T.eq (CI hf) (T.cond (fun hn=>?_) fun hn=>?_)
    ·have hn:f.name=nm:=by simpa using hn
     exact .some (.inr ⟨i,f,hf,Se hf hn hno,rfl,hn,hno⟩)
    ·have hn:f.name≠nm:=by simpa using hn
     rw [wr om om,show (i:Int)+1=((i+1:Nat):Int) by omega]
     refine ih (i+1) om om fun h'=>?_
     rw [List.take_add_one,hf] at h'
     simp only [List.map_append,List.mem_append] at h'
     rcases h' with h'|h'
     ·exact hno h'
     ·simp at h';exact hn h'.symm
   ·have h:=Dj h
    rw [List.take_of_length_le om] at hno
    exact .some (.inl ⟨WK hno,rfl⟩)
 exact loop N 0 om om (by simp)
theorem Z3{l:List (List UInt8)}{s:List UInt8}{N:Nat}(hl:l.length≤2000000000)(hN:l.length+2≤N):JL N l s=some (decide (s∈l)):=by
 have loop: ∀(k i:Nat),i≤l.length→l.length<i+k→s∉l.take i→KO l s k (i:Int)=some (decide (s∈l)):=by
  intro k
  induction k with
  |zero=>intro i _ _;omega
  |succ k ih=>
   intro i hi hk hno
   show La l s (KO l s k) i=_
   unfold La
   cases h:decide ((i:Int)< (l.length:Int))
   ·have h:=Dj h
    rw [List.take_of_length_le om] at hno
    rw [cond_false,decide_eq_false hno]
   ·have h:=CR h
    obtain ⟨x,hx⟩: ∃f,l[i]?=some f:=⟨_,List.getElem?_eq_getElem om⟩
    rw [cond_true,CI hx,Option.bind_some]
    cases hn:(x==s)
    ·have hn:x≠s:=by simpa using hn
     rw [cond_false,wr om om,show (i:Int)+1=((i+1:Nat):Int) by omega]
     refine ih (i+1) om om fun h'=>?_
     rw [List.take_add_one,hx] at h'
     rcases List.mem_append.1 h' with h'|h'
     ·exact hno h'
     ·simp at h';exact hn h'.symm
    ·have hn:x=s:=by simpa using hn
     subst hn
     rw [cond_true,decide_eq_true (List.mem_of_getElem? hx)]
 exact loop N 0 om om (by simp)
theorem ABG{a b:List (List UInt8)}(h:a.length+b.length≤2000000000):I7 a b=some (a++b):=by
 unfold I7
 obtain ⟨_,e1,_⟩:=QL (b:=16) (xs:=([]:List (List UInt8))) (ys:=a) (by decide) (by simp;omega)
 obtain ⟨_,e2,_⟩:=QL (b:=16) (xs:=([]:List (List UInt8))++a) (ys:=b) (by decide) (by simp;omega)
 rw [e1,Option.bind_some,e2,Option.bind_some,List.nil_append]
section
variable{p:AM}
def Ns(p:AM)(l:List BG):Prop:=∀s∈l,s.free=false∧Kn p s.e
theorem ABH: ∀(n:Nat) (e:AE),E5 e≤n→∀(C:List (List UInt8)),C.length+2*n≤1000000000→n≤10000000→ET (fun N=>ref06_seen N e C) fun l=>l.length≤E5 e∧(Ns p l↔Sc p (fun s=>s∈C) e):=by
 intro n
 induction n with
 |zero=>intro e he;have:=M3 e;omega
 |succ n ih=>
  intro e he C hC hn
  have hal:=NL e.args
  have hes:=PT e
  refine ET.down ?_
  show ET (fun N=>LJ (Be.at N) N e C) _
  have loop: ∀(j i:Nat),i+j=e.args.length→∀(acc:List BG),acc.length≤1+DL (e.args.take i)→
    EL (fun N k=>Ik (Be.at N) e C k acc (i:Int)) fun l=>l.length≤1+DL e.args - (1+DL (e.args.take i) - acc.length)∧(Ns p l↔Ns p acc∧∀i' a,i≤i'→e.args[i']?=some a→Sc p (fun s=>s∈bnd e i'∨s∈C) a):=by
   intro j
   induction j with
   |zero=>
    intro i hi acc hacc
    refine EL.down ?_
    show EL (fun N k=>I8 (Be.at N) e C (Ik (Be.at N) e C k) acc i) _
    unfold I8
    have htk:e.args.take i=e.args:=List.take_of_length_le om
    refine EL.cond (fun h=>by have:=CR h;omega) fun _=> .some ⟨by rw [htk] at hacc ⊢;omega,fun h=>⟨h,fun i' a hi' ha=>?_⟩,fun h=>h.1⟩
    have:=(List.getElem?_eq_some_iff.1 ha).1
    omega
   |succ j ihj=>
    intro i hi acc hacc
    refine EL.down ?_
    show EL (fun N k=>I8 (Be.at N) e C (Ik (Be.at N) e C k) acc i) _
    unfold I8
    obtain ⟨a,ha⟩: ∃a,e.args[i]?=some a:=⟨_,List.getElem?_eq_getElem om⟩
    have has:=ON (List.mem_of_getElem? ha)
    have hbl:=YE e i
    have htk:DL (e.args.take (i+1))=DL (e.args.take i)+E5 a:=by rw [List.take_add_one,ha];simp [Kk,DL]
    have htk2:DL (e.args.take (i+1))≤DL e.args:=by
     have:=Kk (e.args.take (i+1)) (e.args.drop (i+1))
     rw [List.take_append_drop] at this;omega
    refine EL.cond (fun _=>?_) fun h=>by have:=Dj h;omega
    refine EL.eq (ABD e i) (EL.eq (ABG om) (EL.eq (CI ha) (EL.bind (P:=fun l=>l.length≤E5 a∧(Ns p l↔Sc p (fun s=>s∈bnd e i∨s∈C) a)) ?_ fun l hl=>?_)))
    ·have:=ih a om (C++bnd e i) (by rw [List.length_append];omega) om
     have eB:(fun s=>s∈C++bnd e i)=fun s=>s∈bnd e i∨s∈C:=funext fun s=>propext (List.mem_append.trans Or.comm)
     rw [eB] at this
     exact this
    ·refine EL.tb (GC (by decide) om) fun _ _=>?_
     rw [wr om om,show (i:Int)+1=((i+1:Nat):Int) by omega]
     refine (ihj (i+1) om (acc++l) (by rw [List.length_append,htk];omega)).mono fun r hr=>⟨by have:=hr.1;rw [List.length_append,htk] at this;omega,?_⟩
     rw [hr.2]
     constructor
     ·rintro ⟨h1,h2⟩
      have a1:Ns p acc:=fun s hs=>h1 s (List.mem_append_left _ hs)
      have a2:Ns p l:=fun s hs=>h1 s (List.mem_append_right _ hs)
      refine ⟨a1,fun i' b hi' hb=>?_⟩
      rcases Nat.eq_or_lt_of_le hi' with rfl|hlt
      ·rw [ha] at hb;cases hb;exact hl.2.1 a2
      ·exact h2 i' b hlt hb
     ·rintro ⟨h1,h2⟩
      refine ⟨fun s hs=>?_,fun i' b hi' hb=>h2 i' b om hb⟩
      rcases List.mem_append.1 hs with hs|hs
      ·exact h1 s hs
      ·exact hl.2.2 (h2 i a (Nat.le_refl _) ha) s hs
  have j1: ∀(acc:List BG),acc.length≤1→(Ns p acc↔(e.op=6→e.name∈C)∧Kn p e)→ET (fun N=>Jo (Be.at N) N e C acc) fun l=>l.length≤E5 e∧(Ns p l↔Sc p (fun s=>s∈C) e):=by
   intro acc hacc hok
   unfold Jo
   refine (loop e.args.length 0 om acc om).diag.mono fun r hr=>⟨om,?_⟩
   rw [hr.2,hok,Z1]
   constructor
   ·rintro ⟨⟨h1,h2⟩,h3⟩;exact ⟨h1,h2,fun i a ha=>h3 i a (Nat.zero_le _) ha⟩
   ·rintro ⟨h1,h2,h3⟩;exact ⟨⟨h1,h2⟩,fun i a _ ha=>h3 i a ha⟩
  unfold LJ Lb
  refine ET.cond (fun h=>?_) fun h=>?_
  ·have h6:=CN h
   refine ET.cond (fun _=>ET.cond (fun _=>?_) fun h=>absurd h6 (B1 h)) fun h=>by cases h
   refine ET.bind (P:=fun b=>b=decide (e.name∈C)) (Rc (C.length+2) ⟨_,rfl,fun N hN=>Z3 om hN⟩) fun b hb=>?_
   subst hb
   refine ET.tb (GC (by decide) (by simp)) fun _ _=>j1 _ (by simp) ?_
   simp only [List.nil_append,Ns,List.mem_singleton,forall_eq]
   constructor
   ·rintro ⟨h1,h2⟩;exact ⟨fun _=>by simpa using h1,h2⟩
   ·rintro ⟨h1,h2⟩;exact ⟨by simpa using h1 h6,h2⟩
  ·have h6:=B1 h
   cases h7:(e.op==7)
   ·have h7:=B1 h7
    refine ET.cond (fun h=>by cases h) fun _=>j1 _ (by simp) ?_
    exact ⟨fun _=>⟨fun h=>absurd h h6,fun h=>absurd h h7⟩,fun _ s hs=>by cases hs⟩
   ·refine ET.cond (fun _=>ET.cond (fun h=>absurd (CN h) h6) fun _=>?_) fun h=>by cases h
    refine ET.tb (GC (by decide) (by simp)) fun _ _=>j1 _ (by simp) ?_
    simp only [List.nil_append,Ns,List.mem_singleton,forall_eq]
    exact ⟨fun h=>⟨fun h'=>absurd h' h6,h.2⟩,fun h=>⟨trivial,h.2⟩⟩
def GF(l:List AD)(n:Nat):Prop:=(∀y∈l,y.why≠0)∧l.length≤n
theorem GF.snoc{l:List AD}{n:Nat}{y:AD}(h:GF l n)(hy:y.why≠0):GF (l++[y]) (n+1):=by
 refine ⟨fun z hz=>?_,by simp;exact h.2⟩
 rcases List.mem_append.1 hz with hz|hz
 ·exact h.1 z hz
 ·simp at hz;subst hz;exact hy
theorem Ym(hlen:p.funcs.length≤50000)(hb: ∀f∈p.funcs,E5 f.body≤1000000∧f.params.length≤1000000):ET (fun N=>Hf N p) fun l=>GF l 200000000000∧(l=[]↔ABC p):=by
 have seens: ∀(l:List BG),l.length≤1000000→∀(i:Nat) (S:Nat→Nat→List AD→Int→Option (List AD)) (n0:Nat),n0+2*l.length≤300000000000→i≤50000→∀(j t:Nat),t+j=l.length→∀acc,GF acc (n0+2*t)→
   ∃acc',GF acc' (n0+2*l.length)∧(acc'=[]↔acc=[]∧∀t' s,t≤t'→l[t']?=some s→s.free=false∧Kn p s.e)∧∃n1,∀N k kk,n1≤N→n1≤kk→EM N p i (S N k) l kk acc (t:Int)=S N k acc' ((i+1:Nat):Int):=by
  intro l hl i S n0 hn0 hi j
  induction j with
  |zero=>
   intro t ht acc hacc
   refine ⟨acc,by rw [show t=l.length by omega] at hacc;exact hacc,⟨fun h=>⟨h,fun t' s ht' hs=>by have:=(List.getElem?_eq_some_iff.1 hs).1;omega⟩,fun h=>h.1⟩,1,fun N k kk _ hkk=>?_⟩
   obtain ⟨kk,rfl⟩: ∃j,kk=j+1:=⟨kk - 1,om⟩
   show Fh N p i (S N k) l (EM N p i (S N k) l kk) acc t=_
   unfold Fh
   rw [show decide ((t:Int)< (l.length:Int))=false from decide_eq_false om,cond_false,wr om om,show (i:Int)+1=((i+1:Nat):Int) by omega]
  |succ j ihj=>
   intro t ht acc hacc
   obtain ⟨s,hs⟩: ∃s,l[t]?=some s:=⟨_,List.getElem?_eq_getElem om⟩
   have iff: ∀{A:Prop},(A↔acc=[]∧(s.free=false∧Kn p s.e))→((A∧∀t' s,t+1≤t'→l[t']?=some s→s.free=false∧Kn p s.e)↔acc=[]∧∀t' s,t≤t'→l[t']?=some s→s.free=false∧Kn p s.e):=by
    intro A hA
    rw [hA]
    constructor
    ·rintro ⟨⟨h1,h2⟩,h3⟩
     refine ⟨h1,fun t' s' ht' hs'=>?_⟩
     rcases Nat.eq_or_lt_of_le ht' with rfl|hlt
     ·rw [hs] at hs';cases hs';exact h2
     ·exact h3 t' s' hlt hs'
    ·rintro ⟨h1,h2⟩
     exact ⟨⟨h1,h2 t s (Nat.le_refl _) hs⟩,fun t' s' ht' hs'=>h2 t' s' om hs'⟩
   have e1:IntKind.i64.wrap ((t:Int)+1)=((t+1:Nat):Int):=by rw [wr om om];omega
   have call: ∀(a1:List AD),GF a1 (n0+2*t+1)→(a1=[]↔acc=[]∧s.free=false)→∃acc',GF acc' (n0+2*l.length)∧(acc'=[]↔acc=[]∧∀t' s,t≤t'→l[t']?=some s→s.free=false∧Kn p s.e)∧∃n1,∀N k kk,n1≤N→n1≤kk→GB N p t (EM N p i (S N k) l kk) s a1=S N k acc' ((i+1:Nat):Int):=by
    intro a1 ha1 hf
    have go: ∀a2,GF a2 (n0+2*(t+1))→(a2=[]↔acc=[]∧(s.free=false∧Kn p s.e))→∃acc',GF acc' (n0+2*l.length)∧(acc'=[]↔acc=[]∧∀t' s,t≤t'→l[t']?=some s→s.free=false∧Kn p s.e)∧∃n1,∀N k kk,n1≤N→n1≤kk→F9 t (EM N p i (S N k) l kk) a2=S N k acc' ((i+1:Nat):Int):=by
     intro a2 h2 h3
     obtain ⟨acc',q1,q2,n1,q3⟩:=ihj (t+1) om a2 h2
     refine ⟨acc',q1,q2.trans (iff h3),n1,fun N k kk hN hkk=>?_⟩
     unfold F9
     rw [e1]
     exact q3 N k kk hN hkk
    have up:GF a1 (n0+2*(t+1)):=⟨ha1.1,by have:=ha1.2;omega⟩
    cases h7:(s.e.op != 7)
    ·have h7':=KH h7
     have hcall: ∀N,p.funcs.length+2≤N→T (HF N p s.e.name) fun r=>(hd p s.e.name=none∧r= -1)∨∃(i:Nat) (f:AO),p.funcs[i]?=some f∧hd p s.e.name=some f∧r=(i:Int)∧f.name=s.e.name∧s.e.name∉(p.funcs.take i).map (·.name):=fun N hN=>Qr om hN
     have bad: ∀y:Int,y≠0→¬Kn p s.e→∃acc',GF acc' (n0+2*l.length)∧(acc'=[]↔acc=[]∧∀t' s,t≤t'→l[t']?=some s→s.free=false∧Kn p s.e)∧∃n1,∀N k kk,n1≤N→n1≤kk→((HB 16 a1 [AD.mk y s.e.at_]).bind fun _=>F9 t (EM N p i (S N k) l kk) (a1++[AD.mk y s.e.at_]))=S N k acc' ((i+1:Nat):Int):=by
      intro y hy hno
      obtain ⟨acc',q1,q2,n1,q3⟩:=go (a1++[AD.mk y s.e.at_]) ⟨(ha1.snoc hy).1,by have:=(ha1.snoc (y:=AD.mk y s.e.at_) hy).2;omega⟩ ⟨fun h=>by simp at h,fun h=>absurd h.2.2 hno⟩
      refine ⟨acc',q1,q2,n1,fun N k kk hN hkk=>?_⟩
      obtain ⟨_,e,_⟩:=QL (b:=16) (xs:=a1) (ys:=[AD.mk y s.e.at_]) (by decide) (by have:=ha1.2;simp;omega)
      rw [e,Option.bind_some]
      exact q3 N k kk hN hkk
     cases hh:hd p s.e.name with
     |none=>
      obtain ⟨acc',q1,q2,n1,q3⟩:=bad 32 (by decide) fun h=>by obtain ⟨f,hf',_⟩:=h h7';rw [hh] at hf';cases hf'
      refine ⟨acc',q1,q2,n1+p.funcs.length+2,fun N k kk hN hkk=>?_⟩
      unfold GB
      obtain ⟨r,hr,hr'⟩:=hcall N om
      rcases hr' with ⟨_,h0⟩| ⟨_,f,_,h0,_⟩
      ·subst h0
       rw [h7,cond_false,hr,Option.bind_some,show decide ((-1:Int)<0)=true from rfl,cond_true]
       exact q3 N k kk om om
      ·rw [hh] at h0;cases h0
     |some f=>
      rcases Decidable.em (f.params.length=s.e.args.length) with hfl|hfl
      ·obtain ⟨acc',q1,q2,n1,q3⟩:=go a1 up (by rw [hf];exact ⟨fun h=>⟨h.1,h.2,fun _=>⟨f,hh,hfl⟩⟩,fun h=>⟨h.1,h.2.1⟩⟩)
       refine ⟨acc',q1,q2,n1+p.funcs.length+2,fun N k kk hN hkk=>?_⟩
       unfold GB
       obtain ⟨r,hr,hr'⟩:=hcall N om
       rcases hr' with ⟨h0,_⟩| ⟨i2,f2,h1,h0,h3,_⟩
       ·rw [hh] at h0;cases h0
       ·rw [hh] at h0;cases h0
        subst h3
        rw [h7,cond_false,hr,Option.bind_some,show decide ((i2:Int)<0)=false from decide_eq_false om,cond_false,CI h1,Option.bind_some,show ((f.params.length:Int) != (s.e.args.length:Int))=false by simp;omega,cond_false]
        exact q3 N k kk om om
      ·obtain ⟨acc',q1,q2,n1,q3⟩:=bad 33 (by decide) fun h=>by obtain ⟨g,hg,hl⟩:=h h7';rw [hh] at hg;cases hg;exact hfl hl
       refine ⟨acc',q1,q2,n1+p.funcs.length+2,fun N k kk hN hkk=>?_⟩
       unfold GB
       obtain ⟨r,hr,hr'⟩:=hcall N om
       rcases hr' with ⟨h0,_⟩| ⟨i2,f2,h1,h0,h3,_⟩
       ·rw [hh] at h0;cases h0
       ·rw [hh] at h0;cases h0
        subst h3
        rw [h7,cond_false,hr,Option.bind_some,show decide ((i2:Int)<0)=false from decide_eq_false om,cond_false,CI h1,Option.bind_some,show ((f.params.length:Int) != (s.e.args.length:Int))=true by simp;omega,cond_true]
        exact q3 N k kk om om
    ·have h7':=MJ h7
     obtain ⟨acc',q1,q2,n1,q3⟩:=go a1 up (by rw [hf];exact ⟨fun h=>⟨h.1,h.2,fun h=>absurd h h7'⟩,fun h=>⟨h.1,h.2.1⟩⟩)
     refine ⟨acc',q1,q2,n1,fun N k kk hN hkk=>?_⟩
     unfold GB
     rw [h7,cond_true]
     exact q3 N k kk hN hkk
   cases hfr:s.free
   ·obtain ⟨acc',q1,q2,n1,q3⟩:=call acc ⟨hacc.1,by have:=hacc.2;omega⟩ ⟨fun h=>⟨h,hfr⟩,fun h=>h.1⟩
    refine ⟨acc',q1,q2,n1+1,fun N k kk hN hkk=>?_⟩
    obtain ⟨kk,rfl⟩: ∃j,kk=j+1:=⟨kk - 1,om⟩
    show Fh N p i (S N k) l (EM N p i (S N k) l kk) acc t=_
    unfold Fh
    rw [show decide ((t:Int)< (l.length:Int))=true from decide_eq_true om,cond_true,CI hs,Option.bind_some,hfr,cond_false]
    exact q3 N k kk om om
   ·obtain ⟨acc',q1,q2,n1,q3⟩:=call (acc++[AD.mk 31 s.e.at_]) (hacc.snoc (y:=AD.mk 31 s.e.at_) (show (31:Int)≠0 by decide)) ⟨fun h=>by simp at h,fun h=>by rw [hfr] at h;cases h.2⟩
    refine ⟨acc',q1,q2,n1+1,fun N k kk hN hkk=>?_⟩
    obtain ⟨kk,rfl⟩: ∃j,kk=j+1:=⟨kk - 1,om⟩
    show Fh N p i (S N k) l (EM N p i (S N k) l kk) acc t=_
    unfold Fh
    obtain ⟨_,e,_⟩:=QL (b:=16) (xs:=acc) (ys:=[AD.mk 31 s.e.at_]) (by decide) (by have:=hacc.2;simp;omega)
    rw [show decide ((t:Int)< (l.length:Int))=true from decide_eq_true om,cond_true,CI hs,Option.bind_some,hfr,cond_true,e,Option.bind_some]
    exact q3 N k kk om om
 have pars: ∀(i:Nat) (f:AO),p.funcs[i]?=some f→∀(S:Nat→Nat→List AD→Int→Option (List AD)) (n0:Nat),n0+3000000≤300000000000→∀(j t:Nat),t+j=f.params.length→∀acc,GF acc (n0+t)→
   ∃acc',GF acc' (n0+3000000)∧(acc'=[]↔acc=[]∧(∀t' x,t≤t'→f.params[t']?=some x→x.name∉(f.params.take t').map (·.name))∧Sc p (fun s=>s∈f.params.map (·.name)) f.body)∧∃n1,∀N k kk,n1≤N→n1≤kk→Ek N p i (S N k) f kk acc ((f.params.take t).map (·.name)) (t:Int)=S N k acc' ((i+1:Nat):Int):=by
  intro i f hf S n0 hn0 j
  have hfb:=hb f (List.mem_of_getElem? hf)
  have hil:=(List.getElem?_eq_some_iff.1 hf).1
  induction j with
  |zero=>
   intro t ht acc hacc
   have htk:f.params.take t=f.params:=List.take_of_length_le om
   obtain ⟨l,hl,n2,hn2⟩:=ABH (p:=p) (E5 f.body) f.body (Nat.le_refl _) (f.params.map (·.name)) (by rw [List.length_map];omega) om
   obtain ⟨acc',q1,q2,n1,q3⟩:=seens l om i S (n0+t) om om l.length 0 om acc (by simpa using hacc)
   refine ⟨acc',⟨q1.1,by have:=q1.2;omega⟩,?_,n1+n2+1,fun N k kk hN hkk=>?_⟩
   ·rw [q2,←hl.2]
    constructor
    ·rintro ⟨h1,h2⟩
     refine ⟨h1,fun t' x ht' hx=>by have:=(List.getElem?_eq_some_iff.1 hx).1;omega,fun s hs=>?_⟩
     obtain ⟨t',ht'⟩:=List.mem_iff_getElem?.1 hs
     exact h2 t' s (Nat.zero_le _) ht'
    ·rintro ⟨h1,_,h2⟩
     exact ⟨h1,fun t' s _ hs=>h2 s (List.mem_of_getElem? hs)⟩
   ·obtain ⟨kk,rfl⟩: ∃j,kk=j+1:=⟨kk - 1,om⟩
    show Fi N p i (S N k) f (Ek N p i (S N k) f kk) acc ((f.params.take t).map (·.name)) t=_
    unfold Fi
    have es:ref06_seen N f.body (f.params.map (·.name))=some l:=hn2 N om
    rw [show decide ((t:Int)< (f.params.length:Int))=false from decide_eq_false om,cond_false,QF,htk,es,Option.bind_some]
    exact q3 N k N om om
  |succ j ihj=>
   intro t ht acc hacc
   obtain ⟨x,hx⟩: ∃x,f.params[t]?=some x:=⟨_,List.getElem?_eq_getElem om⟩
   have htk:(f.params.take (t+1)).map (·.name)=(f.params.take t).map (·.name)++[x.name]:=by rw [List.take_add_one,hx];simp
   have hln:((f.params.take t).map (·.name)).length=t:=by simp;omega
   have go: ∀a2,GF a2 (n0+(t+1))→(a2=[]↔acc=[]∧x.name∉(f.params.take t).map (·.name))→∃acc',GF acc' (n0+3000000)∧(acc'=[]↔acc=[]∧(∀t' x,t≤t'→f.params[t']?=some x→x.name∉(f.params.take t').map (·.name))∧Sc p (fun s=>s∈f.params.map (·.name)) f.body)∧
     ∃n1,∀N k kk,n1≤N→n1≤kk→JM f ((f.params.take t).map (·.name)) t (Ek N p i (S N k) f kk) a2=S N k acc' ((i+1:Nat):Int):=by
    intro a2 h2 h3
    obtain ⟨acc',q1,q2,n1,q3⟩:=ihj (t+1) om a2 h2
    refine ⟨acc',q1,q2.trans ?_,n1,fun N k kk hN hkk=>?_⟩
    ·rw [h3]
     constructor
     ·rintro ⟨⟨h1,h2⟩,h3,h4⟩
      refine ⟨h1,fun t' y ht' hy=>?_,h4⟩
      rcases Nat.eq_or_lt_of_le ht' with rfl|hlt
      ·rw [hx] at hy;cases hy;exact h2
      ·exact h3 t' y hlt hy
     ·rintro ⟨h1,h2,h3⟩
      exact ⟨⟨h1,h2 t x (Nat.le_refl _) hx⟩,fun t' y ht' hy=>h2 t' y om hy,h3⟩
    ·unfold JM
     obtain ⟨_,e,_⟩:=QL (b:=16) (xs:=(f.params.take t).map (·.name)) (ys:=[x.name]) (by decide) (by rw [hln];simp;omega)
     rw [CI hx,Option.bind_some,e,Option.bind_some,wr om om,show (t:Int)+1=((t+1:Nat):Int) by omega,←htk]
     exact q3 N k kk hN hkk
   have hhas: ∀N,t+2≤N→JL N ((f.params.take t).map (·.name)) x.name=some (decide (x.name∈(f.params.take t).map (·.name))):=fun N hN=>Z3 (by rw [hln];omega) (by rw [hln];omega)
   rcases Decidable.em (x.name∈(f.params.take t).map (·.name)) with hin|hin
   ·obtain ⟨acc',q1,q2,n1,q3⟩:=go (acc++[AD.mk 30 x.at_]) ⟨(hacc.snoc (y:=AD.mk 30 x.at_) (show (30:Int)≠0 by decide)).1,by have:=hacc.2;simp;omega⟩ ⟨fun h=>by simp at h,fun h=>absurd hin h.2⟩
    refine ⟨acc',q1,q2,n1+t+2,fun N k kk hN hkk=>?_⟩
    obtain ⟨kk,rfl⟩: ∃j,kk=j+1:=⟨kk - 1,om⟩
    show Fi N p i (S N k) f (Ek N p i (S N k) f kk) acc ((f.params.take t).map (·.name)) t=_
    unfold Fi
    obtain ⟨_,e,_⟩:=QL (b:=16) (xs:=acc) (ys:=[AD.mk 30 x.at_]) (by decide) (by have:=hacc.2;simp;omega)
    rw [show decide ((t:Int)< (f.params.length:Int))=true from decide_eq_true om,cond_true,CI hx,Option.bind_some,hhas N om,Option.bind_some,decide_eq_true hin,cond_true,e,Option.bind_some]
    exact q3 N k kk om om
   ·obtain ⟨acc',q1,q2,n1,q3⟩:=go acc ⟨hacc.1,by have:=hacc.2;omega⟩ ⟨fun h=>⟨h,hin⟩,fun h=>h.1⟩
    refine ⟨acc',q1,q2,n1+t+2,fun N k kk hN hkk=>?_⟩
    obtain ⟨kk,rfl⟩: ∃j,kk=j+1:=⟨kk - 1,om⟩
    show Fi N p i (S N k) f (Ek N p i (S N k) f kk) acc ((f.params.take t).map (·.name)) t=_
    unfold Fi
    rw [show decide ((t:Int)< (f.params.length:Int))=true from decide_eq_true om,cond_true,CI hx,Option.bind_some,hhas N om,Option.bind_some,decide_eq_false hin,cond_false]
    exact q3 N k kk om om
 have fns: ∀(j i:Nat),i+j=p.funcs.length→∀acc,GF acc (i*3000001)→EL (fun N k=>El N p k acc (i:Int)) fun r=>GF r 200000000000∧(r=[]↔acc=[]∧∀i' f,i≤i'→p.funcs[i']?=some f→f.name∉(p.funcs.take i').map (·.name)∧PN f∧Sc p (fun s=>s∈f.params.map (·.name)) f.body):=by
  intro j
  induction j with
  |zero=>
   intro i hi acc hacc
   refine EL.down ?_
   show EL (fun N k=>HZ N p (El N p k) acc i) _
   unfold HZ
   refine EL.cond (fun h=>by have:=CR h;omega) fun _=> .some ⟨⟨hacc.1,by have:=hacc.2;omega⟩,fun h=>⟨h,fun i' f hi' hf=>by have:=(List.getElem?_eq_some_iff.1 hf).1;omega⟩,fun h=>h.1⟩
  |succ j ihj=>
   intro i hi acc hacc
   obtain ⟨f,hf⟩: ∃f,p.funcs[i]?=some f:=⟨_,List.getElem?_eq_getElem om⟩
   have step: ∀a2,GF a2 (i*3000001+1)→(a2=[]↔acc=[]∧f.name∉(p.funcs.take i).map (·.name))→EL (fun N k=>JN N p i (El N p k) f a2) fun r=>GF r 200000000000∧(r=[]↔acc=[]∧∀i' f,i≤i'→p.funcs[i']?=some f→f.name∉(p.funcs.take i').map (·.name)∧PN f∧Sc p (fun s=>s∈f.params.map (·.name)) f.body):=by
    intro a2 h2 h3
    obtain ⟨n0,hn0⟩: ∃n,n=i*3000001+1:=⟨_,rfl⟩
    rw [←hn0] at h2
    obtain ⟨acc',q1,q2,n1,q3⟩:=pars i f hf (fun N k=>El N p k) n0 om f.params.length 0 om a2 h2
    obtain ⟨r,hr,n2,hn2⟩:=ihj (i+1) om acc' ⟨q1.1,by have:=q1.2;omega⟩
    refine ⟨r,⟨hr.1,hr.2.trans ?_⟩,n1+n2,fun N k hN hk=>?_⟩
    ·rw [q2,h3]
     constructor
     ·rintro ⟨⟨⟨h1,h2⟩,h3,h4⟩,h5⟩
      refine ⟨h1,fun i' g hi' hg=>?_⟩
      rcases Nat.eq_or_lt_of_le hi' with rfl|hlt
      ·rw [hf] at hg;cases hg;exact ⟨h2,fun t x hx=>h3 t x (Nat.zero_le _) hx,h4⟩
      ·exact h5 i' g hlt hg
     ·rintro ⟨h1,h2⟩
      have:=h2 i f (Nat.le_refl _) hf
      exact ⟨⟨⟨h1,this.1⟩,fun t x _ hx=>this.2.1 t x hx,this.2.2⟩,fun i' g hi' hg=>h2 i' g om hg⟩
    ·unfold JN
     have:=q3 N k N om om
     simp only [List.take_zero,List.map_nil] at this
     show Ek N p i (El N p k) f N a2 [] 0=some r
     refine Eq.trans this ?_
     exact hn2 N k om om
   refine EL.down ?_
   show EL (fun N k=>HZ N p (El N p k) acc i) _
   unfold HZ
   refine EL.cond (fun _=>?_) fun h=>by have:=Dj h;omega
   refine EL.eq (CI hf) (EL.bind (P:=fun r=>r=(i:Int)∧f.name∉(p.funcs.take i).map (·.name)∨r< (i:Int)∧f.name∈(p.funcs.take i).map (·.name)) ?_ fun r hr=>?_)
   ·rcases Decidable.em (f.name∈(p.funcs.take i).map (·.name)) with hin|hin
    ·obtain ⟨r,hr,hr'⟩:=Qr (p:=p) (nm:=f.name) (N:=p.funcs.length+2) om (Nat.le_refl _)
     obtain ⟨g,hg,hgn⟩:=List.mem_map.1 hin
     rw [List.mem_take_iff_getElem] at hg
     obtain ⟨q,hq,hqe⟩:=hg
     refine Rc (p.funcs.length+2) ⟨r,?_,fun N hN=>?_⟩
     ·rcases hr' with ⟨h1,_⟩| ⟨i2,f2,h1,h2,h3,h4,h5⟩
      ·unfold hd at h1
       rw [List.find?_eq_none] at h1
       exact absurd (by simp) (h1 f (List.mem_of_getElem? hf))
      ·refine .inr ⟨?_,hin⟩
       rw [h3]
       rcases Nat.lt_or_ge i2 i with h|h
       ·omega
       ·refine absurd (List.mem_map.2 ⟨g,?_,hgn⟩) h5
        rw [List.mem_take_iff_getElem]
        have:=(List.getElem?_eq_some_iff.1 h1).1
        exact ⟨q,om,hqe⟩
     ·obtain ⟨r2,hr2,hr2'⟩:=Qr (p:=p) (nm:=f.name) (N:=N) om hN
      rw [hr2];congr 1
      rcases hr' with ⟨h1,h2⟩| ⟨i2,f2,h1,h2,h3,h4,h5⟩
      ·rcases hr2' with ⟨_,h3⟩| ⟨_,_,_,h3,_⟩
       ·rw [h2,h3]
       ·rw [h1] at h3;cases h3
      ·rcases hr2' with ⟨k1,_⟩| ⟨i3,f3,k1,k2,k3,k4,k5⟩
       ·rw [h2] at k1;cases k1
       ·rw [h3,k3]
        rcases Nat.lt_trichotomy i2 i3 with h|h|h
        ·refine absurd (List.mem_map.2 ⟨f2,?_,h4⟩) k5
         rw [List.mem_take_iff_getElem]
         obtain ⟨a1,a2⟩:=List.getElem?_eq_some_iff.1 h1
         have:=(List.getElem?_eq_some_iff.1 k1).1
         exact ⟨i2,om,a2⟩
        ·rw [h]
        ·refine absurd (List.mem_map.2 ⟨f3,?_,k4⟩) h5
         rw [List.mem_take_iff_getElem]
         obtain ⟨a1,a2⟩:=List.getElem?_eq_some_iff.1 k1
         have:=(List.getElem?_eq_some_iff.1 h1).1
         exact ⟨i3,om,a2⟩
    ·refine Rc (p.funcs.length+2) ⟨(i:Int),.inl ⟨rfl,hin⟩,fun N hN=>?_⟩
     obtain ⟨r2,hr2,hr2'⟩:=Qr (p:=p) (nm:=f.name) (N:=N) om hN
     rw [hr2];congr 1
     have hdi:=Se hf rfl hin
     rcases hr2' with ⟨k1,_⟩| ⟨i3,f3,k1,k2,k3,k4,k5⟩
     ·rw [hdi] at k1;cases k1
     ·rw [k3]
      rcases Nat.lt_trichotomy i3 i with h|h|h
      ·refine absurd (List.mem_map.2 ⟨f3,?_,k4⟩) hin
       rw [List.mem_take_iff_getElem]
       obtain ⟨a1,a2⟩:=List.getElem?_eq_some_iff.1 k1
       exact ⟨i3,om,a2⟩
      ·rw [h]
      ·refine absurd (List.mem_map.2 ⟨f,?_,rfl⟩) k5
       rw [List.mem_take_iff_getElem]
       obtain ⟨a1,a2⟩:=List.getElem?_eq_some_iff.1 hf
       have:=(List.getElem?_eq_some_iff.1 k1).1
       exact ⟨i,om,a2⟩
   ·rcases hr with ⟨h1,h2⟩| ⟨h1,h2⟩
    ·refine EL.cond (fun h=>by have:=CR h;omega) fun _=>step acc ⟨hacc.1,Nat.le_succ_of_le hacc.2⟩ ⟨fun h=>⟨h,h2⟩,fun h=>h.1⟩
    ·refine EL.cond (fun _=>EL.tb (QL (by decide) (by have:=hacc.2;simp;omega)) fun _ _=>step _ (hacc.snoc (y:=AD.mk 30 f.at_) (show (30:Int)≠0 by decide)) ⟨fun h=>by simp at h,fun h=>absurd h2 h.2⟩) fun h=>by have:=Dj h;omega
 refine (fns p.funcs.length 0 om [] ⟨fun y h=>(by cases h),by simp⟩).diag.mono fun r hr=>⟨hr.1,hr.2.trans ?_⟩
 constructor
 ·rintro ⟨_,h⟩
  refine ⟨fun i f hf=>(h i f (Nat.zero_le _) hf).1,fun f hf=>?_⟩
  obtain ⟨i,hi⟩:=List.mem_iff_getElem?.1 hf
  exact (h i f (Nat.zero_le _) hi).2
 ·rintro ⟨h1,h2⟩
  exact ⟨rfl,fun i f _ hf=>⟨h1 i f hf,h2 f (List.mem_of_getElem? hf)⟩⟩
theorem Z4(hlen:p.funcs.length≤50000)(hb: ∀f∈p.funcs,E5 f.body≤1000000∧f.params.length≤1000000):ET (fun N=>H2 N p) fun r=>r.why=0↔ABC p:=by
 unfold H2
 refine ET.bind (Ym hlen hb) fun l hl=>?_
 have loop: ∀(j i:Nat),i+j=l.length→∀(y a:Int),EL (fun _N k=>H1 l k (i:Int) y a) fun r=>r.why=0↔y=0∧i=l.length:=by
  intro j
  induction j with
  |zero=>
   intro i hi y a
   refine EL.down ?_
   show EL (fun _N k=>IK l (H1 l k) i y a) _
   unfold IK
   exact EL.cond (fun h=>by have:=CR h;omega) fun _=> .some ⟨fun h=>⟨h,om⟩,fun h=>h.1⟩
  |succ j ihj=>
   intro i hi y a
   obtain ⟨x,hx⟩: ∃x,l[i]?=some x:=⟨_,List.getElem?_eq_getElem om⟩
   have hy:=hl.1.1 x (List.mem_of_getElem? hx)
   have hll:=hl.1.2
   refine EL.down ?_
   show EL (fun _N k=>IK l (H1 l k) i y a) _
   unfold IK K0 Kz
   rw [wr om om,show (i:Int)+1=((i+1:Nat):Int) by omega]
   have no: ∀{y':Int},y'≠0→∀{r:AD},(r.why=0↔y'=0∧i+1=l.length)→(r.why=0↔y=0∧i=l.length):=fun hy' _ hr=>hr.trans ⟨fun h=>absurd h.1 hy',fun h=>om⟩
   refine EL.cond (fun _=>EL.cond (fun _=>EL.cond (fun _=>EL.eq (CI hx) ((ihj (i+1) om x.why x.at_).mono fun r hr=>no hy hr)) fun h=>by cases h) fun h=>EL.eq (CI hx) (EL.cond (fun _=>EL.eq (CI hx) ((ihj (i+1) om x.why x.at_).mono fun r hr=>no hy hr)) fun _=>(ihj (i+1) om y a).mono fun r hr=>no (B1 h) hr)) fun h=>by have:=Dj h;omega
 refine (loop l.length 0 om 0 0).diag.mono fun r hr=>hr.trans ?_
 rw [←hl.2]
 constructor
 ·rintro ⟨_,h⟩;exact List.length_eq_zero_iff.1 h.symm
 ·intro h;subst h;exact ⟨rfl,rfl⟩
end
end Fth
namespace Fth
open Go
def TyE(Γ:List AJ):Prop:=∀x∈Γ,1≤x.type_∧x.type_≤3
theorem WM{Γ:List AJ}{e:AE}(hΓ:TyE Γ)(he:WE e)(i:Nat):TyE (Win Γ e i)∧(Win Γ e i).length≤Γ.length+2:=by
 unfold Win
 split
 ·rename_i h
  refine ⟨fun x hx=>?_,by simp⟩
  rcases List.mem_cons.1 hx with rfl|hx
  ·exact he.typ om
  ·exact hΓ x hx
 ·split
  ·refine ⟨fun x hx=>?_,by simp⟩
   rcases List.mem_cons.1 hx with rfl|hx
   ·exact ⟨by simp,by simp⟩
   ·rcases List.mem_cons.1 hx with rfl|hx
    ·exact ⟨by simp,by simp⟩
    ·exact hΓ x hx
  ·exact ⟨hΓ,om⟩
theorem ACT{p:AM}(hp:WP p){e:AE}(he:WE e){t:Int}(ht:1≤t∧t≤3)(i:Nat):1≤Wan p e i t∧Wan p e i t≤3:=by
 unfold Wan
 split
 ·omega
 ·split
  ·omega
  ·split
   ·cases hh:hd p e.name with
    |none=>simp
    |some f=>
     have hf:=hp.fns f (List.mem_of_find?_eq_some hh)
     cases hx:f.params[i]? with
     |none=>simp [hx]
     |some x=>simpa [hx] using hf.ptyp x (List.mem_of_getElem? hx)
   ·split
    ·split<;>omega
    ·split
     ·split<;>omega
     ·split
      ·rename_i h
       have:=he.typ om
       split<;>omega
      ·omega
theorem Z5{α:Type}(a b:List α)(x:α):((a++x::b).reverse)[b.length]?=some x:=by
 rw [List.reverse_append,List.reverse_cons,List.append_assoc,List.getElem?_append_right (by simp)]
 simp
section
variable{p:AM}(hp:WP p)
theorem ABI{Γ:List AJ}{e:AE}(hl:Γ.length≤1000000000): ∀(Γ2 Γ1:List AJ),Γ=Γ1++Γ2→∀k,Γ2.length<k→KP Γ.reverse e k ((Γ2.length:Int) - 1)=some ((RN Γ2 e.name).getD (-1)):=by
 intro Γ2
 induction Γ2 with
 |nil=>
  intro Γ1 h k hk
  obtain ⟨k,rfl⟩: ∃j,k=j+1:=⟨k - 1,by simp at hk;omega⟩
  rfl
 |cons x Γ2 ih=>
  intro Γ1 h k hk
  obtain ⟨k,rfl⟩: ∃j,k=j+1:=⟨k - 1,by simp at hk;omega⟩
  show Lc Γ.reverse e (KP Γ.reverse e k) (((x::Γ2).length:Int) - 1)=_
  unfold Lc
  have hlen:Γ2.length<1000000000:=by rw [h] at hl;simp at hl;omega
  have e1:(((x::Γ2).length:Nat):Int) - 1=(Γ2.length:Int):=by simp
  have hat:Γ.reverse[Γ2.length]?=some x:=by rw [h];exact Z5 _ _ _
  rw [e1,show decide ((Γ2.length:Int)≥0)=true from decide_eq_true om,cond_true,CI hat,Option.bind_some,wr om om]
  unfold RN
  rw [List.find?_cons]
  cases hn:(x.name==e.name)
  ·rw [cond_false]
   exact ih (Γ1++[x]) (by rw [h];simp) k (by simp at hk;omega)
  ·rfl
include hp
theorem ACg{Γ:List AJ}{e:AE}{t:Int}(hΓ:TyE Γ)(hl:Γ.length≤1000000000)(he:WE e)(ht:1≤t∧t≤3):ET (fun N=>KC N p Γ.reverse e) fun o=>(o=0∨o=t)↔OwT p Γ e t:=by
 have j1: ∀b,(b=true↔(e.op=1∨(8≤e.op∧e.op≤11)∨(15≤e.op∧e.op≤17)))→ET (fun N=>Fj N p Γ.reverse e b) fun o=>(o=0∨o=t)↔OwT p Γ e t:=by
  intro b hb
  have j2: ∀b',b=false→(b'=true↔(e.op=2∨e.op=3∨(12≤e.op∧e.op≤14)))→ET (fun N=>IZ N p Γ.reverse e b') fun o=>(o=0∨o=t)↔OwT p Γ e t:=by
   intro b' hbf hb'
   have n1: ¬(e.op=1∨(8≤e.op∧e.op≤11)∨(15≤e.op∧e.op≤17)):=fun h=>by have:=hb.2 h;rw [hbf] at this;cases this
   have j3: ∀b'',b'=false→(b''=true↔(e.op=4∨e.op=18))→ET (fun N=>LK N p Γ.reverse e b'') fun o=>(o=0∨o=t)↔OwT p Γ e t:=by
    intro b'' hbf' hb''
    have n2: ¬(e.op=2∨e.op=3∨(12≤e.op∧e.op≤14)):=fun h=>by have:=hb'.2 h;rw [hbf'] at this;cases this
    unfold LK
    refine ET.cond (fun h=> .some ?_) fun h=>?_
    ·have h:=hb''.1 h
     exact ⟨fun h'=>⟨fun h=>absurd h n1,fun h=>absurd h n2,fun _=>om,fun h'=>om,fun h'=>om,fun h'=>om⟩,fun h'=> .inr (h'.l h).symm⟩
    have n3: ¬(e.op=4∨e.op=18):=fun h'=>by have:=hb''.2 h';rw [h] at this;cases this
    refine ET.cond (fun h=> .some ?_) fun h5=>ET.cond (fun h=>?_) fun h6=>ET.cond (fun h=>?_) fun h7=> .some ?_
    ·have h5:=CN h
     have:=he.typ (.inl h5)
     exact ⟨fun h'=>⟨fun h=>absurd h n1,fun h=>absurd h n2,fun h=>absurd h n3,fun _=>om,fun h'=>om,fun h'=>om⟩,fun h'=> .inr (h'.f h5).symm⟩
    ·have h6:=CN h
     refine Rc (Γ.length+2) ⟨(RN Γ e.name).getD (-1),?_,fun N hN=>?_⟩
     ·cases hlk:RN Γ e.name with
      |none=>exact ⟨fun h'=>by simp at h';omega,fun h'=>by have:=h'.v h6;rw [hlk] at this;cases this⟩
      |some u=>
       have hu:1≤u∧u≤3:=by
        unfold RN at hlk
        obtain ⟨x,hx,rfl⟩:=Option.map_eq_some_iff.1 hlk
        exact hΓ x (List.mem_of_find?_eq_some hx)
       refine ⟨fun h'=>⟨fun h=>absurd h n1,fun h=>absurd h n2,fun h=>absurd h n3,fun h'=>om,fun _=>?_,fun h'=>om⟩,fun h'=>?_⟩
       ·simp at h';rw [hlk];congr 1;omega
       ·have:=h'.v h6;rw [hlk] at this;cases this;exact .inr rfl
     ·have:=ABI (e:=e) hl Γ [] rfl N om
      rw [wr (by simp;omega) (by simp;omega),List.length_reverse]
      exact this
    ·have h7:=CN h
     have hl:=hp.len
     refine ET.bind (P:=fun r=>r=hdR (hd p e.name)) (Rc (p.funcs.length+2) ⟨_,rfl,fun N hN=>Sa om hN⟩) fun r hr=>?_
     subst hr
     unfold MA
     cases hh:hd p e.name with
     |none=>exact .some ⟨fun h=>om,fun h'=>by obtain ⟨f,hf,_⟩:=h'.c h7;rw [hh] at hf;cases hf⟩
     |some f=>
      have hf:=hp.fns f (List.mem_of_find?_eq_some hh)
      refine ET.cond (fun h=>by cases h) fun _=>ET.cond (fun h=> .some ?_) fun h=> .some ?_
      ·have h:=MJ h
       exact ⟨fun h=>om,fun h'=>by obtain ⟨g,hg,hgl,_⟩:=h'.c h7;rw [hh] at hg;cases hg;exact absurd (congrArg Int.ofNat hgl) h⟩
      ·have h:=KH h
       have:=hf.typ
       refine ⟨fun h'=>⟨fun h=>absurd h n1,fun h=>absurd h n2,fun h=>absurd h n3,fun h'=>om,fun h'=>om,fun _=>⟨f,hh,?_,?_⟩⟩,fun h'=>?_⟩
       ·have:(f.params.length:Int)=e.args.length:=h;omega
       ·have h':f.type_=0∨f.type_=t:=h';omega
       ·obtain ⟨g,hg,_,hgt⟩:=h'.c h7;rw [hh] at hg;cases hg;exact .inr hgt
    ·have h5:=B1 h5;have h6:=B1 h6;have h7:=B1 h7
     exact ⟨fun _=>⟨fun h=>absurd h n1,fun h=>absurd h n2,fun h=>absurd h n3,fun h=>absurd h h5,fun h=>absurd h h6,fun h=>absurd h h7⟩,fun _=> .inl rfl⟩
   unfold IZ
   refine ET.cond (fun h=> .some ?_) fun h=>?_
   ·have h:=hb'.1 h
    exact ⟨fun h'=>⟨fun h=>absurd h n1,fun _=>om,fun h'=>om,fun h'=>om,fun h'=>om,fun h'=>om⟩,fun h'=> .inr (h'.b h).symm⟩
   ·refine ET.cond (fun h4=>j3 _ h ⟨fun _=> .inl (CN h4),fun _=>h4⟩) fun h4=>j3 _ h ⟨fun h=> .inr (CN h),fun h=>?_⟩
    rcases h with h|h
    ·exact absurd h (B1 h4)
    ·simp [h]
  unfold Fj
  refine ET.cond (fun h=> .some ?_) fun h=>?_
  ·have h:=hb.1 h
   exact ⟨fun h'=>⟨fun _=>om,fun h'=>om,fun h'=>om,fun h'=>om,fun h'=>om,fun h'=>om⟩,fun h'=> .inr (h'.n h).symm⟩
  ·refine ET.cond (fun h2=>j2 _ h ⟨fun _=>by have:=CN h2;omega,fun _=>h2⟩) fun h2=>ET.cond (fun h3=>j2 _ h ⟨fun _=>by have:=CN h3;omega,fun _=>h3⟩) fun h3=>ET.cond (fun h4=>j2 _ h ⟨fun _=>by have:=CN h4;omega,fun _=>h4⟩) fun h4=>ET.cond (fun h5=>j2 _ h ⟨fun _=>by have:=CN h5;omega,fun _=>h5⟩) fun h5=>j2 _ h ⟨fun h6=>by have:=CN h6;omega,fun h6=>?_⟩
   have:=B1 h2;have:=B1 h3;have:=B1 h4;have:=B1 h5
   simp;omega
 unfold KC
 have yes: ∀{k:Int},(k=1∨(8≤k∧k≤11)∨(15≤k∧k≤17))→(e.op==k)=true→ET (fun N=>Fj N p Γ.reverse e (e.op==k)) fun o=>(o=0∨o=t)↔OwT p Γ e t:=fun hk h=>j1 _ ⟨fun _=>by have:=CN h;omega,fun _=>h⟩
 refine ET.cond (fun h=>yes om h) fun h1=>ET.cond (fun h=>yes om h) fun h2=>ET.cond (fun h=>yes om h) fun h3=>ET.cond (fun h=>yes om h) fun h4=>ET.cond (fun h=>yes om h) fun h5=>ET.cond (fun h=>yes om h) fun h6=>ET.cond (fun h=>yes om h) fun h7=>j1 _ ⟨fun h=>by have:=CN h;omega,fun h=>?_⟩
 have:=B1 h1;have:=B1 h2;have:=B1 h3;have:=B1 h4;have:=B1 h5;have:=B1 h6;have:=B1 h7
 simp;omega
omit hp in
theorem Z6{l:List AJ}{nm:List UInt8}{t:Int}(h:l.length≤1000000100):Ha l nm t=some (l++[⟨nm,t,0⟩]):=by
 unfold Ha
 obtain ⟨_,e1,_⟩:=GC (b:=32) (xs:=([]:List AJ)) (ys:=l) (by decide) (by simp;omega)
 obtain ⟨_,e2,_⟩:=GC (b:=32) (xs:=([]:List AJ)++l) (ys:=[AJ.mk nm t 0]) (by decide) (by simp;omega)
 rw [e1,Option.bind_some,e2,Option.bind_some,List.nil_append]
omit hp in
theorem Z7{Γ:List AJ}{e:AE}(hl:Γ.length≤1000000000)(i:Nat):G0 Γ.reverse e (i:Int)=some (Win Γ e i).reverse:=by
 unfold G0 JO KW Win
 have e1:((i:Int)==1)=decide (i=1):=by rw [Bool.eq_iff_iff];simp;omega
 have e2:((i:Int)==2)=decide (i=2):=by rw [Bool.eq_iff_iff];simp;omega
 rw [e1,e2,Z6 (by rw [List.length_reverse];omega),Z6 (by rw [List.length_reverse];omega)]
 simp only [Option.bind_some]
 rw [Z6 (by simp;omega)]
 cases h1:(e.op==21)
 ·have h1:=B1 h1
  cases h2:(e.op==22)
  ·have h2:=B1 h2
   rw [if_neg om]
   cases h3:(e.op==20)
   ·have h3:=B1 h3
    rw [if_neg om];rfl
   ·have h3:=CN h3
    cases h4:decide (i=2)
    ·have h4:=Dj h4;rw [if_neg om];rfl
    ·have h4:=CR h4;rw [if_pos ⟨h3,h4⟩];simp
  ·have h2:=CN h2
   cases h3:decide (i=1)
   ·have h3:=Dj h3
    rw [if_neg om,if_neg om,show (e.op==20)=false by simp;omega];rfl
   ·have h3:=CR h3
    rw [if_pos (.inr ⟨h2,h3⟩)];simp
 ·have h1:=CN h1
  rw [if_pos (.inl h1)];simp
theorem Z8{e:AE}{t:Int}(i:Nat):ET (fun N=>G3 N p e (i:Int) t) fun r=>r=Wan p e i t:=by
 have hl:=hp.len
 unfold G3 KY JP Wan
 have e1:((i:Int)==1)=decide (i=1):=by rw [Bool.eq_iff_iff];simp;omega
 have e0:((i:Int)==0)=decide (i=0):=by rw [Bool.eq_iff_iff];simp
 rw [e1,e0]
 refine ET.cond (fun h=> .some ?_) fun h14=>ET.cond (fun h=>ET.cond (fun h'=> .some ?_) fun h'=> .some ?_) fun h18=>ET.cond (fun h=>?_) fun h7=>ET.cond (fun h=>ET.cond (fun h'=> .some ?_) fun h'=> .some ?_) fun h19=>ET.cond (fun h=>ET.cond (fun h'=> .some ?_) fun h'=> .some ?_) fun h20=>ET.cond (fun h=>ET.cond (fun h'=>ET.cond (fun h''=> .some ?_) fun h''=> .some ?_) fun h'=>absurd (h.symm.trans h') (by decide)) fun h21=>ET.cond (fun h'=>ET.cond (fun h''=> .some ?_) fun h''=> .some ?_) fun h22=> .some ?_
 ·rw [if_pos (CN h)]
 ·have:=B1 h14;rw [if_neg om,if_pos ⟨CN h,CR h'⟩]
 ·have:=B1 h14;have:=CN h;have:=Dj h';rw [if_neg om,if_neg om,if_neg om,if_neg om,if_neg om,if_neg om]
 ·have:=B1 h14;have:=B1 h18;have h7:=CN h
  refine ET.bind (P:=fun r=>r=hdR (hd p e.name)) (Rc (p.funcs.length+2) ⟨_,rfl,fun N hN=>Sa om hN⟩) fun r hr=>?_
  subst hr
  rw [if_neg om,if_neg om,if_pos h7]
  unfold KX
  cases hh:hd p e.name with
  |none=>exact .some rfl
  |some f=>
   refine ET.cond (fun _=>ET.cond (fun h'=>?_) fun h'=>?_) fun h=>by cases h
   ·have h':=CR h'
    have h':(i:Int)< (f.params.length:Int):=h'
    obtain ⟨x,hx⟩: ∃x,f.params[i]?=some x:=⟨_,List.getElem?_eq_getElem om⟩
    refine ET.eq (CI hx) (.some ?_)
    show x.type_=(match f.params[i]? with |some x=>x.type_|none=>1)
    rw [hx]
   ·have h':=Dj h'
    have h': ¬(i:Int)< (f.params.length:Int):=h'
    refine .some ?_
    show 1=(match f.params[i]? with |some x=>x.type_|none=>1)
    rw [List.getElem?_eq_none om]
 ·have:=B1 h14;have:=B1 h18;have:=B1 h7;rw [if_neg om,if_neg om,if_neg om,if_pos (CN h),if_pos (CR h')]
 ·have:=B1 h14;have:=B1 h18;have:=B1 h7;rw [if_neg om,if_neg om,if_neg om,if_pos (CN h),if_neg (Dj h')]
 ·have:=B1 h14;have:=B1 h18;have:=B1 h7;have:=B1 h19;rw [if_neg om,if_neg om,if_neg om,if_neg om,if_pos (CN h),if_pos (CR h')]
 ·have:=B1 h14;have:=B1 h18;have:=B1 h7;have:=B1 h19;rw [if_neg om,if_neg om,if_neg om,if_neg om,if_pos (CN h),if_neg (Dj h')]
 ·have:=CN h;rw [if_neg om,if_neg om,if_neg om,if_neg om,if_neg om,if_pos om,if_pos (CR h'')]
 ·have:=CN h;rw [if_neg om,if_neg om,if_neg om,if_neg om,if_neg om,if_pos om,if_neg (Dj h'')]
 ·have:=CN h';rw [if_neg om,if_neg om,if_neg om,if_neg om,if_neg om,if_pos om,if_pos (CR h'')]
 ·have:=CN h';rw [if_neg om,if_neg om,if_neg om,if_neg om,if_neg om,if_pos om,if_neg (Dj h'')]
 ·have:=B1 h14;have:=B1 h18;have:=B1 h7;have:=B1 h19;have:=B1 h20;have:=B1 h21;have:=B1 h22
  rw [if_neg om,if_neg om,if_neg om,if_neg om,if_neg om,if_neg om]
omit hp in
theorem Md{Γ:List AJ}{e:AE}{t:Int}:WTy p Γ e t↔OwT p Γ e t∧∀i a,e.args[i]?=some a→WTy p (Win Γ e i) a (Wan p e i t):=
 ⟨fun h=>⟨h.own,h.sub⟩,fun h=> .mk Γ e t h.1 h.2⟩
theorem ABJ: ∀(n:Nat) (e:AE),E5 e≤n→n≤10000000→WE e→∀(Γ:List AJ) (t:Int),TyE Γ→Γ.length+2*n≤1000000000→1≤t∧t≤3→
  ET (fun N=>ref07_wrong N p Γ.reverse e t) fun l=>l.length≤E5 e∧(l=[]↔WTy p Γ e t):=by
 intro n
 induction n with
 |zero=>intro e he;have:=M3 e;omega
 |succ n ih=>
  intro e hen hn he Γ t hΓ hl ht
  have hal:=NL e.args
  have hes:=PT e
  refine ET.down ?_
  show ET (fun N=>Kh (BT.at N) N p Γ.reverse e t) _
  have loop: ∀(j i:Nat),i+j=e.args.length→∀(acc:List Int),acc.length≤1+DL (e.args.take i)→
    EL (fun N k=>H3 (BT.at N) N p Γ.reverse e t k acc (i:Int)) fun l=>l.length≤1+DL e.args∧(l=[]↔acc=[]∧∀i' a,i≤i'→e.args[i']?=some a→WTy p (Win Γ e i') a (Wan p e i' t)):=by
   intro j
   induction j with
   |zero=>
    intro i hi acc hacc
    refine EL.down ?_
    show EL (fun N k=>IL (BT.at N) N p Γ.reverse e t (H3 (BT.at N) N p Γ.reverse e t k) acc i) _
    unfold IL
    have htk:e.args.take i=e.args:=List.take_of_length_le om
    refine EL.cond (fun h=>by have:=CR h;omega) fun _=> .some ⟨by rw [htk] at hacc;omega,fun h=>⟨h,fun i' a hi' ha=>?_⟩,fun h=>h.1⟩
    have:=(List.getElem?_eq_some_iff.1 ha).1
    omega
   |succ j ihj=>
    intro i hi acc hacc
    refine EL.down ?_
    show EL (fun N k=>IL (BT.at N) N p Γ.reverse e t (H3 (BT.at N) N p Γ.reverse e t k) acc i) _
    unfold IL
    obtain ⟨a,ha⟩: ∃a,e.args[i]?=some a:=⟨_,List.getElem?_eq_getElem om⟩
    have has:=ON (List.mem_of_getElem? ha)
    have htk:DL (e.args.take (i+1))=DL (e.args.take i)+E5 a:=by rw [List.take_add_one,ha];simp [Kk,DL]
    have htk2:DL (e.args.take (i+1))≤DL e.args:=by
     have:=Kk (e.args.take (i+1)) (e.args.drop (i+1))
     rw [List.take_append_drop] at this;omega
    have hwin:=WM hΓ he i
    refine EL.cond (fun _=>?_) fun h=>by have:=Dj h;omega
    refine EL.eq (CI ha) (EL.eq (Z7 om i) (EL.bind (Z8 hp i) fun w hw=>?_))
    subst hw
    refine EL.bind (ih a om om (he.sub a (List.mem_of_getElem? ha)) (Win Γ e i) _ hwin.1 om (ACT hp he ht i)) fun l hl=>?_
    refine EL.tb (GC (by decide) om) fun _ _=>?_
    rw [wr om om,show (i:Int)+1=((i+1:Nat):Int) by omega]
    refine (ihj (i+1) om (acc++l) (by rw [List.length_append,htk];omega)).mono fun r hr=>⟨hr.1,?_⟩
    rw [hr.2,List.append_eq_nil_iff,hl.2]
    constructor
    ·rintro ⟨⟨h1,h2⟩,h3⟩
     refine ⟨h1,fun i' b hi' hb=>?_⟩
     rcases Nat.eq_or_lt_of_le hi' with rfl|hlt
     ·rw [ha] at hb;cases hb;exact h2
     ·exact h3 i' b hlt hb
    ·rintro ⟨h1,h2⟩
     exact ⟨⟨h1,h2 i a (Nat.le_refl _) ha⟩,fun i' b hi' hb=>h2 i' b om hb⟩
  unfold Kh
  refine ET.bind (ACg hp hΓ om he ht) fun o ho=>?_
  have fin: ∀(acc:List Int),acc.length≤1→(acc=[]↔OwT p Γ e t)→ET (fun N=>KD (BT.at N) N p Γ.reverse e t acc) fun l=>l.length≤E5 e∧(l=[]↔WTy p Γ e t):=by
   intro acc h1 h2
   unfold KD
   refine (loop e.args.length 0 om acc om).diag.mono fun r hr=>⟨om,?_⟩
   rw [hr.2,h2,Md]
   exact ⟨fun h=>⟨h.1,fun i a ha=>h.2 i a (Nat.zero_le _) ha⟩,fun h=>⟨h.1,fun i a _ ha=>h.2 i a ha⟩⟩
  unfold K5
  refine ET.cond (fun h=>ET.cond (fun h'=>ET.tb (GC (by decide) (by simp)) fun _ _=>fin _ (by simp) ⟨fun h=>by simp at h,fun h''=>?_⟩) fun h'=>fin [] (by simp) ⟨fun _=>ho.1 (.inr (KH h')),fun _=>rfl⟩) fun h=>ET.cond (fun h'=>by cases h') fun _=>fin [] (by simp) ⟨fun _=>ho.1 (.inl (KH h)),fun _=>rfl⟩
  rcases ho.2 h'' with h0|h0
  ·exact absurd h0 (MJ h)
  ·exact absurd h0 (MJ h')
def UH(p:AM):Prop:=ABC p∧∀f∈p.funcs,WTy p f.params.reverse f.body f.type_
theorem Z9:ET (fun N=>HG N p) fun r=>r.why=0↔UH p:=by
 have hb: ∀f∈p.funcs,E5 f.body≤1000000∧f.params.length≤1000000:=fun f hf=>⟨(hp.fns f hf).size,(hp.fns f hf).pars⟩
 have hlen:=hp.len
 unfold HG
 refine ET.bind (Z4 hlen hb) fun r hr=>ET.cond (fun h=> .some ⟨fun h'=>absurd h' (MJ h),fun h'=>hr.2 h'.1⟩) fun h=>?_
 have h:=KH h
 have hsc:=hr.1 h
 have fns: ∀(j i:Nat),i+j=p.funcs.length→∀(y a:Int),EL (fun N k=>CF N p k (i:Int) y a) fun r=>r.why=0↔y=0∧∀i' f,i≤i'→p.funcs[i']?=some f→WTy p f.params.reverse f.body f.type_:=by
  intro j
  induction j with
  |zero=>
   intro i hi y a
   refine EL.down ?_
   show EL (fun N k=>IM N p (CF N p k) i y a) _
   unfold IM
   refine EL.cond (fun h=>by have:=CR h;omega) fun _=> .some ⟨fun h=>⟨h,fun i' f hi' hf=>by have:=(List.getElem?_eq_some_iff.1 hf).1;omega⟩,fun h=>h.1⟩
  |succ j ihj=>
   intro i hi y a
   obtain ⟨f,hf⟩: ∃f,p.funcs[i]?=some f:=⟨_,List.getElem?_eq_getElem om⟩
   have hfn:=hp.fns f (List.mem_of_getElem? hf)
   have hfs:=hfn.size
   have hfp:=hfn.pars
   refine EL.down ?_
   show EL (fun N k=>IM N p (CF N p k) i y a) _
   unfold IM
   refine EL.cond (fun _=>?_) fun h=>by have:=Dj h;omega
   refine EL.eq (CI hf) ?_
   rw [QF]
   have hΓ:TyE f.params.reverse:=fun x hx=>hfn.ptyp x (List.mem_reverse.1 hx)
   have hw:=ABJ hp (E5 f.body) f.body (Nat.le_refl _) om hfn.body f.params.reverse f.type_ hΓ (by rw [List.length_reverse];omega) hfn.typ
   rw [List.reverse_reverse] at hw
   refine EL.bind hw fun l hl=>?_
   have inner: ∀(q t:Nat),t+q=l.length→∀(y a:Int),∃y' a',(y'=0↔y=0∧t=l.length)∧∃n0,∀N k kk,n0≤kk→FK i (CF N p k) l kk (t:Int) y a=CF N p k ((i+1:Nat):Int) y' a':=by
    intro q
    induction q with
    |zero=>
     intro t ht y a
     refine ⟨y,a,⟨fun h=>⟨h,om⟩,fun h=>h.1⟩,1,fun N k kk hkk=>?_⟩
     obtain ⟨kk,rfl⟩: ∃j,kk=j+1:=⟨kk - 1,om⟩
     show Em i (CF N p k) l (FK i (CF N p k) l kk) t y a=_
     unfold Em
     rw [show decide ((t:Int)< (l.length:Int))=false from decide_eq_false om,cond_false,wr om om,show (i:Int)+1=((i+1:Nat):Int) by omega]
    |succ q ihq=>
     intro t ht y a
     obtain ⟨x,hx⟩: ∃x,l[t]?=some x:=⟨_,List.getElem?_eq_getElem om⟩
     have hll:=hl.1
     have e1:IntKind.i64.wrap ((t:Int)+1)=((t+1:Nat):Int):=by rw [wr om om];omega
     have take: ∃y' a',(y'=0↔y=0∧t=l.length)∧∃n0,∀N k kk,n0≤kk→FK i (CF N p k) l kk ((t+1:Nat):Int) 34 x=CF N p k ((i+1:Nat):Int) y' a':=by
      obtain ⟨y',a',h1,n0,h2⟩:=ihq (t+1) om 34 x
      exact ⟨y',a',⟨fun h=>absurd (h1.1 h).1 (by decide),fun h=>om⟩,n0,h2⟩
     cases hy:(y==0)
     ·have hy':=B1 hy
      cases hlt:decide (x<a)
      ·obtain ⟨y',a',h1,n0,h2⟩:=ihq (t+1) om y a
       refine ⟨y',a',⟨fun h=>absurd (h1.1 h).1 hy',fun h=>om⟩,n0+1,fun N k kk hkk=>?_⟩
       obtain ⟨kk,rfl⟩: ∃j,kk=j+1:=⟨kk - 1,om⟩
       show Em i (CF N p k) l (FK i (CF N p k) l kk) t y a=_
       unfold Em JA I9
       rw [show decide ((t:Int)< (l.length:Int))=true from decide_eq_true om,cond_true,hy,cond_false,CI hx,Option.bind_some,hlt,cond_false,e1]
       exact h2 N k kk om
      ·obtain ⟨y',a',h1,n0,h2⟩:=take
       refine ⟨y',a',h1,n0+1,fun N k kk hkk=>?_⟩
       obtain ⟨kk,rfl⟩: ∃j,kk=j+1:=⟨kk - 1,om⟩
       show Em i (CF N p k) l (FK i (CF N p k) l kk) t y a=_
       unfold Em JA I9
       rw [show decide ((t:Int)< (l.length:Int))=true from decide_eq_true om,cond_true,hy,cond_false,CI hx,Option.bind_some,hlt,cond_true,Option.bind_some,e1]
       exact h2 N k kk om
     ·obtain ⟨y',a',h1,n0,h2⟩:=take
      refine ⟨y',a',h1,n0+1,fun N k kk hkk=>?_⟩
      obtain ⟨kk,rfl⟩: ∃j,kk=j+1:=⟨kk - 1,om⟩
      show Em i (CF N p k) l (FK i (CF N p k) l kk) t y a=_
      unfold Em JA I9
      rw [show decide ((t:Int)< (l.length:Int))=true from decide_eq_true om,cond_true,hy,cond_true,cond_true,CI hx,Option.bind_some,e1]
      exact h2 N k kk om
   obtain ⟨y',a',h1,n0,h2⟩:=inner l.length 0 om y a
   obtain ⟨r,hr,n1,h3⟩:=ihj (i+1) om y' a'
   refine ⟨r,hr.trans ?_,n0+n1,fun N k hN hk=>?_⟩
   ·rw [h1]
    have hz:(0=l.length)↔WTy p f.params.reverse f.body f.type_:=by
     rw [←hl.2]
     exact ⟨fun h=>List.length_eq_zero_iff.1 h.symm,fun h=>by rw [h];rfl⟩
    rw [hz]
    constructor
    ·rintro ⟨⟨h1,h2⟩,h3⟩
     refine ⟨h1,fun i' g hi' hg=>?_⟩
     rcases Nat.eq_or_lt_of_le hi' with rfl|hlt
     ·rw [hf] at hg;cases hg;exact h2
     ·exact h3 i' g hlt hg
    ·rintro ⟨h1,h2⟩
     exact ⟨⟨h1,h2 i f (Nat.le_refl _) hf⟩,fun i' g hi' hg=>h2 i' g om hg⟩
   ·exact (h2 N k N om).trans (h3 N k om om)
 refine (fns p.funcs.length 0 om r.why r.at_).diag.mono fun q hq=>hq.trans ⟨fun h'=>⟨hsc,fun f hf=>?_⟩,fun h'=>⟨h,fun i' f _ hf=>h'.2 f (List.mem_of_getElem? hf)⟩⟩
 obtain ⟨i,hi⟩:=List.mem_iff_getElem?.1 hf
 exact h'.2 i f (Nat.zero_le _) hi
end
end Fth
