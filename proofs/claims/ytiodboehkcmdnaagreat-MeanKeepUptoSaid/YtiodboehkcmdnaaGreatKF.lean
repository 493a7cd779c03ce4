/- Part 6 of the proof: what it says holds of the given program; no condition. -/
import Derived.Test.YtiodboehkcmdnaaGreatKE
set_option linter.all false
set_option exponentiation.threshold 3000
namespace Fth
open Go
theorem QW(e:AE):AE.mk e.op e.name e.tail e.type_ e.num e.args e.at_=e:=by cases e;rfl
mutual
def D8:AE->Nat
 | ⟨_,_,_,_,_,l,_⟩=>1+Cy l
def Cy:List AE->Nat
 | []=>0
 |e::l=>D8 e+Cy l
end
theorem Ph(e:AE):D8 e=1+Cy e.args:=by cases e;simp [D8]
theorem Kt(l m:List AE):Cy (l++m)=Cy l+Cy m:=by
 induction l with
 |nil=>simp [Cy]
 |cons e l ih=>simp [Cy,ih];omega
theorem QX(e:AE):Cy [e]=D8 e:=by simp [Cy]
theorem NF(e:AE):1<=D8 e:=by rw [Ph];omega
theorem Oa{l:List AE}{e:AE}(h:e∈l):D8 e<=Cy l:=by
 induction l with
 |nil=>cases h
 |cons x l ih=>
  rcases List.mem_cons.1 h with rfl|h
  ·simp [Cy]
  ·have:=ih h;simp only [Cy];omega
theorem NU(l:List AE):l.length<=Cy l:=by
 induction l with
 |nil=>simp
 |cons x l ih=>have:=NF x;simp only [Cy,List.length_cons];omega
def Ar(op:Int)(n:Nat):Prop:=
 (1<=op/\op<=6/\n=0)∨op=7∨(8<=op/\op<=13/\n=2)∨(14<=op/\op<=17/\n=1)∨(op=18/\n=2)∨(19<=op/\op<=20/\n=3)∨(21<=op/\op<=22/\n=2)
inductive WE:AE->Prop
 |mk (e:AE) (ha:Ar e.op e.args.length) (hn:e.op=1->Gn e.num) (ht:e.op=5∨e.op=21∨e.op=22->1<=e.type_/\e.type_<=3) (hs: ∀a∈e.args,WE a) (hz:e.op=1∨e.num=(0,0)):WE e
theorem WE.ar{e:AE}(h:WE e):Ar e.op e.args.length:=by cases h;assumption
theorem WE.num{e:AE}(h:WE e):e.op=1->Gn e.num:=by cases h;assumption
theorem WE.typ{e:AE}(h:WE e):e.op=5∨e.op=21∨e.op=22->1<=e.type_/\e.type_<=3:=by cases h;assumption
theorem WE.sub{e:AE}(h:WE e): ∀a∈e.args,WE a:=by cases h;assumption
theorem WE.zer{e:AE}(h:WE e):e.op=1∨e.num=(0,0):=by cases h;assumption
section
variable{ms:List Ak}
def Rd(ms:List Ak)(r:AC):Prop:=r.marks=ms/\0<=r.at_/\r.at_<ms.length
theorem Wa(hM:GM ms){i:Nat}{m:Ak}(h:ms[i]?=some m):(m.kind≠4->i+1<ms.length)/\(m.kind=2->Gn m.num):=by
 obtain ⟨l,e,rfl,he,hl⟩:=hM
 rcases Nat.lt_or_ge i l.length with hi|hi
 ·rw [List.getElem?_append_left hi] at h
  have:=hl m (List.mem_of_getElem? h)
  exact ⟨λ_=>by simp;omega,this.2⟩
 ·rw [List.getElem?_append_right hi] at h
  have h0:i - l.length=0:=by
   rcases Nat.eq_zero_or_pos (i - l.length) with h'|h'
   ·exact h'
   ·rw [List.getElem?_eq_none (by simp;omega)] at h;cases h
  rw [h0] at h
  simp at h
  subst h
  exact ⟨λh=>absurd he h,λh=>by rw [he] at h;exact absurd h (by decide)⟩
theorem L7{r:AC}(hr:Rd ms r):T (Bl r) λm=>ms[r.at_.toNat]?=some m:=by
 obtain ⟨rfl,h0,h1⟩:=hr
 exact T.bind (Ft h0 h1) λm hm=> .some hm
theorem Ob{r:AC}{y:Int}(hr:Rd ms r)(hy:y≠0):T (CD r y) λr'=>Rd ms r'/\r'.at_=r.at_/\r'.why≠0:=by
 unfold CD
 refine T.cond (λ_=>T.bind (L7 (ms:=ms) (r:=AC.mk _ _ _ _ _ _) hr) λm _=> .some ⟨hr,rfl,hy⟩) λh=> .some ⟨hr,rfl,B9 h⟩
def Kv(r:AC):AC:=⟨r.marks,r.at_+1,r.why,r.where_,r.l,r.nest⟩
theorem Oi(hM:GM ms){r:AC}{s:List UInt8}(hr:Rd ms r):T (By r s) λb=>b=true->r.why=0/\r.at_+1<ms.length:=by
 unfold By
 refine T.bind (L7 hr) λm hm=>T.cond (λhw=>?_) λ_=> .some λh=>by cases h
 have hw:=CV hw
 have h2:=(Wa hM hm).1
 have:=hr.2.1
 refine T.cond (λhk=> .some λ_=>⟨hw,?_⟩) λ_=>T.cond (λhk=> .some λ_=>⟨hw,?_⟩) λ_=> .some λh=>by cases h
 ·have:=h2 (by rw [CV hk];decide);omega
 ·have:=h2 (by rw [CV hk];decide);omega
variable(hlen:ms.length<=1000000000)
include hlen
theorem Nn{r:AC}(hr:Rd ms r):(AC.mk r.marks (IntKind.i64.wrap (r.at_+1)) r.why r.where_ (Aj.mk r.l.text r.l.funcs r.l.arity r.l.nest) r.nest)=Kv r:=by
 rw [wr (by have:=hr.2.1;omega) (by have:=hr.2.2;omega)];rfl
theorem Oc(hM:GM ms){r:AC}{s:List UInt8}(hr:Rd ms r):T (CE r s) λx=>(x.1=true->r.why=0/\x.2=Kv r/\Rd ms (Kv r))/\(x.1=false->x.2=r):=by
 unfold CE
 refine T.bind (Oi hM hr) λb hb=>T.cond (λh=> .some ⟨λh=>(by cases h),λ_=>rfl⟩) λh=>?_
 rw [Nn hlen hr]
 have:=hb (by simpa using h)
 exact .some ⟨λ_=>⟨this.1,rfl,hr.1,by show 0<=r.at_+1;have:=hr.2.1;omega,this.2⟩,λh=>by cases h⟩
theorem JP(hM:GM ms){r:AC}{s:List UInt8}(hr:Rd ms r):T (BD r s) λr'=>Rd ms r'/\r.at_<=r'.at_/\(r'.why=0->r.why=0/\r'.at_=r.at_+1):=by
 unfold BD
 refine T.bind (Oc hlen hM hr) λx hx=>T.cond (λh=>?_) λh=>?_
 ·have e:=hx.2 (by simpa using h)
  rw [e]
  refine T.bind (Ob hr (by decide)) λr' hr'=> .some ⟨hr'.1,by rw [hr'.2.1];omega,λh=>absurd h hr'.2.2⟩
 ·obtain ⟨h0,e,h1⟩:=hx.1 (by simpa using h)
  rw [e]
  exact .some ⟨h1,by show r.at_<=r.at_+1;omega,λ_=>⟨h0,rfl⟩⟩
theorem Q3(hM:GM ms){r:AC}(hr:Rd ms r):T (CU r) λx=>Rd ms x.2/\r.at_<=x.2.at_/\(x.2.why=0->r.why=0/\x.2.at_=r.at_+1):=by
 unfold CU
 refine T.bind (L7 hr) λm hm=>?_
 have bad:T (GO r m true) λx=>Rd ms x.2/\r.at_<=x.2.at_/\(x.2.why=0->r.why=0/\x.2.at_=r.at_+1):=
  T.bind (Ob hr (by decide)) λr' hr'=> .some ⟨hr'.1,by simp only;rw [hr'.2.1];omega,λh=>absurd h hr'.2.2⟩
 refine T.cond (λ_=>bad) λhw=>?_
 cases hk:(m.kind != 0)
 ·unfold GO
  rw [Nn hlen hr]
  have h2:=(Wa hM hm).1 (by rw [KR hk];decide)
  have:=hr.2.1
  exact .some ⟨⟨hr.1,by show 0<=r.at_+1;omega,by show r.at_+1<_;omega⟩,by show r.at_<=r.at_+1;omega,λ_=>⟨KR hw,rfl⟩⟩
 ·exact bad
theorem Wb(hM:GM ms){r:AC}{N:Nat}(hN:5<=N)(hr:Rd ms r):T (CX N r) λx=>Rd ms x.2/\r.at_<=x.2.at_/\(x.2.why=0->r.why=0/\x.2.at_=r.at_+1/\1<=x.1/\x.1<=3):=by
 have key: ∀(k:Nat) (i:Int),0<=i->i<=3->3 - i<k->T (CW k i r.marks r.at_ r.why r.where_ r.l.text r.l.funcs r.l.arity r.l.nest r.nest) λx=>Rd ms x.2/\r.at_<=x.2.at_/\(x.2.why=0->r.why=0/\x.2.at_=r.at_+1/\1<=x.1/\x.1<=3):=by
  intro k
  induction k with
  |zero=>intro i _ _ _;omega
  |succ k ih=>
   intro i h0 h1 h2
   show T (DP (CW k) i r.marks r.at_ r.why r.where_ r.l.text r.l.funcs r.l.arity r.l.nest r.nest) _
   unfold DP
   refine T.cond (λh=>?_) λh=>?_
   ·have h:=CS h
    have h:i<3:=h
    refine T.bind (Ft h0 (by simpa using h)) λs _=>T.bind (Oc hlen hM (r:=r) hr) λx hx=>T.cond (λhb=>?_) λhb=>?_
    ·obtain ⟨h3,e,h4⟩:=hx.1 hb
     rw [e,wr om om]
     exact .some ⟨h4,by show r.at_<=r.at_+1;omega,λ_=>⟨h3,rfl,by simp only;omega,by simp only;omega⟩⟩
    ·rw [hx.2 hb,wr om om]
     exact ih _ om om om
   ·exact T.bind (Ob (r:=r) hr (by decide)) λr' hr'=> .some ⟨hr'.1,by simp only;rw [hr'.2.1];omega,λh=>absurd h hr'.2.2⟩
 exact key N 0 om om om
omit hlen
def EP(ms:List Ak)(r:AC)(x:AE×AC):Prop:=Rd ms x.2/\r.at_<=x.2.at_/\(x.2.why=0->r.why=0/\WE x.1/\(D8 x.1:Int)<=x.2.at_ - r.at_)
def Fu(ms:List Ak)(n:Nat)(r:AC)(lvl:Int):Prop:=lvl<=n/\(r.why=0->20*((ms.length:Int) - r.at_)+lvl<=n)
structure PSp(ms:List Ak)(n:Nat)(φ:AB):Prop where
 expr: ∀r,Rd ms r->Fu ms n r 18->T (φ.ref04_reader_expr r) (EP ms r)
 cons: ∀r,Rd ms r->Fu ms n r 17->T (φ.ref04_reader_cons r) (EP ms r)
 comp: ∀r,Rd ms r->Fu ms n r 16->T (φ.ref04_reader_comp r) (EP ms r)
 sum: ∀r,Rd ms r->Fu ms n r 15->T (φ.ref04_reader_sum r) (EP ms r)
 term: ∀r,Rd ms r->Fu ms n r 14->T (φ.ref04_reader_term r) (EP ms r)
 unit: ∀r,Rd ms r->Fu ms n r 13->T (φ.ref04_reader_unit r) (EP ms r)
 named: ∀r m,Rd ms r->r.why=0->Fu ms n r 12->T (φ.ref04_reader_named r m) λx=>Rd ms x.2/\r.at_<=x.2.at_/\(x.2.why=0->WE x.1/\(D8 x.1:Int)<=x.2.at_ - r.at_+1)
 parts: ∀r l,Rd ms r->l.length<=3->Fu ms n r 19->T (φ.ref04_reader_parts r l) λx=>Rd ms x.2/\r.at_<=x.2.at_/\(x.2.why=0->(l≠[]->r.why=0)/\x.1.length=l.length/\(∀a∈x.1,WE a)/\(Cy x.1:Int)<=x.2.at_ - r.at_)
 branches: ∀r (e:AE),e.num=(0,0)->Rd ms r->Fu ms n r 19->T (φ.ref04_reader_branches r e) λx=>Rd ms x.1/\r.at_<=x.1.at_/\(x.1.why=0->r.why=0/\WE x.2/\(D8 x.2:Int)<=x.1.at_ - r.at_+1)
theorem Fu.le{n m:Nat}{r r':AC}{l l':Int}(h:Fu ms n r l)(ha:r.at_<=r'.at_)(hw:r'.why=0->r.why=0)(hl:l'+n<=l+m):Fu ms m r' l':=by
 obtain ⟨h1,h2⟩:=h
 exact ⟨om,λh=>by have:=h2 (hw h);omega⟩
theorem Fu.lt{n m:Nat}{r r':AC}{l l':Int}(h:Fu ms n r l)(ha:r.at_<r'.at_)(hw:r.why=0)(h1:r.at_<ms.length)(hl:l'+n<=l+20+m):Fu ms m r' l':=by
 obtain ⟨h1,h2⟩:=h
 have:=h2 hw
 exact ⟨om,λ_=>om⟩
theorem WE.two{op:Int}{a b:AE}{nm tl:List UInt8}{ty p:Int}(ho:(8<=op/\op<=13)∨op=18)(ha:WE a)(hb:WE b):WE ⟨op,nm,tl,ty,(0,0),[a,b],p⟩:=by
 refine .mk _ ?_ (λh=>?_) (λh=>?_) (λx hx=>?_) (.inr rfl)
 ·rcases ho with ho|ho
  ·exact .inr (.inr (.inl ⟨ho.1,ho.2,rfl⟩))
  ·exact .inr (.inr (.inr (.inr (.inl ⟨ho,rfl⟩))))
 ·simp only at h;omega
 ·simp only at h;omega
 ·simp at hx;rcases hx with rfl|rfl<;>assumption
section
variable(hlen:ms.length<=1000000000)(hM:GM ms){n:Nat}{φ:AB}(hφ:PSp ms n φ)
include hlen hM hφ
theorem AB7{r:AC}(hr:Rd ms r)(hf:Fu ms (n+1) r 17):T (DF φ n r) (EP ms r):=by
 unfold DF
 refine T.bind (hφ.comp r hr (hf.le om id om)) λx hx=>T.bind (L7 hx.1) λm _=>T.bind (Oc hlen hM hx.1) λy hy=>T.cond (λhb=>?_) λhb=>?_
 ·rw [hy.2 (by simpa using hb)]
  exact .some hx
 ·obtain ⟨h0,e,h1⟩:=hy.1 (by simpa using hb)
  rw [e]
  have h2:=hx.2.2 h0
  have h3:=hx.2.1
  refine T.bind (hφ.cons _ h1 (hf.lt (by show r.at_<x.2.at_+1;omega) h2.1 hr.2.2 om)) λz hz=>?_
  refine .some (a:=_) ⟨hz.1,by have:=hz.2.1;simp only [Kv] at this;simp only;omega,λhw=>?_⟩
  have hz':=hz.2.2 hw
  refine ⟨h2.1,.two (.inr rfl) h2.2.1 hz'.2.1,?_⟩
  have hz1:=hz'.2.2
  simp only [Kv] at hz1
  simp only [D8,Cy]
  omega
theorem AB8{r:AC}(hr:Rd ms r)(hf:Fu ms (n+1) r 16):T (DG φ n r) (EP ms r):=by
 unfold DG
 refine T.bind (hφ.sum r hr (hf.le om id om)) λx hx=>T.bind (L7 hx.1) λm _=>T.bind (Oi hM hx.1) λb _=>?_
 have go: ∀op:Int,8<=op/\op<=13->T (D1 φ x m op) (EP ms r):=by
  intro op hop
  have yes: ∀y:AC,x.2.why=0->y=Kv x.2->Rd ms y->T (EY φ x m op false y.marks y.at_ y.why y.where_ y.l.text y.l.funcs y.l.arity y.l.nest y.nest) (EP ms r):=by
   rintro y h0 rfl h1
   have h2:=hx.2.2 h0
   have h3:=hx.2.1
   refine T.cond (λh=>by cases h) λ_=>T.bind (hφ.sum (Kv x.2) h1 (hf.lt (by show r.at_<x.2.at_+1;omega) h2.1 hr.2.2 om)) λz hz=>?_
   refine .some (a:=_) ⟨hz.1,by have:=hz.2.1;simp only [Kv] at this;simp only;omega,λhw=>?_⟩
   have hz':=hz.2.2 hw
   refine ⟨h2.1,.two (.inl hop) h2.2.1 hz'.2.1,?_⟩
   have hz1:=hz'.2.2
   simp only [Kv] at hz1
   simp only [D8,Cy]
   omega
  unfold D1
  refine T.bind (Oc hlen hM hx.1) λy hy=>T.cond (λhb=>?_) λhb=>?_
  ·rw [hy.2 (by simpa using hb)]
   refine T.bind (Oc hlen hM hx.1) λy hy=>?_
   cases hb:y.1
   ·rw [hy.2 hb]
    exact .some hx
   ·obtain ⟨h0,e,h1⟩:=hy.1 hb
    exact yes _ h0 e (e▸h1)
  ·obtain ⟨h0,e,h1⟩:=hy.1 (by simpa using hb)
   exact yes _ h0 e (e▸h1)
 exact T.cond (λ_=>go 13 ⟨om,om⟩) λ_=>go 12 ⟨om,om⟩
theorem ACg{r:AC}(hr:Rd ms r)(hf:Fu ms (n+1) r 15):T (Db φ n r) (EP ms r):=by
 unfold Db
 refine T.bind (hφ.term r hr (hf.le om id om)) λx hx=>?_
 have key: ∀(k:Nat) (x:AE×AC),EP ms r x->1<=k->(x.2.why=0->(ms.length:Int) - x.2.at_<k)->T (CB φ k x.2.marks x.2.at_ x.2.why x.2.where_ x.2.l.text x.2.l.funcs x.2.l.arity x.2.l.nest x.2.nest x.1.op x.1.name x.1.tail x.1.type_ x.1.num x.1.args x.1.at_) (EP ms r):=by
  intro k
  induction k with
  |zero=>intro x _ _ _;omega
  |succ k ih=>
   intro x hx _ hk
   have go: ∀b,(b=true->x.2.why=0/\x.2.at_+1<ms.length)->T (EN φ x.2.marks x.2.at_ x.2.why x.2.where_ x.2.l.text x.2.l.funcs x.2.l.arity x.2.l.nest x.2.nest x.1.op x.1.name x.1.tail x.1.type_ x.1.num x.1.args x.1.at_ (CB φ k) b) (EP ms r):=by
    intro b hb
    unfold EN
    refine T.cond (λh=>?_) λ_=> .some (by rw [QW];exact hx)
    obtain ⟨h0,h1⟩:=hb h
    have h2:=hx.2.2 h0
    have h3:=hx.2.1
    have hk:=hk h0
    have hbr:Rd ms (Kv x.2):=⟨hx.1.1,by show 0<=x.2.at_+1;have:=hx.1.2.1;omega,h1⟩
    refine T.bind (L7 (r:=x.2) hx.1) λm _=>?_
    rw [Nn hlen hx.1]
    refine T.bind (hφ.term (Kv x.2) hbr (hf.lt (by show r.at_<x.2.at_+1;omega) h2.1 hr.2.2 om)) λz hz=>?_
    have hz1:=hz.2.1
    simp only [Kv] at hz1
    have fin: ∀op:Int,8<=op/\op<=13->T (EM x.1.op x.1.name x.1.tail x.1.type_ x.1.num x.1.args x.1.at_ (CB φ k) m z op) (EP ms r):=by
     intro op hop
     unfold EM
     rw [QW]
     refine ih (⟨op,[],[],0,(0,0),[x.1,z.1],m.at_⟩,z.2) ⟨hz.1,by simp only;omega,λhw=>?_⟩ ?_ λhw=>?_
     ·have hz':=hz.2.2 hw
      have hz2:=hz'.2.2
      simp only [Kv] at hz2
      exact ⟨h2.1,.two (.inl hop) h2.2.1 hz'.2.1,by simp only [D8,Cy];omega⟩
     ·have:=hx.1.2.2;omega
     ·simp only;omega
    exact T.cond (λ_=>fin 9 ⟨om,om⟩) λ_=>fin 8 ⟨om,om⟩
   show T (DR φ (CB φ k) x.2.marks x.2.at_ x.2.why x.2.where_ x.2.l.text x.2.l.funcs x.2.l.arity x.2.l.nest x.2.nest x.1.op x.1.name x.1.tail x.1.type_ x.1.num x.1.args x.1.at_) _
   unfold DR
   exact T.bind (Oi hM (r:=x.2) hx.1) λb hb=>T.cond (λh=>go true λ_=>hb h) λ_=>T.bind (Oi hM (r:=x.2) hx.1) λb hb=>go b hb
 refine key n x hx (by have:=hf.1;omega) λhw=>?_
 have h2:=hx.2.2 hw
 have h3:=hf.2 h2.1
 have:=hx.2.1
 have:=hr.2.2
 omega
theorem AB9{r:AC}(hr:Rd ms r)(hf:Fu ms (n+1) r 14):T (DH φ n r) (EP ms r):=by
 unfold DH
 refine T.bind (hφ.unit r hr (hf.le om id om)) λx hx=>?_
 have key: ∀(k:Nat) (x:AE×AC),EP ms r x->1<=k->(x.2.why=0->(ms.length:Int) - x.2.at_<k)->T (B0 φ k x.2.marks x.2.at_ x.2.why x.2.where_ x.2.l.text x.2.l.funcs x.2.l.arity x.2.l.nest x.2.nest x.1.op x.1.name x.1.tail x.1.type_ x.1.num x.1.args x.1.at_) (EP ms r):=by
  intro k
  induction k with
  |zero=>intro x _ _ _;omega
  |succ k ih=>
   intro x hx _ hk
   have go: ∀b,(b=true->x.2.why=0/\x.2.at_+1<ms.length)->T (D3 φ x.2.marks x.2.at_ x.2.why x.2.where_ x.2.l.text x.2.l.funcs x.2.l.arity x.2.l.nest x.2.nest x.1.op x.1.name x.1.tail x.1.type_ x.1.num x.1.args x.1.at_ (B0 φ k) b) (EP ms r):=by
    intro b hb
    unfold D3
    refine T.cond (λh=>?_) λ_=> .some (by rw [QW];exact hx)
    obtain ⟨h0,h1⟩:=hb h
    have h2:=hx.2.2 h0
    have h3:=hx.2.1
    have hk:=hk h0
    have hbr:Rd ms (Kv x.2):=⟨hx.1.1,by show 0<=x.2.at_+1;have:=hx.1.2.1;omega,h1⟩
    refine T.bind (L7 (r:=x.2) hx.1) λm _=>?_
    rw [Nn hlen hx.1]
    refine T.bind (hφ.unit (Kv x.2) hbr (hf.lt (by show r.at_<x.2.at_+1;omega) h2.1 hr.2.2 om)) λz hz=>?_
    have hz1:=hz.2.1
    simp only [Kv] at hz1
    have fin: ∀op:Int,8<=op/\op<=13->T (D2 x.1.op x.1.name x.1.tail x.1.type_ x.1.num x.1.args x.1.at_ (B0 φ k) m z op) (EP ms r):=by
     intro op hop
     unfold D2
     rw [QW]
     refine ih (⟨op,[],[],0,(0,0),[x.1,z.1],m.at_⟩,z.2) ⟨hz.1,by simp only;omega,λhw=>?_⟩ ?_ λhw=>?_
     ·have hz':=hz.2.2 hw
      have hz2:=hz'.2.2
      simp only [Kv] at hz2
      exact ⟨h2.1,.two (.inl hop) h2.2.1 hz'.2.1,by simp only [D8,Cy];omega⟩
     ·have:=hx.1.2.2;omega
     ·simp only;omega
    exact T.cond (λ_=>fin 11 ⟨om,om⟩) λ_=>fin 10 ⟨om,om⟩
   show T (DB φ (B0 φ k) x.2.marks x.2.at_ x.2.why x.2.where_ x.2.l.text x.2.l.funcs x.2.l.arity x.2.l.nest x.2.nest x.1.op x.1.name x.1.tail x.1.type_ x.1.num x.1.args x.1.at_) _
   unfold DB
   exact T.bind (Oi hM (r:=x.2) hx.1) λb hb=>T.cond (λh=>go true λ_=>hb h) λ_=>T.bind (Oi hM (r:=x.2) hx.1) λb hb=>go b hb
 refine key n x hx (by have:=hf.1;omega) λhw=>?_
 have h2:=hx.2.2 hw
 have h3:=hf.2 h2.1
 have:=hx.2.1
 have:=hr.2.2
 omega
omit hφ hM hlen in
theorem AAx(s:List UInt8):T (IF s) λo=>o=0∨(2<=o/\o<=5)∨(14<=o/\o<=17):=by
 unfold IF
 repeat (first|exact T.some om|refine T.cond (λ_=>?_) (λ_=>?_))
theorem ACA{r:AC}(hr:Rd ms r)(hf:Fu ms (n+1) r 13):T (DI φ n r) (EP ms r):=by
 unfold DI
 have h1:=hr.2.1
 have h2:=hr.2.2
 refine T.bind (L7 hr) λm hm=>T.cond (λh=> .some ⟨hr,by simp only;omega,λh'=>absurd h' (Ma h)⟩) λhw=>?_
 have hw:=KR hw
 have hm':=Wa hM hm
 refine T.cond (λhk=>?_) λhk2=>T.cond (λhk=>?_) λhk0=>?_
 ·rw [Nn hlen hr]
  have hk:=CV hk
  have h3:=hm'.1 (by rw [hk];decide)
  refine .some (a:=_) ⟨⟨hr.1,by show 0<=r.at_+1;omega,by show r.at_+1<_;omega⟩,by show r.at_<=r.at_+1;omega,λ_=>⟨hw,.mk _ (.inl ⟨by simp,by simp,rfl⟩) (λ_=>hm'.2 hk) (λh=>by simp at h) (λa h=>by simp at h) (.inl rfl),?_⟩⟩
  simp only [D8,Cy,Kv];omega
 ·rw [Nn hlen hr]
  have hk:=CV hk
  have h3:=hm'.1 (by rw [hk];decide)
  have hbr:Rd ms (Kv r):=⟨hr.1,by show 0<=r.at_+1;omega,by show r.at_+1<_;omega⟩
  refine T.bind (hφ.named (Kv r) m hbr hw (hf.lt (by show r.at_<r.at_+1;omega) hw h2 om)) λx hx=>?_
  have hx1:=hx.2.1
  simp only [Kv] at hx1
  refine .some (a:=_) ⟨hx.1,by simp only;omega,λh=>⟨hw,(hx.2.2 h).1,?_⟩⟩
  have:=(hx.2.2 h).2
  simp only [Kv] at this
  simp only;omega
 ·have hk2:=B9 hk2
  have hk0:=B9 hk0
  refine T.bind (Oc hlen hM hr) λx hx=>T.cond (λhb=>?_) λhb=>?_
  ·obtain ⟨_,e,hbr⟩:=hx.1 hb
   rw [e]
   refine T.bind (hφ.expr (Kv r) hbr (hf.lt (by show r.at_<r.at_+1;omega) hw h2 om)) λy hy=>T.bind (JP hlen hM hy.1) λr' hr'=>?_
   have hy1:=hy.2.1
   simp only [Kv] at hy1
   refine .some (a:=_) ⟨hr'.1,by have:=hr'.2.1;simp only;omega,λh=>?_⟩
   have h3:=hr'.2.2 h
   have h4:=hy.2.2 h3.1
   have h5:=h4.2.2
   simp only [Kv] at h5
   exact ⟨hw,h4.2.1,by simp only;omega⟩
  ·have bad:T (DS φ n m x true) (EP ms r):=by
    unfold DS
    refine T.cond (λ_=>?_) λh=>by cases h
    rw [hx.2 hb]
    exact T.bind (Ob hr (by decide)) λr' hr'=> .some ⟨hr'.1,by simp only;rw [hr'.2.1];omega,λh=>absurd h hr'.2.2⟩
   refine T.cond (λ_=>bad) λhk1=>?_
   have hk1:=KR hk1
   have h3:=hm'.1 (by rw [hk1];decide)
   have hbr:Rd ms (Kv r):=⟨hr.1,by show 0<=r.at_+1;omega,by show r.at_+1<_;omega⟩
   obtain ⟨o,ho,ho'⟩:=AAx m.text
   refine T.eq ho ?_
   cases hz:(o==0)
   ·have hz:=B9 hz
    unfold DS
    refine T.cond (λh=>by cases h) λ_=>T.eq ho ?_
    unfold FG
    rw [hx.2 hb,Nn hlen hr]
    have fin: ∀(r':AC) (ty:Int) (l:List AE),Rd ms r'->r.at_<=r'.at_->(r'.why=0->Ar o l.length/\(o=5->1<=ty/\ty<=3)/\(∀a∈l,WE a)/\(1+Cy l:Int)<=r'.at_ - r.at_)->
      T (GP o [] [] (0,0) m.at_ r'.marks r'.at_ r'.why r'.where_ r'.l.text r'.l.funcs r'.l.arity r'.l.nest r'.nest ty l) (EP ms r):=by
     intro r' ty l h1 h2 h3
     refine .some (a:=_) ⟨h1,h2,λh=>⟨hw,?_,?_⟩⟩
     ·obtain ⟨ha,ht,hl,_⟩:=h3 h
      exact .mk _ ha (λh=>by simp only at h;omega) (λh=>ht (by simp only at h;omega)) hl (.inr rfl)
     ·have:=(h3 h).2.2.2
      simp only [D8];omega
    have j4:14<=o/\o<=17->T (CZ φ (x.1,r) o [] [] 0 (0,0) m.at_ true) (EP ms r):=by
     intro ho2
     unfold CZ
     refine T.cond (λ_=>?_) λh=>by cases h
     rw [Nn hlen hr]
     refine T.bind (JP hlen hM hbr) λr1 hr1=>?_
     have e1:=hr1.2.1
     simp only [Kv] at e1
     refine T.bind (hφ.expr r1 hr1.1 (hf.lt om hw h2 om)) λy hy=>T.bind (JP hlen hM hy.1) λr2 hr2=>fin r2 0 [y.1] hr2.1 (by have:=hr2.2.1;have:=hy.2.1;omega) λh=>?_
     have h5:=hr2.2.2 h
     have h6:=hy.2.2 h5.1
     refine ⟨.inr (.inr (.inr (.inl ⟨ho2.1,ho2.2,rfl⟩))),λh=>om,λa ha=>by simp at ha;subst ha;exact h6.2.1,?_⟩
     have:=h6.2.2
     rw [QX];omega
    have ex:x=(x.1,r):=by rw [<-hx.2 hb]
    rw [ex]
    refine T.cond (λh5=>?_) λh5=>?_
    ·have h5:=CV h5
     have:=hf.1
     refine T.bind (Wb hlen hM om hbr) λy hy=>fin y.2 y.1 [] hy.1 (by have:=hy.2.1;simp only [Kv] at this;omega) λh=>?_
     have h6:=hy.2.2 h
     refine ⟨.inl ⟨om,om,rfl⟩,λ_=>⟨h6.2.2.1,h6.2.2.2⟩,λa h=>by simp at h,?_⟩
     have:=h6.2.1
     simp only [Kv] at this
     simp only [Cy];omega
    ·have h5:=B9 h5
     refine T.cond (λh=>by rw [h];exact j4 (by have:=CV h;omega)) λhn1=>T.cond (λh=>by rw [h];exact j4 (by have:=CV h;omega)) λhn2=>T.cond (λh=>by rw [h];exact j4 (by have:=CV h;omega)) λhn3=>?_
     cases h17:(o==17)
     ·have:=B9 hn1;have:=B9 hn2;have:=B9 hn3;have:=B9 h17
      unfold CZ
      refine T.cond (λh=>by cases h) λ_=>?_
      dsimp only
      rw [wr (x:=r.at_+1) om om]
      refine fin (Kv r) 0 [] hbr (by show r.at_<=r.at_+1;omega) λ_=>⟨.inl ⟨om,om,rfl⟩,λh=>om,λa h=>by simp at h,by simp only [Cy,Kv];omega⟩
     ·exact j4 (by have:=CV h17;omega)
   ·exact bad
theorem AAy{r:AC}{m:Ak}(hr:Rd ms r)(hw:r.why=0)(hf:Fu ms (n+1) r 12):T (Cu φ n r m) λx=>Rd ms x.2/\r.at_<=x.2.at_/\(x.2.why=0->WE x.1/\(D8 x.1:Int)<=x.2.at_ - r.at_+1):=by
 unfold Cu
 have h2:=hr.2.2
 have h1:=hr.2.1
 refine T.bind (Oc hlen hM hr) λx hx=>T.cond (λhb=>?_) λhb=>?_
 ·rw [hx.2 (by simpa using hb)]
  exact .some ⟨hr,by simp only;omega,λ_=>⟨.mk _ (.inl ⟨by simp,by simp,rfl⟩) (λh=>by simp at h) (λh=>by simp at h) (λa h=>by simp at h) (.inr rfl),by simp only [D8,Cy];omega⟩⟩
 ·obtain ⟨_,e,hbr⟩:=hx.1 (by simpa using hb)
  have key: ∀(k:Nat) (s:AC) (l:List AE),Rd ms s->r.at_+1<=s.at_->1<=k->(s.why=0->(ms.length:Int) - s.at_<k)->(s.why=0->(∀a∈l,WE a)/\(Cy l:Int)<=s.at_ - r.at_)->
    T (Bt φ m k s.marks s.at_ s.why s.where_ s.l.text s.l.funcs s.l.arity s.l.nest s.nest l) λx=>Rd ms x.2/\r.at_<=x.2.at_/\(x.2.why=0->WE x.1/\(D8 x.1:Int)<=x.2.at_ - r.at_+1):=by
   intro k
   induction k with
   |zero=>intro s l _ _ _ _;omega
   |succ k ih=>
    intro s l hs hat _ hk hl
    show T (Cr φ m (Bt φ m k) s.marks s.at_ s.why s.where_ s.l.text s.l.funcs s.l.arity s.l.nest s.nest l) _
    unfold Cr
    have fin:T (Di φ m s.marks s.at_ s.why s.where_ s.l.text s.l.funcs s.l.arity s.l.nest s.nest l (Bt φ m k) false) λx=>Rd ms x.2/\r.at_<=x.2.at_/\(x.2.why=0->WE x.1/\(D8 x.1:Int)<=x.2.at_ - r.at_+1):=by
     unfold Di
     refine T.cond (λh=>by cases h) λ_=>T.bind (JP hlen hM (r:=s) hs) λr' hr'=> .some ⟨hr'.1,by have:=hr'.2.1;simp only;omega,λh=>?_⟩
     have h3:=hr'.2.2 h
     have h4:=hl h3.1
     exact ⟨.mk _ (.inr (.inl rfl)) (λh=>by simp at h) (λh=>by simp at h) h4.1 (.inr rfl),by simp only [D8];omega⟩
    refine T.cond (λhsw=>?_) λ_=>fin
    have hsw:=CV hsw
    refine T.bind (Oi hM (r:=s) hs) λb _=>?_
    cases b
    ·have go: ∀s':AC,Rd ms s'->s.at_<=s'.at_->T (Dh φ l (Bt φ m k) s'.marks s'.at_ s'.why s'.where_ s'.l.text s'.l.funcs s'.l.arity s'.l.nest s'.nest) λx=>Rd ms x.2/\r.at_<=x.2.at_/\(x.2.why=0->WE x.1/\(D8 x.1:Int)<=x.2.at_ - r.at_+1):=by
      intro s' hs' hle
      unfold Dh
      have h5:=hs.2.2
      refine T.bind (hφ.expr s' hs' (hf.lt om hw h2 om)) λy hy=>?_
      have hy1:=hy.2.1
      have hll':=hl hsw
      have hlen':=NU l
      refine T.bind (HD om (by simp;omega)) λ_ _=>ih y.2 (l++[y.1]) hy.1 om ?_ (λh=>?_) λh=>?_
      ·have:=hk hsw;omega
      ·have:=hy.2.2 h;have:=NF y.1;have:=hk hsw;omega
      ·have h6:=hy.2.2 h
       refine ⟨λa ha=>?_,?_⟩
       ·rcases List.mem_append.1 ha with ha|ha
        ·exact hll'.1 a ha
        ·simp at ha;subst ha;exact h6.2.1
       ·rw [Kt,QX];omega
     refine T.cond (λ_=>T.cond (λ_=>T.bind (JP hlen hM (r:=s) hs) λs' hs'=>go s' hs'.1 hs'.2.1) λ_=>go s hs om) λh=>by cases h
    ·exact fin
  rw [e]
  refine key n (Kv r) [] hbr (by show r.at_+1<=r.at_+1;omega) (by have:=hf.1;omega) (λ_=>?_) λ_=>⟨λa h=>by simp at h,by simp only [Cy,Kv];omega⟩
  have:=hf.2 hw
  simp only [Kv];omega
theorem AAz{r:AC}{ws:List (List UInt8)}(hr:Rd ms r)(hl3:ws.length<=3)(hf:Fu ms (n+1) r 19):T (Ct φ n r ws) λx=>Rd ms x.2/\r.at_<=x.2.at_/\(x.2.why=0->(ws≠[]->r.why=0)/\x.1.length=ws.length/\(∀a∈x.1,WE a)/\(Cy x.1:Int)<=x.2.at_ - r.at_):=by
 unfold Ct
 have key: ∀(k i:Nat) (l:List AE) (s:AC),i<=ws.length->ws.length<i+k->l.length=i->Rd ms s->r.at_<=s.at_->(s.why=0->r.why=0/\(∀a∈l,WE a)/\(Cy l:Int)<=s.at_ - r.at_)->
   T (B3 φ ws k l (i:Int) s.marks s.at_ s.why s.where_ s.l.text s.l.funcs s.l.arity s.l.nest s.nest) λx=>Rd ms x.2/\r.at_<=x.2.at_/\(x.2.why=0->(ws≠[]->r.why=0)/\x.1.length=ws.length/\(∀a∈x.1,WE a)/\(Cy x.1:Int)<=x.2.at_ - r.at_):=by
  intro k
  induction k with
  |zero=>intro i l s _ _;omega
  |succ k ih=>
   intro i l s hi hk hli hs hat hw
   show T (Cq φ ws (B3 φ ws k) l i s.marks s.at_ s.why s.where_ s.l.text s.l.funcs s.l.arity s.l.nest s.nest) _
   unfold Cq
   refine T.cond (λh=>?_) λh=>?_
   ·have h:=CS h
    have go: ∀s':AC,Rd ms s'->s.at_<=s'.at_->(s'.why=0->s.why=0)->T (Dg φ l i (B3 φ ws k) s'.marks s'.at_ s'.why s'.where_ s'.l.text s'.l.funcs s'.l.arity s'.l.nest s'.nest) λx=>Rd ms x.2/\r.at_<=x.2.at_/\(x.2.why=0->(ws≠[]->r.why=0)/\x.1.length=ws.length/\(∀a∈x.1,WE a)/\(Cy x.1:Int)<=x.2.at_ - r.at_):=by
     intro s' hs' hle hw'
     unfold Dg
     refine T.bind (hφ.expr s' hs' (hf.le om (λh=>(hw (hw' h)).1) om)) λy hy=>T.bind (HD om (by simp;omega)) λ_ _=>?_
     rw [wr om om,show (i:Int)+1=((i+1:Nat):Int) by omega]
     refine ih (i+1) (l++[y.1]) y.2 om om (by simp;omega) hy.1 (by have:=hy.2.1;omega) λh=>?_
     have h1:=hy.2.2 h
     have h2:=hw (hw' h1.1)
     refine ⟨h2.1,λa ha=>?_,?_⟩
     ·rcases List.mem_append.1 ha with ha|ha
      ·exact h2.2.1 a ha
      ·simp at ha;subst ha;exact h1.2.1
     ·rw [Kt,QX];have:=h1.2.2;have:=h2.2.2;omega
    refine T.bind (Ft om h) λw _=>T.cond (λ_=>T.bind (JP hlen hM (r:=s) hs) λs' hs'=>go s' hs'.1 hs'.2.1 λh=>(hs'.2.2 h).1) λ_=>go s hs om id
   ·have h:=EE h
    exact .some ⟨hs,hat,λh'=>⟨λ_=>(hw h').1,by simp only;omega,(hw h').2.1,(hw h').2.2⟩⟩
 cases ws with
 |nil=>
  obtain ⟨n,rfl⟩: ∃m,n=m+1:=⟨n - 1,by have:=hf.1;omega⟩
  exact .some ⟨hr,by simp only;omega,λ_=>⟨λh=>absurd rfl h,rfl,λa h=>(by cases h),by simp [Cy]⟩⟩
 |cons w ws=>
  rcases Decidable.em (r.why=0) with h|h
  ·exact key n 0 [] r om (by have:=hf.1;omega) rfl hr om λ_=>⟨h,λa h=>(by cases h),by simp [Cy]⟩
  ·exact key n 0 [] r om (by have:=hf.1;omega) rfl hr om λh'=>absurd h' h
theorem Xx{r:AC}{e:AE}(he:e.num=(0,0))(hr:Rd ms r)(hf:Fu ms (n+1) r 19):T (CM φ n r e) λx=>Rd ms x.1/\r.at_<=x.1.at_/\(x.1.why=0->r.why=0/\WE x.2/\(D8 x.2:Int)<=x.1.at_ - r.at_+1):=by
 unfold CM
 refine T.bind (hφ.expr r hr (hf.le om id om)) λa ha=>T.bind (JP hlen hM ha.1) λr1 h1=>T.bind (JP hlen hM h1.1) λr2 h2=>T.bind (JP hlen hM h2.1) λr3 h3=>?_
 have a1:=ha.2.1;have b1:=h1.2.1;have b2:=h2.2.1;have b3:=h3.2.1
 refine T.bind (hφ.expr r3 h3.1 (hf.le om (λh=>(ha.2.2 (h1.2.2 (h2.2.2 (h3.2.2 h).1).1).1).1) om)) λb hb=>T.bind (JP hlen hM hb.1) λr4 h4=>T.bind (Q3 hlen hM h4.1) λx5 h5=>T.bind (JP hlen hM h5.1) λr6 h6=>T.bind (Q3 hlen hM h6.1) λx7 h7=>T.bind (JP hlen hM h7.1) λr8 h8=>?_
 have a2:=hb.2.1;have b4:=h4.2.1;have b5:=h5.2.1;have b6:=h6.2.1;have b7:=h7.2.1;have b8:=h8.2.1
 have back:r8.why=0->b.2.why=0:=λh=>(h4.2.2 (h5.2.2 (h6.2.2 (h7.2.2 (h8.2.2 h).1).1).1).1).1
 have back2:r3.why=0->a.2.why=0:=λh=>(h1.2.2 (h2.2.2 (h3.2.2 h).1).1).1
 refine T.bind (hφ.expr r8 h8.1 (hf.le om (λh=>(ha.2.2 (back2 (hb.2.2 (back h)).1)).1) om)) λc hc=>?_
 have a3:=hc.2.1
 refine .some (a:=_) ⟨hc.1,by simp only;omega,λh=>?_⟩
 have p3:=hc.2.2 h
 have p2:=hb.2.2 (back p3.1)
 have p1:=ha.2.2 (back2 p2.1)
 have e1:=p1.2.2;have e2:=p2.2.2;have e3:=p3.2.2
 refine ⟨p1.1,.mk _ (.inr (.inr (.inr (.inr (.inr (.inl ⟨by simp,by simp,rfl⟩)))))) (λh=>by simp at h) (λh=>by simp at h) (λx hx=>?_) (.inr he),?_⟩
 ·simp at hx
  rcases hx with rfl|rfl|rfl
  ·exact p1.2.1
  ·exact p2.2.1
  ·exact p3.2.1
 ·simp only [D8,Cy];omega
theorem ACB{r:AC}(hr:Rd ms r)(hf:Fu ms (n+1) r 18):T (DE φ n r) (EP ms r):=by
 unfold DE
 have hr1:=hr.2.1
 have hr2:=hr.2.2
 refine T.bind (L7 hr) λm hm=>?_
 have out: ∀(bd:Bool) (y:AC) (e:AE),Rd ms y->r.at_<=y.at_->(y.why=0->r.why=0/\WE e/\(D8 e:Int)<=y.at_ - r.at_)->
   T (FF bd y.marks y.at_ y.why y.where_ y.l.text y.l.funcs y.l.arity y.l.nest y.nest e.op e.name e.tail e.type_ e.num e.args e.at_) (EP ms r):=by
  intro bd y e hy hat hw
  unfold FF Hu
  rw [QW]
  exact T.cond (λ_=> .some ⟨hy,hat,hw⟩) λ_=> .some ⟨hy,hat,hw⟩
 have j7: ∀(bd:Bool) (y:AC) (op:Int),21<=op/\op<=22->Rd ms y->y.at_=r.at_->y.why=0->r.why=0->Rd ms (Kv y)->∀nn:Int,T (Dw φ n m bd y.marks y.at_ y.why y.where_ y.l.text y.l.funcs y.l.arity y.l.nest nn op) (EP ms r):=by
  intro bd y op hop hy hat hw hrw hby nn
  unfold Dw
  rw [wr (x:=y.at_+1) (by have:=hy.2.1;omega) (by have:=hy.2.2;omega)]
  have hby':Rd ms (AC.mk y.marks (y.at_+1) y.why y.where_ (Aj.mk y.l.text y.l.funcs y.l.arity y.l.nest) nn):=hby
  refine T.bind (Q3 hlen hM hby') λx hx=>?_
  have h1:=hf.1
  refine T.bind (Wb hlen hM om hx.1) λt ht=>?_
  have x1:=hx.2.1;have t1:=ht.2.1
  simp only at x1
  refine T.bind (hφ.parts t.2 _ ht.1 (by simp) (hf.lt om hrw hr2 om)) λl hl=>?_
  have l1:=hl.2.1
  refine out bd l.2 ⟨op,x.1.text,[],t.1,(0,0),l.1,m.at_⟩ hl.1 om λh=>?_
  have p:=hl.2.2 h
  have q:=ht.2.2 (p.1 (by simp))
  refine ⟨hrw,.mk _ (.inr (.inr (.inr (.inr (.inr (.inr ⟨hop.1,hop.2,p.2.1⟩)))))) (λh=>by simp only at h;omega) (λ_=>⟨q.2.2.1,q.2.2.2⟩) p.2.2.1 (.inr rfl),?_⟩
  have:=p.2.2.2
  simp only [D8];omega
 have j4: ∀(bd:Bool) (y:AC),Rd ms y->y.at_=r.at_->y.why=0->r.why=0->Rd ms (Kv y)->∀nn:Int,T (Dx φ n m bd y.marks y.at_ y.why y.where_ y.l.text y.l.funcs y.l.arity y.l.nest nn) (EP ms r):=by
  intro bd y hy hat hw hrw hby nn
  unfold Dx
  have hby':Rd ms (AC.mk y.marks (y.at_+1) y.why y.where_ (Aj.mk y.l.text y.l.funcs y.l.arity y.l.nest) nn):=hby
  refine T.cond (λ_=>?_) λ_=>T.cond (λ_=>?_) λ_=>T.cond (λ_=>j7 bd y 22 ⟨om,om⟩ hy hat hw hrw hby nn) λ_=>j7 bd y 21 ⟨om,om⟩ hy hat hw hrw hby nn
  ·rw [wr (x:=y.at_+1) (by have:=hy.2.1;omega) (by have:=hy.2.2;omega)]
   refine T.bind (hφ.parts _ _ hby' (by simp) (hf.lt (by show r.at_<y.at_+1;omega) hrw hr2 om)) λl hl=>?_
   have l1:=hl.2.1
   simp only at l1
   refine out bd l.2 ⟨19,[],[],0,(0,0),l.1,m.at_⟩ hl.1 om λh=>?_
   have p:=hl.2.2 h
   refine ⟨hrw,.mk _ (.inr (.inr (.inr (.inr (.inr (.inl ⟨by simp,by simp,p.2.1⟩)))))) (λh=>by simp at h) (λh=>by simp at h) p.2.2.1 (.inr rfl),?_⟩
   have:=p.2.2.2
   simp only at this
   simp only [D8];omega
  ·rw [wr (x:=y.at_+1) (by have:=hy.2.1;omega) (by have:=hy.2.2;omega)]
   refine T.bind (hφ.branches _ _ rfl hby' (hf.lt (by show r.at_<y.at_+1;omega) hrw hr2 om)) λl hl=>?_
   have l1:=hl.2.1
   simp only at l1
   refine out bd l.1 l.2 hl.1 om λh=>?_
   have p:=hl.2.2 h
   have:=p.2.2
   simp only at this
   exact ⟨hrw,p.2.1,om⟩
 have j2: ∀(bd:Bool) (y:AC),Rd ms y->y.at_=r.at_->(y.why=0->r.why=0)->(bd=true->y.why=0->Rd ms (Kv y))->T (Dz φ n m bd y.marks y.at_ y.why y.where_ y.l.text y.l.funcs y.l.arity y.l.nest y.nest) (EP ms r):=by
  intro bd y hy hat hw hb
  unfold Dz
  refine T.cond (λh=> .some ⟨hy,by simp only;omega,λh'=>absurd h' (Ma h)⟩) λh=>?_
  have h:=KR h
  have hrw:=hw h
  refine T.cond (λhbd=>?_) λhbd=>?_
  ·refine T.bind (Oi hM (r:=y) hy) λc hc=>?_
   unfold Dy
   refine T.cond (λ_=>?_) λhc'=>T.cond (λh'=>by rw [h'] at hbd;cases hbd) λ_=>?_
   ·refine T.bind (hφ.cons y hy (hf.le om (λ_=>hrw) om)) λz hz=> .some ⟨hz.1,by have:=hz.2.1;simp only;omega,λh=>?_⟩
    have:=hz.2.2 h
    exact ⟨hrw,this.2.1,by have:=this.2.2;simp only;omega⟩
   ·have hc1:=hc (by simpa using hc')
    exact j4 bd y hy hat h hrw ⟨hy.1,by show 0<=y.at_+1;omega,hc1.2⟩ y.nest
  ·have hbd:bd=true:=by simpa using hbd
   unfold Dy
   refine T.cond (λh=>by cases h) λ_=>T.cond (λ_=>j4 bd y hy hat h hrw (hb hbd h) _) λh'=>by rw [h'] at hbd;cases hbd
 have j8: ∀(bd c:Bool),(bd=true->r.why=0/\r.at_+1<ms.length)->T (D0 φ n r m bd c) (EP ms r):=by
  intro bd c hb
  unfold D0
  refine T.cond (λ_=>T.bind (Ob hr (by decide)) λy hy=>j2 bd y hy.1 hy.2.1 (λh=>absurd h hy.2.2) λ_ h=>absurd h hy.2.2) λ_=>j2 bd r hr rfl id λh _=>⟨hr.1,by show 0<=r.at_+1;omega,(hb h).2⟩
 have j1: ∀(bd:Bool),(bd=true->r.why=0/\r.at_+1<ms.length)->T (DQ φ n r m bd) (EP ms r):=by
  intro bd hb
  unfold DQ
  exact T.cond (λ_=>j8 bd _ hb) λ_=>j8 bd _ hb
 refine T.bind (Oi hM hr) λb hb=>T.cond (λh=>j1 true λ_=>hb h) λ_=>T.bind (Oi hM hr) λb hb=>T.cond (λh=>j1 true λ_=>hb h) λ_=>T.bind (Oi hM hr) λb hb=>j1 b hb
omit hφ in
theorem psp: ∀n,PSp ms n (AB.at n)
 |0=>⟨λr _ h=>absurd h.1 (by decide),λr _ h=>absurd h.1 (by decide),λr _ h=>absurd h.1 (by decide),λr _ h=>absurd h.1 (by decide),λr _ h=>absurd h.1 (by decide),λr _ h=>absurd h.1 (by decide),λr _ _ _ h=>absurd h.1 (by decide),λr _ _ _ h=>absurd h.1 (by decide),λr _ _ _ h=>absurd h.1 (by decide)⟩
 |n+1=>
  have hp:=psp n
  ⟨λ_ hr hf=>ACB hlen hM hp hr hf,λ_ hr hf=>AB7 hlen hM hp hr hf,λ_ hr hf=>AB8 hlen hM hp hr hf,λ_ hr hf=>ACg hlen hM hp hr hf,λ_ hr hf=>AB9 hlen hM hp hr hf,λ_ hr hf=>ACA hlen hM hp hr hf,
   λ_ _ hr hw hf=>AAy hlen hM hp hr hw hf,λ_ _ hr hl hf=>AAz hlen hM hp hr hl hf,λ_ _ he hr hf=>Xx hlen hM hp he hr hf⟩
end
end
end Fth
namespace Fth
open Go
structure WFn(f:AN):Prop where
 body:WE f.body
 size:D8 f.body<=1000000
 pars:f.params.length<=1000000
 typ:1<=f.type_/\f.type_<=3
 ptyp: ∀x∈f.params,1<=x.type_/\x.type_<=3
structure WP(p:AL):Prop where
 fns: ∀f∈p.funcs,WFn f
 len:p.funcs.length<=50000
structure WFt(f:AN):Prop where
 body:WE f.body
 size:D8 f.body<=900000
 pars:f.params.length<=50000
 typ:1<=f.type_/\f.type_<=3
 ptyp: ∀x∈f.params,1<=x.type_/\x.type_<=3
structure WPt(p:AL):Prop where
 fns: ∀f∈p.funcs,WFt f
 len:p.funcs.length<=49000
theorem WPt.wp{p:AL}(h:WPt p):WP p:=
 ⟨λf hf=>let g:=h.fns f hf;⟨g.body,Nat.le_trans g.size (by decide),Nat.le_trans g.pars (by decide),g.typ,g.ptyp⟩,Nat.le_trans h.len (by decide)⟩
section
variable{ms:List Ak}(hlen:ms.length<=40000)(hM:GM ms){N:Nat}(hN:1000000<=N)
include hlen hM hN
theorem ACC{r:AC}{k:Int}(hr:Rd ms r):T (C9 N r k) λx=>Rd ms x.2/\r.at_<=x.2.at_/\(x.2.why=0->r.why=0/\r.at_<x.2.at_/\WFt x.1):=by
 have hlen':ms.length<=1000000000:=om
 have hps:=psp hlen' hM N
 have fu: ∀r,Rd ms r->Fu ms N r 18:=λr hr=>⟨om,λ_=>by have:=hr.2.1;omega⟩
 have j1: ∀s:AC,Rd ms s->r.at_<=s.at_->(s.why=0->r.why=0)->T (ER N s.marks s.at_ s.why s.where_ s.l.text s.l.funcs s.l.arity s.l.nest s.nest) λx=>Rd ms x.2/\r.at_<=x.2.at_/\(x.2.why=0->r.why=0/\r.at_<x.2.at_/\WFt x.1):=by
  intro s hs hat hw
  unfold ER
  refine T.bind (Q3 hlen' hM (r:=s) hs) λx hx=>T.bind (JP hlen' hM hx.1) λs1 h1=>?_
  have x1:=hx.2.1;have a1:=h1.2.1
  have hw1:s1.why=0->r.why=0/\r.at_<s1.at_:=λh=>by
   have p:=h1.2.2 h
   have q:=hx.2.2 p.1
   exact ⟨hw q.1,by have:=q.2;omega⟩
  have key: ∀(k:Nat) (s:AC) (l:List AJ),Rd ms s->s1.at_<=s.at_->(s.why=0->s1.why=0)->1<=k->(s.why=0->(ms.length:Int) - s.at_<k)->(s.why=0->l.length<=s.at_)->(s.why=0->∀x∈l,1<=x.type_/\x.type_<=3)->
    T (Bq N x k s.marks s.at_ s.why s.where_ s.l.text s.l.funcs s.l.arity s.l.nest s.nest l) λx=>Rd ms x.2/\r.at_<=x.2.at_/\(x.2.why=0->r.why=0/\r.at_<x.2.at_/\WFt x.1):=by
   intro k
   induction k with
   |zero=>intro s l _ _ _ _ _;omega
   |succ k ih=>
    intro s l hs hat hw _ hk hl ht
    show T (DT N x (Bq N x k) s.marks s.at_ s.why s.where_ s.l.text s.l.funcs s.l.arity s.l.nest s.nest l) _
    unfold DT
    have fin:T (Do N x s.marks s.at_ s.why s.where_ s.l.text s.l.funcs s.l.arity s.l.nest s.nest l (Bq N x k) false) λx=>Rd ms x.2/\r.at_<=x.2.at_/\(x.2.why=0->r.why=0/\r.at_<x.2.at_/\WFt x.1):=by
     unfold Do
     refine T.cond (λh=>by cases h) λ_=>T.bind (JP hlen' hM (r:=s) hs) λs2 h2=>T.bind (JP hlen' hM h2.1) λs3 h3=>T.bind (Wb hlen' hM om h3.1) λt ht4=>T.bind (JP hlen' hM ht4.1) λs5 h5=>T.bind (hps.expr s5 h5.1 (fu _ h5.1)) λb hb=>T.bind (JP hlen' hM hb.1) λs6 h6=>?_
     have b2:=h2.2.1;have b3:=h3.2.1;have b4:=ht4.2.1;have b5:=h5.2.1;have b6:=hb.2.1;have b7:=h6.2.1
     refine .some (a:=_) ⟨h6.1,by simp only;omega,λh=>?_⟩
     have p1:=h6.2.2 h
     have p2:=hb.2.2 p1.1
     have p3:=h5.2.2 p2.1
     have p4:=ht4.2.2 p3.1
     have p5:=h3.2.2 p4.1
     have p6:=h2.2.2 p5.1
     have p7:=hw1 (hw p6.1)
     have sz:=p2.2.2
     have e1:=h6.1.2.2
     have e2:=hs.2.1
     have e3:=hl p6.1
     have e4:=hs.2.2
     have e5:=h5.1.2.1
     exact ⟨p7.1,by simp only;omega,⟨p2.2.1,by simp only;omega,by simp only;omega,p4.2.2,ht p6.1⟩⟩
    refine T.cond (λhsw=>?_) λ_=>fin
    have hsw:=CV hsw
    refine T.bind (Oi hM (r:=s) hs) λb _=>?_
    cases b
    ·have j5: ∀s':AC,Rd ms s'->s.at_<=s'.at_->T (EO N l (Bq N x k) s'.marks s'.at_ s'.why s'.where_ s'.l.text s'.l.funcs s'.l.arity s'.l.nest s'.nest) λx=>Rd ms x.2/\r.at_<=x.2.at_/\(x.2.why=0->r.why=0/\r.at_<x.2.at_/\WFt x.1):=by
      intro s' hs' hle
      unfold EO
      have hl':=hl hsw
      have hs2:=hs.2.2
      refine T.bind (Q3 hlen' hM (r:=s') hs') λy hy=>T.bind (Wb hlen' hM om hy.1) λt ht'=>T.bind (HD om (by simp;omega)) λ_ _=>?_
      have y1:=hy.2.1;have t1:=ht'.2.1
      refine ih t.2 (l++[_]) ht'.1 om (λ_=>hw hsw) ?_ (λh=>?_) (λh=>?_) λh z hz=>?_
      ·have:=hk hsw;omega
      ·have p:=ht'.2.2 h;have q:=hy.2.2 p.1;have:=hk hsw;omega
      ·have p:=ht'.2.2 h;rw [List.length_append,List.length_singleton];omega
      ·rcases List.mem_append.1 hz with hz|hz
       ·exact ht hsw z hz
       ·simp at hz;subst hz;exact (ht'.2.2 h).2.2
     have j6: ∀(s':AC) (c:Bool),Rd ms s'->s.at_<=s'.at_->T (Dn N l (Bq N x k) s'.marks s'.at_ s'.why s'.where_ s'.l.text s'.l.funcs s'.l.arity s'.l.nest s'.nest c) λx=>Rd ms x.2/\r.at_<=x.2.at_/\(x.2.why=0->r.why=0/\r.at_<x.2.at_/\WFt x.1):=by
      intro s' c hs' hle
      unfold Dn
      exact T.cond (λ_=>T.bind (Ob (r:=s') hs' (by decide)) λs2 h2=>j5 s2 h2.1 (by rw [h2.2.1];exact hle)) λ_=>j5 s' hs' hle
     have j4: ∀(s':AC),Rd ms s'->s.at_<=s'.at_->T (EQ N l (Bq N x k) s'.marks s'.at_ s'.why s'.where_ s'.l.text s'.l.funcs s'.l.arity s'.l.nest s'.nest) λx=>Rd ms x.2/\r.at_<=x.2.at_/\(x.2.why=0->r.why=0/\r.at_<x.2.at_/\WFt x.1):=by
      intro s' hs' hle
      unfold EQ
      exact T.cond (λ_=>T.bind (L7 (r:=s') hs') λm _=>T.cond (λ_=>j6 s' _ hs' hle) λ_=>j6 s' _ hs' hle) λ_=>j6 s' _ hs' hle
     unfold Do
     exact T.cond (λ_=>T.cond (λ_=>T.bind (JP hlen' hM (r:=s) hs) λs' h'=>j4 s' h'.1 h'.2.1) λ_=>j4 s hs om) λh=>by cases h
    ·exact fin
  refine key N s1 [] h1.1 om id om (λ_=>?_) (λ_=>?_) λ_ x h=>by cases h
  ·have:=h1.1.2.1;omega
  ·have:=h1.1.2.1;simp;omega
 have j7: ∀c,T (ES N r c) λx=>Rd ms x.2/\r.at_<=x.2.at_/\(x.2.why=0->r.why=0/\r.at_<x.2.at_/\WFt x.1):=by
  intro c
  unfold ES
  exact T.cond (λ_=>T.bind (Ob hr (by decide)) λs h=>j1 s h.1 (by rw [h.2.1];omega) λh'=>absurd h' h.2.2) λ_=>j1 r hr om id
 unfold C9
 exact T.bind (L7 hr) λm _=>T.cond (λ_=>j7 _) λ_=>j7 _
theorem Xy{r:AC}(hr:Rd ms r):T (CF N r) λx=>x.2.why=0->WPt x.1:=by
 have hlen':ms.length<=1000000000:=om
 have key: ∀(k:Nat) (s:AC) (l:List AN),Rd ms s->1<=k->(s.why=0->(ms.length:Int) - s.at_<k)->(s.why=0->l.length<=s.at_)->(s.why=0->∀f∈l,WFt f)->
   T (Bg N k s.marks s.at_ s.why s.where_ s.l.text s.l.funcs s.l.arity s.l.nest s.nest l) λx=>x.2.why=0->WPt x.1:=by
  intro k
  induction k with
  |zero=>intro s l _ _;omega
  |succ k ih=>
   intro s l hs _ hk hl hf
   show T (CT N (Bg N k) s.marks s.at_ s.why s.where_ s.l.text s.l.funcs s.l.arity s.l.nest s.nest l) _
   unfold CT
   have h2:=hs.2.2
   have fin:T (CN N s.marks s.at_ s.why s.where_ s.l.text s.l.funcs s.l.arity s.l.nest s.nest l (Bg N k) false) λx=>x.2.why=0->WPt x.1:=by
    refine .some (a:=_) λh=>⟨hf h,?_⟩
    have:=hl h;simp only;omega
   refine T.cond (λhw=>?_) λ_=>fin
   have hw:=CV hw
   have go:T (CN N s.marks s.at_ s.why s.where_ s.l.text s.l.funcs s.l.arity s.l.nest s.nest l (Bg N k) true) λx=>x.2.why=0->WPt x.1:=by
    unfold CN
    refine T.cond (λ_=>?_) λh=>by cases h
    have hl':=hl hw
    have hk':=hk hw
    refine T.bind (ACC hlen hM hN (r:=s) hs) λx hx=>T.bind (HD om (by simp;omega)) λ_ _=>ih x.2 (l++[x.1]) hx.1 om (λh=>?_) (λh=>?_) λh f hf'=>?_
    ·have:=(hx.2.2 h).2.1;omega
    ·have:=(hx.2.2 h).2.1;rw [List.length_append,List.length_singleton];omega
    ·rcases List.mem_append.1 hf' with hf'|hf'
     ·exact hf hw f hf'
     ·simp at hf';subst hf';exact (hx.2.2 h).2.2
   refine T.cond (λ_=>go) λ_=>T.bind (L7 (r:=s) hs) λm _=>?_
   generalize (m.kind != 4)=b
   cases b
   ·exact fin
   ·exact go
 unfold CF
 refine key N r [] hr om (λ_=>by have:=hr.2.1;omega) (λ_=>by have:=hr.2.1;simp;omega) λ_ f h=>by cases h
omit hM hN hlen
theorem Yy{N:Nat}(hN:1000000<=N)(t:List UInt8):T (Fy N t ⟨32768,32768,32768,32768⟩) λx=>WPt x.1:=by
 have wp0:WPt (AL.mk []):=⟨λf h=>(by cases h),Nat.zero_le _⟩
 unfold Fy
 refine T.cond (λ_=> .some wp0) λh=>?_
 have h:=EE h
 simp at h
 refine T.bind (Zm om om) λx hx=>T.cond (λ_=> .some wp0) λh2=>?_
 have h2:=EE h2
 have hx:=hx om
 have hr:Rd x.1 (AC.mk x.1 0 0 0 (Aj.mk (if (32768:Int)< (if (32768:Int)<0 then 0 else 32768) then 32768 else (if (32768:Int)<0 then 0 else 32768)) 32768 32768 32768) 0):=by
  refine ⟨rfl,by simp,?_⟩
  obtain ⟨⟨l,e,he,_⟩,_⟩:=hx
  rw [he];simp
 refine T.bind (Xy om hx.1 hN hr) λy hy=>T.cond (λh=> .some wp0) λh=> .some (hy (KR h))
end
end Fth
namespace Fth
open Go Ieee
def Wd(d:Datum)(n:Int):Prop:=∃(s:Bool) (k:Nat),d= .number s (n.natAbs*2^k) (-(k:Int))/\(n≠0->s=decide (n<0))
def Wp(d:Datum)(n:Int):Prop:=∃k:Nat,d= .number (decide (n<0)) (n.natAbs*2^k) (-(k:Int))
theorem Wp.wd{d:Datum}{n:Int}(h:Wp d n):Wd d n:=let ⟨k,h⟩:=h;⟨_,k,h,λ_=>rfl⟩
theorem Wd.wp{d:Datum}{n:Int}(h:Wd d n)(h0:n≠0):Wp d n:=by obtain ⟨s,k,h,hs⟩:=h;exact ⟨k,by rw [h,hs h0]⟩
def fw(s:Bool)(m:Nat):Nat:=double.word s ((m.log2+1022)*2^52+m*2^(52 - m.log2))
theorem L8{m:Nat}(h0:0<m)(h:m<2^53):m.log2<=52:=by
 have h1:=Nat.log2_self_le (n:=m) om
 have h2:2^m.log2<2^53:=Nat.lt_of_le_of_lt h1 h
 have:=(Nat.pow_lt_pow_iff_right (by decide:1<2)).1 h2
 omega
theorem ND{m:Nat}(h0:0<m)(h:m<2^53):2^52<=m*2^(52 - m.log2)/\m*2^(52 - m.log2)<2^53:=by
 have hl:=L8 h0 h
 have h1:=Nat.log2_self_le (n:=m) om
 have h2:=Nat.lt_log2_self (n:=m)
 have e1:2^m.log2*2^(52 - m.log2)=2^52:=by rw [<-Nat.pow_add];congr 1;omega
 have e2:2^(m.log2+1)*2^(52 - m.log2)=2^53:=by rw [<-Nat.pow_add];congr 1;omega
 constructor
 ·rw [<-e1];exact Nat.mul_le_mul_right _ h1
 ·rw [<-e2];exact Nat.mul_lt_mul_of_pos_right h2 (Nat.pow_pos (by decide))
theorem NV{m k:Nat}(h0:0<m):(m*2^k).log2=m.log2+k:=by
 have h1:=Nat.log2_self_le (n:=m) om
 have h2:=Nat.lt_log2_self (n:=m)
 rw [Nat.log2_eq_iff (Nat.ne_of_gt (Nat.mul_pos h0 (Nat.pow_pos (by decide))))]
 rw [Nat.pow_add,show m.log2+k+1=(m.log2+1)+k by omega,Nat.pow_add]
 exact ⟨Nat.mul_le_mul_right _ h1,Nat.mul_lt_mul_of_pos_right h2 (Nat.pow_pos (by decide))⟩
theorem XS{s:Bool}{q d:Nat}(h:d<=(q*2^d).log2+2):Toward.even.cut s (q*2^d) d=q:=by
 simp only [Toward.cut,Nat.min_eq_left h,Nat.one_shiftLeft]
 have hp:0<2^d:=Nat.pow_pos (by decide)
 have e1:q*2^d / 2^d=q:=Nat.mul_div_cancel _ hp
 have e2:q*2^d % 2^d=0:=Nat.mul_mod_left _ _
 rw [e1,e2]
 simp
theorem Vb{s:Bool}{m k:Nat}(h0:0<m)(h:m<2^53):double.nearest s (m*2^k) (-(k:Int))=fw s m:=by
 have hl:=L8 h0 h
 have hpos: ¬(m*2^k=0):=Nat.ne_of_gt (Nat.mul_pos h0 (Nat.pow_pos (by decide)))
 have hlast:max (-(k:Int)+((m*2^k).log2:Nat) - (double.fractionBits:Nat)) double.leastPlace=(m.log2:Int) - 52:=by
  rw [NV h0]
  simp only [double,Format.leastPlace]
  omega
 have hkept:Toward.even.cut s ((m*2^k) <<< (-(k:Int) - ((m.log2:Int) - 52)).toNat) (((m.log2:Int) - 52) - -(k:Int)).toNat=m*2^(52 - m.log2):=by
  rw [Nat.shiftLeft_eq]
  rcases Nat.le_total k (52 - m.log2) with hk|hk
  ·have e1:(-(k:Int) - ((m.log2:Int) - 52)).toNat=52 - m.log2 - k:=om
   have e2:(((m.log2:Int) - 52) - -(k:Int)).toNat=0:=om
   rw [e1,e2,Nat.mul_assoc,<-Nat.pow_add,show k+(52 - m.log2 - k)=52 - m.log2 by omega]
   have:=XS (s:=s) (q:=m*2^(52 - m.log2)) (d:=0) om
   simpa using this
  ·have e1:(-(k:Int) - ((m.log2:Int) - 52)).toNat=0:=om
   obtain ⟨d,hd⟩: ∃d,k=(52 - m.log2)+d:=⟨k - (52 - m.log2),om⟩
   have e2:(((m.log2:Int) - 52) - -(k:Int)).toNat=d:=om
   rw [e1,e2,Nat.pow_zero,Nat.mul_one,hd,Nat.pow_add,<-Nat.mul_assoc]
   refine XS ?_
   rw [Nat.mul_assoc,<-Nat.pow_add,NV h0]
   omega
 have hb:=ND h0 h
 simp only [Format.nearest,hpos,if_false,hlast,hkept,fw]
 congr 1
 have e3:((m.log2:Int) - 52 - double.leastPlace).toNat=m.log2+1022:=by simp only [double,Format.leastPlace];omega
 rw [e3]
 have e4:double.binade=2^52:=rfl
 have e5:double.infRung=2047*2^52:=by decide
 rw [e4,e5]
 omega
theorem US{s:Bool}{k:Int}:double.nearest s 0 k=double.word s 0:=by simp [Format.nearest]
theorem YI{s:Bool}{m:Nat}(h0:0<m)(h:m<2^53):double.read (fw s m)= .number s (m*2^(52 - m.log2)) (-((52 - m.log2:Nat):Int)):=by
 have hl:=L8 h0 h
 have hb:=ND h0 h
 have e0:double.signWeight=2^63:=by decide
 have e4:double.binade=2^52:=rfl
 have e5:double.infRung=2047*2^52:=by decide
 have e6:double.leastPlace= -1074:=by decide
 generalize hq:m*2^(52 - m.log2)=q at*
 generalize hL:m.log2=L at*
 have hw:fw s m=(if s then 2^63 else 0)+((L+1022)*2^52+q):=by
  simp only [fw,Format.word,hq,hL,e0];cases s<;>simp
 have hr:fw s m % 2^63=(L+1022)*2^52+q:=by rw [hw];cases s<;>simp<;>omega
 have hn:(fw s m / 2^63 % 2==1)=s:=by rw [hw];cases s<;>simp<;>omega
 simp only [Format.read,e0,hr,hn,e4,e5,e6]
 rw [if_neg om,if_pos om]
 congr 1
 ·omega
 ·omega
theorem Xz(n:Int):FloatKind.f64.nearest n=double.nearest (decide (n<0)) n.natAbs 0:=rfl
theorem LW{n:Int}(h0:n≠0)(h:n.natAbs<2^53):FloatKind.f64.nearest n=fw (decide (n<0)) n.natAbs:=by
 rw [Xz]
 have:=Vb (s:=decide (n<0)) (m:=n.natAbs) (k:=0) om h
 simpa using this
theorem P1:FloatKind.f64.nearest 0=0:=by decide
theorem NE{n:Int}(h:n.natAbs<2^53):Wp (double.read (FloatKind.f64.nearest n)) n:=by
 rcases Decidable.em (n=0) with h0|h0
 ·subst h0;exact ⟨1074,by rw [P1,Int.natAbs_zero,Nat.zero_mul];decide⟩
 ·rw [LW h0 h,YI om h];exact ⟨_,rfl⟩
theorem UT{d:Datum}{n:Int}(h:n.natAbs<2^53)(hd:Wp d n):double.write d=FloatKind.f64.nearest n:=by
 obtain ⟨k,rfl⟩:=hd
 rcases Decidable.em (n=0) with h0|h0
 ·subst h0;simp only [Int.natAbs_zero,Nat.zero_mul,Format.write];rw [US];decide
 ·rw [LW h0 h];exact Vb om h
def Fz(x:Nat)(n:Int):Prop:=x=FloatKind.f64.nearest n∨(n=0/\x=9223372036854775808)
theorem Fz.of{n:Int}:Fz (FloatKind.f64.nearest n) n:= .inl rfl
theorem Fz.eq{x:Nat}{n:Int}(h:Fz x n)(h0:n≠0):x=FloatKind.f64.nearest n:=h.resolve_right λh'=>h0 h'.1
theorem Fz.read{x:Nat}{n:Int}(hx:Fz x n)(h:n.natAbs<2^53):Wd (double.read x) n:=by
 rcases hx with rfl| ⟨rfl,rfl⟩
 ·exact (NE h).wd
 ·exact ⟨true,1074,by rw [Int.natAbs_zero,Nat.zero_mul];decide,λh=>absurd rfl h⟩
theorem Fz.write{d:Datum}{n:Int}(hd:Wd d n)(h:n.natAbs<2^53):Fz (double.write d) n:=by
 rcases Decidable.em (n=0) with h0|h0
 ·subst h0
  obtain ⟨s,k,rfl,_⟩:=hd
  simp only [Int.natAbs_zero,Nat.zero_mul,Format.write]
  rw [US]
  cases s
  ·exact .inl (by decide)
  ·exact .inr ⟨rfl,by decide⟩
 ·exact .inl (UT h (hd.wp h0))
theorem NG{s:Bool}{n:Int}{k:Nat}(hs:n≠0->s=decide (n<0))(up:Nat):signed s (n.natAbs*2^k) up=n*2^(k+up):=by
 rw [signed,Nat.shiftLeft_eq,Nat.mul_assoc,<-Nat.pow_add]
 rcases Decidable.em (n=0) with h0|h0
 ·subst h0;simp
 ·rw [hs h0]
  rcases Int.lt_or_le n 0 with h|h
  ·simp only [h,decide_true,if_true]
   rw [Int.natCast_mul,Int.natCast_pow,show ((n.natAbs:Nat):Int)= -n by omega,Int.neg_mul,Int.neg_neg];rfl
  ·have: ¬n<0:=om
   simp only [this,decide_false,if_false,Bool.false_eq_true]
   rw [Int.natCast_mul,Int.natCast_pow,show ((n.natAbs:Nat):Int)=n by omega];rfl
theorem natAbs_pow(n:Int)(k:Nat):(n*2^k).natAbs=n.natAbs*2^k:=by
 rw [Int.natAbs_mul,Int.natAbs_pow];rfl
theorem YJ{n:Int}{k:Nat}:n*2^k<0↔n<0:=by
 have hp:(0:Int)<2^k:=Int.pow_pos (by decide)
 constructor
 ·intro h
  rcases Int.lt_or_le n 0 with h'|h'
  ·exact h'
  ·have:=Int.mul_nonneg h' (Int.le_of_lt hp);omega
 ·intro h;exact Int.mul_neg_of_neg_of_pos h hp
theorem UU{n:Int}{k:Nat}:n*2^k=0↔n=0:=by
 have hp:(2:Int)^k≠0:=Int.ne_of_gt (Int.pow_pos (by decide))
 constructor
 ·intro h;rcases Int.mul_eq_zero.1 h with h|h
  ·exact h
  ·exact absurd h hp
 ·intro h;rw [h];simp
theorem X0{c d:Datum}{a b:Int}(hc:Wd c a)(hd:Wd d b): ∃e,c.sum d=some e/\Wd e (a+b)/\(Wp c a∨Wp d b->Wp e (a+b)):=by
 obtain ⟨s,k,rfl,hs⟩:=hc
 obtain ⟨t,j,rfl,ht⟩:=hd
 refine ⟨_,rfl,?_⟩
 have e1:min (-(k:Int)) (-(j:Int))= -((max k j:Nat):Int):=om
 rw [e1]
 have e2:((-(k:Int)) - -((max k j:Nat):Int)).toNat=max k j - k:=om
 have e3:((-(j:Int)) - -((max k j:Nat):Int)).toNat=max k j - j:=om
 rw [e2,e3,NG hs,NG ht,show k+(max k j - k)=max k j by omega,show j+(max k j - j)=max k j by omega,<-Int.add_mul]
 generalize max k j=M
 refine ⟨⟨_,M,by rw [natAbs_pow],λh=>?_⟩,λh=>⟨M,?_⟩⟩
 ·rw [if_neg (by rw [UU];exact h)];simp [YJ]
 ·rw [natAbs_pow]
  congr 1
  rcases Decidable.em (a+b=0) with h0|h0
  ·rw [if_pos (by rw [UU];exact h0),h0]
   simp only [Int.lt_irrefl,decide_false,Bool.and_eq_false_iff]
   rcases Decidable.em (a=0) with ha|ha
   ·have hb:b=0:=om
    rcases h with ⟨k',h⟩| ⟨j',h⟩
    ·injection h with h _ _;left;rw [h,ha];decide
    ·injection h with h _ _;right;rw [h,hb];decide
   ·rw [hs ha,ht om]
    simp only [decide_eq_false_iff_not];omega
  ·rw [if_neg (by rw [UU];exact h0)];simp [YJ]
theorem ACD{d:Datum}{b:Int}(hd:Wd d b):Wd d.opposite (-b):=by
 obtain ⟨t,j,rfl,ht⟩:=hd
 refine ⟨!t,j,by simp [Datum.opposite],λh=>?_⟩
 rw [ht om]
 rcases Int.lt_or_le b 0 with h'|h'
 ·simp [h'];omega
 ·have h1: ¬b<0:=om
  have h2: -b<0:=om
  simp [h1];omega
theorem AA0{c d:Datum}{a b:Int}(hc:Wd c a)(hd:Wd d b): ∃e,c.product d=some e/\Wd e (a*b):=by
 obtain ⟨s,k,rfl,hs⟩:=hc
 obtain ⟨t,j,rfl,ht⟩:=hd
 refine ⟨_,rfl,s^^t,k+j,?_,λh=>?_⟩
 ·congr 1
  ·rw [Int.natAbs_mul,Nat.pow_add];simp only [Nat.mul_assoc,Nat.mul_left_comm]
  ·omega
 ·have ha:a≠0:=λe=>h (by rw [e];simp)
  have hb:b≠0:=λe=>h (by rw [e];simp)
  rw [hs ha,ht hb]
  rcases Int.lt_or_le a 0 with h1|h1<;>rcases Int.lt_or_le b 0 with h2|h2
  ·have:=Int.mul_pos_of_neg_of_neg h1 h2
   simp [h1,h2];omega
  ·have:=Int.mul_neg_of_neg_of_pos h1 (show 0<b by omega)
   have h3: ¬b<0:=om
   simp [h1,h3,this]
  ·have:=Int.mul_neg_of_pos_of_neg (show 0<a by omega) h2
   have h3: ¬a<0:=om
   simp [h2,h3,this]
  ·have:=Int.mul_pos (show 0<a by omega) (show 0<b by omega)
   have h3: ¬a<0:=om
   have h4: ¬b<0:=om
   simp [h3,h4];omega
theorem Zn{c d:Datum}{a b:Int}(hc:Wd c a)(hd:Wd d b):c.order d=some (compare a b):=by
 obtain ⟨s,k,rfl,hs⟩:=hc
 obtain ⟨t,j,rfl,ht⟩:=hd
 simp only [Datum.order]
 have e1:min (-(k:Int)) (-(j:Int))= -((max k j:Nat):Int):=om
 rw [e1]
 have e2:((-(k:Int)) - -((max k j:Nat):Int)).toNat=max k j - k:=om
 have e3:((-(j:Int)) - -((max k j:Nat):Int)).toNat=max k j - j:=om
 rw [e2,e3,NG hs,NG ht,show k+(max k j - k)=max k j by omega,show j+(max k j - j)=max k j by omega]
 generalize max k j=M
 have hp:(0:Int)<2^M:=Int.pow_pos (by decide)
 congr 1
 simp only [compare,compareOfLessAndEq]
 have hlt:a*2^M<b*2^M↔a<b:=Int.mul_lt_mul_right hp
 have:a*2^M=b*2^M↔a=b:=by
  constructor
  ·intro h;exact Int.eq_of_mul_eq_mul_right (Int.ne_of_gt hp) h
  ·rintro rfl;rfl
 simp only [hlt,this]
section
variable{x y:Nat}{a b:Int}
theorem Fz.add(hx:Fz x a)(hy:Fz y b)(ha:a.natAbs<2^53)(hb:b.natAbs<2^53)(h:(a+b).natAbs<2^53): ∃z,FloatKind.f64.format.add x y=some z/\Fz z (a+b):=by
 obtain ⟨e,he,hw,_⟩:=X0 (hx.read ha) (hy.read hb)
 refine ⟨double.write e,?_,Fz.write hw h⟩
 show ((double.read x).sum (double.read y)).map double.write=_
 rw [he];rfl
theorem Fz.add0(hx:Fz x a)(ha:a.natAbs<2^53):FloatKind.f64.format.add x 0=some (FloatKind.f64.nearest a):=by
 obtain ⟨e,he,_,hw⟩:=X0 (hx.read ha) (NE (n:=0) (by decide)).wd
 have hw:=hw (.inr (NE (n:=0) (by decide)))
 rw [Int.add_zero] at hw
 show ((double.read x).sum (double.read 0)).map double.write=_
 rw [P1] at he
 rw [he]
 exact congrArg some (UT ha hw)
theorem Fz.sub(hx:Fz x a)(hy:Fz y b)(ha:a.natAbs<2^53)(hb:b.natAbs<2^53)(h:(a - b).natAbs<2^53): ∃z,FloatKind.f64.format.sub x y=some z/\Fz z (a - b):=by
 obtain ⟨e,he,hw,_⟩:=X0 (hx.read ha) (ACD (hy.read hb))
 refine ⟨double.write e,?_,Fz.write (by rwa [Int.sub_eq_add_neg]) h⟩
 show ((double.read x).sum (double.read y).opposite).map double.write=_
 rw [he];rfl
theorem Fz.mul(hx:Fz x a)(hy:Fz y b)(ha:a.natAbs<2^53)(hb:b.natAbs<2^53)(h:(a*b).natAbs<2^53): ∃z,FloatKind.f64.format.mul x y=some z/\Fz z (a*b):=by
 obtain ⟨e,he,hw⟩:=AA0 (hx.read ha) (hy.read hb)
 refine ⟨double.write e,?_,Fz.write hw h⟩
 show ((double.read x).product (double.read y)).map double.write=_
 rw [he];rfl
theorem Fz.order(hx:Fz x a)(hy:Fz y b)(ha:a.natAbs<2^53)(hb:b.natAbs<2^53):FloatKind.f64.format.order x y=some (compare a b):=
 Zn (hx.read ha) (hy.read hb)
theorem UV{a b:Int}:(compare a b= .lt)↔a<b:=by
 simp only [compare,compareOfLessAndEq];split<;>simp_all;split<;>simp_all
theorem Zo{a b:Int}:(compare a b= .eq)↔a=b:=by
 simp only [compare,compareOfLessAndEq];split
 ·simp;omega
 ·split<;>simp_all
theorem ACE{a b:Int}:(compare a b= .gt)↔b<a:=by
 simp only [compare,compareOfLessAndEq];split
 ·simp;omega
 ·split
  ·simp;omega
  ·simp;omega
theorem Fz.feq(hx:Fz x a)(hy:Fz y b)(ha:a.natAbs<2^53)(hb:b.natAbs<2^53):feq x y=decide (a=b):=by
 rw [Fth.feq,hx.order hy ha hb,Bool.eq_iff_iff];simp [Zo]
theorem Fz.fne(hx:Fz x a)(hy:Fz y b)(ha:a.natAbs<2^53)(hb:b.natAbs<2^53):fne x y= !decide (a=b):=by
 rw [Fth.fne,hx.order hy ha hb,Bool.eq_iff_iff];simp [Zo]
theorem Fz.flt(hx:Fz x a)(hy:Fz y b)(ha:a.natAbs<2^53)(hb:b.natAbs<2^53):flt_ x y=decide (a<b):=by
 rw [Fth.flt_,hx.order hy ha hb,Bool.eq_iff_iff];simp [UV]
theorem Fz.fle(hx:Fz x a)(hy:Fz y b)(ha:a.natAbs<2^53)(hb:b.natAbs<2^53):fle x y=decide (a<=b):=by
 rw [Fth.fle,hx.order hy ha hb,Bool.eq_iff_iff];simp [UV];omega
theorem Fz.fge(hx:Fz x a)(hy:Fz y b)(ha:a.natAbs<2^53)(hb:b.natAbs<2^53):fge x y=decide (b<=a):=by
 rw [Fth.fge,hx.order hy ha hb,Bool.eq_iff_iff];simp [ACE];omega
end
end Fth
namespace Fth
open Go Ieee
theorem UW{s:Bool}{m k:Nat}:Toward.zero.cut s (m*2^k) k=m:=by
 rcases Nat.eq_zero_or_pos m with h|h
 ·subst h;simp [Toward.cut]
 ·have hl:=NV (k:=k) h
  simp only [Toward.cut,Nat.one_shiftLeft,Nat.min_eq_left (show k<=(m*2^k).log2+2 by omega)]
  rw [Nat.mul_div_cancel _ (Nat.pow_pos (by decide))]
  simp
theorem XT{d:Datum}{n:Int}(h:Wd d n):Wd (d.integral .zero) n:=by
 obtain ⟨s,k,rfl,hs⟩:=h
 refine ⟨s,0,?_,hs⟩
 have e:(-(k:Int)).toNat=0:=om
 have e2:(- -(k:Int)).toNat=k:=om
 simp only [Datum.integral,e,e2,Nat.shiftLeft_zero,UW]
 simp
theorem XU{d:Datum}{n:Int}(h:Wp d n):Wp (d.integral .zero) n:=by
 obtain ⟨k,rfl⟩:=h
 refine ⟨0,?_⟩
 have e:(-(k:Int)).toNat=0:=om
 have e2:(- -(k:Int)).toNat=k:=om
 simp only [Datum.integral,e,e2,Nat.shiftLeft_zero,UW]
 simp
theorem Zp{d:Datum}{n:Int}(h:Wd d n):d.toInt .zero=some n:=by
 have h':=XT h
 obtain ⟨s,k,rfl,hs⟩:=h
 have e:(-(k:Int)).toNat=0:=om
 have e2:(- -(k:Int)).toNat=k:=om
 simp only [Datum.toInt,Datum.integral,e,e2,Nat.shiftLeft_zero,UW]
 have:=NG (k:=0) hs 0
 simpa using this
theorem Zq{n:Int}(h1: -16777216<=n)(h2:n<=16777216):n.natAbs<2^53:=om
theorem m24:(13938640846711685120:Nat)=FloatKind.f64.nearest (-16777216):=by decide
theorem p24:(4715268809856909312:Nat)=FloatKind.f64.nearest 16777216:=by decide
theorem z0:(0:Nat)=FloatKind.f64.nearest 0:=by decide
theorem fz0:Fz 0 0:= .inl z0
theorem AA1{n:Int}(h:n.natAbs<2^53):I1 (FloatKind.f64.nearest n)=some (FloatKind.f64.nearest n):=by
 have hr:=NE h
 have hi:=XU hr
 have hw:=UT h hi
 have:TE (FloatKind.f64.nearest n)=some (FloatKind.f64.nearest n):=by
  obtain ⟨k,hk⟩:=hr
  unfold TE
  have e:FloatKind.f64.decode (FloatKind.f64.nearest n)= .number (decide (n<0)) (n.natAbs*2^k) (-(k:Int)):=hk
  rw [e]
  rw [hk] at hw
  exact congrArg some hw
 unfold I1
 rw [this];rfl
theorem YK{n:Int}(h:n.natAbs<2^53):HI (FloatKind.f64.nearest n)=some (decide (-16777216<=n/\n<=16777216)):=by
 have hx:Fz (FloatKind.f64.nearest n) n:= .of
 unfold HI H4
 rw [m24,p24,hx.fge .of h (by decide),hx.fle .of h (by decide),AA1 h]
 simp only [BP]
 rw [hx.feq .of h h,hx.fne fz0 h (by decide)]
 cases h1:decide (-16777216<=n)
 ·have:=EE h1
  simp [this]
 ·cases h2:decide (n<=16777216)
  ·have:=EE h2;simp [this]
  ·have h1:=CS h1;have h2:=CS h2
   simp only [decide_true,cond_true,h1,h2,and_self]
   cases h0:decide (n=0)
   ·rfl
   ·have h0:=CS h0;subst h0;decide
theorem YL{a b:Int}(ha:a.natAbs<2^53)(hb:b.natAbs<2^53):CJ (FloatKind.f64.nearest a,FloatKind.f64.nearest b)=some (decide ((-16777216<=a/\a<=16777216)/\(-16777216<=b/\b<=16777216))):=by
 unfold CJ K8
 simp only [YK ha,YK hb,BP]
 cases h:decide (-16777216<=a/\a<=16777216)
 ·have:=EE h;simp [this]
 ·have:=CS h;simp [this]
def rn(n:Af):Cpl:=(FloatKind.f64.nearest n.re,FloatKind.f64.nearest n.im)
def Hl(n:Af):Prop:=(-16777216<=n.re/\n.re<=16777216)/\(-16777216<=n.im/\n.im<=16777216)
instance (n:Af):Decidable (Hl n):=inferInstanceAs (Decidable (_/\_))
theorem QY(z:Cpl):Gn z↔∃n,Hl n/\z=rn n:=by
 constructor
 ·rintro ⟨a,b,⟨h1,h2,h3⟩,h4,h5,h6⟩
  exact ⟨⟨a,b⟩,⟨⟨h2,h3⟩,h5,h6⟩,by rw [rn,<-h1,<-h4]⟩
 ·rintro ⟨n,h,rfl⟩
  exact ⟨n.re,n.im,⟨rfl,h.1.1,h.1.2⟩,rfl,h.2.1,h.2.2⟩
theorem Gn.of{n:Af}(h:Hl n):Gn (rn n):=(QY _).2 ⟨n,h,rfl⟩
theorem Hl.re{n:Af}(h:Hl n):n.re.natAbs<2^53:=Zq h.1.1 h.1.2
theorem Hl.im{n:Af}(h:Hl n):n.im.natAbs<2^53:=Zq h.2.1 h.2.2
theorem Km{n:Af}(h:Hl n):CJ (rn n)=some true:=by
 rw [rn,YL h.re h.im];congr 1;exact decide_eq_true h
theorem Zr{n:Int}(h1: -16777216<=n)(h2:n<=16777216):IG (FloatKind.f64.nearest n)=some (n,true):=by
 have h:=Zq h1 h2
 have hx:Fz (FloatKind.f64.nearest n) n:= .of
 have e1:f2i .i64 (FloatKind.f64.nearest n)=some n:=by
  unfold f2i
  have:(FloatKind.f64.decode (FloatKind.f64.nearest n)).toInt .zero=some n:=Zp (hx.read h)
  rw [this]
  simp only [IntKind.min,IntKind.max,IntKind.signed,IntKind.bits]
  rw [if_pos]
  simp only [if_true];omega
 unfold IG Hf
 rw [m24,p24,hx.fge .of h (by decide),hx.fle .of h (by decide),hx.feq fz0 h (by decide),e1]
 simp only [h1,h2,decide_true,cond_true,BP,Bool.not_true,cond_false]
 rw [hx.feq .of h h]
 cases h0:decide (n=0)
 ·simp
 ·have h0:=CS h0;subst h0;decide
theorem Vc{n:Af}(h:Hl n):E6 (rn n)=some (n,true):=by
 unfold E6
 simp only [rn,Zr h.1.1 h.1.2,Zr h.2.1 h.2.2,BP]
 rfl
theorem Zs{z:Cpl}(h:Gn z): ∃n,Hl n/\z=rn n/\E6 z=some (n,true):=by
 obtain ⟨n,hn,rfl⟩:=(QY z).1 h
 exact ⟨n,hn,rfl,Vc hn⟩
def inn(n:Af):Af×Int:=if Hl n then (n,0) else (⟨0,0⟩,50)
theorem YM(n:Af):Hr n=some (inn n):=by
 unfold Hr KS inn
 cases h1:decide (n.re< -16777216)
 ·cases h2:decide (n.re>16777216)
  ·cases h3:decide (n.im< -16777216)
   ·cases h4:decide (n.im>16777216)
    ·have:=EE h1;have:=EE h2;have:=EE h3;have:=EE h4
     rw [if_pos (show Hl n from ⟨⟨om,om⟩,om,om⟩)];rfl
    ·have:=CS h4;rw [if_neg (show¬Hl n by unfold Hl;omega)];rfl
   ·have:=CS h3;rw [if_neg (show¬Hl n by unfold Hl;omega)];rfl
  ·have:=CS h2;rw [if_neg (show¬Hl n by unfold Hl;omega)];rfl
 ·have:=CS h1;rw [if_neg (show¬Hl n by unfold Hl;omega)];rfl
theorem Pi{x y:Nat}{a b:Int}(hx:Fz x a)(hy:Fz y b)(ha:a.natAbs<2^53)(hb:b.natAbs<2^53):FL (x,y)=some (rn (inn ⟨a,b⟩).1,(inn ⟨a,b⟩).2):=by
 unfold FL
 simp only [hx.add0 ha,hy.add0 hb,BP,YL ha hb]
 unfold inn
 cases h:decide ((-16777216<=a/\a<=16777216)/\(-16777216<=b/\b<=16777216))
 ·have h:=EE h
  rw [if_neg (show¬Hl ⟨a,b⟩ from h)]
  simp only [Bool.not_false,cond_true]
  congr 1
 ·have h:=CS h
  rw [if_pos (show Hl ⟨a,b⟩ from h)]
  rfl
theorem Fz.re{a:Af}(_h:Hl a):Fz (rn a).1 a.re:= .inl rfl
theorem Fz.im{a:Af}(_h:Hl a):Fz (rn a).2 a.im:= .inl rfl
section
variable{a b:Af}(ha:Hl a)(hb:Hl b)
include ha hb
theorem ACF:KH (rn a) (rn b)=some (rn (inn ⟨a.re+b.re,a.im+b.im⟩).1,(inn ⟨a.re+b.re,a.im+b.im⟩).2):=by
 obtain ⟨⟨h1,h2⟩,h3,h4⟩:=ha
 obtain ⟨⟨h5,h6⟩,h7,h8⟩:=hb
 have ha:Hl a:=⟨⟨h1,h2⟩,h3,h4⟩
 have hb:Hl b:=⟨⟨h5,h6⟩,h7,h8⟩
 obtain ⟨z,hz,hz'⟩:=(Fz.re ha).add (Fz.re hb) ha.re hb.re om
 obtain ⟨y,hy,hy'⟩:=(Fz.im ha).add (Fz.im hb) ha.im hb.im om
 unfold KH MJ
 simp only [Km ha,Km hb,BP,Bool.not_true,cond_false,cadd,hz,hy,Pi hz' hy' om om]
theorem ACG:KI (rn a) (rn b)=some (rn (inn ⟨a.re - b.re,a.im - b.im⟩).1,(inn ⟨a.re - b.re,a.im - b.im⟩).2):=by
 obtain ⟨⟨h1,h2⟩,h3,h4⟩:=ha
 obtain ⟨⟨h5,h6⟩,h7,h8⟩:=hb
 have ha:Hl a:=⟨⟨h1,h2⟩,h3,h4⟩
 have hb:Hl b:=⟨⟨h5,h6⟩,h7,h8⟩
 obtain ⟨z,hz,hz'⟩:=(Fz.re ha).sub (Fz.re hb) ha.re hb.re om
 obtain ⟨y,hy,hy'⟩:=(Fz.im ha).sub (Fz.im hb) ha.im hb.im om
 unfold KI MK
 simp only [Km ha,Km hb,BP,Bool.not_true,cond_false,csub,hz,hy,Pi hz' hy' om om]
end
theorem Mb{x y:Int}{A B:Nat}(hx:x.natAbs<=A)(hy:y.natAbs<=B):(x*y).natAbs<=A*B:=by
 rw [Int.natAbs_mul];exact Nat.mul_le_mul hx hy
theorem Hl.reA{n:Af}(h:Hl n):n.re.natAbs<=16777216:=by have:=h.1;omega
theorem Hl.imA{n:Af}(h:Hl n):n.im.natAbs<=16777216:=by have:=h.2;omega
theorem Wc{x1 x2 y1 y2:Nat}{a1 a2 b1 b2:Int}(h1:Fz x1 a1)(h2:Fz x2 a2)(h3:Fz y1 b1)(h4:Fz y2 b2)(l1:a1.natAbs<=16777216)(l2:a2.natAbs<=16777216)(l3:b1.natAbs<=16777216)(l4:b2.natAbs<=16777216):
  ∃z1 z2,cmul (x1,x2) (y1,y2)=some (z1,z2)/\Fz z1 (a1*b1 - a2*b2)/\Fz z2 (a1*b2+a2*b1)/\(a1*b1 - a2*b2).natAbs<=562949953421312/\(a1*b2+a2*b1).natAbs<=562949953421312:=by
 have m1:=Mb l1 l3
 have m2:=Mb l2 l4
 have m3:=Mb l1 l4
 have m4:=Mb l2 l3
 obtain ⟨p,hp,hp'⟩:=h1.mul h3 om om om
 obtain ⟨q,hq,hq'⟩:=h2.mul h4 om om om
 obtain ⟨r,hr,hr'⟩:=hp'.sub hq' om om om
 obtain ⟨s,hs,hs'⟩:=h1.mul h4 om om om
 obtain ⟨t,ht,ht'⟩:=h2.mul h3 om om om
 obtain ⟨u,hu,hu'⟩:=hs'.add ht' om om om
 refine ⟨r,u,?_,hr',hu',om,om⟩
 simp only [cmul,hp,hq,hr,hs,ht,hu,BP]
section
variable{a b:Af}(ha:Hl a)(hb:Hl b)
include ha hb
theorem ACH:KJ (rn a) (rn b)=some (rn (inn ⟨a.re*b.re - a.im*b.im,a.re*b.im+a.im*b.re⟩).1,(inn ⟨a.re*b.re - a.im*b.im,a.re*b.im+a.im*b.re⟩).2):=by
 obtain ⟨z1,z2,hz,h1,h2,l1,l2⟩:=Wc (Fz.re ha) (Fz.im ha) (Fz.re hb) (Fz.im hb) ha.reA ha.imA hb.reA hb.imA
 unfold KJ ML
 have e:cmul (rn a) (rn b)=some (z1,z2):=hz
 simp only [Km ha,Km hb,BP,Bool.not_true,cond_false,e,Pi h1 h2 om om]
theorem AA2:I5 (rn a) (rn b)=some ((decide (a.re<b.re)||(decide (a.re=b.re)&&decide (a.im<b.im))),0):=by
 unfold I5 Lv
 simp only [Km ha,Km hb,BP,Bool.not_true,cond_false]
 rw [(Fz.re ha).fne (Fz.re hb) ha.re hb.re,(Fz.re ha).flt (Fz.re hb) ha.re hb.re,(Fz.im ha).flt (Fz.im hb) ha.im hb.im]
 cases h:decide (a.re=b.re)
 ·simp
 ·have h:=CS h
  simp [h]
theorem X1:ceq (rn a) (rn b)=(decide (a.re=b.re)&&decide (a.im=b.im)):=by
 rw [ceq,(Fz.re ha).feq (Fz.re hb) ha.re hb.re,(Fz.im ha).feq (Fz.im hb) ha.im hb.im]
end
theorem We{x:Nat}{a:Int}(h:Fz x a)(ha:a.natAbs<2^53):Fz (Op.negFloat .f64 x) (-a):=by
 have e: ∀y:Nat,Op.negFloat .f64 y=y ^^^ 9223372036854775808:=λy=>rfl
 rw [e]
 rcases Decidable.em (a=0) with h0|h0
 ·subst h0
  rcases h with rfl| ⟨_,rfl⟩
  ·exact .inr ⟨rfl,by decide⟩
  ·exact .inl (by decide)
 ·have h':=h.eq h0
  subst h'
  left
  rw [LW h0 ha,LW (n:= -a) om om,Int.natAbs_neg]
  have hb:=ND (m:=a.natAbs) om ha
  have hl:=L8 (m:=a.natAbs) om ha
  simp only [fw,Format.word]
  have hs:double.signWeight=2^63:=by decide
  rw [hs]
  generalize a.natAbs.log2=L at*
  generalize a.natAbs*2^(52 - L)=q at*
  have hr:(L+1022)*2^52+q<2^63:=om
  obtain ⟨r,hrr⟩: ∃r,(L+1022)*2^52+q=r:=⟨_,rfl⟩
  simp only [hrr] at hr ⊢
  have x1:r ^^^ 9223372036854775808=2^63+r:=by
   have h1:=Nat.two_pow_add_eq_or_of_lt hr 1
   rw [Nat.mul_one] at h1
   rw [h1,show (9223372036854775808:Nat)=2^63 by decide]
   refine Nat.eq_of_testBit_eq λi=>?_
   rw [Nat.testBit_xor,Nat.testBit_or,Nat.testBit_two_pow]
   by_cases hi:63=i
   ·subst hi;simp [Nat.testBit_lt_two_pow hr]
   ·simp [hi]
  have x2:(2^63+r) ^^^ 9223372036854775808=r:=by
   rw [<-x1,Nat.xor_assoc,Nat.xor_self,Nat.xor_zero]
  rcases Int.lt_or_le a 0 with hn|hn
  ·have h2: ¬(-a<0):=om
   simp only [hn,h2,decide_true,decide_false,if_true,Bool.false_eq_true,if_false]
   exact x2
  ·have h1: ¬(a<0):=om
   have h2: -a<0:=om
   simp only [h1,h2,decide_true,decide_false,if_true,Bool.false_eq_true,if_false]
   exact x1
theorem AA3{a:Af}(ha:Hl a):IL (rn a)=some (rn ⟨a.re,-a.im⟩,0):=by
 unfold IL
 have hn:Hl ⟨a.re,-a.im⟩:=by obtain ⟨⟨h1,h2⟩,h3,h4⟩:=ha;exact ⟨⟨h1,h2⟩,by simp only;omega,by simp only;omega⟩
 have:=Pi (Fz.re ha) (We (Fz.im ha) ha.im) ha.re (by have:=ha.im;omega)
 simp only [Km ha,BP,Bool.not_true,cond_false,this,inn,if_pos hn]
end Fth
namespace Fth
open Go Ieee
theorem wu{x:Int}(h1:0<=x)(h2:x<18446744073709551616):IntKind.u64.wrap x=x:=by
 simp only [IntKind.wrap,IntKind.signed,IntKind.bits]
 simp
 omega
theorem Pj{x:Nat}(h:x<2^64):(BitVec.ofInt 64 (x:Int)).toNat=x:=by
 rw [BitVec.toNat_ofInt];omega
theorem AA4{x y:Nat}(hx:x<2^64)(hy:y<2^64):FB .u64 (x:Int) (y:Int)=((x&&& y:Nat):Int):=by
 have hb:(x&&& y)<2^64:=Nat.lt_of_le_of_lt Nat.and_le_left hx
 have e:(BitVec.ofInt IntKind.u64.bits (x:Int)&&& BitVec.ofInt IntKind.u64.bits (y:Int)).toNat=x&&& y:=by
  show (BitVec.ofInt 64 (x:Int)&&& BitVec.ofInt 64 (y:Int)).toNat=_
  rw [BitVec.toNat_and,Pj hx,Pj hy]
 rw [FB,e,wu om om]
theorem Zt{x y:Nat}(hx:x<2^64)(hy:y<2^64):Md .u64 (x:Int) (y:Int)=((x|||y:Nat):Int):=by
 have hb:(x|||y)<2^64:=Nat.or_lt_two_pow hx hy
 have e:(BitVec.ofInt IntKind.u64.bits (x:Int)|||BitVec.ofInt IntKind.u64.bits (y:Int)).toNat=x|||y:=by
  show (BitVec.ofInt 64 (x:Int)|||BitVec.ofInt 64 (y:Int)).toNat=_
  rw [BitVec.toNat_or,Pj hx,Pj hy]
 rw [Md,e,wu om om]
theorem QZ{x y:Nat}(hx:x<2^64)(hy:y<2^64):C8 .u64 (x:Int) (y:Int)=((x&&& (2^64 - 1 - y):Nat):Int):=by
 have hb:(x&&& (2^64 - 1 - y))<2^64:=Nat.lt_of_le_of_lt Nat.and_le_left hx
 have e:(BitVec.ofInt IntKind.u64.bits (x:Int)&&& ~~~ BitVec.ofInt IntKind.u64.bits (y:Int)).toNat=x&&& (2^64 - 1 - y):=by
  show (BitVec.ofInt 64 (x:Int)&&& ~~~ BitVec.ofInt 64 (y:Int)).toNat=_
  rw [BitVec.toNat_and,BitVec.toNat_not,Pj hx,Pj hy]
 rw [C8,e,wu om om]
theorem AA5{x n:Nat}(h:x<2^n):x&&& 2^n=0:=by
 refine Nat.eq_of_testBit_eq λi=>?_
 rw [Nat.testBit_and,Nat.testBit_two_pow,Nat.zero_testBit]
 by_cases hi:n=i
 ·subst hi;simp [Nat.testBit_lt_two_pow h]
 ·simp [hi]
theorem YN{x:Nat}(h:x<2^63):IW x=some x:=by
 unfold IW
 have:=QZ (x:=x) (y:=9223372036854775808) om om
 rw [show ((9223372036854775808:Nat):Int)=9223372036854775808 from rfl] at this
 rw [this]
 have e:(2^64 - 1 - 9223372036854775808:Nat)=2^63 - 1:=by decide
 rw [e,Nat.and_two_pow_sub_one_eq_mod,Nat.mod_eq_of_lt h];rfl
theorem AA6{r:Nat}(h:r<2^63):IW (2^63+r)=some r:=by
 unfold IW
 have:=QZ (x:=2^63+r) (y:=9223372036854775808) om om
 rw [show ((9223372036854775808:Nat):Int)=9223372036854775808 from rfl] at this
 rw [this]
 have e:(2^64 - 1 - 9223372036854775808:Nat)=2^63 - 1:=by decide
 rw [e,Nat.and_two_pow_sub_one_eq_mod,Nat.add_mod_left,Nat.mod_eq_of_lt h];rfl
theorem YO{m:Nat}(h0:0<m)(h:m<2^53):fw false m<2^63/\fw false m / 2^52=m.log2+1023/\fw false m % 2^52=m*2^(52 - m.log2) - 2^52/\fw true m=2^63+fw false m:=by
 have hb:=ND h0 h
 have hl:=L8 h0 h
 have hs:double.signWeight=2^63:=by decide
 simp only [fw,Format.word,hs,if_true,Bool.false_eq_true,if_false]
 generalize m*2^(52 - m.log2)=q at*
 refine ⟨?_,?_,?_,trivial⟩<;>omega
theorem Zu{x:Nat}{a:Int}(h:Fz x a)(ha:a.natAbs<2^53):IW x=some (FloatKind.f64.nearest a.natAbs):=by
 rcases Decidable.em (a=0) with h0|h0
 ·subst h0
  rcases h with rfl| ⟨_,rfl⟩<;>decide
 ·rw [h.eq h0,LW h0 ha,LW (n:=(a.natAbs:Int)) om om]
  have hb:=YO (m:=a.natAbs) om ha
  have e:((a.natAbs:Int)).natAbs=a.natAbs:=rfl
  have e2:decide ((a.natAbs:Int)<0)=false:=by simp
  rw [e,e2]
  cases h1:decide (a<0)
  ·exact YN hb.1
  ·rw [hb.2.2.2];exact AA6 hb.1
theorem Yz{x:Nat}{a:Int}(h:Fz x a)(ha:a.natAbs<2^53):fgt x 9218868437227405311=false:=by
 obtain ⟨s,k,hk,hs⟩:=h.read ha
 have hm:double.read 9218868437227405311= .number false 9007199254740991 971:=by decide
 have:FloatKind.f64.format.order x 9218868437227405311=some (compare (signed s (a.natAbs*2^k) 0) (signed false 9007199254740991 (971+k))):=by
  show (double.read x).order (double.read 9218868437227405311)=_
  rw [hk,hm]
  simp only [Datum.order]
  have e1:min (-(k:Int)) 971= -(k:Int):=om
  rw [e1]
  have e2:(-(k:Int) - -(k:Int)).toNat=0:=om
  have e3:((971:Int) - -(k:Int)).toNat=971+k:=om
  rw [e2,e3]
 rw [fgt,this,NG hs]
 have h1:signed false 9007199254740991 (971+k)=9007199254740991*(2^971*2^k):=by
  simp only [signed,Bool.false_eq_true,if_false,Nat.shiftLeft_eq]
  rw [Int.natCast_mul,Int.natCast_pow,Int.pow_add];rfl
 rw [h1]
 have h2:a*2^(k+0)<9007199254740991*(2^971*2^k):=by
  rw [Nat.add_zero,<-Int.mul_assoc]
  have hp:(0:Int)<2^k:=Int.pow_pos (by decide)
  refine Int.mul_lt_mul_of_pos_right ?_ hp
  have hp2:(4:Int)<=2^971:=by
   have:(2:Int)^2<=2^971:=by exact_mod_cast Nat.pow_le_pow_right (by decide:0<2) (by omega:2<=971)
   simpa using this
  generalize (2:Int)^971=q at*
  omega
 have h3:=UV.2 h2
 rw [h3];rfl
theorem X2{x:Nat}{a:Int}(h:Fz x a)(ha:a.natAbs<2^53):HZ x 0=some false:=by
 unfold HZ Kp
 simp only [Zu h ha,BP]
 rw [Yz (a:=(a.natAbs:Int)) .of om];rfl
theorem Wf{x:Nat}{a:Int}(h:Fz x a)(ha:a.natAbs<2^53):Gu x=some false:=by
 unfold Gu
 rw [h.fne h ha ha];simp
theorem Zv{m:Nat}(h0:0<m)(h:m<2^53):flt_ (fw false m) 4503599627370496=false:=by
 have hl:=L8 h0 h
 have hb:=ND h0 h
 have hm:double.read 4503599627370496= .number false 4503599627370496 (-1074):=by decide
 have:FloatKind.f64.format.order (fw false m) 4503599627370496=some (compare (signed false (m*2^(52 - m.log2)) (1074 - (52 - m.log2))) (signed false 4503599627370496 0)):=by
  show (double.read (fw false m)).order (double.read 4503599627370496)=_
  rw [YI h0 h,hm]
  simp only [Datum.order]
  have e1:min (-((52 - m.log2:Nat):Int)) (-1074)= -1074:=om
  rw [e1]
  have e2:(-((52 - m.log2:Nat):Int) - -1074).toNat=1074 - (52 - m.log2):=om
  have e3:((-1074:Int) - -1074).toNat=0:=om
  rw [e2,e3]
 rw [flt_,this]
 simp only [signed,Bool.false_eq_true,if_false,Nat.shiftLeft_eq,Nat.pow_zero,Nat.mul_one]
 generalize m*2^(52 - m.log2)=q at*
 have hp:1<=2^(1074 - (52 - m.log2)):=Nat.pow_pos (by decide)
 generalize 2^(1074 - (52 - m.log2))=p at*
 have:q*1<=q*p:=Nat.mul_le_mul_left _ hp
 cases hc:compare ((q*p:Nat):Int) ((4503599627370496:Nat):Int)
 ·have:=UV.1 hc;omega
 ·rfl
 ·rfl
theorem Q4{m:Nat}(h0:0<m)(h:m<2^53):Em (fw false m)=some (fw false m,0):=by
 unfold Em
 rw [YN (YO h0 h).1,BP,Zv h0 h,cond_false]
theorem No{m:Nat}(h0:0<m)(h:m<2^53):FloatKind.f64.nearest (m:Int)=fw false m:=by
 have e:decide ((m:Int)<0)=false:=decide_eq_false om
 have:=LW (n:=(m:Int)) om om
 rw [e] at this
 exact this
theorem Q5{m:Nat}(h0:0<m)(h:m<2^53):Fz (fw false m) m:= .inl (No h0 h).symm
theorem ABd{f e:Nat}(hf:f<2^52):f|||e*2^52=e*2^52+f:=by
 have h:=Nat.two_pow_add_eq_or_of_lt hf e
 rw [Nat.mul_comm e,h,Nat.or_comm]
theorem YP{x:Nat}(h:x<2^63):C8 .u64 ((x:Nat):Int) 9218868437227405312=((x % 2^52:Nat):Int):=by
 have:=QZ (x:=x) (y:=9218868437227405312) om om
 rw [show ((9218868437227405312:Nat):Int)=9218868437227405312 from rfl] at this
 rw [this]
 have e:(2^64 - 1 - 9218868437227405312:Nat)=2^63||| (2^52 - 1):=by decide
 rw [e,Nat.and_or_distrib_left,AA5 h,Nat.zero_or,Nat.and_two_pow_sub_one_eq_mod]
theorem ABe(x:Nat):shr .u64 ((x:Nat):Int) 52=((x / 2^52:Nat):Int):=by
 have e:min (52:Int).toNat IntKind.u64.bits=52:=by decide
 rw [shr,e,Int.fdiv_eq_ediv_of_nonneg _ (by decide)];rfl
theorem ACu{x:Nat}(h:x<2^63):FB .u64 (shr .u64 ((x:Nat):Int) 52) 2047=((x / 2^52:Nat):Int):=by
 rw [ABe]
 have:=AA4 (x:=x / 2^52) (y:=2047) om om
 rw [show ((2047:Nat):Int)=2047 from rfl] at this
 rw [this]
 have e:(2047:Nat)=2^11 - 1:=by decide
 rw [e,Nat.and_two_pow_sub_one_eq_mod,Nat.mod_eq_of_lt om]
theorem ACI{m:Nat}(h0:0<m)(h:m<2^53):feq (fw false m) 0=false:=by
 rw [(Q5 h0 h).feq fz0 om (by decide)];simp;omega
theorem XV{m:Nat}(h0:0<m)(h:m<2^53):IM (fw false m)=some (1021*2^52+m*2^(52 - m.log2),(m.log2:Int)+1):=by
 have hl:=L8 h0 h
 have hb:=ND h0 h
 have hf:=YO h0 h
 have hz:=Q5 h0 h
 unfold IM Jt Lq
 rw [ACI h0 h,X2 hz om,Wf hz om,Q4 h0 h]
 have nn52:nn 52=some ():=rfl
 simp only [cond_false,BP,nn52,YP hf.1,ACu hf.1,hf.2.1]
 have hr:=Zt (x:=fw false m % 2^52) (y:=4602678819172646912) om om
 rw [show ((4602678819172646912:Nat):Int)=4602678819172646912 from rfl] at hr
 rw [hr,show (4602678819172646912:Nat)=1022*2^52 by decide,ABd om,hf.2.2.1]
 generalize m*2^(52 - m.log2)=q at*
 refine congrArg some (Prod.ext ?_ ?_)
 ·simp only [Int.toNat_natCast];omega
 ·dsimp only
  rw [wr (x:=((m.log2+1023:Nat):Int)) om om,wr (x:=((m.log2+1023:Nat):Int) - 1023) om om,wr (x:=((m.log2+1023:Nat):Int) - 1023+1) om om,wr om om];omega
theorem AA7{x:Nat}(h:x<2^11):FB .i64 (x:Int) 2047=(x:Int):=by
 have e:(BitVec.ofInt IntKind.i64.bits (x:Int)&&& BitVec.ofInt IntKind.i64.bits (2047:Int)).toNat=x:=by
  show (BitVec.ofInt 64 (x:Int)&&& BitVec.ofInt 64 ((2047:Nat):Int)).toNat=_
  rw [BitVec.toNat_and,Pj om,Pj om,show (2047:Nat)=2^11 - 1 by decide,Nat.and_two_pow_sub_one_eq_mod,Nat.mod_eq_of_lt h]
 rw [FB,e,wr om om]
theorem ACh{x:Nat}(h:x<2^11):shl .u64 (x:Int) 52=((x*2^52:Nat):Int):=by
 have e:min (52:Int).toNat IntKind.u64.bits=52:=by decide
 rw [shl,e,wu om om];omega
theorem X3{m k:Nat}(h0:0<m)(hb:2^52<=m*2^(52 - m.log2))(hl2:m.log2+k<=52):(m.log2+k+1023)*2^52+(m*2^(52 - m.log2) - 2^52)=fw false (m*2^k):=by
 have e7:m*2^k*2^(52 - (m.log2+k))=m*2^(52 - m.log2):=by
  rw [Nat.mul_assoc,<-Nat.pow_add];congr 2;omega
 simp only [fw,Format.word,NV h0,e7,Bool.false_eq_true,if_false]
 generalize m*2^(52 - m.log2)=q at*
 omega
theorem Zw{m k:Nat}(h0:0<m)(h:m*2^k<2^53):I4 (fw false m) (k:Int)=some (fw false (m*2^k)):=by
 have hm:m<2^53:=Nat.lt_of_le_of_lt (Nat.le_mul_of_pos_right m (Nat.pow_pos (by decide))) h
 have h1:0<m*2^k:=Nat.mul_pos h0 (Nat.pow_pos (by decide))
 have hl:=L8 h0 hm
 have hl2:=L8 h1 h
 rw [NV h0] at hl2
 have e3:IntKind.i64.wrap (IntKind.i64.wrap ((k:Int)+0)+IntKind.i64.wrap (((m.log2+1023:Nat):Int) - 1023))=(m.log2+k:Nat):=by
  rw [wr (x:=(k:Int)+0) om om,wr (x:=((m.log2+1023:Nat):Int) - 1023) om om,wr om om];omega
 have hL:m.log2+1023<2^11:=om
 have hL2:m.log2+k+1023<2^11:=om
 have e6a:0<=((m.log2+k+1023:Nat):Int):=om
 have e6b:((m.log2+k+1023:Nat):Int)<18446744073709551616:=om
 have e7:fw false m % 2^52<2^64:=Nat.lt_trans (Nat.mod_lt _ (Nat.pow_pos (by decide))) (by decide)
 have e8:(m.log2+k+1023)*2^52<2^64:=Nat.lt_of_lt_of_le (Nat.mul_lt_mul_of_pos_right hL2 (Nat.pow_pos (by decide))) (by decide)
 have d1:decide (((m.log2+k:Nat):Int)< -1075)=false:=by simp;omega
 have d2:decide (((m.log2+k:Nat):Int)>1023)=false:=by simp;omega
 have d3:decide (((m.log2+k:Nat):Int)< -1022)=false:=by simp;omega
 have e4:IntKind.i64.wrap (((m.log2+k:Nat):Int)+1023)=((m.log2+k+1023:Nat):Int):=by rw [wr om om];omega
 have hb:=ND h0 hm
 have hf:=YO h0 hm
 have hz:=Q5 h0 hm
 have nn52:nn 52=some ():=rfl
 unfold I4 Ju
 rw [ACI h0 hm,cond_false,X2 hz om,BP,cond_false,Wf hz om,BP]
 unfold Lt
 rw [cond_false,Q4 h0 hm,BP,nn52,BP]
 have e1:IntKind.i64.wrap (shr .u64 ((fw false m:Nat):Int) 52)=((fw false m / 2^52:Nat):Int):=by
  rw [ABe,hf.2.1,wr om om]
 have e2:FB .i64 ((fw false m / 2^52:Nat):Int) 2047=((m.log2+1023:Nat):Int):=by rw [hf.2.1];exact AA7 hL
 dsimp only
 rw [e1,e2,e3]
 rw [d1,cond_false,d2,cond_false,d3,cond_false]
 unfold Ls
 rw [nn52,BP]
 dsimp only
 have e5:=ACh hL2
 rw [e4,wu e6a e6b,e5,YP hf.1,Zt e7 e8,ABd (Nat.mod_lt _ (Nat.pow_pos (by decide))),hf.2.2.1,Int.toNat_natCast]
 have e6:=X3 h0 hb.1 hl2
 rw [e6]
 have one:Fz 4607182418800017408 1:= .inl (by decide)
 obtain ⟨z,hz1,hz2⟩:=one.mul (Q5 h1 h) (by decide) om om
 rw [Int.one_mul] at hz2
 rw [hz1,hz2.eq om,No h1 h];rfl
theorem AA8{p q:Nat}(hp:2^52<=p)(hp':p<2^53)(hq:2^52<=q)(hq':q<2^53):flt_ (1021*2^52+p) (1021*2^52+q)=decide (p<q):=by
 have rd: ∀p,2^52<=p->p<2^53->double.read (1021*2^52+p)= .number false p (-53):=by
  intro p h1 h2
  have e0:double.signWeight=2^63:=by decide
  have e4:double.binade=2^52:=rfl
  have e5:double.infRung=2047*2^52:=by decide
  have e6:double.leastPlace= -1074:=by decide
  have hr:(1021*2^52+p) % 2^63=1021*2^52+p:=om
  have hn:((1021*2^52+p) / 2^63 % 2==1)=false:=by simp;omega
  simp only [Format.read,e0,hr,hn,e4,e5,e6]
  rw [if_neg om,if_pos om]
  congr 1
  ·omega
  ·omega
 have:FloatKind.f64.format.order (1021*2^52+p) (1021*2^52+q)=some (compare (p:Int) (q:Int)):=by
  show (double.read _).order (double.read _)=_
  rw [rd p hp hp',rd q hq hq']
  simp [Datum.order,signed]
 rw [flt_,this,Bool.eq_iff_iff]
 simp [UV]
theorem Zx{n r j:Nat}{R:Nat->Option Nat}{B:Nat->Nat}(h0:0<n)(hj:n*2^j<=r)(hr:r<2^53){e1:Nat×Int}
  (ih: ∀w,Fz w ((r - n*2^j:Nat):Int)->∃z,R w=some (B z)/\Fz z (((r - n*2^j) % n:Nat):Int)) (hj53:j<53) (he:e1.2=(n.log2:Int)+1) (_hn:n.log2<=52):
  ∃z,LC (fw false n) e1 (fw false r) R ((n.log2:Int)+1+j)=some (B z)/\Fz z ((r % n:Nat):Int):=by
 have hpj:0<n*2^j:=Nat.mul_pos h0 (Nat.pow_pos (by decide))
 have hnj:n*2^j<2^53:=Nat.lt_of_le_of_lt hj hr
 have hr0:0<r:=Nat.lt_of_lt_of_le hpj hj
 have e:IntKind.i64.wrap ((n.log2:Int)+1+j - e1.2)=(j:Int):=by rw [he,wr om om];omega
 have e2:((r:Int) - ((n*2^j:Nat):Int))=((r - n*2^j:Nat):Int):=om
 have k1:(r:Int).natAbs<2^53:=hr
 have k2:((n*2^j:Nat):Int).natAbs<2^53:=hnj
 have k3:((r:Int) - ((n*2^j:Nat):Int)).natAbs<2^53:=by rw [e2];exact Nat.lt_of_le_of_lt (Nat.sub_le _ _) hr
 have hm:(r - n*2^j) % n=r % n:=by
  conv=>rhs;rw [<-Nat.sub_add_cancel hj]
  rw [Nat.add_mul_mod_self_left]
 unfold LC
 rw [e,Zw h0 hnj,BP]
 obtain ⟨z,hz1,hz2⟩:=(Q5 hr0 hr).sub (Q5 hpj hnj) k1 k2 k3
 rw [hz1,BP]
 rw [e2] at hz2
 obtain ⟨z',h1,h2⟩:=ih z hz2
 rw [hm] at h2
 exact ⟨z',h1,h2⟩
theorem X4{n r:Nat}(hn:n.log2<=52)(hr:r.log2<=52)(hle:n.log2<=r.log2)(hq:n*2^(52 - n.log2)<=r*2^(52 - r.log2)):n*2^(r.log2 - n.log2)<=r:=by
 have h1:n*2^(r.log2 - n.log2)*2^(52 - r.log2)=n*2^(52 - n.log2):=by
  rw [Nat.mul_assoc,<-Nat.pow_add];congr 2;omega
 have h2:n*2^(r.log2 - n.log2)*2^(52 - r.log2)<=r*2^(52 - r.log2):=by rw [h1];exact hq
 exact Nat.le_of_mul_le_mul_right h2 (Nat.pow_pos (by decide))
theorem X5{n r:Nat}(hr0:0<r)(hlt:n.log2<r.log2):n*2^(r.log2 - n.log2 - 1)<=r:=by
 have h1:n*2^(r.log2 - n.log2 - 1)<2^(n.log2+1)*2^(r.log2 - n.log2 - 1):=Nat.mul_lt_mul_of_pos_right Nat.lt_log2_self (Nat.pow_pos (by decide))
 rw [<-Nat.pow_add,show n.log2+1+(r.log2 - n.log2 - 1)=r.log2 by omega] at h1
 exact Nat.le_trans (Nat.le_of_lt h1) (Nat.log2_self_le om)
theorem Y0{n r:Nat}(h0:0<n)(h:n<=r):n.log2<=r.log2:=by
 have h1:=Nat.log2_self_le (n:=n) om
 have h2:=Nat.lt_log2_self (n:=r)
 have h3:2^n.log2<2^(r.log2+1):=om
 have:=(Nat.pow_lt_pow_iff_right (by decide:1<2)).1 h3
 omega
theorem XW{x n:Nat}(h0:0<n)(hlt:n<2^53): ∀(k w r:Nat),Fz w (r:Int)->r<2^53->r<k->
  ∃z,KT x (fw false n) (1021*2^52+n*2^(52 - n.log2),(n.log2:Int)+1) k w=some (bif flt_ x 0 then Op.negFloat .f64 z else z)/\Fz z ((r % n:Nat):Int):=by
 intro k
 have bn:=ND h0 hlt
 have ln:=L8 h0 hlt
 have lnI:(n:Int).natAbs<2^53:=hlt
 obtain ⟨c,hc0⟩: ∃c:Nat×Int,c=(1021*2^52+n*2^(52 - n.log2),(n.log2:Int)+1):=⟨_,rfl⟩
 rw [<-hc0]
 have c1:c.1=1021*2^52+n*2^(52 - n.log2):=by rw [hc0]
 have c2:c.2=(n.log2:Int)+1:=by rw [hc0]
 clear hc0
 induction k with
 |zero=>intro w r _ _ h;exact absurd h (Nat.not_lt_zero _)
 |succ k ih=>
  intro w r hw hr hk
  have lrI:(r:Int).natAbs<2^53:=hr
  show∃z,MN x (fw false n) c (KT x (fw false n) c k) w=some _/\_
  unfold MN
  rw [hw.fge (Q5 h0 hlt) lrI lnI]
  cases hc:decide ((n:Int)<=(r:Int))
  ·have hc:=EE hc
   refine ⟨w,?_,by rw [Nat.mod_eq_of_lt om];exact hw⟩
   rw [cond_false]
   cases flt_ x 0<;>rfl
  ·have hc:n<=r:=by have:=CS hc;omega
   have hr0:0<r:=Nat.lt_of_lt_of_le h0 hc
   have hwr:w=fw false r:=by rw [hw.eq om,No hr0 hr]
   subst hwr
   have br:=ND hr0 hr
   have lr:=L8 hr0 hr
   have hLe:=Y0 h0 hc
   rw [cond_true,XV hr0 hr,BP]
   dsimp only
   rw [c1,AA8 br.1 br.2 bn.1 bn.2]
   have step: ∀j:Nat,n*2^j<=r->j<53->∃z,LC (fw false n) c (fw false r) (KT x (fw false n) c k) ((n.log2:Int)+1+j)=some (bif flt_ x 0 then Op.negFloat .f64 z else z)/\Fz z ((r % n:Nat):Int):=by
    intro j hj hj53
    have hpj:0<n*2^j:=Nat.mul_pos h0 (Nat.pow_pos (by decide))
    exact Zx h0 hj hr (λw hw=>ih w _ hw (Nat.lt_of_le_of_lt (Nat.sub_le _ _) hr) om) hj53 c2 ln
   cases hq:decide (r*2^(52 - r.log2)<n*2^(52 - n.log2))
   ·have hq:=EE hq
    obtain ⟨z,h1,h2⟩:=step _ (X4 ln lr hLe (Nat.le_of_not_lt hq)) om
    refine ⟨z,?_,h2⟩
    have e:(r.log2:Int)+1=(n.log2:Int)+1+((r.log2 - n.log2:Nat):Int):=om
    rw [cond_false,e]
    exact h1
   ·have hq:=CS hq
    have hLt:n.log2<r.log2:=by
     rcases Nat.lt_or_ge n.log2 r.log2 with h|h
     ·exact h
     ·have e:n.log2=r.log2:=Nat.le_antisymm hLe h
      rw [e] at hq
      exact absurd (Nat.lt_of_mul_lt_mul_right hq) (Nat.not_lt.2 hc)
    obtain ⟨z,h1,h2⟩:=step _ (X5 hr0 hLt) om
    refine ⟨z,?_,h2⟩
    have e:IntKind.i64.wrap ((r.log2:Int)+1 - 1)=(n.log2:Int)+1+((r.log2 - n.log2 - 1:Nat):Int):=by rw [wr om om];omega
    rw [cond_true,e]
    exact h1
theorem Zy{N x y:Nat}{a n:Int}(hN:2^54<=N)(hx:Fz x a)(hy:Fz y n)(ha:a.natAbs<2^53)(hn0:0<n)(hn:n<2^53): ∃z,Kb N x y=some z/\Fz z (a.tmod n):=by
 obtain ⟨n,rfl⟩: ∃m:Nat,n=m:=⟨n.toNat,om⟩
 have h0:0<n:=om
 have hlt:n<2^53:=om
 have lnI:(n:Int).natAbs<2^53:=hlt
 have h254: ∀q:Nat,q<2^53->q<N:=λq h=>om
 clear hN hn hn0
 have ey:=No h0 hlt
 have hyy:y=fw false n:=by rw [hy.eq om,ey]
 subst hyy
 have eabs:=Zu (Q5 h0 hlt) lnI
 rw [show ((n:Int).natAbs:Int)=(n:Int) from rfl,ey] at eabs
 have nz0:(0:Int).natAbs<2^53:=by decide
 unfold Kb Lu
 rw [ACI h0 hlt,cond_false,X2 hx ha,BP,cond_false,Wf hx ha,BP,cond_false,Wf (Q5 h0 hlt) lnI,BP]
 unfold LD
 rw [cond_false,eabs,BP,XV h0 hlt,BP,hx.flt fz0 ha nz0]
 cases hs:decide (a<0)
 ·have hs':=EE hs
  have ea:((a.toNat:Nat):Int)=a:=om
  have hxa:Fz x ((a.toNat:Nat):Int):=by rw [ea];exact hx
  have la:a.toNat<2^53:=om
  obtain ⟨z,h1,h2⟩:=XW (x:=x) h0 hlt N x a.toNat hxa la (h254 _ la)
  rw [hx.flt fz0 ha nz0,hs] at h1
  refine ⟨z,?_,?_⟩
  ·rw [cond_false]
   unfold MC
   rw [h1];rfl
  ·have e:((a.toNat % n:Nat):Int)=a.tmod n:=by rw [Int.tmod_eq_emod_of_nonneg om,Int.natCast_emod,ea]
   rw [e] at h2;exact h2
 ·have hs':=CS hs
  have ea:((a.natAbs:Nat):Int)= -a:=om
  have hxa:Fz (Op.negFloat .f64 x) ((a.natAbs:Nat):Int):=by rw [ea];exact We hx ha
  obtain ⟨z,h1,h2⟩:=XW (x:=x) h0 hlt N (Op.negFloat .f64 x) a.natAbs hxa ha (h254 _ ha)
  rw [hx.flt fz0 ha nz0,hs] at h1
  have hm:(((a.natAbs % n:Nat):Int)).natAbs<2^53:=Nat.lt_of_le_of_lt (Nat.mod_le _ _) ha
  refine ⟨Op.negFloat .f64 z,?_,?_⟩
  ·rw [cond_true]
   unfold MC
   rw [h1];rfl
  ·have h3:=We h2 hm
   have e: -((a.natAbs % n:Nat):Int)=a.tmod n:=by
    rw [show a= -(a.natAbs:Int) by omega,Int.neg_tmod,Int.tmod_eq_emod_of_nonneg om,Int.natCast_emod,Int.natAbs_neg]
    rfl
   rw [e] at h3;exact h3
theorem Zz{x y:Nat}{a n c:Int}(hx:Fz x a)(hy:Fz y n)(ha:a.natAbs<2^53)(hn0:0<n)(hn:n<2^53)(hc:a=c*n): ∃z,FloatKind.f64.format.div x y=some z/\Fz z c:=by
 obtain ⟨s,k,hk,hs⟩:=hx.read ha
 obtain ⟨t,j,hj,ht⟩:=hy.read (show n.natAbs<2^53 by omega)
 have ht':t=false:=by rw [ht om];simp;omega
 subst ht'
 have hcl:c.natAbs<2^53:=by
  have h1:a.natAbs=c.natAbs*n.natAbs:=by rw [hc,Int.natAbs_mul]
  have h2:c.natAbs*1<=c.natAbs*n.natAbs:=Nat.mul_le_mul_left _ om
  omega
 have main: ∃e,(double.read x).quotient (double.fractionBits+2) (double.read y)=some e/\Wd e c:=by
  rw [hk,hj]
  simp only [Datum.quotient]
  have hp:0<n.natAbs*2^j:=Nat.mul_pos om (Nat.pow_pos (by decide))
  rw [if_neg om]
  have hlog:j<=k+(double.fractionBits+2+(n.natAbs*2^j).log2 - (a.natAbs*2^k).log2):=by
   have e1:double.fractionBits+2=54:=rfl
   rw [e1,NV om]
   rcases Nat.eq_zero_or_pos a.natAbs with h|h
   ·rw [h];simp;omega
   ·have:=L8 h ha
    rw [NV h];omega
  generalize double.fractionBits+2+(n.natAbs*2^j).log2 - (a.natAbs*2^k).log2=more at*
  have e2:(a.natAbs*2^k) <<< more=c.natAbs*2^(k+more - j)*(n.natAbs*2^j):=by
   rw [Nat.shiftLeft_eq,hc,Int.natAbs_mul]
   have:2^k*2^more=2^(k+more - j)*2^j:=by rw [<-Nat.pow_add,<-Nat.pow_add];congr 1;omega
   calc c.natAbs*n.natAbs*2^k*2^more=c.natAbs*n.natAbs*(2^k*2^more):=by rw [Nat.mul_assoc]
    _=c.natAbs*n.natAbs*(2^(k+more - j)*2^j):=by rw [this]
    _=c.natAbs*2^(k+more - j)*(n.natAbs*2^j):=by simp only [Nat.mul_assoc,Nat.mul_left_comm]
  rw [e2,Nat.mul_div_cancel _ hp,Nat.mul_mod_left]
  refine ⟨_,rfl,s,k+more - j+1,?_,λh=>?_⟩
  ·simp only [bne_self_eq_false,Bool.toNat_false,Nat.add_zero,Bool.bne_false]
   congr 1
   ·rw [Nat.pow_succ];simp only [Nat.mul_comm,Nat.mul_left_comm]
   ·omega
  ·rw [hs (by rw [hc];exact Int.mul_ne_zero h om),hc]
   have:c*n<0↔c<0:=by
    constructor
    ·intro h1
     rcases Int.lt_or_le c 0 with h2|h2
     ·exact h2
     ·have:=Int.mul_nonneg h2 (Int.le_of_lt hn0);omega
    ·intro h1;exact Int.mul_neg_of_neg_of_pos h1 hn0
   simp [this]
 obtain ⟨e,he,hw⟩:=main
 refine ⟨double.write e,?_,Fz.write hw hcl⟩
 show ((double.read x).quotient (double.fractionBits+2) (double.read y)).map double.write=_
 rw [he];rfl
theorem YQ(a b:Int):(a.tmod b).natAbs<=a.natAbs:=by rw [Int.natAbs_tmod];exact Nat.mod_le _ _
theorem Sv(a b:Int):(a.tdiv b).natAbs<=a.natAbs:=by rw [Int.natAbs_tdiv];exact Nat.div_le_self _ _
def quo(a b:Af):Af×Int:=
 let n:=b.re*b.re+b.im*b.im
 let x:=a.re*b.re+a.im*b.im
 let y:=a.im*b.re - a.re*b.im
 if n=0∨x.tmod n≠0∨y.tmod n≠0 then (⟨0,0⟩,51) else inn ⟨x.tdiv n,y.tdiv n⟩
section
variable{a b:Af}(ha:Hl a)(hb:Hl b)
include ha hb
theorem ACJ(h: ¬(b.re=0/\b.im=0)):0<b.re*b.re+b.im*b.im:=by
 have h1:0<=b.re*b.re:=by
  rcases Int.le_total 0 b.re with h|h
  ·exact Int.mul_nonneg h h
  ·exact Int.mul_nonneg_of_nonpos_of_nonpos h h
 have h2:0<=b.im*b.im:=by
  rcases Int.le_total 0 b.im with h|h
  ·exact Int.mul_nonneg h h
  ·exact Int.mul_nonneg_of_nonpos_of_nonpos h h
 rcases Decidable.em (b.re*b.re=0) with h3|h3
 ·rcases Decidable.em (b.im*b.im=0) with h4|h4
  ·refine absurd ⟨?_,?_⟩ h
   ·rcases Int.mul_eq_zero.1 h3 with h|h<;>exact h
   ·rcases Int.mul_eq_zero.1 h4 with h|h<;>exact h
  ·omega
 ·omega
theorem ACK{N:Nat}(hN:2^54<=N):KK N (rn a) (rn b)=some (rn (quo a b).1,(quo a b).2):=by
 unfold KK MP
 simp only [Km ha,Km hb,BP,Bool.not_true,cond_false]
 have hz:ceq (rn b) (0,0)=(decide (b.re=0)&&decide (b.im=0)):=by
  rw [ceq,(Fz.re hb).feq fz0 hb.re (by decide),(Fz.im hb).feq fz0 hb.im (by decide)]
 rw [hz]
 cases h0:(decide (b.re=0)&&decide (b.im=0))
 ·simp only [cond_false]
  have hne: ¬(b.re=0/\b.im=0):=by
   intro h;rw [h.1,h.2] at h0;simp at h0
  have hn:=ACJ ha hb hne
  have hni:=We (Fz.im hb) hb.im
  have hia:(-b.im).natAbs<=16777216:=by have:=hb.imA;omega
  obtain ⟨p1,p2,hp,q1,q2,l1,l2⟩:=Wc (Fz.re ha) (Fz.im ha) (Fz.re hb) hni ha.reA ha.imA hb.reA hia
  obtain ⟨n1,n2,hm,q3,_,l3,_⟩:=Wc (Fz.re hb) (Fz.im hb) (Fz.re hb) hni hb.reA hb.imA hb.reA hia
  have e1:a.re*b.re - a.im* -b.im=a.re*b.re+a.im*b.im:=by rw [Int.mul_neg];omega
  have e2:a.re* -b.im+a.im*b.re=a.im*b.re - a.re*b.im:=by rw [Int.mul_neg];omega
  have e3:b.re*b.re - b.im* -b.im=b.re*b.re+b.im*b.im:=by rw [Int.mul_neg];omega
  rw [e1] at q1 l1;rw [e2] at q2 l2;rw [e3] at q3 l3
  have ep:cmul (rn a) ((rn b).1,Op.negFloat .f64 (rn b).2)=some (p1,p2):=hp
  have em:cmul (rn b) ((rn b).1,Op.negFloat .f64 (rn b).2)=some (n1,n2):=hm
  obtain ⟨z1,hz1,w1⟩:=Zy hN q1 q3 om hn om
  obtain ⟨z2,hz2,w2⟩:=Zy hN q2 q3 om hn om
  have b1:=YQ (a.re*b.re+a.im*b.im) (b.re*b.re+b.im*b.im)
  have b2:=YQ (a.im*b.re - a.re*b.im) (b.re*b.re+b.im*b.im)
  simp only [ep,em,BP,hz1,hz2]
  rw [w1.fne fz0 om (by decide),w2.fne fz0 om (by decide)]
  unfold MO quo
  simp only
  cases h1:decide ((a.re*b.re+a.im*b.im).tmod (b.re*b.re+b.im*b.im)=0)
  ·have h1:=EE h1
   rw [if_pos (.inr (.inl h1))]
   rfl
  ·have h1:=CS h1
   simp only [Bool.not_true,cond_false]
   cases h2:decide ((a.im*b.re - a.re*b.im).tmod (b.re*b.re+b.im*b.im)=0)
   ·have h2:=EE h2
    rw [if_pos (.inr (.inr h2))]
    rfl
   ·have h2:=CS h2
    rw [if_neg (by rintro (h|h|h)<;>omega)]
    simp only [Bool.not_true,cond_false]
    have c1:a.re*b.re+a.im*b.im=(a.re*b.re+a.im*b.im).tdiv (b.re*b.re+b.im*b.im)*(b.re*b.re+b.im*b.im):=by
     have:=Int.tmod_add_tdiv_mul (a.re*b.re+a.im*b.im) (b.re*b.re+b.im*b.im);omega
    have c2:a.im*b.re - a.re*b.im=(a.im*b.re - a.re*b.im).tdiv (b.re*b.re+b.im*b.im)*(b.re*b.re+b.im*b.im):=by
     have:=Int.tmod_add_tdiv_mul (a.im*b.re - a.re*b.im) (b.re*b.re+b.im*b.im);omega
    obtain ⟨d1,hd1,v1⟩:=Zz q1 q3 om hn om c1
    obtain ⟨d2,hd2,v2⟩:=Zz q2 q3 om hn om c2
    have k1:=Sv (a.re*b.re+a.im*b.im) (b.re*b.re+b.im*b.im)
    have k2:=Sv (a.im*b.re - a.re*b.im) (b.re*b.re+b.im*b.im)
    simp only [hd1,hd2,BP,Pi v1 v2 om om]
 ·simp only [Bool.and_eq_true,decide_eq_true_eq] at h0
  unfold quo
  simp only
  rw [if_pos (.inl (by rw [h0.1,h0.2];rfl))]
  rfl
theorem AA9:Ja a b=some (quo a b):=by
 have m1:=Mb hb.reA hb.reA
 have m2:=Mb hb.imA hb.imA
 have m3:=Mb ha.reA hb.reA
 have m4:=Mb ha.imA hb.imA
 have m5:=Mb ha.imA hb.reA
 have m6:=Mb ha.reA hb.imA
 unfold Ja Lg
 rw [wr (x:=b.re*b.re) om om,wr (x:=b.im*b.im) om om,wr (x:=a.re*b.re) om om,wr (x:=a.im*b.im) om om,wr (x:=a.im*b.re) om om,wr (x:=a.re*b.im) om om,
  wr (x:=b.re*b.re+b.im*b.im) om om,wr (x:=a.re*b.re+a.im*b.im) om om,wr (x:=a.im*b.re - a.re*b.im) om om]
 have k1:=Sv (a.re*b.re+a.im*b.im) (b.re*b.re+b.im*b.im)
 have k2:=Sv (a.im*b.re - a.re*b.im) (b.re*b.re+b.im*b.im)
 rw [wr (x:=(a.re*b.re+a.im*b.im).tdiv (b.re*b.re+b.im*b.im)) om om,wr (x:=(a.im*b.re - a.re*b.im).tdiv (b.re*b.re+b.im*b.im)) om om]
 unfold quo
 simp only
 cases h0:(b.re*b.re+b.im*b.im==0)
 ·have h0:=B9 h0
  have hnz:nz (b.re*b.re+b.im*b.im)=some ():=by rw [nz,if_neg h0]
  simp only [cond_false,hnz,BP]
  cases h1:((a.re*b.re+a.im*b.im).tmod (b.re*b.re+b.im*b.im) != 0)
  ·have h1:=KR h1
   simp only [cond_false]
   cases h2:((a.im*b.re - a.re*b.im).tmod (b.re*b.re+b.im*b.im) != 0)
   ·have h2:=KR h2
    rw [if_neg (by rintro (h|h|h)<;>contradiction),YM]
    rfl
   ·have h2:=Ma h2
    rw [if_pos (.inr (.inr h2))];rfl
  ·have h1:=Ma h1
   rw [if_pos (.inr (.inl h1))];rfl
 ·have h0:=CV h0
  rw [if_pos (.inl h0)];rfl
end
end Fth
namespace Fth
open Go
def VV(t:Int)(v:AD):Prop:=
 (t=1/\v.type_=1/\Gn v.num/\v.bool=false/\v.list=[])∨(t=2/\v.type_=2/\v.num=(0,0)/\v.list=[])∨
 (t=3/\v.type_=3/\v.num=(0,0)/\v.bool=false/\∀z∈v.list,Gn z)
def GV(v:AD):Prop:=Gn v.num/\(∀z∈v.list,Gn z)/\v.list.length<=1000000000000
def chk(v:AD):Bool:=
 bif v.type_==1 then !v.bool&&v.list.isEmpty else bif v.type_==2 then decide (v.num=(0,0))&&v.list.isEmpty else bif v.type_==3 then decide (v.num=(0,0))&& !v.bool else false
theorem gn0:Gn (0,0):=⟨0,0,⟨z0,by decide,by decide⟩,⟨z0,by decide,by decide⟩⟩
theorem Z0{v:AD}(h:GV v):chk v=true↔VV v.type_ v:=by
 obtain ⟨h1,h2,_⟩:=h
 unfold chk VV
 cases e1:(v.type_==1)
 ·have e1:=B9 e1
  cases e2:(v.type_==2)
  ·have e2:=B9 e2
   cases e3:(v.type_==3)
   ·have e3:=B9 e3
    simp [e1,e2,e3]
   ·have e3:=CV e3
    simp [e3];intro _ _;exact λz w hz=>h2 (z,w) hz
  ·have e2:=CV e2
   simp [e2]
 ·have e1:=CV e1
  simp [e1,h1]
theorem VV.gv{t:Int}{v:AD}(h:VV t v)(hl:v.list.length<=1000000000000):GV v:=by
 rcases h with ⟨_,_,h,_,h'⟩| ⟨_,_,h,h'⟩| ⟨_,_,h,_,h'⟩
 ·exact ⟨h,by rw [h'];simp,hl⟩
 ·exact ⟨by rw [h];exact gn0,by rw [h'];simp,hl⟩
 ·exact ⟨by rw [h];exact gn0,h',hl⟩
theorem VV.type{t:Int}{v:AD}(h:VV t v):v.type_=t:=by
 rcases h with ⟨h1,h2,_⟩| ⟨h1,h2,_⟩| ⟨h1,h2,_⟩<;>rw [h1,h2]
theorem ACi{z:Cpl}(h:Gn z):ceq z (0,0)=decide (z=(0,0)):=by
 obtain ⟨n,hn,rfl⟩:=(QY z).1 h
 have e1:=(Fz.re hn).feq fz0 hn.re (by decide)
 have e2:=(Fz.im hn).feq fz0 hn.im (by decide)
 rw [ceq]
 dsimp only
 rw [e1,e2,Bool.eq_iff_iff]
 simp only [Bool.and_eq_true,decide_eq_true_eq]
 constructor
 ·rintro ⟨h1,h2⟩
  rw [rn,h1,h2,P1]
 ·intro h
  have h1:FloatKind.f64.nearest n.re=0:=congrArg Prod.fst h
  have h2:FloatKind.f64.nearest n.im=0:=congrArg Prod.snd h
  have f0:feq 0 0=true:=by decide
  have k1:(rn n).1=0:=h1
  have k2:(rn n).2=0:=h2
  rw [k1,f0] at e1
  rw [k2,f0] at e2
  exact ⟨CS e1.symm,CS e2.symm⟩
theorem XX{z:Cpl}(h:Gn z):CJ z=some true:=by
 obtain ⟨n,hn,rfl⟩:=(QY z).1 h
 exact Km hn
theorem OD{N:Nat}{v:AD}(h:GV v)(hN:v.list.length+2<=N):DU N v=some (bif chk v then 0 else 3):=by
 obtain ⟨h1,h2,h3⟩:=h
 have loop: ∀(k:Nat) (b:Bool) (i:Nat),i<=v.list.length->v.list.length<i+k->I2 v k b (i:Int)=some (bif b then 0 else 3):=by
  intro k
  induction k with
  |zero=>intro b i _ _;omega
  |succ k ih=>
   intro b i hi hk
   show Ka v (I2 v k) b i=_
   unfold Ka K9 El
   cases hc:decide ((i:Int)< (v.list.length:Int))
   ·rw [cond_false];cases b<;>rfl
   ·have hc:=CS hc
    obtain ⟨z,hz,hz'⟩:=Ft (xs:=v.list) (i:=(i:Int)) om hc
    rw [cond_true,hz,BP,wr om om,show (i:Int)+1=((i+1:Nat):Int) by omega]
    have hg:=h2 z (List.mem_of_getElem? hz')
    rw [XX hg,BP]
    cases b
    ·exact ih false (i+1) om om
    ·exact ih true (i+1) om om
 have loop0:=λb=>loop N b 0 om om
 have he:((v.list.length:Int)==0)=v.list.isEmpty:=by cases v.list<;>simp;omega
 unfold DU El KG chk
 rw [XX h1,BP,ACi h1,he]
 cases e1:(v.type_==1)
 ·rw [cond_false,cond_false]
  cases e2:(v.type_==2)
  ·rw [cond_false,cond_false]
   cases e3:(v.type_==3)
   ·rfl
   ·rw [cond_true,cond_true,BP,cond_true]
    cases decide (v.num=(0,0))
    ·exact loop0 false
    ·exact loop0 (!v.bool)
  ·rw [cond_true,cond_true,BP,cond_true]
   cases decide (v.num=(0,0))
   ·rfl
   ·cases v.list.isEmpty<;>rfl
 ·rw [cond_true,cond_true,cond_true]
  cases v.bool
  ·cases v.list.isEmpty<;>rfl
  ·rfl
theorem M3{N:Nat}{v:AD}(h:GV v)(hN:v.list.length+2<=N):CO N v=some (chk v):=by
 obtain ⟨h1,h2,h3⟩:=h
 have he:((v.list.length:Int)==0)=v.list.isEmpty:=by cases v.list<;>simp;omega
 have loop: ∀(k i:Nat),i<=v.list.length->v.list.length<i+k->FH v k true (i:Int)=some (chk v):=by
  intro k
  induction k with
  |zero=>intro i _ _;omega
  |succ k ih=>
   intro i hi hk
   show Fa v (FH v k) true i=_
   unfold Fa Hx J8 J9 KA
   cases hc:decide ((i:Int)< (v.list.length:Int))
   ·rw [cond_false,ACi h1,he]
    unfold chk
    cases e1:(v.type_==1)
    ·rw [cond_false,cond_false]
     cases e2:(v.type_==2)
     ·rw [cond_false,cond_false]
      cases e3:(v.type_==3)
      ·rfl
      ·cases decide (v.num=(0,0))<;>rfl
     ·cases decide (v.num=(0,0))<;>rfl
    ·cases v.bool<;>rfl
   ·have hc:=CS hc
    obtain ⟨z,hz,hz'⟩:=Ft (xs:=v.list) (i:=(i:Int)) om hc
    rw [cond_true,hz,BP,wr om om,show (i:Int)+1=((i+1:Nat):Int) by omega]
    obtain ⟨n,_,_,hn⟩:=Zs (h2 z (List.mem_of_getElem? hz'))
    rw [hn,BP,cond_true]
    exact ih (i+1) om om
 obtain ⟨n,_,_,hn⟩:=Zs h1
 unfold CO
 rw [hn,BP]
 exact loop N 0 om om
def v0:AD:=⟨0,(0,0),false,[]⟩
def nv(x:Af×Int):AD×Int:=if x.2=0 then (⟨1,rn x.1,false,[]⟩,0) else (v0,x.2)
theorem ABA(x:Af×Int):EI (rn x.1) x.2=some (nv x):=by
 unfold EI nv
 cases h:(x.2 != 0)
 ·rw [if_pos (KR h)];rfl
 ·rw [if_neg (Ma h)];rfl
theorem Wg(x:Af×Int):Cf x.1 x.2=some (nv x):=by
 unfold Cf nv
 cases h:(x.2 != 0)
 ·rw [if_pos (KR h)];rfl
 ·rw [if_neg (Ma h)];rfl
def two(op:Int)(a b:Af):AD×Int:=
 if op=8 then nv (inn ⟨a.re+b.re,a.im+b.im⟩) else if op=9 then nv (inn ⟨a.re - b.re,a.im - b.im⟩)
 else if op=10 then nv (inn ⟨a.re*b.re - a.im*b.im,a.re*b.im+a.im*b.re⟩) else if op=11 then nv (quo a b)
 else if op=12 then (⟨2,(0,0),decide (a.re=b.re)&&decide (a.im=b.im),[]⟩,0)
 else (⟨2,(0,0),decide (a.re<b.re)||(decide (a.re=b.re)&&decide (a.im<b.im)),[]⟩,0)
theorem Z1{N:Nat}{op:Int}{a b:Af}(hN:2^54<=N)(ha:Hl a)(hb:Hl b):Kc N op (rn a) (rn b)=some (two op a b):=by
 unfold Kc two
 rw [ACF ha hb,ACG ha hb,ACH ha hb,ACK ha hb hN,X1 ha hb,AA2 ha hb]
 simp only [BP,ABA]
 cases h1:(op==8)
 ·rw [if_neg (B9 h1)]
  cases h2:(op==9)
  ·rw [if_neg (B9 h2)]
   cases h3:(op==10)
   ·rw [if_neg (B9 h3)]
    cases h4:(op==11)
    ·rw [if_neg (B9 h4)]
     cases h5:(op==12)
     ·rw [if_neg (B9 h5)];rfl
     ·rw [if_pos (CV h5)];rfl
    ·rw [if_pos (CV h4)];rfl
   ·rw [if_pos (CV h3)];rfl
  ·rw [if_pos (CV h2)];rfl
 ·rw [if_pos (CV h1)];rfl
section
variable{a b:Af}(ha:Hl a)(hb:Hl b)
include ha hb
theorem ABB:JX a b=some (inn ⟨a.re+b.re,a.im+b.im⟩):=by
 obtain ⟨⟨h1,h2⟩,h3,h4⟩:=ha
 obtain ⟨⟨h5,h6⟩,h7,h8⟩:=hb
 unfold JX
 rw [wr om om,wr om om,YM];rfl
theorem ABC:JY a b=some (inn ⟨a.re - b.re,a.im - b.im⟩):=by
 obtain ⟨⟨h1,h2⟩,h3,h4⟩:=ha
 obtain ⟨⟨h5,h6⟩,h7,h8⟩:=hb
 unfold JY
 rw [wr om om,wr om om,YM];rfl
theorem ABD:JZ a b=some (inn ⟨a.re*b.re - a.im*b.im,a.re*b.im+a.im*b.re⟩):=by
 have m3:=Mb ha.reA hb.reA
 have m4:=Mb ha.imA hb.imA
 have m5:=Mb ha.imA hb.reA
 have m6:=Mb ha.reA hb.imA
 unfold JZ
 rw [wr (x:=a.re*b.re) om om,wr (x:=a.im*b.im) om om,wr (x:=a.im*b.re) om om,wr (x:=a.re*b.im) om om,wr om om,wr om om,YM];rfl
theorem Z2:IS a b=some (decide (a.re<b.re)||(decide (a.re=b.re)&&decide (a.im<b.im))):=by
 unfold IS Kr
 have e:(a.re==b.re)=decide (a.re=b.re):=by rw [Bool.eq_iff_iff];simp
 rw [e]
 cases decide (a.re<b.re)
 ·cases decide (a.re=b.re)<;>rfl
 ·rfl
end
theorem Z3{op:Int}(h:8<=op/\op<=13):IK op=some (2,1)/\HL op=some (2,1):=by
 have:op=8∨op=9∨op=10∨op=11∨op=12∨op=13:=om
 rcases this with rfl|rfl|rfl|rfl|rfl|rfl<;>exact ⟨rfl,rfl⟩
theorem Z4{op:Int}(h:15<=op/\op<=17):IK op=some (1,1)/\HL op=some (1,1):=by
 have:op=15∨op=16∨op=17:=om
 rcases this with rfl|rfl|rfl<;>exact ⟨rfl,rfl⟩
def DD(a:Af):AD:=⟨1,rn a,false,[]⟩
theorem Y1{a:Af}(ha:Hl a):GV (DD a):=⟨.of ha,by simp [DD],by simp [DD]⟩
theorem Vd(a:Af):chk (DD a)=true:=rfl
def Jn(c:Bool):AD:=⟨2,(0,0),c,[]⟩
theorem ABE(b:Bool):GV (Jn b):=⟨gn0,by simp [Jn],by simp [Jn]⟩
theorem ACL{N:Nat}{op:Int}{a b:Af}(hN:2^54<=N)(h:8<=op/\op<=13)(ha:Hl a)(hb:Hl b):
  EW N op [DD a,DD b]=some (two op a b)/\Dj N op [DD a,DD b]=some (two op a b):=by
 obtain ⟨M,rfl⟩: ∃M,N=M+3:=⟨N - 3,om⟩
 have c1:DU (M+3) (DD a)=some 0:=by rw [OD (Y1 ha) (by simp [DD]),Vd];rfl
 have c2:DU (M+3) (DD b)=some 0:=by rw [OD (Y1 hb) (by simp [DD]),Vd];rfl
 have d1:CO (M+3) (DD a)=some true:=by rw [M3 (Y1 ha) (by simp [DD]),Vd]
 have d2:CO (M+3) (DD b)=some true:=by rw [M3 (Y1 hb) (by simp [DD]),Vd]
 have o1:E6 (DD a).num=some (a,true):=Vc ha
 have o2:E6 (DD b).num=some (b,true):=Vc hb
 constructor
 ·unfold EW
  rw [(Z3 h).1,BP]
  show Cv (M+3) op [DD a,DD b] (2,1) (Dp (M+3) op [DD a,DD b] (2,1) (M+2)) 0=_
  unfold Cv
  show (DU (M+3) (DD a)).bind (λx208=>Ik 0 (Dp (M+3) op [DD a,DD b] (2,1) (M+2)) (x208 != 0))=_
  rw [c1,BP]
  show Cv (M+3) op [DD a,DD b] (2,1) (Dp (M+3) op [DD a,DD b] (2,1) (M+1)) 1=_
  unfold Cv
  show (DU (M+3) (DD b)).bind (λx208=>Ik 1 (Dp (M+3) op [DD a,DD b] (2,1) (M+1)) (x208 != 0))=_
  rw [c2,BP]
  show Cv (M+3) op [DD a,DD b] (2,1) (Dp (M+3) op [DD a,DD b] (2,1) M) 2=_
  unfold Cv
  have hop:(op==14)=false/\(op==15)=false/\(op==16)=false/\(op==17)=false:=by
   refine ⟨?_,?_,?_,?_⟩<;>(simp;omega)
  rw [hop.1,hop.2.1,hop.2.2.1,hop.2.2.2]
  show (Kc (M+3) op (rn a) (rn b)).bind (λx321=>some (x321.1,x321.2))=_
  rw [Z1 hN ha hb];rfl
 ·unfold Dj
  rw [(Z3 h).2,BP]
  show Cc (M+3) op [DD a,DD b] (2,1) (Bu (M+3) op [DD a,DD b] (2,1) (M+2)) true [] 0=_
  unfold Cc
  show (CO (M+3) (DD a)).bind (λx412=>bif x412 then (Er [DD a,DD b] [] 0 (Bu (M+3) op [DD a,DD b] (2,1) (M+2)) true) else (Er [DD a,DD b] [] 0 (Bu (M+3) op [DD a,DD b] (2,1) (M+2)) false))=_
  rw [d1,BP,cond_true]
  show (E6 (DD a).num).bind (λx354=>(Gd 16 ([]:List Af) [x354.1]).bind λ_=>Bu (M+3) op [DD a,DD b] (2,1) (M+2) true ([]++[x354.1]) (IntKind.i64.wrap (0+1)))=_
  rw [o1,BP]
  show Cc (M+3) op [DD a,DD b] (2,1) (Bu (M+3) op [DD a,DD b] (2,1) (M+1)) true [a] 1=_
  unfold Cc
  show (CO (M+3) (DD b)).bind (λx412=>bif x412 then (Er [DD a,DD b] [a] 1 (Bu (M+3) op [DD a,DD b] (2,1) (M+1)) true) else (Er [DD a,DD b] [a] 1 (Bu (M+3) op [DD a,DD b] (2,1) (M+1)) false))=_
  rw [d2,BP,cond_true]
  show (E6 (DD b).num).bind (λx354=>(Gd 16 [a] [x354.1]).bind λ_=>Bu (M+3) op [DD a,DD b] (2,1) (M+1) true ([a]++[x354.1]) (IntKind.i64.wrap (1+1)))=_
  rw [o2,BP]
  show Cc (M+3) op [DD a,DD b] (2,1) (Bu (M+3) op [DD a,DD b] (2,1) M) true [a,b] 2=_
  unfold Cc two
  have e:(a.re==b.re&&a.im==b.im)=(decide (a.re=b.re)&&decide (a.im=b.im)):=by rw [Bool.eq_iff_iff];simp
  have hh:op=8∨op=9∨op=10∨op=11∨op=12∨op=13:=om
  rcases hh with rfl|rfl|rfl|rfl|rfl|rfl
  ·show ((JX a b).bind λx504=>(Cf x504.1 x504.2).bind λx511=>some (x511.1,x511.2))=_
   rw [ABB ha hb,BP,Wg];rfl
  ·show ((JY a b).bind λx504=>(Cf x504.1 x504.2).bind λx511=>some (x511.1,x511.2))=_
   rw [ABC ha hb,BP,Wg];rfl
  ·show ((JZ a b).bind λx504=>(Cf x504.1 x504.2).bind λx511=>some (x511.1,x511.2))=_
   rw [ABD ha hb,BP,Wg];rfl
  ·show ((Ja a b).bind λx504=>(Cf x504.1 x504.2).bind λx511=>some (x511.1,x511.2))=_
   rw [AA9 ha hb,BP,Wg];rfl
  ·show some ((⟨2,(0,0),(a.re==b.re&&a.im==b.im),[]⟩:AD),(0:Int))=_
   rw [e];rfl
  ·show ((IS a b).bind λx1013=>(HM x1013).bind λx1018=>some (x1018.1,x1018.2))=_
   rw [Z2 ha hb];rfl
theorem YR{op:Int}(h:op=14):IK op=some (1,2)/\HL op=some (1,2):=by subst h;exact ⟨rfl,rfl⟩
theorem ACM{N:Nat}{c:Bool}{op:Int}(h:op=14)(hN:10<=N):EW N op [Jn c]=some (Jn !c,0):=by
 obtain ⟨M,rfl⟩: ∃M,N=M+3:=⟨N - 3,om⟩
 clear hN
 have c1:DU (M+3) (Jn c)=some 0:=by rw [OD (ABE c) (by simp [Jn])];rfl
 have d1:CO (M+3) (Jn c)=some true:=by rw [M3 (ABE c) (by simp [Jn])];rfl
 have o1:E6 (Jn c).num=some (⟨0,0⟩,true):=Vc (n:=⟨0,0⟩) ⟨⟨by decide,by decide⟩,by decide,by decide⟩
 unfold EW
 rw [(YR h).1,BP]
 show Cv (M+3) op [Jn c] (1,2) (Dp (M+3) op [Jn c] (1,2) (M+2)) 0=_
 unfold Cv
 show (DU (M+3) (Jn c)).bind (λx208=>Ik 0 (Dp (M+3) op [Jn c] (1,2) (M+2)) (x208 != 0))=_
 rw [c1,BP]
 show Cv (M+3) op [Jn c] (1,2) (Dp (M+3) op [Jn c] (1,2) (M+1)) 1=_
 unfold Cv
 have h1:decide ((1:Int)< (([Jn c].length:Nat):Int))=false:=rfl
 have h2:idx [Jn c] 0=some (Jn c):=rfl
 have h3:(op==14)=true:=by rw [h];rfl
 rw [h1,cond_false,h2,BP,h3,cond_true]
 rfl
theorem ACj{N:Nat}{c:Bool}{op:Int}(h:op=14)(hN:10<=N):Dj N op [Jn c]=some (Jn !c,0):=by
 obtain ⟨M,rfl⟩: ∃M,N=M+3:=⟨N - 3,om⟩
 clear hN
 have c1:DU (M+3) (Jn c)=some 0:=by rw [OD (ABE c) (by simp [Jn])];rfl
 have d1:CO (M+3) (Jn c)=some true:=by rw [M3 (ABE c) (by simp [Jn])];rfl
 have o1:E6 (Jn c).num=some (⟨0,0⟩,true):=Vc (n:=⟨0,0⟩) ⟨⟨by decide,by decide⟩,by decide,by decide⟩
 unfold Dj
 rw [(YR h).2,BP]
 show Cc (M+3) op [Jn c] (1,2) (Bu (M+3) op [Jn c] (1,2) (M+2)) true [] 0=_
 unfold Cc
 show (CO (M+3) (Jn c)).bind (λx412=>bif x412 then (Er [Jn c] [] 0 (Bu (M+3) op [Jn c] (1,2) (M+2)) true) else (Er [Jn c] [] 0 (Bu (M+3) op [Jn c] (1,2) (M+2)) false))=_
 rw [d1,BP,cond_true]
 show (E6 (Jn c).num).bind (λx354=>(Gd 16 ([]:List Af) [x354.1]).bind λ_=>Bu (M+3) op [Jn c] (1,2) (M+2) true ([]++[x354.1]) (IntKind.i64.wrap (0+1)))=_
 rw [o1,BP]
 show Cc (M+3) op [Jn c] (1,2) (Bu (M+3) op [Jn c] (1,2) (M+1)) true [⟨0,0⟩] 1=_
 unfold Cc
 have h1:decide ((1:Int)< ((1,2):Int×Int).1)=false:=rfl
 rw [cond_true,h1]
 unfold LM
 have h2:idx [Jn c] 0=some (Jn c):=rfl
 have h3:(op==14)=true:=by rw [h];rfl
 have k1:(op==8)=false:=by rw [h];rfl
 have k2:(op==9)=false:=by rw [h];rfl
 have k3:(op==10)=false:=by rw [h];rfl
 have k4:(op==11)=false:=by rw [h];rfl
 have k5:(op==12)=false:=by rw [h];rfl
 have k6:(op==13)=false:=by rw [h];rfl
 rw [cond_false,Bool.not_true,cond_false,k1,cond_false,k2,cond_false,k3,cond_false,k4,cond_false,k5,cond_false,k6,cond_false,h3,cond_true,h2,BP]
 rfl
theorem ABF{N:Nat}{c:Bool}(hN:2^54<=N):EW N 14 [Jn c]=some (Jn !c,0)/\Dj N 14 [Jn c]=some (Jn !c,0):=⟨ACM rfl om,ACj rfl om⟩
theorem nv0(x:Int):DD ⟨x,0⟩=⟨1,(FloatKind.f64.nearest x,0),false,[]⟩:=by rw [DD,rn,P1]
def uno(op:Int)(a:Af):AD×Int:=(DD (if op=15 then ⟨a.re,0⟩ else if op=16 then ⟨a.im,0⟩ else ⟨a.re,-a.im⟩),0)
theorem ACN{N:Nat}{op:Int}{a:Af}(hN:2^54<=N)(h:15<=op/\op<=17)(ha:Hl a):EW N op [DD a]=some (uno op a)/\Dj N op [DD a]=some (uno op a):=by
 obtain ⟨M,rfl⟩: ∃M,N=M+3:=⟨N - 3,om⟩
 have c1:DU (M+3) (DD a)=some 0:=by rw [OD (Y1 ha) (by simp [DD]),Vd];rfl
 have d1:CO (M+3) (DD a)=some true:=by rw [M3 (Y1 ha) (by simp [DD]),Vd]
 have o1:E6 (DD a).num=some (a,true):=Vc ha
 have hh:op=15∨op=16∨op=17:=om
 constructor
 ·unfold EW
  rw [(Z4 h).1,BP]
  show Cv (M+3) op [DD a] (1,1) (Dp (M+3) op [DD a] (1,1) (M+2)) 0=_
  unfold Cv
  show (DU (M+3) (DD a)).bind (λx208=>Ik 0 (Dp (M+3) op [DD a] (1,1) (M+2)) (x208 != 0))=_
  rw [c1,BP]
  show Cv (M+3) op [DD a] (1,1) (Dp (M+3) op [DD a] (1,1) (M+1)) 1=_
  unfold Cv uno
  rcases hh with rfl|rfl|rfl
  ·rw [if_pos rfl,nv0];rfl
  ·rw [if_neg (by decide),if_pos rfl,nv0];rfl
  ·rw [if_neg (by decide),if_neg (by decide)]
   show ((IL (rn a)).bind λx279=>(EI x279.1 x279.2).bind λx284=>some (x284.1,x284.2))=_
   rw [AA3 ha];rfl
 ·unfold Dj
  rw [(Z4 h).2,BP]
  show Cc (M+3) op [DD a] (1,1) (Bu (M+3) op [DD a] (1,1) (M+2)) true [] 0=_
  unfold Cc
  show (CO (M+3) (DD a)).bind (λx412=>bif x412 then (Er [DD a] [] 0 (Bu (M+3) op [DD a] (1,1) (M+2)) true) else (Er [DD a] [] 0 (Bu (M+3) op [DD a] (1,1) (M+2)) false))=_
  rw [d1,BP,cond_true]
  show (E6 (DD a).num).bind (λx354=>(Gd 16 ([]:List Af) [x354.1]).bind λ_=>Bu (M+3) op [DD a] (1,1) (M+2) true ([]++[x354.1]) (IntKind.i64.wrap (0+1)))=_
  rw [o1,BP]
  show Cc (M+3) op [DD a] (1,1) (Bu (M+3) op [DD a] (1,1) (M+1)) true [a] 1=_
  unfold Cc uno
  rcases hh with rfl|rfl|rfl
  ·rw [if_pos rfl];rfl
  ·rw [if_neg (by decide),if_pos rfl];rfl
  ·rw [if_neg (by decide),if_neg (by decide)]
   show ((Cf ⟨a.re,IntKind.i64.wrap (0 - a.im)⟩ 0).bind λx1213=>some (x1213.1,x1213.2))=_
   have:=ha.imA
   rw [wr om om,Int.zero_sub];rfl
def Res(t:Int)(r:AD×Int):Prop:=(r.2=0/\VV t r.1)∨((r.2=50∨r.2=51)/\r.1=v0)
theorem ACO{a:Af}(h:Hl a):VV 1 (DD a):= .inl ⟨rfl,rfl,.of h,rfl,rfl⟩
theorem Wi{x:Af×Int}(h:(x.2=0/\Hl x.1)∨x.2=50∨x.2=51):Res 1 (nv x):=by
 unfold nv
 rcases h with ⟨h1,h2⟩|h
 ·rw [if_pos h1];exact .inl ⟨rfl,ACO h2⟩
 ·rw [if_neg om];exact .inr ⟨h,rfl⟩
theorem Wj(n:Af):((inn n).2=0/\Hl (inn n).1)∨(inn n).2=50∨(inn n).2=51:=by
 unfold inn
 rcases Decidable.em (Hl n) with h|h
 ·rw [if_pos h];exact .inl ⟨rfl,h⟩
 ·rw [if_neg h];exact .inr (.inl rfl)
theorem ACP(a b:Af):((quo a b).2=0/\Hl (quo a b).1)∨(quo a b).2=50∨(quo a b).2=51:=by
 unfold quo
 simp only
 split
 ·exact .inr (.inr rfl)
 ·exact Wj _
theorem Y5(b:Bool):VV 2 ⟨2,(0,0),b,[]⟩:= .inr (.inl ⟨rfl,rfl,rfl,rfl⟩)
def opT(op:Int):Int:=if op=12∨op=13∨op=14 then 2 else 1
theorem vv1{v:AD}(h:VV 1 v): ∃a,Hl a/\v=DD a:=by
 rcases h with ⟨_,h1,h2,h3,h4⟩| ⟨h,_⟩| ⟨h,_⟩
 ·obtain ⟨n,hn,e⟩:=(QY _).1 h2
  refine ⟨n,hn,?_⟩
  cases v;simp only at h1 h2 h3 h4 e;rw [DD,h1,h3,h4,e]
 ·cases h
 ·cases h
theorem vv2{v:AD}(h:VV 2 v):v=⟨2,(0,0),v.bool,[]⟩:=by
 rcases h with ⟨h,_⟩| ⟨_,h1,h2,h3⟩| ⟨h,_⟩
 ·cases h
 ·cases v;simp only at h1 h2 h3;rw [h1,h2,h3]
 ·cases h
theorem XY{op:Int}{args:List AD}(h:(8<=op/\op<=13/\∃a b,VV 1 a/\VV 1 b/\args=[a,b])∨(op=14/\∃a,VV 2 a/\args=[a])∨(15<=op/\op<=17/\∃a,VV 1 a/\args=[a])):
  ∃r,Res (opT op) r/\∀N,2^54<=N->EW N op args=some r/\Dj N op args=some r:=by
 rcases h with ⟨h1,h2,x,y,hx,hy,rfl⟩| ⟨rfl,x,hx,rfl⟩| ⟨h1,h2,x,hx,rfl⟩
 ·obtain ⟨a,ha,rfl⟩:=vv1 hx
  obtain ⟨b,hb,rfl⟩:=vv1 hy
  refine ⟨two op a b,?_,λN hN=>ACL hN ⟨h1,h2⟩ ha hb⟩
  unfold two opT
  have hh:op=8∨op=9∨op=10∨op=11∨op=12∨op=13:=om
  rcases hh with rfl|rfl|rfl|rfl|rfl|rfl
  ·exact Wi (Wj _)
  ·exact Wi (Wj _)
  ·exact Wi (Wj _)
  ·exact Wi (ACP a b)
  ·exact .inl ⟨rfl,Y5 _⟩
  ·exact .inl ⟨rfl,Y5 _⟩
 ·rw [vv2 hx]
  exact ⟨(Jn !x.bool,0),.inl ⟨rfl,Y5 _⟩,λN hN=>ABF hN⟩
 ·obtain ⟨a,ha,rfl⟩:=vv1 hx
  refine ⟨uno op a,?_,λN hN=>ACN hN ⟨h1,h2⟩ ha⟩
  have e:opT op=1:=by unfold opT;rw [if_neg om]
  rw [e]
  refine .inl ⟨rfl,ACO ?_⟩
  obtain ⟨⟨l1,l2⟩,l3,l4⟩:=ha
  split
  ·exact ⟨⟨l1,l2⟩,by simp,by simp⟩
  ·split
   ·exact ⟨⟨l3,l4⟩,by simp,by simp⟩
   ·exact ⟨⟨l1,l2⟩,by simp only;omega,by simp only;omega⟩
end Fth
namespace Fth
open Go
theorem Z5{N:Nat}{t:List UInt8}(hl:t.length<=10000000)(hN:t.length+3<=N):T (GQ N t) λws=>ws.length<=t.length+1/\∀w∈ws,w.length<=t.length:=by
 have key: ∀(k:Nat) (ws:List (List UInt8)) (f i:Int),0<=f->f<=i+1->0<=i->i<=t.length+1->(t.length:Int)+1 - i<k->ws.length<=i->(∀w∈ws,w.length<=t.length)->T (Ej t k ws f i) λws=>ws.length<=t.length+1/\∀w∈ws,w.length<=t.length:=by
  intro k
  induction k with
  |zero=>intro ws f i _ _ _ _ _;omega
  |succ k ih=>
   intro ws f i h1 h2 h3 h4 h5 h6 h7
   show T (FZ t (Ej t k) ws f i) _
   unfold FZ
   refine T.cond (λh=>?_) λh=>?_
   ·have h:=CS h
    have e1:IntKind.i64.wrap (i+1)=i+1:=wr om om
    have go: ∀b,T (Gl t ws f i (Ej t k) b) λws=>ws.length<=t.length+1/\∀w∈ws,w.length<=t.length:=by
     intro b
     unfold Gl Hw Hv
     rw [e1]
     refine T.cond (λ_=>ih _ _ _ h1 om om om om om h7) λ_=>T.cond (λhgt=>?_) λ_=>ih _ _ _ om om om om om om h7
     have hgt:=CS hgt
     refine T.bind (N6 h1 om h) λw hw=>T.bind (HD om (by simp;omega)) λ_ _=>ih _ _ _ om om om om om (by simp;omega) λx hx=>?_
     rcases List.mem_append.1 hx with hx|hx
     ·exact h7 x hx
     ·simp at hx;subst hx;subst hw;simp;omega
    exact T.cond (λhi=>T.bind (Ft h3 (CS hi)) λc _=>go _) λ_=>go _
   ·have h:=EE h
    exact .some ⟨om,h7⟩
 exact key N [] 0 0 om om om om om (by simp) (by simp)
theorem Ve{N:Nat}{z:Cpl}(hN:40<=N)(h:Gn z):T (Eb N z) λs=>s.length<=100:=by
 obtain ⟨n,hn,rfl,ho⟩:=Zs h
 unfold Eb
 exact T.eq ho (T.bind (YH hN hn.1.1 hn.1.2 hn.2.1 hn.2.2) λs hs=> .some hs)
theorem Z6{N:Nat}{v:AD}(h:GV v)(hl:v.list.length<=20000000)(hN:v.list.length+50<=N):T (Gq N v) λ_=>True:=by
 unfold Gq
 refine T.eq (M3 h om) (T.cond (λ_=> .some trivial) λ_=>T.cond (λ_=>T.bind (Ve om h.1) λ_ _=> .some trivial) λ_=>T.cond (λ_=>T.cond (λ_=> .some trivial) λ_=> .some trivial) λ_=>?_)
 have key: ∀(k:Nat) (s:List UInt8) (i:Int),0<=i->i<=v.list.length->(v.list.length:Int) - i<k->(s.length:Int)<=101*i->T (Fb N v k s i) λ_=>True:=by
  intro k
  induction k with
  |zero=>intro s i _ _ _;omega
  |succ k ih=>
   intro s i h0 h1 h2 h3
   show T (F5 N v (Fb N v k) s i) _
   unfold F5
   refine T.cond (λhi=>?_) λ_=>T.bind (Mr (by simp;omega)) λu hu=>T.bind (Mr (by subst hu;simp;omega)) λ_ _=> .some trivial
   have hi:=CS hi
   have go: ∀s':List UInt8,(s'.length:Int)<=101*i+1->T (Hg N v i (Fb N v k) s') λ_=>True:=by
    intro s' hs'
    unfold Hg
    refine T.bind (Ft h0 hi) λz hz=>T.bind (Ve om (h.2.1 z (List.mem_of_getElem? hz))) λu hu=>T.bind (HD om om) λ_ _=>?_
    rw [wr om om]
    exact ih _ _ om om om (by simp;omega)
   exact T.cond (λ_=>T.bind (HD om (by simp;omega)) λ_ _=>go _ (by simp;omega)) λ_=>go _ om
 exact key N [] 0 om om om (by simp)
theorem Y6{N:Nat}{t:List UInt8}(hl:t.length<=10000000)(hN:t.length+100<=N):T (Hy N t) λx=>x.2=0->VV x.1.type_ x.1/\x.1.list.length<=t.length+1:=by
 have j1: ∀b,T (Gs N t b) λx=>x.2=0->VV x.1.type_ x.1/\x.1.list.length<=t.length+1:=by
  intro b
  unfold Gs
  refine T.cond (λ_=> .some λ_=>⟨Y5 _,by simp⟩) λ_=>T.bind (Rh om om) λx hx=>T.cond (λh=>?_) λ_=>?_
  ·have hx:=hx (CV h)
   refine .some (a:=_) λ_=>⟨ACO (a:=x.1) ⟨⟨hx.1,hx.2.1⟩,hx.2.2.1,hx.2.2.2⟩,by simp⟩
  ·have j2: ∀b,(b=false->2<=t.length)->T (F6 N t x b) λx=>x.2=0->VV x.1.type_ x.1/\x.1.list.length<=t.length+1:=by
    intro b hb
    unfold F6
    refine T.cond (λ_=> .some λh=>by cases h) λh=>?_
    have h2:=hb h
    rw [wr om om]
    refine T.bind (N6 om om om) λu hu=>?_
    have hul:u.length<=t.length:=by subst hu;simp;omega
    refine T.bind (Z5 om om) λws hws=>?_
    have key: ∀(k:Nat) (i a b:Int) (l:List Cpl),0<=i->i<=ws.length->(ws.length:Int) - i<k->(l.length:Int)=i->(∀z∈l,Gn z)->T (FI N t ws k i a b l) λx=>x.2=0->VV x.1.type_ x.1/\x.1.list.length<=t.length+1:=by
     intro k
     induction k with
     |zero=>intro i a b l _ _ _;omega
     |succ k ih=>
      intro i a b l h0 h1 h3 h4 h5
      show T (Fc N t ws (FI N t ws k) i a b l) _
      unfold Fc
      refine T.cond (λhi=>?_) λ_=>?_
      ·have hi:=CS hi
       refine T.bind (Ft h0 hi) λw hw=>?_
       have hwl:=hws.2 w (List.mem_of_getElem? hw)
       refine T.bind (Rh om om) λy hy=>T.cond (λ_=> .some λh=>by cases h) λh=>?_
       have hy:=hy (KR h)
       refine T.bind (ACt hy) λz hz=>T.bind (HD om (by simp;omega)) λ_ _=>?_
       rw [wr om om]
       refine ih _ _ _ _ om om om (by simp;omega) λq hq=>?_
       rcases List.mem_append.1 hq with hq|hq
       ·exact h5 q hq
       ·simp at hq;subst hq;exact hz
      ·have gv:GV ⟨3,(0,0),false,l⟩:=⟨gn0,h5,by simp only;omega⟩
       refine T.bind (Z6 gv (by simp only;omega) (by simp only;omega)) λ_ _=>T.cond (λ_=> .some λh=>by cases h) λ_=> .some λ_=>⟨.inr (.inr ⟨rfl,rfl,rfl,rfl,h5⟩),by simp only;omega⟩
    exact key N 0 _ _ [] om om om (by simp) (by simp)
   refine T.cond (λ_=>j2 _ λh=>by cases h) λh=>?_
   have h:=EE h
   refine T.bind (Ft om om) λc _=>T.cond (λ_=>j2 _ λh=>by cases h) λ_=>?_
   rw [wr om om]
   exact T.bind (Ft om om) λc _=>j2 _ λ_=>om
 unfold Hy
 exact T.cond (λ_=>j1 _) λ_=>j1 _
def LV(l:List AD):Prop:=(∀v∈l,VV v.type_ v/\v.list.length<=1048577)/\l.length<=1048576
theorem Z7{N:Nat}{t:List UInt8}(hl:t.length<=1048576)(hN:t.length+200<=N):T (If N t) λx=>LV x.1:=by
 have outer: ∀(k:Nat) (l:List AD) (i:Int),0<=i->i<=t.length->(t.length:Int) - i<k->(l.length:Int)<=i->(∀v∈l,VV v.type_ v/\v.list.length<=1048577)->T (Ch N t k l i) λx=>LV x.1:=by
  intro k
  induction k with
  |zero=>intro l i _ _ _;omega
  |succ k ih=>
   intro l i h0 h1 h2 h3 h4
   show T (Ff N t (Ch N t k) l i) _
   unfold Ff
   refine T.cond (λhi=>?_) λhi=> .some ⟨h4,by have:=EE hi;simp only;omega⟩
   have hi:=CS hi
   refine T.bind (Ft h0 hi) λc hc=>T.cond (λ_=>?_) λhb=>?_
   ·rw [wr om om]
    exact ih _ _ om om om om h4
   ·have hb:=B9 hb
    refine T.bind (Ft h0 hi) λc' _=>?_
    have inner: ∀(j:Nat) (p:Int) (b:Bool),i<=p->p<=t.length->(t.length:Int) - p<j->(p=i∨i<p)->T (EV N t l i (Ch N t k) j p b) λx=>LV x.1:=by
     intro j
     induction j with
     |zero=>intro p b _ _ _;omega
     |succ j ihj=>
      intro p b hp1 hp2 hp3 hp4
      show T (Fe N t l i (Ch N t k) (EV N t l i (Ch N t k) j) p b) _
      unfold Fe
      have on:p<t.length->T (Ek N t l i (Ch N t k) p b (EV N t l i (Ch N t k) j) true) λx=>LV x.1:=by
       intro hp
       unfold Ek Hz
       rw [wr (x:=p+1) om om]
       refine T.cond (λ_=>T.bind (Ft om hp) λd _=>T.cond (λ_=>ihj _ _ om om om om) λ_=>ihj _ _ om om om om) λh=>by cases h
      have off:i<p->T (Ek N t l i (Ch N t k) p b (EV N t l i (Ch N t k) j) false) λx=>LV x.1:=by
       intro hp
       unfold Ek
       refine T.cond (λh=>by cases h) λ_=>T.bind (N6 h0 om hp2) λu hu=>?_
       have hul:u.length<=t.length:=by subst hu;simp;omega
       refine T.bind (Y6 om om) λx hx=>T.cond (λ_=> .some ⟨λv h=>(by cases h),Nat.zero_le _⟩) λh=>?_
       have hx:=hx (KR h)
       refine T.bind (HD om (by simp;omega)) λ_ _=>ih _ _ om om om (by simp;omega) λv hv=>?_
       rcases List.mem_append.1 hv with hv|hv
       ·exact h4 v hv
       ·simp at hv;subst hv;exact ⟨hx.1,by have:=hx.2;omega⟩
      refine T.cond (λhp=>?_) λhp=>?_
      ·have hp:=CS hp
       refine T.cond (λ_=>on hp) λ_=>T.bind (Ft om hp) λd hd=>?_
       cases hne:(((d.toNat:Nat):Int) != (((32:UInt8).toNat:Nat):Int))
       ·have hne:=KR hne
        refine off ?_
        rcases hp4 with rfl|hp4
        ·rw [hd] at hc;cases hc;exact absurd hne hb
        ·exact hp4
       ·exact on hp
      ·have hp:=EE hp
       exact off om
    exact inner N i _ om om om (.inl rfl)
 exact outer N [] 0 om om om (by simp) (by simp)
theorem ABG{N:Nat}{a:Eh}(hl:a.args.length<=1048576)(hN:20000000<=N):T (CH N a) λx=>WPt x.1/\LV x.2.1:=by
 unfold CH Gt Jf
 refine T.bind (P:=λl=>l=⟨32768,32768,32768,32768⟩) (.some rfl) λl hlm=>?_
 subst hlm
 refine T.bind (Yy om a.text) λx hx=>T.bind (Z7 hl om) λy hy=>T.cond (λh=> .some ⟨hx,hy⟩) λ_=> .some ⟨hx,hy⟩
end Fth
namespace Fth
open Go
theorem Ev.up{p:Nat->Prop}(k:Nat)(h:Ev p):Ev λN=>p (N+k):=let ⟨n,hn⟩:=h;⟨n,λN hN=>hn _ om⟩
theorem Ev.down{p:Nat->Prop}(k:Nat)(h:Ev λN=>p (N+k)):Ev p:=by
 obtain ⟨n,hn⟩:=h
 refine ⟨n+k,λN hN=>?_⟩
 have:=hn (N - k) om
 dsimp only at this
 rwa [Nat.sub_add_cancel om] at this
def hd(p:AL)(nm:List UInt8):Option AN:=p.funcs.find? λf=>f.name==nm
def fnd(nm:List UInt8):Nm->Option Th
 | .nil=>none
 | .bind n t o=>bif n==nm then some t else fnd nm o
 | .letrec n e o=>bif n==nm then some (.later e (.letrec n e o)) else fnd nm o
theorem Sw{nm:List UInt8}{ρ:Nm}{th:Th}(h:fnd nm ρ=some th):Ev λN=>Dr N ρ nm=some th/\GY N ρ nm=some th:=by
 revert h
 refine Nm.rec (motive_1:=λρ=>fnd nm ρ=some th->Ev λN=>Dr N ρ nm=some th/\GY N ρ nm=some th) (motive_2:=λ_=>True) ?_ ?_ ?_ ?_ ?_ ?_ ρ
 ·intro h;cases h
 ·intro n t o _ ih h
  rw [fnd] at h
  cases hn:(n==nm)
  ·rw [hn] at h
   refine Ev.down 1 ((ih h).mono λN hN=>?_)
   constructor
   ·show (bif !(n==nm) then Ed nm N o else some t)=_
    rw [hn];exact hN.1
   ·show (bif !(n==nm) then G6 nm N o else some t)=_
    rw [hn];exact hN.2
  ·rw [hn] at h
   refine Ev.down 1 (Ev.all λN=>?_)
   constructor
   ·show (bif !(n==nm) then Ed nm N o else some t)=_
    rw [hn];exact h
   ·show (bif !(n==nm) then G6 nm N o else some t)=_
    rw [hn];exact h
 ·intro n e o ih h
  rw [fnd] at h
  cases hn:(n==nm)
  ·rw [hn] at h
   refine Ev.down 1 ((ih h).mono λN hN=>?_)
   constructor
   ·show (bif !(n==nm) then Ed nm N o else some (.later e (.letrec n e o)))=_
    rw [hn];exact hN.1
   ·show (bif !(n==nm) then G6 nm N o else some (.later e (.letrec n e o)))=_
    rw [hn];exact hN.2
  ·rw [hn] at h
   refine Ev.down 1 (Ev.all λN=>?_)
   constructor
   ·show (bif !(n==nm) then Ed nm N o else some (.later e (.letrec n e o)))=_
    rw [hn];exact h
   ·show (bif !(n==nm) then G6 nm N o else some (.later e (.letrec n e o)))=_
    rw [hn];exact h
 ·trivial
 ·intros;trivial
 ·intros;trivial
def UX(ρ:Nm):List AJ->List AE->Nm->Nm
 |x::ps,a::bs,acc=>UX ρ ps bs (.bind x.name (.later a ρ) acc)
 |_,_,acc=>acc
def Ap(op:Int)(args:List AD)(r:AD×Int):Prop:=∀N,2^54<=N->EW N op args=some r/\Dj N op args=some r
def fin(r:AD×Int):Except Int Ax:=bif r.2 != 0 then .error r.2 else .ok ⟨r.1,.nil,.nil⟩
def plain(v:AD):Except Int Ax:= .ok ⟨v,.nil,.nil⟩
inductive Lk(p:AL)(m:Nat):Nat->AE->Nm->Except Int Ax->Nat->Prop
 |fuel {c e ρ} (h:m<=c):Lk p m c e ρ (.error 60) c
 |num {c e ρ} (h:c<m) (ho:e.op=1):Lk p m c e ρ (plain ⟨1,e.num,false,[]⟩) (c+1)
 |tru {c e ρ} (h:c<m) (ho:e.op=2):Lk p m c e ρ (plain ⟨2,(0,0),true,[]⟩) (c+1)
 |fls {c e ρ} (h:c<m) (ho:e.op=3):Lk p m c e ρ (plain ⟨2,(0,0),false,[]⟩) (c+1)
 |nil {c e ρ} (h:c<m) (ho:e.op=4):Lk p m c e ρ (plain ⟨3,(0,0),false,[]⟩) (c+1)
 |fail {c e ρ} (h:c<m) (ho:e.op=5):Lk p m c e ρ (.error 52) (c+1)
 |vdone {c e ρ x} (h:c<m) (ho:e.op=6) (hf:fnd e.name ρ=some (.done x.plain x.head x.tail)):Lk p m c e ρ (.ok x) (c+1)
 |vlater {c e ρ e' ρ' r c'} (h:c<m) (ho:e.op=6) (hf:fnd e.name ρ=some (.later e' ρ')) (h1:Lk p m (c+1) e' ρ' r c'):Lk p m c e ρ r c'
 |call {c e ρ f r c'} (h:c<m) (ho:e.op=7) (hf:hd p e.name=some f) (hl:f.params.length=e.args.length) (h1:Lk p m (c+1) f.body (UX ρ f.params e.args .nil) r c'):Lk p m c e ρ r c'
 |cons {c e ρ a b} (h:c<m) (ho:e.op=18) (ha:e.args=[a,b]):Lk p m c e ρ (.ok ⟨v0,.later a ρ,.later b ρ⟩) (c+1)
 |ifE {c e ρ a b d y c'} (h:c<m) (ho:e.op=19) (ha:e.args=[a,b,d]) (h1:Lk p m (c+1) a ρ (.error y) c'):Lk p m c e ρ (.error y) c'
 |ifT {c e ρ a b d x c1 r c'} (h:c<m) (ho:e.op=19) (ha:e.args=[a,b,d]) (h1:Lk p m (c+1) a ρ (.ok x) c1) (hb:x.plain.bool=true) (h2:Lk p m c1 b ρ r c'):Lk p m c e ρ r c'
 |ifF {c e ρ a b d x c1 r c'} (h:c<m) (ho:e.op=19) (ha:e.args=[a,b,d]) (h1:Lk p m (c+1) a ρ (.ok x) c1) (hb:x.plain.bool=false) (h2:Lk p m c1 d ρ r c'):Lk p m c e ρ r c'
 |caE {c e ρ a b d y c'} (h:c<m) (ho:e.op=20) (ha:e.args=[a,b,d]) (h1:Lk p m (c+1) a ρ (.error y) c'):Lk p m c e ρ (.error y) c'
 |caN {c e ρ a b d x c1 r c'} (h:c<m) (ho:e.op=20) (ha:e.args=[a,b,d]) (h1:Lk p m (c+1) a ρ (.ok x) c1) (hb:x.head.isNil=true) (h2:Lk p m c1 b ρ r c'):Lk p m c e ρ r c'
 |caC {c e ρ a b d x c1 r c'} (h:c<m) (ho:e.op=20) (ha:e.args=[a,b,d]) (h1:Lk p m (c+1) a ρ (.ok x) c1) (hb:x.head.isNil=false) (h2:Lk p m c1 d (.bind e.tail x.tail (.bind e.name x.head ρ)) r c'):Lk p m c e ρ r c'
 |lt {c e ρ a b r c'} (h:c<m) (ho:e.op=21) (ha:e.args=[a,b]) (h1:Lk p m (c+1) b (.letrec e.name a ρ) r c'):Lk p m c e ρ r c'
 |stE {c e ρ a b y c'} (h:c<m) (ho:e.op=22) (ha:e.args=[a,b]) (h1:Lk p m (c+1) a ρ (.error y) c'):Lk p m c e ρ (.error y) c'
 |stV {c e ρ a b x c1 r c'} (h:c<m) (ho:e.op=22) (ha:e.args=[a,b]) (h1:Lk p m (c+1) a ρ (.ok x) c1) (h2:Lk p m c1 b (.bind e.name (.done x.plain x.head x.tail) ρ) r c'):Lk p m c e ρ r c'
 |unE {c e ρ a y c'} (h:c<m) (ho:14<=e.op/\e.op<=17) (ha:e.args=[a]) (h1:Lk p m (c+1) a ρ (.error y) c'):Lk p m c e ρ (.error y) c'
 |un {c e ρ a x c' r} (h:c<m) (ho:14<=e.op/\e.op<=17) (ha:e.args=[a]) (h1:Lk p m (c+1) a ρ (.ok x) c') (hr:Ap e.op [x.plain] r):Lk p m c e ρ (fin r) c'
 |biE {c e ρ a b y c'} (h:c<m) (ho:8<=e.op/\e.op<=13) (ha:e.args=[a,b]) (h1:Lk p m (c+1) a ρ (.error y) c'):Lk p m c e ρ (.error y) c'
 |biE2 {c e ρ a b x c1 y c'} (h:c<m) (ho:8<=e.op/\e.op<=13) (ha:e.args=[a,b]) (h1:Lk p m (c+1) a ρ (.ok x) c1) (h2:Lk p m c1 b ρ (.error y) c'):Lk p m c e ρ (.error y) c'
 |bi {c e ρ a b x c1 z c' r} (h:c<m) (ho:8<=e.op/\e.op<=13) (ha:e.args=[a,b]) (h1:Lk p m (c+1) a ρ (.ok x) c1) (h2:Lk p m c1 b ρ (.ok z) c') (hr:Ap e.op [x.plain,z.plain] r):Lk p m c e ρ (fin r) c'
theorem Pm{α:Type}(r:Except Int α){β:Type}(b:β):J1 r (λy=>some ((Except.error y:Except Int α),b)) (λx=>some ((Except.ok x:Except Int α),b))=some (r,b):=by cases r<;>rfl
def Mpp(p:AL)(mp:As):Prop:=∀nm f,hd p nm=some f->idx p.funcs (Cz mp nm)=some f
section
variable{φ:Ad}{N:Nat}{fs:List AN}{c m:Int}{mp:As}{e:AE}{ρ:Nm}
theorem LX(h:c<m):BH φ N fs c m mp e ρ=Ck φ N fs c m mp e ρ:=by
 unfold BH
 rw [show decide (c>=m)=false from decide_eq_false om];rfl
theorem Jo(h:(8<=e.op/\e.op<=17)∨(19<=e.op/\e.op<=22)):Ck φ N fs c m mp e ρ=φ.mean_run_parts fs (IntKind.i64.wrap (c+1)) m mp e ρ:=by
 unfold Ck Lb
 rw [show (e.op==1)=false by simp;omega,show (e.op==2)=false by simp;omega,show (e.op==3)=false by simp;omega,show (e.op==4)=false by simp;omega,show (e.op==5)=false by simp;omega,show (e.op==6)=false by simp;omega,show (e.op==7)=false by simp;omega,show (e.op==18)=false by simp;omega]
 simp only [cond_false]
 cases φ.mean_run_parts fs (IntKind.i64.wrap (c+1)) m mp e ρ with
 |none=>rfl
 |some x=>exact Pm x.1 x.2
end
section
variable{p:AL}{mp:As}{m:Nat}
theorem Wk(hp:WP p)(hmp:Mpp p mp)(hm:m<=16384){c:Nat}{e:AE}{ρ:Nm}{r:Except Int Ax}{c':Nat}(h:Lk p m c e ρ r c'):
  Ev λN=>mean_run_look N p.funcs c m mp e ρ=some (r,p.funcs,(c':Int),(m:Int)):=by
 have w1: ∀c:Nat,c<m->IntKind.i64.wrap ((c:Int)+1)=((c+1:Nat):Int):=λc h=>by rw [wr om om];omega
 have lt: ∀c:Nat,c<m->(c:Int)< (m:Int):=λc h=>om
 induction h with
 | @fuel c e ρ h=>
  refine Ev.down 1 (Ev.all λN=>?_)
  show BH _ N p.funcs c m mp e ρ=_
  unfold BH
  rw [show decide ((c:Int)>=(m:Int))=true from decide_eq_true om];rfl
 | @num c e ρ h ho=>
  refine Ev.down 1 (Ev.all λN=>?_)
  show BH _ N p.funcs c m mp e ρ=_
  rw [LX (lt c h)];unfold Ck;rw [ho,w1 c h];rfl
 | @tru c e ρ h ho=>
  refine Ev.down 1 (Ev.all λN=>?_)
  show BH _ N p.funcs c m mp e ρ=_
  rw [LX (lt c h)];unfold Ck;rw [ho,w1 c h];rfl
 | @fls c e ρ h ho=>
  refine Ev.down 1 (Ev.all λN=>?_)
  show BH _ N p.funcs c m mp e ρ=_
  rw [LX (lt c h)];unfold Ck;rw [ho,w1 c h];rfl
 | @nil c e ρ h ho=>
  refine Ev.down 1 (Ev.all λN=>?_)
  show BH _ N p.funcs c m mp e ρ=_
  rw [LX (lt c h)];unfold Ck;rw [ho,w1 c h];rfl
 | @fail c e ρ h ho=>
  refine Ev.down 1 (Ev.all λN=>?_)
  show BH _ N p.funcs c m mp e ρ=_
  rw [LX (lt c h)];unfold Ck;rw [ho,w1 c h];rfl
 | @vdone c e ρ x h ho hf=>
  refine Ev.down 2 (((Sw hf).up 1).mono λN hN=>?_)
  show BH _ (N+1) p.funcs c m mp e ρ=_
  rw [LX (lt c h)];unfold Ck;rw [ho,w1 c h]
  show ((Dr (N+1) ρ e.name).bind λx1087=>_)=_
  rw [hN.1];rfl
 | @vlater c e ρ e' ρ' r c' h ho hf _ ih=>
  refine Ev.down 3 ((((Sw hf).up 2).and ih).mono λN hN=>?_)
  show BH _ (N+2) p.funcs c m mp e ρ=_
  rw [LX (lt c h)];unfold Ck;rw [ho,w1 c h]
  show ((Dr (N+2) ρ e.name).bind λx1087=>_)=_
  rw [hN.1.1]
  show (((mean_run_look N p.funcs ((c+1:Nat):Int) m mp e' ρ').bind λx29=>J1 x29.1 (λy43=>some ((Except.error y43:Except Int Ax),x29.2.1,x29.2.2.1,x29.2.2.2)) λr45=>some ((Except.ok r45:Except Int Ax),x29.2.1,x29.2.2.1,x29.2.2.2)).bind λx1098=>J1 x1098.1 (λy1116=>some ((Except.error y1116:Except Int Ax),x1098.2.1,x1098.2.2.1,x1098.2.2.2)) λr1118=>some ((Except.ok r1118:Except Int Ax),x1098.2.1,x1098.2.2.1,x1098.2.2.2))=_
  rw [hN.2,BP]
  dsimp only
  rw [Pm,BP]
  exact Pm _ _
 | @call c e ρ f r c' h ho hf hl _ ih=>
  have hfm:f∈p.funcs:=List.mem_of_find?_eq_some hf
  have hps:=(hp.fns f hfm).pars
  have loop: ∀(N k i:Nat) (acc:Nm),i<=f.params.length->f.params.length<i+k->mean_run_look N p.funcs ((c+1:Nat):Int) m mp f.body (UX ρ (f.params.drop i) (e.args.drop i) acc)=some (r,p.funcs,(c':Int),(m:Int))->
    GX (Ad.at N) p.funcs c m mp e ρ f k acc (i:Int)=some (r,p.funcs,(c':Int),(m:Int)):=by
   intro N k
   induction k with
   |zero=>intro i acc _ _;omega
   |succ k ihk=>
    intro i acc hi hk hN
    show Jh _ p.funcs c m mp e ρ f (GX _ p.funcs c m mp e ρ f k) acc i=_
    unfold Jh
    cases hd':decide ((i:Int)< (f.params.length:Int))
    ·have hd':=EE hd'
     have hi':i=f.params.length:=om
     rw [cond_false,w1 c h,QW]
     have e1:f.params.drop i=[]:=by rw [hi'];exact List.drop_length
     rw [e1] at hN
     have e2:UX ρ [] (e.args.drop i) acc=acc:=by cases e.args.drop i<;>rfl
     rw [e2] at hN
     show ((mean_run_look N p.funcs ((c+1:Nat):Int) m mp f.body acc).bind λx1655=>_)=_
     rw [hN]
     exact Pm _ _
    ·have hd':=CS hd'
     have i1:i<f.params.length:=om
     have i2:i<e.args.length:=om
     obtain ⟨x,hx,hx'⟩:=Ft (xs:=f.params) (i:=(i:Int)) om hd'
     obtain ⟨a,ha,ha'⟩:=Ft (xs:=e.args) (i:=(i:Int)) om om
     rw [cond_true,hx,BP,ha,BP,wr om om,show (i:Int)+1=((i+1:Nat):Int) by omega]
     refine ihk (i+1) (.bind x.name (.later a ρ) acc) om om ?_
     have e1:f.params.drop i=x::f.params.drop (i+1):=by
      rw [List.drop_eq_getElem_cons i1];congr 1
      have:=List.getElem?_eq_getElem i1
      rw [Int.toNat_natCast,this] at hx';exact Option.some.inj hx'
     have e2:e.args.drop i=a::e.args.drop (i+1):=by
      rw [List.drop_eq_getElem_cons i2];congr 1
      have:=List.getElem?_eq_getElem i2
      rw [Int.toNat_natCast,this] at ha';exact Option.some.inj ha'
     rw [e1,e2] at hN
     exact hN
  refine Ev.down 1 ((ih.and (M2 (f.params.length+1))).mono λN hN=>?_)
  show BH _ N p.funcs c m mp e ρ=_
  rw [LX (lt c h)];unfold Ck;rw [ho]
  show ((idx p.funcs (Cz mp e.name)).bind λx1151=>GX _ p.funcs c m mp e ρ x1151 N Nm.nil 0)=_
  rw [hmp _ _ hf,BP]
  exact loop N N 0 .nil om om hN.1
 | @cons c e ρ a b h ho ha=>
  refine Ev.down 1 (Ev.all λN=>?_)
  show BH _ N p.funcs c m mp e ρ=_
  rw [LX (lt c h)];unfold Ck;rw [ho,w1 c h,ha];rfl
 | @ifE c e ρ a b d y c' h ho ha _ ih=>
  refine Ev.down 2 (ih.mono λN hN=>?_)
  show BH _ (N+1) p.funcs c m mp e ρ=_
  rw [LX (lt c h),Jo om,w1 c h]
  show A9 (Ad.at N) N p.funcs ((c+1:Nat):Int) m mp e ρ=_
  unfold A9;rw [ho,ha]
  show ((mean_run_look N p.funcs ((c+1:Nat):Int) m mp a ρ).bind λx51=>_)=_
  rw [hN];rfl
 | @ifT c e ρ a b d x c1 r c' h ho ha _ hb _ ih1 ih2=>
  refine Ev.down 2 ((ih1.and ih2).mono λN hN=>?_)
  show BH _ (N+1) p.funcs c m mp e ρ=_
  rw [LX (lt c h),Jo om,w1 c h]
  show A9 (Ad.at N) N p.funcs ((c+1:Nat):Int) m mp e ρ=_
  unfold A9;rw [ho,ha]
  show ((mean_run_look N p.funcs ((c+1:Nat):Int) m mp a ρ).bind λx51=>J1 x51.1 _ λr67=>bif r67.plain.bool then _ else _)=_
  rw [hN.1,BP]
  show (bif x.plain.bool then ((mean_run_look N p.funcs (c1:Int) m mp b ρ).bind λx107=>_) else _)=_
  rw [hb,cond_true,hN.2]
  exact Pm _ _
 | @ifF c e ρ a b d x c1 r c' h ho ha _ hb _ ih1 ih2=>
  refine Ev.down 2 ((ih1.and ih2).mono λN hN=>?_)
  show BH _ (N+1) p.funcs c m mp e ρ=_
  rw [LX (lt c h),Jo om,w1 c h]
  show A9 (Ad.at N) N p.funcs ((c+1:Nat):Int) m mp e ρ=_
  unfold A9;rw [ho,ha]
  show ((mean_run_look N p.funcs ((c+1:Nat):Int) m mp a ρ).bind λx51=>J1 x51.1 _ λr67=>bif r67.plain.bool then _ else _)=_
  rw [hN.1,BP]
  show (bif x.plain.bool then _ else ((mean_run_look N p.funcs (c1:Int) m mp d ρ).bind λx107=>_))=_
  rw [hb,cond_false,hN.2]
  exact Pm _ _
 | @caE c e ρ a b d y c' h ho ha _ ih=>
  refine Ev.down 2 (ih.mono λN hN=>?_)
  show BH _ (N+1) p.funcs c m mp e ρ=_
  rw [LX (lt c h),Jo om,w1 c h]
  show A9 (Ad.at N) N p.funcs ((c+1:Nat):Int) m mp e ρ=_
  unfold A9;rw [ho,ha]
  show ((mean_run_look N p.funcs ((c+1:Nat):Int) m mp a ρ).bind λx51=>_)=_
  rw [hN];rfl
 | @caN c e ρ a b d x c1 r c' h ho ha _ hb _ ih1 ih2=>
  refine Ev.down 2 ((ih1.and ih2).mono λN hN=>?_)
  show BH _ (N+1) p.funcs c m mp e ρ=_
  rw [LX (lt c h),Jo om,w1 c h]
  show A9 (Ad.at N) N p.funcs ((c+1:Nat):Int) m mp e ρ=_
  unfold A9;rw [ho,ha]
  show ((mean_run_look N p.funcs ((c+1:Nat):Int) m mp a ρ).bind λx51=>J1 x51.1 _ λr67=>bif Th.isNil r67.head then _ else _)=_
  rw [hN.1,BP]
  show (bif Th.isNil x.head then ((mean_run_look N p.funcs (c1:Int) m mp b ρ).bind λx107=>_) else _)=_
  rw [hb,cond_true,hN.2]
  exact Pm _ _
 | @caC c e ρ a b d x c1 r c' h ho ha _ hb _ ih1 ih2=>
  refine Ev.down 2 ((ih1.and ih2).mono λN hN=>?_)
  show BH _ (N+1) p.funcs c m mp e ρ=_
  rw [LX (lt c h),Jo om,w1 c h]
  show A9 (Ad.at N) N p.funcs ((c+1:Nat):Int) m mp e ρ=_
  unfold A9;rw [ho,ha]
  show ((mean_run_look N p.funcs ((c+1:Nat):Int) m mp a ρ).bind λx51=>J1 x51.1 _ λr67=>bif Th.isNil r67.head then _ else _)=_
  rw [hN.1,BP]
  show (bif Th.isNil x.head then _ else ((mean_run_look N p.funcs (c1:Int) m mp d (.bind e.tail x.tail (.bind e.name x.head ρ))).bind λx107=>_))=_
  rw [hb,cond_false,hN.2]
  exact Pm _ _
 | @lt c e ρ a b r c' h ho ha _ ih=>
  refine Ev.down 2 (ih.mono λN hN=>?_)
  show BH _ (N+1) p.funcs c m mp e ρ=_
  rw [LX (lt c h),Jo om,w1 c h]
  show A9 (Ad.at N) N p.funcs ((c+1:Nat):Int) m mp e ρ=_
  unfold A9;rw [ho,ha]
  have ea:Js a=some a:=rfl
  rw [show ((21:Int)==19)=false from rfl,cond_false,show ((21:Int)==20)=false from rfl,cond_false,show ((21:Int)==21)=true from rfl,cond_true,show idx [a,b] 0=some a from rfl,BP,ea,BP,show idx [a,b] 1=some b from rfl,BP]
  show ((mean_run_look N p.funcs ((c+1:Nat):Int) m mp b (.letrec e.name a ρ)).bind λx662=>_)=_
  rw [hN]
  exact Pm _ _
 | @stE c e ρ a b y c' h ho ha _ ih=>
  refine Ev.down 2 (ih.mono λN hN=>?_)
  show BH _ (N+1) p.funcs c m mp e ρ=_
  rw [LX (lt c h),Jo om,w1 c h]
  show A9 (Ad.at N) N p.funcs ((c+1:Nat):Int) m mp e ρ=_
  unfold A9;rw [ho,ha]
  show ((mean_run_look N p.funcs ((c+1:Nat):Int) m mp a ρ).bind λx51=>_)=_
  rw [hN];rfl
 | @stV c e ρ a b x c1 r c' h ho ha _ _ ih1 ih2=>
  refine Ev.down 2 ((ih1.and ih2).mono λN hN=>?_)
  show BH _ (N+1) p.funcs c m mp e ρ=_
  rw [LX (lt c h),Jo om,w1 c h]
  show A9 (Ad.at N) N p.funcs ((c+1:Nat):Int) m mp e ρ=_
  unfold A9;rw [ho,ha]
  show ((mean_run_look N p.funcs ((c+1:Nat):Int) m mp a ρ).bind λx51=>_)=_
  rw [hN.1,BP]
  show ((mean_run_look N p.funcs (c1:Int) m mp b (.bind e.name (.done x.plain x.head x.tail) ρ)).bind λx107=>_)=_
  rw [hN.2]
  exact Pm _ _
 | @unE c e ρ a y c' h ho ha _ ih=>
  refine Ev.down 5 ((ih.up 3).mono λN hN=>?_)
  show BH _ (N+4) p.funcs c m mp e ρ=_
  rw [LX (lt c h),Jo om,w1 c h]
  show A9 (Ad.at (N+3)) (N+3) p.funcs ((c+1:Nat):Int) m mp e ρ=_
  unfold A9
  rw [show (e.op==19)=false by simp;omega,show (e.op==20)=false by simp;omega,show (e.op==21)=false by simp;omega,show (e.op==22)=false by simp;omega]
  show Bb _ (N+3) mp e ρ _ [] 0 p.funcs ((c+1:Nat):Int) m=_
  unfold Bb
  rw [ha]
  show ((mean_run_look (N+3) p.funcs ((c+1:Nat):Int) m mp a ρ).bind λx51=>_)=_
  rw [hN];rfl
 | @un c e ρ a x c' r h ho ha _ hr ih=>
  refine Ev.down 5 (((ih.up 3).and (M2 (2^54))).mono λN hN=>?_)
  show BH _ (N+4) p.funcs c m mp e ρ=_
  rw [LX (lt c h),Jo om,w1 c h]
  show A9 (Ad.at (N+3)) (N+3) p.funcs ((c+1:Nat):Int) m mp e ρ=_
  unfold A9
  rw [show (e.op==19)=false by simp;omega,show (e.op==20)=false by simp;omega,show (e.op==21)=false by simp;omega,show (e.op==22)=false by simp;omega]
  have hA:=(hr (N+3) (by have:=hN.2;omega)).1
  generalize hop:e.op=op at*
  show Bb _ (N+3) mp e ρ (DZ (Ad.at (N+3)) (N+3) mp e ρ (N+2)) [] 0 p.funcs ((c+1:Nat):Int) m=_
  unfold Bb
  rw [ha]
  show ((mean_run_look (N+3) p.funcs ((c+1:Nat):Int) m mp a ρ).bind λx51=>_)=_
  rw [hN.1,BP]
  show Bb _ (N+3) mp e ρ (DZ (Ad.at (N+3)) (N+3) mp e ρ (N+1)) [x.plain] 1 p.funcs (c':Int) m=_
  unfold Bb
  rw [ha,hop]
  show ((EW (N+3) op [x.plain]).bind λx1312=>bif (x1312.2 != 0) then _ else _)=_
  rw [hA,BP,fin]
  cases (r.2 != 0)<;>rfl
 | @biE c e ρ a b y c' h ho ha _ ih=>
  refine Ev.down 5 ((ih.up 3).mono λN hN=>?_)
  show BH _ (N+4) p.funcs c m mp e ρ=_
  rw [LX (lt c h),Jo om,w1 c h]
  show A9 (Ad.at (N+3)) (N+3) p.funcs ((c+1:Nat):Int) m mp e ρ=_
  unfold A9
  rw [show (e.op==19)=false by simp;omega,show (e.op==20)=false by simp;omega,show (e.op==21)=false by simp;omega,show (e.op==22)=false by simp;omega]
  show Bb _ (N+3) mp e ρ _ [] 0 p.funcs ((c+1:Nat):Int) m=_
  unfold Bb
  rw [ha]
  show ((mean_run_look (N+3) p.funcs ((c+1:Nat):Int) m mp a ρ).bind λx51=>_)=_
  rw [hN];rfl
 | @biE2 c e ρ a b x c1 y c' h ho ha _ _ ih1 ih2=>
  refine Ev.down 5 (((ih1.up 3).and (ih2.up 3)).mono λN hN=>?_)
  show BH _ (N+4) p.funcs c m mp e ρ=_
  rw [LX (lt c h),Jo om,w1 c h]
  show A9 (Ad.at (N+3)) (N+3) p.funcs ((c+1:Nat):Int) m mp e ρ=_
  unfold A9
  rw [show (e.op==19)=false by simp;omega,show (e.op==20)=false by simp;omega,show (e.op==21)=false by simp;omega,show (e.op==22)=false by simp;omega]
  show Bb _ (N+3) mp e ρ (DZ (Ad.at (N+3)) (N+3) mp e ρ (N+2)) [] 0 p.funcs ((c+1:Nat):Int) m=_
  unfold Bb
  rw [ha]
  show ((mean_run_look (N+3) p.funcs ((c+1:Nat):Int) m mp a ρ).bind λx51=>_)=_
  rw [hN.1,BP]
  show Bb _ (N+3) mp e ρ (DZ (Ad.at (N+3)) (N+3) mp e ρ (N+1)) [x.plain] 1 p.funcs (c1:Int) m=_
  unfold Bb
  rw [ha]
  show ((mean_run_look (N+3) p.funcs (c1:Int) m mp b ρ).bind λx51=>_)=_
  rw [hN.2];rfl
 | @bi c e ρ a b x c1 z c' r h ho ha _ _ hr ih1 ih2=>
  refine Ev.down 5 ((((ih1.up 3).and (ih2.up 3)).and (M2 (2^54))).mono λN hN=>?_)
  show BH _ (N+4) p.funcs c m mp e ρ=_
  rw [LX (lt c h),Jo om,w1 c h]
  show A9 (Ad.at (N+3)) (N+3) p.funcs ((c+1:Nat):Int) m mp e ρ=_
  unfold A9
  rw [show (e.op==19)=false by simp;omega,show (e.op==20)=false by simp;omega,show (e.op==21)=false by simp;omega,show (e.op==22)=false by simp;omega]
  have hA:=(hr (N+3) (by have:=hN.2;omega)).1
  generalize hop:e.op=op at*
  show Bb _ (N+3) mp e ρ (DZ (Ad.at (N+3)) (N+3) mp e ρ (N+2)) [] 0 p.funcs ((c+1:Nat):Int) m=_
  unfold Bb
  rw [ha]
  show ((mean_run_look (N+3) p.funcs ((c+1:Nat):Int) m mp a ρ).bind λx51=>_)=_
  rw [hN.1.1,BP]
  show Bb _ (N+3) mp e ρ (DZ (Ad.at (N+3)) (N+3) mp e ρ (N+1)) [x.plain] 1 p.funcs (c1:Int) m=_
  unfold Bb
  rw [ha]
  show ((mean_run_look (N+3) p.funcs (c1:Int) m mp b ρ).bind λx51=>_)=_
  rw [hN.1.2,BP]
  show Bb _ (N+3) mp e ρ (DZ (Ad.at (N+3)) (N+3) mp e ρ N) [x.plain,z.plain] 2 p.funcs (c':Int) m=_
  unfold Bb
  rw [ha,hop]
  show ((EW (N+3) op [x.plain,z.plain]).bind λx1312=>bif (x1312.2 != 0) then _ else _)=_
  rw [hA,BP,fin]
  cases (r.2 != 0)<;>rfl
end
end Fth
namespace Fth
open Go
def th0:Th:= .later ⟨0,[],[],0,(0,0),[],0⟩ .nil
def f0:AN:=⟨[],[],0,⟨0,[],[],0,(0,0),[],0⟩,0⟩
def hdR(o:Option AN):AN×Bool:=match o with |some f=>(f,true)|none=>(f0,false)
theorem ME{α:Type}{l:List α}{i:Nat}{x:α}(h:l[i]?=some x):l.drop i=x::l.drop (i+1):=by
 obtain ⟨hi,rfl⟩:=List.getElem?_eq_some_iff.1 h
 exact List.drop_eq_getElem_cons hi
theorem Sx{p:AL}{nm:List UInt8}{N:Nat}(hl:p.funcs.length<=1000000)(hN:p.funcs.length+2<=N):G0 N p nm=some (hdR (hd p nm)):=by
 have loop: ∀(k i:Nat),i<=p.funcs.length->p.funcs.length<i+k->Jz p nm k (i:Int)=some (hdR ((p.funcs.drop i).find? λf=>f.name==nm)):=by
  intro k
  induction k with
  |zero=>intro i _ _;omega
  |succ k ih=>
   intro i hi hk
   show LJ p nm (Jz p nm k) i=_
   unfold LJ
   cases hc:decide ((i:Int)< (p.funcs.length:Int))
   ·have hc:=EE hc
    rw [cond_false,List.drop_eq_nil_of_le om];rfl
   ·have hc:=CS hc
    obtain ⟨f,hf,hf'⟩:=Ft (xs:=p.funcs) (i:=(i:Int)) om hc
    rw [cond_true,hf,BP,wr om om,show (i:Int)+1=((i+1:Nat):Int) by omega,ME (by rwa [Int.toNat_natCast] at hf'),List.find?_cons]
    cases hn:(f.name==nm)
    ·rw [cond_false]
     exact ih (i+1) om om
    ·rfl
 have:=loop N 0 om om
 rw [List.drop_zero] at this
 exact this
def rth:Except Int Ax->Th
 | .ok x=> .done x.plain x.head x.tail
 | .error _=>th0
def rwy:Except Int Ax->Int
 | .ok _=>0
 | .error y=>y
section
variable{p:AL}{m:Nat}
theorem Pn{c:Nat}{e:AE}{ρ:Nm}{r:Except Int Ax}{c':Nat}(h:Lk p m c e ρ r c'): ∀y,r= .error y->y≠0:=by
 induction h with
 |fuel=>rintro y ⟨⟩;decide
 |fail=>rintro y ⟨⟩;decide
 |num=>rintro y ⟨⟩
 |tru=>rintro y ⟨⟩
 |fls=>rintro y ⟨⟩
 |nil=>rintro y ⟨⟩
 |vdone=>rintro y ⟨⟩
 |cons=>rintro y ⟨⟩
 |vlater _ _ _ _ ih=>exact ih
 |call _ _ _ _ _ ih=>exact ih
 |ifE _ _ _ _ ih=>exact ih
 |ifT _ _ _ _ _ _ _ ih=>exact ih
 |ifF _ _ _ _ _ _ _ ih=>exact ih
 |caE _ _ _ _ ih=>exact ih
 |caN _ _ _ _ _ _ _ ih=>exact ih
 |caC _ _ _ _ _ _ _ ih=>exact ih
 |lt _ _ _ _ ih=>exact ih
 |stE _ _ _ _ ih=>exact ih
 |stV _ _ _ _ _ _ ih=>exact ih
 |unE _ _ _ _ ih=>exact ih
 |biE _ _ _ _ ih=>exact ih
 |biE2 _ _ _ _ _ _ ih=>exact ih
 | @un c e ρ a x c' r=>
  intro y hy
  unfold fin at hy
  cases hr:(r.2 != 0)
  ·rw [hr] at hy;cases hy
  ·rw [hr] at hy;cases hy;exact Ma hr
 | @bi c e ρ a b x c1 z c' r=>
  intro y hy
  unfold fin at hy
  cases hr:(r.2 != 0)
  ·rw [hr] at hy;cases hy
  ·rw [hr] at hy;cases hy;exact Ma hr
theorem YS{N:Nat}{c y:Int}{e:AE}{ρ:Nm}(hy:y≠0):ref11_Machine_look (N+1) ⟨p,m,c,y⟩ e ρ=some (th0,⟨p,m,c,y⟩):=by
 show BJ _ N ⟨p,m,c,y⟩ e ρ=_
 unfold BJ
 rw [show (((AX.mk p m c y).why != 0))=true by simpa using hy];rfl
theorem Q6{φ:AP}{N c:Nat}{e:AE}{ρ:Nm}(h:c<m)(h1:e.op≠1):BJ φ N ⟨p,m,c,0⟩ e ρ=B4 φ N ⟨p,m,c,0⟩ e ρ (bif e.op==2 then e.op==2 else e.op==3):=by
 unfold BJ
 rw [show (((AX.mk p m c 0).why != 0))=false from rfl,cond_false,show decide ((AX.mk p m c 0).cost>=(AX.mk p m c 0).most)=false from decide_eq_false (by simp only;omega),cond_false,show (e.op==1)=false by simpa using h1,cond_false]
 cases (e.op==2)<;>rfl
theorem ACk{φ:AP}{N c:Nat}{e:AE}{ρ:Nm}(h:c<m)(hm:m<=16384)(ho:(8<=e.op/\e.op<=17)∨(19<=e.op/\e.op<=22)):BJ φ N ⟨p,m,c,0⟩ e ρ=φ.ref11_Machine_inside ⟨p,m,((c+1:Nat):Int),0⟩ e ρ:=by
 rw [Q6 h om,show (e.op==2)=false by simp;omega,show (e.op==3)=false by simp;omega]
 unfold B4
 rw [cond_false,cond_false,show (e.op==4)=false by simp;omega,show (e.op==5)=false by simp;omega,show (e.op==6)=false by simp;omega,show (e.op==7)=false by simp;omega,show (e.op==18)=false by simp;omega]
 simp only [cond_false]
 rw [wr om om,show (c:Int)+1=((c+1:Nat):Int) by omega]
 show ((φ.ref11_Machine_inside ⟨p,m,((c+1:Nat):Int),0⟩ e ρ).bind λx824=>some (x824.1,x824.2))=_
 cases φ.ref11_Machine_inside ⟨p,m,((c+1:Nat):Int),0⟩ e ρ<;>rfl
theorem X6(hp:WP p)(hm:m<=16384){c:Nat}{e:AE}{ρ:Nm}{r:Except Int Ax}{c':Nat}(h:Lk p m c e ρ r c'):
  Ev λN=>ref11_Machine_look N ⟨p,m,c,0⟩ e ρ=some (rth r,⟨p,m,c',rwy r⟩):=by
 have w1: ∀c:Nat,c<m->IntKind.i64.wrap ((c:Int)+1)=((c+1:Nat):Int):=λc h=>by rw [wr om om];omega
 have go: ∀{c:Nat} {e:AE} {ρ:Nm} {r:Except Int Ax} {c':Nat},c<m->(8<=e.op/\e.op<=17)∨(19<=e.op/\e.op<=22)->(Ev λN=>BN (AP.at N) N ⟨p,m,((c+1:Nat):Int),0⟩ e ρ=some (rth r,⟨p,m,c',rwy r⟩))->
   Ev λN=>ref11_Machine_look N ⟨p,m,c,0⟩ e ρ=some (rth r,⟨p,m,c',rwy r⟩):=λ{c e ρ r c'} h ho hE=>by
  refine Ev.down 2 (hE.mono λN hN=>?_)
  show BJ (AP.at (N+1)) (N+1) ⟨p,m,c,0⟩ e ρ=_
  rw [ACk h hm ho]
  exact hN
 induction h with
 | @fuel c e ρ h=>
  refine Ev.down 1 (Ev.all λN=>?_)
  show BJ _ N ⟨p,m,c,0⟩ e ρ=_
  unfold BJ
  rw [show (((AX.mk p m c 0).why != 0))=false from rfl,cond_false,show decide ((AX.mk p m c 0).cost>=(AX.mk p m c 0).most)=true from decide_eq_true (by simp only;omega)];rfl
 | @num c e ρ h ho=>
  refine Ev.down 1 (Ev.all λN=>?_)
  show BJ _ N ⟨p,m,c,0⟩ e ρ=_
  unfold BJ
  rw [show (((AX.mk p m c 0).why != 0))=false from rfl,cond_false,show decide ((AX.mk p m c 0).cost>=(AX.mk p m c 0).most)=false from decide_eq_false (by simp only;omega),ho,w1 c h];rfl
 | @tru c e ρ h ho=>
  refine Ev.down 1 (Ev.all λN=>?_)
  show BJ _ N ⟨p,m,c,0⟩ e ρ=_
  rw [Q6 h om];unfold B4;rw [ho,w1 c h];rfl
 | @fls c e ρ h ho=>
  refine Ev.down 1 (Ev.all λN=>?_)
  show BJ _ N ⟨p,m,c,0⟩ e ρ=_
  rw [Q6 h om];unfold B4;rw [ho,w1 c h];rfl
 | @nil c e ρ h ho=>
  refine Ev.down 1 (Ev.all λN=>?_)
  show BJ _ N ⟨p,m,c,0⟩ e ρ=_
  rw [Q6 h om];unfold B4;rw [ho,w1 c h];rfl
 | @fail c e ρ h ho=>
  refine Ev.down 1 (Ev.all λN=>?_)
  show BJ _ N ⟨p,m,c,0⟩ e ρ=_
  rw [Q6 h om];unfold B4;rw [ho,w1 c h];rfl
 | @vdone c e ρ x h ho hf=>
  refine Ev.down 2 (((Sw hf).up 1).mono λN hN=>?_)
  show BJ _ (N+1) ⟨p,m,c,0⟩ e ρ=_
  rw [Q6 h om];unfold B4;rw [ho,w1 c h]
  show ((GY (N+1) ρ e.name).bind λx132=>_)=_
  rw [hN.2];rfl
 | @vlater c e ρ e' ρ' r c' h ho hf _ ih=>
  refine Ev.down 2 ((((Sw hf).up 1).and ih).mono λN hN=>?_)
  show BJ _ (N+1) ⟨p,m,c,0⟩ e ρ=_
  rw [Q6 h om];unfold B4;rw [ho,w1 c h]
  show ((GY (N+1) ρ e.name).bind λx132=>_)=_
  rw [hN.1.2]
  show (((ref11_Machine_look N ⟨p,m,((c+1:Nat):Int),0⟩ e' ρ').bind λx131=>some (x131.1,x131.2)).bind λx142=>some (x142.1,x142.2))=_
  rw [hN.2];rfl
 | @call c e ρ f r c' h ho hf hl _ ih=>
  have hfm:f∈p.funcs:=List.mem_of_find?_eq_some hf
  have hps:=(hp.fns f hfm).pars
  have hpl:=hp.len
  have loop: ∀(N k i:Nat) (acc:Nm),i<=f.params.length->f.params.length<i+k->ref11_Machine_look N ⟨p,m,((c+1:Nat):Int),0⟩ f.body (UX ρ (f.params.drop i) (e.args.drop i) acc)=some (rth r,⟨p,m,c',rwy r⟩)->
    E0 (AP.at N) ⟨p,m,c,0⟩ e ρ f.params f.body.op f.body.name f.body.tail f.body.type_ f.body.num f.body.args f.body.at_ k acc (i:Int)=some (rth r,⟨p,m,c',rwy r⟩):=by
   intro N k
   induction k with
   |zero=>intro i acc _ _;omega
   |succ k ihk=>
    intro i acc hi hk hN
    show G7 _ ⟨p,m,c,0⟩ e ρ f.params f.body.op f.body.name f.body.tail f.body.type_ f.body.num f.body.args f.body.at_ (E0 _ ⟨p,m,c,0⟩ e ρ f.params f.body.op f.body.name f.body.tail f.body.type_ f.body.num f.body.args f.body.at_ k) acc i=_
    unfold G7
    cases hd':decide ((i:Int)< (e.args.length:Int))
    ·have hd':=EE hd'
     have hi':i=f.params.length:=om
     rw [cond_false,w1 c h,QW]
     have e1:f.params.drop i=[]:=by rw [hi'];exact List.drop_length
     rw [e1] at hN
     have e2:UX ρ [] (e.args.drop i) acc=acc:=by cases e.args.drop i<;>rfl
     rw [e2] at hN
     show ((ref11_Machine_look N ⟨p,m,((c+1:Nat):Int),0⟩ f.body acc).bind λx493=>_)=_
     rw [hN];rfl
    ·have hd':=CS hd'
     have i1:i<f.params.length:=om
     obtain ⟨x,hx,hx'⟩:=Ft (xs:=f.params) (i:=(i:Int)) om om
     obtain ⟨a,ha,ha'⟩:=Ft (xs:=e.args) (i:=(i:Int)) om hd'
     rw [cond_true,hx,BP,ha,BP,wr om om,show (i:Int)+1=((i+1:Nat):Int) by omega]
     refine ihk (i+1) (.bind x.name (.later a ρ) acc) om om ?_
     rw [Int.toNat_natCast] at hx' ha'
     rw [ME hx',ME ha'] at hN
     exact hN
  refine Ev.down 1 ((ih.and (M2 (f.params.length+p.funcs.length+2))).mono λN hN=>?_)
  show BJ _ N ⟨p,m,c,0⟩ e ρ=_
  rw [Q6 h om];unfold B4;rw [ho]
  show ((G0 N p e.name).bind λx551=>JN (AP.at N) N ⟨p,m,c,0⟩ e ρ x551.1.params x551.1.body.op x551.1.body.name x551.1.body.tail x551.1.body.type_ x551.1.body.num x551.1.body.args x551.1.body.at_)=_
  rw [Sx om om,hf,BP]
  exact loop N N 0 .nil om om hN.1
 | @cons c e ρ a b h ho ha=>
  refine Ev.down 1 (Ev.all λN=>?_)
  show BJ _ N ⟨p,m,c,0⟩ e ρ=_
  rw [Q6 h om];unfold B4 JO;rw [ho,w1 c h,ha];rfl
 | @ifE c e ρ a b d y c' h ho ha h1 ih=>
  have hy:=Pn h1 y rfl
  refine go h om (Ev.down 1 ((ih.up 1).mono λN hN=>?_))
  unfold BN;rw [ho,ha]
  show ((ref11_Machine_look (N+1) ⟨p,m,((c+1:Nat):Int),0⟩ a ρ).bind λx44=>_)=_
  rw [hN]
  show ((ref11_Machine_look (N+1) ⟨p,m,c',y⟩ d ρ).bind λx154=>_)=_
  rw [YS hy];rfl
 | @ifT c e ρ a b d x c1 r c' h ho ha _ hb _ ih1 ih2=>
  refine go h om ((ih1.and ih2).mono λN hN=>?_)
  unfold BN;rw [ho,ha]
  show ((ref11_Machine_look N ⟨p,m,((c+1:Nat):Int),0⟩ a ρ).bind λx44=>_)=_
  rw [hN.1]
  show (bif x.plain.bool then ((ref11_Machine_look N ⟨p,m,c1,0⟩ b ρ).bind λx154=>some (x154.1,x154.2)) else _)=_
  rw [hb,cond_true,hN.2];rfl
 | @ifF c e ρ a b d x c1 r c' h ho ha _ hb _ ih1 ih2=>
  refine go h om ((ih1.and ih2).mono λN hN=>?_)
  unfold BN;rw [ho,ha]
  show ((ref11_Machine_look N ⟨p,m,((c+1:Nat):Int),0⟩ a ρ).bind λx44=>_)=_
  rw [hN.1]
  show (bif x.plain.bool then _ else ((ref11_Machine_look N ⟨p,m,c1,0⟩ d ρ).bind λx154=>some (x154.1,x154.2)))=_
  rw [hb,cond_false,hN.2];rfl
 | @caE c e ρ a b d y c' h ho ha h1 ih=>
  have hy:=Pn h1 y rfl
  refine go h om (Ev.down 1 ((ih.up 1).mono λN hN=>?_))
  unfold BN;rw [ho,ha]
  show ((ref11_Machine_look (N+1) ⟨p,m,((c+1:Nat):Int),0⟩ a ρ).bind λx44=>_)=_
  rw [hN,BP]
  show (bif (y != 0) then Ce (AP.at (N+1)) e ρ (th0,⟨p,m,c',y⟩) true else _)=_
  rw [show (y != 0)=true by simpa using hy,cond_true]
  unfold Ce
  rw [ha]
  show ((ref11_Machine_look (N+1) ⟨p,m,c',y⟩ b ρ).bind λx273=>_)=_
  rw [YS hy];rfl
 | @caN c e ρ a b d x c1 r c' h ho ha _ hb _ ih1 ih2=>
  refine go h om ((ih1.and ih2).mono λN hN=>?_)
  unfold BN;rw [ho,ha]
  show ((ref11_Machine_look N ⟨p,m,((c+1:Nat):Int),0⟩ a ρ).bind λx44=>_)=_
  rw [hN.1,BP]
  show Ce (AP.at N) e ρ (.done x.plain x.head x.tail,⟨p,m,c1,0⟩) (!!x.head.isNil)=_
  unfold Ce
  rw [ha,hb]
  show ((ref11_Machine_look N ⟨p,m,c1,0⟩ b ρ).bind λx273=>_)=_
  rw [hN.2];rfl
 | @caC c e ρ a b d x c1 r c' h ho ha _ hb _ ih1 ih2=>
  refine go h om ((ih1.and ih2).mono λN hN=>?_)
  unfold BN;rw [ho,ha]
  show ((ref11_Machine_look N ⟨p,m,((c+1:Nat):Int),0⟩ a ρ).bind λx44=>_)=_
  rw [hN.1,BP]
  show Ce (AP.at N) e ρ (.done x.plain x.head x.tail,⟨p,m,c1,0⟩) (!!x.head.isNil)=_
  unfold Ce
  rw [ha,hb]
  show ((ref11_Machine_look N ⟨p,m,c1,0⟩ d (.bind e.tail x.tail (.bind e.name x.head ρ))).bind λx273=>_)=_
  rw [hN.2];rfl
 | @lt c e ρ a b r c' h ho ha _ ih=>
  refine go h om (ih.mono λN hN=>?_)
  unfold BN
  rw [ho,ha,show ((21:Int)==19)=false from rfl,cond_false,show ((21:Int)==20)=false from rfl,cond_false,show ((21:Int)==21)=true from rfl,cond_true,show idx [a,b] 0=some a from rfl,BP,show idx [a,b] 1=some b from rfl,BP]
  show ((ref11_Machine_look N ⟨p,m,((c+1:Nat):Int),0⟩ b (.letrec e.name a ρ)).bind λx735=>_)=_
  rw [hN];rfl
 | @stE c e ρ a b y c' h ho ha h1 ih=>
  have hy:=Pn h1 y rfl
  refine go h om (Ev.down 1 ((ih.up 1).mono λN hN=>?_))
  unfold BN;rw [ho,ha]
  show ((ref11_Machine_look (N+1) ⟨p,m,((c+1:Nat):Int),0⟩ a ρ).bind λx44=>_)=_
  rw [hN]
  show ((ref11_Machine_look (N+1) ⟨p,m,c',y⟩ b (.bind e.name th0 ρ)).bind λx154=>_)=_
  rw [YS hy];rfl
 | @stV c e ρ a b x c1 r c' h ho ha _ _ ih1 ih2=>
  refine go h om ((ih1.and ih2).mono λN hN=>?_)
  unfold BN;rw [ho,ha]
  show ((ref11_Machine_look N ⟨p,m,((c+1:Nat):Int),0⟩ a ρ).bind λx44=>_)=_
  rw [hN.1]
  show ((ref11_Machine_look N ⟨p,m,c1,0⟩ b (.bind e.name (.done x.plain x.head x.tail) ρ)).bind λx154=>_)=_
  rw [hN.2];rfl
 | @unE c e ρ a y c' h ho ha h1 ih=>
  have hy:=Pn h1 y rfl
  refine go h om (Ev.down 3 ((ih.up 3).mono λN hN=>?_))
  unfold BN
  rw [show (e.op==19)=false by simp;omega,show (e.op==20)=false by simp;omega,show (e.op==21)=false by simp;omega,show (e.op==22)=false by simp;omega]
  show Av (AP.at (N+3)) (N+3) e ρ (BO (AP.at (N+3)) (N+3) e ρ (N+2)) [] 0 p.funcs m ((c+1:Nat):Int) 0=_
  unfold Av
  rw [ha]
  show ((ref11_Machine_look (N+3) ⟨p,m,((c+1:Nat):Int),0⟩ a ρ).bind λx44=>_)=_
  rw [hN,BP]
  show Av (AP.at (N+3)) (N+3) e ρ (BO (AP.at (N+3)) (N+3) e ρ (N+1)) [Mh] 1 p.funcs m c' y=_
  unfold Av
  rw [ha]
  show (bif (y != 0) then _ else _)=_
  rw [show (y != 0)=true by simpa using hy];rfl
 | @un c e ρ a x c' r h ho ha _ hr ih=>
  refine go h om (Ev.down 3 (((ih.up 3).and (M2 (2^54))).mono λN hN=>?_))
  unfold BN
  rw [show (e.op==19)=false by simp;omega,show (e.op==20)=false by simp;omega,show (e.op==21)=false by simp;omega,show (e.op==22)=false by simp;omega]
  have hA:=(hr (N+3) (by have:=hN.2;omega)).2
  generalize hop:e.op=op at*
  show Av (AP.at (N+3)) (N+3) e ρ (BO (AP.at (N+3)) (N+3) e ρ (N+2)) [] 0 p.funcs m ((c+1:Nat):Int) 0=_
  unfold Av
  rw [ha]
  show ((ref11_Machine_look (N+3) ⟨p,m,((c+1:Nat):Int),0⟩ a ρ).bind λx44=>_)=_
  rw [hN.1,BP]
  show Av (AP.at (N+3)) (N+3) e ρ (BO (AP.at (N+3)) (N+3) e ρ (N+1)) [x.plain] 1 p.funcs m c' 0=_
  unfold Av
  rw [ha,hop]
  show ((Dj (N+3) op [x.plain]).bind λx1299=>bif (x1299.2 != 0) then _ else _)=_
  rw [hA,BP,fin]
  cases (r.2 != 0)<;>rfl
 | @biE c e ρ a b y c' h ho ha h1 ih=>
  have hy:=Pn h1 y rfl
  refine go h om (Ev.down 3 ((ih.up 3).mono λN hN=>?_))
  unfold BN
  rw [show (e.op==19)=false by simp;omega,show (e.op==20)=false by simp;omega,show (e.op==21)=false by simp;omega,show (e.op==22)=false by simp;omega]
  show Av (AP.at (N+3)) (N+3) e ρ (BO (AP.at (N+3)) (N+3) e ρ (N+2)) [] 0 p.funcs m ((c+1:Nat):Int) 0=_
  unfold Av
  rw [ha]
  show ((ref11_Machine_look (N+3) ⟨p,m,((c+1:Nat):Int),0⟩ a ρ).bind λx44=>_)=_
  rw [hN,BP]
  show Av (AP.at (N+3)) (N+3) e ρ (BO (AP.at (N+3)) (N+3) e ρ (N+1)) [Mh] 1 p.funcs m c' y=_
  unfold Av
  rw [ha]
  show ((ref11_Machine_look (N+3) ⟨p,m,c',y⟩ b ρ).bind λx44=>_)=_
  rw [YS hy,BP]
  show Av (AP.at (N+3)) (N+3) e ρ (BO (AP.at (N+3)) (N+3) e ρ N) [Mh,Mh] 2 p.funcs m c' y=_
  unfold Av
  rw [ha]
  show (bif (y != 0) then _ else _)=_
  rw [show (y != 0)=true by simpa using hy];rfl
 | @biE2 c e ρ a b x c1 y c' h ho ha _ h2 ih1 ih2=>
  have hy:=Pn h2 y rfl
  refine go h om (Ev.down 3 (((ih1.up 3).and (ih2.up 3)).mono λN hN=>?_))
  unfold BN
  rw [show (e.op==19)=false by simp;omega,show (e.op==20)=false by simp;omega,show (e.op==21)=false by simp;omega,show (e.op==22)=false by simp;omega]
  show Av (AP.at (N+3)) (N+3) e ρ (BO (AP.at (N+3)) (N+3) e ρ (N+2)) [] 0 p.funcs m ((c+1:Nat):Int) 0=_
  unfold Av
  rw [ha]
  show ((ref11_Machine_look (N+3) ⟨p,m,((c+1:Nat):Int),0⟩ a ρ).bind λx44=>_)=_
  rw [hN.1,BP]
  show Av (AP.at (N+3)) (N+3) e ρ (BO (AP.at (N+3)) (N+3) e ρ (N+1)) [x.plain] 1 p.funcs m c1 0=_
  unfold Av
  rw [ha]
  show ((ref11_Machine_look (N+3) ⟨p,m,c1,0⟩ b ρ).bind λx44=>_)=_
  rw [hN.2,BP]
  show Av (AP.at (N+3)) (N+3) e ρ (BO (AP.at (N+3)) (N+3) e ρ N) [x.plain,Mh] 2 p.funcs m c' y=_
  unfold Av
  rw [ha]
  show (bif (y != 0) then _ else _)=_
  rw [show (y != 0)=true by simpa using hy];rfl
 | @bi c e ρ a b x c1 z c' r h ho ha _ _ hr ih1 ih2=>
  refine go h om (Ev.down 3 ((((ih1.up 3).and (ih2.up 3)).and (M2 (2^54))).mono λN hN=>?_))
  unfold BN
  rw [show (e.op==19)=false by simp;omega,show (e.op==20)=false by simp;omega,show (e.op==21)=false by simp;omega,show (e.op==22)=false by simp;omega]
  have hA:=(hr (N+3) (by have:=hN.2;omega)).2
  generalize hop:e.op=op at*
  show Av (AP.at (N+3)) (N+3) e ρ (BO (AP.at (N+3)) (N+3) e ρ (N+2)) [] 0 p.funcs m ((c+1:Nat):Int) 0=_
  unfold Av
  rw [ha]
  show ((ref11_Machine_look (N+3) ⟨p,m,((c+1:Nat):Int),0⟩ a ρ).bind λx44=>_)=_
  rw [hN.1.1,BP]
  show Av (AP.at (N+3)) (N+3) e ρ (BO (AP.at (N+3)) (N+3) e ρ (N+1)) [x.plain] 1 p.funcs m c1 0=_
  unfold Av
  rw [ha]
  show ((ref11_Machine_look (N+3) ⟨p,m,c1,0⟩ b ρ).bind λx44=>_)=_
  rw [hN.1.2,BP]
  show Av (AP.at (N+3)) (N+3) e ρ (BO (AP.at (N+3)) (N+3) e ρ N) [x.plain,z.plain] 2 p.funcs m c' 0=_
  unfold Av
  rw [ha,hop]
  show ((Dj (N+3) op [x.plain,z.plain]).bind λx1299=>bif (x1299.2 != 0) then _ else _)=_
  rw [hA,BP,fin]
  cases (r.2 != 0)<;>rfl
end
end Fth
namespace Fth
open Go
def Ri(Γ:List AJ)(nm:List UInt8):Option Int:=(Γ.find? λx=>x.name==nm).map (·.type_)
def Win(Γ:List AJ)(e:AE)(i:Nat):List AJ:=
 if e.op=21∨(e.op=22/\i=1) then ⟨e.name,e.type_,0⟩::Γ else if e.op=20/\i=2 then ⟨e.tail,3,0⟩::⟨e.name,1,0⟩::Γ else Γ
def Wan(p:AL)(e:AE)(i:Nat)(t:Int):Int:=
 if e.op=14 then 2 else if e.op=18/\i=1 then 3 else if e.op=7 then (match (hd p e.name).bind λf=>f.params[i]? with |some x=>x.type_|none=>1)
 else if e.op=19 then (if i=0 then 2 else t) else if e.op=20 then (if i=0 then 3 else t) else if e.op=21∨e.op=22 then (if i=0 then e.type_ else t) else 1
structure OwT(p:AL)(Γ:List AJ)(e:AE)(t:Int):Prop where
 n:(e.op=1∨(8<=e.op/\e.op<=11)∨(15<=e.op/\e.op<=17))->t=1
 b:(e.op=2∨e.op=3∨(12<=e.op/\e.op<=14))->t=2
 l:(e.op=4∨e.op=18)->t=3
 f:e.op=5->t=e.type_
 v:e.op=6->Ri Γ e.name=some t
 c:e.op=7->∃f,hd p e.name=some f/\f.params.length=e.args.length/\f.type_=t
inductive WTy(p:AL):List AJ->AE->Int->Prop
 |mk (Γ:List AJ) (e:AE) (t:Int) (ho:OwT p Γ e t) (hs: ∀i a,e.args[i]?=some a->WTy p (Win Γ e i) a (Wan p e i t)):WTy p Γ e t
theorem WTy.own{p Γ e t}(h:WTy p Γ e t):OwT p Γ e t:=by cases h;assumption
theorem WTy.sub{p Γ e t}(h:WTy p Γ e t): ∀i a,e.args[i]?=some a->WTy p (Win Γ e i) a (Wan p e i t):=by cases h;assumption
def ch:Th->Nat
 | .done _ _ t=>1+ch t
 |_=>0
mutual
inductive EOK(p:AL)(L:Nat):List AJ->Nm->Prop
 |nil:EOK p L [] .nil
 |bind (x:AJ) (Γ:List AJ) (t:Th) (ρ:Nm) (ht:TOK p L x.type_ t) (he:EOK p L Γ ρ):EOK p L (x::Γ) (.bind x.name t ρ)
 |letrec (x:AJ) (Γ:List AJ) (e:AE) (ρ:Nm) (hw:WTy p (x::Γ) e x.type_) (hwe:WE e) (ht:1<=x.type_/\x.type_<=3) (he:EOK p L Γ ρ):EOK p L (x::Γ) (.letrec x.name e ρ)
inductive TOK(p:AL)(L:Nat):Int->Th->Prop
 |val (t:Int) (v:AD) (hv:VV t v) (h3:t=3->v.list=[]):TOK p L t (.done v .nil .nil)
 |pair (h t:Th) (h1:TOK p L 1 h) (h2:TOK p L 3 t) (hc:ch t<L):TOK p L 3 (.done v0 h t)
 |later (Γ:List AJ) (ρ:Nm) (e:AE) (t:Int) (he:EOK p L Γ ρ) (hw:WTy p Γ e t) (hwe:WE e) (ht:1<=t/\t<=3):TOK p L t (.later e ρ)
end
section
variable{p:AL}{L m:Nat}
theorem YT{t:Int}{h:Th}(hh:TOK p L t h):h.isNil=false:=by cases hh<;>rfl
theorem Q7{t:Int}{x:Ax}(h:TOK p L t (.done x.plain x.head x.tail))(h3:t≠3):VV t x.plain:=by
 obtain ⟨pl,hh,tl⟩:=x
 cases h with
 |val _ _ hv _=>exact hv
 |pair=>exact absurd rfl h3
theorem ACQ{nm:List UInt8}: ∀(Γ:List AJ) (ρ:Nm) (t:Int),EOK p L Γ ρ->Ri Γ nm=some t->∃th,fnd nm ρ=some th/\TOK p L t th:=by
 intro Γ
 induction Γ with
 |nil=>intro ρ t _ h;simp [Ri] at h
 |cons x Γ ih=>
  intro ρ t he h
  unfold Ri at h
  rw [List.find?_cons] at h
  cases he with
  |bind _ _ th ρ ht he=>
   rw [fnd]
   cases hn:(x.name==nm)
   ·rw [hn] at h
    exact ih ρ t he h
   ·rw [hn] at h
    cases h
    exact ⟨th,rfl,ht⟩
  |letrec _ _ e ρ hw hwe ht he=>
   rw [fnd]
   cases hn:(x.name==nm)
   ·rw [hn] at h
    exact ih ρ t he h
   ·rw [hn] at h
    cases h
    exact ⟨_,rfl,.later (x::Γ) _ _ _ (.letrec x Γ e ρ hw hwe ht he) hw hwe ht⟩
theorem Z8{Γ:List AJ}{ρ:Nm}(hρ:EOK p L Γ ρ): ∀(ps:List AJ) (zs:List AE) (Δ:List AJ) (acc:Nm),ps.length=zs.length->EOK p L Δ acc->
  (∀(i:Nat) (x:AJ) (a:AE),ps[i]?=some x->zs[i]?=some a->WTy p Γ a x.type_/\WE a/\1<=x.type_/\x.type_<=3)->EOK p L (ps.reverse++Δ) (UX ρ ps zs acc):=by
 intro ps
 induction ps with
 |nil=>intro zs Δ acc h he _;cases zs with
  |nil=>exact he
  |cons=>cases h
 |cons x ps ih=>
  intro zs Δ acc h he ha
  cases zs with
  |nil=>cases h
  |cons a zs=>
   have h0:=ha 0 x a rfl rfl
   have:=ih zs (x::Δ) (.bind x.name (.later a ρ) acc) (by simpa using h) (.bind x Δ _ acc (.later Γ ρ a x.type_ hρ h0.1 h0.2.1 h0.2.2) he) λi y b h1 h2=>ha (i+1) y b h1 h2
   rw [List.reverse_cons,List.append_assoc]
   exact this
def Rt(p:AL)(L m:Nat)(t:Int)(r:Except Int Ax)(c c':Nat):Prop:=
 match r with
 | .ok x=>TOK p L t (.done x.plain x.head x.tail)/\c<c'
 | .error y=>(y=60/\c'=m)∨((y=50∨y=51∨y=52)/\c<c')
theorem Rt.back{t t':Int}{r:Except Int Ax}{c c1 c':Nat}(h:Rt p L m t r c1 c')(hc:c<=c1)(ht:t=t'):Rt p L m t' r c c':=by
 subst ht
 cases r with
 |ok x=>exact ⟨h.1,by have:=h.2;omega⟩
 |error y=>exact h.imp id λh=>⟨h.1,by have:=h.2;omega⟩
theorem Rt.err{t t' y:Int}{c c1 c':Nat}(h:Rt p L m t (.error y) c1 c')(hc:c<=c1):Rt p L m t' (.error y) c c':=
 Or.imp id (λh=>⟨h.1,by have:=h.2;omega⟩) h
theorem Rj{α:Type}{l:List α}(h:l.length=2): ∃a b,l=[a,b]:=by
 match l,h with
 | [a,b],_=>exact ⟨a,b,rfl⟩
theorem UY{α:Type}{l:List α}(h:l.length=3): ∃a b c,l=[a,b,c]:=by
 match l,h with
 | [a,b,c],_=>exact ⟨a,b,c,rfl⟩
theorem ACR{α:Type}{l:List α}(h:l.length=1): ∃a,l=[a]:=by
 match l,h with
 | [a],_=>exact ⟨a,rfl⟩
theorem Z9(hp:WP p)(hS: ∀f∈p.funcs,WTy p f.params.reverse f.body f.type_)(hL:1<=L): ∀(k c:Nat),m - c<=k->c<=m->∀(Γ:List AJ) (e:AE) (ρ:Nm) (t:Int),EOK p L Γ ρ->WTy p Γ e t->WE e->1<=t/\t<=3->
  ∃r c',Lk p m c e ρ r c'/\c<=c'/\c'<=m/\Rt p L m t r c c':=by
 intro k
 induction k with
 |zero=>
  intro c hk hc Γ e ρ t _ _ _ _
  exact ⟨_,_,.fuel om,om,hc,.inl ⟨rfl,om⟩⟩
 |succ k ih=>
  intro c hk hc Γ e ρ t hρ hw he ht
  rcases Nat.lt_or_ge c m with h|h
  rotate_left
  ·exact ⟨_,_,.fuel h,om,hc,.inl ⟨rfl,om⟩⟩
  have ow:=hw.own
  have sb:=hw.sub
  have se:=he.sub
  have mem: ∀{i:Nat} {a:AE},e.args[i]?=some a->WE a:=λh=>se _ (List.mem_of_getElem? h)
  rcases he.ar with ⟨h1,h2,h3⟩|h7| ⟨h1,h2,h3⟩| ⟨h1,h2,h3⟩| ⟨h1,h3⟩| ⟨h1,h2,h3⟩| ⟨h1,h2,h3⟩
  ·have hh:e.op=1∨e.op=2∨e.op=3∨e.op=4∨e.op=5∨e.op=6:=om
   rcases hh with ho|ho|ho|ho|ho|ho
   ·refine ⟨_,_,.num h ho,om,om,?_,om⟩
    rw [ow.n (.inl ho)]
    exact .val 1 _ (.inl ⟨rfl,rfl,he.num ho,rfl,rfl⟩) λh=>by cases h
   ·refine ⟨_,_,.tru h ho,om,om,?_,om⟩
    rw [ow.b (.inl ho)]
    exact .val 2 _ (Y5 _) λh=>by cases h
   ·refine ⟨_,_,.fls h ho,om,om,?_,om⟩
    rw [ow.b (.inr (.inl ho))]
    exact .val 2 _ (Y5 _) λh=>by cases h
   ·refine ⟨_,_,.nil h ho,om,om,?_,om⟩
    rw [ow.l (.inl ho)]
    exact .val 3 _ (.inr (.inr ⟨rfl,rfl,rfl,rfl,by simp⟩)) λ_=>rfl
   ·exact ⟨_,_,.fail h ho,om,om,.inr ⟨.inr (.inr rfl),om⟩⟩
   ·obtain ⟨th,hf,htok⟩:=ACQ Γ ρ t hρ (ow.v ho)
    cases th with
    |nil=>cases htok
    |done pl hh tl=>exact ⟨_,_,.vdone (x:=⟨pl,hh,tl⟩) h ho hf,om,om,htok,om⟩
    |later e' ρ'=>
     cases htok with
     |later Γ' _ _ _ he' hw' hwe' ht'=>
      obtain ⟨r,c',h1,h2,h3,h4⟩:=ih (c+1) om om Γ' e' ρ' t he' hw' hwe' ht'
      exact ⟨r,c',.vlater h ho hf h1,om,h3,h4.back om rfl⟩
  ·obtain ⟨f,hf,hl,hft⟩:=ow.c h7
   have hfm:f∈p.funcs:=List.mem_of_find?_eq_some hf
   have hfn:=hp.fns f hfm
   have henv:=Z8 hρ f.params e.args [] .nil hl .nil λi x a hx ha=>by
    have h1:=sb i a ha
    have e1:Win Γ e i=Γ:=by unfold Win;rw [if_neg om,if_neg om]
    have e2:Wan p e i t=x.type_:=by
     unfold Wan
     rw [if_neg om,if_neg om,if_pos h7,hf]
     show (match f.params[i]? with |some x=>x.type_|none=>1)=_
     rw [hx]
    rw [e1,e2] at h1
    exact ⟨h1,mem ha,hfn.ptyp x (List.mem_of_getElem? hx)⟩
   rw [List.append_nil] at henv
   obtain ⟨r,c',h1,h2,h3,h4⟩:=ih (c+1) om om _ f.body _ f.type_ henv (hS f hfm) hfn.body hfn.typ
   exact ⟨r,c',.call h h7 hf hl h1,om,h3,h4.back om hft⟩
  ·
   obtain ⟨a,b,ha⟩:=Rj h3
   have wa:=sb 0 a (by rw [ha];rfl)
   have wb:=sb 1 b (by rw [ha];rfl)
   have e1: ∀i,Win Γ e i=Γ:=λi=>by unfold Win;rw [if_neg om,if_neg om]
   have e2: ∀i,Wan p e i t=1:=λi=>by unfold Wan;rw [if_neg om,if_neg om,if_neg om,if_neg om,if_neg om,if_neg om]
   rw [e1,e2] at wa wb
   obtain ⟨r1,c1,l1,l2,l3,l4⟩:=ih (c+1) om om Γ a ρ 1 hρ wa (mem (i:=0) (by rw [ha];rfl)) om
   cases r1 with
   |error y=>exact ⟨_,c1,.biE h ⟨h1,h2⟩ ha l1,om,l3,l4.err om⟩
   |ok x=>
    obtain ⟨r2,c2,k1,k2,k3,k4⟩:=ih c1 om l3 Γ b ρ 1 hρ wb (mem (i:=1) (by rw [ha];rfl)) om
    cases r2 with
    |error y=>exact ⟨_,c2,.biE2 h ⟨h1,h2⟩ ha l1 k1,om,k3,k4.err om⟩
    |ok z=>
     have vx:VV 1 x.plain:=Q7 l4.1 (by decide)
     have vz:VV 1 z.plain:=Q7 k4.1 (by decide)
     obtain ⟨r,hr,hA⟩:=XY (op:=e.op) (args:=[x.plain,z.plain]) (.inl ⟨h1,h2,_,_,vx,vz,rfl⟩)
     refine ⟨fin r,c2,.bi h ⟨h1,h2⟩ ha l1 k1 hA,om,k3,?_⟩
     unfold fin
     rcases hr with ⟨hr0,hv⟩| ⟨hr0,_⟩
     ·rw [show (r.2 != 0)=false by rw [hr0];rfl]
      have hT:opT e.op=t:=by
       unfold opT
       rcases Decidable.em (e.op=12∨e.op=13∨e.op=14) with ho|ho
       ·rw [if_pos ho,ow.b om]
       ·rw [if_neg ho,ow.n om]
      refine ⟨.val t _ (hT▸hv) λh3=>?_,om⟩
      have:=hT
      unfold opT at this
      split at this<;>omega
     ·rw [show (r.2 != 0)=true by simp;omega]
      exact .inr ⟨om,om⟩
  ·
   obtain ⟨a,ha⟩:=ACR h3
   have wa:=sb 0 a (by rw [ha];rfl)
   have e1: ∀i,Win Γ e i=Γ:=λi=>by unfold Win;rw [if_neg om,if_neg om]
   have e2:Wan p e 0 t=if e.op=14 then 2 else 1:=by
    unfold Wan
    rcases Decidable.em (e.op=14) with ho|ho
    ·rw [if_pos ho,if_pos ho]
    ·rw [if_neg ho,if_neg ho,if_neg om,if_neg om,if_neg om,if_neg om,if_neg om]
   rw [e1,e2] at wa
   obtain ⟨r1,c1,l1,l2,l3,l4⟩:=ih (c+1) om om Γ a ρ _ hρ wa (mem (i:=0) (by rw [ha];rfl)) (by split<;>omega)
   cases r1 with
   |error y=>exact ⟨_,c1,.unE h ⟨h1,h2⟩ ha l1,om,l3,l4.err om⟩
   |ok x=>
    have vx:VV (if e.op=14 then 2 else 1) x.plain:=Q7 l4.1 (by split<;>decide)
    have hargs:(8<=e.op/\e.op<=13/\∃a b,VV 1 a/\VV 1 b/\[x.plain]=[a,b])∨(e.op=14/\∃a,VV 2 a/\[x.plain]=[a])∨(15<=e.op/\e.op<=17/\∃a,VV 1 a/\[x.plain]=[a]):=by
     rcases Decidable.em (e.op=14) with ho|ho
     ·rw [if_pos ho] at vx;exact .inr (.inl ⟨ho,_,vx,rfl⟩)
     ·rw [if_neg ho] at vx;exact .inr (.inr ⟨om,om,_,vx,rfl⟩)
    obtain ⟨r,hr,hA⟩:=XY hargs
    refine ⟨fin r,c1,.un h ⟨h1,h2⟩ ha l1 hA,om,l3,?_⟩
    unfold fin
    rcases hr with ⟨hr0,hv⟩| ⟨hr0,_⟩
    ·rw [show (r.2 != 0)=false by rw [hr0];rfl]
     have hT:opT e.op=t:=by
      unfold opT
      rcases Decidable.em (e.op=12∨e.op=13∨e.op=14) with ho|ho
      ·rw [if_pos ho,ow.b om]
      ·rw [if_neg ho,ow.n om]
     refine ⟨.val t _ (hT▸hv) λh3=>?_,om⟩
     have:=hT
     unfold opT at this
     split at this<;>omega
    ·rw [show (r.2 != 0)=true by simp;omega]
     exact .inr ⟨om,om⟩
  ·
   obtain ⟨a,b,ha⟩:=Rj h3
   have wa:=sb 0 a (by rw [ha];rfl)
   have wb:=sb 1 b (by rw [ha];rfl)
   have e1: ∀i,Win Γ e i=Γ:=λi=>by unfold Win;rw [if_neg om,if_neg om]
   have e2:Wan p e 0 t=1:=by unfold Wan;rw [if_neg om,if_neg om,if_neg om,if_neg om,if_neg om,if_neg om]
   have e3:Wan p e 1 t=3:=by unfold Wan;rw [if_neg om,if_pos ⟨h1,rfl⟩]
   rw [e1,e2] at wa
   rw [e1,e3] at wb
   refine ⟨_,_,.cons h h1 ha,om,om,?_,om⟩
   rw [ow.l (.inr h1)]
   exact .pair _ _ (.later Γ ρ a 1 hρ wa (mem (i:=0) (by rw [ha];rfl)) om) (.later Γ ρ b 3 hρ wb (mem (i:=1) (by rw [ha];rfl)) om) (by simp only [ch];omega)
  ·obtain ⟨a,b,d,ha⟩:=UY h3
   have wa:=sb 0 a (by rw [ha];rfl)
   have wb:=sb 1 b (by rw [ha];rfl)
   have wd:=sb 2 d (by rw [ha];rfl)
   have ma:=mem (i:=0) (a:=a) (by rw [ha];rfl)
   have mb:=mem (i:=1) (a:=b) (by rw [ha];rfl)
   have md:=mem (i:=2) (a:=d) (by rw [ha];rfl)
   rcases (show e.op=19∨e.op=20 by omega) with ho|ho
   ·have e1: ∀i,Win Γ e i=Γ:=λi=>by unfold Win;rw [if_neg om,if_neg om]
    have e2: ∀i,Wan p e i t=if i=0 then 2 else t:=λi=>by unfold Wan;rw [if_neg om,if_neg om,if_neg om,if_pos ho]
    rw [e1,e2] at wa wb wd
    obtain ⟨r1,c1,l1,l2,l3,l4⟩:=ih (c+1) om om Γ a ρ 2 hρ wa ma om
    cases r1 with
    |error y=>exact ⟨_,c1,.ifE h ho ha l1,om,l3,l4.err om⟩
    |ok x=>
     cases hb:x.plain.bool
     ·obtain ⟨r2,c2,k1,k2,k3,k4⟩:=ih c1 om l3 Γ d ρ t hρ wd md ht
      exact ⟨r2,c2,.ifF h ho ha l1 hb k1,om,k3,k4.back om rfl⟩
     ·obtain ⟨r2,c2,k1,k2,k3,k4⟩:=ih c1 om l3 Γ b ρ t hρ wb mb ht
      exact ⟨r2,c2,.ifT h ho ha l1 hb k1,om,k3,k4.back om rfl⟩
   ·have e1: ∀i,i≠2->Win Γ e i=Γ:=λi hi=>by unfold Win;rw [if_neg om,if_neg om]
    have e1':Win Γ e 2=⟨e.tail,3,0⟩::⟨e.name,1,0⟩::Γ:=by unfold Win;rw [if_neg om,if_pos ⟨ho,rfl⟩]
    have e2: ∀i,Wan p e i t=if i=0 then 3 else t:=λi=>by unfold Wan;rw [if_neg om,if_neg om,if_neg om,if_neg om,if_pos ho]
    rw [e1 _ om,e2] at wa wb
    rw [e1',e2] at wd
    obtain ⟨r1,c1,l1,l2,l3,l4⟩:=ih (c+1) om om Γ a ρ 3 hρ wa ma om
    cases r1 with
    |error y=>exact ⟨_,c1,.caE h ho ha l1,om,l3,l4.err om⟩
    |ok x=>
     obtain ⟨pl,hx,tx⟩:=x
     have hl4:=l4.1
     simp only at hl4
     generalize hT:(3:Int)=T3 at hl4
     cases hl4 with
     |val _ _ hv h3=>
      obtain ⟨r2,c2,k1,k2,k3,k4⟩:=ih c1 om l3 Γ b ρ t hρ wb mb ht
      exact ⟨r2,c2,.caN h ho ha l1 rfl k1,om,k3,k4.back om rfl⟩
     |pair _ _ t1 t2 hc=>
      have henv:EOK p L (⟨e.tail,3,0⟩::⟨e.name,1,0⟩::Γ) (.bind e.tail tx (.bind e.name hx ρ)):= .bind ⟨e.tail,3,0⟩ _ _ _ t2 (.bind ⟨e.name,1,0⟩ _ _ _ t1 hρ)
      obtain ⟨r2,c2,k1,k2,k3,k4⟩:=ih c1 om l3 _ d _ t henv wd md ht
      exact ⟨r2,c2,.caC h ho ha l1 (YT t1) k1,om,k3,k4.back om rfl⟩
  ·obtain ⟨a,b,ha⟩:=Rj h3
   have wa:=sb 0 a (by rw [ha];rfl)
   have wb:=sb 1 b (by rw [ha];rfl)
   have ma:=mem (i:=0) (a:=a) (by rw [ha];rfl)
   have mb:=mem (i:=1) (a:=b) (by rw [ha];rfl)
   have e2: ∀i,Wan p e i t=if i=0 then e.type_ else t:=λi=>by unfold Wan;rw [if_neg om,if_neg om,if_neg om,if_neg om,if_neg om,if_pos om]
   have et:=he.typ om
   rcases (show e.op=21∨e.op=22 by omega) with ho|ho
   ·have e1: ∀i,Win Γ e i=⟨e.name,e.type_,0⟩::Γ:=λi=>by unfold Win;rw [if_pos (.inl ho)]
    rw [e1,e2] at wa wb
    have henv:EOK p L (⟨e.name,e.type_,0⟩::Γ) (.letrec e.name a ρ):= .letrec ⟨e.name,e.type_,0⟩ Γ a ρ wa ma et hρ
    obtain ⟨r2,c2,k1,k2,k3,k4⟩:=ih (c+1) om om _ b _ t henv wb mb ht
    exact ⟨r2,c2,.lt h ho ha k1,om,k3,k4.back om rfl⟩
   ·have e1:Win Γ e 0=Γ:=by unfold Win;rw [if_neg om,if_neg om]
    have e1':Win Γ e 1=⟨e.name,e.type_,0⟩::Γ:=by unfold Win;rw [if_pos (.inr ⟨ho,rfl⟩)]
    rw [e1,e2] at wa
    rw [e1',e2] at wb
    obtain ⟨r1,c1,l1,l2,l3,l4⟩:=ih (c+1) om om Γ a ρ _ hρ wa ma et
    cases r1 with
    |error y=>exact ⟨_,c1,.stE h ho ha l1,om,l3,l4.err om⟩
    |ok x=>
     have henv:EOK p L (⟨e.name,e.type_,0⟩::Γ) (.bind e.name (.done x.plain x.head x.tail) ρ):= .bind ⟨e.name,e.type_,0⟩ Γ _ ρ l4.1 hρ
     obtain ⟨r2,c2,k1,k2,k3,k4⟩:=ih c1 om l3 _ b _ t henv wb mb ht
     exact ⟨r2,c2,.stV h ho ha l1 k1,om,k3,k4.back om rfl⟩
end
end Fth
namespace Fth
open Go
inductive Tg(p:AL)(m:Nat):Nat->Th->Except Int Ax->Nat->Prop
 |done {c:Nat} {x:Ax}:Tg p m c (.done x.plain x.head x.tail) (.ok x) c
 |later {c e ρ r c'} (h:Lk p m c e ρ r c'):Tg p m c (.later e ρ) r c'
inductive Wl(p:AL)(m:Nat):Nat->Th->Th->List Cpl->Except Int AD->Nat->Prop
 |hE {c h t acc y c'} (hb:acc.length<=34000000000) (h1:Tg p m c h (.error y) c'):Wl p m c h t acc (.error y) c'
 |tE {c h t acc x c1 y c'} (hb:acc.length<=34000000000) (h1:Tg p m c h (.ok x) c1) (h2:Tg p m c1 t (.error y) c'):Wl p m c h t acc (.error y) c'
 |stop {c h t acc x c1 z c'} (hb:acc.length<=34000000000) (h1:Tg p m c h (.ok x) c1) (h2:Tg p m c1 t (.ok z) c') (hz:z.head.isNil=true):Wl p m c h t acc (.ok ⟨3,(0,0),false,acc++[x.plain.num]⟩) c'
 |go {c h t acc x c1 z c2 r c'} (hb:acc.length<=34000000000) (h1:Tg p m c h (.ok x) c1) (h2:Tg p m c1 t (.ok z) c2) (hz:z.head.isNil=false) (h3:Wl p m c2 z.head z.tail (acc++[x.plain.num]) r c'):Wl p m c h t acc r c'
inductive Wh(p:AL)(m:Nat):Nat->Ax->Except Int AD->Nat->Prop
 |plain {c x} (hx:x.head.isNil=true) (hl:x.plain.list=[]):Wh p m c x (.ok x.plain) c
 |list {c x r c'} (hx:x.head.isNil=false) (h:Wl p m c x.head x.tail [] r c'):Wh p m c x r c'
inductive Rn(p:AL)(m:Nat):AE->Nm->Except Int AD->Nat->Prop
 |err {e ρ y c'} (h:Lk p m 0 e ρ (.error y) c'):Rn p m e ρ (.error y) c'
 |val {e ρ x c1 r c'} (h:Lk p m 0 e ρ (.ok x) c1) (h2:Wh p m c1 x r c'):Rn p m e ρ r c'
def rwv:Except Int AD->Int
 | .ok _=>0
 | .error y=>y
section
variable{p:AL}{m:Nat}{mp:As}
theorem AAA{c:Nat}{h:Th}{r:Except Int Ax}{c':Nat}(ht:Tg p m c h r c'): ∀y,r= .error y->y≠0:=by
 cases ht with
 |done=>rintro y ⟨⟩
 |later h=>exact Pn h
theorem Od(hp:WP p)(hmp:Mpp p mp)(hm:m<=16384){c:Nat}{h:Th}{r:Except Int Ax}{c':Nat}(ht:Tg p m c h r c'):Ev λN=>mean_callth N p.funcs c m mp h=some (r,p.funcs,(c':Int),(m:Int)):=by
 cases ht with
 |done=>exact Ev.down 1 (Ev.all λN=>rfl)
 |later h=>
  rename_i e ρ
  refine Ev.down 2 ((Wk hp hmp hm h).mono λN hN=>?_)
  show ((mean_run_look N p.funcs c m mp e ρ).bind λx29=>J1 x29.1 (λy43=>some ((Except.error y43:Except Int Ax),x29.2.1,x29.2.2.1,x29.2.2.2)) λr45=>some ((Except.ok r45:Except Int Ax),x29.2.1,x29.2.2.1,x29.2.2.2))=_
  rw [hN]
  exact Pm _ _
theorem Qa(hp:WP p)(hm:m<=16384){c:Nat}{h:Th}{r:Except Int Ax}{c':Nat}(ht:Tg p m c h r c'):Ev λN=>ref11_Machine_of N ⟨p,m,c,0⟩ h=some (rth r,⟨p,m,c',rwy r⟩):=by
 cases ht with
 |done=>exact Ev.down 1 (Ev.all λN=>rfl)
 |later h=>
  rename_i e ρ
  refine Ev.down 1 ((X6 hp hm h).mono λN hN=>?_)
  show ((ref11_Machine_look N ⟨p,m,c,0⟩ e ρ).bind λx131=>some (x131.1,x131.2))=_
  rw [hN];rfl
theorem ABH{N:Nat}{c y:Int}{h:Th}(hy:y≠0):ref11_Machine_of (N+1) ⟨p,m,c,y⟩ h=some (h,⟨p,m,c,y⟩):=by
 show Hd _ N ⟨p,m,c,y⟩ h=_
 unfold Hd
 rw [show (((AX.mk p m c y).why != 0))=true by simpa using hy];rfl
theorem UZ{acc:List Cpl}{z:Cpl}(h:acc.length<=34000000000):Gd 16 acc [z]=some ():=by
 obtain ⟨u,hu,_⟩:=HD (b:=16) (xs:=acc) (ys:=[z]) (by decide) (by simp;omega)
 exact hu
theorem ABI(hp:WP p)(hmp:Mpp p mp)(hm:m<=16384){c:Nat}{h t:Th}{acc:List Cpl}{r:Except Int AD}{c':Nat}(hw:Wl p m c h t acc r c')(hn:h.isNil=false):
  ∃k0,Ev λN=>∀k,k0<=k->∀(a:Int) (b:Cpl) (d:Bool) (l:List Cpl),D5 N mp k p.funcs c m a b d l h t acc=some (r,p.funcs,(c':Int),(m:Int)):=by
 induction hw with
 | @hE c h t acc y c' hb h1=>
  refine ⟨1,(Od hp hmp hm h1).mono λN hN k hk a b d l=>?_⟩
  obtain ⟨k,rfl⟩: ∃j,k=j+1:=⟨k - 1,om⟩
  show Cl N mp (D5 N mp k) p.funcs c m a b d l h t acc=_
  unfold Cl
  rw [hn,hN];rfl
 | @tE c h t acc x c1 y c' hb h1 h2=>
  refine ⟨1,((Od hp hmp hm h1).and (Od hp hmp hm h2)).mono λN hN k hk a b d l=>?_⟩
  obtain ⟨k,rfl⟩: ∃j,k=j+1:=⟨k - 1,om⟩
  show Cl N mp (D5 N mp k) p.funcs c m a b d l h t acc=_
  unfold Cl
  rw [hn,hN.1]
  show ((Gd 16 acc [x.plain.num]).bind λ_=>(mean_callth N p.funcs c1 m mp t).bind λx730=>_)=_
  rw [UZ hb,BP,hN.2];rfl
 | @stop c h t acc x c1 z c' hb h1 h2 hz=>
  refine ⟨2,((Od hp hmp hm h1).and (Od hp hmp hm h2)).mono λN hN k hk a b d l=>?_⟩
  obtain ⟨k,rfl⟩: ∃j,k=j+2:=⟨k - 2,om⟩
  show Cl N mp (D5 N mp (k+1)) p.funcs c m a b d l h t acc=_
  unfold Cl
  rw [hn,hN.1]
  show ((Gd 16 acc [x.plain.num]).bind λ_=>(mean_callth N p.funcs c1 m mp t).bind λx730=>_)=_
  rw [UZ hb,BP,hN.2]
  show Cl N mp (D5 N mp k) p.funcs c' m z.plain.type_ z.plain.num z.plain.bool z.plain.list z.head z.tail (acc++[x.plain.num])=_
  unfold Cl
  rw [hz];rfl
 | @go c h t acc x c1 z c2 r c' hb h1 h2 hz _ ih=>
  obtain ⟨k0,ih⟩:=ih hz
  refine ⟨k0+1,(((Od hp hmp hm h1).and (Od hp hmp hm h2)).and ih).mono λN hN k hk a b d l=>?_⟩
  obtain ⟨k,rfl⟩: ∃j,k=j+1:=⟨k - 1,om⟩
  show Cl N mp (D5 N mp k) p.funcs c m a b d l h t acc=_
  unfold Cl
  rw [hn,hN.1.1]
  show ((Gd 16 acc [x.plain.num]).bind λ_=>(mean_callth N p.funcs c1 m mp t).bind λx730=>_)=_
  rw [UZ hb,BP,hN.1.2]
  exact hN.2 k om _ _ _ _
theorem ABJ(hp:WP p)(hmp:Mpp p mp)(hm:m<=16384){c:Nat}{x:Ax}{r:Except Int AD}{c':Nat}(hw:Wh p m c x r c'):Ev λN=>GA N p.funcs c m mp x=some (r,p.funcs,(c':Int),(m:Int)):=by
 cases hw with
 |plain hx hl=>
  refine Ev.all λN=>?_
  obtain ⟨⟨ty,nu,bo,li⟩,xh,xt⟩:=x
  simp only at hx hl
  subst hl
  unfold GA
  rw [hx];rfl
 |list hx h=>
  obtain ⟨k0,h⟩:=ABI hp hmp hm h hx
  refine (h.and (M2 k0)).mono λN hN=>?_
  unfold GA
  rw [hx]
  exact hN.1 N hN.2 _ _ _ _
theorem ACS(hp:WP p)(hm:m<=16384){c:Nat}{h t:Th}{acc:List Cpl}{r:Except Int AD}{c':Nat}(hw:Wl p m c h t acc r c')(hn:h.isNil=false):
  ∃k0,Ev λN=>∀k,k0<=k->∀(pl:AD),∃v,Bx N k (.done pl h t) p.funcs m c 0 acc=some (v,⟨p,m,c',rwv r⟩)/\∀u,r= .ok u->v=u:=by
 induction hw with
 | @hE c h t acc y c' hb h1=>
  have hy:=AAA h1 y rfl
  refine ⟨2,Ev.down 1 (((Qa hp hm h1).up 1).mono λN hN k hk pl=>?_)⟩
  obtain ⟨k,rfl⟩: ∃j,k=j+2:=⟨k - 2,om⟩
  refine ⟨⟨3,(0,0),false,acc++[Mh.num]⟩,?_,λu h=>by cases h⟩
  show Bv (N+1) (.done pl h t) p.funcs m c 0 acc (Bx (N+1) (k+1)) (!h.isNil)=_
  unfold Bv
  rw [hn]
  show ((ref11_Machine_of (N+1) ⟨p,m,c,0⟩ h).bind λx764=>_)=_
  rw [hN]
  show ((Gd 16 acc [Mh.num]).bind λ_=>(ref11_Machine_of (N+1) ⟨p,m,c',y⟩ t).bind λx901=>_)=_
  rw [UZ hb,BP,ABH hy,BP]
  show DA (N+1) (Bx (N+1) k) t p.funcs m c' y (acc++[Mh.num])=_
  unfold DA
  rw [show (y==0)=false by simpa using hy];rfl
 | @tE c h t acc x c1 y c' hb h1 h2=>
  have hy:=AAA h2 y rfl
  refine ⟨2,(((Qa hp hm h1).and (Qa hp hm h2)).mono λN hN k hk pl=>?_)⟩
  obtain ⟨k,rfl⟩: ∃j,k=j+2:=⟨k - 2,om⟩
  refine ⟨⟨3,(0,0),false,acc++[x.plain.num]⟩,?_,λu h=>by cases h⟩
  show Bv N (.done pl h t) p.funcs m c 0 acc (Bx N (k+1)) (!h.isNil)=_
  unfold Bv
  rw [hn]
  show ((ref11_Machine_of N ⟨p,m,c,0⟩ h).bind λx764=>_)=_
  rw [hN.1]
  show ((Gd 16 acc [x.plain.num]).bind λ_=>(ref11_Machine_of N ⟨p,m,c1,0⟩ t).bind λx901=>_)=_
  rw [UZ hb,BP,hN.2,BP]
  show DA N (Bx N k) th0 p.funcs m c' y (acc++[x.plain.num])=_
  unfold DA
  rw [show (y==0)=false by simpa using hy];rfl
 | @stop c h t acc x c1 z c' hb h1 h2 hz=>
  refine ⟨2,(((Qa hp hm h1).and (Qa hp hm h2)).mono λN hN k hk pl=>?_)⟩
  obtain ⟨k,rfl⟩: ∃j,k=j+2:=⟨k - 2,om⟩
  refine ⟨⟨3,(0,0),false,acc++[x.plain.num]⟩,?_,λu h=>by cases h;rfl⟩
  show Bv N (.done pl h t) p.funcs m c 0 acc (Bx N (k+1)) (!h.isNil)=_
  unfold Bv
  rw [hn]
  show ((ref11_Machine_of N ⟨p,m,c,0⟩ h).bind λx764=>_)=_
  rw [hN.1]
  show ((Gd 16 acc [x.plain.num]).bind λ_=>(ref11_Machine_of N ⟨p,m,c1,0⟩ t).bind λx901=>_)=_
  rw [UZ hb,BP,hN.2,BP]
  show Bv N (.done z.plain z.head z.tail) p.funcs m c' 0 (acc++[x.plain.num]) (Bx N k) (!z.head.isNil)=_
  unfold Bv
  rw [hz];rfl
 | @go c h t acc x c1 z c2 r c' hb h1 h2 hz _ ih=>
  obtain ⟨k0,ih⟩:=ih hz
  refine ⟨k0+1,((((Qa hp hm h1).and (Qa hp hm h2)).and ih).mono λN hN k hk pl=>?_)⟩
  obtain ⟨k,rfl⟩: ∃j,k=j+1:=⟨k - 1,om⟩
  obtain ⟨v,hv,hv'⟩:=hN.2 k om z.plain
  refine ⟨v,?_,hv'⟩
  show Bv N (.done pl h t) p.funcs m c 0 acc (Bx N k) (!h.isNil)=_
  unfold Bv
  rw [hn]
  show ((ref11_Machine_of N ⟨p,m,c,0⟩ h).bind λx764=>_)=_
  rw [hN.1.1]
  show ((Gd 16 acc [x.plain.num]).bind λ_=>(ref11_Machine_of N ⟨p,m,c1,0⟩ t).bind λx901=>_)=_
  rw [UZ hb,BP,hN.1.2]
  exact hv
theorem ACT(hp:WP p)(hm:m<=16384){c:Nat}{x:Ax}{r:Except Int AD}{c':Nat}(hw:Wh p m c x r c'):Ev λN=>∃v,CY N ⟨p,m,c,0⟩ (.done x.plain x.head x.tail)=some (v,⟨p,m,c',rwv r⟩)/\∀u,r= .ok u->v=u:=by
 cases hw with
 |plain hx=>
  refine Ev.all λN=>⟨x.plain,?_,λu h=>by cases h;rfl⟩
  show Ee N ⟨p,m,c,0⟩ (.done x.plain x.head x.tail) (!!x.head.isNil)=_
  rw [hx];rfl
 |list hx h=>
  obtain ⟨k0,h⟩:=ACS hp hm h hx
  refine (h.and (M2 k0)).mono λN hN=>?_
  obtain ⟨v,hv,hv'⟩:=hN.1 N hN.2 x.plain
  refine ⟨v,?_,hv'⟩
  show Ee N ⟨p,m,c,0⟩ (.done x.plain x.head x.tail) (!!x.head.isNil)=_
  rw [hx]
  exact hv
def Rv(m:Nat)(t:Int)(r:Except Int AD)(c':Nat):Prop:=
 match r with
 | .ok v=>VV t v/\0<c'/\v.list.length<=34000000001
 | .error y=>(y=60/\c'=m)∨((y=50∨y=51∨y=52)/\0<c')
variable{L:Nat}
theorem Rk(hp:WP p)(hS: ∀f∈p.funcs,WTy p f.params.reverse f.body f.type_)(hL:1<=L){c:Nat}(hc:c<=m){t:Int}{h:Th}(ht:TOK p L t h):
  ∃r c',Tg p m c h r c'/\c<=c'/\c'<=m/\(∀y,r= .error y->(y=60/\c'=m)∨((y=50∨y=51∨y=52)/\c<c'))/\(∀x,r= .ok x->TOK p L t (.done x.plain x.head x.tail)/\(c<c'∨(c'=c/\ch x.tail<ch h))):=by
 cases ht with
 |val _ v hv h3=>exact ⟨_,_,.done (x:=⟨v,.nil,.nil⟩),om,hc,λy h=>(by cases h),λx h=>by cases h;exact ⟨.val t v hv h3,.inr ⟨rfl,by simp [ch]⟩⟩⟩
 |pair a b h1 h2 h3=>exact ⟨_,_,.done (x:=⟨v0,a,b⟩),om,hc,λy h=>(by cases h),λx h=>by cases h;exact ⟨.pair a b h1 h2 h3,.inr ⟨rfl,by simp [ch]⟩⟩⟩
 |later Γ ρ e _ he hw hwe ht=>
  obtain ⟨r,c',l1,l2,l3,l4⟩:=Z9 hp hS hL (m - c) c om hc Γ e ρ t he hw hwe ht
  refine ⟨r,c',.later l1,l2,l3,λy h=>?_,λx h=>?_⟩
  ·subst h;exact l4
  ·subst h;exact ⟨l4.1,.inl l4.2⟩
theorem ACU(hp:WP p)(hS: ∀f∈p.funcs,WTy p f.params.reverse f.body f.type_)(hL:1<=L): ∀(k n c:Nat) (h t:Th) (acc:List Cpl),m - c<=k->ch t<=n->c<=m->TOK p L 1 h->TOK p L 3 t->acc.length+ch t+(L+1)*(m - c)<=34000000000->(∀z∈acc,Gn z)->
  ∃r c',Wl p m c h t acc r c'/\c<=c'/\c'<=m/\(∀y,r= .error y->(y=60/\c'=m)∨((y=50∨y=51∨y=52)/\c<c'))/\∀v,r= .ok v->VV 3 v/\v.list.length<=34000000001:=by
 intro k
 induction k with
 |zero=>
  intro n
  induction n with
  |zero=>
   intro c h t acc hk hn hc h1 h3 hb hg
   obtain ⟨r,c1,t1,t2,t3,t4,t5⟩:=Rk hp hS hL hc h1
   cases r with
   |error y=>exact ⟨_,c1,.hE om t1,t2,t3,λz hz=>by cases hz;exact t4 y rfl,λv hv=>by cases hv⟩
   |ok x=>
    have hc1:c1=c:=om
    obtain ⟨r2,c2,s1,s2,s3,s4,s5⟩:=Rk hp hS hL t3 h3
    cases r2 with
    |error y=>exact ⟨_,c2,.tE om t1 s1,om,s3,λz hz=>by cases hz;rw [hc1] at s4;exact s4 y rfl,λv hv=>by cases hv⟩
    |ok z=>have:=(s5 z rfl).2;omega
  |succ n ih=>
   intro c h t acc hk hn hc h1 h3 hb hg
   obtain ⟨r,c1,t1,t2,t3,t4,t5⟩:=Rk hp hS hL hc h1
   cases r with
   |error y=>exact ⟨_,c1,.hE om t1,t2,t3,λz hz=>by cases hz;exact t4 y rfl,λv hv=>by cases hv⟩
   |ok x=>
    have hc1:c1=c:=om
    have vx:=Q7 (t5 x rfl).1 (by decide)
    obtain ⟨a,ha,hae⟩:=vv1 vx
    have gx:Gn x.plain.num:=by rw [hae];exact .of ha
    obtain ⟨r2,c2,s1,s2,s3,s4,s5⟩:=Rk hp hS hL t3 h3
    cases r2 with
    |error y=>exact ⟨_,c2,.tE om t1 s1,om,s3,λz hz=>by cases hz;rw [hc1] at s4;exact s4 y rfl,λv hv=>by cases hv⟩
    |ok z=>
     have s6:=s5 z rfl
     have hg': ∀w∈acc++[x.plain.num],Gn w:=λw hw=>by
      rcases List.mem_append.1 hw with hw|hw
      ·exact hg w hw
      ·simp at hw;subst hw;exact gx
     obtain ⟨zp,zh,zt⟩:=z
     cases hz:zh.isNil
     ·have hp2:TOK p L 1 zh/\TOK p L 3 zt:=by
       have:=s6.1
       simp only at this
       generalize (3:Int)=T3 at this
       cases this with
       |val=>cases hz
       |pair _ _ a b _=>exact ⟨a,b⟩
      have hch:ch zt<ch t:=by have:=s6.2;simp only at this;omega
      obtain ⟨r,c',w1,w2,w3,w4,w5⟩:=ih c2 zh zt (acc++[x.plain.num]) om om s3 hp2.1 hp2.2 (by rw [List.length_append,List.length_singleton,show m - c2=m - c by omega];omega) hg'
      exact ⟨r,c',.go om t1 s1 hz w1,om,w3,λy hy=>(w4 y hy).imp id λh=>⟨h.1,om⟩,w5⟩
     ·exact ⟨_,c2,.stop om t1 s1 hz,om,s3,λy h=>(by cases h),λv hv=>by cases hv;exact ⟨.inr (.inr ⟨rfl,rfl,rfl,rfl,hg'⟩),by simp;omega⟩⟩
 |succ k ihk=>
  intro n
  induction n using Nat.strongRecOn with
  |ind n ih=>
   intro c h t acc hk hn hc h1 h3 hb hg
   obtain ⟨r,c1,t1,t2,t3,t4,t5⟩:=Rk hp hS hL hc h1
   cases r with
   |error y=>exact ⟨_,c1,.hE om t1,t2,t3,λz hz=>by cases hz;exact t4 y rfl,λv hv=>by cases hv⟩
   |ok x=>
    have vx:=Q7 (t5 x rfl).1 (by decide)
    obtain ⟨a,ha,hae⟩:=vv1 vx
    have gx:Gn x.plain.num:=by rw [hae];exact .of ha
    obtain ⟨r2,c2,s1,s2,s3,s4,s5⟩:=Rk hp hS hL t3 h3
    cases r2 with
    |error y=>exact ⟨_,c2,.tE om t1 s1,om,s3,λz hz=>by cases hz;exact (s4 y rfl).imp id λh=>⟨h.1,om⟩,λv hv=>by cases hv⟩
    |ok z=>
     have s6:=s5 z rfl
     have hg': ∀w∈acc++[x.plain.num],Gn w:=λw hw=>by
      rcases List.mem_append.1 hw with hw|hw
      ·exact hg w hw
      ·simp at hw;subst hw;exact gx
     obtain ⟨zp,zh,zt⟩:=z
     cases hz:zh.isNil
     ·have hp2:TOK p L 1 zh/\TOK p L 3 zt/\ch zt<L:=by
       have:=s6.1
       simp only at this
       generalize (3:Int)=T3 at this
       cases this with
       |val=>cases hz
       |pair _ _ a b c=>exact ⟨a,b,c⟩
      rcases Nat.lt_or_ge c c2 with hlt|hge
      ·have hmul:(L+1)*(m - c2)+(L+1)<=(L+1)*(m - c):=by
        have:=Nat.mul_le_mul_left (L+1) (show m - c2+1<=m - c by omega)
        rw [Nat.mul_add,Nat.mul_one] at this;exact this
       obtain ⟨r,c',w1,w2,w3,w4,w5⟩:=ihk (ch zt) c2 zh zt (acc++[x.plain.num]) om om s3 hp2.1 hp2.2.1 (by rw [List.length_append,List.length_singleton];omega) hg'
       exact ⟨r,c',.go om t1 s1 hz w1,om,w3,λy hy=>(w4 y hy).imp id λh=>⟨h.1,om⟩,w5⟩
      ·have hch:ch zt<ch t:=by have:=s6.2;simp only at this;omega
       obtain ⟨r,c',w1,w2,w3,w4,w5⟩:=ih (ch zt) om c2 zh zt (acc++[x.plain.num]) om om s3 hp2.1 hp2.2.1 (by rw [List.length_append,List.length_singleton,show m - c2=m - c by omega];omega) hg'
       exact ⟨r,c',.go om t1 s1 hz w1,om,w3,λy hy=>(w4 y hy).imp id λh=>⟨h.1,om⟩,w5⟩
     ·exact ⟨_,c2,.stop om t1 s1 hz,om,s3,λy h=>(by cases h),λv hv=>by cases hv;exact ⟨.inr (.inr ⟨rfl,rfl,rfl,rfl,hg'⟩),by simp;omega⟩⟩
theorem ACV(hp:WP p)(hS: ∀f∈p.funcs,WTy p f.params.reverse f.body f.type_)(hL:1<=L)(hL2:L<=1100000)(hm:m<=16384){Γ:List AJ}{e:AE}{ρ:Nm}{t:Int}(he:EOK p L Γ ρ)(hw:WTy p Γ e t)(hwe:WE e)(ht:1<=t/\t<=3):
  ∃r c',Rn p m e ρ r c'/\c'<=m/\Rv m t r c':=by
 obtain ⟨r,c1,l1,l2,l3,l4⟩:=Z9 hp hS hL (m - 0) 0 (Nat.le_refl _) (Nat.zero_le _) Γ e ρ t he hw hwe ht
 cases r with
 |error y=>exact ⟨_,c1,.err l1,l3,l4⟩
 |ok x=>
  obtain ⟨xp,xh,xt⟩:=x
  obtain ⟨h4,h5⟩:=l4
  simp only at h4
  cases hz:xh.isNil
  ·generalize hT:t=T at h4
   cases h4 with
   |val=>cases hz
   |pair _ _ a b hc=>
    subst hT
    have hmul:(L+1)*(m - c1)<=1100001*16384:=Nat.mul_le_mul om om
    obtain ⟨r,c',w1,w2,w3,w4,w5⟩:=ACU hp hS hL (m - c1) (ch xt) c1 xh xt [] (Nat.le_refl _) (Nat.le_refl _) l3 a b (by simp only [List.length_nil];omega) (by simp)
    refine ⟨r,c',.val l1 (.list hz w1),w3,?_⟩
    cases r with
    |ok v=>exact ⟨(w5 v rfl).1,om,(w5 v rfl).2⟩
    |error y=>exact (w4 y rfl).imp id λh=>⟨h.1,om⟩
  ·generalize hT:t=T at h4
   cases h4 with
   |val _ v hv h3=>
    have hn:xp.list=[]:=by
     rcases hv with ⟨_,_,_,_,h⟩| ⟨_,_,_,h⟩| ⟨h,_⟩
     ·exact h
     ·exact h
     ·exact h3 h
    exact ⟨_,c1,.val l1 (.plain hz hn),l3,hv,h5,by simp only;rw [hn];simp⟩
   |pair _ _ a b hc=>rw [YT a] at hz;cases hz
end
end Fth
namespace Fth
open Go
def E2(p:Nat->Nat->Prop):Prop:=∃n,∀N k,n<=N->n<=k->p N k
theorem E2.and{p q:Nat->Nat->Prop}(hp:E2 p)(hq:E2 q):E2 λN k=>p N k/\q N k:=by
 obtain ⟨n,hn⟩:=hp;obtain ⟨m,hm⟩:=hq
 exact ⟨n+m,λN k h h'=>⟨hn N k om om,hm N k om om⟩⟩
theorem E2.mono{p q:Nat->Nat->Prop}(hp:E2 p)(h: ∀N k,p N k->q N k):E2 q:=let ⟨n,hn⟩:=hp;⟨n,λN k a b=>h N k (hn N k a b)⟩
theorem E2.of{p:Nat->Prop}(h:Ev p):E2 λN _=>p N:=let ⟨n,hn⟩:=h;⟨n,λN _ a _=>hn N a⟩
theorem E2.diag{p:Nat->Nat->Prop}(h:E2 p):Ev λN=>p N N:=let ⟨n,hn⟩:=h;⟨n,λN a=>hn N N a a⟩
theorem AAB{p:Nat->Nat->Prop}(h:E2 λN k=>p N (k+1)):E2 p:=by
 obtain ⟨n,hn⟩:=h
 refine ⟨n+1,λN k a b=>?_⟩
 obtain ⟨j,rfl⟩: ∃j,k=j+1:=⟨k - 1,om⟩
 exact hn N j om om
def ET{α:Type}(f:Nat->Option α)(Q:α->Prop):Prop:=∃r,Q r/\Ev λN=>f N=some r
def EL{α:Type}(f:Nat->Nat->Option α)(Q:α->Prop):Prop:=∃r,Q r/\E2 λN k=>f N k=some r
section
variable{α β:Type}
theorem ET.of{x:Option α}{Q:α->Prop}(h:T x Q):ET (λ_=>x) Q:=by obtain ⟨r,e,h⟩:=h;exact ⟨r,h,Ev.all λ_=>e⟩
theorem ET.some{r:α}{Q:α->Prop}(h:Q r):ET (λ_=>Option.some r) Q:=⟨r,h,Ev.all λ_=>rfl⟩
theorem ET.bind{f:Nat->Option α}{g:Nat->α->Option β}{P:α->Prop}{Q:β->Prop}(h:ET f P)(k: ∀a,P a->ET (λN=>g N a) Q):ET (λN=>(f N).bind (g N)) Q:=by
 obtain ⟨a,ha,hE⟩:=h
 obtain ⟨b,hb,hE2⟩:=k a ha
 exact ⟨b,hb,(hE.and hE2).mono λN h=>by show (f N).bind (g N)=_;rw [h.1];exact h.2⟩
theorem ET.cond{c:Bool}{f g:Nat->Option α}{Q:α->Prop}(h1:c=true->ET f Q)(h2:c=false->ET g Q):ET (λN=>bif c then f N else g N) Q:=by
 cases c
 ·exact h2 rfl
 ·exact h1 rfl
theorem ET.mono{f:Nat->Option α}{P Q:α->Prop}(h:ET f P)(k: ∀a,P a->Q a):ET f Q:=let ⟨r,hr,e⟩:=h;⟨r,k r hr,e⟩
theorem ET.down{f:Nat->Option α}{Q:α->Prop}(h:ET (λN=>f (N+1)) Q):ET f Q:=let ⟨r,hr,e⟩:=h;⟨r,hr,Ev.down 1 e⟩
theorem ET.cg{f g:Nat->Option α}{Q:α->Prop}(h:ET f Q)(e: ∀N,g N=f N):ET g Q:=by
 have:g=f:=funext e
 rw [this];exact h
theorem R0{f:Nat->Option α}{Q:α->Prop}(n:Nat)(h: ∃r,Q r/\∀N,n<=N->f N=Option.some r):ET f Q:=let ⟨r,hr,e⟩:=h;⟨r,hr,⟨n,e⟩⟩
theorem EL.bind{f:Nat->Option α}{g:Nat->Nat->α->Option β}{P:α->Prop}{Q:β->Prop}(h:ET f P)(k: ∀a,P a->EL (λN k=>g N k a) Q):EL (λN k=>(f N).bind (g N k)) Q:=by
 obtain ⟨a,ha,hE⟩:=h
 obtain ⟨b,hb,hE2⟩:=k a ha
 exact ⟨b,hb,((E2.of hE).and hE2).mono λN k h=>by show (f N).bind (g N k)=_;rw [h.1];exact h.2⟩
theorem EL.cond{c:Bool}{f g:Nat->Nat->Option α}{Q:α->Prop}(h1:c=true->EL f Q)(h2:c=false->EL g Q):EL (λN k=>bif c then f N k else g N k) Q:=by
 cases c
 ·exact h2 rfl
 ·exact h1 rfl
theorem ET.eq{x:Option α}{a:α}{g:Nat->α->Option β}{Q:β->Prop}(h:x=Option.some a)(k:ET (λN=>g N a) Q):ET (λN=>x.bind (g N)) Q:=by subst h;exact k
theorem EL.eq{x:Option α}{a:α}{g:Nat->Nat->α->Option β}{Q:β->Prop}(h:x=Option.some a)(k:EL (λN k=>g N k a) Q):EL (λN k=>x.bind (g N k)) Q:=by subst h;exact k
theorem ET.tb{x:Option α}{g:Nat->α->Option β}{P:α->Prop}{Q:β->Prop}(h:T x P)(k: ∀a,P a->ET (λN=>g N a) Q):ET (λN=>x.bind (g N)) Q:=by obtain ⟨a,e,ha⟩:=h;exact .eq e (k a ha)
theorem EL.tb{x:Option α}{g:Nat->Nat->α->Option β}{P:α->Prop}{Q:β->Prop}(h:T x P)(k: ∀a,P a->EL (λN k=>g N k a) Q):EL (λN k=>x.bind (g N k)) Q:=by obtain ⟨a,e,ha⟩:=h;exact .eq e (k a ha)
theorem EL.of{f:Nat->Option α}{Q:α->Prop}(h:ET f Q):EL (λN _=>f N) Q:=let ⟨r,hr,e⟩:=h;⟨r,hr,E2.of e⟩
theorem EL.some{r:α}{Q:α->Prop}(h:Q r):EL (λ_ _=>Option.some r) Q:=⟨r,h,⟨0,λ_ _ _ _=>rfl⟩⟩
theorem EL.down{f:Nat->Nat->Option α}{Q:α->Prop}(h:EL (λN k=>f N (k+1)) Q):EL f Q:=let ⟨r,hr,e⟩:=h;⟨r,hr,AAB e⟩
theorem EL.diag{f:Nat->Nat->Option α}{Q:α->Prop}(h:EL f Q):ET (λN=>f N N) Q:=let ⟨r,hr,e⟩:=h;⟨r,hr,e.diag⟩
theorem EL.mono{f:Nat->Nat->Option α}{P Q:α->Prop}(h:EL f P)(k: ∀a,P a->Q a):EL f Q:=let ⟨r,hr,e⟩:=h;⟨r,k r hr,e⟩
end
theorem Vf{s:List UInt8}: ∀(m:As) (i j:Nat),(MB s m i).map (·.2)=(MB s m j).map (·.2):=by
 intro m
 induction m with
 |nil=>intro i j;rfl
 |cons x m ih=>
  intro i j
  obtain ⟨k,v⟩:=x
  simp only [MB]
  cases (s==k)
  ·exact ih _ _
  ·rfl
theorem XZ(m:As)(s:List UInt8):Cz m s=((MB s m 0).map (·.2)).getD 0:=by
 unfold Cz
 cases MB s m 0<;>rfl
theorem Ua(s:List UInt8):Cz [] s=0:=rfl
theorem OE(k:List UInt8)(v:Int)(m:As)(s:List UInt8):Cz ((k,v)::m) s=bif s==k then v else Cz m s:=by
 rw [XZ,XZ]
 simp only [MB]
 cases (s==k)
 ·simp only [cond_false];rw [Vf m 1 0]
 ·rfl
theorem Xa(m:As)(s:List UInt8):Oj m s=((MB s m 0).map (·.2)).isSome:=by
 unfold Oj
 cases MB s m 0<;>rfl
theorem OF(k:List UInt8)(v:Int)(m:As)(s:List UInt8):Oj ((k,v)::m) s=bif s==k then true else Oj m s:=by
 rw [Xa,Xa]
 simp only [MB]
 cases (s==k)
 ·simp only [cond_false];rw [Vf m 1 0]
 ·rfl
theorem NH(s:List UInt8)(v:Int)(m:As)(t:List UInt8):Cz (Mc s v m) t=bif t==s then v else Cz m t:=by
 induction m with
 |nil=>exact OE s v [] t
 |cons x m ih=>
  obtain ⟨k,u⟩:=x
  rw [Mc]
  cases h:(s==k)
  ·rw [cond_false,OE,OE,ih]
   cases h1:(t==k)
   ·rfl
   ·have:t=k:=by simpa using h1
    have h2:(t==s)=false:=by
     rw [this];simp only [beq_eq_false_iff_ne,ne_eq] at h ⊢;exact λe=>h e.symm
    rw [h2];rfl
  ·have e:s=k:=by simpa using h
   subst e
   rw [cond_true,OE,OE]
   cases (t==s)<;>rfl
theorem Y7(s:List UInt8)(v:Int)(m:As)(t:List UInt8):Oj (Mc s v m) t=bif t==s then true else Oj m t:=by
 induction m with
 |nil=>exact OF s v [] t
 |cons x m ih=>
  obtain ⟨k,u⟩:=x
  rw [Mc]
  cases h:(s==k)
  ·rw [cond_false,OF,OF,ih]
   cases h1:(t==k)
   ·rfl
   ·have:t=k:=by simpa using h1
    have h2:(t==s)=false:=by
     rw [this];simp only [beq_eq_false_iff_ne,ne_eq] at h ⊢;exact λe=>h e.symm
    rw [h2];rfl
  ·have e:s=k:=by simpa using h
   subst e
   rw [cond_true,OF,OF]
   cases (t==s)<;>rfl
end Fth
namespace Fth
open Go
def bnd(e:AE)(i:Nat):List (List UInt8):=if e.op=21∨(e.op=22/\i=1) then [e.name] else if e.op=20/\i=2 then [e.name,e.tail] else []
def Kw(p:AL)(e:AE):Prop:=e.op=7->∃f,hd p e.name=some f/\f.params.length=e.args.length
inductive Sc(p:AL):(List UInt8->Prop)->AE->Prop
 |mk (B:List UInt8->Prop) (e:AE) (hv:e.op=6->B e.name) (hc:Kw p e) (hs: ∀i a,e.args[i]?=some a->Sc p (λs=>s∈bnd e i∨B s) a):Sc p B e
theorem AAC{p:AL}{B:List UInt8->Prop}{e:AE}:Sc p B e↔(e.op=6->B e.name)/\Kw p e/\∀i a,e.args[i]?=some a->Sc p (λs=>s∈bnd e i∨B s) a:=
 ⟨λh=>by cases h with |mk _ _ a b c=>exact ⟨a,b,c⟩,λh=> .mk B e h.1 h.2.1 h.2.2⟩
def FN(p:AL):Prop:=∀i f,p.funcs[i]?=some f->f.name∉(p.funcs.take i).map (·.name)
def PN(f:AN):Prop:=∀i x,f.params[i]?=some x->x.name∉(f.params.take i).map (·.name)
def ABK(p:AL):Prop:=FN p/\∀f∈p.funcs,PN f/\Sc p (λs=>s∈f.params.map (·.name)) f.body
def Pl(p:AL)(mp:As):Prop:=∀nm,(hd p nm=none/\Cz mp nm=0)∨∃(i:Nat) (f:AN),p.funcs[i]?=some f/\hd p nm=some f/\Cz mp nm=(i:Int)+1
theorem Q8{y a:Int}{flt:AF}(hy:y≠0):T (EB y a flt) λr=>r.why≠0:=by
 unfold EB KB
 exact T.cond (λ_=>T.cond (λ_=> .some hy) λh=>by cases h) λh=>T.cond (λ_=> .some hy) λ_=> .some (B9 h)
section
variable{p:AL}{mpl:As}(hpl:Pl p mpl)(hlen:p.funcs.length<=1000000)
include hpl hlen
theorem AAD{e:AE}{mi:As}{flt:AF}:T (F7 e mi mpl flt p) λr=>r.why=0↔flt.why=0/\(e.op=6->Cz mi e.name≠0)/\Kw p e:=by
 have j3: ∀b,(e.op≠6)->(b=false↔Kw p e)->T (HW e flt b) λr=>r.why=0↔flt.why=0/\(e.op=6->Cz mi e.name≠0)/\Kw p e:=by
  intro b h6 hb
  unfold HW
  refine T.cond (λh=>T.bind (Q8 (by decide)) λr hr=> .some ?_) λh=> .some ?_
  ·subst h
   exact ⟨λh=>absurd h hr,λh=>by have:=hb.2 h.2.2;cases this⟩
  ·subst h
   exact ⟨λh=>⟨h,λh'=>absurd h' h6,hb.1 rfl⟩,λh=>h.1⟩
 have j2:e.op≠6->e.op≠7->T (GR e mpl flt p false) λr=>r.why=0↔flt.why=0/\(e.op=6->Cz mi e.name≠0)/\Kw p e:=by
  intro h6 h7
  unfold GR
  refine T.cond (λh=>by cases h) λ_=>T.cond (λh=>absurd (CV h) h7) λ_=>j3 _ h6 ⟨λ_ h=>absurd h h7,λ_=>rfl⟩
 have j1:e.op≠6->T (HX e mpl flt p false) λr=>r.why=0↔flt.why=0/\(e.op=6->Cz mi e.name≠0)/\Kw p e:=by
  intro h6
  unfold HX
  refine T.cond (λh=>by cases h) λ_=>T.cond (λh=>?_) λh=>j2 h6 (B9 h)
  have h7:=CV h
  unfold GR
  rcases hpl e.name with ⟨hn,h0⟩| ⟨i,f,hi,hf,hm⟩
  ·rw [h0]
   refine T.cond (λ_=>T.bind (Q8 (by decide)) λr hr=> .some ⟨λh=>absurd h hr,λh=>?_⟩) λh=>by cases h
   obtain ⟨f,hf,_⟩:=h.2.2 h7
   rw [hn] at hf;cases hf
  ·rw [hm]
   have hil:=(List.getElem?_eq_some_iff.1 hi).1
   refine T.cond (λh=>by have:=CV h;omega) λ_=>T.cond (λ_=>?_) λh=>absurd h7 (B9 h)
   rw [wr (x:=(i:Int)+1 - 1) om om,show (i:Int)+1 - 1=(i:Int) by omega]
   refine T.eq (CC hi) (j3 _ h6 ⟨λh _=>⟨f,hf,?_⟩,λh=>?_⟩)
   ·have:=KR h;omega
   ·obtain ⟨g,hg,hl⟩:=h h7
    rw [hf] at hg;cases hg
    simp;omega
 unfold F7
 refine T.cond (λh=>?_) λh=>j1 (B9 h)
 have h6:=CV h
 unfold HX
 refine T.cond (λh=>T.bind (Q8 (by decide)) λr hr=> .some ⟨λh=>absurd h hr,λh'=>absurd (CV h) (h'.2.1 h6)⟩) λh=>T.cond (λh=>by have:=CV h;omega) λh7=>?_
 unfold GR
 refine T.cond (λh=>by cases h) λ_=>T.cond (λh=>by have:=CV h;omega) λ_=>?_
 unfold HW
 refine T.cond (λh=>by cases h) λ_=> .some ⟨λh'=>⟨h',λ_=>B9 h,λh7=>om⟩,λh=>h.1⟩
omit hpl hlen in
theorem YU(e:AE)(i:Nat):H0 e (i:Int)=some (bnd e i):=by
 unfold H0 KC K6 bnd
 have e1:((i:Int)==1)=decide (i=1):=by rw [Bool.eq_iff_iff];simp;omega
 have e2:((i:Int)==2)=decide (i=2):=by rw [Bool.eq_iff_iff];simp;omega
 rw [e1,e2]
 cases h1:(e.op==21)
 ·have h1:=B9 h1
  cases h2:(e.op==22)
  ·have h2:=B9 h2
   rw [if_neg om]
   cases h3:(e.op==20)
   ·have h3:=B9 h3
    rw [if_neg om];rfl
   ·have h3:=CV h3
    cases h4:decide (i=2)
    ·have h4:=EE h4;rw [if_neg om];rfl
    ·have h4:=CS h4;rw [if_pos ⟨h3,h4⟩];rfl
  ·have h2:=CV h2
   cases h3:decide (i=1)
   ·have h3:=EE h3
    rw [if_neg om,if_neg om,show (e.op==20)=false by simp;omega];rfl
   ·have h3:=CS h3
    rw [if_pos (.inr ⟨h2,h3⟩)];rfl
 ·have h1:=CV h1
  rw [if_pos (.inl h1)];rfl
omit hpl hlen in
theorem ABL(e:AE)(i:Nat):Il e (i:Int)=some (bnd e i):=YU e i
omit hpl hlen in
theorem YV(e:AE)(i:Nat):(bnd e i).length<=2:=by
 unfold bnd;split
 ·simp
 ·split<;>simp
theorem ABM: ∀(n:Nat) (e:AE),D8 e<=n->∀(C:List (List UInt8)) (mi:As) (flt:AF),(∀s,Cz mi s=(C.count s:Int))->C.length+2*n<=1000000000->
  ET (λN=>scope_walk N e mi mpl flt p) λr=>(∀s,Cz r.1 s=(C.count s:Int))/\(r.2.why=0↔flt.why=0/\Sc p (λs=>s∈C) e):=by
 intro n
 induction n with
 |zero=>intro e he;have:=NF e;omega
 |succ n ih=>
  intro e he C mi flt hmi hC
  have hal:=NU e.args
  have hes:=Ph e
  refine ET.down ?_
  show ET (λN=>La (A3.at N) N e mi mpl flt p) _
  unfold La
  refine ET.bind (.of (AAD hpl hlen)) λf1 hf1=>?_
  have cc: ∀s,(C.count s:Int)≠0↔s∈C:=λs=>by
   have:=List.count_pos_iff (a:=s) (l:=C)
   constructor
   ·intro h;exact this.1 om
   ·intro h;have:=this.2 h;omega
  have loop: ∀(j i:Nat),i+j=e.args.length->∀(mi:As) (f2:AF),(∀s,Cz mi s=(C.count s:Int))->
    EL (λN k=>Cs (A3.at N) N e mpl p k (i:Int) mi f2.why f2.at_) λr=>(∀s,Cz r.1 s=(C.count s:Int))/\(r.2.why=0↔f2.why=0/\∀i' a,i<=i'->e.args[i']?=some a->Sc p (λs=>s∈bnd e i'∨s∈C) a):=by
   intro j
   induction j with
   |zero=>
    intro i hi mi f2 hmi
    refine EL.down ?_
    show EL (λN k=>Iz (A3.at N) N e mpl p (Cs (A3.at N) N e mpl p k) i mi f2.why f2.at_) _
    unfold Iz
    refine EL.cond (λh=>by have:=CS h;omega) λ_=> .some ⟨hmi,λh=>⟨h,λi' a hi' ha=>?_⟩,λh=>h.1⟩
    have:=(List.getElem?_eq_some_iff.1 ha).1
    omega
   |succ j ihj=>
    intro i hi mi f2 hmi
    refine EL.down ?_
    show EL (λN k=>Iz (A3.at N) N e mpl p (Cs (A3.at N) N e mpl p k) i mi f2.why f2.at_) _
    unfold Iz
    refine EL.cond (λ_=>?_) λh=>by have:=EE h;omega
    have hil:i<e.args.length:=om
    obtain ⟨a,ha⟩: ∃a,e.args[i]?=some a:=⟨_,List.getElem?_eq_getElem hil⟩
    have has:=Oa (List.mem_of_getElem? ha)
    refine EL.eq (CC ha) (EL.eq (YU e i) ?_)
    have hbl:=YV e i
    have l3: ∀(q t:Nat),t+q=(bnd e i).length->∀(m3:As) (w:As×AF),(∀s,Cz m3 s=(((bnd e i).drop t).count s+C.count s:Nat))->
      E2 (λN k=>True)->∀(R:As×AF->Prop),(∀m4,(∀s,Cz m4 s=(C.count s:Int))->EL (λN k=>Cs (A3.at N) N e mpl p k ((i+1:Nat):Int) m4 w.2.why w.2.at_) R)->
      ∃r,R r/\∃n0,∀N k kk,n0<=N->n0<=k->n0<=kk->Ig i (Cs (A3.at N) N e mpl p k) (bnd e i) w kk (t:Int) m3=some r:=by
     intro q
     induction q with
     |zero=>
      intro t ht m3 w hm3 _ R hR
      have hd0:(bnd e i).drop t=[]:=List.drop_eq_nil_of_le om
      obtain ⟨r,hr,n0,hn0⟩:=hR m3 (λs=>by rw [hm3,hd0];simp)
      refine ⟨r,hr,n0+1,λN k kk h1 h2 h3=>?_⟩
      obtain ⟨kk,rfl⟩: ∃j,kk=j+1:=⟨kk - 1,om⟩
      show Iw i (Cs (A3.at N) N e mpl p k) (bnd e i) w (Ig i (Cs (A3.at N) N e mpl p k) (bnd e i) w kk) t m3=_
      unfold Iw
      rw [show decide ((t:Int)< ((bnd e i).length:Int))=false from decide_eq_false om,cond_false,wr om om,show (i:Int)+1=((i+1:Nat):Int) by omega]
      exact hn0 N k om om
     |succ q ihq=>
      intro t ht m3 w hm3 ht2 R hR
      have htl:t< (bnd e i).length:=om
      obtain ⟨s0,hs0⟩: ∃s0,(bnd e i)[t]?=some s0:=⟨_,List.getElem?_eq_getElem htl⟩
      have hdr:=ME hs0
      have h0:=hm3 s0
      have hc1:((bnd e i).drop t).count s0+C.count s0<=2+C.length:=by
       have a1:=List.count_le_length (a:=s0) (l:=(bnd e i).drop t)
       have a2:=List.count_le_length (a:=s0) (l:=C)
       simp at a1;omega
      obtain ⟨r,hr,n0,hn0⟩:=ihq (t+1) om (Mc s0 (Cz m3 s0 - 1) m3) w (λs=>by
       rw [NH]
       cases hs:(s==s0)
       ·rw [cond_false,hm3,hdr,List.count_cons_of_ne (λe=>by subst e;simp at hs)]
       ·have:s=s0:=by simpa using hs
        subst this
        rw [cond_true,hm3,hdr,List.count_cons_self];omega) ht2 R hR
      refine ⟨r,hr,n0+1,λN k kk h1 h2 h3=>?_⟩
      obtain ⟨kk,rfl⟩: ∃j,kk=j+1:=⟨kk - 1,om⟩
      show Iw i (Cs (A3.at N) N e mpl p k) (bnd e i) w (Ig i (Cs (A3.at N) N e mpl p k) (bnd e i) w kk) t m3=_
      unfold Iw
      rw [show decide ((t:Int)< ((bnd e i).length:Int))=true from decide_eq_true om,cond_true,CC hs0,BP,wr (x:=(t:Int)+1) om om,wr (x:=Cz m3 s0 - 1) om om,show (t:Int)+1=((t+1:Nat):Int) by omega]
      exact hn0 N k kk om om om
    have l2: ∀(q t:Nat),t+q=(bnd e i).length->∀(m2:As),(∀s,Cz m2 s=(((bnd e i).take t).count s+C.count s:Nat))->
      ∃r:As×AF,((∀s,Cz r.1 s=(C.count s:Int))/\(r.2.why=0↔f2.why=0/\∀i' a,i<=i'->e.args[i']?=some a->Sc p (λs=>s∈bnd e i'∨s∈C) a))/\
       ∃n0,∀N k kk,n0<=N->n0<=k->n0<=kk->Ih (A3.at N) N mpl p i f2.why f2.at_ (Cs (A3.at N) N e mpl p k) a (bnd e i) kk (t:Int) m2=some r:=by
     intro q
     induction q with
     |zero=>
      intro t ht m2 hm2
      have htk:(bnd e i).take t=bnd e i:=List.take_of_length_le om
      obtain ⟨w,hw,hE⟩:=ih a om (bnd e i++C) m2 ⟨f2.why,f2.at_⟩ (λs=>by rw [hm2,htk,List.count_append]) (by rw [List.length_append];omega)
      obtain ⟨n1,hn1⟩:=hE
      obtain ⟨r,hr,n0,hn0⟩:=l3 (bnd e i).length 0 om w.1 w (λs=>by rw [hw.1,List.drop_zero,List.count_append]) ⟨0,λ_ _ _ _=>trivial⟩ (λr=>(∀s,Cz r.1 s=(C.count s:Int))/\(r.2.why=0↔f2.why=0/\∀i' a,i<=i'->e.args[i']?=some a->Sc p (λs=>s∈bnd e i'∨s∈C) a)) λm4 hm4=>(ihj (i+1) om m4 w.2 hm4).mono λr hr=>⟨hr.1,by
       rw [hr.2,hw.2]
       have eB:(λs=>s∈bnd e i++C)=λs=>s∈bnd e i∨s∈C:=funext λs=>propext List.mem_append
       rw [eB]
       constructor
       ·rintro ⟨⟨h1,h2⟩,h3⟩
        refine ⟨h1,λi' a' hi' ha'=>?_⟩
        rcases Nat.eq_or_lt_of_le hi' with rfl|hlt
        ·rw [ha] at ha';cases ha';exact h2
        ·exact h3 i' a' hlt ha'
       ·rintro ⟨h1,h2⟩
        exact ⟨⟨h1,h2 i a (Nat.le_refl _) ha⟩,λi' a' hi' ha'=>h2 i' a' om ha'⟩⟩
      refine ⟨r,hr,n0+n1+1,λN k kk h1 h2 h3=>?_⟩
      obtain ⟨kk,rfl⟩: ∃j,kk=j+1:=⟨kk - 1,om⟩
      show Iy (A3.at N) N mpl p i f2.why f2.at_ (Cs (A3.at N) N e mpl p k) a (bnd e i) (Ih (A3.at N) N mpl p i f2.why f2.at_ (Cs (A3.at N) N e mpl p k) a (bnd e i) kk) t m2=_
      unfold Iy
      rw [show decide ((t:Int)< ((bnd e i).length:Int))=false from decide_eq_false om,cond_false]
      show ((scope_walk N a m2 mpl ⟨f2.why,f2.at_⟩ p).bind λx649=>_)=_
      have ew:scope_walk N a m2 mpl ⟨f2.why,f2.at_⟩ p=some w:=hn1 N om
      rw [ew,BP]
      exact hn0 N k N om om om
     |succ q ihq=>
      intro t ht m2 hm2
      have htl:t< (bnd e i).length:=om
      obtain ⟨s0,hs0⟩: ∃s0,(bnd e i)[t]?=some s0:=⟨_,List.getElem?_eq_getElem htl⟩
      have htk:(bnd e i).take (t+1)=(bnd e i).take t++[s0]:=by rw [List.take_add_one,hs0];rfl
      have h0:=hm2 s0
      have hc1:((bnd e i).take t).count s0+C.count s0<=2+C.length:=by
       have a1:=List.count_le_length (a:=s0) (l:=(bnd e i).take t)
       have a2:=List.count_le_length (a:=s0) (l:=C)
       simp at a1;omega
      obtain ⟨r,hr,n0,hn0⟩:=ihq (t+1) om (Mc s0 (Cz m2 s0+1) m2) λs=>by
       rw [NH,htk,List.count_append]
       cases hs:(s==s0)
       ·rw [cond_false,hm2,List.count_cons_of_ne (λe=>by subst e;simp at hs)];simp
       ·have:s=s0:=by simpa using hs
        subst this
        rw [cond_true,hm2,List.count_singleton_self];omega
      refine ⟨r,hr,n0+1,λN k kk h1 h2 h3=>?_⟩
      obtain ⟨kk,rfl⟩: ∃j,kk=j+1:=⟨kk - 1,om⟩
      show Iy (A3.at N) N mpl p i f2.why f2.at_ (Cs (A3.at N) N e mpl p k) a (bnd e i) (Ih (A3.at N) N mpl p i f2.why f2.at_ (Cs (A3.at N) N e mpl p k) a (bnd e i) kk) t m2=_
      unfold Iy
      rw [show decide ((t:Int)< ((bnd e i).length:Int))=true from decide_eq_true om,cond_true,CC hs0,BP,wr (x:=(t:Int)+1) om om,wr (x:=Cz m2 s0+1) om om,show (t:Int)+1=((t+1:Nat):Int) by omega]
      exact hn0 N k kk om om om
    obtain ⟨r,hr,n0,hn0⟩:=l2 (bnd e i).length 0 om mi λs=>by rw [hmi];simp
    exact ⟨r,hr,n0,λN k h1 h2=>hn0 N k N h1 h2 h1⟩
  refine (loop e.args.length 0 om mi f1 hmi).diag.mono λr hr=>⟨hr.1,?_⟩
  rw [hr.2,hf1,hmi,AAC,cc]
  constructor
  ·rintro ⟨⟨h1,h2,h3⟩,h4⟩;exact ⟨h1,h2,h3,λi a ha=>h4 i a (Nat.zero_le _) ha⟩
  ·rintro ⟨h1,h2,h3,h4⟩;exact ⟨⟨h1,h2,h3⟩,λi a _ ha=>h4 i a ha⟩
end
end Fth
namespace Fth
open Go
theorem Sy{p:AL}{nm:List UInt8}{i:Nat}{f:AN}(hi:p.funcs[i]?=some f)(hn:f.name=nm)(h:nm∉(p.funcs.take i).map (·.name)):hd p nm=some f:=by
 unfold hd
 rw [List.find?_eq_some_iff_getElem]
 obtain ⟨hl,he⟩:=List.getElem?_eq_some_iff.1 hi
 refine ⟨by simpa using hn,i,hl,he,λj hj=>?_⟩
 simp only [Bool.not_eq_true',beq_eq_false_iff_ne,ne_eq]
 intro e
 refine h (List.mem_map.2 ⟨p.funcs[j],?_,e⟩)
 rw [List.mem_take_iff_getElem]
 exact ⟨j,om,rfl⟩
theorem Wm{p:AL}{nm:List UInt8}(h:nm∉p.funcs.map (·.name)):hd p nm=none:=by
 unfold hd
 rw [List.find?_eq_none]
 intro f hf e
 exact h (List.mem_map.2 ⟨f,hf,by simpa using e⟩)
section
variable{p:AL}
theorem ABN(hlen:p.funcs.length<=50000)(hb: ∀f∈p.funcs,D8 f.body<=1000000/\f.params.length<=1000000):ET (λN=>Ii N p) λr=>r.why=0↔ABK p:=by
 have bodies: ∀(mpl:As),Pl p mpl->∀(j i:Nat),i+j=p.funcs.length->∀(f0:AF),
   EL (λN k=>DJ N p mpl k (i:Int) f0.why f0.at_) λr=>r.why=0↔f0.why=0/\∀i' f,i<=i'->p.funcs[i']?=some f->PN f/\Sc p (λs=>s∈f.params.map (·.name)) f.body:=by
  intro mpl hpl j
  induction j with
  |zero=>
   intro i hi f0
   refine EL.down ?_
   show EL (λN k=>IH N p mpl (DJ N p mpl k) i f0.why f0.at_) _
   unfold IH
   refine EL.cond (λh=>by have:=CS h;omega) λ_=> .some ⟨λh=>⟨h,λi' f hi' hf=>?_⟩,λh=>h.1⟩
   have:=(List.getElem?_eq_some_iff.1 hf).1
   omega
  |succ j ihj=>
   intro i hi f0
   refine EL.down ?_
   show EL (λN k=>IH N p mpl (DJ N p mpl k) i f0.why f0.at_) _
   unfold IH
   refine EL.cond (λ_=>?_) λh=>by have:=EE h;omega
   obtain ⟨f,hf⟩: ∃f,p.funcs[i]?=some f:=⟨_,List.getElem?_eq_getElem om⟩
   have hfb:=hb f (List.mem_of_getElem? hf)
   refine EL.eq (CC hf) ?_
   have pars: ∀(q t:Nat),t+q=f.params.length->∀(f2:AF) (m:As),(∀s,Cz m s=(((f.params.take t).map (·.name)).count s:Int))->
     ∃r:AF,(r.why=0↔f2.why=0/\(∀i' x,t<=i'->f.params[i']?=some x->x.name∉(f.params.take i').map (·.name))/\Sc p (λs=>s∈f.params.map (·.name)) f.body/\∀i' f,i+1<=i'->p.funcs[i']?=some f->PN f/\Sc p (λs=>s∈f.params.map (·.name)) f.body)/\
      ∃n0,∀N k kk,n0<=N->n0<=k->n0<=kk->F8 N p mpl i (DJ N p mpl k) f kk (t:Int) f2.why f2.at_ m=some r:=by
    intro q
    induction q with
    |zero=>
     intro t ht f2 m hm
     have htk:f.params.take t=f.params:=List.take_of_length_le om
     obtain ⟨w,hw,n1,hn1⟩:=ABM hpl om (D8 f.body) f.body (Nat.le_refl _) (f.params.map (·.name)) m ⟨f2.why,f2.at_⟩ (λs=>by rw [hm,htk]) (by rw [List.length_map];omega)
     obtain ⟨r,hr,n0,hn0⟩:=ihj (i+1) om w.2
     refine ⟨r,?_,n0+n1+1,λN k kk h1 h2 h3=>?_⟩
     ·rw [hr,hw.2]
      constructor
      ·rintro ⟨⟨h1,h2⟩,h3⟩
       exact ⟨h1,λi' x hi' hx=>by have:=(List.getElem?_eq_some_iff.1 hx).1;omega,h2,h3⟩
      ·rintro ⟨h1,_,h2,h3⟩;exact ⟨⟨h1,h2⟩,h3⟩
     ·obtain ⟨kk,rfl⟩: ∃j,kk=j+1:=⟨kk - 1,om⟩
      show GD N p mpl i (DJ N p mpl k) f (F8 N p mpl i (DJ N p mpl k) f kk) t f2.why f2.at_ m=_
      unfold GD
      have ew:scope_walk N f.body m mpl ⟨f2.why,f2.at_⟩ p=some w:=hn1 N om
      rw [show decide ((t:Int)< (f.params.length:Int))=false from decide_eq_false om,cond_false,QW,ew,BP,wr om om,show (i:Int)+1=((i+1:Nat):Int) by omega]
      exact hn0 N k om om
    |succ q ihq=>
     intro t ht f2 m hm
     obtain ⟨x,hx⟩: ∃x,f.params[t]?=some x:=⟨_,List.getElem?_eq_getElem om⟩
     have htk:(f.params.take (t+1)).map (·.name)=(f.params.take t).map (·.name)++[x.name]:=by rw [List.take_add_one,hx];simp
     have hcl:=List.count_le_length (a:=x.name) (l:=(f.params.take t).map (·.name))
     simp only [List.length_map,List.length_take] at hcl
     have hm': ∀s,Cz (Mc x.name (Cz m x.name+1) m) s=(((f.params.take (t+1)).map (·.name)).count s:Int):=λs=>by
      rw [NH,htk,List.count_append]
      cases hs:(s==x.name)
      ·rw [cond_false,hm,List.count_cons_of_ne (λe=>by subst e;simp at hs)];simp
      ·have:s=x.name:=by simpa using hs
       subst this
       rw [cond_true,hm,List.count_singleton_self];omega
     have next: ∀f3:AF,(f3.why=0↔f2.why=0/\x.name∉(f.params.take t).map (·.name))->∃r:AF,(r.why=0↔f2.why=0/\(∀i' x,t<=i'->f.params[i']?=some x->x.name∉(f.params.take i').map (·.name))/\Sc p (λs=>s∈f.params.map (·.name)) f.body/\∀i' f,i+1<=i'->p.funcs[i']?=some f->PN f/\Sc p (λs=>s∈f.params.map (·.name)) f.body)/\
       ∃n0,∀N k kk,n0<=N->n0<=k->n0<=kk->KE (t:Int) m (F8 N p mpl i (DJ N p mpl k) f kk) x f3.why f3.at_=some r:=by
      intro f3 hf3
      obtain ⟨r,hr,n0,hn0⟩:=ihq (t+1) om f3 _ hm'
      refine ⟨r,?_,n0,λN k kk h1 h2 h3=>?_⟩
      ·rw [hr,hf3]
       constructor
       ·rintro ⟨⟨h1,h2⟩,h3,h4⟩
        refine ⟨h1,λi' y hi' hy=>?_,h4⟩
        rcases Nat.eq_or_lt_of_le hi' with rfl|hlt
        ·rw [hx] at hy;cases hy;exact h2
        ·exact h3 i' y hlt hy
       ·rintro ⟨h1,h2,h3⟩
        exact ⟨⟨h1,h2 t x (Nat.le_refl _) hx⟩,λi' y hi' hy=>h2 i' y om hy,h3⟩
      ·unfold KE
       have:=hm x.name
       rw [wr (x:=(t:Int)+1) om om,wr (x:=Cz m x.name+1) om om,show (t:Int)+1=((t+1:Nat):Int) by omega]
       exact hn0 N k kk h1 h2 h3
     have hcnt:=List.count_pos_iff (a:=x.name) (l:=(f.params.take t).map (·.name))
     cases hpos:decide (Cz m x.name>0)
     ·have hpos':=EE hpos
      obtain ⟨r,hr,n0,hn0⟩:=next f2 ⟨λh=>⟨h,λh'=>by have:=hcnt.2 h';rw [hm] at hpos';omega⟩,λh=>h.1⟩
      refine ⟨r,hr,n0+1,λN k kk h1 h2 h3=>?_⟩
      obtain ⟨kk,rfl⟩: ∃j,kk=j+1:=⟨kk - 1,om⟩
      show GD N p mpl i (DJ N p mpl k) f (F8 N p mpl i (DJ N p mpl k) f kk) t f2.why f2.at_ m=_
      unfold GD
      rw [show decide ((t:Int)< (f.params.length:Int))=true from decide_eq_true om,cond_true,CC hx,BP,hpos,cond_false]
      exact hn0 N k kk om om om
     ·have hpos':=CS hpos
      obtain ⟨f3,e3,h3⟩:=Q8 (y:=30) (a:=x.at_) (flt:=⟨f2.why,f2.at_⟩) (by decide)
      obtain ⟨r,hr,n0,hn0⟩:=next f3 ⟨λh=>absurd h h3,λh=>absurd (hcnt.1 (by rw [hm] at hpos';omega)) h.2⟩
      refine ⟨r,hr,n0+1,λN k kk h1 h2 h3=>?_⟩
      obtain ⟨kk,rfl⟩: ∃j,kk=j+1:=⟨kk - 1,om⟩
      show GD N p mpl i (DJ N p mpl k) f (F8 N p mpl i (DJ N p mpl k) f kk) t f2.why f2.at_ m=_
      unfold GD
      rw [show decide ((t:Int)< (f.params.length:Int))=true from decide_eq_true om,cond_true,CC hx,BP,hpos,cond_true,e3,BP]
      exact hn0 N k kk om om om
   obtain ⟨r,hr,n0,hn0⟩:=pars f.params.length 0 om f0 [] λs=>by simp [Ua]
   refine ⟨r,hr.trans ?_,n0,λN k h1 h2=>hn0 N k N h1 h2 h1⟩
   constructor
   ·rintro ⟨h1,h2,h3,h4⟩
    refine ⟨h1,λi' g hi' hg=>?_⟩
    rcases Nat.eq_or_lt_of_le hi' with rfl|hlt
    ·rw [hf] at hg;cases hg;exact ⟨λi x hx=>h2 i x (Nat.zero_le _) hx,h3⟩
    ·exact h4 i' g hlt hg
   ·rintro ⟨h1,h2⟩
    have:=h2 i f (Nat.le_refl _) hf
    exact ⟨h1,λi' x _ hx=>this.1 i' x hx,this.2,λi' g hi' hg=>h2 i' g om hg⟩
 have places: ∀(j i:Nat),i+j=p.funcs.length->∀(f0:AF) (m:As),(∀nm,(nm∉(p.funcs.take i).map (·.name)/\Cz m nm=0)∨∃(k:Nat) (f:AN),k<i/\p.funcs[k]?=some f/\hd p nm=some f/\Cz m nm=(k:Int)+1)->
   EL (λN k=>H1 N p k (i:Int) f0.why f0.at_ m) λr=>r.why=0↔f0.why=0/\(∀i' f,i<=i'->p.funcs[i']?=some f->f.name∉(p.funcs.take i').map (·.name))/\∀f∈p.funcs,PN f/\Sc p (λs=>s∈f.params.map (·.name)) f.body:=by
  intro j
  induction j with
  |zero=>
   intro i hi f0 m hm
   have htk:p.funcs.take i=p.funcs:=List.take_of_length_le om
   refine EL.down ?_
   show EL (λN k=>II N p (H1 N p k) i f0.why f0.at_ m) _
   unfold II
   refine EL.cond (λh=>by have:=CS h;omega) λ_=>?_
   have hpl:Pl p m:=λnm=>by
    rcases hm nm with ⟨h1,h2⟩| ⟨k,f,h1,h2,h3,h4⟩
    ·rw [htk] at h1;exact .inl ⟨Wm h1,h2⟩
    ·exact .inr ⟨k,f,h2,h3,h4⟩
   refine EL.of ((bodies m hpl p.funcs.length 0 om f0).diag.mono λr hr=>?_)
   rw [hr]
   constructor
   ·rintro ⟨h1,h2⟩
    refine ⟨h1,λi' f hi' hf=>by have:=(List.getElem?_eq_some_iff.1 hf).1;omega,λf hf=>?_⟩
    obtain ⟨i',hi'⟩:=List.mem_iff_getElem?.1 hf
    exact h2 i' f (Nat.zero_le _) hi'
   ·rintro ⟨h1,_,h2⟩
    exact ⟨h1,λi' f _ hf=>h2 f (List.mem_of_getElem? hf)⟩
  |succ j ihj=>
   intro i hi f0 m hm
   obtain ⟨f,hf⟩: ∃f,p.funcs[i]?=some f:=⟨_,List.getElem?_eq_getElem om⟩
   have htk:(p.funcs.take (i+1)).map (·.name)=(p.funcs.take i).map (·.name)++[f.name]:=by rw [List.take_add_one,hf];simp
   refine EL.down ?_
   show EL (λN k=>II N p (H1 N p k) i f0.why f0.at_ m) _
   unfold II
   refine EL.cond (λ_=>?_) λh=>by have:=EE h;omega
   refine EL.eq (CC hf) ?_
   have e1:IntKind.i64.wrap ((i:Int)+1)=((i+1:Nat):Int):=by rw [wr om om];omega
   refine EL.cond (λh=>?_) λh=>?_
   ·have h:=CS h
    refine EL.tb (Q8 (by decide)) λf3 h3=>?_
    unfold KD
    rw [e1]
    have hin:f.name∈(p.funcs.take i).map (·.name):=by
     rcases hm f.name with ⟨_,h2⟩| ⟨k,g,h1,h2,h3,h4⟩
     ·omega
     ·have hgn:g.name=f.name:=by unfold hd at h3;have:=List.find?_some h3;simpa using this
      rw [<-hgn]
      refine List.mem_map.2 ⟨g,?_,rfl⟩
      rw [List.mem_take_iff_getElem]
      obtain ⟨hkl,hke⟩:=List.getElem?_eq_some_iff.1 h2
      exact ⟨k,om,hke⟩
    refine (ihj (i+1) om f3 m λnm=>?_).mono λr hr=>?_
    ·rcases hm nm with ⟨h1,h2⟩| ⟨k,g,h1,h2,h3,h4⟩
     ·refine .inl ⟨λh'=>?_,h2⟩
      rw [htk] at h'
      rcases List.mem_append.1 h' with h'|h'
      ·exact h1 h'
      ·simp at h';subst h';exact h1 hin
     ·exact .inr ⟨k,g,om,h2,h3,h4⟩
    ·rw [hr]
     exact ⟨λh=>absurd h.1 h3,λh=>absurd hin (h.2.1 i f (Nat.le_refl _) hf)⟩
   ·have h:=EE h
    unfold KD
    rw [e1]
    have hout:f.name∉(p.funcs.take i).map (·.name):=by
     rcases hm f.name with ⟨h1,_⟩| ⟨k,g,h1,h2,h3,h4⟩
     ·exact h1
     ·omega
    refine (ihj (i+1) om f0 (Mc f.name ((i+1:Nat):Int) m) λnm=>?_).mono λr hr=>?_
    ·rw [NH]
     cases hn:(nm==f.name)
     ·have hne:nm≠f.name:=by simpa using hn
      rw [cond_false]
      rcases hm nm with ⟨h1,h2⟩| ⟨k,g,h1,h2,h3,h4⟩
      ·refine .inl ⟨λh'=>?_,h2⟩
       rw [htk] at h'
       rcases List.mem_append.1 h' with h'|h'
       ·exact h1 h'
       ·simp at h';exact hne h'
      ·exact .inr ⟨k,g,om,h2,h3,h4⟩
     ·have hne:nm=f.name:=by simpa using hn
      subst hne
      rw [cond_true]
      exact .inr ⟨i,f,om,hf,Sy hf rfl hout,om⟩
    ·rw [hr]
     constructor
     ·rintro ⟨h1,h2,h3⟩
      refine ⟨h1,λi' g hi' hg=>?_,h3⟩
      rcases Nat.eq_or_lt_of_le hi' with rfl|hlt
      ·rw [hf] at hg;cases hg;exact hout
      ·exact h2 i' g hlt hg
     ·rintro ⟨h1,h2,h3⟩
      exact ⟨h1,λi' g hi' hg=>h2 i' g om hg,h3⟩
 refine (places p.funcs.length 0 om ⟨0,0⟩ [] λnm=> .inl ⟨by simp,Ua nm⟩).diag.mono λr hr=>?_
 rw [hr]
 constructor
 ·rintro ⟨_,h1,h2⟩;exact ⟨λi f hf=>h1 i f (Nat.zero_le _) hf,h2⟩
 ·rintro ⟨h1,h2⟩;exact ⟨rfl,λi f _ hf=>h1 i f hf,h2⟩
end
end Fth
namespace Fth
open Go
theorem Qb{α:Type}{b:Nat}{xs ys:List α}(hb:b<=16)(h:xs.length+ys.length<=8000000000000):T (Gd b xs ys) λ_=>True:=by
 rw [Gd,if_pos]
 ·exact .some trivial
 ·refine ⟨?_,om⟩
  have:=Nat.mul_le_mul h hb
  omega
theorem Q9{p:AL}{nm:List UInt8}{N:Nat}(hl:p.funcs.length<=1000000)(hN:p.funcs.length+2<=N):
  T (HJ N p nm) λr=>(hd p nm=none/\r= -1)∨∃(i:Nat) (f:AN),p.funcs[i]?=some f/\hd p nm=some f/\r=(i:Int)/\f.name=nm/\nm∉(p.funcs.take i).map (·.name):=by
 have loop: ∀(k i:Nat),i<=p.funcs.length->p.funcs.length<i+k->nm∉(p.funcs.take i).map (·.name)->T (I9 p nm k (i:Int)) λr=>(hd p nm=none/\r= -1)∨∃(i:Nat) (f:AN),p.funcs[i]?=some f/\hd p nm=some f/\r=(i:Int)/\f.name=nm/\nm∉(p.funcs.take i).map (·.name):=by
  intro k
  induction k with
  |zero=>intro i _ _;omega
  |succ k ih=>
   intro i hi hk hno
   show T (Ke p nm (I9 p nm k) i) _
   unfold Ke
   refine T.cond (λh=>?_) λh=>?_
   ·have h:=CS h
    obtain ⟨f,hf⟩: ∃f,p.funcs[i]?=some f:=⟨_,List.getElem?_eq_getElem om⟩
    refine T.eq (CC hf) (T.cond (λhn=>?_) λhn=>?_)
    ·have hn:f.name=nm:=by simpa using hn
     exact .some (.inr ⟨i,f,hf,Sy hf hn hno,rfl,hn,hno⟩)
    ·have hn:f.name≠nm:=by simpa using hn
     rw [wr om om,show (i:Int)+1=((i+1:Nat):Int) by omega]
     refine ih (i+1) om om λh'=>?_
     rw [List.take_add_one,hf] at h'
     simp only [List.map_append,List.mem_append] at h'
     rcases h' with h'|h'
     ·exact hno h'
     ·simp at h';exact hn h'.symm
   ·have h:=EE h
    rw [List.take_of_length_le om] at hno
    exact .some (.inl ⟨Wm hno,rfl⟩)
 exact loop N 0 om om (by simp)
theorem AAE{l:List (List UInt8)}{s:List UInt8}{N:Nat}(hl:l.length<=2000000000)(hN:l.length+2<=N):JS N l s=some (decide (s∈l)):=by
 have loop: ∀(k i:Nat),i<=l.length->l.length<i+k->s∉l.take i->KW l s k (i:Int)=some (decide (s∈l)):=by
  intro k
  induction k with
  |zero=>intro i _ _;omega
  |succ k ih=>
   intro i hi hk hno
   show Ly l s (KW l s k) i=_
   unfold Ly
   cases h:decide ((i:Int)< (l.length:Int))
   ·have h:=EE h
    rw [List.take_of_length_le om] at hno
    rw [cond_false,decide_eq_false hno]
   ·have h:=CS h
    obtain ⟨x,hx⟩: ∃f,l[i]?=some f:=⟨_,List.getElem?_eq_getElem om⟩
    rw [cond_true,CC hx,BP]
    cases hn:(x==s)
    ·have hn:x≠s:=by simpa using hn
     rw [cond_false,wr om om,show (i:Int)+1=((i+1:Nat):Int) by omega]
     refine ih (i+1) om om λh'=>?_
     rw [List.take_add_one,hx] at h'
     rcases List.mem_append.1 h' with h'|h'
     ·exact hno h'
     ·simp at h';exact hn h'.symm
    ·have hn:x=s:=by simpa using hn
     subst hn
     rw [cond_true,decide_eq_true (List.mem_of_getElem? hx)]
 exact loop N 0 om om (by simp)
theorem ABO{a b:List (List UInt8)}(h:a.length+b.length<=2000000000):JA a b=some (a++b):=by
 unfold JA
 obtain ⟨_,e1,_⟩:=Qb (b:=16) (xs:=([]:List (List UInt8))) (ys:=a) (by decide) (by simp;omega)
 obtain ⟨_,e2,_⟩:=Qb (b:=16) (xs:=([]:List (List UInt8))++a) (ys:=b) (by decide) (by simp;omega)
 rw [e1,BP,e2,BP,List.nil_append]
section
variable{p:AL}
def N7(p:AL)(l:List BF):Prop:=∀s∈l,s.free=false/\Kw p s.e
theorem ABP: ∀(n:Nat) (e:AE),D8 e<=n->∀(C:List (List UInt8)),C.length+2*n<=1000000000->n<=10000000->ET (λN=>ref06_seen N e C) λl=>l.length<=D8 e/\(N7 p l↔Sc p (λs=>s∈C) e):=by
 intro n
 induction n with
 |zero=>intro e he;have:=NF e;omega
 |succ n ih=>
  intro e he C hC hn
  have hal:=NU e.args
  have hes:=Ph e
  refine ET.down ?_
  show ET (λN=>Lc (Bh.at N) N e C) _
  have loop: ∀(j i:Nat),i+j=e.args.length->∀(acc:List BF),acc.length<=1+Cy (e.args.take i)->
    EL (λN k=>Im (Bh.at N) e C k acc (i:Int)) λl=>l.length<=1+Cy e.args - (1+Cy (e.args.take i) - acc.length)/\(N7 p l↔N7 p acc/\∀i' a,i<=i'->e.args[i']?=some a->Sc p (λs=>s∈bnd e i'∨s∈C) a):=by
   intro j
   induction j with
   |zero=>
    intro i hi acc hacc
    refine EL.down ?_
    show EL (λN k=>JB (Bh.at N) e C (Im (Bh.at N) e C k) acc i) _
    unfold JB
    have htk:e.args.take i=e.args:=List.take_of_length_le om
    refine EL.cond (λh=>by have:=CS h;omega) λ_=> .some ⟨by rw [htk] at hacc ⊢;omega,λh=>⟨h,λi' a hi' ha=>?_⟩,λh=>h.1⟩
    have:=(List.getElem?_eq_some_iff.1 ha).1
    omega
   |succ j ihj=>
    intro i hi acc hacc
    refine EL.down ?_
    show EL (λN k=>JB (Bh.at N) e C (Im (Bh.at N) e C k) acc i) _
    unfold JB
    obtain ⟨a,ha⟩: ∃a,e.args[i]?=some a:=⟨_,List.getElem?_eq_getElem om⟩
    have has:=Oa (List.mem_of_getElem? ha)
    have hbl:=YV e i
    have htk:Cy (e.args.take (i+1))=Cy (e.args.take i)+D8 a:=by rw [List.take_add_one,ha];simp [Kt,Cy]
    have htk2:Cy (e.args.take (i+1))<=Cy e.args:=by
     have:=Kt (e.args.take (i+1)) (e.args.drop (i+1))
     rw [List.take_append_drop] at this;omega
    refine EL.cond (λ_=>?_) λh=>by have:=EE h;omega
    refine EL.eq (ABL e i) (EL.eq (ABO om) (EL.eq (CC ha) (EL.bind (P:=λl=>l.length<=D8 a/\(N7 p l↔Sc p (λs=>s∈bnd e i∨s∈C) a)) ?_ λl hl=>?_)))
    ·have:=ih a om (C++bnd e i) (by rw [List.length_append];omega) om
     have eB:(λs=>s∈C++bnd e i)=λs=>s∈bnd e i∨s∈C:=funext λs=>propext (List.mem_append.trans Or.comm)
     rw [eB] at this
     exact this
    ·refine EL.tb (HD (by decide) om) λ_ _=>?_
     rw [wr om om,show (i:Int)+1=((i+1:Nat):Int) by omega]
     refine (ihj (i+1) om (acc++l) (by rw [List.length_append,htk];omega)).mono λr hr=>⟨by have:=hr.1;rw [List.length_append,htk] at this;omega,?_⟩
     rw [hr.2]
     constructor
     ·rintro ⟨h1,h2⟩
      have a1:N7 p acc:=λs hs=>h1 s (List.mem_append_left _ hs)
      have a2:N7 p l:=λs hs=>h1 s (List.mem_append_right _ hs)
      refine ⟨a1,λi' b hi' hb=>?_⟩
      rcases Nat.eq_or_lt_of_le hi' with rfl|hlt
      ·rw [ha] at hb;cases hb;exact hl.2.1 a2
      ·exact h2 i' b hlt hb
     ·rintro ⟨h1,h2⟩
      refine ⟨λs hs=>?_,λi' b hi' hb=>h2 i' b om hb⟩
      rcases List.mem_append.1 hs with hs|hs
      ·exact h1 s hs
      ·exact hl.2.2 (h2 i a (Nat.le_refl _) ha) s hs
  have j1: ∀(acc:List BF),acc.length<=1->(N7 p acc↔(e.op=6->e.name∈C)/\Kw p e)->ET (λN=>Jy (Bh.at N) N e C acc) λl=>l.length<=D8 e/\(N7 p l↔Sc p (λs=>s∈C) e):=by
   intro acc hacc hok
   unfold Jy
   refine (loop e.args.length 0 om acc om).diag.mono λr hr=>⟨om,?_⟩
   rw [hr.2,hok,AAC]
   constructor
   ·rintro ⟨⟨h1,h2⟩,h3⟩;exact ⟨h1,h2,λi a ha=>h3 i a (Nat.zero_le _) ha⟩
   ·rintro ⟨h1,h2,h3⟩;exact ⟨⟨h1,h2⟩,λi a _ ha=>h3 i a ha⟩
  unfold Lc Lz
  refine ET.cond (λh=>?_) λh=>?_
  ·have h6:=CV h
   refine ET.cond (λ_=>ET.cond (λ_=>?_) λh=>absurd h6 (B9 h)) λh=>by cases h
   refine ET.bind (P:=λb=>b=decide (e.name∈C)) (R0 (C.length+2) ⟨_,rfl,λN hN=>AAE om hN⟩) λb hb=>?_
   subst hb
   refine ET.tb (HD (by decide) (by simp)) λ_ _=>j1 _ (by simp) ?_
   simp only [List.nil_append,N7,List.mem_singleton,forall_eq]
   constructor
   ·rintro ⟨h1,h2⟩;exact ⟨λ_=>by simpa using h1,h2⟩
   ·rintro ⟨h1,h2⟩;exact ⟨by simpa using h1 h6,h2⟩
  ·have h6:=B9 h
   cases h7:(e.op==7)
   ·have h7:=B9 h7
    refine ET.cond (λh=>by cases h) λ_=>j1 _ (by simp) ?_
    exact ⟨λ_=>⟨λh=>absurd h h6,λh=>absurd h h7⟩,λ_ s hs=>by cases hs⟩
   ·refine ET.cond (λ_=>ET.cond (λh=>absurd (CV h) h6) λ_=>?_) λh=>by cases h
    refine ET.tb (HD (by decide) (by simp)) λ_ _=>j1 _ (by simp) ?_
    simp only [List.nil_append,N7,List.mem_singleton,forall_eq]
    exact ⟨λh=>⟨λh'=>absurd h' h6,h.2⟩,λh=>⟨trivial,h.2⟩⟩
def GF(l:List AF)(n:Nat):Prop:=(∀y∈l,y.why≠0)/\l.length<=n
theorem GF.snoc{l:List AF}{n:Nat}{y:AF}(h:GF l n)(hy:y.why≠0):GF (l++[y]) (n+1):=by
 refine ⟨λz hz=>?_,by simp;exact h.2⟩
 rcases List.mem_append.1 hz with hz|hz
 ·exact h.1 z hz
 ·simp at hz;subst hz;exact hy
theorem Y8(hlen:p.funcs.length<=50000)(hb: ∀f∈p.funcs,D8 f.body<=1000000/\f.params.length<=1000000):ET (λN=>Hj N p) λl=>GF l 200000000000/\(l=[]↔ABK p):=by
 have seens: ∀(l:List BF),l.length<=1000000->∀(i:Nat) (S:Nat->Nat->List AF->Int->Option (List AF)) (n0:Nat),n0+2*l.length<=300000000000->i<=50000->∀(j t:Nat),t+j=l.length->∀acc,GF acc (n0+2*t)->
   ∃acc',GF acc' (n0+2*l.length)/\(acc'=[]↔acc=[]/\∀t' s,t<=t'->l[t']?=some s->s.free=false/\Kw p s.e)/\∃n1,∀N k kk,n1<=N->n1<=kk->EU N p i (S N k) l kk acc (t:Int)=S N k acc' ((i+1:Nat):Int):=by
  intro l hl i S n0 hn0 hi j
  induction j with
  |zero=>
   intro t ht acc hacc
   refine ⟨acc,by rw [show t=l.length by omega] at hacc;exact hacc,⟨λh=>⟨h,λt' s ht' hs=>by have:=(List.getElem?_eq_some_iff.1 hs).1;omega⟩,λh=>h.1⟩,1,λN k kk _ hkk=>?_⟩
   obtain ⟨kk,rfl⟩: ∃j,kk=j+1:=⟨kk - 1,om⟩
   show Fm N p i (S N k) l (EU N p i (S N k) l kk) acc t=_
   unfold Fm
   rw [show decide ((t:Int)< (l.length:Int))=false from decide_eq_false om,cond_false,wr om om,show (i:Int)+1=((i+1:Nat):Int) by omega]
  |succ j ihj=>
   intro t ht acc hacc
   obtain ⟨s,hs⟩: ∃s,l[t]?=some s:=⟨_,List.getElem?_eq_getElem om⟩
   have iff: ∀{A:Prop},(A↔acc=[]/\(s.free=false/\Kw p s.e))->((A/\∀t' s,t+1<=t'->l[t']?=some s->s.free=false/\Kw p s.e)↔acc=[]/\∀t' s,t<=t'->l[t']?=some s->s.free=false/\Kw p s.e):=by
    intro A hA
    rw [hA]
    constructor
    ·rintro ⟨⟨h1,h2⟩,h3⟩
     refine ⟨h1,λt' s' ht' hs'=>?_⟩
     rcases Nat.eq_or_lt_of_le ht' with rfl|hlt
     ·rw [hs] at hs';cases hs';exact h2
     ·exact h3 t' s' hlt hs'
    ·rintro ⟨h1,h2⟩
     exact ⟨⟨h1,h2 t s (Nat.le_refl _) hs⟩,λt' s' ht' hs'=>h2 t' s' om hs'⟩
   have e1:IntKind.i64.wrap ((t:Int)+1)=((t+1:Nat):Int):=by rw [wr om om];omega
   have call: ∀(a1:List AF),GF a1 (n0+2*t+1)->(a1=[]↔acc=[]/\s.free=false)->∃acc',GF acc' (n0+2*l.length)/\(acc'=[]↔acc=[]/\∀t' s,t<=t'->l[t']?=some s->s.free=false/\Kw p s.e)/\∃n1,∀N k kk,n1<=N->n1<=kk->GG N p t (EU N p i (S N k) l kk) s a1=S N k acc' ((i+1:Nat):Int):=by
    intro a1 ha1 hf
    have go: ∀a2,GF a2 (n0+2*(t+1))->(a2=[]↔acc=[]/\(s.free=false/\Kw p s.e))->∃acc',GF acc' (n0+2*l.length)/\(acc'=[]↔acc=[]/\∀t' s,t<=t'->l[t']?=some s->s.free=false/\Kw p s.e)/\∃n1,∀N k kk,n1<=N->n1<=kk->GE t (EU N p i (S N k) l kk) a2=S N k acc' ((i+1:Nat):Int):=by
     intro a2 h2 h3
     obtain ⟨acc',q1,q2,n1,q3⟩:=ihj (t+1) om a2 h2
     refine ⟨acc',q1,q2.trans (iff h3),n1,λN k kk hN hkk=>?_⟩
     unfold GE
     rw [e1]
     exact q3 N k kk hN hkk
    have up:GF a1 (n0+2*(t+1)):=⟨ha1.1,by have:=ha1.2;omega⟩
    cases h7:(s.e.op != 7)
    ·have h7':=KR h7
     have hcall: ∀N,p.funcs.length+2<=N->T (HJ N p s.e.name) λr=>(hd p s.e.name=none/\r= -1)∨∃(i:Nat) (f:AN),p.funcs[i]?=some f/\hd p s.e.name=some f/\r=(i:Int)/\f.name=s.e.name/\s.e.name∉(p.funcs.take i).map (·.name):=λN hN=>Q9 om hN
     have bad: ∀y:Int,y≠0->¬Kw p s.e->∃acc',GF acc' (n0+2*l.length)/\(acc'=[]↔acc=[]/\∀t' s,t<=t'->l[t']?=some s->s.free=false/\Kw p s.e)/\∃n1,∀N k kk,n1<=N->n1<=kk->((Gd 16 a1 [AF.mk y s.e.at_]).bind λ_=>GE t (EU N p i (S N k) l kk) (a1++[AF.mk y s.e.at_]))=S N k acc' ((i+1:Nat):Int):=by
      intro y hy hno
      obtain ⟨acc',q1,q2,n1,q3⟩:=go (a1++[AF.mk y s.e.at_]) ⟨(ha1.snoc hy).1,by have:=(ha1.snoc (y:=AF.mk y s.e.at_) hy).2;omega⟩ ⟨λh=>by simp at h,λh=>absurd h.2.2 hno⟩
      refine ⟨acc',q1,q2,n1,λN k kk hN hkk=>?_⟩
      obtain ⟨_,e,_⟩:=Qb (b:=16) (xs:=a1) (ys:=[AF.mk y s.e.at_]) (by decide) (by have:=ha1.2;simp;omega)
      rw [e,BP]
      exact q3 N k kk hN hkk
     cases hh:hd p s.e.name with
     |none=>
      obtain ⟨acc',q1,q2,n1,q3⟩:=bad 32 (by decide) λh=>by obtain ⟨f,hf',_⟩:=h h7';rw [hh] at hf';cases hf'
      refine ⟨acc',q1,q2,n1+p.funcs.length+2,λN k kk hN hkk=>?_⟩
      unfold GG
      obtain ⟨r,hr,hr'⟩:=hcall N om
      rcases hr' with ⟨_,h0⟩| ⟨_,f,_,h0,_⟩
      ·subst h0
       rw [h7,cond_false,hr,BP,show decide ((-1:Int)<0)=true from rfl,cond_true]
       exact q3 N k kk om om
      ·rw [hh] at h0;cases h0
     |some f=>
      rcases Decidable.em (f.params.length=s.e.args.length) with hfl|hfl
      ·obtain ⟨acc',q1,q2,n1,q3⟩:=go a1 up (by rw [hf];exact ⟨λh=>⟨h.1,h.2,λ_=>⟨f,hh,hfl⟩⟩,λh=>⟨h.1,h.2.1⟩⟩)
       refine ⟨acc',q1,q2,n1+p.funcs.length+2,λN k kk hN hkk=>?_⟩
       unfold GG
       obtain ⟨r,hr,hr'⟩:=hcall N om
       rcases hr' with ⟨h0,_⟩| ⟨i2,f2,h1,h0,h3,_⟩
       ·rw [hh] at h0;cases h0
       ·rw [hh] at h0;cases h0
        subst h3
        rw [h7,cond_false,hr,BP,show decide ((i2:Int)<0)=false from decide_eq_false om,cond_false,CC h1,BP,show ((f.params.length:Int) != (s.e.args.length:Int))=false by simp;omega,cond_false]
        exact q3 N k kk om om
      ·obtain ⟨acc',q1,q2,n1,q3⟩:=bad 33 (by decide) λh=>by obtain ⟨g,hg,hl⟩:=h h7';rw [hh] at hg;cases hg;exact hfl hl
       refine ⟨acc',q1,q2,n1+p.funcs.length+2,λN k kk hN hkk=>?_⟩
       unfold GG
       obtain ⟨r,hr,hr'⟩:=hcall N om
       rcases hr' with ⟨h0,_⟩| ⟨i2,f2,h1,h0,h3,_⟩
       ·rw [hh] at h0;cases h0
       ·rw [hh] at h0;cases h0
        subst h3
        rw [h7,cond_false,hr,BP,show decide ((i2:Int)<0)=false from decide_eq_false om,cond_false,CC h1,BP,show ((f.params.length:Int) != (s.e.args.length:Int))=true by simp;omega,cond_true]
        exact q3 N k kk om om
    ·have h7':=Ma h7
     obtain ⟨acc',q1,q2,n1,q3⟩:=go a1 up (by rw [hf];exact ⟨λh=>⟨h.1,h.2,λh=>absurd h h7'⟩,λh=>⟨h.1,h.2.1⟩⟩)
     refine ⟨acc',q1,q2,n1,λN k kk hN hkk=>?_⟩
     unfold GG
     rw [h7,cond_true]
     exact q3 N k kk hN hkk
   cases hfr:s.free
   ·obtain ⟨acc',q1,q2,n1,q3⟩:=call acc ⟨hacc.1,by have:=hacc.2;omega⟩ ⟨λh=>⟨h,hfr⟩,λh=>h.1⟩
    refine ⟨acc',q1,q2,n1+1,λN k kk hN hkk=>?_⟩
    obtain ⟨kk,rfl⟩: ∃j,kk=j+1:=⟨kk - 1,om⟩
    show Fm N p i (S N k) l (EU N p i (S N k) l kk) acc t=_
    unfold Fm
    rw [show decide ((t:Int)< (l.length:Int))=true from decide_eq_true om,cond_true,CC hs,BP,hfr,cond_false]
    exact q3 N k kk om om
   ·obtain ⟨acc',q1,q2,n1,q3⟩:=call (acc++[AF.mk 31 s.e.at_]) (hacc.snoc (y:=AF.mk 31 s.e.at_) (show (31:Int)≠0 by decide)) ⟨λh=>by simp at h,λh=>by rw [hfr] at h;cases h.2⟩
    refine ⟨acc',q1,q2,n1+1,λN k kk hN hkk=>?_⟩
    obtain ⟨kk,rfl⟩: ∃j,kk=j+1:=⟨kk - 1,om⟩
    show Fm N p i (S N k) l (EU N p i (S N k) l kk) acc t=_
    unfold Fm
    obtain ⟨_,e,_⟩:=Qb (b:=16) (xs:=acc) (ys:=[AF.mk 31 s.e.at_]) (by decide) (by have:=hacc.2;simp;omega)
    rw [show decide ((t:Int)< (l.length:Int))=true from decide_eq_true om,cond_true,CC hs,BP,hfr,cond_true,e,BP]
    exact q3 N k kk om om
 have pars: ∀(i:Nat) (f:AN),p.funcs[i]?=some f->∀(S:Nat->Nat->List AF->Int->Option (List AF)) (n0:Nat),n0+3000000<=300000000000->∀(j t:Nat),t+j=f.params.length->∀acc,GF acc (n0+t)->
   ∃acc',GF acc' (n0+3000000)/\(acc'=[]↔acc=[]/\(∀t' x,t<=t'->f.params[t']?=some x->x.name∉(f.params.take t').map (·.name))/\Sc p (λs=>s∈f.params.map (·.name)) f.body)/\∃n1,∀N k kk,n1<=N->n1<=kk->En N p i (S N k) f kk acc ((f.params.take t).map (·.name)) (t:Int)=S N k acc' ((i+1:Nat):Int):=by
  intro i f hf S n0 hn0 j
  have hfb:=hb f (List.mem_of_getElem? hf)
  have hil:=(List.getElem?_eq_some_iff.1 hf).1
  induction j with
  |zero=>
   intro t ht acc hacc
   have htk:f.params.take t=f.params:=List.take_of_length_le om
   obtain ⟨l,hl,n2,hn2⟩:=ABP (p:=p) (D8 f.body) f.body (Nat.le_refl _) (f.params.map (·.name)) (by rw [List.length_map];omega) om
   obtain ⟨acc',q1,q2,n1,q3⟩:=seens l om i S (n0+t) om om l.length 0 om acc (by simpa using hacc)
   refine ⟨acc',⟨q1.1,by have:=q1.2;omega⟩,?_,n1+n2+1,λN k kk hN hkk=>?_⟩
   ·rw [q2,<-hl.2]
    constructor
    ·rintro ⟨h1,h2⟩
     refine ⟨h1,λt' x ht' hx=>by have:=(List.getElem?_eq_some_iff.1 hx).1;omega,λs hs=>?_⟩
     obtain ⟨t',ht'⟩:=List.mem_iff_getElem?.1 hs
     exact h2 t' s (Nat.zero_le _) ht'
    ·rintro ⟨h1,_,h2⟩
     exact ⟨h1,λt' s _ hs=>h2 s (List.mem_of_getElem? hs)⟩
   ·obtain ⟨kk,rfl⟩: ∃j,kk=j+1:=⟨kk - 1,om⟩
    show Fn N p i (S N k) f (En N p i (S N k) f kk) acc ((f.params.take t).map (·.name)) t=_
    unfold Fn
    have es:ref06_seen N f.body (f.params.map (·.name))=some l:=hn2 N om
    rw [show decide ((t:Int)< (f.params.length:Int))=false from decide_eq_false om,cond_false,QW,htk,es,BP]
    exact q3 N k N om om
  |succ j ihj=>
   intro t ht acc hacc
   obtain ⟨x,hx⟩: ∃x,f.params[t]?=some x:=⟨_,List.getElem?_eq_getElem om⟩
   have htk:(f.params.take (t+1)).map (·.name)=(f.params.take t).map (·.name)++[x.name]:=by rw [List.take_add_one,hx];simp
   have hln:((f.params.take t).map (·.name)).length=t:=by simp;omega
   have go: ∀a2,GF a2 (n0+(t+1))->(a2=[]↔acc=[]/\x.name∉(f.params.take t).map (·.name))->∃acc',GF acc' (n0+3000000)/\(acc'=[]↔acc=[]/\(∀t' x,t<=t'->f.params[t']?=some x->x.name∉(f.params.take t').map (·.name))/\Sc p (λs=>s∈f.params.map (·.name)) f.body)/\
     ∃n1,∀N k kk,n1<=N->n1<=kk->JT f ((f.params.take t).map (·.name)) t (En N p i (S N k) f kk) a2=S N k acc' ((i+1:Nat):Int):=by
    intro a2 h2 h3
    obtain ⟨acc',q1,q2,n1,q3⟩:=ihj (t+1) om a2 h2
    refine ⟨acc',q1,q2.trans ?_,n1,λN k kk hN hkk=>?_⟩
    ·rw [h3]
     constructor
     ·rintro ⟨⟨h1,h2⟩,h3,h4⟩
      refine ⟨h1,λt' y ht' hy=>?_,h4⟩
      rcases Nat.eq_or_lt_of_le ht' with rfl|hlt
      ·rw [hx] at hy;cases hy;exact h2
      ·exact h3 t' y hlt hy
     ·rintro ⟨h1,h2,h3⟩
      exact ⟨⟨h1,h2 t x (Nat.le_refl _) hx⟩,λt' y ht' hy=>h2 t' y om hy,h3⟩
    ·unfold JT
     obtain ⟨_,e,_⟩:=Qb (b:=16) (xs:=(f.params.take t).map (·.name)) (ys:=[x.name]) (by decide) (by rw [hln];simp;omega)
     rw [CC hx,BP,e,BP,wr om om,show (t:Int)+1=((t+1:Nat):Int) by omega,<-htk]
     exact q3 N k kk hN hkk
   have hhas: ∀N,t+2<=N->JS N ((f.params.take t).map (·.name)) x.name=some (decide (x.name∈(f.params.take t).map (·.name))):=λN hN=>AAE (by rw [hln];omega) (by rw [hln];omega)
   rcases Decidable.em (x.name∈(f.params.take t).map (·.name)) with hin|hin
   ·obtain ⟨acc',q1,q2,n1,q3⟩:=go (acc++[AF.mk 30 x.at_]) ⟨(hacc.snoc (y:=AF.mk 30 x.at_) (show (30:Int)≠0 by decide)).1,by have:=hacc.2;simp;omega⟩ ⟨λh=>by simp at h,λh=>absurd hin h.2⟩
    refine ⟨acc',q1,q2,n1+t+2,λN k kk hN hkk=>?_⟩
    obtain ⟨kk,rfl⟩: ∃j,kk=j+1:=⟨kk - 1,om⟩
    show Fn N p i (S N k) f (En N p i (S N k) f kk) acc ((f.params.take t).map (·.name)) t=_
    unfold Fn
    obtain ⟨_,e,_⟩:=Qb (b:=16) (xs:=acc) (ys:=[AF.mk 30 x.at_]) (by decide) (by have:=hacc.2;simp;omega)
    rw [show decide ((t:Int)< (f.params.length:Int))=true from decide_eq_true om,cond_true,CC hx,BP,hhas N om,BP,decide_eq_true hin,cond_true,e,BP]
    exact q3 N k kk om om
   ·obtain ⟨acc',q1,q2,n1,q3⟩:=go acc ⟨hacc.1,by have:=hacc.2;omega⟩ ⟨λh=>⟨h,hin⟩,λh=>h.1⟩
    refine ⟨acc',q1,q2,n1+t+2,λN k kk hN hkk=>?_⟩
    obtain ⟨kk,rfl⟩: ∃j,kk=j+1:=⟨kk - 1,om⟩
    show Fn N p i (S N k) f (En N p i (S N k) f kk) acc ((f.params.take t).map (·.name)) t=_
    unfold Fn
    rw [show decide ((t:Int)< (f.params.length:Int))=true from decide_eq_true om,cond_true,CC hx,BP,hhas N om,BP,decide_eq_false hin,cond_false]
    exact q3 N k kk om om
 have fns: ∀(j i:Nat),i+j=p.funcs.length->∀acc,GF acc (i*3000001)->EL (λN k=>Eo N p k acc (i:Int)) λr=>GF r 200000000000/\(r=[]↔acc=[]/\∀i' f,i<=i'->p.funcs[i']?=some f->f.name∉(p.funcs.take i').map (·.name)/\PN f/\Sc p (λs=>s∈f.params.map (·.name)) f.body):=by
  intro j
  induction j with
  |zero=>
   intro i hi acc hacc
   refine EL.down ?_
   show EL (λN k=>Hb N p (Eo N p k) acc i) _
   unfold Hb
   refine EL.cond (λh=>by have:=CS h;omega) λ_=> .some ⟨⟨hacc.1,by have:=hacc.2;omega⟩,λh=>⟨h,λi' f hi' hf=>by have:=(List.getElem?_eq_some_iff.1 hf).1;omega⟩,λh=>h.1⟩
  |succ j ihj=>
   intro i hi acc hacc
   obtain ⟨f,hf⟩: ∃f,p.funcs[i]?=some f:=⟨_,List.getElem?_eq_getElem om⟩
   have step: ∀a2,GF a2 (i*3000001+1)->(a2=[]↔acc=[]/\f.name∉(p.funcs.take i).map (·.name))->EL (λN k=>JU N p i (Eo N p k) f a2) λr=>GF r 200000000000/\(r=[]↔acc=[]/\∀i' f,i<=i'->p.funcs[i']?=some f->f.name∉(p.funcs.take i').map (·.name)/\PN f/\Sc p (λs=>s∈f.params.map (·.name)) f.body):=by
    intro a2 h2 h3
    obtain ⟨n0,hn0⟩: ∃n,n=i*3000001+1:=⟨_,rfl⟩
    rw [<-hn0] at h2
    obtain ⟨acc',q1,q2,n1,q3⟩:=pars i f hf (λN k=>Eo N p k) n0 om f.params.length 0 om a2 h2
    obtain ⟨r,hr,n2,hn2⟩:=ihj (i+1) om acc' ⟨q1.1,by have:=q1.2;omega⟩
    refine ⟨r,⟨hr.1,hr.2.trans ?_⟩,n1+n2,λN k hN hk=>?_⟩
    ·rw [q2,h3]
     constructor
     ·rintro ⟨⟨⟨h1,h2⟩,h3,h4⟩,h5⟩
      refine ⟨h1,λi' g hi' hg=>?_⟩
      rcases Nat.eq_or_lt_of_le hi' with rfl|hlt
      ·rw [hf] at hg;cases hg;exact ⟨h2,λt x hx=>h3 t x (Nat.zero_le _) hx,h4⟩
      ·exact h5 i' g hlt hg
     ·rintro ⟨h1,h2⟩
      have:=h2 i f (Nat.le_refl _) hf
      exact ⟨⟨⟨h1,this.1⟩,λt x _ hx=>this.2.1 t x hx,this.2.2⟩,λi' g hi' hg=>h2 i' g om hg⟩
    ·unfold JU
     have:=q3 N k N om om
     simp only [List.take_zero,List.map_nil] at this
     show En N p i (Eo N p k) f N a2 [] 0=some r
     refine Eq.trans this ?_
     exact hn2 N k om om
   refine EL.down ?_
   show EL (λN k=>Hb N p (Eo N p k) acc i) _
   unfold Hb
   refine EL.cond (λ_=>?_) λh=>by have:=EE h;omega
   refine EL.eq (CC hf) (EL.bind (P:=λr=>r=(i:Int)/\f.name∉(p.funcs.take i).map (·.name)∨r< (i:Int)/\f.name∈(p.funcs.take i).map (·.name)) ?_ λr hr=>?_)
   ·rcases Decidable.em (f.name∈(p.funcs.take i).map (·.name)) with hin|hin
    ·obtain ⟨r,hr,hr'⟩:=Q9 (p:=p) (nm:=f.name) (N:=p.funcs.length+2) om (Nat.le_refl _)
     obtain ⟨g,hg,hgn⟩:=List.mem_map.1 hin
     rw [List.mem_take_iff_getElem] at hg
     obtain ⟨q,hq,hqe⟩:=hg
     refine R0 (p.funcs.length+2) ⟨r,?_,λN hN=>?_⟩
     ·rcases hr' with ⟨h1,_⟩| ⟨i2,f2,h1,h2,h3,h4,h5⟩
      ·unfold hd at h1
       rw [List.find?_eq_none] at h1
       exact absurd (by simp) (h1 f (List.mem_of_getElem? hf))
      ·refine .inr ⟨?_,hin⟩
       rw [h3]
       rcases Nat.lt_or_ge i2 i with h|h
       ·omega
       ·refine absurd (List.mem_map.2 ⟨g,?_,hgn⟩) h5
        rw [List.mem_take_iff_getElem]
        have:=(List.getElem?_eq_some_iff.1 h1).1
        exact ⟨q,om,hqe⟩
     ·obtain ⟨r2,hr2,hr2'⟩:=Q9 (p:=p) (nm:=f.name) (N:=N) om hN
      rw [hr2];congr 1
      rcases hr' with ⟨h1,h2⟩| ⟨i2,f2,h1,h2,h3,h4,h5⟩
      ·rcases hr2' with ⟨_,h3⟩| ⟨_,_,_,h3,_⟩
       ·rw [h2,h3]
       ·rw [h1] at h3;cases h3
      ·rcases hr2' with ⟨k1,_⟩| ⟨i3,f3,k1,k2,k3,k4,k5⟩
       ·rw [h2] at k1;cases k1
       ·rw [h3,k3]
        rcases Nat.lt_trichotomy i2 i3 with h|h|h
        ·refine absurd (List.mem_map.2 ⟨f2,?_,h4⟩) k5
         rw [List.mem_take_iff_getElem]
         obtain ⟨a1,a2⟩:=List.getElem?_eq_some_iff.1 h1
         have:=(List.getElem?_eq_some_iff.1 k1).1
         exact ⟨i2,om,a2⟩
        ·rw [h]
        ·refine absurd (List.mem_map.2 ⟨f3,?_,k4⟩) h5
         rw [List.mem_take_iff_getElem]
         obtain ⟨a1,a2⟩:=List.getElem?_eq_some_iff.1 k1
         have:=(List.getElem?_eq_some_iff.1 h1).1
         exact ⟨i3,om,a2⟩
    ·refine R0 (p.funcs.length+2) ⟨(i:Int),.inl ⟨rfl,hin⟩,λN hN=>?_⟩
     obtain ⟨r2,hr2,hr2'⟩:=Q9 (p:=p) (nm:=f.name) (N:=N) om hN
     rw [hr2];congr 1
     have hdi:=Sy hf rfl hin
     rcases hr2' with ⟨k1,_⟩| ⟨i3,f3,k1,k2,k3,k4,k5⟩
     ·rw [hdi] at k1;cases k1
     ·rw [k3]
      rcases Nat.lt_trichotomy i3 i with h|h|h
      ·refine absurd (List.mem_map.2 ⟨f3,?_,k4⟩) hin
       rw [List.mem_take_iff_getElem]
       obtain ⟨a1,a2⟩:=List.getElem?_eq_some_iff.1 k1
       exact ⟨i3,om,a2⟩
      ·rw [h]
      ·refine absurd (List.mem_map.2 ⟨f,?_,rfl⟩) k5
       rw [List.mem_take_iff_getElem]
       obtain ⟨a1,a2⟩:=List.getElem?_eq_some_iff.1 hf
       have:=(List.getElem?_eq_some_iff.1 k1).1
       exact ⟨i,om,a2⟩
   ·rcases hr with ⟨h1,h2⟩| ⟨h1,h2⟩
    ·refine EL.cond (λh=>by have:=CS h;omega) λ_=>step acc ⟨hacc.1,Nat.le_succ_of_le hacc.2⟩ ⟨λh=>⟨h,h2⟩,λh=>h.1⟩
    ·refine EL.cond (λ_=>EL.tb (Qb (by decide) (by have:=hacc.2;simp;omega)) λ_ _=>step _ (hacc.snoc (y:=AF.mk 30 f.at_) (show (30:Int)≠0 by decide)) ⟨λh=>by simp at h,λh=>absurd h2 h.2⟩) λh=>by have:=EE h;omega
 refine (fns p.funcs.length 0 om [] ⟨λy h=>(by cases h),by simp⟩).diag.mono λr hr=>⟨hr.1,hr.2.trans ?_⟩
 constructor
 ·rintro ⟨_,h⟩
  refine ⟨λi f hf=>(h i f (Nat.zero_le _) hf).1,λf hf=>?_⟩
  obtain ⟨i,hi⟩:=List.mem_iff_getElem?.1 hf
  exact (h i f (Nat.zero_le _) hi).2
 ·rintro ⟨h1,h2⟩
  exact ⟨rfl,λi f _ hf=>⟨h1 i f hf,h2 f (List.mem_of_getElem? hf)⟩⟩
theorem AAF(hlen:p.funcs.length<=50000)(hb: ∀f∈p.funcs,D8 f.body<=1000000/\f.params.length<=1000000):ET (λN=>H7 N p) λr=>r.why=0↔ABK p:=by
 unfold H7
 refine ET.bind (Y8 hlen hb) λl hl=>?_
 have loop: ∀(j i:Nat),i+j=l.length->∀(y a:Int),EL (λ_N k=>H6 l k (i:Int) y a) λr=>r.why=0↔y=0/\i=l.length:=by
  intro j
  induction j with
  |zero=>
   intro i hi y a
   refine EL.down ?_
   show EL (λ_N k=>IP l (H6 l k) i y a) _
   unfold IP
   exact EL.cond (λh=>by have:=CS h;omega) λ_=> .some ⟨λh=>⟨h,om⟩,λh=>h.1⟩
  |succ j ihj=>
   intro i hi y a
   obtain ⟨x,hx⟩: ∃x,l[i]?=some x:=⟨_,List.getElem?_eq_getElem om⟩
   have hy:=hl.1.1 x (List.mem_of_getElem? hx)
   have hll:=hl.1.2
   refine EL.down ?_
   show EL (λ_N k=>IP l (H6 l k) i y a) _
   unfold IP LI LH
   rw [wr om om,show (i:Int)+1=((i+1:Nat):Int) by omega]
   have no: ∀{y':Int},y'≠0->∀{r:AF},(r.why=0↔y'=0/\i+1=l.length)->(r.why=0↔y=0/\i=l.length):=λhy' _ hr=>hr.trans ⟨λh=>absurd h.1 hy',λh=>om⟩
   refine EL.cond (λ_=>EL.cond (λ_=>EL.cond (λ_=>EL.eq (CC hx) ((ihj (i+1) om x.why x.at_).mono λr hr=>no hy hr)) λh=>by cases h) λh=>EL.eq (CC hx) (EL.cond (λ_=>EL.eq (CC hx) ((ihj (i+1) om x.why x.at_).mono λr hr=>no hy hr)) λ_=>(ihj (i+1) om y a).mono λr hr=>no (B9 h) hr)) λh=>by have:=EE h;omega
 refine (loop l.length 0 om 0 0).diag.mono λr hr=>hr.trans ?_
 rw [<-hl.2]
 constructor
 ·rintro ⟨_,h⟩;exact List.length_eq_zero_iff.1 h.symm
 ·intro h;subst h;exact ⟨rfl,rfl⟩
end
end Fth
namespace Fth
open Go
def TyE(Γ:List AJ):Prop:=∀x∈Γ,1<=x.type_/\x.type_<=3
theorem Wq{Γ:List AJ}{e:AE}(hΓ:TyE Γ)(he:WE e)(i:Nat):TyE (Win Γ e i)/\(Win Γ e i).length<=Γ.length+2:=by
 unfold Win
 split
 ·rename_i h
  refine ⟨λx hx=>?_,by simp⟩
  rcases List.mem_cons.1 hx with rfl|hx
  ·exact he.typ om
  ·exact hΓ x hx
 ·split
  ·refine ⟨λx hx=>?_,by simp⟩
   rcases List.mem_cons.1 hx with rfl|hx
   ·exact ⟨by simp,by simp⟩
   ·rcases List.mem_cons.1 hx with rfl|hx
    ·exact ⟨by simp,by simp⟩
    ·exact hΓ x hx
  ·exact ⟨hΓ,om⟩
theorem ACW{p:AL}(hp:WP p){e:AE}(he:WE e){t:Int}(ht:1<=t/\t<=3)(i:Nat):1<=Wan p e i t/\Wan p e i t<=3:=by
 unfold Wan
 split
 ·omega
 ·split
  ·omega
  ·split
   ·cases hh:hd p e.name with
    |none=>simp
    |some f=>
     have hf:=hp.fns f (List.mem_of_find?_eq_some hh)
     cases hx:f.params[i]? with
     |none=>simp [hx]
     |some x=>simpa [hx] using hf.ptyp x (List.mem_of_getElem? hx)
   ·split
    ·split<;>omega
    ·split
     ·split<;>omega
     ·split
      ·rename_i h
       have:=he.typ om
       split<;>omega
      ·omega
theorem AAG{α:Type}(a b:List α)(x:α):((a++x::b).reverse)[b.length]?=some x:=by
 rw [List.reverse_append,List.reverse_cons,List.append_assoc,List.getElem?_append_right (by simp)]
 simp
section
variable{p:AL}(hp:WP p)
theorem ABQ{Γ:List AJ}{e:AE}(hl:Γ.length<=1000000000): ∀(Γ2 Γ1:List AJ),Γ=Γ1++Γ2->∀k,Γ2.length<k->KX Γ.reverse e k ((Γ2.length:Int) - 1)=some ((Ri Γ2 e.name).getD (-1)):=by
 intro Γ2
 induction Γ2 with
 |nil=>
  intro Γ1 h k hk
  obtain ⟨k,rfl⟩: ∃j,k=j+1:=⟨k - 1,by simp at hk;omega⟩
  rfl
 |cons x Γ2 ih=>
  intro Γ1 h k hk
  obtain ⟨k,rfl⟩: ∃j,k=j+1:=⟨k - 1,by simp at hk;omega⟩
  show L0 Γ.reverse e (KX Γ.reverse e k) (((x::Γ2).length:Int) - 1)=_
  unfold L0
  have hlen:Γ2.length<1000000000:=by rw [h] at hl;simp at hl;omega
  have e1:(((x::Γ2).length:Nat):Int) - 1=(Γ2.length:Int):=by simp
  have hat:Γ.reverse[Γ2.length]?=some x:=by rw [h];exact AAG _ _ _
  rw [e1,show decide ((Γ2.length:Int)>=0)=true from decide_eq_true om,cond_true,CC hat,BP,wr om om]
  unfold Ri
  rw [List.find?_cons]
  cases hn:(x.name==e.name)
  ·rw [cond_false]
   exact ih (Γ1++[x]) (by rw [h];simp) k (by simp at hk;omega)
  ·rfl
include hp
theorem ACl{Γ:List AJ}{e:AE}{t:Int}(hΓ:TyE Γ)(hl:Γ.length<=1000000000)(he:WE e)(ht:1<=t/\t<=3):ET (λN=>KL N p Γ.reverse e) λo=>(o=0∨o=t)↔OwT p Γ e t:=by
 have j1: ∀b,(b=true↔(e.op=1∨(8<=e.op/\e.op<=11)∨(15<=e.op/\e.op<=17)))->ET (λN=>Fo N p Γ.reverse e b) λo=>(o=0∨o=t)↔OwT p Γ e t:=by
  intro b hb
  have j2: ∀b',b=false->(b'=true↔(e.op=2∨e.op=3∨(12<=e.op/\e.op<=14)))->ET (λN=>Id N p Γ.reverse e b') λo=>(o=0∨o=t)↔OwT p Γ e t:=by
   intro b' hbf hb'
   have n1: ¬(e.op=1∨(8<=e.op/\e.op<=11)∨(15<=e.op/\e.op<=17)):=λh=>by have:=hb.2 h;rw [hbf] at this;cases this
   have j3: ∀b'',b'=false->(b''=true↔(e.op=4∨e.op=18))->ET (λN=>Lf N p Γ.reverse e b'') λo=>(o=0∨o=t)↔OwT p Γ e t:=by
    intro b'' hbf' hb''
    have n2: ¬(e.op=2∨e.op=3∨(12<=e.op/\e.op<=14)):=λh=>by have:=hb'.2 h;rw [hbf'] at this;cases this
    unfold Lf
    refine ET.cond (λh=> .some ?_) λh=>?_
    ·have h:=hb''.1 h
     exact ⟨λh'=>⟨λh=>absurd h n1,λh=>absurd h n2,λ_=>om,λh'=>om,λh'=>om,λh'=>om⟩,λh'=> .inr (h'.l h).symm⟩
    have n3: ¬(e.op=4∨e.op=18):=λh'=>by have:=hb''.2 h';rw [h] at this;cases this
    refine ET.cond (λh=> .some ?_) λh5=>ET.cond (λh=>?_) λh6=>ET.cond (λh=>?_) λh7=> .some ?_
    ·have h5:=CV h
     have:=he.typ (.inl h5)
     exact ⟨λh'=>⟨λh=>absurd h n1,λh=>absurd h n2,λh=>absurd h n3,λ_=>om,λh'=>om,λh'=>om⟩,λh'=> .inr (h'.f h5).symm⟩
    ·have h6:=CV h
     refine R0 (Γ.length+2) ⟨(Ri Γ e.name).getD (-1),?_,λN hN=>?_⟩
     ·cases hlk:Ri Γ e.name with
      |none=>exact ⟨λh'=>by simp at h';omega,λh'=>by have:=h'.v h6;rw [hlk] at this;cases this⟩
      |some u=>
       have hu:1<=u/\u<=3:=by
        unfold Ri at hlk
        obtain ⟨x,hx,rfl⟩:=Option.map_eq_some_iff.1 hlk
        exact hΓ x (List.mem_of_find?_eq_some hx)
       refine ⟨λh'=>⟨λh=>absurd h n1,λh=>absurd h n2,λh=>absurd h n3,λh'=>om,λ_=>?_,λh'=>om⟩,λh'=>?_⟩
       ·simp at h';rw [hlk];congr 1;omega
       ·have:=h'.v h6;rw [hlk] at this;cases this;exact .inr rfl
     ·have:=ABQ (e:=e) hl Γ [] rfl N om
      rw [wr (by simp;omega) (by simp;omega),List.length_reverse]
      exact this
    ·have h7:=CV h
     have hl:=hp.len
     refine ET.bind (P:=λr=>r=hdR (hd p e.name)) (R0 (p.funcs.length+2) ⟨_,rfl,λN hN=>Sx om hN⟩) λr hr=>?_
     subst hr
     unfold MU
     cases hh:hd p e.name with
     |none=>exact .some ⟨λh=>om,λh'=>by obtain ⟨f,hf,_⟩:=h'.c h7;rw [hh] at hf;cases hf⟩
     |some f=>
      have hf:=hp.fns f (List.mem_of_find?_eq_some hh)
      refine ET.cond (λh=>by cases h) λ_=>ET.cond (λh=> .some ?_) λh=> .some ?_
      ·have h:=Ma h
       exact ⟨λh=>om,λh'=>by obtain ⟨g,hg,hgl,_⟩:=h'.c h7;rw [hh] at hg;cases hg;exact absurd (congrArg Int.ofNat hgl) h⟩
      ·have h:=KR h
       have:=hf.typ
       refine ⟨λh'=>⟨λh=>absurd h n1,λh=>absurd h n2,λh=>absurd h n3,λh'=>om,λh'=>om,λ_=>⟨f,hh,?_,?_⟩⟩,λh'=>?_⟩
       ·have:(f.params.length:Int)=e.args.length:=h;omega
       ·have h':f.type_=0∨f.type_=t:=h';omega
       ·obtain ⟨g,hg,_,hgt⟩:=h'.c h7;rw [hh] at hg;cases hg;exact .inr hgt
    ·have h5:=B9 h5;have h6:=B9 h6;have h7:=B9 h7
     exact ⟨λ_=>⟨λh=>absurd h n1,λh=>absurd h n2,λh=>absurd h n3,λh=>absurd h h5,λh=>absurd h h6,λh=>absurd h h7⟩,λ_=> .inl rfl⟩
   unfold Id
   refine ET.cond (λh=> .some ?_) λh=>?_
   ·have h:=hb'.1 h
    exact ⟨λh'=>⟨λh=>absurd h n1,λ_=>om,λh'=>om,λh'=>om,λh'=>om,λh'=>om⟩,λh'=> .inr (h'.b h).symm⟩
   ·refine ET.cond (λh4=>j3 _ h ⟨λ_=> .inl (CV h4),λ_=>h4⟩) λh4=>j3 _ h ⟨λh=> .inr (CV h),λh=>?_⟩
    rcases h with h|h
    ·exact absurd h (B9 h4)
    ·simp [h]
  unfold Fo
  refine ET.cond (λh=> .some ?_) λh=>?_
  ·have h:=hb.1 h
   exact ⟨λh'=>⟨λ_=>om,λh'=>om,λh'=>om,λh'=>om,λh'=>om,λh'=>om⟩,λh'=> .inr (h'.n h).symm⟩
  ·refine ET.cond (λh2=>j2 _ h ⟨λ_=>by have:=CV h2;omega,λ_=>h2⟩) λh2=>ET.cond (λh3=>j2 _ h ⟨λ_=>by have:=CV h3;omega,λ_=>h3⟩) λh3=>ET.cond (λh4=>j2 _ h ⟨λ_=>by have:=CV h4;omega,λ_=>h4⟩) λh4=>ET.cond (λh5=>j2 _ h ⟨λ_=>by have:=CV h5;omega,λ_=>h5⟩) λh5=>j2 _ h ⟨λh6=>by have:=CV h6;omega,λh6=>?_⟩
   have:=B9 h2;have:=B9 h3;have:=B9 h4;have:=B9 h5
   simp;omega
 unfold KL
 have yes: ∀{k:Int},(k=1∨(8<=k/\k<=11)∨(15<=k/\k<=17))->(e.op==k)=true->ET (λN=>Fo N p Γ.reverse e (e.op==k)) λo=>(o=0∨o=t)↔OwT p Γ e t:=λhk h=>j1 _ ⟨λ_=>by have:=CV h;omega,λ_=>h⟩
 refine ET.cond (λh=>yes om h) λh1=>ET.cond (λh=>yes om h) λh2=>ET.cond (λh=>yes om h) λh3=>ET.cond (λh=>yes om h) λh4=>ET.cond (λh=>yes om h) λh5=>ET.cond (λh=>yes om h) λh6=>ET.cond (λh=>yes om h) λh7=>j1 _ ⟨λh=>by have:=CV h;omega,λh=>?_⟩
 have:=B9 h1;have:=B9 h2;have:=B9 h3;have:=B9 h4;have:=B9 h5;have:=B9 h6;have:=B9 h7
 simp;omega
omit hp in
theorem AAH{l:List AJ}{nm:List UInt8}{t:Int}(h:l.length<=1000000100):Hc l nm t=some (l++[⟨nm,t,0⟩]):=by
 unfold Hc
 obtain ⟨_,e1,_⟩:=HD (b:=32) (xs:=([]:List AJ)) (ys:=l) (by decide) (by simp;omega)
 obtain ⟨_,e2,_⟩:=HD (b:=32) (xs:=([]:List AJ)++l) (ys:=[AJ.mk nm t 0]) (by decide) (by simp;omega)
 rw [e1,BP,e2,BP,List.nil_append]
omit hp in
theorem AAI{Γ:List AJ}{e:AE}(hl:Γ.length<=1000000000)(i:Nat):G3 Γ.reverse e (i:Int)=some (Win Γ e i).reverse:=by
 unfold G3 JV Kf Win
 have e1:((i:Int)==1)=decide (i=1):=by rw [Bool.eq_iff_iff];simp;omega
 have e2:((i:Int)==2)=decide (i=2):=by rw [Bool.eq_iff_iff];simp;omega
 rw [e1,e2,AAH (by rw [List.length_reverse];omega),AAH (by rw [List.length_reverse];omega)]
 simp only [BP]
 rw [AAH (by simp;omega)]
 cases h1:(e.op==21)
 ·have h1:=B9 h1
  cases h2:(e.op==22)
  ·have h2:=B9 h2
   rw [if_neg om]
   cases h3:(e.op==20)
   ·have h3:=B9 h3
    rw [if_neg om];rfl
   ·have h3:=CV h3
    cases h4:decide (i=2)
    ·have h4:=EE h4;rw [if_neg om];rfl
    ·have h4:=CS h4;rw [if_pos ⟨h3,h4⟩];simp
  ·have h2:=CV h2
   cases h3:decide (i=1)
   ·have h3:=EE h3
    rw [if_neg om,if_neg om,show (e.op==20)=false by simp;omega];rfl
   ·have h3:=CS h3
    rw [if_pos (.inr ⟨h2,h3⟩)];simp
 ·have h1:=CV h1
  rw [if_pos (.inl h1)];simp
theorem AAJ{e:AE}{t:Int}(i:Nat):ET (λN=>G4 N p e (i:Int) t) λr=>r=Wan p e i t:=by
 have hl:=hp.len
 unfold G4 Kh JW Wan
 have e1:((i:Int)==1)=decide (i=1):=by rw [Bool.eq_iff_iff];simp;omega
 have e0:((i:Int)==0)=decide (i=0):=by rw [Bool.eq_iff_iff];simp
 rw [e1,e0]
 refine ET.cond (λh=> .some ?_) λh14=>ET.cond (λh=>ET.cond (λh'=> .some ?_) λh'=> .some ?_) λh18=>ET.cond (λh=>?_) λh7=>ET.cond (λh=>ET.cond (λh'=> .some ?_) λh'=> .some ?_) λh19=>ET.cond (λh=>ET.cond (λh'=> .some ?_) λh'=> .some ?_) λh20=>ET.cond (λh=>ET.cond (λh'=>ET.cond (λh''=> .some ?_) λh''=> .some ?_) λh'=>absurd (h.symm.trans h') (by decide)) λh21=>ET.cond (λh'=>ET.cond (λh''=> .some ?_) λh''=> .some ?_) λh22=> .some ?_
 ·rw [if_pos (CV h)]
 ·have:=B9 h14;rw [if_neg om,if_pos ⟨CV h,CS h'⟩]
 ·have:=B9 h14;have:=CV h;have:=EE h';rw [if_neg om,if_neg om,if_neg om,if_neg om,if_neg om,if_neg om]
 ·have:=B9 h14;have:=B9 h18;have h7:=CV h
  refine ET.bind (P:=λr=>r=hdR (hd p e.name)) (R0 (p.funcs.length+2) ⟨_,rfl,λN hN=>Sx om hN⟩) λr hr=>?_
  subst hr
  rw [if_neg om,if_neg om,if_pos h7]
  unfold Kg
  cases hh:hd p e.name with
  |none=>exact .some rfl
  |some f=>
   refine ET.cond (λ_=>ET.cond (λh'=>?_) λh'=>?_) λh=>by cases h
   ·have h':=CS h'
    have h':(i:Int)< (f.params.length:Int):=h'
    obtain ⟨x,hx⟩: ∃x,f.params[i]?=some x:=⟨_,List.getElem?_eq_getElem om⟩
    refine ET.eq (CC hx) (.some ?_)
    show x.type_=(match f.params[i]? with |some x=>x.type_|none=>1)
    rw [hx]
   ·have h':=EE h'
    have h': ¬(i:Int)< (f.params.length:Int):=h'
    refine .some ?_
    show 1=(match f.params[i]? with |some x=>x.type_|none=>1)
    rw [List.getElem?_eq_none om]
 ·have:=B9 h14;have:=B9 h18;have:=B9 h7;rw [if_neg om,if_neg om,if_neg om,if_pos (CV h),if_pos (CS h')]
 ·have:=B9 h14;have:=B9 h18;have:=B9 h7;rw [if_neg om,if_neg om,if_neg om,if_pos (CV h),if_neg (EE h')]
 ·have:=B9 h14;have:=B9 h18;have:=B9 h7;have:=B9 h19;rw [if_neg om,if_neg om,if_neg om,if_neg om,if_pos (CV h),if_pos (CS h')]
 ·have:=B9 h14;have:=B9 h18;have:=B9 h7;have:=B9 h19;rw [if_neg om,if_neg om,if_neg om,if_neg om,if_pos (CV h),if_neg (EE h')]
 ·have:=CV h;rw [if_neg om,if_neg om,if_neg om,if_neg om,if_neg om,if_pos om,if_pos (CS h'')]
 ·have:=CV h;rw [if_neg om,if_neg om,if_neg om,if_neg om,if_neg om,if_pos om,if_neg (EE h'')]
 ·have:=CV h';rw [if_neg om,if_neg om,if_neg om,if_neg om,if_neg om,if_pos om,if_pos (CS h'')]
 ·have:=CV h';rw [if_neg om,if_neg om,if_neg om,if_neg om,if_neg om,if_pos om,if_neg (EE h'')]
 ·have:=B9 h14;have:=B9 h18;have:=B9 h7;have:=B9 h19;have:=B9 h20;have:=B9 h21;have:=B9 h22
  rw [if_neg om,if_neg om,if_neg om,if_neg om,if_neg om,if_neg om]
omit hp in
theorem Mu{Γ:List AJ}{e:AE}{t:Int}:WTy p Γ e t↔OwT p Γ e t/\∀i a,e.args[i]?=some a->WTy p (Win Γ e i) a (Wan p e i t):=
 ⟨λh=>⟨h.own,h.sub⟩,λh=> .mk Γ e t h.1 h.2⟩
theorem ABR: ∀(n:Nat) (e:AE),D8 e<=n->n<=10000000->WE e->∀(Γ:List AJ) (t:Int),TyE Γ->Γ.length+2*n<=1000000000->1<=t/\t<=3->
  ET (λN=>ref07_wrong N p Γ.reverse e t) λl=>l.length<=D8 e/\(l=[]↔WTy p Γ e t):=by
 intro n
 induction n with
 |zero=>intro e he;have:=NF e;omega
 |succ n ih=>
  intro e hen hn he Γ t hΓ hl ht
  have hal:=NU e.args
  have hes:=Ph e
  refine ET.down ?_
  show ET (λN=>Kq (BW.at N) N p Γ.reverse e t) _
  have loop: ∀(j i:Nat),i+j=e.args.length->∀(acc:List Int),acc.length<=1+Cy (e.args.take i)->
    EL (λN k=>H8 (BW.at N) N p Γ.reverse e t k acc (i:Int)) λl=>l.length<=1+Cy e.args/\(l=[]↔acc=[]/\∀i' a,i<=i'->e.args[i']?=some a->WTy p (Win Γ e i') a (Wan p e i' t)):=by
   intro j
   induction j with
   |zero=>
    intro i hi acc hacc
    refine EL.down ?_
    show EL (λN k=>IQ (BW.at N) N p Γ.reverse e t (H8 (BW.at N) N p Γ.reverse e t k) acc i) _
    unfold IQ
    have htk:e.args.take i=e.args:=List.take_of_length_le om
    refine EL.cond (λh=>by have:=CS h;omega) λ_=> .some ⟨by rw [htk] at hacc;omega,λh=>⟨h,λi' a hi' ha=>?_⟩,λh=>h.1⟩
    have:=(List.getElem?_eq_some_iff.1 ha).1
    omega
   |succ j ihj=>
    intro i hi acc hacc
    refine EL.down ?_
    show EL (λN k=>IQ (BW.at N) N p Γ.reverse e t (H8 (BW.at N) N p Γ.reverse e t k) acc i) _
    unfold IQ
    obtain ⟨a,ha⟩: ∃a,e.args[i]?=some a:=⟨_,List.getElem?_eq_getElem om⟩
    have has:=Oa (List.mem_of_getElem? ha)
    have htk:Cy (e.args.take (i+1))=Cy (e.args.take i)+D8 a:=by rw [List.take_add_one,ha];simp [Kt,Cy]
    have htk2:Cy (e.args.take (i+1))<=Cy e.args:=by
     have:=Kt (e.args.take (i+1)) (e.args.drop (i+1))
     rw [List.take_append_drop] at this;omega
    have hwin:=Wq hΓ he i
    refine EL.cond (λ_=>?_) λh=>by have:=EE h;omega
    refine EL.eq (CC ha) (EL.eq (AAI om i) (EL.bind (AAJ hp i) λw hw=>?_))
    subst hw
    refine EL.bind (ih a om om (he.sub a (List.mem_of_getElem? ha)) (Win Γ e i) _ hwin.1 om (ACW hp he ht i)) λl hl=>?_
    refine EL.tb (HD (by decide) om) λ_ _=>?_
    rw [wr om om,show (i:Int)+1=((i+1:Nat):Int) by omega]
    refine (ihj (i+1) om (acc++l) (by rw [List.length_append,htk];omega)).mono λr hr=>⟨hr.1,?_⟩
    rw [hr.2,List.append_eq_nil_iff,hl.2]
    constructor
    ·rintro ⟨⟨h1,h2⟩,h3⟩
     refine ⟨h1,λi' b hi' hb=>?_⟩
     rcases Nat.eq_or_lt_of_le hi' with rfl|hlt
     ·rw [ha] at hb;cases hb;exact h2
     ·exact h3 i' b hlt hb
    ·rintro ⟨h1,h2⟩
     exact ⟨⟨h1,h2 i a (Nat.le_refl _) ha⟩,λi' b hi' hb=>h2 i' b om hb⟩
  unfold Kq
  refine ET.bind (ACl hp hΓ om he ht) λo ho=>?_
  have fin: ∀(acc:List Int),acc.length<=1->(acc=[]↔OwT p Γ e t)->ET (λN=>KM (BW.at N) N p Γ.reverse e t acc) λl=>l.length<=D8 e/\(l=[]↔WTy p Γ e t):=by
   intro acc h1 h2
   unfold KM
   refine (loop e.args.length 0 om acc om).diag.mono λr hr=>⟨om,?_⟩
   rw [hr.2,h2,Mu]
   exact ⟨λh=>⟨h.1,λi a ha=>h.2 i a (Nat.zero_le _) ha⟩,λh=>⟨h.1,λi a _ ha=>h.2 i a ha⟩⟩
  unfold LK
  refine ET.cond (λh=>ET.cond (λh'=>ET.tb (HD (by decide) (by simp)) λ_ _=>fin _ (by simp) ⟨λh=>by simp at h,λh''=>?_⟩) λh'=>fin [] (by simp) ⟨λ_=>ho.1 (.inr (KR h')),λ_=>rfl⟩) λh=>ET.cond (λh'=>by cases h') λ_=>fin [] (by simp) ⟨λ_=>ho.1 (.inl (KR h)),λ_=>rfl⟩
  rcases ho.2 h'' with h0|h0
  ·exact absurd h0 (Ma h)
  ·exact absurd h0 (Ma h')
def Ub(p:AL):Prop:=ABK p/\∀f∈p.funcs,WTy p f.params.reverse f.body f.type_
theorem AAK:ET (λN=>HK N p) λr=>r.why=0↔Ub p:=by
 have hb: ∀f∈p.funcs,D8 f.body<=1000000/\f.params.length<=1000000:=λf hf=>⟨(hp.fns f hf).size,(hp.fns f hf).pars⟩
 have hlen:=hp.len
 unfold HK
 refine ET.bind (AAF hlen hb) λr hr=>ET.cond (λh=> .some ⟨λh'=>absurd h' (Ma h),λh'=>hr.2 h'.1⟩) λh=>?_
 have h:=KR h
 have hsc:=hr.1 h
 have fns: ∀(j i:Nat),i+j=p.funcs.length->∀(y a:Int),EL (λN k=>CP N p k (i:Int) y a) λr=>r.why=0↔y=0/\∀i' f,i<=i'->p.funcs[i']?=some f->WTy p f.params.reverse f.body f.type_:=by
  intro j
  induction j with
  |zero=>
   intro i hi y a
   refine EL.down ?_
   show EL (λN k=>IR N p (CP N p k) i y a) _
   unfold IR
   refine EL.cond (λh=>by have:=CS h;omega) λ_=> .some ⟨λh=>⟨h,λi' f hi' hf=>by have:=(List.getElem?_eq_some_iff.1 hf).1;omega⟩,λh=>h.1⟩
  |succ j ihj=>
   intro i hi y a
   obtain ⟨f,hf⟩: ∃f,p.funcs[i]?=some f:=⟨_,List.getElem?_eq_getElem om⟩
   have hfn:=hp.fns f (List.mem_of_getElem? hf)
   have hfs:=hfn.size
   have hfp:=hfn.pars
   refine EL.down ?_
   show EL (λN k=>IR N p (CP N p k) i y a) _
   unfold IR
   refine EL.cond (λ_=>?_) λh=>by have:=EE h;omega
   refine EL.eq (CC hf) ?_
   rw [QW]
   have hΓ:TyE f.params.reverse:=λx hx=>hfn.ptyp x (List.mem_reverse.1 hx)
   have hw:=ABR hp (D8 f.body) f.body (Nat.le_refl _) om hfn.body f.params.reverse f.type_ hΓ (by rw [List.length_reverse];omega) hfn.typ
   rw [List.reverse_reverse] at hw
   refine EL.bind hw λl hl=>?_
   have inner: ∀(q t:Nat),t+q=l.length->∀(y a:Int),∃y' a',(y'=0↔y=0/\t=l.length)/\∃n0,∀N k kk,n0<=kk->FO i (CP N p k) l kk (t:Int) y a=CP N p k ((i+1:Nat):Int) y' a':=by
    intro q
    induction q with
    |zero=>
     intro t ht y a
     refine ⟨y,a,⟨λh=>⟨h,om⟩,λh=>h.1⟩,1,λN k kk hkk=>?_⟩
     obtain ⟨kk,rfl⟩: ∃j,kk=j+1:=⟨kk - 1,om⟩
     show Ep i (CP N p k) l (FO i (CP N p k) l kk) t y a=_
     unfold Ep
     rw [show decide ((t:Int)< (l.length:Int))=false from decide_eq_false om,cond_false,wr om om,show (i:Int)+1=((i+1:Nat):Int) by omega]
    |succ q ihq=>
     intro t ht y a
     obtain ⟨x,hx⟩: ∃x,l[t]?=some x:=⟨_,List.getElem?_eq_getElem om⟩
     have hll:=hl.1
     have e1:IntKind.i64.wrap ((t:Int)+1)=((t+1:Nat):Int):=by rw [wr om om];omega
     have take: ∃y' a',(y'=0↔y=0/\t=l.length)/\∃n0,∀N k kk,n0<=kk->FO i (CP N p k) l kk ((t+1:Nat):Int) 34 x=CP N p k ((i+1:Nat):Int) y' a':=by
      obtain ⟨y',a',h1,n0,h2⟩:=ihq (t+1) om 34 x
      exact ⟨y',a',⟨λh=>absurd (h1.1 h).1 (by decide),λh=>om⟩,n0,h2⟩
     cases hy:(y==0)
     ·have hy':=B9 hy
      cases hlt:decide (x<a)
      ·obtain ⟨y',a',h1,n0,h2⟩:=ihq (t+1) om y a
       refine ⟨y',a',⟨λh=>absurd (h1.1 h).1 hy',λh=>om⟩,n0+1,λN k kk hkk=>?_⟩
       obtain ⟨kk,rfl⟩: ∃j,kk=j+1:=⟨kk - 1,om⟩
       show Ep i (CP N p k) l (FO i (CP N p k) l kk) t y a=_
       unfold Ep JD JC
       rw [show decide ((t:Int)< (l.length:Int))=true from decide_eq_true om,cond_true,hy,cond_false,CC hx,BP,hlt,cond_false,e1]
       exact h2 N k kk om
      ·obtain ⟨y',a',h1,n0,h2⟩:=take
       refine ⟨y',a',h1,n0+1,λN k kk hkk=>?_⟩
       obtain ⟨kk,rfl⟩: ∃j,kk=j+1:=⟨kk - 1,om⟩
       show Ep i (CP N p k) l (FO i (CP N p k) l kk) t y a=_
       unfold Ep JD JC
       rw [show decide ((t:Int)< (l.length:Int))=true from decide_eq_true om,cond_true,hy,cond_false,CC hx,BP,hlt,cond_true,BP,e1]
       exact h2 N k kk om
     ·obtain ⟨y',a',h1,n0,h2⟩:=take
      refine ⟨y',a',h1,n0+1,λN k kk hkk=>?_⟩
      obtain ⟨kk,rfl⟩: ∃j,kk=j+1:=⟨kk - 1,om⟩
      show Ep i (CP N p k) l (FO i (CP N p k) l kk) t y a=_
      unfold Ep JD JC
      rw [show decide ((t:Int)< (l.length:Int))=true from decide_eq_true om,cond_true,hy,cond_true,cond_true,CC hx,BP,e1]
      exact h2 N k kk om
   obtain ⟨y',a',h1,n0,h2⟩:=inner l.length 0 om y a
   obtain ⟨r,hr,n1,h3⟩:=ihj (i+1) om y' a'
   refine ⟨r,hr.trans ?_,n0+n1,λN k hN hk=>?_⟩
   ·rw [h1]
    have hz:(0=l.length)↔WTy p f.params.reverse f.body f.type_:=by
     rw [<-hl.2]
     exact ⟨λh=>List.length_eq_zero_iff.1 h.symm,λh=>by rw [h];rfl⟩
    rw [hz]
    constructor
    ·rintro ⟨⟨h1,h2⟩,h3⟩
     refine ⟨h1,λi' g hi' hg=>?_⟩
     rcases Nat.eq_or_lt_of_le hi' with rfl|hlt
     ·rw [hf] at hg;cases hg;exact h2
     ·exact h3 i' g hlt hg
    ·rintro ⟨h1,h2⟩
     exact ⟨⟨h1,h2 i f (Nat.le_refl _) hf⟩,λi' g hi' hg=>h2 i' g om hg⟩
   ·exact (h2 N k N om).trans (h3 N k om om)
 refine (fns p.funcs.length 0 om r.why r.at_).diag.mono λq hq=>hq.trans ⟨λh'=>⟨hsc,λf hf=>?_⟩,λh'=>⟨h,λi' f _ hf=>h'.2 f (List.mem_of_getElem? hf)⟩⟩
 obtain ⟨i,hi⟩:=List.mem_iff_getElem?.1 hf
 exact h'.2 i f (Nat.zero_le _) hi
end
end Fth
namespace Fth
open Go
theorem ACX{α:Type}{P:Nat->α->Prop}{a b:α}:(∀i x,[a,b][i]?=some x->P i x)↔P 0 a/\P 1 b:=by
 constructor
 ·intro h;exact ⟨h 0 a rfl,h 1 b rfl⟩
 ·intro h i x hx
  match i,hx with
  |0,hx=>cases hx;exact h.1
  |1,hx=>cases hx;exact h.2
theorem ACm{α:Type}{P:Nat->α->Prop}{a b c:α}:(∀i x,[a,b,c][i]?=some x->P i x)↔P 0 a/\P 1 b/\P 2 c:=by
 constructor
 ·intro h;exact ⟨h 0 a rfl,h 1 b rfl,h 2 c rfl⟩
 ·intro h i x hx
  match i,hx with
  |0,hx=>cases hx;exact h.1
  |1,hx=>cases hx;exact h.2.1
  |2,hx=>cases hx;exact h.2.2
section
variable{p:AL}
theorem ABS(hlen:p.funcs.length<=50000)(flt:AF):ET (λN=>K7 N p flt) λr=>r.2.1=p.funcs/\Pl p r.2.2.2:=by
 have loop: ∀(i:Nat),i<=p.funcs.length->∀(m:As),(∀nm,((∀k f,i<=k->p.funcs[k]?=some f->f.name≠nm)/\Cz m nm=0)∨∃(k:Nat) (f:AN),i<=k/\p.funcs[k]?=some f/\f.name=nm/\(∀k' f',i<=k'->k'<k->p.funcs[k']?=some f'->f'.name≠nm)/\Cz m nm=(k:Int)+1)->
   EL (λ_N k=>Ij p k ((i:Int) - 1) m) λr=>r.2.1=p.funcs/\Pl p r.2.2.2:=by
  intro i
  induction i with
  |zero=>
   intro _ m hm
   refine EL.down ?_
   show EL (λ_N k=>I0 p (Ij p k) (((0:Nat):Int) - 1) m) _
   unfold I0
   refine EL.cond (λh=>by have:=CS h;omega) λ_=> .some ⟨rfl,λnm=>?_⟩
   rcases hm nm with ⟨h1,h2⟩| ⟨k,f,_,h2,h3,h4,h5⟩
   ·refine .inl ⟨Wm λh=>?_,h2⟩
    obtain ⟨f,hf,hfn⟩:=List.mem_map.1 h
    obtain ⟨k,hk⟩:=List.mem_iff_getElem?.1 hf
    exact h1 k f (Nat.zero_le _) hk hfn
   ·refine .inr ⟨k,f,h2,Sy h2 h3 λh=>?_,h5⟩
    obtain ⟨g,hg,hgn⟩:=List.mem_map.1 h
    rw [List.mem_take_iff_getElem] at hg
    obtain ⟨q,hq,hqe⟩:=hg
    exact h4 q g (Nat.zero_le _) om (by rw [List.getElem?_eq_getElem om,hqe]) hgn
  |succ i ih=>
   intro hi m hm
   obtain ⟨f,hf⟩: ∃f,p.funcs[i]?=some f:=⟨_,List.getElem?_eq_getElem om⟩
   refine EL.down ?_
   show EL (λ_N k=>I0 p (Ij p k) (((i+1:Nat):Int) - 1) m) _
   unfold I0
   rw [show ((i+1:Nat):Int) - 1=(i:Int) by omega]
   refine EL.cond (λ_=>?_) λh=>by have:=EE h;omega
   refine EL.eq (CC hf) ?_
   rw [wr om om,wr om om]
   refine ih om _ λnm=>?_
   rw [NH]
   cases hn:(nm==f.name)
   ·have hne:nm≠f.name:=by simpa using hn
    rw [cond_false]
    rcases hm nm with ⟨h1,h2⟩| ⟨k,g,h1,h2,h3,h4,h5⟩
    ·refine .inl ⟨λk g hk hg e=>?_,h2⟩
     rcases Nat.eq_or_lt_of_le hk with rfl|hlt
     ·rw [hf] at hg;cases hg;exact hne e.symm
     ·exact h1 k g hlt hg e
    ·refine .inr ⟨k,g,om,h2,h3,λk' g' hk1 hk2 hg' e=>?_,h5⟩
     rcases Nat.eq_or_lt_of_le hk1 with rfl|hlt
     ·rw [hf] at hg';cases hg';exact hne e.symm
     ·exact h4 k' g' hlt hk2 hg' e
   ·have hne:nm=f.name:=by simpa using hn
    rw [cond_true]
    exact .inr ⟨i,f,Nat.le_refl _,hf,hne.symm,λk' g' h1 h2=>om,rfl⟩
 have:=(loop p.funcs.length (Nat.le_refl _) [] λnm=> .inl ⟨λk f hk hf=>by have:=(List.getElem?_eq_some_iff.1 hf).1;omega,Ua nm⟩).diag
 refine this.cg λN=>?_
 unfold K7
 rw [wr om om]
theorem AAL{a:Int}{flt:AF}:T (F9 a flt) λr=>r.why≠0:=by
 unfold F9 KF
 exact T.cond (λ_=>T.cond (λ_=> .some (show (34:Int)≠0 by decide)) λh=>by cases h) λh=>T.cond (λ_=> .some (show (34:Int)≠0 by decide)) λ_=> .some (B9 h)
theorem AAM{e:AE}{t o:Int}{fs:List AN}{env:List AJ}{y a:Int}:T (Ci e t o fs env y a) λr=>r.1=fs/\r.2.1=env/\(r.2.2.why=0↔y=0/\o=t):=by
 unfold Ci
 refine T.cond (λh=>T.bind AAL λr hr=> .some ⟨rfl,rfl,λh'=>absurd h' hr,λh'=>absurd h'.2 (Ma h)⟩) λh=> .some ⟨rfl,rfl,λh'=>⟨h',KR h⟩,λh'=>h'.1⟩
def Wn(p:AL)(Γ:List AJ)(flt:AF)(A:Prop)(r:List AN×List AJ×AF):Prop:=r.1=p.funcs/\r.2.1=Γ.reverse/\(r.2.2.why=0↔flt.why=0/\A)
def Wo(p:AL)(Γ:List AJ)(flt:AF)(t:Int)(A:Prop)(r:Int×List AN×List AJ×AF):Prop:=r.2.1=p.funcs/\r.2.2.1=Γ.reverse/\((r.2.2.2.why=0/\r.1=t)↔flt.why=0/\A)
theorem ACY{Γ:List AJ}{e:AE}{fs:List AN}{flt:AF}(hl:Γ.length<=1000000000): ∀(Γ2 Γ1:List AJ),Γ=Γ1++Γ2->∀k,Γ2.length<k->FJ fs Γ.reverse flt e k ((Γ2.length:Int) - 1)=some ((Ri Γ2 e.name).getD 0,fs,Γ.reverse,flt):=by
 intro Γ2
 induction Γ2 with
 |nil=>
  intro Γ1 h k hk
  obtain ⟨k,rfl⟩: ∃j,k=j+1:=⟨k - 1,by simp at hk;omega⟩
  rfl
 |cons x Γ2 ih=>
  intro Γ1 h k hk
  obtain ⟨k,rfl⟩: ∃j,k=j+1:=⟨k - 1,by simp at hk;omega⟩
  show HT fs Γ.reverse flt e (FJ fs Γ.reverse flt e k) (((x::Γ2).length:Int) - 1)=_
  unfold HT
  have hlen:Γ2.length<1000000000:=by rw [h] at hl;simp at hl;omega
  have e1:(((x::Γ2).length:Nat):Int) - 1=(Γ2.length:Int):=by simp
  have hat:Γ.reverse[Γ2.length]?=some x:=by rw [h];exact AAG _ _ _
  rw [e1,show decide ((Γ2.length:Int)>=0)=true from decide_eq_true om,cond_true,CC hat,BP,BP,wr om om]
  unfold Ri
  rw [List.find?_cons]
  cases hn:(x.name==e.name)
  ·rw [cond_false]
   exact ih (Γ1++[x]) (by rw [h];simp) k (by simp at hk;omega)
  ·rfl
variable(hp:WP p){mp:As}(hmp:Pl p mp)
include hp hmp
theorem AAN: ∀(n:Nat) (e:AE),D8 e<=n->n<=10000000->WE e->∀(Γ:List AJ) (t:Int) (flt:AF),TyE Γ->Γ.length+2*n<=1000000000->1<=t/\t<=3->
  ET (λN=>types_checker_want N p.funcs Γ.reverse mp flt e t) (Wn p Γ flt (WTy p Γ e t)):=by
 intro n
 induction n with
 |zero=>intro e he;have:=NF e;omega
 |succ n ih=>
  intro e hen hn he Γ t flt hΓ hl ht
  have hal:=NU e.args
  have hes:=Ph e
  have hfl:=hp.len
  have mem: ∀{i:Nat} {a:AE},e.args[i]?=some a->WE a/\D8 a<=n:=λh=>⟨he.sub _ (List.mem_of_getElem? h),by have:=Oa (List.mem_of_getElem? h);omega⟩
  have one: ∀{i:Nat} {a:AE},e.args[i]?=some a->∀(Δ:List AJ) (u:Int) (flt:AF),TyE Δ->Δ.length<=Γ.length+2->1<=u/\u<=3->ET (λN=>types_checker_want N p.funcs Δ.reverse mp flt a u) (Wn p Δ flt (WTy p Δ a u)):=
   λh Δ u flt h1 h2 h3=>ih _ (mem h).2 om (mem h).1 Δ u flt h1 om h3
  have alls: ∀(l:List AE),(∀a∈l,a∈e.args)->l.length<=e.args.length->∀(u:Int) (flt:AF),1<=u/\u<=3->ET (λN=>types_checker_all N p.funcs Γ.reverse mp flt u l) (Wn p Γ flt (∀a∈l,WTy p Γ a u)):=by
   intro l hl1 hl2 u flt hu
   refine ET.down ?_
   show ET (λN=>D4 (AH.at N) mp u l N 0 p.funcs Γ.reverse flt.why flt.at_) _
   have loop: ∀(j i:Nat),i+j=l.length->∀(fs:List AN) (env:List AJ) (f:AF),fs=p.funcs->env=Γ.reverse->EL (λN k=>D4 (AH.at N) mp u l k (i:Int) fs env f.why f.at_) (Wn p Γ f (∀i' a,i<=i'->l[i']?=some a->WTy p Γ a u)):=by
    intro j
    induction j with
    |zero=>
     intro i hi fs env f hfs henv
     subst hfs;subst henv
     refine EL.down ?_
     show EL (λN k=>Ez (AH.at N) mp u l (D4 (AH.at N) mp u l k) i p.funcs Γ.reverse f.why f.at_) _
     unfold Ez
     refine EL.cond (λh=>by have:=CS h;omega) λ_=> .some ⟨rfl,rfl,λh=>⟨h,λi' a hi' ha=>by have:=(List.getElem?_eq_some_iff.1 ha).1;omega⟩,λh=>h.1⟩
    |succ j ihj=>
     intro i hi fs env f hfs henv
     subst hfs;subst henv
     obtain ⟨a,ha⟩: ∃a,l[i]?=some a:=⟨_,List.getElem?_eq_getElem om⟩
     obtain ⟨q,hq⟩:=List.mem_iff_getElem?.1 (hl1 a (List.mem_of_getElem? ha))
     refine EL.down ?_
     show EL (λN k=>Ez (AH.at N) mp u l (D4 (AH.at N) mp u l k) i p.funcs Γ.reverse f.why f.at_) _
     unfold Ez
     refine EL.cond (λ_=>?_) λh=>by have:=EE h;omega
     refine EL.eq (CC ha) (EL.bind (one hq Γ u ⟨f.why,f.at_⟩ hΓ om hu) λr hr=>?_)
     rw [wr om om,show (i:Int)+1=((i+1:Nat):Int) by omega]
     refine (ihj (i+1) om r.1 r.2.1 r.2.2 hr.1 hr.2.1).mono λw hw=>⟨hw.1,hw.2.1,hw.2.2.trans ?_⟩
     rw [hr.2.2]
     constructor
     ·rintro ⟨⟨h1,h2⟩,h3⟩
      refine ⟨h1,λi' b hi' hb=>?_⟩
      rcases Nat.eq_or_lt_of_le hi' with rfl|hlt
      ·rw [ha] at hb;cases hb;exact h2
      ·exact h3 i' b hlt hb
     ·rintro ⟨h1,h2⟩
      exact ⟨⟨h1,h2 i a (Nat.le_refl _) ha⟩,λi' b hi' hb=>h2 i' b om hb⟩
   refine (loop l.length 0 om p.funcs Γ.reverse flt rfl rfl).diag.mono λr hr=>⟨hr.1,hr.2.1,hr.2.2.trans ?_⟩
   constructor
   ·rintro ⟨h1,h2⟩
    refine ⟨h1,λa ha=>?_⟩
    obtain ⟨i,hi⟩:=List.mem_iff_getElem?.1 ha
    exact h2 i a (Nat.zero_le _) hi
   ·rintro ⟨h1,h2⟩
    exact ⟨h1,λi a _ ha=>h2 a (List.mem_of_getElem? ha)⟩
  have last: ∀(r:List AN×List AJ×AF) (f:AF) (A:Prop),Wn p Γ f A r->(f.why=0↔flt.why=0)->(A↔WTy p Γ e t)->T (Ci e t t r.1 r.2.1 r.2.2.why r.2.2.at_) (Wn p Γ flt (WTy p Γ e t)):=by
   intro r f A hr hf hA
   refine AAM.mono λw hw=>⟨hw.1.trans hr.1,hw.2.1.trans hr.2.1,hw.2.2.trans ?_⟩
   rw [hr.2.2,hA,hf]
   exact ⟨λh=>h.1,λh=>⟨h,rfl⟩⟩
  refine ET.down ?_
  show ET (λN=>GS (AH.at N) N p.funcs Γ.reverse mp flt e t) _
  unfold GS
  have ow:19<=e.op/\e.op<=22->OwT p Γ e t:=λh=>⟨λh=>om,λh=>om,λh=>om,λh=>om,λh=>om,λh=>om⟩
  have har:=he.ar
  refine ET.cond (λh=>?_) λh19=>ET.cond (λh=>?_) λh20=>ET.cond (λh=>?_) λh21=>ET.cond (λh=>?_) λh22=>?_
  ·
   have ho:=CV h
   obtain ⟨a,b,d,ha⟩:=UY (l:=e.args) (by unfold Ar at har;omega)
   have ea:e.args[0]?=some a:=by rw [ha];rfl
   have eb:e.args[1]?=some b:=by rw [ha];rfl
   have ed:e.args[2]?=some d:=by rw [ha];rfl
   have hsub:sub e.args 1 (e.args.length:Int)=some [b,d]:=by rw [ha];rfl
   refine ET.eq (CC (i:=0) ea) (ET.bind (one ea Γ 2 flt hΓ om om) λr hr=>ET.eq hsub ?_)
   rw [hr.1,hr.2.1]
   refine ET.bind (alls [b,d] (λx hx=>by rw [ha];simp at hx ⊢;rcases hx with rfl|rfl<;>simp) (by rw [ha];simp) t r.2.2 ht) λr2 hr2=> .of ?_
   refine last r2 flt (WTy p Γ a 2/\∀x∈[b,d],WTy p Γ x t) ⟨hr2.1,hr2.2.1,by rw [hr2.2.2,hr.2.2];exact and_assoc⟩ Iff.rfl ?_
   have e1: ∀i,Win Γ e i=Γ:=λi=>by unfold Win;rw [if_neg om,if_neg om]
   have e2: ∀i,Wan p e i t=if i=0 then 2 else t:=λi=>by unfold Wan;rw [if_neg om,if_neg om,if_neg om,if_pos ho]
   rw [Mu (e:=e),ha,ACm,e1,e1,e1,e2,e2,e2]
   simp only [List.mem_cons,List.not_mem_nil,or_false,forall_eq_or_imp,forall_eq]
   exact ⟨λh=>⟨ow om,h.1,h.2.1,h.2.2⟩,λh=>⟨h.2.1,h.2.2.1,h.2.2.2⟩⟩
  ·
   have ho:=CV h
   obtain ⟨a,b,d,ha⟩:=UY (l:=e.args) (by unfold Ar at har;omega)
   have ea:e.args[0]?=some a:=by rw [ha];rfl
   have eb:e.args[1]?=some b:=by rw [ha];rfl
   have ed:e.args[2]?=some d:=by rw [ha];rfl
   have e1: ∀i,i≠2->Win Γ e i=Γ:=λi hi=>by unfold Win;rw [if_neg om,if_neg om]
   have e1':Win Γ e 2=⟨e.tail,3,0⟩::⟨e.name,1,0⟩::Γ:=by unfold Win;rw [if_neg om,if_pos ⟨ho,rfl⟩]
   have e2: ∀i,Wan p e i t=if i=0 then 3 else t:=λi=>by unfold Wan;rw [if_neg om,if_neg om,if_neg om,if_neg om,if_pos ho]
   have hwin:=Wq hΓ he 2
   rw [e1'] at hwin
   refine ET.eq (CC (i:=0) ea) (ET.bind (one ea Γ 3 flt hΓ om om) λr hr=>ET.eq (CC (i:=1) eb) ?_)
   rw [hr.1,hr.2.1]
   refine ET.bind (one eb Γ t r.2.2 hΓ om ht) λr2 hr2=>?_
   rw [hr2.1,hr2.2.1]
   refine ET.bind (P:=Wn p Γ r2.2.2 (WTy p (⟨e.tail,3,0⟩::⟨e.name,1,0⟩::Γ) d t)) ?_ λr3 hr3=> .of ?_
   ·refine ET.down ?_
    show ET (λN=>HY (AH.at N) N p.funcs Γ.reverse mp r2.2.2 e t [⟨e.name,1,0⟩,⟨e.tail,3,0⟩]) _
    unfold HY
    refine ET.tb (HD (by decide) (by simp;omega)) λ_ _=>?_
    refine ET.bind (P:=Wn p (⟨e.tail,3,0⟩::⟨e.name,1,0⟩::Γ) r2.2.2 (WTy p (⟨e.tail,3,0⟩::⟨e.name,1,0⟩::Γ) d t)) ?_ λw hw=>?_
    ·refine ET.down ?_
     have hrev:Γ.reverse++[⟨e.name,1,0⟩,⟨e.tail,3,0⟩]=(⟨e.tail,3,0⟩::⟨e.name,1,0⟩::Γ:List AJ).reverse:=by simp
     rw [hrev]
     show ET (λN=>Fi (AH.at N) N p.funcs (⟨e.tail,3,0⟩::⟨e.name,1,0⟩::Γ:List AJ).reverse mp r2.2.2 e t) _
     unfold Fi
     exact ET.eq (CC (i:=2) ed) (ET.bind (one ed _ t r2.2.2 hwin.1 hwin.2 ht) λw hw=> .some hw)
    ·refine ET.tb (P:=λx=>x=Γ.reverse) ?_ λx hx=> .some ⟨hw.1,hx,hw.2.2⟩
     refine (N6 om om (by rw [hw.2.1];simp;omega)).mono λx hx=>?_
     rw [hx,hw.2.1];simp
   ·refine last r3 flt (WTy p Γ a 3/\WTy p Γ b t/\WTy p (⟨e.tail,3,0⟩::⟨e.name,1,0⟩::Γ) d t) ⟨hr3.1,hr3.2.1,by rw [hr3.2.2,hr2.2.2,hr.2.2,and_assoc,and_assoc]⟩ Iff.rfl ?_
    rw [Mu (e:=e),ha,ACm,e1 0 om,e1 1 om,e1',e2,e2,e2]
    exact ⟨λh=>⟨ow om,h.1,h.2.1,h.2.2⟩,λh=>⟨h.2.1,h.2.2.1,h.2.2.2⟩⟩
  ·
   have ho:=CV h
   obtain ⟨a,b,ha⟩:=Rj (l:=e.args) (by unfold Ar at har;omega)
   have ea:e.args[0]?=some a:=by rw [ha];rfl
   have eb:e.args[1]?=some b:=by rw [ha];rfl
   have e1: ∀i,Win Γ e i=⟨e.name,e.type_,0⟩::Γ:=λi=>by unfold Win;rw [if_pos (.inl ho)]
   have e2: ∀i,Wan p e i t=if i=0 then e.type_ else t:=λi=>by unfold Wan;rw [if_neg om,if_neg om,if_neg om,if_neg om,if_neg om,if_pos om]
   have hwin:=Wq hΓ he 0
   rw [e1] at hwin
   have het:=he.typ om
   refine ET.bind (P:=Wn p Γ flt (WTy p (⟨e.name,e.type_,0⟩::Γ) a e.type_/\WTy p (⟨e.name,e.type_,0⟩::Γ) b t)) ?_ λr3 hr3=> .of ?_
   ·refine ET.down ?_
    show ET (λN=>GT (AH.at N) N p.funcs Γ.reverse mp flt e t [⟨e.name,e.type_,0⟩]) _
    unfold GT
    refine ET.tb (HD (by decide) (by simp;omega)) λ_ _=>?_
    refine ET.bind (P:=Wn p (⟨e.name,e.type_,0⟩::Γ) flt (WTy p (⟨e.name,e.type_,0⟩::Γ) a e.type_/\WTy p (⟨e.name,e.type_,0⟩::Γ) b t)) ?_ λw hw=>?_
    ·refine ET.down ?_
     have hrev:Γ.reverse++[⟨e.name,e.type_,0⟩]=(⟨e.name,e.type_,0⟩::Γ:List AJ).reverse:=by simp
     rw [hrev]
     show ET (λN=>Fj (AH.at N) N p.funcs (⟨e.name,e.type_,0⟩::Γ:List AJ).reverse mp flt e t) _
     unfold Fj
     refine ET.eq (CC (i:=0) ea) (ET.bind (one ea _ e.type_ flt hwin.1 hwin.2 het) λw hw=>ET.eq (CC (i:=1) eb) ?_)
     rw [hw.1,hw.2.1]
     exact ET.bind (one eb _ t w.2.2 hwin.1 hwin.2 ht) λw2 hw2=> .some ⟨hw2.1,hw2.2.1,by rw [hw2.2.2,hw.2.2];exact and_assoc⟩
    ·refine ET.tb (P:=λx=>x=Γ.reverse) ?_ λx hx=> .some ⟨hw.1,hx,hw.2.2⟩
     refine (N6 om om (by rw [hw.2.1];simp;omega)).mono λx hx=>?_
     rw [hx,hw.2.1];simp
   ·refine last r3 flt _ hr3 Iff.rfl ?_
    rw [Mu (e:=e),ha,ACX,e1,e1,e2,e2]
    exact ⟨λh=>⟨ow om,h.1,h.2⟩,λh=>⟨h.2.1,h.2.2⟩⟩
  ·
   have ho:=CV h
   obtain ⟨a,b,ha⟩:=Rj (l:=e.args) (by unfold Ar at har;omega)
   have ea:e.args[0]?=some a:=by rw [ha];rfl
   have eb:e.args[1]?=some b:=by rw [ha];rfl
   have e1:Win Γ e 0=Γ:=by unfold Win;rw [if_neg om,if_neg om]
   have e1':Win Γ e 1=⟨e.name,e.type_,0⟩::Γ:=by unfold Win;rw [if_pos (.inr ⟨ho,rfl⟩)]
   have e2: ∀i,Wan p e i t=if i=0 then e.type_ else t:=λi=>by unfold Wan;rw [if_neg om,if_neg om,if_neg om,if_neg om,if_neg om,if_pos om]
   have hwin:=Wq hΓ he 1
   rw [e1'] at hwin
   have het:=he.typ om
   refine ET.eq (CC (i:=0) ea) (ET.bind (one ea Γ e.type_ flt hΓ om het) λr hr=>?_)
   rw [hr.1,hr.2.1]
   refine ET.bind (P:=Wn p Γ r.2.2 (WTy p (⟨e.name,e.type_,0⟩::Γ) b t)) ?_ λr3 hr3=> .of ?_
   ·refine ET.down ?_
    show ET (λN=>GU (AH.at N) N p.funcs Γ.reverse mp r.2.2 e t [⟨e.name,e.type_,0⟩]) _
    unfold GU
    refine ET.tb (HD (by decide) (by simp;omega)) λ_ _=>?_
    refine ET.bind (P:=Wn p (⟨e.name,e.type_,0⟩::Γ) r.2.2 (WTy p (⟨e.name,e.type_,0⟩::Γ) b t)) ?_ λw hw=>?_
    ·refine ET.down ?_
     have hrev:Γ.reverse++[⟨e.name,e.type_,0⟩]=(⟨e.name,e.type_,0⟩::Γ:List AJ).reverse:=by simp
     rw [hrev]
     show ET (λN=>Fk (AH.at N) N p.funcs (⟨e.name,e.type_,0⟩::Γ:List AJ).reverse mp r.2.2 e t) _
     unfold Fk
     exact ET.eq (CC (i:=1) eb) (ET.bind (one eb _ t r.2.2 hwin.1 hwin.2 ht) λw hw=> .some hw)
    ·refine ET.tb (P:=λx=>x=Γ.reverse) ?_ λx hx=> .some ⟨hw.1,hx,hw.2.2⟩
     refine (N6 om om (by rw [hw.2.1];simp;omega)).mono λx hx=>?_
     rw [hx,hw.2.1];simp
   ·refine last r3 flt (WTy p Γ a e.type_/\WTy p (⟨e.name,e.type_,0⟩::Γ) b t) ⟨hr3.1,hr3.2.1,by rw [hr3.2.2,hr.2.2];exact and_assoc⟩ Iff.rfl ?_
    rw [Mu (e:=e),ha,ACX,e1,e1',e2,e2]
    exact ⟨λh=>⟨ow om,h.1,h.2⟩,λh=>⟨h.2.1,h.2.2⟩⟩
  ·
   have h19:=B9 h19;have h20:=B9 h20;have h21:=B9 h21;have h22:=B9 h22
   have hop:1<=e.op/\e.op<=18:=by unfold Ar at har;omega
   have e1: ∀i,Win Γ e i=Γ:=λi=>by unfold Win;rw [if_neg om,if_neg om]
   have fin:ET (λN=>types_checker_own N p.funcs Γ.reverse mp flt e) (Wo p Γ flt t (WTy p Γ e t))->ET (λN=>((AH.at N).types_checker_own p.funcs Γ.reverse mp flt e).bind λx2165=>Ci e t x2165.1 x2165.2.1 x2165.2.2.1 x2165.2.2.2.why x2165.2.2.2.at_) (Wn p Γ flt (WTy p Γ e t)):=λh=>
    ET.bind h λr hr=> .of (AAM.mono λw hw=>⟨hw.1.trans hr.1,hw.2.1.trans hr.2.1,hw.2.2.trans hr.2.2⟩)
   refine fin (ET.down ?_)
   show ET (λN=>HE (AH.at N) N p.funcs Γ.reverse mp flt e) _
   have leaf: ∀(o:Int),e.args=[]->((o=t)↔OwT p Γ e t)->Wo p Γ flt t (WTy p Γ e t) (o,p.funcs,Γ.reverse,flt):=λo ha ho=>⟨rfl,rfl,by
    rw [Mu (e:=e),ha]
    exact ⟨λh=>⟨h.1,ho.1 h.2,λi a h=>by simp at h⟩,λh=>⟨h.1,ho.2 h.2.1⟩⟩⟩
   have nil_of:(1<=e.op/\e.op<=6)->e.args=[]:=λh=>List.length_eq_zero_iff.1 (by unfold Ar at har;omega)
   unfold HE
   have j1t:(e.op=2∨e.op=3)->ET (λN=>FK (AH.at N) N p.funcs Γ.reverse mp flt e true) (Wo p Γ flt t (WTy p Γ e t)):=by
    intro ho
    unfold FK
    refine ET.cond (λ_=> .some (leaf 2 (nil_of om) ⟨λh=>⟨λh=>om,λ_=>h.symm,λh=>om,λh=>om,λh=>om,λh=>om⟩,λh=>(h.b om).symm⟩)) λh=>by cases h
   refine ET.cond (λh=>by rw [h];exact j1t (.inl (CV h))) λh2=>?_
   have h2:=B9 h2
   cases h3:(e.op==3)
   rotate_left
   ·exact j1t (.inr (CV h3))
   have h3:=B9 h3
   unfold FK
   refine ET.cond (λh=>by cases h) λ_=>ET.cond (λh=> .some ?_) λh4=>ET.cond (λh=> .some ?_) λh5=>ET.cond (λh=>?_) λh6=>ET.cond (λh=>?_) λh7=>ET.cond (λh=>?_) λh14=>ET.cond (λh=>?_) λh18=>?_
   ·have ho:=CV h
    exact leaf 3 (nil_of om) ⟨λh=>⟨λh=>om,λh=>om,λ_=>h.symm,λh=>om,λh=>om,λh=>om⟩,λh=>(h.l om).symm⟩
   ·have ho:=CV h
    exact leaf e.type_ (nil_of om) ⟨λh=>⟨λh=>om,λh=>om,λh=>om,λ_=>h.symm,λh=>om,λh=>om⟩,λh=>(h.f ho).symm⟩
   ·have ho:=CV h
    refine R0 (Γ.length+2) ⟨((Ri Γ e.name).getD 0,p.funcs,Γ.reverse,flt),leaf _ (nil_of om) ⟨λh=>⟨λh=>om,λh=>om,λh=>om,λh=>om,λ_=>?_,λh=>om⟩,λh=>?_⟩,λN hN=>?_⟩
    ·cases hlk:Ri Γ e.name with
     |none=>rw [hlk] at h;simp at h;omega
     |some u=>rw [hlk] at h;simp at h;rw [h]
    ·rw [h.v ho];rfl
    ·have:=ACY (e:=e) (fs:=p.funcs) (flt:=flt) (Γ:=Γ) om Γ [] rfl N om
     rw [wr (by simp;omega) (by simp;omega),List.length_reverse]
     exact this
   ·
    have ho:=CV h
    have hwan: ∀f,hd p e.name=some f->∀i x,f.params[i]?=some x->Wan p e i t=x.type_:=λf hf i x hx=>by
     unfold Wan
     rw [if_neg om,if_neg om,if_pos ho,hf]
     show (match f.params[i]? with |some x=>x.type_|none=>1)=_
     rw [hx]
    refine ET.bind (P:=Wo p Γ flt t (WTy p Γ e t)) ?_ λr hr=> .some hr
    refine ET.down ?_
    show ET (λN=>GW (AH.at N) N p.funcs Γ.reverse mp flt e) _
    have bad: ¬WTy p Γ e t->Wo p Γ flt t (WTy p Γ e t) (0,p.funcs,Γ.reverse,flt):=λh=>⟨rfl,rfl,λh'=>by have:(0:Int)=t:=h'.2;omega,λh'=>absurd h'.2 h⟩
    unfold GW
    rcases hmp e.name with ⟨hn0,h0⟩| ⟨i,f,hi,hf,hm⟩
    ·rw [h0]
     refine ET.cond (λ_=>?_) λh=>by cases h
     unfold F1
     refine ET.cond (λ_=> .some (bad λh=>?_)) λh=>by cases h
     obtain ⟨g,hg,_⟩:=h.own.c ho
     rw [hn0] at hg;cases hg
    ·have hil:=(List.getElem?_eq_some_iff.1 hi).1
     have hfn:=hp.fns f (List.mem_of_find?_eq_some hf)
     have hfp:=hfn.pars
     rw [hm]
     refine ET.cond (λh=>by have:=CV h;omega) λ_=>?_
     rw [wr (x:=(i:Int)+1 - 1) om om,show (i:Int)+1 - 1=(i:Int) by omega]
     refine ET.eq (CC hi) ?_
     unfold F1
     refine ET.cond (λh=> .some (bad λh'=>?_)) λh=>?_
     ·obtain ⟨g,hg,hgl,_⟩:=h'.own.c ho
      rw [hf] at hg;cases hg
      exact absurd (congrArg Int.ofNat hgl) (Ma h)
     have hfl:f.params.length=e.args.length:=by have:=KR h;omega
     rw [hm,wr (x:=(i:Int)+1 - 1) om om,show (i:Int)+1 - 1=(i:Int) by omega]
     refine ET.eq (CC hi) ?_
     have loop: ∀(j q:Nat),q+j=f.params.length->∀(fs:List AN) (env:List AJ) (f2:AF),fs=p.funcs->env=Γ.reverse->EL (λN k=>EH (AH.at N) mp e f k (q:Int) fs env f2.why f2.at_) λr=>r.1=f.type_/\r.2.1=p.funcs/\r.2.2.1=Γ.reverse/\(r.2.2.2.why=0↔f2.why=0/\∀i' a,q<=i'->e.args[i']?=some a->WTy p Γ a (Wan p e i' t)):=by
      intro j
      induction j with
      |zero=>
       intro q hq fs env f2 hfs henv
       subst hfs;subst henv
       refine EL.down ?_
       show EL (λN k=>Ec (AH.at N) mp e f (EH (AH.at N) mp e f k) q p.funcs Γ.reverse f2.why f2.at_) _
       unfold Ec
       refine EL.cond (λh=>by have:=CS h;omega) λ_=>?_
       rw [hm,wr (x:=(i:Int)+1 - 1) om om,show (i:Int)+1 - 1=(i:Int) by omega]
       exact EL.eq (CC hi) (.some ⟨rfl,rfl,rfl,λh=>⟨h,λi' a hi' ha=>by have:=(List.getElem?_eq_some_iff.1 ha).1;omega⟩,λh=>h.1⟩)
      |succ j ihj=>
       intro q hq fs env f2 hfs henv
       subst hfs;subst henv
       obtain ⟨x,hx⟩: ∃x,f.params[q]?=some x:=⟨_,List.getElem?_eq_getElem om⟩
       obtain ⟨a,ha⟩: ∃a,e.args[q]?=some a:=⟨_,List.getElem?_eq_getElem om⟩
       have hxt:=hfn.ptyp x (List.mem_of_getElem? hx)
       refine EL.down ?_
       show EL (λN k=>Ec (AH.at N) mp e f (EH (AH.at N) mp e f k) q p.funcs Γ.reverse f2.why f2.at_) _
       unfold Ec
       refine EL.cond (λ_=>?_) λh=>by have:=EE h;omega
       refine EL.eq (CC hx) (EL.eq (CC ha) (EL.bind (one ha Γ x.type_ ⟨f2.why,f2.at_⟩ hΓ om hxt) λw hw=>?_))
       rw [wr om om,show (q:Int)+1=((q+1:Nat):Int) by omega]
       refine (ihj (q+1) om w.1 w.2.1 w.2.2 hw.1 hw.2.1).mono λr hr=>⟨hr.1,hr.2.1,hr.2.2.1,hr.2.2.2.trans ?_⟩
       rw [hw.2.2]
       constructor
       ·rintro ⟨⟨h1,h2⟩,h3⟩
        refine ⟨h1,λi' b hi' hb=>?_⟩
        rcases Nat.eq_or_lt_of_le hi' with rfl|hlt
        ·rw [ha] at hb;cases hb;rw [hwan f hf q x hx];exact h2
        ·exact h3 i' b hlt hb
       ·rintro ⟨h1,h2⟩
        exact ⟨⟨h1,by have:=h2 q a (Nat.le_refl _) ha;rwa [hwan f hf q x hx] at this⟩,λi' b hi' hb=>h2 i' b om hb⟩
     refine (loop f.params.length 0 om p.funcs Γ.reverse flt rfl rfl).diag.mono λr hr=>⟨hr.2.1,hr.2.2.1,?_⟩
     rw [hr.1,hr.2.2.2,Mu (e:=e)]
     simp only [e1]
     constructor
     ·rintro ⟨⟨h1,h2⟩,h3⟩
      exact ⟨h1,⟨λh=>om,λh=>om,λh=>om,λh=>om,λh=>om,λ_=>⟨f,hf,hfl,h3⟩⟩,λi a ha=>h2 i a (Nat.zero_le _) ha⟩
     ·rintro ⟨h1,h2,h3⟩
      obtain ⟨g,hg,_,hgt⟩:=h2.c ho
      rw [hf] at hg;cases hg
      exact ⟨⟨h1,λi a _ ha=>h3 i a ha⟩,hgt⟩
   ·
    have ho:=CV h
    refine ET.bind (alls e.args (λa h=>h) (Nat.le_refl _) 2 flt om) λr hr=> .some ⟨hr.1,hr.2.1,?_⟩
    have e2: ∀i,Wan p e i t=2:=λi=>by unfold Wan;rw [if_pos ho]
    show (r.2.2.why=0/\(2:Int)=t)↔_
    rw [hr.2.2,Mu (e:=e)]
    simp only [e1,e2]
    constructor
    ·rintro ⟨⟨h1,h2⟩,h3⟩
     exact ⟨h1,⟨λh=>om,λ_=>h3.symm,λh=>om,λh=>om,λh=>om,λh=>om⟩,λi a ha=>h2 a (List.mem_of_getElem? ha)⟩
    ·rintro ⟨h1,h2,h3⟩
     refine ⟨⟨h1,λa ha=>?_⟩,(h2.b om).symm⟩
     obtain ⟨i,hi⟩:=List.mem_iff_getElem?.1 ha
     exact h3 i a hi
   ·
    have ho:=CV h
    obtain ⟨a,b,ha⟩:=Rj (l:=e.args) (by unfold Ar at har;omega)
    have ea:e.args[0]?=some a:=by rw [ha];rfl
    have eb:e.args[1]?=some b:=by rw [ha];rfl
    have e2:Wan p e 0 t=1:=by unfold Wan;rw [if_neg om,if_neg om,if_neg om,if_neg om,if_neg om,if_neg om]
    have e3:Wan p e 1 t=3:=by unfold Wan;rw [if_neg om,if_pos ⟨ho,rfl⟩]
    refine ET.eq (CC (i:=0) ea) (ET.bind (one ea Γ 1 flt hΓ om om) λr hr=>ET.eq (CC (i:=1) eb) ?_)
    rw [hr.1,hr.2.1]
    refine ET.bind (one eb Γ 3 r.2.2 hΓ om om) λr2 hr2=> .some ⟨hr2.1,hr2.2.1,?_⟩
    show (r2.2.2.why=0/\(3:Int)=t)↔_
    rw [hr2.2.2,hr.2.2,Mu (e:=e),ha,ACX,e1,e1,e2,e3]
    constructor
    ·rintro ⟨⟨⟨h1,h2⟩,h3⟩,h4⟩
     exact ⟨h1,⟨λh=>om,λh=>om,λ_=>h4.symm,λh=>om,λh=>om,λh=>om⟩,h2,h3⟩
    ·rintro ⟨h1,h2,h3,h4⟩
     exact ⟨⟨⟨h1,h3⟩,h4⟩,(h2.l om).symm⟩
   ·
    have h4:=B9 h4;have h5:=B9 h5;have h6:=B9 h6;have h7:=B9 h7;have h14:=B9 h14;have h18:=B9 h18
    have e2: ∀i,Wan p e i t=1:=λi=>by unfold Wan;rw [if_neg om,if_neg om,if_neg om,if_neg om,if_neg om,if_neg om]
    refine ET.bind (alls e.args (λa h=>h) (Nat.le_refl _) 1 flt om) λr hr=>?_
    have out: ∀o:Int,(o=t↔OwT p Γ e t)->Wo p Γ flt t (WTy p Γ e t) (o,r.1,r.2.1,r.2.2):=λo ho=>⟨hr.1,hr.2.1,by
     show (r.2.2.why=0/\o=t)↔_
     rw [hr.2.2,Mu (e:=e),ho]
     simp only [e1,e2]
     constructor
     ·rintro ⟨⟨h1,h2⟩,h3⟩
      exact ⟨h1,h3,λi a ha=>h2 a (List.mem_of_getElem? ha)⟩
     ·rintro ⟨h1,h2,h3⟩
      refine ⟨⟨h1,λa ha=>?_⟩,h2⟩
      obtain ⟨i,hi⟩:=List.mem_iff_getElem?.1 ha
      exact h3 i a hi⟩
    have two':(e.op=12∨e.op=13)->ET (λ_N=>H2 r true) (Wo p Γ flt t (WTy p Γ e t)):=λho=>
     .some (out 2 ⟨λh=>⟨λh=>om,λ_=>h.symm,λh=>om,λh=>om,λh=>om,λh=>om⟩,λh=>(h.b om).symm⟩)
    refine ET.cond (λh=>two' (.inl (CV h))) λh12=>?_
    have h12:=B9 h12
    cases h13:(e.op==13)
    ·have h13:=B9 h13
     exact .some (out 1 ⟨λh=>⟨λ_=>h.symm,λh=>om,λh=>om,λh=>om,λh=>om,λh=>om⟩,λh=>(h.n om).symm⟩)
    ·exact two' (.inr (CV h13))
end
theorem ABT{p:AL}(hp:WP p):ET (λN=>HH N p) λr=>r.why=0↔Ub p:=by
 have hb: ∀f∈p.funcs,D8 f.body<=1000000/\f.params.length<=1000000:=λf hf=>⟨(hp.fns f hf).size,(hp.fns f hf).pars⟩
 have hlen:=hp.len
 unfold HH
 refine ET.bind (ABN hlen hb) λr hr=>ET.cond (λh=> .some ⟨λh'=>absurd h' (Ma h),λh'=>hr.2 h'.1⟩) λh=>?_
 have h:=KR h
 have hsc:=hr.1 h
 refine ET.bind (ABS hlen r) λo ho=>?_
 have fns: ∀(j i:Nat),i+j=p.funcs.length->∀(f0:AF) (fs:List AN) (env:List AJ),fs=p.funcs->EL (λN k=>H3 N p o k (i:Int) f0.why f0.at_ fs env) λr=>r.why=0↔f0.why=0/\∀i' f,i<=i'->p.funcs[i']?=some f->WTy p f.params.reverse f.body f.type_:=by
  intro j
  induction j with
  |zero=>
   intro i hi f0 fs env hfs
   refine EL.down ?_
   show EL (λN k=>IJ N p o (H3 N p o k) i f0.why f0.at_ fs env) _
   unfold IJ
   exact EL.cond (λh=>by have:=CS h;omega) λ_=> .some ⟨λh=>⟨h,λi' f hi' hf=>by have:=(List.getElem?_eq_some_iff.1 hf).1;omega⟩,λh=>h.1⟩
  |succ j ihj=>
   intro i hi f0 fs env hfs
   subst hfs
   obtain ⟨f,hf⟩: ∃f,p.funcs[i]?=some f:=⟨_,List.getElem?_eq_getElem om⟩
   have hfn:=hp.fns f (List.mem_of_getElem? hf)
   have hfs:=hfn.size
   have hfp:=hfn.pars
   refine EL.down ?_
   show EL (λN k=>IJ N p o (H3 N p o k) i f0.why f0.at_ p.funcs env) _
   unfold IJ
   refine EL.cond (λ_=>?_) λh=>by have:=EE h;omega
   refine EL.eq (CC hf) (EL.tb (HD (by decide) (by simp;omega)) λ_ _=>?_)
   rw [QW,List.nil_append]
   have hΓ:TyE f.params.reverse:=λx hx=>hfn.ptyp x (List.mem_reverse.1 hx)
   have hw:=AAN hp ho.2 (D8 f.body) f.body (Nat.le_refl _) om hfn.body f.params.reverse f.type_ ⟨f0.why,f0.at_⟩ hΓ (by rw [List.length_reverse];omega) hfn.typ
   rw [List.reverse_reverse] at hw
   refine EL.bind hw λw hw=>?_
   rw [wr om om,show (i:Int)+1=((i+1:Nat):Int) by omega]
   refine (ihj (i+1) om w.2.2 w.1 w.2.1 hw.1).mono λr hr=>hr.trans ?_
   rw [hw.2.2]
   constructor
   ·rintro ⟨⟨h1,h2⟩,h3⟩
    refine ⟨h1,λi' g hi' hg=>?_⟩
    rcases Nat.eq_or_lt_of_le hi' with rfl|hlt
    ·rw [hf] at hg;cases hg;exact h2
    ·exact h3 i' g hlt hg
   ·rintro ⟨h1,h2⟩
    exact ⟨⟨h1,h2 i f (Nat.le_refl _) hf⟩,λi' g hi' hg=>h2 i' g om hg⟩
 refine (fns p.funcs.length 0 om r o.2.1 o.2.2.1 ho.1).diag.mono λq hq=>hq.trans ⟨λh'=>⟨hsc,λf hf=>?_⟩,λh'=>⟨h,λi' f _ hf=>h'.2 f (List.mem_of_getElem? hf)⟩⟩
 obtain ⟨i,hi⟩:=List.mem_iff_getElem?.1 hf
 exact h'.2 i f (Nat.zero_le _) hi
end Fth
