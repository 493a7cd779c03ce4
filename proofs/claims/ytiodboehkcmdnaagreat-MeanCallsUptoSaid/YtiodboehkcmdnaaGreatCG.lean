/- Part 7 of the proof: what it says holds of the given program; no condition. -/
import Derived.Test.YtiodboehkcmdnaaGreatCF
set_option linter.all false
set_option exponentiation.threshold 3000
namespace Fth
open Go
theorem Py(e:AE):AE.mk e.op e.name e.tail e.type_ e.num e.args e.at_=e:=by cases e;rfl
mutual
def E0:AE→Nat
 | ⟨_,_,_,_,_,l,_⟩=>1+DK l
def DK:List AE→Nat
 | []=>0
 |e::l=>E0 e+DK l
end
theorem PA(e:AE):E0 e=1+DK e.args:=by cases e;simp [E0]
theorem KV(l m:List AE):DK (l++m)=DK l+DK m:=by
 induction l with
 |nil=>simp [DK]
 |cons e l ih=>simp [DK,ih];omega
theorem Pz(e:AE):DK [e]=E0 e:=by simp [DK]
theorem Mh(e:AE):1≤E0 e:=by rw [PA];omega
theorem N6{l:List AE}{e:AE}(h:e∈l):E0 e≤DK l:=by
 induction l with
 |nil=>cases h
 |cons x l ih=>
  rcases List.mem_cons.1 h with rfl|h
  ·simp [DK]
  ·have:=ih h;simp only [DK];omega
theorem M1(l:List AE):l.length≤DK l:=by
 induction l with
 |nil=>simp
 |cons x l ih=>have:=Mh x;simp only [DK,List.length_cons];omega
def Ar(op:Int)(n:Nat):Prop:=
 (1≤op∧op≤6∧n=0)∨op=7∨(8≤op∧op≤13∧n=2)∨(14≤op∧op≤17∧n=1)∨(op=18∧n=2)∨(19≤op∧op≤20∧n=3)∨(21≤op∧op≤22∧n=2)
inductive WE:AE→Prop
 |mk (e:AE) (ha:Ar e.op e.args.length) (hn:e.op=1→Gn e.num) (ht:e.op=5∨e.op=21∨e.op=22→1≤e.type_∧e.type_≤3) (hs: ∀a∈e.args,WE a):WE e
theorem WE.ar{e:AE}(h:WE e):Ar e.op e.args.length:=by cases h;assumption
theorem WE.num{e:AE}(h:WE e):e.op=1→Gn e.num:=by cases h;assumption
theorem WE.typ{e:AE}(h:WE e):e.op=5∨e.op=21∨e.op=22→1≤e.type_∧e.type_≤3:=by cases h;assumption
theorem WE.sub{e:AE}(h:WE e): ∀a∈e.args,WE a:=by cases h;assumption
section
variable{ms:List Aj}
def Rd(ms:List Aj)(r:AC):Prop:=r.marks=ms∧0≤r.at_∧r.at_<ms.length
theorem VZ(hM:GM ms){i:Nat}{m:Aj}(h:ms[i]?=some m):(m.kind≠4→i+1<ms.length)∧(m.kind=2→Gn m.num):=by
 obtain ⟨l,e,rfl,he,hl⟩:=hM
 rcases Nat.lt_or_ge i l.length with hi|hi
 ·rw [List.getElem?_append_left hi] at h
  have:=hl m (List.mem_of_getElem? h)
  exact ⟨fun _=>by simp;omega,this.2⟩
 ·rw [List.getElem?_append_right hi] at h
  have h0:i - l.length=0:=by
   rcases Nat.eq_zero_or_pos (i - l.length) with h'|h'
   ·exact h'
   ·rw [List.getElem?_eq_none (by simp;omega)] at h;cases h
  rw [h0] at h
  simp at h
  subst h
  exact ⟨fun h=>absurd he h,fun h=>by rw [he] at h;exact absurd h (by decide)⟩
theorem LW{r:AC}(hr:Rd ms r):T (Be r) fun m=>ms[r.at_.toNat]?=some m:=by
 obtain ⟨rfl,h0,h1⟩:=hr
 exact T.bind (Fi h0 h1) fun m hm=> .some hm
theorem N7{r:AC}{y:Int}(hr:Rd ms r)(hy:y≠0):T (B3 r y) fun r'=>Rd ms r'∧r'.at_=r.at_∧r'.why≠0:=by
 unfold B3
 refine T.cond (fun _=>T.bind (LW (ms:=ms) (r:=AC.mk _ _ _ _ _ _) hr) fun m _=> .some ⟨hr,rfl,hy⟩) fun h=> .some ⟨hr,rfl,B0 h⟩
def KX(r:AC):AC:=⟨r.marks,r.at_+1,r.why,r.where_,r.l,r.nest⟩
theorem OD(hM:GM ms){r:AC}{s:List UInt8}(hr:Rd ms r):T (Br r s) fun b=>b=true→r.why=0∧r.at_+1<ms.length:=by
 unfold Br
 refine T.bind (LW hr) fun m hm=>T.cond (fun hw=>?_) fun _=> .some fun h=>by cases h
 have hw:=CH hw
 have h2:=(VZ hM hm).1
 have:=hr.2.1
 refine T.cond (fun hk=> .some fun _=>⟨hw,?_⟩) fun _=>T.cond (fun hk=> .some fun _=>⟨hw,?_⟩) fun _=> .some fun h=>by cases h
 ·have:=h2 (by rw [CH hk];decide);omega
 ·have:=h2 (by rw [CH hk];decide);omega
variable(hlen:ms.length≤1000000000)
include hlen
theorem NG{r:AC}(hr:Rd ms r):(AC.mk r.marks (IntKind.i64.wrap (r.at_+1)) r.why r.where_ (Ai.mk r.l.text r.l.funcs r.l.arity r.l.nest) r.nest)=KX r:=by
 rw [wr (by have:=hr.2.1;omega) (by have:=hr.2.2;omega)];rfl
theorem N8(hM:GM ms){r:AC}{s:List UInt8}(hr:Rd ms r):T (B4 r s) fun x=>(x.1=true→r.why=0∧x.2=KX r∧Rd ms (KX r))∧(x.1=false→x.2=r):=by
 unfold B4
 refine T.bind (OD hM hr) fun b hb=>T.cond (fun h=> .some ⟨fun h=>(by cases h),fun _=>rfl⟩) fun h=>?_
 rw [NG hlen hr]
 have:=hb (by simpa using h)
 exact .some ⟨fun _=>⟨this.1,rfl,hr.1,by show 0≤r.at_+1;have:=hr.2.1;omega,this.2⟩,fun h=>by cases h⟩
theorem I3(hM:GM ms){r:AC}{s:List UInt8}(hr:Rd ms r):T (BA r s) fun r'=>Rd ms r'∧r.at_≤r'.at_∧(r'.why=0→r.why=0∧r'.at_=r.at_+1):=by
 unfold BA
 refine T.bind (N8 hlen hM hr) fun x hx=>T.cond (fun h=>?_) fun h=>?_
 ·have e:=hx.2 (by simpa using h)
  rw [e]
  refine T.bind (N7 hr (by decide)) fun r' hr'=> .some ⟨hr'.1,by rw [hr'.2.1];omega,fun h=>absurd h hr'.2.2⟩
 ·obtain ⟨h0,e,h1⟩:=hx.1 (by simpa using h)
  rw [e]
  exact .some ⟨h1,by show r.at_≤r.at_+1;omega,fun _=>⟨h0,rfl⟩⟩
theorem QM(hM:GM ms){r:AC}(hr:Rd ms r):T (CK r) fun x=>Rd ms x.2∧r.at_≤x.2.at_∧(x.2.why=0→r.why=0∧x.2.at_=r.at_+1):=by
 unfold CK
 refine T.bind (LW hr) fun m hm=>?_
 have bad:T (GB r m true) fun x=>Rd ms x.2∧r.at_≤x.2.at_∧(x.2.why=0→r.why=0∧x.2.at_=r.at_+1):=
  T.bind (N7 hr (by decide)) fun r' hr'=> .some ⟨hr'.1,by simp only;rw [hr'.2.1];omega,fun h=>absurd h hr'.2.2⟩
 refine T.cond (fun _=>bad) fun hw=>?_
 cases hk:(m.kind != 0)
 ·unfold GB
  rw [NG hlen hr]
  have h2:=(VZ hM hm).1 (by rw [J1 hk];decide)
  have:=hr.2.1
  exact .some ⟨⟨hr.1,by show 0≤r.at_+1;omega,by show r.at_+1<_;omega⟩,by show r.at_≤r.at_+1;omega,fun _=>⟨J1 hw,rfl⟩⟩
 ·exact bad
theorem Vb(hM:GM ms){r:AC}{N:Nat}(hN:5≤N)(hr:Rd ms r):T (CN N r) fun x=>Rd ms x.2∧r.at_≤x.2.at_∧(x.2.why=0→r.why=0∧x.2.at_=r.at_+1∧1≤x.1∧x.1≤3):=by
 have key: ∀(k:Nat) (i:Int),0≤i→i≤3→3 - i<k→T (CM k i r.marks r.at_ r.why r.where_ r.l.text r.l.funcs r.l.arity r.l.nest r.nest) fun x=>Rd ms x.2∧r.at_≤x.2.at_∧(x.2.why=0→r.why=0∧x.2.at_=r.at_+1∧1≤x.1∧x.1≤3):=by
  intro k
  induction k with
  |zero=>intro i _ _ _;omega
  |succ k ih=>
   intro i h0 h1 h2
   show T (DM (CM k) i r.marks r.at_ r.why r.where_ r.l.text r.l.funcs r.l.arity r.l.nest r.nest) _
   unfold DM
   refine T.cond (fun h=>?_) fun h=>?_
   ·have h:=CZ h
    have h:i<3:=h
    refine T.bind (Fi h0 (by simpa using h)) fun s _=>T.bind (N8 hlen hM (r:=r) hr) fun x hx=>T.cond (fun hb=>?_) fun hb=>?_
    ·obtain ⟨h3,e,h4⟩:=hx.1 hb
     rw [e,wr om om]
     exact .some ⟨h4,by show r.at_≤r.at_+1;omega,fun _=>⟨h3,rfl,by simp only;omega,by simp only;omega⟩⟩
    ·rw [hx.2 hb,wr om om]
     exact ih _ om om om
   ·exact T.bind (N7 (r:=r) hr (by decide)) fun r' hr'=> .some ⟨hr'.1,by simp only;rw [hr'.2.1];omega,fun h=>absurd h hr'.2.2⟩
 exact key N 0 om om om
omit hlen
def EP(ms:List Aj)(r:AC)(x:AE×AC):Prop:=Rd ms x.2∧r.at_≤x.2.at_∧(x.2.why=0→r.why=0∧WE x.1∧(E0 x.1:Int)≤x.2.at_ - r.at_)
def Fu(ms:List Aj)(n:Nat)(r:AC)(lvl:Int):Prop:=lvl≤n∧(r.why=0→20*((ms.length:Int) - r.at_)+lvl≤n)
structure PSp(ms:List Aj)(n:Nat)(φ:AB):Prop where
 expr: ∀r,Rd ms r→Fu ms n r 18→T (φ.ref04_reader_expr r) (EP ms r)
 cons: ∀r,Rd ms r→Fu ms n r 17→T (φ.ref04_reader_cons r) (EP ms r)
 comp: ∀r,Rd ms r→Fu ms n r 16→T (φ.ref04_reader_comp r) (EP ms r)
 sum: ∀r,Rd ms r→Fu ms n r 15→T (φ.ref04_reader_sum r) (EP ms r)
 term: ∀r,Rd ms r→Fu ms n r 14→T (φ.ref04_reader_term r) (EP ms r)
 unit: ∀r,Rd ms r→Fu ms n r 13→T (φ.ref04_reader_unit r) (EP ms r)
 named: ∀r m,Rd ms r→r.why=0→Fu ms n r 12→T (φ.ref04_reader_named r m) fun x=>Rd ms x.2∧r.at_≤x.2.at_∧(x.2.why=0→WE x.1∧(E0 x.1:Int)≤x.2.at_ - r.at_+1)
 parts: ∀r l,Rd ms r→l.length≤3→Fu ms n r 19→T (φ.ref04_reader_parts r l) fun x=>Rd ms x.2∧r.at_≤x.2.at_∧(x.2.why=0→(l≠[]→r.why=0)∧x.1.length=l.length∧(∀a∈x.1,WE a)∧(DK x.1:Int)≤x.2.at_ - r.at_)
 branches: ∀r e,Rd ms r→Fu ms n r 19→T (φ.ref04_reader_branches r e) fun x=>Rd ms x.1∧r.at_≤x.1.at_∧(x.1.why=0→r.why=0∧WE x.2∧(E0 x.2:Int)≤x.1.at_ - r.at_+1)
theorem Fu.le{n m:Nat}{r r':AC}{l l':Int}(h:Fu ms n r l)(ha:r.at_≤r'.at_)(hw:r'.why=0→r.why=0)(hl:l'+n≤l+m):Fu ms m r' l':=by
 obtain ⟨h1,h2⟩:=h
 exact ⟨om,fun h=>by have:=h2 (hw h);omega⟩
theorem Fu.lt{n m:Nat}{r r':AC}{l l':Int}(h:Fu ms n r l)(ha:r.at_<r'.at_)(hw:r.why=0)(h1:r.at_<ms.length)(hl:l'+n≤l+20+m):Fu ms m r' l':=by
 obtain ⟨h1,h2⟩:=h
 have:=h2 hw
 exact ⟨om,fun _=>om⟩
theorem WE.two{op:Int}{a b:AE}{nm tl:List UInt8}{ty:Int}{z:Nat×Nat}{p:Int}(ho:(8≤op∧op≤13)∨op=18)(ha:WE a)(hb:WE b):WE ⟨op,nm,tl,ty,z,[a,b],p⟩:=by
 refine .mk _ ?_ (fun h=>?_) (fun h=>?_) fun x hx=>?_
 ·rcases ho with ho|ho
  ·exact .inr (.inr (.inl ⟨ho.1,ho.2,rfl⟩))
  ·exact .inr (.inr (.inr (.inr (.inl ⟨ho,rfl⟩))))
 ·simp only at h;omega
 ·simp only at h;omega
 ·simp at hx;rcases hx with rfl|rfl<;>assumption
section
variable(hlen:ms.length≤1000000000)(hM:GM ms){n:Nat}{φ:AB}(hφ:PSp ms n φ)
include hlen hM hφ
theorem AA6{r:AC}(hr:Rd ms r)(hf:Fu ms (n+1) r 17):T (DA φ n r) (EP ms r):=by
 unfold DA
 refine T.bind (hφ.comp r hr (hf.le om id om)) fun x hx=>T.bind (LW hx.1) fun m _=>T.bind (N8 hlen hM hx.1) fun y hy=>T.cond (fun hb=>?_) fun hb=>?_
 ·rw [hy.2 (by simpa using hb)]
  exact .some hx
 ·obtain ⟨h0,e,h1⟩:=hy.1 (by simpa using hb)
  rw [e]
  have h2:=hx.2.2 h0
  have h3:=hx.2.1
  refine T.bind (hφ.cons _ h1 (hf.lt (by show r.at_<x.2.at_+1;omega) h2.1 hr.2.2 om)) fun z hz=>?_
  refine .some (a:=_) ⟨hz.1,by have:=hz.2.1;simp only [KX] at this;simp only;omega,fun hw=>?_⟩
  have hz':=hz.2.2 hw
  refine ⟨h2.1,.two (.inr rfl) h2.2.1 hz'.2.1,?_⟩
  have hz1:=hz'.2.2
  simp only [KX] at hz1
  simp only [E0,DK]
  omega
theorem AA7{r:AC}(hr:Rd ms r)(hf:Fu ms (n+1) r 16):T (DB φ n r) (EP ms r):=by
 unfold DB
 refine T.bind (hφ.sum r hr (hf.le om id om)) fun x hx=>T.bind (LW hx.1) fun m _=>T.bind (OD hM hx.1) fun b _=>?_
 have go: ∀op:Int,8≤op∧op≤13→T (Du φ x m op) (EP ms r):=by
  intro op hop
  have yes: ∀y:AC,x.2.why=0→y=KX x.2→Rd ms y→T (EQ φ x m op false y.marks y.at_ y.why y.where_ y.l.text y.l.funcs y.l.arity y.l.nest y.nest) (EP ms r):=by
   rintro y h0 rfl h1
   have h2:=hx.2.2 h0
   have h3:=hx.2.1
   refine T.cond (fun h=>by cases h) fun _=>T.bind (hφ.sum (KX x.2) h1 (hf.lt (by show r.at_<x.2.at_+1;omega) h2.1 hr.2.2 om)) fun z hz=>?_
   refine .some (a:=_) ⟨hz.1,by have:=hz.2.1;simp only [KX] at this;simp only;omega,fun hw=>?_⟩
   have hz':=hz.2.2 hw
   refine ⟨h2.1,.two (.inl hop) h2.2.1 hz'.2.1,?_⟩
   have hz1:=hz'.2.2
   simp only [KX] at hz1
   simp only [E0,DK]
   omega
  unfold Du
  refine T.bind (N8 hlen hM hx.1) fun y hy=>T.cond (fun hb=>?_) fun hb=>?_
  ·rw [hy.2 (by simpa using hb)]
   refine T.bind (N8 hlen hM hx.1) fun y hy=>?_
   cases hb:y.1
   ·rw [hy.2 hb]
    exact .some hx
   ·obtain ⟨h0,e,h1⟩:=hy.1 hb
    exact yes _ h0 e (e▸h1)
  ·obtain ⟨h0,e,h1⟩:=hy.1 (by simpa using hb)
   exact yes _ h0 e (e▸h1)
 exact T.cond (fun _=>go 13 ⟨om,om⟩) fun _=>go 12 ⟨om,om⟩
theorem ABe{r:AC}(hr:Rd ms r)(hf:Fu ms (n+1) r 15):T (DX φ n r) (EP ms r):=by
 unfold DX
 refine T.bind (hφ.term r hr (hf.le om id om)) fun x hx=>?_
 have key: ∀(k:Nat) (x:AE×AC),EP ms r x→1≤k→(x.2.why=0→(ms.length:Int) - x.2.at_<k)→T (B1 φ k x.2.marks x.2.at_ x.2.why x.2.where_ x.2.l.text x.2.l.funcs x.2.l.arity x.2.l.nest x.2.nest x.1.op x.1.name x.1.tail x.1.type_ x.1.num x.1.args x.1.at_) (EP ms r):=by
  intro k
  induction k with
  |zero=>intro x _ _ _;omega
  |succ k ih=>
   intro x hx _ hk
   have go: ∀b,(b=true→x.2.why=0∧x.2.at_+1<ms.length)→T (EC φ x.2.marks x.2.at_ x.2.why x.2.where_ x.2.l.text x.2.l.funcs x.2.l.arity x.2.l.nest x.2.nest x.1.op x.1.name x.1.tail x.1.type_ x.1.num x.1.args x.1.at_ (B1 φ k) b) (EP ms r):=by
    intro b hb
    unfold EC
    refine T.cond (fun h=>?_) fun _=> .some (by rw [Py];exact hx)
    obtain ⟨h0,h1⟩:=hb h
    have h2:=hx.2.2 h0
    have h3:=hx.2.1
    have hk:=hk h0
    have hbr:Rd ms (KX x.2):=⟨hx.1.1,by show 0≤x.2.at_+1;have:=hx.1.2.1;omega,h1⟩
    refine T.bind (LW (r:=x.2) hx.1) fun m _=>?_
    rw [NG hlen hx.1]
    refine T.bind (hφ.term (KX x.2) hbr (hf.lt (by show r.at_<x.2.at_+1;omega) h2.1 hr.2.2 om)) fun z hz=>?_
    have hz1:=hz.2.1
    simp only [KX] at hz1
    have fin: ∀op:Int,8≤op∧op≤13→T (EB x.1.op x.1.name x.1.tail x.1.type_ x.1.num x.1.args x.1.at_ (B1 φ k) m z op) (EP ms r):=by
     intro op hop
     unfold EB
     rw [Py]
     refine ih (⟨op,[],[],0,(0,0),[x.1,z.1],m.at_⟩,z.2) ⟨hz.1,by simp only;omega,fun hw=>?_⟩ ?_ fun hw=>?_
     ·have hz':=hz.2.2 hw
      have hz2:=hz'.2.2
      simp only [KX] at hz2
      exact ⟨h2.1,.two (.inl hop) h2.2.1 hz'.2.1,by simp only [E0,DK];omega⟩
     ·have:=hx.1.2.2;omega
     ·simp only;omega
    exact T.cond (fun _=>fin 9 ⟨om,om⟩) fun _=>fin 8 ⟨om,om⟩
   show T (DO φ (B1 φ k) x.2.marks x.2.at_ x.2.why x.2.where_ x.2.l.text x.2.l.funcs x.2.l.arity x.2.l.nest x.2.nest x.1.op x.1.name x.1.tail x.1.type_ x.1.num x.1.args x.1.at_) _
   unfold DO
   exact T.bind (OD hM (r:=x.2) hx.1) fun b hb=>T.cond (fun h=>go true fun _=>hb h) fun _=>T.bind (OD hM (r:=x.2) hx.1) fun b hb=>go b hb
 refine key n x hx (by have:=hf.1;omega) fun hw=>?_
 have h2:=hx.2.2 hw
 have h3:=hf.2 h2.1
 have:=hx.2.1
 have:=hr.2.2
 omega
theorem AA8{r:AC}(hr:Rd ms r)(hf:Fu ms (n+1) r 14):T (DC φ n r) (EP ms r):=by
 unfold DC
 refine T.bind (hφ.unit r hr (hf.le om id om)) fun x hx=>?_
 have key: ∀(k:Nat) (x:AE×AC),EP ms r x→1≤k→(x.2.why=0→(ms.length:Int) - x.2.at_<k)→T (Bt φ k x.2.marks x.2.at_ x.2.why x.2.where_ x.2.l.text x.2.l.funcs x.2.l.arity x.2.l.nest x.2.nest x.1.op x.1.name x.1.tail x.1.type_ x.1.num x.1.args x.1.at_) (EP ms r):=by
  intro k
  induction k with
  |zero=>intro x _ _ _;omega
  |succ k ih=>
   intro x hx _ hk
   have go: ∀b,(b=true→x.2.why=0∧x.2.at_+1<ms.length)→T (Dw φ x.2.marks x.2.at_ x.2.why x.2.where_ x.2.l.text x.2.l.funcs x.2.l.arity x.2.l.nest x.2.nest x.1.op x.1.name x.1.tail x.1.type_ x.1.num x.1.args x.1.at_ (Bt φ k) b) (EP ms r):=by
    intro b hb
    unfold Dw
    refine T.cond (fun h=>?_) fun _=> .some (by rw [Py];exact hx)
    obtain ⟨h0,h1⟩:=hb h
    have h2:=hx.2.2 h0
    have h3:=hx.2.1
    have hk:=hk h0
    have hbr:Rd ms (KX x.2):=⟨hx.1.1,by show 0≤x.2.at_+1;have:=hx.1.2.1;omega,h1⟩
    refine T.bind (LW (r:=x.2) hx.1) fun m _=>?_
    rw [NG hlen hx.1]
    refine T.bind (hφ.unit (KX x.2) hbr (hf.lt (by show r.at_<x.2.at_+1;omega) h2.1 hr.2.2 om)) fun z hz=>?_
    have hz1:=hz.2.1
    simp only [KX] at hz1
    have fin: ∀op:Int,8≤op∧op≤13→T (Dv x.1.op x.1.name x.1.tail x.1.type_ x.1.num x.1.args x.1.at_ (Bt φ k) m z op) (EP ms r):=by
     intro op hop
     unfold Dv
     rw [Py]
     refine ih (⟨op,[],[],0,(0,0),[x.1,z.1],m.at_⟩,z.2) ⟨hz.1,by simp only;omega,fun hw=>?_⟩ ?_ fun hw=>?_
     ·have hz':=hz.2.2 hw
      have hz2:=hz'.2.2
      simp only [KX] at hz2
      exact ⟨h2.1,.two (.inl hop) h2.2.1 hz'.2.1,by simp only [E0,DK];omega⟩
     ·have:=hx.1.2.2;omega
     ·simp only;omega
    exact T.cond (fun _=>fin 11 ⟨om,om⟩) fun _=>fin 10 ⟨om,om⟩
   show T (Cz φ (Bt φ k) x.2.marks x.2.at_ x.2.why x.2.where_ x.2.l.text x.2.l.funcs x.2.l.arity x.2.l.nest x.2.nest x.1.op x.1.name x.1.tail x.1.type_ x.1.num x.1.args x.1.at_) _
   unfold Cz
   exact T.bind (OD hM (r:=x.2) hx.1) fun b hb=>T.cond (fun h=>go true fun _=>hb h) fun _=>T.bind (OD hM (r:=x.2) hx.1) fun b hb=>go b hb
 refine key n x hx (by have:=hf.1;omega) fun hw=>?_
 have h2:=hx.2.2 hw
 have h3:=hf.2 h2.1
 have:=hx.2.1
 have:=hr.2.2
 omega
omit hφ hM hlen in
theorem Zw(s:List UInt8):T (H2 s) fun o=>o=0∨(2≤o∧o≤5)∨(14≤o∧o≤17):=by
 unfold H2
 repeat (first|exact T.some om|refine T.cond (fun _=>?_) (fun _=>?_))
theorem AA9{r:AC}(hr:Rd ms r)(hf:Fu ms (n+1) r 13):T (DD φ n r) (EP ms r):=by
 unfold DD
 have h1:=hr.2.1
 have h2:=hr.2.2
 refine T.bind (LW hr) fun m hm=>T.cond (fun h=> .some ⟨hr,by simp only;omega,fun h'=>absurd h' (Lf h)⟩) fun hw=>?_
 have hw:=J1 hw
 have hm':=VZ hM hm
 refine T.cond (fun hk=>?_) fun hk2=>T.cond (fun hk=>?_) fun hk0=>?_
 ·rw [NG hlen hr]
  have hk:=CH hk
  have h3:=hm'.1 (by rw [hk];decide)
  refine .some (a:=_) ⟨⟨hr.1,by show 0≤r.at_+1;omega,by show r.at_+1<_;omega⟩,by show r.at_≤r.at_+1;omega,fun _=>⟨hw,.mk _ (.inl ⟨by simp,by simp,rfl⟩) (fun _=>hm'.2 hk) (fun h=>by simp at h) (fun a h=>by simp at h),?_⟩⟩
  simp only [E0,DK,KX];omega
 ·rw [NG hlen hr]
  have hk:=CH hk
  have h3:=hm'.1 (by rw [hk];decide)
  have hbr:Rd ms (KX r):=⟨hr.1,by show 0≤r.at_+1;omega,by show r.at_+1<_;omega⟩
  refine T.bind (hφ.named (KX r) m hbr hw (hf.lt (by show r.at_<r.at_+1;omega) hw h2 om)) fun x hx=>?_
  have hx1:=hx.2.1
  simp only [KX] at hx1
  refine .some (a:=_) ⟨hx.1,by simp only;omega,fun h=>⟨hw,(hx.2.2 h).1,?_⟩⟩
  have:=(hx.2.2 h).2
  simp only [KX] at this
  simp only;omega
 ·have hk2:=B0 hk2
  have hk0:=B0 hk0
  refine T.bind (N8 hlen hM hr) fun x hx=>T.cond (fun hb=>?_) fun hb=>?_
  ·obtain ⟨_,e,hbr⟩:=hx.1 hb
   rw [e]
   refine T.bind (hφ.expr (KX r) hbr (hf.lt (by show r.at_<r.at_+1;omega) hw h2 om)) fun y hy=>T.bind (I3 hlen hM hy.1) fun r' hr'=>?_
   have hy1:=hy.2.1
   simp only [KX] at hy1
   refine .some (a:=_) ⟨hr'.1,by have:=hr'.2.1;simp only;omega,fun h=>?_⟩
   have h3:=hr'.2.2 h
   have h4:=hy.2.2 h3.1
   have h5:=h4.2.2
   simp only [KX] at h5
   exact ⟨hw,h4.2.1,by simp only;omega⟩
  ·have bad:T (DP φ n m x true) (EP ms r):=by
    unfold DP
    refine T.cond (fun _=>?_) fun h=>by cases h
    rw [hx.2 hb]
    exact T.bind (N7 hr (by decide)) fun r' hr'=> .some ⟨hr'.1,by simp only;rw [hr'.2.1];omega,fun h=>absurd h hr'.2.2⟩
   refine T.cond (fun _=>bad) fun hk1=>?_
   have hk1:=J1 hk1
   have h3:=hm'.1 (by rw [hk1];decide)
   have hbr:Rd ms (KX r):=⟨hr.1,by show 0≤r.at_+1;omega,by show r.at_+1<_;omega⟩
   obtain ⟨o,ho,ho'⟩:=Zw m.text
   refine T.eq ho ?_
   cases hz:(o==0)
   ·have hz:=B0 hz
    unfold DP
    refine T.cond (fun h=>by cases h) fun _=>T.eq ho ?_
    unfold E9
    rw [hx.2 hb,NG hlen hr]
    have fin: ∀(r':AC) (ty:Int) (l:List AE),Rd ms r'→r.at_≤r'.at_→(r'.why=0→Ar o l.length∧(o=5→1≤ty∧ty≤3)∧(∀a∈l,WE a)∧(1+DK l:Int)≤r'.at_ - r.at_)→
      T (GC o [] [] (0,0) m.at_ r'.marks r'.at_ r'.why r'.where_ r'.l.text r'.l.funcs r'.l.arity r'.l.nest r'.nest ty l) (EP ms r):=by
     intro r' ty l h1 h2 h3
     refine .some (a:=_) ⟨h1,h2,fun h=>⟨hw,?_,?_⟩⟩
     ·obtain ⟨ha,ht,hl,_⟩:=h3 h
      exact .mk _ ha (fun h=>by simp only at h;omega) (fun h=>ht (by simp only at h;omega)) hl
     ·have:=(h3 h).2.2.2
      simp only [E0];omega
    have j4:14≤o∧o≤17→T (CS φ (x.1,r) o [] [] 0 (0,0) m.at_ true) (EP ms r):=by
     intro ho2
     unfold CS
     refine T.cond (fun _=>?_) fun h=>by cases h
     rw [NG hlen hr]
     refine T.bind (I3 hlen hM hbr) fun r1 hr1=>?_
     have e1:=hr1.2.1
     simp only [KX] at e1
     refine T.bind (hφ.expr r1 hr1.1 (hf.lt om hw h2 om)) fun y hy=>T.bind (I3 hlen hM hy.1) fun r2 hr2=>fin r2 0 [y.1] hr2.1 (by have:=hr2.2.1;have:=hy.2.1;omega) fun h=>?_
     have h5:=hr2.2.2 h
     have h6:=hy.2.2 h5.1
     refine ⟨.inr (.inr (.inr (.inl ⟨ho2.1,ho2.2,rfl⟩))),fun h=>om,fun a ha=>by simp at ha;subst ha;exact h6.2.1,?_⟩
     have:=h6.2.2
     rw [Pz];omega
    have ex:x=(x.1,r):=by rw [←hx.2 hb]
    rw [ex]
    refine T.cond (fun h5=>?_) fun h5=>?_
    ·have h5:=CH h5
     have:=hf.1
     refine T.bind (Vb hlen hM om hbr) fun y hy=>fin y.2 y.1 [] hy.1 (by have:=hy.2.1;simp only [KX] at this;omega) fun h=>?_
     have h6:=hy.2.2 h
     refine ⟨.inl ⟨om,om,rfl⟩,fun _=>⟨h6.2.2.1,h6.2.2.2⟩,fun a h=>by simp at h,?_⟩
     have:=h6.2.1
     simp only [KX] at this
     simp only [DK];omega
    ·have h5:=B0 h5
     refine T.cond (fun h=>by rw [h];exact j4 (by have:=CH h;omega)) fun hn1=>T.cond (fun h=>by rw [h];exact j4 (by have:=CH h;omega)) fun hn2=>T.cond (fun h=>by rw [h];exact j4 (by have:=CH h;omega)) fun hn3=>?_
     cases h17:(o==17)
     ·have:=B0 hn1;have:=B0 hn2;have:=B0 hn3;have:=B0 h17
      unfold CS
      refine T.cond (fun h=>by cases h) fun _=>?_
      dsimp only
      rw [wr (x:=r.at_+1) om om]
      refine fin (KX r) 0 [] hbr (by show r.at_≤r.at_+1;omega) fun _=>⟨.inl ⟨om,om,rfl⟩,fun h=>om,fun a h=>by simp at h,by simp only [DK,KX];omega⟩
     ·exact j4 (by have:=CH h17;omega)
   ·exact bad
theorem Zx{r:AC}{m:Aj}(hr:Rd ms r)(hw:r.why=0)(hf:Fu ms (n+1) r 12):T (Cm φ n r m) fun x=>Rd ms x.2∧r.at_≤x.2.at_∧(x.2.why=0→WE x.1∧(E0 x.1:Int)≤x.2.at_ - r.at_+1):=by
 unfold Cm
 have h2:=hr.2.2
 have h1:=hr.2.1
 refine T.bind (N8 hlen hM hr) fun x hx=>T.cond (fun hb=>?_) fun hb=>?_
 ·rw [hx.2 (by simpa using hb)]
  exact .some ⟨hr,by simp only;omega,fun _=>⟨.mk _ (.inl ⟨by simp,by simp,rfl⟩) (fun h=>by simp at h) (fun h=>by simp at h) (fun a h=>by simp at h),by simp only [E0,DK];omega⟩⟩
 ·obtain ⟨_,e,hbr⟩:=hx.1 (by simpa using hb)
  have key: ∀(k:Nat) (s:AC) (l:List AE),Rd ms s→r.at_+1≤s.at_→1≤k→(s.why=0→(ms.length:Int) - s.at_<k)→(s.why=0→(∀a∈l,WE a)∧(DK l:Int)≤s.at_ - r.at_)→
    T (Bl φ m k s.marks s.at_ s.why s.where_ s.l.text s.l.funcs s.l.arity s.l.nest s.nest l) fun x=>Rd ms x.2∧r.at_≤x.2.at_∧(x.2.why=0→WE x.1∧(E0 x.1:Int)≤x.2.at_ - r.at_+1):=by
   intro k
   induction k with
   |zero=>intro s l _ _ _ _;omega
   |succ k ih=>
    intro s l hs hat _ hk hl
    show T (Ci φ m (Bl φ m k) s.marks s.at_ s.why s.where_ s.l.text s.l.funcs s.l.arity s.l.nest s.nest l) _
    unfold Ci
    have fin:T (Db φ m s.marks s.at_ s.why s.where_ s.l.text s.l.funcs s.l.arity s.l.nest s.nest l (Bl φ m k) false) fun x=>Rd ms x.2∧r.at_≤x.2.at_∧(x.2.why=0→WE x.1∧(E0 x.1:Int)≤x.2.at_ - r.at_+1):=by
     unfold Db
     refine T.cond (fun h=>by cases h) fun _=>T.bind (I3 hlen hM (r:=s) hs) fun r' hr'=> .some ⟨hr'.1,by have:=hr'.2.1;simp only;omega,fun h=>?_⟩
     have h3:=hr'.2.2 h
     have h4:=hl h3.1
     exact ⟨.mk _ (.inr (.inl rfl)) (fun h=>by simp at h) (fun h=>by simp at h) h4.1,by simp only [E0];omega⟩
    refine T.cond (fun hsw=>?_) fun _=>fin
    have hsw:=CH hsw
    refine T.bind (OD hM (r:=s) hs) fun b _=>?_
    cases b
    ·have go: ∀s':AC,Rd ms s'→s.at_≤s'.at_→T (Da φ l (Bl φ m k) s'.marks s'.at_ s'.why s'.where_ s'.l.text s'.l.funcs s'.l.arity s'.l.nest s'.nest) fun x=>Rd ms x.2∧r.at_≤x.2.at_∧(x.2.why=0→WE x.1∧(E0 x.1:Int)≤x.2.at_ - r.at_+1):=by
      intro s' hs' hle
      unfold Da
      have h5:=hs.2.2
      refine T.bind (hφ.expr s' hs' (hf.lt om hw h2 om)) fun y hy=>?_
      have hy1:=hy.2.1
      have hll':=hl hsw
      have hlen':=M1 l
      refine T.bind (Gy om (by simp;omega)) fun _ _=>ih y.2 (l++[y.1]) hy.1 om ?_ (fun h=>?_) fun h=>?_
      ·have:=hk hsw;omega
      ·have:=hy.2.2 h;have:=Mh y.1;have:=hk hsw;omega
      ·have h6:=hy.2.2 h
       refine ⟨fun a ha=>?_,?_⟩
       ·rcases List.mem_append.1 ha with ha|ha
        ·exact hll'.1 a ha
        ·simp at ha;subst ha;exact h6.2.1
       ·rw [KV,Pz];omega
     refine T.cond (fun _=>T.cond (fun _=>T.bind (I3 hlen hM (r:=s) hs) fun s' hs'=>go s' hs'.1 hs'.2.1) fun _=>go s hs om) fun h=>by cases h
    ·exact fin
  rw [e]
  refine key n (KX r) [] hbr (by show r.at_+1≤r.at_+1;omega) (by have:=hf.1;omega) (fun _=>?_) fun _=>⟨fun a h=>by simp at h,by simp only [DK,KX];omega⟩
  have:=hf.2 hw
  simp only [KX];omega
theorem Zy{r:AC}{ws:List (List UInt8)}(hr:Rd ms r)(hl3:ws.length≤3)(hf:Fu ms (n+1) r 19):T (Cl φ n r ws) fun x=>Rd ms x.2∧r.at_≤x.2.at_∧(x.2.why=0→(ws≠[]→r.why=0)∧x.1.length=ws.length∧(∀a∈x.1,WE a)∧(DK x.1:Int)≤x.2.at_ - r.at_):=by
 unfold Cl
 have key: ∀(k i:Nat) (l:List AE) (s:AC),i≤ws.length→ws.length<i+k→l.length=i→Rd ms s→r.at_≤s.at_→(s.why=0→r.why=0∧(∀a∈l,WE a)∧(DK l:Int)≤s.at_ - r.at_)→
   T (Bu φ ws k l (i:Int) s.marks s.at_ s.why s.where_ s.l.text s.l.funcs s.l.arity s.l.nest s.nest) fun x=>Rd ms x.2∧r.at_≤x.2.at_∧(x.2.why=0→(ws≠[]→r.why=0)∧x.1.length=ws.length∧(∀a∈x.1,WE a)∧(DK x.1:Int)≤x.2.at_ - r.at_):=by
  intro k
  induction k with
  |zero=>intro i l s _ _;omega
  |succ k ih=>
   intro i l s hi hk hli hs hat hw
   show T (Ch φ ws (Bu φ ws k) l i s.marks s.at_ s.why s.where_ s.l.text s.l.funcs s.l.arity s.l.nest s.nest) _
   unfold Ch
   refine T.cond (fun h=>?_) fun h=>?_
   ·have h:=CZ h
    have go: ∀s':AC,Rd ms s'→s.at_≤s'.at_→(s'.why=0→s.why=0)→T (DZ φ l i (Bu φ ws k) s'.marks s'.at_ s'.why s'.where_ s'.l.text s'.l.funcs s'.l.arity s'.l.nest s'.nest) fun x=>Rd ms x.2∧r.at_≤x.2.at_∧(x.2.why=0→(ws≠[]→r.why=0)∧x.1.length=ws.length∧(∀a∈x.1,WE a)∧(DK x.1:Int)≤x.2.at_ - r.at_):=by
     intro s' hs' hle hw'
     unfold DZ
     refine T.bind (hφ.expr s' hs' (hf.le om (fun h=>(hw (hw' h)).1) om)) fun y hy=>T.bind (Gy om (by simp;omega)) fun _ _=>?_
     rw [wr om om,show (i:Int)+1=((i+1:Nat):Int) by omega]
     refine ih (i+1) (l++[y.1]) y.2 om om (by simp;omega) hy.1 (by have:=hy.2.1;omega) fun h=>?_
     have h1:=hy.2.2 h
     have h2:=hw (hw' h1.1)
     refine ⟨h2.1,fun a ha=>?_,?_⟩
     ·rcases List.mem_append.1 ha with ha|ha
      ·exact h2.2.1 a ha
      ·simp at ha;subst ha;exact h1.2.1
     ·rw [KV,Pz];have:=h1.2.2;have:=h2.2.2;omega
    refine T.bind (Fi om h) fun w _=>T.cond (fun _=>T.bind (I3 hlen hM (r:=s) hs) fun s' hs'=>go s' hs'.1 hs'.2.1 fun h=>(hs'.2.2 h).1) fun _=>go s hs om id
   ·have h:=D5 h
    exact .some ⟨hs,hat,fun h'=>⟨fun _=>(hw h').1,by simp only;omega,(hw h').2.1,(hw h').2.2⟩⟩
 cases ws with
 |nil=>
  obtain ⟨n,rfl⟩: ∃m,n=m+1:=⟨n - 1,by have:=hf.1;omega⟩
  exact .some ⟨hr,by simp only;omega,fun _=>⟨fun h=>absurd rfl h,rfl,fun a h=>(by cases h),by simp [DK]⟩⟩
 |cons w ws=>
  rcases Decidable.em (r.why=0) with h|h
  ·exact key n 0 [] r om (by have:=hf.1;omega) rfl hr om fun _=>⟨h,fun a h=>(by cases h),by simp [DK]⟩
  ·exact key n 0 [] r om (by have:=hf.1;omega) rfl hr om fun h'=>absurd h' h
theorem XB{r:AC}{e:AE}(hr:Rd ms r)(hf:Fu ms (n+1) r 19):T (CA φ n r e) fun x=>Rd ms x.1∧r.at_≤x.1.at_∧(x.1.why=0→r.why=0∧WE x.2∧(E0 x.2:Int)≤x.1.at_ - r.at_+1):=by
 unfold CA
 refine T.bind (hφ.expr r hr (hf.le om id om)) fun a ha=>T.bind (I3 hlen hM ha.1) fun r1 h1=>T.bind (I3 hlen hM h1.1) fun r2 h2=>T.bind (I3 hlen hM h2.1) fun r3 h3=>?_
 have a1:=ha.2.1;have b1:=h1.2.1;have b2:=h2.2.1;have b3:=h3.2.1
 refine T.bind (hφ.expr r3 h3.1 (hf.le om (fun h=>(ha.2.2 (h1.2.2 (h2.2.2 (h3.2.2 h).1).1).1).1) om)) fun b hb=>T.bind (I3 hlen hM hb.1) fun r4 h4=>T.bind (QM hlen hM h4.1) fun x5 h5=>T.bind (I3 hlen hM h5.1) fun r6 h6=>T.bind (QM hlen hM h6.1) fun x7 h7=>T.bind (I3 hlen hM h7.1) fun r8 h8=>?_
 have a2:=hb.2.1;have b4:=h4.2.1;have b5:=h5.2.1;have b6:=h6.2.1;have b7:=h7.2.1;have b8:=h8.2.1
 have back:r8.why=0→b.2.why=0:=fun h=>(h4.2.2 (h5.2.2 (h6.2.2 (h7.2.2 (h8.2.2 h).1).1).1).1).1
 have back2:r3.why=0→a.2.why=0:=fun h=>(h1.2.2 (h2.2.2 (h3.2.2 h).1).1).1
 refine T.bind (hφ.expr r8 h8.1 (hf.le om (fun h=>(ha.2.2 (back2 (hb.2.2 (back h)).1)).1) om)) fun c hc=>?_
 have a3:=hc.2.1
 refine .some (a:=_) ⟨hc.1,by simp only;omega,fun h=>?_⟩
 have p3:=hc.2.2 h
 have p2:=hb.2.2 (back p3.1)
 have p1:=ha.2.2 (back2 p2.1)
 have e1:=p1.2.2;have e2:=p2.2.2;have e3:=p3.2.2
 refine ⟨p1.1,.mk _ (.inr (.inr (.inr (.inr (.inr (.inl ⟨by simp,by simp,rfl⟩)))))) (fun h=>by simp at h) (fun h=>by simp at h) fun x hx=>?_,?_⟩
 ·simp at hx
  rcases hx with rfl|rfl|rfl
  ·exact p1.2.1
  ·exact p2.2.1
  ·exact p3.2.1
 ·simp only [E0,DK];omega
theorem ABA{r:AC}(hr:Rd ms r)(hf:Fu ms (n+1) r 18):T (C9 φ n r) (EP ms r):=by
 unfold C9
 have hr1:=hr.2.1
 have hr2:=hr.2.2
 refine T.bind (LW hr) fun m hm=>?_
 have out: ∀(bd:Bool) (y:AC) (e:AE),Rd ms y→r.at_≤y.at_→(y.why=0→r.why=0∧WE e∧(E0 e:Int)≤y.at_ - r.at_)→
   T (E8 bd y.marks y.at_ y.why y.where_ y.l.text y.l.funcs y.l.arity y.l.nest y.nest e.op e.name e.tail e.type_ e.num e.args e.at_) (EP ms r):=by
  intro bd y e hy hat hw
  unfold E8 Hh
  rw [Py]
  exact T.cond (fun _=> .some ⟨hy,hat,hw⟩) fun _=> .some ⟨hy,hat,hw⟩
 have j7: ∀(bd:Bool) (y:AC) (op:Int),21≤op∧op≤22→Rd ms y→y.at_=r.at_→y.why=0→r.why=0→Rd ms (KX y)→∀nn:Int,T (Dp φ n m bd y.marks y.at_ y.why y.where_ y.l.text y.l.funcs y.l.arity y.l.nest nn op) (EP ms r):=by
  intro bd y op hop hy hat hw hrw hby nn
  unfold Dp
  rw [wr (x:=y.at_+1) (by have:=hy.2.1;omega) (by have:=hy.2.2;omega)]
  have hby':Rd ms (AC.mk y.marks (y.at_+1) y.why y.where_ (Ai.mk y.l.text y.l.funcs y.l.arity y.l.nest) nn):=hby
  refine T.bind (QM hlen hM hby') fun x hx=>?_
  have h1:=hf.1
  refine T.bind (Vb hlen hM om hx.1) fun t ht=>?_
  have x1:=hx.2.1;have t1:=ht.2.1
  simp only at x1
  refine T.bind (hφ.parts t.2 _ ht.1 (by simp) (hf.lt om hrw hr2 om)) fun l hl=>?_
  have l1:=hl.2.1
  refine out bd l.2 ⟨op,x.1.text,[],t.1,(0,0),l.1,m.at_⟩ hl.1 om fun h=>?_
  have p:=hl.2.2 h
  have q:=ht.2.2 (p.1 (by simp))
  refine ⟨hrw,.mk _ (.inr (.inr (.inr (.inr (.inr (.inr ⟨hop.1,hop.2,p.2.1⟩)))))) (fun h=>by simp only at h;omega) (fun _=>⟨q.2.2.1,q.2.2.2⟩) p.2.2.1,?_⟩
  have:=p.2.2.2
  simp only [E0];omega
 have j4: ∀(bd:Bool) (y:AC),Rd ms y→y.at_=r.at_→y.why=0→r.why=0→Rd ms (KX y)→∀nn:Int,T (Dq φ n m bd y.marks y.at_ y.why y.where_ y.l.text y.l.funcs y.l.arity y.l.nest nn) (EP ms r):=by
  intro bd y hy hat hw hrw hby nn
  unfold Dq
  have hby':Rd ms (AC.mk y.marks (y.at_+1) y.why y.where_ (Ai.mk y.l.text y.l.funcs y.l.arity y.l.nest) nn):=hby
  refine T.cond (fun _=>?_) fun _=>T.cond (fun _=>?_) fun _=>T.cond (fun _=>j7 bd y 22 ⟨om,om⟩ hy hat hw hrw hby nn) fun _=>j7 bd y 21 ⟨om,om⟩ hy hat hw hrw hby nn
  ·rw [wr (x:=y.at_+1) (by have:=hy.2.1;omega) (by have:=hy.2.2;omega)]
   refine T.bind (hφ.parts _ _ hby' (by simp) (hf.lt (by show r.at_<y.at_+1;omega) hrw hr2 om)) fun l hl=>?_
   have l1:=hl.2.1
   simp only at l1
   refine out bd l.2 ⟨19,[],[],0,(0,0),l.1,m.at_⟩ hl.1 om fun h=>?_
   have p:=hl.2.2 h
   refine ⟨hrw,.mk _ (.inr (.inr (.inr (.inr (.inr (.inl ⟨by simp,by simp,p.2.1⟩)))))) (fun h=>by simp at h) (fun h=>by simp at h) p.2.2.1,?_⟩
   have:=p.2.2.2
   simp only at this
   simp only [E0];omega
  ·rw [wr (x:=y.at_+1) (by have:=hy.2.1;omega) (by have:=hy.2.2;omega)]
   refine T.bind (hφ.branches _ _ hby' (hf.lt (by show r.at_<y.at_+1;omega) hrw hr2 om)) fun l hl=>?_
   have l1:=hl.2.1
   simp only at l1
   refine out bd l.1 l.2 hl.1 om fun h=>?_
   have p:=hl.2.2 h
   have:=p.2.2
   simp only at this
   exact ⟨hrw,p.2.1,om⟩
 have j2: ∀(bd:Bool) (y:AC),Rd ms y→y.at_=r.at_→(y.why=0→r.why=0)→(bd=true→y.why=0→Rd ms (KX y))→T (Ds φ n m bd y.marks y.at_ y.why y.where_ y.l.text y.l.funcs y.l.arity y.l.nest y.nest) (EP ms r):=by
  intro bd y hy hat hw hb
  unfold Ds
  refine T.cond (fun h=> .some ⟨hy,by simp only;omega,fun h'=>absurd h' (Lf h)⟩) fun h=>?_
  have h:=J1 h
  have hrw:=hw h
  refine T.cond (fun hbd=>?_) fun hbd=>?_
  ·refine T.bind (OD hM (r:=y) hy) fun c hc=>?_
   unfold Dr
   refine T.cond (fun _=>?_) fun hc'=>T.cond (fun h'=>by rw [h'] at hbd;cases hbd) fun _=>?_
   ·refine T.bind (hφ.cons y hy (hf.le om (fun _=>hrw) om)) fun z hz=> .some ⟨hz.1,by have:=hz.2.1;simp only;omega,fun h=>?_⟩
    have:=hz.2.2 h
    exact ⟨hrw,this.2.1,by have:=this.2.2;simp only;omega⟩
   ·have hc1:=hc (by simpa using hc')
    exact j4 bd y hy hat h hrw ⟨hy.1,by show 0≤y.at_+1;omega,hc1.2⟩ y.nest
  ·have hbd:bd=true:=by simpa using hbd
   unfold Dr
   refine T.cond (fun h=>by cases h) fun _=>T.cond (fun _=>j4 bd y hy hat h hrw (hb hbd h) _) fun h'=>by rw [h'] at hbd;cases hbd
 have j8: ∀(bd c:Bool),(bd=true→r.why=0∧r.at_+1<ms.length)→T (Dt φ n r m bd c) (EP ms r):=by
  intro bd c hb
  unfold Dt
  refine T.cond (fun _=>T.bind (N7 hr (by decide)) fun y hy=>j2 bd y hy.1 hy.2.1 (fun h=>absurd h hy.2.2) fun _ h=>absurd h hy.2.2) fun _=>j2 bd r hr rfl id fun h _=>⟨hr.1,by show 0≤r.at_+1;omega,(hb h).2⟩
 have j1: ∀(bd:Bool),(bd=true→r.why=0∧r.at_+1<ms.length)→T (DN φ n r m bd) (EP ms r):=by
  intro bd hb
  unfold DN
  exact T.cond (fun _=>j8 bd _ hb) fun _=>j8 bd _ hb
 refine T.bind (OD hM hr) fun b hb=>T.cond (fun h=>j1 true fun _=>hb h) fun _=>T.bind (OD hM hr) fun b hb=>T.cond (fun h=>j1 true fun _=>hb h) fun _=>T.bind (OD hM hr) fun b hb=>j1 b hb
omit hφ in
theorem psp: ∀n,PSp ms n (AB.at n)
 |0=>⟨fun r _ h=>absurd h.1 (by decide),fun r _ h=>absurd h.1 (by decide),fun r _ h=>absurd h.1 (by decide),fun r _ h=>absurd h.1 (by decide),fun r _ h=>absurd h.1 (by decide),fun r _ h=>absurd h.1 (by decide),fun r _ _ _ h=>absurd h.1 (by decide),fun r _ _ _ h=>absurd h.1 (by decide),fun r _ _ h=>absurd h.1 (by decide)⟩
 |n+1=>
  have hp:=psp n
  ⟨fun _ hr hf=>ABA hlen hM hp hr hf,fun _ hr hf=>AA6 hlen hM hp hr hf,fun _ hr hf=>AA7 hlen hM hp hr hf,fun _ hr hf=>ABe hlen hM hp hr hf,fun _ hr hf=>AA8 hlen hM hp hr hf,fun _ hr hf=>AA9 hlen hM hp hr hf,
   fun _ _ hr hw hf=>Zx hlen hM hp hr hw hf,fun _ _ hr hl hf=>Zy hlen hM hp hr hl hf,fun _ _ hr hf=>XB hlen hM hp hr hf⟩
end
end
end Fth
namespace Fth
open Go
structure WFn(f:AO):Prop where
 body:WE f.body
 size:E0 f.body≤1000000
 pars:f.params.length≤1000000
 typ:1≤f.type_∧f.type_≤3
 ptyp: ∀x∈f.params,1≤x.type_∧x.type_≤3
structure WP(p:AM):Prop where
 fns: ∀f∈p.funcs,WFn f
 len:p.funcs.length≤50000
section
variable{ms:List Aj}(hlen:ms.length≤40000)(hM:GM ms){N:Nat}(hN:1000000≤N)
include hlen hM hN
theorem ABB{r:AC}{k:Int}(hr:Rd ms r):T (Cv N r k) fun x=>Rd ms x.2∧r.at_≤x.2.at_∧(x.2.why=0→r.why=0∧r.at_<x.2.at_∧WFn x.1):=by
 have hlen':ms.length≤1000000000:=om
 have hps:=psp hlen' hM N
 have fu: ∀r,Rd ms r→Fu ms N r 18:=fun r hr=>⟨om,fun _=>by have:=hr.2.1;omega⟩
 have j1: ∀s:AC,Rd ms s→r.at_≤s.at_→(s.why=0→r.why=0)→T (EF N s.marks s.at_ s.why s.where_ s.l.text s.l.funcs s.l.arity s.l.nest s.nest) fun x=>Rd ms x.2∧r.at_≤x.2.at_∧(x.2.why=0→r.why=0∧r.at_<x.2.at_∧WFn x.1):=by
  intro s hs hat hw
  unfold EF
  refine T.bind (QM hlen' hM (r:=s) hs) fun x hx=>T.bind (I3 hlen' hM hx.1) fun s1 h1=>?_
  have x1:=hx.2.1;have a1:=h1.2.1
  have hw1:s1.why=0→r.why=0∧r.at_<s1.at_:=fun h=>by
   have p:=h1.2.2 h
   have q:=hx.2.2 p.1
   exact ⟨hw q.1,by have:=q.2;omega⟩
  have key: ∀(k:Nat) (s:AC) (l:List AJ),Rd ms s→s1.at_≤s.at_→(s.why=0→s1.why=0)→1≤k→(s.why=0→(ms.length:Int) - s.at_<k)→(s.why=0→l.length≤s.at_)→(s.why=0→∀x∈l,1≤x.type_∧x.type_≤3)→
    T (Bh N x k s.marks s.at_ s.why s.where_ s.l.text s.l.funcs s.l.arity s.l.nest s.nest l) fun x=>Rd ms x.2∧r.at_≤x.2.at_∧(x.2.why=0→r.why=0∧r.at_<x.2.at_∧WFn x.1):=by
   intro k
   induction k with
   |zero=>intro s l _ _ _ _ _;omega
   |succ k ih=>
    intro s l hs hat hw _ hk hl ht
    show T (DQ N x (Bh N x k) s.marks s.at_ s.why s.where_ s.l.text s.l.funcs s.l.arity s.l.nest s.nest l) _
    unfold DQ
    have fin:T (Dg N x s.marks s.at_ s.why s.where_ s.l.text s.l.funcs s.l.arity s.l.nest s.nest l (Bh N x k) false) fun x=>Rd ms x.2∧r.at_≤x.2.at_∧(x.2.why=0→r.why=0∧r.at_<x.2.at_∧WFn x.1):=by
     unfold Dg
     refine T.cond (fun h=>by cases h) fun _=>T.bind (I3 hlen' hM (r:=s) hs) fun s2 h2=>T.bind (I3 hlen' hM h2.1) fun s3 h3=>T.bind (Vb hlen' hM om h3.1) fun t ht4=>T.bind (I3 hlen' hM ht4.1) fun s5 h5=>T.bind (hps.expr s5 h5.1 (fu _ h5.1)) fun b hb=>T.bind (I3 hlen' hM hb.1) fun s6 h6=>?_
     have b2:=h2.2.1;have b3:=h3.2.1;have b4:=ht4.2.1;have b5:=h5.2.1;have b6:=hb.2.1;have b7:=h6.2.1
     refine .some (a:=_) ⟨h6.1,by simp only;omega,fun h=>?_⟩
     have p1:=h6.2.2 h
     have p2:=hb.2.2 p1.1
     have p3:=h5.2.2 p2.1
     have p4:=ht4.2.2 p3.1
     have p5:=h3.2.2 p4.1
     have p6:=h2.2.2 p5.1
     have p7:=hw1 (hw p6.1)
     have sz:=p2.2.2
     have e1:=h6.1.2.2
     have e2:=hs.2.1
     have e3:=hl p6.1
     have e4:=hs.2.2
     have e5:=h5.1.2.1
     exact ⟨p7.1,by simp only;omega,⟨p2.2.1,by simp only;omega,by simp only;omega,p4.2.2,ht p6.1⟩⟩
    refine T.cond (fun hsw=>?_) fun _=>fin
    have hsw:=CH hsw
    refine T.bind (OD hM (r:=s) hs) fun b _=>?_
    cases b
    ·have j5: ∀s':AC,Rd ms s'→s.at_≤s'.at_→T (ED N l (Bh N x k) s'.marks s'.at_ s'.why s'.where_ s'.l.text s'.l.funcs s'.l.arity s'.l.nest s'.nest) fun x=>Rd ms x.2∧r.at_≤x.2.at_∧(x.2.why=0→r.why=0∧r.at_<x.2.at_∧WFn x.1):=by
      intro s' hs' hle
      unfold ED
      have hl':=hl hsw
      have hs2:=hs.2.2
      refine T.bind (QM hlen' hM (r:=s') hs') fun y hy=>T.bind (Vb hlen' hM om hy.1) fun t ht'=>T.bind (Gy om (by simp;omega)) fun _ _=>?_
      have y1:=hy.2.1;have t1:=ht'.2.1
      refine ih t.2 (l++[_]) ht'.1 om (fun _=>hw hsw) ?_ (fun h=>?_) (fun h=>?_) fun h z hz=>?_
      ·have:=hk hsw;omega
      ·have p:=ht'.2.2 h;have q:=hy.2.2 p.1;have:=hk hsw;omega
      ·have p:=ht'.2.2 h;rw [List.length_append,List.length_singleton];omega
      ·rcases List.mem_append.1 hz with hz|hz
       ·exact ht hsw z hz
       ·simp at hz;subst hz;exact (ht'.2.2 h).2.2
     have j6: ∀(s':AC) (c:Bool),Rd ms s'→s.at_≤s'.at_→T (Df N l (Bh N x k) s'.marks s'.at_ s'.why s'.where_ s'.l.text s'.l.funcs s'.l.arity s'.l.nest s'.nest c) fun x=>Rd ms x.2∧r.at_≤x.2.at_∧(x.2.why=0→r.why=0∧r.at_<x.2.at_∧WFn x.1):=by
      intro s' c hs' hle
      unfold Df
      exact T.cond (fun _=>T.bind (N7 (r:=s') hs' (by decide)) fun s2 h2=>j5 s2 h2.1 (by rw [h2.2.1];exact hle)) fun _=>j5 s' hs' hle
     have j4: ∀(s':AC),Rd ms s'→s.at_≤s'.at_→T (EE N l (Bh N x k) s'.marks s'.at_ s'.why s'.where_ s'.l.text s'.l.funcs s'.l.arity s'.l.nest s'.nest) fun x=>Rd ms x.2∧r.at_≤x.2.at_∧(x.2.why=0→r.why=0∧r.at_<x.2.at_∧WFn x.1):=by
      intro s' hs' hle
      unfold EE
      exact T.cond (fun _=>T.bind (LW (r:=s') hs') fun m _=>T.cond (fun _=>j6 s' _ hs' hle) fun _=>j6 s' _ hs' hle) fun _=>j6 s' _ hs' hle
     unfold Dg
     exact T.cond (fun _=>T.cond (fun _=>T.bind (I3 hlen' hM (r:=s) hs) fun s' h'=>j4 s' h'.1 h'.2.1) fun _=>j4 s hs om) fun h=>by cases h
    ·exact fin
  refine key N s1 [] h1.1 om id om (fun _=>?_) (fun _=>?_) fun _ x h=>by cases h
  ·have:=h1.1.2.1;omega
  ·have:=h1.1.2.1;simp;omega
 have j7: ∀c,T (EG N r c) fun x=>Rd ms x.2∧r.at_≤x.2.at_∧(x.2.why=0→r.why=0∧r.at_<x.2.at_∧WFn x.1):=by
  intro c
  unfold EG
  exact T.cond (fun _=>T.bind (N7 hr (by decide)) fun s h=>j1 s h.1 (by rw [h.2.1];omega) fun h'=>absurd h' h.2.2) fun _=>j1 r hr om id
 unfold Cv
 exact T.bind (LW hr) fun m _=>T.cond (fun _=>j7 _) fun _=>j7 _
theorem XC{r:AC}(hr:Rd ms r):T (B5 N r) fun x=>x.2.why=0→WP x.1:=by
 have hlen':ms.length≤1000000000:=om
 have key: ∀(k:Nat) (s:AC) (l:List AO),Rd ms s→1≤k→(s.why=0→(ms.length:Int) - s.at_<k)→(s.why=0→l.length≤s.at_)→(s.why=0→∀f∈l,WFn f)→
   T (Ba N k s.marks s.at_ s.why s.where_ s.l.text s.l.funcs s.l.arity s.l.nest s.nest l) fun x=>x.2.why=0→WP x.1:=by
  intro k
  induction k with
  |zero=>intro s l _ _;omega
  |succ k ih=>
   intro s l hs _ hk hl hf
   show T (CJ N (Ba N k) s.marks s.at_ s.why s.where_ s.l.text s.l.funcs s.l.arity s.l.nest s.nest l) _
   unfold CJ
   have h2:=hs.2.2
   have fin:T (CB N s.marks s.at_ s.why s.where_ s.l.text s.l.funcs s.l.arity s.l.nest s.nest l (Ba N k) false) fun x=>x.2.why=0→WP x.1:=by
    refine .some (a:=_) fun h=>⟨hf h,?_⟩
    have:=hl h;simp only;omega
   refine T.cond (fun hw=>?_) fun _=>fin
   have hw:=CH hw
   have go:T (CB N s.marks s.at_ s.why s.where_ s.l.text s.l.funcs s.l.arity s.l.nest s.nest l (Ba N k) true) fun x=>x.2.why=0→WP x.1:=by
    unfold CB
    refine T.cond (fun _=>?_) fun h=>by cases h
    have hl':=hl hw
    have hk':=hk hw
    refine T.bind (ABB hlen hM hN (r:=s) hs) fun x hx=>T.bind (Gy om (by simp;omega)) fun _ _=>ih x.2 (l++[x.1]) hx.1 om (fun h=>?_) (fun h=>?_) fun h f hf'=>?_
    ·have:=(hx.2.2 h).2.1;omega
    ·have:=(hx.2.2 h).2.1;rw [List.length_append,List.length_singleton];omega
    ·rcases List.mem_append.1 hf' with hf'|hf'
     ·exact hf hw f hf'
     ·simp at hf';subst hf';exact (hx.2.2 h).2.2
   refine T.cond (fun _=>go) fun _=>T.bind (LW (r:=s) hs) fun m _=>?_
   generalize (m.kind != 4)=b
   cases b
   ·exact fin
   ·exact go
 unfold B5
 refine key N r [] hr om (fun _=>by have:=hr.2.1;omega) (fun _=>by have:=hr.2.1;simp;omega) fun _ f h=>by cases h
omit hM hN hlen
theorem X7{N:Nat}(hN:1000000≤N)(t:List UInt8):T (Fk N t ⟨32768,32768,32768,32768⟩) fun x=>x.2.why=0→WP x.1:=by
 unfold Fk
 refine T.cond (fun _=> .some fun h=>by cases h) fun h=>?_
 have h:=D5 h
 simp at h
 refine T.bind (Yp om om) fun x hx=>T.cond (fun _=> .some fun h=>by cases h) fun h2=>?_
 have h2:=D5 h2
 have hx:=hx om
 have hr:Rd x.1 (AC.mk x.1 0 0 0 (Ai.mk (if (32768:Int)< (if (32768:Int)<0 then 0 else 32768) then 32768 else (if (32768:Int)<0 then 0 else 32768)) 32768 32768 32768) 0):=by
  refine ⟨rfl,by simp,?_⟩
  obtain ⟨⟨l,e,he,_⟩,_⟩:=hx
  rw [he];simp
 refine T.bind (XC om hx.1 hN hr) fun y hy=>T.cond (fun h=> .some fun h'=>absurd h' (Lf h)) fun h=> .some fun _=>hy (J1 h)
end
end Fth
namespace Fth
open Go Ieee
def Wd(d:Datum)(n:Int):Prop:=∃(s:Bool) (k:Nat),d= .number s (n.natAbs*2^k) (-(k:Int))∧(n≠0→s=decide (n<0))
def Wp(d:Datum)(n:Int):Prop:=∃k:Nat,d= .number (decide (n<0)) (n.natAbs*2^k) (-(k:Int))
theorem Wp.wd{d:Datum}{n:Int}(h:Wp d n):Wd d n:=let ⟨k,h⟩:=h;⟨_,k,h,fun _=>rfl⟩
theorem Wd.wp{d:Datum}{n:Int}(h:Wd d n)(h0:n≠0):Wp d n:=by obtain ⟨s,k,h,hs⟩:=h;exact ⟨k,by rw [h,hs h0]⟩
def fw(s:Bool)(m:Nat):Nat:=double.word s ((m.log2+1022)*2^52+m*2^(52 - m.log2))
theorem LX{m:Nat}(h0:0<m)(h:m<2^53):m.log2≤52:=by
 have h1:=Nat.log2_self_le (n:=m) om
 have h2:2^m.log2<2^53:=Nat.lt_of_le_of_lt h1 h
 have:=(Nat.pow_lt_pow_iff_right (by decide:1<2)).1 h2
 omega
theorem Mf{m:Nat}(h0:0<m)(h:m<2^53):2^52≤m*2^(52 - m.log2)∧m*2^(52 - m.log2)<2^53:=by
 have hl:=LX h0 h
 have h1:=Nat.log2_self_le (n:=m) om
 have h2:=Nat.lt_log2_self (n:=m)
 have e1:2^m.log2*2^(52 - m.log2)=2^52:=by rw [←Nat.pow_add];congr 1;omega
 have e2:2^(m.log2+1)*2^(52 - m.log2)=2^53:=by rw [←Nat.pow_add];congr 1;omega
 constructor
 ·rw [←e1];exact Nat.mul_le_mul_right _ h1
 ·rw [←e2];exact Nat.mul_lt_mul_of_pos_right h2 (Nat.pow_pos (by decide))
theorem M2{m k:Nat}(h0:0<m):(m*2^k).log2=m.log2+k:=by
 have h1:=Nat.log2_self_le (n:=m) om
 have h2:=Nat.lt_log2_self (n:=m)
 rw [Nat.log2_eq_iff (Nat.ne_of_gt (Nat.mul_pos h0 (Nat.pow_pos (by decide))))]
 rw [Nat.pow_add,show m.log2+k+1=(m.log2+1)+k by omega,Nat.pow_add]
 exact ⟨Nat.mul_le_mul_right _ h1,Nat.mul_lt_mul_of_pos_right h2 (Nat.pow_pos (by decide))⟩
theorem WS{s:Bool}{q d:Nat}(h:d≤(q*2^d).log2+2):Toward.even.cut s (q*2^d) d=q:=by
 simp only [Toward.cut,Nat.min_eq_left h,Nat.one_shiftLeft]
 have hp:0<2^d:=Nat.pow_pos (by decide)
 have e1:q*2^d / 2^d=q:=Nat.mul_div_cancel _ hp
 have e2:q*2^d % 2^d=0:=Nat.mul_mod_left _ _
 rw [e1,e2]
 simp
theorem Um{s:Bool}{m k:Nat}(h0:0<m)(h:m<2^53):double.nearest s (m*2^k) (-(k:Int))=fw s m:=by
 have hl:=LX h0 h
 have hpos: ¬(m*2^k=0):=Nat.ne_of_gt (Nat.mul_pos h0 (Nat.pow_pos (by decide)))
 have hlast:max (-(k:Int)+((m*2^k).log2:Nat) - (double.fractionBits:Nat)) double.leastPlace=(m.log2:Int) - 52:=by
  rw [M2 h0]
  simp only [double,Format.leastPlace]
  omega
 have hkept:Toward.even.cut s ((m*2^k) <<< (-(k:Int) - ((m.log2:Int) - 52)).toNat) (((m.log2:Int) - 52) - -(k:Int)).toNat=m*2^(52 - m.log2):=by
  rw [Nat.shiftLeft_eq]
  rcases Nat.le_total k (52 - m.log2) with hk|hk
  ·have e1:(-(k:Int) - ((m.log2:Int) - 52)).toNat=52 - m.log2 - k:=om
   have e2:(((m.log2:Int) - 52) - -(k:Int)).toNat=0:=om
   rw [e1,e2,Nat.mul_assoc,←Nat.pow_add,show k+(52 - m.log2 - k)=52 - m.log2 by omega]
   have:=WS (s:=s) (q:=m*2^(52 - m.log2)) (d:=0) om
   simpa using this
  ·have e1:(-(k:Int) - ((m.log2:Int) - 52)).toNat=0:=om
   obtain ⟨d,hd⟩: ∃d,k=(52 - m.log2)+d:=⟨k - (52 - m.log2),om⟩
   have e2:(((m.log2:Int) - 52) - -(k:Int)).toNat=d:=om
   rw [e1,e2,Nat.pow_zero,Nat.mul_one,hd,Nat.pow_add,←Nat.mul_assoc]
   refine WS ?_
   rw [Nat.mul_assoc,←Nat.pow_add,M2 h0]
   omega
 have hb:=Mf h0 h
 simp only [Format.nearest,hpos,if_false,hlast,hkept,fw]
 congr 1
 have e3:((m.log2:Int) - 52 - double.leastPlace).toNat=m.log2+1022:=by simp only [double,Format.leastPlace];omega
 rw [e3]
 have e4:double.binade=2^52:=rfl
 have e5:double.infRung=2047*2^52:=by decide
 rw [e4,e5]
 omega
theorem Ta{s:Bool}{k:Int}:double.nearest s 0 k=double.word s 0:=by simp [Format.nearest]
theorem XU{s:Bool}{m:Nat}(h0:0<m)(h:m<2^53):double.read (fw s m)= .number s (m*2^(52 - m.log2)) (-((52 - m.log2:Nat):Int)):=by
 have hl:=LX h0 h
 have hb:=Mf h0 h
 have e0:double.signWeight=2^63:=by decide
 have e4:double.binade=2^52:=rfl
 have e5:double.infRung=2047*2^52:=by decide
 have e6:double.leastPlace= -1074:=by decide
 generalize hq:m*2^(52 - m.log2)=q at*
 generalize hL:m.log2=L at*
 have hw:fw s m=(if s then 2^63 else 0)+((L+1022)*2^52+q):=by
  simp only [fw,Format.word,hq,hL,e0];cases s<;>simp
 have hr:fw s m % 2^63=(L+1022)*2^52+q:=by rw [hw];cases s<;>simp<;>omega
 have hn:(fw s m / 2^63 % 2==1)=s:=by rw [hw];cases s<;>simp<;>omega
 simp only [Format.read,e0,hr,hn,e4,e5,e6]
 rw [if_neg om,if_pos om]
 congr 1
 ·omega
 ·omega
theorem XD(n:Int):FloatKind.f64.nearest n=double.nearest (decide (n<0)) n.natAbs 0:=rfl
theorem Kz{n:Int}(h0:n≠0)(h:n.natAbs<2^53):FloatKind.f64.nearest n=fw (decide (n<0)) n.natAbs:=by
 rw [XD]
 have:=Um (s:=decide (n<0)) (m:=n.natAbs) (k:=0) om h
 simpa using this
theorem PR:FloatKind.f64.nearest 0=0:=by decide
theorem Mg{n:Int}(h:n.natAbs<2^53):Wp (double.read (FloatKind.f64.nearest n)) n:=by
 rcases Decidable.em (n=0) with h0|h0
 ·subst h0;exact ⟨1074,by rw [PR,Int.natAbs_zero,Nat.zero_mul];decide⟩
 ·rw [Kz h0 h,XU om h];exact ⟨_,rfl⟩
theorem Tc{d:Datum}{n:Int}(h:n.natAbs<2^53)(hd:Wp d n):double.write d=FloatKind.f64.nearest n:=by
 obtain ⟨k,rfl⟩:=hd
 rcases Decidable.em (n=0) with h0|h0
 ·subst h0;simp only [Int.natAbs_zero,Nat.zero_mul,Format.write];rw [Ta];decide
 ·rw [Kz h0 h];exact Um om h
def Fz(x:Nat)(n:Int):Prop:=x=FloatKind.f64.nearest n∨(n=0∧x=9223372036854775808)
theorem Fz.of{n:Int}:Fz (FloatKind.f64.nearest n) n:= .inl rfl
theorem Fz.eq{x:Nat}{n:Int}(h:Fz x n)(h0:n≠0):x=FloatKind.f64.nearest n:=h.resolve_right fun h'=>h0 h'.1
theorem Fz.read{x:Nat}{n:Int}(hx:Fz x n)(h:n.natAbs<2^53):Wd (double.read x) n:=by
 rcases hx with rfl| ⟨rfl,rfl⟩
 ·exact (Mg h).wd
 ·exact ⟨true,1074,by rw [Int.natAbs_zero,Nat.zero_mul];decide,fun h=>absurd rfl h⟩
theorem Fz.write{d:Datum}{n:Int}(hd:Wd d n)(h:n.natAbs<2^53):Fz (double.write d) n:=by
 rcases Decidable.em (n=0) with h0|h0
 ·subst h0
  obtain ⟨s,k,rfl,_⟩:=hd
  simp only [Int.natAbs_zero,Nat.zero_mul,Format.write]
  rw [Ta]
  cases s
  ·exact .inl (by decide)
  ·exact .inr ⟨rfl,by decide⟩
 ·exact .inl (Tc h (hd.wp h0))
theorem Mi{s:Bool}{n:Int}{k:Nat}(hs:n≠0→s=decide (n<0))(up:Nat):signed s (n.natAbs*2^k) up=n*2^(k+up):=by
 rw [signed,Nat.shiftLeft_eq,Nat.mul_assoc,←Nat.pow_add]
 rcases Decidable.em (n=0) with h0|h0
 ·subst h0;simp
 ·rw [hs h0]
  rcases Int.lt_or_le n 0 with h|h
  ·simp only [h,decide_true,if_true]
   rw [Int.natCast_mul,Int.natCast_pow,show ((n.natAbs:Nat):Int)= -n by omega,Int.neg_mul,Int.neg_neg];rfl
  ·have: ¬n<0:=om
   simp only [this,decide_false,if_false,Bool.false_eq_true]
   rw [Int.natCast_mul,Int.natCast_pow,show ((n.natAbs:Nat):Int)=n by omega];rfl
theorem natAbs_pow(n:Int)(k:Nat):(n*2^k).natAbs=n.natAbs*2^k:=by
 rw [Int.natAbs_mul,Int.natAbs_pow];rfl
theorem XV{n:Int}{k:Nat}:n*2^k<0↔n<0:=by
 have hp:(0:Int)<2^k:=Int.pow_pos (by decide)
 constructor
 ·intro h
  rcases Int.lt_or_le n 0 with h'|h'
  ·exact h'
  ·have:=Int.mul_nonneg h' (Int.le_of_lt hp);omega
 ·intro h;exact Int.mul_neg_of_neg_of_pos h hp
theorem Td{n:Int}{k:Nat}:n*2^k=0↔n=0:=by
 have hp:(2:Int)^k≠0:=Int.ne_of_gt (Int.pow_pos (by decide))
 constructor
 ·intro h;rcases Int.mul_eq_zero.1 h with h|h
  ·exact h
  ·exact absurd h hp
 ·intro h;rw [h];simp
theorem XE{c d:Datum}{a b:Int}(hc:Wd c a)(hd:Wd d b): ∃e,c.sum d=some e∧Wd e (a+b)∧(Wp c a∨Wp d b→Wp e (a+b)):=by
 obtain ⟨s,k,rfl,hs⟩:=hc
 obtain ⟨t,j,rfl,ht⟩:=hd
 refine ⟨_,rfl,?_⟩
 have e1:min (-(k:Int)) (-(j:Int))= -((max k j:Nat):Int):=om
 rw [e1]
 have e2:((-(k:Int)) - -((max k j:Nat):Int)).toNat=max k j - k:=om
 have e3:((-(j:Int)) - -((max k j:Nat):Int)).toNat=max k j - j:=om
 rw [e2,e3,Mi hs,Mi ht,show k+(max k j - k)=max k j by omega,show j+(max k j - j)=max k j by omega,←Int.add_mul]
 generalize max k j=M
 refine ⟨⟨_,M,by rw [natAbs_pow],fun h=>?_⟩,fun h=>⟨M,?_⟩⟩
 ·rw [if_neg (by rw [Td];exact h)];simp [XV]
 ·rw [natAbs_pow]
  congr 1
  rcases Decidable.em (a+b=0) with h0|h0
  ·rw [if_pos (by rw [Td];exact h0),h0]
   simp only [Int.lt_irrefl,decide_false,Bool.and_eq_false_iff]
   rcases Decidable.em (a=0) with ha|ha
   ·have hb:b=0:=om
    rcases h with ⟨k',h⟩| ⟨j',h⟩
    ·injection h with h _ _;left;rw [h,ha];decide
    ·injection h with h _ _;right;rw [h,hb];decide
   ·rw [hs ha,ht om]
    simp only [decide_eq_false_iff_not];omega
  ·rw [if_neg (by rw [Td];exact h0)];simp [XV]
theorem ABC{d:Datum}{b:Int}(hd:Wd d b):Wd d.opposite (-b):=by
 obtain ⟨t,j,rfl,ht⟩:=hd
 refine ⟨!t,j,by simp [Datum.opposite],fun h=>?_⟩
 rw [ht om]
 rcases Int.lt_or_le b 0 with h'|h'
 ·simp [h'];omega
 ·have h1: ¬b<0:=om
  have h2: -b<0:=om
  simp [h1];omega
theorem Zz{c d:Datum}{a b:Int}(hc:Wd c a)(hd:Wd d b): ∃e,c.product d=some e∧Wd e (a*b):=by
 obtain ⟨s,k,rfl,hs⟩:=hc
 obtain ⟨t,j,rfl,ht⟩:=hd
 refine ⟨_,rfl,s^^t,k+j,?_,fun h=>?_⟩
 ·congr 1
  ·rw [Int.natAbs_mul,Nat.pow_add];simp only [Nat.mul_assoc,Nat.mul_left_comm]
  ·omega
 ·have ha:a≠0:=fun e=>h (by rw [e];simp)
  have hb:b≠0:=fun e=>h (by rw [e];simp)
  rw [hs ha,ht hb]
  rcases Int.lt_or_le a 0 with h1|h1<;>rcases Int.lt_or_le b 0 with h2|h2
  ·have:=Int.mul_pos_of_neg_of_neg h1 h2
   simp [h1,h2];omega
  ·have:=Int.mul_neg_of_neg_of_pos h1 (show 0<b by omega)
   have h3: ¬b<0:=om
   simp [h1,h3,this]
  ·have:=Int.mul_neg_of_pos_of_neg (show 0<a by omega) h2
   have h3: ¬a<0:=om
   simp [h2,h3,this]
  ·have:=Int.mul_pos (show 0<a by omega) (show 0<b by omega)
   have h3: ¬a<0:=om
   have h4: ¬b<0:=om
   simp [h3,h4];omega
theorem Yq{c d:Datum}{a b:Int}(hc:Wd c a)(hd:Wd d b):c.order d=some (compare a b):=by
 obtain ⟨s,k,rfl,hs⟩:=hc
 obtain ⟨t,j,rfl,ht⟩:=hd
 simp only [Datum.order]
 have e1:min (-(k:Int)) (-(j:Int))= -((max k j:Nat):Int):=om
 rw [e1]
 have e2:((-(k:Int)) - -((max k j:Nat):Int)).toNat=max k j - k:=om
 have e3:((-(j:Int)) - -((max k j:Nat):Int)).toNat=max k j - j:=om
 rw [e2,e3,Mi hs,Mi ht,show k+(max k j - k)=max k j by omega,show j+(max k j - j)=max k j by omega]
 generalize max k j=M
 have hp:(0:Int)<2^M:=Int.pow_pos (by decide)
 congr 1
 simp only [compare,compareOfLessAndEq]
 have hlt:a*2^M<b*2^M↔a<b:=Int.mul_lt_mul_right hp
 have:a*2^M=b*2^M↔a=b:=by
  constructor
  ·intro h;exact Int.eq_of_mul_eq_mul_right (Int.ne_of_gt hp) h
  ·rintro rfl;rfl
 simp only [hlt,this]
section
variable{x y:Nat}{a b:Int}
theorem Fz.add(hx:Fz x a)(hy:Fz y b)(ha:a.natAbs<2^53)(hb:b.natAbs<2^53)(h:(a+b).natAbs<2^53): ∃z,FloatKind.f64.format.add x y=some z∧Fz z (a+b):=by
 obtain ⟨e,he,hw,_⟩:=XE (hx.read ha) (hy.read hb)
 refine ⟨double.write e,?_,Fz.write hw h⟩
 show ((double.read x).sum (double.read y)).map double.write=_
 rw [he];rfl
theorem Fz.add0(hx:Fz x a)(ha:a.natAbs<2^53):FloatKind.f64.format.add x 0=some (FloatKind.f64.nearest a):=by
 obtain ⟨e,he,_,hw⟩:=XE (hx.read ha) (Mg (n:=0) (by decide)).wd
 have hw:=hw (.inr (Mg (n:=0) (by decide)))
 rw [Int.add_zero] at hw
 show ((double.read x).sum (double.read 0)).map double.write=_
 rw [PR] at he
 rw [he]
 exact congrArg some (Tc ha hw)
theorem Fz.sub(hx:Fz x a)(hy:Fz y b)(ha:a.natAbs<2^53)(hb:b.natAbs<2^53)(h:(a - b).natAbs<2^53): ∃z,FloatKind.f64.format.sub x y=some z∧Fz z (a - b):=by
 obtain ⟨e,he,hw,_⟩:=XE (hx.read ha) (ABC (hy.read hb))
 refine ⟨double.write e,?_,Fz.write (by rwa [Int.sub_eq_add_neg]) h⟩
 show ((double.read x).sum (double.read y).opposite).map double.write=_
 rw [he];rfl
theorem Fz.mul(hx:Fz x a)(hy:Fz y b)(ha:a.natAbs<2^53)(hb:b.natAbs<2^53)(h:(a*b).natAbs<2^53): ∃z,FloatKind.f64.format.mul x y=some z∧Fz z (a*b):=by
 obtain ⟨e,he,hw⟩:=Zz (hx.read ha) (hy.read hb)
 refine ⟨double.write e,?_,Fz.write hw h⟩
 show ((double.read x).product (double.read y)).map double.write=_
 rw [he];rfl
theorem Fz.order(hx:Fz x a)(hy:Fz y b)(ha:a.natAbs<2^53)(hb:b.natAbs<2^53):FloatKind.f64.format.order x y=some (compare a b):=
 Yq (hx.read ha) (hy.read hb)
theorem Te{a b:Int}:(compare a b= .lt)↔a<b:=by
 simp only [compare,compareOfLessAndEq];split<;>simp_all;split<;>simp_all
theorem Yr{a b:Int}:(compare a b= .eq)↔a=b:=by
 simp only [compare,compareOfLessAndEq];split
 ·simp;omega
 ·split<;>simp_all
theorem ABD{a b:Int}:(compare a b= .gt)↔b<a:=by
 simp only [compare,compareOfLessAndEq];split
 ·simp;omega
 ·split
  ·simp;omega
  ·simp;omega
theorem Fz.feq(hx:Fz x a)(hy:Fz y b)(ha:a.natAbs<2^53)(hb:b.natAbs<2^53):feq x y=decide (a=b):=by
 rw [Fth.feq,hx.order hy ha hb,Bool.eq_iff_iff];simp [Yr]
theorem Fz.fne(hx:Fz x a)(hy:Fz y b)(ha:a.natAbs<2^53)(hb:b.natAbs<2^53):fne x y= !decide (a=b):=by
 rw [Fth.fne,hx.order hy ha hb,Bool.eq_iff_iff];simp [Yr]
theorem Fz.flt(hx:Fz x a)(hy:Fz y b)(ha:a.natAbs<2^53)(hb:b.natAbs<2^53):flt_ x y=decide (a<b):=by
 rw [Fth.flt_,hx.order hy ha hb,Bool.eq_iff_iff];simp [Te]
theorem Fz.fle(hx:Fz x a)(hy:Fz y b)(ha:a.natAbs<2^53)(hb:b.natAbs<2^53):fle x y=decide (a≤b):=by
 rw [Fth.fle,hx.order hy ha hb,Bool.eq_iff_iff];simp [Te];omega
theorem Fz.fge(hx:Fz x a)(hy:Fz y b)(ha:a.natAbs<2^53)(hb:b.natAbs<2^53):fge x y=decide (b≤a):=by
 rw [Fth.fge,hx.order hy ha hb,Bool.eq_iff_iff];simp [ABD];omega
end
end Fth
namespace Fth
open Go Ieee
theorem Tf{s:Bool}{m k:Nat}:Toward.zero.cut s (m*2^k) k=m:=by
 rcases Nat.eq_zero_or_pos m with h|h
 ·subst h;simp [Toward.cut]
 ·have hl:=M2 (k:=k) h
  simp only [Toward.cut,Nat.one_shiftLeft,Nat.min_eq_left (show k≤(m*2^k).log2+2 by omega)]
  rw [Nat.mul_div_cancel _ (Nat.pow_pos (by decide))]
  simp
theorem WU{d:Datum}{n:Int}(h:Wd d n):Wd (d.integral .zero) n:=by
 obtain ⟨s,k,rfl,hs⟩:=h
 refine ⟨s,0,?_,hs⟩
 have e:(-(k:Int)).toNat=0:=om
 have e2:(- -(k:Int)).toNat=k:=om
 simp only [Datum.integral,e,e2,Nat.shiftLeft_zero,Tf]
 simp
theorem WV{d:Datum}{n:Int}(h:Wp d n):Wp (d.integral .zero) n:=by
 obtain ⟨k,rfl⟩:=h
 refine ⟨0,?_⟩
 have e:(-(k:Int)).toNat=0:=om
 have e2:(- -(k:Int)).toNat=k:=om
 simp only [Datum.integral,e,e2,Nat.shiftLeft_zero,Tf]
 simp
theorem Ys{d:Datum}{n:Int}(h:Wd d n):d.toInt .zero=some n:=by
 have h':=WU h
 obtain ⟨s,k,rfl,hs⟩:=h
 have e:(-(k:Int)).toNat=0:=om
 have e2:(- -(k:Int)).toNat=k:=om
 simp only [Datum.toInt,Datum.integral,e,e2,Nat.shiftLeft_zero,Tf]
 have:=Mi (k:=0) hs 0
 simpa using this
theorem Yt{n:Int}(h1: -16777216≤n)(h2:n≤16777216):n.natAbs<2^53:=om
theorem m24:(13938640846711685120:Nat)=FloatKind.f64.nearest (-16777216):=by decide
theorem p24:(4715268809856909312:Nat)=FloatKind.f64.nearest 16777216:=by decide
theorem z0:(0:Nat)=FloatKind.f64.nearest 0:=by decide
theorem fz0:Fz 0 0:= .inl z0
theorem Z0{n:Int}(h:n.natAbs<2^53):Ij (FloatKind.f64.nearest n)=some (FloatKind.f64.nearest n):=by
 have hr:=Mg h
 have hi:=WV hr
 have hw:=Tc h hi
 have:SO (FloatKind.f64.nearest n)=some (FloatKind.f64.nearest n):=by
  obtain ⟨k,hk⟩:=hr
  unfold SO
  have e:FloatKind.f64.decode (FloatKind.f64.nearest n)= .number (decide (n<0)) (n.natAbs*2^k) (-(k:Int)):=hk
  rw [e]
  rw [hk] at hw
  exact congrArg some hw
 unfold Ij
 rw [this];rfl
theorem XW{n:Int}(h:n.natAbs<2^53):G5 (FloatKind.f64.nearest n)=some (decide (-16777216≤n∧n≤16777216)):=by
 have hx:Fz (FloatKind.f64.nearest n) n:= .of
 unfold G5 Hr
 rw [m24,p24,hx.fge .of h (by decide),hx.fle .of h (by decide),Z0 h]
 simp only [Option.bind_some]
 rw [hx.feq .of h h,hx.fne fz0 h (by decide)]
 cases h1:decide (-16777216≤n)
 ·have:=D5 h1
  simp [this]
 ·cases h2:decide (n≤16777216)
  ·have:=D5 h2;simp [this]
  ·have h1:=CZ h1;have h2:=CZ h2
   simp only [decide_true,cond_true,h1,h2,and_self]
   cases h0:decide (n=0)
   ·rfl
   ·have h0:=CZ h0;subst h0;decide
theorem XX{a b:Int}(ha:a.natAbs<2^53)(hb:b.natAbs<2^53):B6 (FloatKind.f64.nearest a,FloatKind.f64.nearest b)=some (decide ((-16777216≤a∧a≤16777216)∧(-16777216≤b∧b≤16777216))):=by
 unfold B6 Kh
 simp only [XW ha,XW hb,Option.bind_some]
 cases h:decide (-16777216≤a∧a≤16777216)
 ·have:=D5 h;simp [this]
 ·have:=CZ h;simp [this]
def rn(n:Ad):Nat×Nat:=(FloatKind.f64.nearest n.re,FloatKind.f64.nearest n.im)
def HZ(n:Ad):Prop:=(-16777216≤n.re∧n.re≤16777216)∧(-16777216≤n.im∧n.im≤16777216)
instance (n:Ad):Decidable (HZ n):=inferInstanceAs (Decidable (_∧_))
theorem Q0(z:Nat×Nat):Gn z↔∃n,HZ n∧z=rn n:=by
 constructor
 ·rintro ⟨a,b,⟨h1,h2,h3⟩,h4,h5,h6⟩
  exact ⟨⟨a,b⟩,⟨⟨h2,h3⟩,h5,h6⟩,by rw [rn,←h1,←h4]⟩
 ·rintro ⟨n,h,rfl⟩
  exact ⟨n.re,n.im,⟨rfl,h.1.1,h.1.2⟩,rfl,h.2.1,h.2.2⟩
theorem Gn.of{n:Ad}(h:HZ n):Gn (rn n):=(Q0 _).2 ⟨n,h,rfl⟩
theorem HZ.re{n:Ad}(h:HZ n):n.re.natAbs<2^53:=Yt h.1.1 h.1.2
theorem HZ.im{n:Ad}(h:HZ n):n.im.natAbs<2^53:=Yt h.2.1 h.2.2
theorem KN{n:Ad}(h:HZ n):B6 (rn n)=some true:=by
 rw [rn,XX h.re h.im];congr 1;exact decide_eq_true h
theorem Yu{n:Int}(h1: -16777216≤n)(h2:n≤16777216):H3 (FloatKind.f64.nearest n)=some (n,true):=by
 have h:=Yt h1 h2
 have hx:Fz (FloatKind.f64.nearest n) n:= .of
 have e1:f2i .i64 (FloatKind.f64.nearest n)=some n:=by
  unfold f2i
  have:(FloatKind.f64.decode (FloatKind.f64.nearest n)).toInt .zero=some n:=Ys (hx.read h)
  rw [this]
  simp only [IntKind.min,IntKind.max,IntKind.signed,IntKind.bits]
  rw [if_pos]
  simp only [if_true];omega
 unfold H3 HT
 rw [m24,p24,hx.fge .of h (by decide),hx.fle .of h (by decide),hx.feq fz0 h (by decide),e1]
 simp only [h1,h2,decide_true,cond_true,Option.bind_some,Bool.not_true,cond_false]
 rw [hx.feq .of h h]
 cases h0:decide (n=0)
 ·simp
 ·have h0:=CZ h0;subst h0;decide
theorem Un{n:Ad}(h:HZ n):Ey (rn n)=some (n,true):=by
 unfold Ey
 simp only [rn,Yu h.1.1 h.1.2,Yu h.2.1 h.2.2,Option.bind_some]
 rfl
theorem Yv{z:Nat×Nat}(h:Gn z): ∃n,HZ n∧z=rn n∧Ey z=some (n,true):=by
 obtain ⟨n,hn,rfl⟩:=(Q0 z).1 h
 exact ⟨n,hn,rfl,Un hn⟩
def inn(n:Ad):Ad×Int:=if HZ n then (n,0) else (⟨0,0⟩,50)
theorem XY(n:Ad):He n=some (inn n):=by
 unfold He J3 inn
 cases h1:decide (n.re< -16777216)
 ·cases h2:decide (n.re>16777216)
  ·cases h3:decide (n.im< -16777216)
   ·cases h4:decide (n.im>16777216)
    ·have:=D5 h1;have:=D5 h2;have:=D5 h3;have:=D5 h4
     rw [if_pos (show HZ n from ⟨⟨om,om⟩,om,om⟩)];rfl
    ·have:=CZ h4;rw [if_neg (show¬HZ n by unfold HZ;omega)];rfl
   ·have:=CZ h3;rw [if_neg (show¬HZ n by unfold HZ;omega)];rfl
  ·have:=CZ h2;rw [if_neg (show¬HZ n by unfold HZ;omega)];rfl
 ·have:=CZ h1;rw [if_neg (show¬HZ n by unfold HZ;omega)];rfl
theorem PB{x y:Nat}{a b:Int}(hx:Fz x a)(hy:Fz y b)(ha:a.natAbs<2^53)(hb:b.natAbs<2^53):FE (x,y)=some (rn (inn ⟨a,b⟩).1,(inn ⟨a,b⟩).2):=by
 unfold FE
 simp only [hx.add0 ha,hy.add0 hb,Option.bind_some,XX ha hb]
 unfold inn
 cases h:decide ((-16777216≤a∧a≤16777216)∧(-16777216≤b∧b≤16777216))
 ·have h:=D5 h
  rw [if_neg (show¬HZ ⟨a,b⟩ from h)]
  simp only [Bool.not_false,cond_true]
  congr 1
 ·have h:=CZ h
  rw [if_pos (show HZ ⟨a,b⟩ from h)]
  rfl
theorem Fz.re{a:Ad}(_h:HZ a):Fz (rn a).1 a.re:= .inl rfl
theorem Fz.im{a:Ad}(_h:HZ a):Fz (rn a).2 a.im:= .inl rfl
section
variable{a b:Ad}(ha:HZ a)(hb:HZ b)
include ha hb
theorem ABE:Js (rn a) (rn b)=some (rn (inn ⟨a.re+b.re,a.im+b.im⟩).1,(inn ⟨a.re+b.re,a.im+b.im⟩).2):=by
 obtain ⟨⟨h1,h2⟩,h3,h4⟩:=ha
 obtain ⟨⟨h5,h6⟩,h7,h8⟩:=hb
 have ha:HZ a:=⟨⟨h1,h2⟩,h3,h4⟩
 have hb:HZ b:=⟨⟨h5,h6⟩,h7,h8⟩
 obtain ⟨z,hz,hz'⟩:=(Fz.re ha).add (Fz.re hb) ha.re hb.re om
 obtain ⟨y,hy,hy'⟩:=(Fz.im ha).add (Fz.im hb) ha.im hb.im om
 unfold Js Ln
 simp only [KN ha,KN hb,Option.bind_some,Bool.not_true,cond_false,cadd,hz,hy,PB hz' hy' om om]
theorem ABF:Jt (rn a) (rn b)=some (rn (inn ⟨a.re - b.re,a.im - b.im⟩).1,(inn ⟨a.re - b.re,a.im - b.im⟩).2):=by
 obtain ⟨⟨h1,h2⟩,h3,h4⟩:=ha
 obtain ⟨⟨h5,h6⟩,h7,h8⟩:=hb
 have ha:HZ a:=⟨⟨h1,h2⟩,h3,h4⟩
 have hb:HZ b:=⟨⟨h5,h6⟩,h7,h8⟩
 obtain ⟨z,hz,hz'⟩:=(Fz.re ha).sub (Fz.re hb) ha.re hb.re om
 obtain ⟨y,hy,hy'⟩:=(Fz.im ha).sub (Fz.im hb) ha.im hb.im om
 unfold Jt Lo
 simp only [KN ha,KN hb,Option.bind_some,Bool.not_true,cond_false,csub,hz,hy,PB hz' hy' om om]
end
theorem L6{x y:Int}{A B:Nat}(hx:x.natAbs≤A)(hy:y.natAbs≤B):(x*y).natAbs≤A*B:=by
 rw [Int.natAbs_mul];exact Nat.mul_le_mul hx hy
theorem HZ.reA{n:Ad}(h:HZ n):n.re.natAbs≤16777216:=by have:=h.1;omega
theorem HZ.imA{n:Ad}(h:HZ n):n.im.natAbs≤16777216:=by have:=h.2;omega
theorem Vc{x1 x2 y1 y2:Nat}{a1 a2 b1 b2:Int}(h1:Fz x1 a1)(h2:Fz x2 a2)(h3:Fz y1 b1)(h4:Fz y2 b2)(l1:a1.natAbs≤16777216)(l2:a2.natAbs≤16777216)(l3:b1.natAbs≤16777216)(l4:b2.natAbs≤16777216):
  ∃z1 z2,cmul (x1,x2) (y1,y2)=some (z1,z2)∧Fz z1 (a1*b1 - a2*b2)∧Fz z2 (a1*b2+a2*b1)∧(a1*b1 - a2*b2).natAbs≤562949953421312∧(a1*b2+a2*b1).natAbs≤562949953421312:=by
 have m1:=L6 l1 l3
 have m2:=L6 l2 l4
 have m3:=L6 l1 l4
 have m4:=L6 l2 l3
 obtain ⟨p,hp,hp'⟩:=h1.mul h3 om om om
 obtain ⟨q,hq,hq'⟩:=h2.mul h4 om om om
 obtain ⟨r,hr,hr'⟩:=hp'.sub hq' om om om
 obtain ⟨s,hs,hs'⟩:=h1.mul h4 om om om
 obtain ⟨t,ht,ht'⟩:=h2.mul h3 om om om
 obtain ⟨u,hu,hu'⟩:=hs'.add ht' om om om
 refine ⟨r,u,?_,hr',hu',om,om⟩
 simp only [cmul,hp,hq,hr,hs,ht,hu,Option.bind_some]
section
variable{a b:Ad}(ha:HZ a)(hb:HZ b)
include ha hb
theorem ABG:Ju (rn a) (rn b)=some (rn (inn ⟨a.re*b.re - a.im*b.im,a.re*b.im+a.im*b.re⟩).1,(inn ⟨a.re*b.re - a.im*b.im,a.re*b.im+a.im*b.re⟩).2):=by
 obtain ⟨z1,z2,hz,h1,h2,l1,l2⟩:=Vc (Fz.re ha) (Fz.im ha) (Fz.re hb) (Fz.im hb) ha.reA ha.imA hb.reA hb.imA
 unfold Ju Lp
 have e:cmul (rn a) (rn b)=some (z1,z2):=hz
 simp only [KN ha,KN hb,Option.bind_some,Bool.not_true,cond_false,e,PB h1 h2 om om]
theorem Z1:In (rn a) (rn b)=some ((decide (a.re<b.re)||(decide (a.re=b.re)&&decide (a.im<b.im))),0):=by
 unfold In LJ
 simp only [KN ha,KN hb,Option.bind_some,Bool.not_true,cond_false]
 rw [(Fz.re ha).fne (Fz.re hb) ha.re hb.re,(Fz.re ha).flt (Fz.re hb) ha.re hb.re,(Fz.im ha).flt (Fz.im hb) ha.im hb.im]
 cases h:decide (a.re=b.re)
 ·simp
 ·have h:=CZ h
  simp [h]
theorem Yw:ceq (rn a) (rn b)=(decide (a.re=b.re)&&decide (a.im=b.im)):=by
 rw [ceq,(Fz.re ha).feq (Fz.re hb) ha.re hb.re,(Fz.im ha).feq (Fz.im hb) ha.im hb.im]
end
theorem Vd{x:Nat}{a:Int}(h:Fz x a)(ha:a.natAbs<2^53):Fz (Op.negFloat .f64 x) (-a):=by
 have e: ∀y:Nat,Op.negFloat .f64 y=y ^^^ 9223372036854775808:=fun y=>rfl
 rw [e]
 rcases Decidable.em (a=0) with h0|h0
 ·subst h0
  rcases h with rfl| ⟨_,rfl⟩
  ·exact .inr ⟨rfl,by decide⟩
  ·exact .inl (by decide)
 ·have h':=h.eq h0
  subst h'
  left
  rw [Kz h0 ha,Kz (n:= -a) om om,Int.natAbs_neg]
  have hb:=Mf (m:=a.natAbs) om ha
  have hl:=LX (m:=a.natAbs) om ha
  simp only [fw,Format.word]
  have hs:double.signWeight=2^63:=by decide
  rw [hs]
  generalize a.natAbs.log2=L at*
  generalize a.natAbs*2^(52 - L)=q at*
  have hr:(L+1022)*2^52+q<2^63:=om
  obtain ⟨r,hrr⟩: ∃r,(L+1022)*2^52+q=r:=⟨_,rfl⟩
  simp only [hrr] at hr ⊢
  have x1:r ^^^ 9223372036854775808=2^63+r:=by
   have h1:=Nat.two_pow_add_eq_or_of_lt hr 1
   rw [Nat.mul_one] at h1
   rw [h1,show (9223372036854775808:Nat)=2^63 by decide]
   refine Nat.eq_of_testBit_eq fun i=>?_
   rw [Nat.testBit_xor,Nat.testBit_or,Nat.testBit_two_pow]
   by_cases hi:63=i
   ·subst hi;simp [Nat.testBit_lt_two_pow hr]
   ·simp [hi]
  have x2:(2^63+r) ^^^ 9223372036854775808=r:=by
   rw [←x1,Nat.xor_assoc,Nat.xor_self,Nat.xor_zero]
  rcases Int.lt_or_le a 0 with hn|hn
  ·have h2: ¬(-a<0):=om
   simp only [hn,h2,decide_true,decide_false,if_true,Bool.false_eq_true,if_false]
   exact x2
  ·have h1: ¬(a<0):=om
   have h2: -a<0:=om
   simp only [h1,h2,decide_true,decide_false,if_true,Bool.false_eq_true,if_false]
   exact x1
theorem Z2{a:Ad}(ha:HZ a):H8 (rn a)=some (rn ⟨a.re,-a.im⟩,0):=by
 unfold H8
 have hn:HZ ⟨a.re,-a.im⟩:=by obtain ⟨⟨h1,h2⟩,h3,h4⟩:=ha;exact ⟨⟨h1,h2⟩,by simp only;omega,by simp only;omega⟩
 have:=PB (Fz.re ha) (Vd (Fz.im ha) ha.im) ha.re (by have:=ha.im;omega)
 simp only [KN ha,Option.bind_some,Bool.not_true,cond_false,this,inn,if_pos hn]
end Fth
namespace Fth
open Go Ieee
theorem wu{x:Int}(h1:0≤x)(h2:x<18446744073709551616):IntKind.u64.wrap x=x:=by
 simp only [IntKind.wrap,IntKind.signed,IntKind.bits]
 simp
 omega
theorem PC{x:Nat}(h:x<2^64):(BitVec.ofInt 64 (x:Int)).toNat=x:=by
 rw [BitVec.toNat_ofInt];omega
theorem Z3{x y:Nat}(hx:x<2^64)(hy:y<2^64):E4 .u64 (x:Int) (y:Int)=((x&&& y:Nat):Int):=by
 have hb:(x&&& y)<2^64:=Nat.lt_of_le_of_lt Nat.and_le_left hx
 have e:(BitVec.ofInt IntKind.u64.bits (x:Int)&&& BitVec.ofInt IntKind.u64.bits (y:Int)).toNat=x&&& y:=by
  show (BitVec.ofInt 64 (x:Int)&&& BitVec.ofInt 64 (y:Int)).toNat=_
  rw [BitVec.toNat_and,PC hx,PC hy]
 rw [E4,e,wu om om]
theorem Yx{x y:Nat}(hx:x<2^64)(hy:y<2^64):L8 .u64 (x:Int) (y:Int)=((x|||y:Nat):Int):=by
 have hb:(x|||y)<2^64:=Nat.or_lt_two_pow hx hy
 have e:(BitVec.ofInt IntKind.u64.bits (x:Int)|||BitVec.ofInt IntKind.u64.bits (y:Int)).toNat=x|||y:=by
  show (BitVec.ofInt 64 (x:Int)|||BitVec.ofInt 64 (y:Int)).toNat=_
  rw [BitVec.toNat_or,PC hx,PC hy]
 rw [L8,e,wu om om]
theorem P0{x y:Nat}(hx:x<2^64)(hy:y<2^64):Cu .u64 (x:Int) (y:Int)=((x&&& (2^64 - 1 - y):Nat):Int):=by
 have hb:(x&&& (2^64 - 1 - y))<2^64:=Nat.lt_of_le_of_lt Nat.and_le_left hx
 have e:(BitVec.ofInt IntKind.u64.bits (x:Int)&&& ~~~ BitVec.ofInt IntKind.u64.bits (y:Int)).toNat=x&&& (2^64 - 1 - y):=by
  show (BitVec.ofInt 64 (x:Int)&&& ~~~ BitVec.ofInt 64 (y:Int)).toNat=_
  rw [BitVec.toNat_and,BitVec.toNat_not,PC hx,PC hy]
 rw [Cu,e,wu om om]
theorem Z4{x n:Nat}(h:x<2^n):x&&& 2^n=0:=by
 refine Nat.eq_of_testBit_eq fun i=>?_
 rw [Nat.testBit_and,Nat.testBit_two_pow,Nat.zero_testBit]
 by_cases hi:n=i
 ·subst hi;simp [Nat.testBit_lt_two_pow h]
 ·simp [hi]
theorem XZ{x:Nat}(h:x<2^63):IG x=some x:=by
 unfold IG
 have:=P0 (x:=x) (y:=9223372036854775808) om om
 rw [show ((9223372036854775808:Nat):Int)=9223372036854775808 from rfl] at this
 rw [this]
 have e:(2^64 - 1 - 9223372036854775808:Nat)=2^63 - 1:=by decide
 rw [e,Nat.and_two_pow_sub_one_eq_mod,Nat.mod_eq_of_lt h];rfl
theorem Z5{r:Nat}(h:r<2^63):IG (2^63+r)=some r:=by
 unfold IG
 have:=P0 (x:=2^63+r) (y:=9223372036854775808) om om
 rw [show ((9223372036854775808:Nat):Int)=9223372036854775808 from rfl] at this
 rw [this]
 have e:(2^64 - 1 - 9223372036854775808:Nat)=2^63 - 1:=by decide
 rw [e,Nat.and_two_pow_sub_one_eq_mod,Nat.add_mod_left,Nat.mod_eq_of_lt h];rfl
theorem Xa{m:Nat}(h0:0<m)(h:m<2^53):fw false m<2^63∧fw false m / 2^52=m.log2+1023∧fw false m % 2^52=m*2^(52 - m.log2) - 2^52∧fw true m=2^63+fw false m:=by
 have hb:=Mf h0 h
 have hl:=LX h0 h
 have hs:double.signWeight=2^63:=by decide
 simp only [fw,Format.word,hs,if_true,Bool.false_eq_true,if_false]
 generalize m*2^(52 - m.log2)=q at*
 refine ⟨?_,?_,?_,trivial⟩<;>omega
theorem Yy{x:Nat}{a:Int}(h:Fz x a)(ha:a.natAbs<2^53):IG x=some (FloatKind.f64.nearest a.natAbs):=by
 rcases Decidable.em (a=0) with h0|h0
 ·subst h0
  rcases h with rfl| ⟨_,rfl⟩<;>decide
 ·rw [h.eq h0,Kz h0 ha,Kz (n:=(a.natAbs:Int)) om om]
  have hb:=Xa (m:=a.natAbs) om ha
  have e:((a.natAbs:Int)).natAbs=a.natAbs:=rfl
  have e2:decide ((a.natAbs:Int)<0)=false:=by simp
  rw [e,e2]
  cases h1:decide (a<0)
  ·exact XZ hb.1
  ·rw [hb.2.2.2];exact Z5 hb.1
theorem X8{x:Nat}{a:Int}(h:Fz x a)(ha:a.natAbs<2^53):fgt x 9218868437227405311=false:=by
 obtain ⟨s,k,hk,hs⟩:=h.read ha
 have hm:double.read 9218868437227405311= .number false 9007199254740991 971:=by decide
 have:FloatKind.f64.format.order x 9218868437227405311=some (compare (signed s (a.natAbs*2^k) 0) (signed false 9007199254740991 (971+k))):=by
  show (double.read x).order (double.read 9218868437227405311)=_
  rw [hk,hm]
  simp only [Datum.order]
  have e1:min (-(k:Int)) 971= -(k:Int):=om
  rw [e1]
  have e2:(-(k:Int) - -(k:Int)).toNat=0:=om
  have e3:((971:Int) - -(k:Int)).toNat=971+k:=om
  rw [e2,e3]
 rw [fgt,this,Mi hs]
 have h1:signed false 9007199254740991 (971+k)=9007199254740991*(2^971*2^k):=by
  simp only [signed,Bool.false_eq_true,if_false,Nat.shiftLeft_eq]
  rw [Int.natCast_mul,Int.natCast_pow,Int.pow_add];rfl
 rw [h1]
 have h2:a*2^(k+0)<9007199254740991*(2^971*2^k):=by
  rw [Nat.add_zero,←Int.mul_assoc]
  have hp:(0:Int)<2^k:=Int.pow_pos (by decide)
  refine Int.mul_lt_mul_of_pos_right ?_ hp
  have hp2:(4:Int)≤2^971:=by
   have:(2:Int)^2≤2^971:=by exact_mod_cast Nat.pow_le_pow_right (by decide:0<2) (by omega:2≤971)
   simpa using this
  generalize (2:Int)^971=q at*
  omega
 have h3:=Te.2 h2
 rw [h3];rfl
theorem XF{x:Nat}{a:Int}(h:Fz x a)(ha:a.natAbs<2^53):HO x 0=some false:=by
 unfold HO KR
 simp only [Yy h ha,Option.bind_some]
 rw [X8 (a:=(a.natAbs:Int)) .of om];rfl
theorem Ve{x:Nat}{a:Int}(h:Fz x a)(ha:a.natAbs<2^53):Gi x=some false:=by
 unfold Gi
 rw [h.fne h ha ha];simp
theorem Yz{m:Nat}(h0:0<m)(h:m<2^53):flt_ (fw false m) 4503599627370496=false:=by
 have hl:=LX h0 h
 have hb:=Mf h0 h
 have hm:double.read 4503599627370496= .number false 4503599627370496 (-1074):=by decide
 have:FloatKind.f64.format.order (fw false m) 4503599627370496=some (compare (signed false (m*2^(52 - m.log2)) (1074 - (52 - m.log2))) (signed false 4503599627370496 0)):=by
  show (double.read (fw false m)).order (double.read 4503599627370496)=_
  rw [XU h0 h,hm]
  simp only [Datum.order]
  have e1:min (-((52 - m.log2:Nat):Int)) (-1074)= -1074:=om
  rw [e1]
  have e2:(-((52 - m.log2:Nat):Int) - -1074).toNat=1074 - (52 - m.log2):=om
  have e3:((-1074:Int) - -1074).toNat=0:=om
  rw [e2,e3]
 rw [flt_,this]
 simp only [signed,Bool.false_eq_true,if_false,Nat.shiftLeft_eq,Nat.pow_zero,Nat.mul_one]
 generalize m*2^(52 - m.log2)=q at*
 have hp:1≤2^(1074 - (52 - m.log2)):=Nat.pow_pos (by decide)
 generalize 2^(1074 - (52 - m.log2))=p at*
 have:q*1≤q*p:=Nat.mul_le_mul_left _ hp
 cases hc:compare ((q*p:Nat):Int) ((4503599627370496:Nat):Int)
 ·have:=Te.1 hc;omega
 ·rfl
 ·rfl
theorem QN{m:Nat}(h0:0<m)(h:m<2^53):Eg (fw false m)=some (fw false m,0):=by
 unfold Eg
 rw [XZ (Xa h0 h).1,Option.bind_some,Yz h0 h,cond_false]
theorem NH{m:Nat}(h0:0<m)(h:m<2^53):FloatKind.f64.nearest (m:Int)=fw false m:=by
 have e:decide ((m:Int)<0)=false:=decide_eq_false om
 have:=Kz (n:=(m:Int)) om om
 rw [e] at this
 exact this
theorem QO{m:Nat}(h0:0<m)(h:m<2^53):Fz (fw false m) m:= .inl (NH h0 h).symm
theorem AAa{f e:Nat}(hf:f<2^52):f|||e*2^52=e*2^52+f:=by
 have h:=Nat.two_pow_add_eq_or_of_lt hf e
 rw [Nat.mul_comm e,h,Nat.or_comm]
theorem Xb{x:Nat}(h:x<2^63):Cu .u64 ((x:Nat):Int) 9218868437227405312=((x % 2^52:Nat):Int):=by
 have:=P0 (x:=x) (y:=9218868437227405312) om om
 rw [show ((9218868437227405312:Nat):Int)=9218868437227405312 from rfl] at this
 rw [this]
 have e:(2^64 - 1 - 9218868437227405312:Nat)=2^63||| (2^52 - 1):=by decide
 rw [e,Nat.and_or_distrib_left,Z4 h,Nat.zero_or,Nat.and_two_pow_sub_one_eq_mod]
theorem AAb(x:Nat):shr .u64 ((x:Nat):Int) 52=((x / 2^52:Nat):Int):=by
 have e:min (52:Int).toNat IntKind.u64.bits=52:=by decide
 rw [shr,e,Int.fdiv_eq_ediv_of_nonneg _ (by decide)];rfl
theorem ABs{x:Nat}(h:x<2^63):E4 .u64 (shr .u64 ((x:Nat):Int) 52) 2047=((x / 2^52:Nat):Int):=by
 rw [AAb]
 have:=Z3 (x:=x / 2^52) (y:=2047) om om
 rw [show ((2047:Nat):Int)=2047 from rfl] at this
 rw [this]
 have e:(2047:Nat)=2^11 - 1:=by decide
 rw [e,Nat.and_two_pow_sub_one_eq_mod,Nat.mod_eq_of_lt om]
theorem ABH{m:Nat}(h0:0<m)(h:m<2^53):feq (fw false m) 0=false:=by
 rw [(QO h0 h).feq fz0 om (by decide)];simp;omega
theorem WW{m:Nat}(h0:0<m)(h:m<2^53):H9 (fw false m)=some (1021*2^52+m*2^(52 - m.log2),(m.log2:Int)+1):=by
 have hl:=LX h0 h
 have hb:=Mf h0 h
 have hf:=Xa h0 h
 have hz:=QO h0 h
 unfold H9 JV LE
 rw [ABH h0 h,XF hz om,Ve hz om,QN h0 h]
 have nn52:nn 52=some ():=rfl
 simp only [cond_false,Option.bind_some,nn52,Xb hf.1,ABs hf.1,hf.2.1]
 have hr:=Yx (x:=fw false m % 2^52) (y:=4602678819172646912) om om
 rw [show ((4602678819172646912:Nat):Int)=4602678819172646912 from rfl] at hr
 rw [hr,show (4602678819172646912:Nat)=1022*2^52 by decide,AAa om,hf.2.2.1]
 generalize m*2^(52 - m.log2)=q at*
 refine congrArg some (Prod.ext ?_ ?_)
 ·simp only [Int.toNat_natCast];omega
 ·dsimp only
  rw [wr (x:=((m.log2+1023:Nat):Int)) om om,wr (x:=((m.log2+1023:Nat):Int) - 1023) om om,wr (x:=((m.log2+1023:Nat):Int) - 1023+1) om om,wr om om];omega
theorem Z6{x:Nat}(h:x<2^11):E4 .i64 (x:Int) 2047=(x:Int):=by
 have e:(BitVec.ofInt IntKind.i64.bits (x:Int)&&& BitVec.ofInt IntKind.i64.bits (2047:Int)).toNat=x:=by
  show (BitVec.ofInt 64 (x:Int)&&& BitVec.ofInt 64 ((2047:Nat):Int)).toNat=_
  rw [BitVec.toNat_and,PC om,PC om,show (2047:Nat)=2^11 - 1 by decide,Nat.and_two_pow_sub_one_eq_mod,Nat.mod_eq_of_lt h]
 rw [E4,e,wr om om]
theorem ABf{x:Nat}(h:x<2^11):shl .u64 (x:Int) 52=((x*2^52:Nat):Int):=by
 have e:min (52:Int).toNat IntKind.u64.bits=52:=by decide
 rw [shl,e,wu om om];omega
theorem XG{m k:Nat}(h0:0<m)(hb:2^52≤m*2^(52 - m.log2))(hl2:m.log2+k≤52):(m.log2+k+1023)*2^52+(m*2^(52 - m.log2) - 2^52)=fw false (m*2^k):=by
 have e7:m*2^k*2^(52 - (m.log2+k))=m*2^(52 - m.log2):=by
  rw [Nat.mul_assoc,←Nat.pow_add];congr 2;omega
 simp only [fw,Format.word,M2 h0,e7,Bool.false_eq_true,if_false]
 generalize m*2^(52 - m.log2)=q at*
 omega
theorem Y0{m k:Nat}(h0:0<m)(h:m*2^k<2^53):Im (fw false m) (k:Int)=some (fw false (m*2^k)):=by
 have hm:m<2^53:=Nat.lt_of_le_of_lt (Nat.le_mul_of_pos_right m (Nat.pow_pos (by decide))) h
 have h1:0<m*2^k:=Nat.mul_pos h0 (Nat.pow_pos (by decide))
 have hl:=LX h0 hm
 have hl2:=LX h1 h
 rw [M2 h0] at hl2
 have e3:IntKind.i64.wrap (IntKind.i64.wrap ((k:Int)+0)+IntKind.i64.wrap (((m.log2+1023:Nat):Int) - 1023))=(m.log2+k:Nat):=by
  rw [wr (x:=(k:Int)+0) om om,wr (x:=((m.log2+1023:Nat):Int) - 1023) om om,wr om om];omega
 have hL:m.log2+1023<2^11:=om
 have hL2:m.log2+k+1023<2^11:=om
 have e6a:0≤((m.log2+k+1023:Nat):Int):=om
 have e6b:((m.log2+k+1023:Nat):Int)<18446744073709551616:=om
 have e7:fw false m % 2^52<2^64:=Nat.lt_trans (Nat.mod_lt _ (Nat.pow_pos (by decide))) (by decide)
 have e8:(m.log2+k+1023)*2^52<2^64:=Nat.lt_of_lt_of_le (Nat.mul_lt_mul_of_pos_right hL2 (Nat.pow_pos (by decide))) (by decide)
 have d1:decide (((m.log2+k:Nat):Int)< -1075)=false:=by simp;omega
 have d2:decide (((m.log2+k:Nat):Int)>1023)=false:=by simp;omega
 have d3:decide (((m.log2+k:Nat):Int)< -1022)=false:=by simp;omega
 have e4:IntKind.i64.wrap (((m.log2+k:Nat):Int)+1023)=((m.log2+k+1023:Nat):Int):=by rw [wr om om];omega
 have hb:=Mf h0 hm
 have hf:=Xa h0 hm
 have hz:=QO h0 hm
 have nn52:nn 52=some ():=rfl
 unfold Im JW
 rw [ABH h0 hm,cond_false,XF hz om,Option.bind_some,cond_false,Ve hz om,Option.bind_some]
 unfold LH
 rw [cond_false,QN h0 hm,Option.bind_some,nn52,Option.bind_some]
 have e1:IntKind.i64.wrap (shr .u64 ((fw false m:Nat):Int) 52)=((fw false m / 2^52:Nat):Int):=by
  rw [AAb,hf.2.1,wr om om]
 have e2:E4 .i64 ((fw false m / 2^52:Nat):Int) 2047=((m.log2+1023:Nat):Int):=by rw [hf.2.1];exact Z6 hL
 dsimp only
 rw [e1,e2,e3]
 rw [d1,cond_false,d2,cond_false,d3,cond_false]
 unfold LG
 rw [nn52,Option.bind_some]
 dsimp only
 have e5:=ABf hL2
 rw [e4,wu e6a e6b,e5,Xb hf.1,Yx e7 e8,AAa (Nat.mod_lt _ (Nat.pow_pos (by decide))),hf.2.2.1,Int.toNat_natCast]
 have e6:=XG h0 hb.1 hl2
 rw [e6]
 have one:Fz 4607182418800017408 1:= .inl (by decide)
 obtain ⟨z,hz1,hz2⟩:=one.mul (QO h1 h) (by decide) om om
 rw [Int.one_mul] at hz2
 rw [hz1,hz2.eq om,NH h1 h];rfl
theorem Z7{p q:Nat}(hp:2^52≤p)(hp':p<2^53)(hq:2^52≤q)(hq':q<2^53):flt_ (1021*2^52+p) (1021*2^52+q)=decide (p<q):=by
 have rd: ∀p,2^52≤p→p<2^53→double.read (1021*2^52+p)= .number false p (-53):=by
  intro p h1 h2
  have e0:double.signWeight=2^63:=by decide
  have e4:double.binade=2^52:=rfl
  have e5:double.infRung=2047*2^52:=by decide
  have e6:double.leastPlace= -1074:=by decide
  have hr:(1021*2^52+p) % 2^63=1021*2^52+p:=om
  have hn:((1021*2^52+p) / 2^63 % 2==1)=false:=by simp;omega
  simp only [Format.read,e0,hr,hn,e4,e5,e6]
  rw [if_neg om,if_pos om]
  congr 1
  ·omega
  ·omega
 have:FloatKind.f64.format.order (1021*2^52+p) (1021*2^52+q)=some (compare (p:Int) (q:Int)):=by
  show (double.read _).order (double.read _)=_
  rw [rd p hp hp',rd q hq hq']
  simp [Datum.order,signed]
 rw [flt_,this,Bool.eq_iff_iff]
 simp [Te]
theorem Y1{n r j:Nat}{R:Nat→Option Nat}{B:Nat→Nat}(h0:0<n)(hj:n*2^j≤r)(hr:r<2^53){e1:Nat×Int}
  (ih: ∀w,Fz w ((r - n*2^j:Nat):Int)→∃z,R w=some (B z)∧Fz z (((r - n*2^j) % n:Nat):Int)) (hj53:j<53) (he:e1.2=(n.log2:Int)+1) (_hn:n.log2≤52):
  ∃z,Kk (fw false n) e1 (fw false r) R ((n.log2:Int)+1+j)=some (B z)∧Fz z ((r % n:Nat):Int):=by
 have hpj:0<n*2^j:=Nat.mul_pos h0 (Nat.pow_pos (by decide))
 have hnj:n*2^j<2^53:=Nat.lt_of_le_of_lt hj hr
 have hr0:0<r:=Nat.lt_of_lt_of_le hpj hj
 have e:IntKind.i64.wrap ((n.log2:Int)+1+j - e1.2)=(j:Int):=by rw [he,wr om om];omega
 have e2:((r:Int) - ((n*2^j:Nat):Int))=((r - n*2^j:Nat):Int):=om
 have k1:(r:Int).natAbs<2^53:=hr
 have k2:((n*2^j:Nat):Int).natAbs<2^53:=hnj
 have k3:((r:Int) - ((n*2^j:Nat):Int)).natAbs<2^53:=by rw [e2];exact Nat.lt_of_le_of_lt (Nat.sub_le _ _) hr
 have hm:(r - n*2^j) % n=r % n:=by
  conv=>rhs;rw [←Nat.sub_add_cancel hj]
  rw [Nat.add_mul_mod_self_left]
 unfold Kk
 rw [e,Y0 h0 hnj,Option.bind_some]
 obtain ⟨z,hz1,hz2⟩:=(QO hr0 hr).sub (QO hpj hnj) k1 k2 k3
 rw [hz1,Option.bind_some]
 rw [e2] at hz2
 obtain ⟨z',h1,h2⟩:=ih z hz2
 rw [hm] at h2
 exact ⟨z',h1,h2⟩
theorem XH{n r:Nat}(hn:n.log2≤52)(hr:r.log2≤52)(hle:n.log2≤r.log2)(hq:n*2^(52 - n.log2)≤r*2^(52 - r.log2)):n*2^(r.log2 - n.log2)≤r:=by
 have h1:n*2^(r.log2 - n.log2)*2^(52 - r.log2)=n*2^(52 - n.log2):=by
  rw [Nat.mul_assoc,←Nat.pow_add];congr 2;omega
 have h2:n*2^(r.log2 - n.log2)*2^(52 - r.log2)≤r*2^(52 - r.log2):=by rw [h1];exact hq
 exact Nat.le_of_mul_le_mul_right h2 (Nat.pow_pos (by decide))
theorem XI{n r:Nat}(hr0:0<r)(hlt:n.log2<r.log2):n*2^(r.log2 - n.log2 - 1)≤r:=by
 have h1:n*2^(r.log2 - n.log2 - 1)<2^(n.log2+1)*2^(r.log2 - n.log2 - 1):=Nat.mul_lt_mul_of_pos_right Nat.lt_log2_self (Nat.pow_pos (by decide))
 rw [←Nat.pow_add,show n.log2+1+(r.log2 - n.log2 - 1)=r.log2 by omega] at h1
 exact Nat.le_trans (Nat.le_of_lt h1) (Nat.log2_self_le om)
theorem X9{n r:Nat}(h0:0<n)(h:n≤r):n.log2≤r.log2:=by
 have h1:=Nat.log2_self_le (n:=n) om
 have h2:=Nat.lt_log2_self (n:=r)
 have h3:2^n.log2<2^(r.log2+1):=om
 have:=(Nat.pow_lt_pow_iff_right (by decide:1<2)).1 h3
 omega
theorem WZ{x n:Nat}(h0:0<n)(hlt:n<2^53): ∀(k w r:Nat),Fz w (r:Int)→r<2^53→r<k→
  ∃z,J4 x (fw false n) (1021*2^52+n*2^(52 - n.log2),(n.log2:Int)+1) k w=some (bif flt_ x 0 then Op.negFloat .f64 z else z)∧Fz z ((r % n:Nat):Int):=by
 intro k
 have bn:=Mf h0 hlt
 have ln:=LX h0 hlt
 have lnI:(n:Int).natAbs<2^53:=hlt
 obtain ⟨c,hc0⟩: ∃c:Nat×Int,c=(1021*2^52+n*2^(52 - n.log2),(n.log2:Int)+1):=⟨_,rfl⟩
 rw [←hc0]
 have c1:c.1=1021*2^52+n*2^(52 - n.log2):=by rw [hc0]
 have c2:c.2=(n.log2:Int)+1:=by rw [hc0]
 clear hc0
 induction k with
 |zero=>intro w r _ _ h;exact absurd h (Nat.not_lt_zero _)
 |succ k ih=>
  intro w r hw hr hk
  have lrI:(r:Int).natAbs<2^53:=hr
  show∃z,Lr x (fw false n) c (J4 x (fw false n) c k) w=some _∧_
  unfold Lr
  rw [hw.fge (QO h0 hlt) lrI lnI]
  cases hc:decide ((n:Int)≤(r:Int))
  ·have hc:=D5 hc
   refine ⟨w,?_,by rw [Nat.mod_eq_of_lt om];exact hw⟩
   rw [cond_false]
   cases flt_ x 0<;>rfl
  ·have hc:n≤r:=by have:=CZ hc;omega
   have hr0:0<r:=Nat.lt_of_lt_of_le h0 hc
   have hwr:w=fw false r:=by rw [hw.eq om,NH hr0 hr]
   subst hwr
   have br:=Mf hr0 hr
   have lr:=LX hr0 hr
   have hLe:=X9 h0 hc
   rw [cond_true,WW hr0 hr,Option.bind_some]
   dsimp only
   rw [c1,Z7 br.1 br.2 bn.1 bn.2]
   have step: ∀j:Nat,n*2^j≤r→j<53→∃z,Kk (fw false n) c (fw false r) (J4 x (fw false n) c k) ((n.log2:Int)+1+j)=some (bif flt_ x 0 then Op.negFloat .f64 z else z)∧Fz z ((r % n:Nat):Int):=by
    intro j hj hj53
    have hpj:0<n*2^j:=Nat.mul_pos h0 (Nat.pow_pos (by decide))
    exact Y1 h0 hj hr (fun w hw=>ih w _ hw (Nat.lt_of_le_of_lt (Nat.sub_le _ _) hr) om) hj53 c2 ln
   cases hq:decide (r*2^(52 - r.log2)<n*2^(52 - n.log2))
   ·have hq:=D5 hq
    obtain ⟨z,h1,h2⟩:=step _ (XH ln lr hLe (Nat.le_of_not_lt hq)) om
    refine ⟨z,?_,h2⟩
    have e:(r.log2:Int)+1=(n.log2:Int)+1+((r.log2 - n.log2:Nat):Int):=om
    rw [cond_false,e]
    exact h1
   ·have hq:=CZ hq
    have hLt:n.log2<r.log2:=by
     rcases Nat.lt_or_ge n.log2 r.log2 with h|h
     ·exact h
     ·have e:n.log2=r.log2:=Nat.le_antisymm hLe h
      rw [e] at hq
      exact absurd (Nat.lt_of_mul_lt_mul_right hq) (Nat.not_lt.2 hc)
    obtain ⟨z,h1,h2⟩:=step _ (XI hr0 hLt) om
    refine ⟨z,?_,h2⟩
    have e:IntKind.i64.wrap ((r.log2:Int)+1 - 1)=(n.log2:Int)+1+((r.log2 - n.log2 - 1:Nat):Int):=by rw [wr om om];omega
    rw [cond_true,e]
    exact h1
theorem Y5{N x y:Nat}{a n:Int}(hN:2^54≤N)(hx:Fz x a)(hy:Fz y n)(ha:a.natAbs<2^53)(hn0:0<n)(hn:n<2^53): ∃z,KF N x y=some z∧Fz z (a.tmod n):=by
 obtain ⟨n,rfl⟩: ∃m:Nat,n=m:=⟨n.toNat,om⟩
 have h0:0<n:=om
 have hlt:n<2^53:=om
 have lnI:(n:Int).natAbs<2^53:=hlt
 have h254: ∀q:Nat,q<2^53→q<N:=fun q h=>om
 clear hN hn hn0
 have ey:=NH h0 hlt
 have hyy:y=fw false n:=by rw [hy.eq om,ey]
 subst hyy
 have eabs:=Yy (QO h0 hlt) lnI
 rw [show ((n:Int).natAbs:Int)=(n:Int) from rfl,ey] at eabs
 have nz0:(0:Int).natAbs<2^53:=by decide
 unfold KF LI
 rw [ABH h0 hlt,cond_false,XF hx ha,Option.bind_some,cond_false,Ve hx ha,Option.bind_some,cond_false,Ve (QO h0 hlt) lnI,Option.bind_some]
 unfold Kl
 rw [cond_false,eabs,Option.bind_some,WW h0 hlt,Option.bind_some,hx.flt fz0 ha nz0]
 cases hs:decide (a<0)
 ·have hs':=D5 hs
  have ea:((a.toNat:Nat):Int)=a:=om
  have hxa:Fz x ((a.toNat:Nat):Int):=by rw [ea];exact hx
  have la:a.toNat<2^53:=om
  obtain ⟨z,h1,h2⟩:=WZ (x:=x) h0 hlt N x a.toNat hxa la (h254 _ la)
  rw [hx.flt fz0 ha nz0,hs] at h1
  refine ⟨z,?_,?_⟩
  ·rw [cond_false]
   unfold Lb
   rw [h1];rfl
  ·have e:((a.toNat % n:Nat):Int)=a.tmod n:=by rw [Int.tmod_eq_emod_of_nonneg om,Int.natCast_emod,ea]
   rw [e] at h2;exact h2
 ·have hs':=CZ hs
  have ea:((a.natAbs:Nat):Int)= -a:=om
  have hxa:Fz (Op.negFloat .f64 x) ((a.natAbs:Nat):Int):=by rw [ea];exact Vd hx ha
  obtain ⟨z,h1,h2⟩:=WZ (x:=x) h0 hlt N (Op.negFloat .f64 x) a.natAbs hxa ha (h254 _ ha)
  rw [hx.flt fz0 ha nz0,hs] at h1
  have hm:(((a.natAbs % n:Nat):Int)).natAbs<2^53:=Nat.lt_of_le_of_lt (Nat.mod_le _ _) ha
  refine ⟨Op.negFloat .f64 z,?_,?_⟩
  ·rw [cond_true]
   unfold Lb
   rw [h1];rfl
  ·have h3:=Vd h2 hm
   have e: -((a.natAbs % n:Nat):Int)=a.tmod n:=by
    rw [show a= -(a.natAbs:Int) by omega,Int.neg_tmod,Int.tmod_eq_emod_of_nonneg om,Int.natCast_emod,Int.natAbs_neg]
    rfl
   rw [e] at h3;exact h3
theorem Y6{x y:Nat}{a n c:Int}(hx:Fz x a)(hy:Fz y n)(ha:a.natAbs<2^53)(hn0:0<n)(hn:n<2^53)(hc:a=c*n): ∃z,FloatKind.f64.format.div x y=some z∧Fz z c:=by
 obtain ⟨s,k,hk,hs⟩:=hx.read ha
 obtain ⟨t,j,hj,ht⟩:=hy.read (show n.natAbs<2^53 by omega)
 have ht':t=false:=by rw [ht om];simp;omega
 subst ht'
 have hcl:c.natAbs<2^53:=by
  have h1:a.natAbs=c.natAbs*n.natAbs:=by rw [hc,Int.natAbs_mul]
  have h2:c.natAbs*1≤c.natAbs*n.natAbs:=Nat.mul_le_mul_left _ om
  omega
 have main: ∃e,(double.read x).quotient (double.fractionBits+2) (double.read y)=some e∧Wd e c:=by
  rw [hk,hj]
  simp only [Datum.quotient]
  have hp:0<n.natAbs*2^j:=Nat.mul_pos om (Nat.pow_pos (by decide))
  rw [if_neg om]
  have hlog:j≤k+(double.fractionBits+2+(n.natAbs*2^j).log2 - (a.natAbs*2^k).log2):=by
   have e1:double.fractionBits+2=54:=rfl
   rw [e1,M2 om]
   rcases Nat.eq_zero_or_pos a.natAbs with h|h
   ·rw [h];simp;omega
   ·have:=LX h ha
    rw [M2 h];omega
  generalize double.fractionBits+2+(n.natAbs*2^j).log2 - (a.natAbs*2^k).log2=more at*
  have e2:(a.natAbs*2^k) <<< more=c.natAbs*2^(k+more - j)*(n.natAbs*2^j):=by
   rw [Nat.shiftLeft_eq,hc,Int.natAbs_mul]
   have:2^k*2^more=2^(k+more - j)*2^j:=by rw [←Nat.pow_add,←Nat.pow_add];congr 1;omega
   calc c.natAbs*n.natAbs*2^k*2^more=c.natAbs*n.natAbs*(2^k*2^more):=by rw [Nat.mul_assoc]
    _=c.natAbs*n.natAbs*(2^(k+more - j)*2^j):=by rw [this]
    _=c.natAbs*2^(k+more - j)*(n.natAbs*2^j):=by simp only [Nat.mul_assoc,Nat.mul_left_comm]
  rw [e2,Nat.mul_div_cancel _ hp,Nat.mul_mod_left]
  refine ⟨_,rfl,s,k+more - j+1,?_,fun h=>?_⟩
  ·simp only [bne_self_eq_false,Bool.toNat_false,Nat.add_zero,Bool.bne_false]
   congr 1
   ·rw [Nat.pow_succ];simp only [Nat.mul_comm,Nat.mul_left_comm]
   ·omega
  ·rw [hs (by rw [hc];exact Int.mul_ne_zero h om),hc]
   have:c*n<0↔c<0:=by
    constructor
    ·intro h1
     rcases Int.lt_or_le c 0 with h2|h2
     ·exact h2
     ·have:=Int.mul_nonneg h2 (Int.le_of_lt hn0);omega
    ·intro h1;exact Int.mul_neg_of_neg_of_pos h1 hn0
   simp [this]
 obtain ⟨e,he,hw⟩:=main
 refine ⟨double.write e,?_,Fz.write hw hcl⟩
 show ((double.read x).quotient (double.fractionBits+2) (double.read y)).map double.write=_
 rw [he];rfl
theorem Xc(a b:Int):(a.tmod b).natAbs≤a.natAbs:=by rw [Int.natAbs_tmod];exact Nat.mod_le _ _
theorem R9(a b:Int):(a.tdiv b).natAbs≤a.natAbs:=by rw [Int.natAbs_tdiv];exact Nat.div_le_self _ _
def quo(a b:Ad):Ad×Int:=
 let n:=b.re*b.re+b.im*b.im
 let x:=a.re*b.re+a.im*b.im
 let y:=a.im*b.re - a.re*b.im
 if n=0∨x.tmod n≠0∨y.tmod n≠0 then (⟨0,0⟩,51) else inn ⟨x.tdiv n,y.tdiv n⟩
section
variable{a b:Ad}(ha:HZ a)(hb:HZ b)
include ha hb
theorem ABI(h: ¬(b.re=0∧b.im=0)):0<b.re*b.re+b.im*b.im:=by
 have h1:0≤b.re*b.re:=by
  rcases Int.le_total 0 b.re with h|h
  ·exact Int.mul_nonneg h h
  ·exact Int.mul_nonneg_of_nonpos_of_nonpos h h
 have h2:0≤b.im*b.im:=by
  rcases Int.le_total 0 b.im with h|h
  ·exact Int.mul_nonneg h h
  ·exact Int.mul_nonneg_of_nonpos_of_nonpos h h
 rcases Decidable.em (b.re*b.re=0) with h3|h3
 ·rcases Decidable.em (b.im*b.im=0) with h4|h4
  ·refine absurd ⟨?_,?_⟩ h
   ·rcases Int.mul_eq_zero.1 h3 with h|h<;>exact h
   ·rcases Int.mul_eq_zero.1 h4 with h|h<;>exact h
  ·omega
 ·omega
theorem ABJ{N:Nat}(hN:2^54≤N):Jv N (rn a) (rn b)=some (rn (quo a b).1,(quo a b).2):=by
 unfold Jv Lt
 simp only [KN ha,KN hb,Option.bind_some,Bool.not_true,cond_false]
 have hz:ceq (rn b) (0,0)=(decide (b.re=0)&&decide (b.im=0)):=by
  rw [ceq,(Fz.re hb).feq fz0 hb.re (by decide),(Fz.im hb).feq fz0 hb.im (by decide)]
 rw [hz]
 cases h0:(decide (b.re=0)&&decide (b.im=0))
 ·simp only [cond_false]
  have hne: ¬(b.re=0∧b.im=0):=by
   intro h;rw [h.1,h.2] at h0;simp at h0
  have hn:=ABI ha hb hne
  have hni:=Vd (Fz.im hb) hb.im
  have hia:(-b.im).natAbs≤16777216:=by have:=hb.imA;omega
  obtain ⟨p1,p2,hp,q1,q2,l1,l2⟩:=Vc (Fz.re ha) (Fz.im ha) (Fz.re hb) hni ha.reA ha.imA hb.reA hia
  obtain ⟨n1,n2,hm,q3,_,l3,_⟩:=Vc (Fz.re hb) (Fz.im hb) (Fz.re hb) hni hb.reA hb.imA hb.reA hia
  have e1:a.re*b.re - a.im* -b.im=a.re*b.re+a.im*b.im:=by rw [Int.mul_neg];omega
  have e2:a.re* -b.im+a.im*b.re=a.im*b.re - a.re*b.im:=by rw [Int.mul_neg];omega
  have e3:b.re*b.re - b.im* -b.im=b.re*b.re+b.im*b.im:=by rw [Int.mul_neg];omega
  rw [e1] at q1 l1;rw [e2] at q2 l2;rw [e3] at q3 l3
  have ep:cmul (rn a) ((rn b).1,Op.negFloat .f64 (rn b).2)=some (p1,p2):=hp
  have em:cmul (rn b) ((rn b).1,Op.negFloat .f64 (rn b).2)=some (n1,n2):=hm
  obtain ⟨z1,hz1,w1⟩:=Y5 hN q1 q3 om hn om
  obtain ⟨z2,hz2,w2⟩:=Y5 hN q2 q3 om hn om
  have b1:=Xc (a.re*b.re+a.im*b.im) (b.re*b.re+b.im*b.im)
  have b2:=Xc (a.im*b.re - a.re*b.im) (b.re*b.re+b.im*b.im)
  simp only [ep,em,Option.bind_some,hz1,hz2]
  rw [w1.fne fz0 om (by decide),w2.fne fz0 om (by decide)]
  unfold Ls quo
  simp only
  cases h1:decide ((a.re*b.re+a.im*b.im).tmod (b.re*b.re+b.im*b.im)=0)
  ·have h1:=D5 h1
   rw [if_pos (.inr (.inl h1))]
   rfl
  ·have h1:=CZ h1
   simp only [Bool.not_true,cond_false]
   cases h2:decide ((a.im*b.re - a.re*b.im).tmod (b.re*b.re+b.im*b.im)=0)
   ·have h2:=D5 h2
    rw [if_pos (.inr (.inr h2))]
    rfl
   ·have h2:=CZ h2
    rw [if_neg (by rintro (h|h|h)<;>omega)]
    simp only [Bool.not_true,cond_false]
    have c1:a.re*b.re+a.im*b.im=(a.re*b.re+a.im*b.im).tdiv (b.re*b.re+b.im*b.im)*(b.re*b.re+b.im*b.im):=by
     have:=Int.tmod_add_tdiv_mul (a.re*b.re+a.im*b.im) (b.re*b.re+b.im*b.im);omega
    have c2:a.im*b.re - a.re*b.im=(a.im*b.re - a.re*b.im).tdiv (b.re*b.re+b.im*b.im)*(b.re*b.re+b.im*b.im):=by
     have:=Int.tmod_add_tdiv_mul (a.im*b.re - a.re*b.im) (b.re*b.re+b.im*b.im);omega
    obtain ⟨d1,hd1,v1⟩:=Y6 q1 q3 om hn om c1
    obtain ⟨d2,hd2,v2⟩:=Y6 q2 q3 om hn om c2
    have k1:=R9 (a.re*b.re+a.im*b.im) (b.re*b.re+b.im*b.im)
    have k2:=R9 (a.im*b.re - a.re*b.im) (b.re*b.re+b.im*b.im)
    simp only [hd1,hd2,Option.bind_some,PB v1 v2 om om]
 ·simp only [Bool.and_eq_true,decide_eq_true_eq] at h0
  unfold quo
  simp only
  rw [if_pos (.inl (by rw [h0.1,h0.2];rfl))]
  rfl
theorem Z8:JE a b=some (quo a b):=by
 have m1:=L6 hb.reA hb.reA
 have m2:=L6 hb.imA hb.imA
 have m3:=L6 ha.reA hb.reA
 have m4:=L6 ha.imA hb.imA
 have m5:=L6 ha.imA hb.reA
 have m6:=L6 ha.reA hb.imA
 unfold JE K9
 rw [wr (x:=b.re*b.re) om om,wr (x:=b.im*b.im) om om,wr (x:=a.re*b.re) om om,wr (x:=a.im*b.im) om om,wr (x:=a.im*b.re) om om,wr (x:=a.re*b.im) om om,
  wr (x:=b.re*b.re+b.im*b.im) om om,wr (x:=a.re*b.re+a.im*b.im) om om,wr (x:=a.im*b.re - a.re*b.im) om om]
 have k1:=R9 (a.re*b.re+a.im*b.im) (b.re*b.re+b.im*b.im)
 have k2:=R9 (a.im*b.re - a.re*b.im) (b.re*b.re+b.im*b.im)
 rw [wr (x:=(a.re*b.re+a.im*b.im).tdiv (b.re*b.re+b.im*b.im)) om om,wr (x:=(a.im*b.re - a.re*b.im).tdiv (b.re*b.re+b.im*b.im)) om om]
 unfold quo
 simp only
 cases h0:(b.re*b.re+b.im*b.im==0)
 ·have h0:=B0 h0
  have hnz:nz (b.re*b.re+b.im*b.im)=some ():=by rw [nz,if_neg h0]
  simp only [cond_false,hnz,Option.bind_some]
  cases h1:((a.re*b.re+a.im*b.im).tmod (b.re*b.re+b.im*b.im) != 0)
  ·have h1:=J1 h1
   simp only [cond_false]
   cases h2:((a.im*b.re - a.re*b.im).tmod (b.re*b.re+b.im*b.im) != 0)
   ·have h2:=J1 h2
    rw [if_neg (by rintro (h|h|h)<;>contradiction),XY]
    rfl
   ·have h2:=Lf h2
    rw [if_pos (.inr (.inr h2))];rfl
  ·have h1:=Lf h1
   rw [if_pos (.inr (.inl h1))];rfl
 ·have h0:=CH h0
  rw [if_pos (.inl h0)];rfl
end
end Fth
namespace Fth
open Go
def VV(t:Int)(v:AG):Prop:=
 (t=1∧v.type_=1∧Gn v.num∧v.bool=false∧v.list=[])∨(t=2∧v.type_=2∧v.num=(0,0)∧v.list=[])∨
 (t=3∧v.type_=3∧v.num=(0,0)∧v.bool=false∧∀z∈v.list,Gn z)
def GV(v:AG):Prop:=Gn v.num∧(∀z∈v.list,Gn z)∧v.list.length≤1000000000000
def chk(v:AG):Bool:=
 bif v.type_==1 then !v.bool&&v.list.isEmpty else bif v.type_==2 then decide (v.num=(0,0))&&v.list.isEmpty else bif v.type_==3 then decide (v.num=(0,0))&& !v.bool else false
theorem gn0:Gn (0,0):=⟨0,0,⟨z0,by decide,by decide⟩,⟨z0,by decide,by decide⟩⟩
theorem Y7{v:AG}(h:GV v):chk v=true↔VV v.type_ v:=by
 obtain ⟨h1,h2,_⟩:=h
 unfold chk VV
 cases e1:(v.type_==1)
 ·have e1:=B0 e1
  cases e2:(v.type_==2)
  ·have e2:=B0 e2
   cases e3:(v.type_==3)
   ·have e3:=B0 e3
    simp [e1,e2,e3]
   ·have e3:=CH e3
    simp [e3];intro _ _;exact fun z w hz=>h2 (z,w) hz
  ·have e2:=CH e2
   simp [e2]
 ·have e1:=CH e1
  simp [e1,h1]
theorem VV.gv{t:Int}{v:AG}(h:VV t v)(hl:v.list.length≤1000000000000):GV v:=by
 rcases h with ⟨_,_,h,_,h'⟩| ⟨_,_,h,h'⟩| ⟨_,_,h,_,h'⟩
 ·exact ⟨h,by rw [h'];simp,hl⟩
 ·exact ⟨by rw [h];exact gn0,by rw [h'];simp,hl⟩
 ·exact ⟨by rw [h];exact gn0,h',hl⟩
theorem VV.type{t:Int}{v:AG}(h:VV t v):v.type_=t:=by
 rcases h with ⟨h1,h2,_⟩| ⟨h1,h2,_⟩| ⟨h1,h2,_⟩<;>rw [h1,h2]
theorem ABg{z:Nat×Nat}(h:Gn z):ceq z (0,0)=decide (z=(0,0)):=by
 obtain ⟨n,hn,rfl⟩:=(Q0 z).1 h
 have e1:=(Fz.re hn).feq fz0 hn.re (by decide)
 have e2:=(Fz.im hn).feq fz0 hn.im (by decide)
 rw [ceq]
 dsimp only
 rw [e1,e2,Bool.eq_iff_iff]
 simp only [Bool.and_eq_true,decide_eq_true_eq]
 constructor
 ·rintro ⟨h1,h2⟩
  rw [rn,h1,h2,PR]
 ·intro h
  have h1:FloatKind.f64.nearest n.re=0:=congrArg Prod.fst h
  have h2:FloatKind.f64.nearest n.im=0:=congrArg Prod.snd h
  have f0:feq 0 0=true:=by decide
  have k1:(rn n).1=0:=h1
  have k2:(rn n).2=0:=h2
  rw [k1,f0] at e1
  rw [k2,f0] at e2
  exact ⟨CZ e1.symm,CZ e2.symm⟩
theorem Wa{z:Nat×Nat}(h:Gn z):B6 z=some true:=by
 obtain ⟨n,hn,rfl⟩:=(Q0 z).1 h
 exact KN hn
theorem Nj{N:Nat}{v:AG}(h:GV v)(hN:v.list.length+2≤N):DR N v=some (bif chk v then 0 else 3):=by
 obtain ⟨h1,h2,h3⟩:=h
 have loop: ∀(k:Nat) (b:Bool) (i:Nat),i≤v.list.length→v.list.length<i+k→Ik v k b (i:Int)=some (bif b then 0 else 3):=by
  intro k
  induction k with
  |zero=>intro b i _ _;omega
  |succ k ih=>
   intro b i hi hk
   show KE v (Ik v k) b i=_
   unfold KE Ki Ee
   cases hc:decide ((i:Int)< (v.list.length:Int))
   ·rw [cond_false];cases b<;>rfl
   ·have hc:=CZ hc
    obtain ⟨z,hz,hz'⟩:=Fi (xs:=v.list) (i:=(i:Int)) om hc
    rw [cond_true,hz,Option.bind_some,wr om om,show (i:Int)+1=((i+1:Nat):Int) by omega]
    have hg:=h2 z (List.mem_of_getElem? hz')
    rw [Wa hg,Option.bind_some]
    cases b
    ·exact ih false (i+1) om om
    ·exact ih true (i+1) om om
 have loop0:=fun b=>loop N b 0 om om
 have he:((v.list.length:Int)==0)=v.list.isEmpty:=by cases v.list<;>simp;omega
 unfold DR Ee Jr chk
 rw [Wa h1,Option.bind_some,ABg h1,he]
 cases e1:(v.type_==1)
 ·rw [cond_false,cond_false]
  cases e2:(v.type_==2)
  ·rw [cond_false,cond_false]
   cases e3:(v.type_==3)
   ·rfl
   ·rw [cond_true,cond_true,Option.bind_some,cond_true]
    cases decide (v.num=(0,0))
    ·exact loop0 false
    ·exact loop0 (!v.bool)
  ·rw [cond_true,cond_true,Option.bind_some,cond_true]
   cases decide (v.num=(0,0))
   ·rfl
   ·cases v.list.isEmpty<;>rfl
 ·rw [cond_true,cond_true,cond_true]
  cases v.bool
  ·cases v.list.isEmpty<;>rfl
  ·rfl
theorem MT{N:Nat}{v:AG}(h:GV v)(hN:v.list.length+2≤N):CC N v=some (chk v):=by
 obtain ⟨h1,h2,h3⟩:=h
 have he:((v.list.length:Int)==0)=v.list.isEmpty:=by cases v.list<;>simp;omega
 have loop: ∀(k i:Nat),i≤v.list.length→v.list.length<i+k→FA v k true (i:Int)=some (chk v):=by
  intro k
  induction k with
  |zero=>intro i _ _;omega
  |succ k ih=>
   intro i hi hk
   show FR v (FA v k) true i=_
   unfold FR Hk Jj Jk Jl
   cases hc:decide ((i:Int)< (v.list.length:Int))
   ·rw [cond_false,ABg h1,he]
    unfold chk
    cases e1:(v.type_==1)
    ·rw [cond_false,cond_false]
     cases e2:(v.type_==2)
     ·rw [cond_false,cond_false]
      cases e3:(v.type_==3)
      ·rfl
      ·cases decide (v.num=(0,0))<;>rfl
     ·cases decide (v.num=(0,0))<;>rfl
    ·cases v.bool<;>rfl
   ·have hc:=CZ hc
    obtain ⟨z,hz,hz'⟩:=Fi (xs:=v.list) (i:=(i:Int)) om hc
    rw [cond_true,hz,Option.bind_some,wr om om,show (i:Int)+1=((i+1:Nat):Int) by omega]
    obtain ⟨n,_,_,hn⟩:=Yv (h2 z (List.mem_of_getElem? hz'))
    rw [hn,Option.bind_some,cond_true]
    exact ih (i+1) om om
 obtain ⟨n,_,_,hn⟩:=Yv h1
 unfold CC
 rw [hn,Option.bind_some]
 exact loop N 0 om om
def v0:AG:=⟨0,(0,0),false,[]⟩
def nv(x:Ad×Int):AG×Int:=if x.2=0 then (⟨1,rn x.1,false,[]⟩,0) else (v0,x.2)
theorem Z9(x:Ad×Int):D9 (rn x.1) x.2=some (nv x):=by
 unfold D9 nv
 cases h:(x.2 != 0)
 ·rw [if_pos (J1 h)];rfl
 ·rw [if_neg (Lf h)];rfl
theorem Vf(x:Ad×Int):CW x.1 x.2=some (nv x):=by
 unfold CW nv
 cases h:(x.2 != 0)
 ·rw [if_pos (J1 h)];rfl
 ·rw [if_neg (Lf h)];rfl
def two(op:Int)(a b:Ad):AG×Int:=
 if op=8 then nv (inn ⟨a.re+b.re,a.im+b.im⟩) else if op=9 then nv (inn ⟨a.re - b.re,a.im - b.im⟩)
 else if op=10 then nv (inn ⟨a.re*b.re - a.im*b.im,a.re*b.im+a.im*b.re⟩) else if op=11 then nv (quo a b)
 else if op=12 then (⟨2,(0,0),decide (a.re=b.re)&&decide (a.im=b.im),[]⟩,0)
 else (⟨2,(0,0),decide (a.re<b.re)||(decide (a.re=b.re)&&decide (a.im<b.im)),[]⟩,0)
theorem Y8{N:Nat}{op:Int}{a b:Ad}(hN:2^54≤N)(ha:HZ a)(hb:HZ b):KG N op (rn a) (rn b)=some (two op a b):=by
 unfold KG two
 rw [ABE ha hb,ABF ha hb,ABG ha hb,ABJ ha hb hN,Yw ha hb,Z1 ha hb]
 simp only [Option.bind_some,Z9]
 cases h1:(op==8)
 ·rw [if_neg (B0 h1)]
  cases h2:(op==9)
  ·rw [if_neg (B0 h2)]
   cases h3:(op==10)
   ·rw [if_neg (B0 h3)]
    cases h4:(op==11)
    ·rw [if_neg (B0 h4)]
     cases h5:(op==12)
     ·rw [if_neg (B0 h5)];rfl
     ·rw [if_pos (CH h5)];rfl
    ·rw [if_pos (CH h4)];rfl
   ·rw [if_pos (CH h3)];rfl
  ·rw [if_pos (CH h2)];rfl
 ·rw [if_pos (CH h1)];rfl
section
variable{a b:Ad}(ha:HZ a)(hb:HZ b)
include ha hb
theorem AAA:JB a b=some (inn ⟨a.re+b.re,a.im+b.im⟩):=by
 obtain ⟨⟨h1,h2⟩,h3,h4⟩:=ha
 obtain ⟨⟨h5,h6⟩,h7,h8⟩:=hb
 unfold JB
 rw [wr om om,wr om om,XY];rfl
theorem AAB:JC a b=some (inn ⟨a.re - b.re,a.im - b.im⟩):=by
 obtain ⟨⟨h1,h2⟩,h3,h4⟩:=ha
 obtain ⟨⟨h5,h6⟩,h7,h8⟩:=hb
 unfold JC
 rw [wr om om,wr om om,XY];rfl
theorem AAC:JD a b=some (inn ⟨a.re*b.re - a.im*b.im,a.re*b.im+a.im*b.re⟩):=by
 have m3:=L6 ha.reA hb.reA
 have m4:=L6 ha.imA hb.imA
 have m5:=L6 ha.imA hb.reA
 have m6:=L6 ha.reA hb.imA
 unfold JD
 rw [wr (x:=a.re*b.re) om om,wr (x:=a.im*b.im) om om,wr (x:=a.im*b.re) om om,wr (x:=a.re*b.im) om om,wr om om,wr om om,XY];rfl
theorem Y9:ID a b=some (decide (a.re<b.re)||(decide (a.re=b.re)&&decide (a.im<b.im))):=by
 unfold ID KT
 have e:(a.re==b.re)=decide (a.re=b.re):=by rw [Bool.eq_iff_iff];simp
 rw [e]
 cases decide (a.re<b.re)
 ·cases decide (a.re=b.re)<;>rfl
 ·rfl
end
theorem ZA{op:Int}(h:8≤op∧op≤13):H7 op=some (2,1)∧G8 op=some (2,1):=by
 have:op=8∨op=9∨op=10∨op=11∨op=12∨op=13:=om
 rcases this with rfl|rfl|rfl|rfl|rfl|rfl<;>exact ⟨rfl,rfl⟩
theorem ZB{op:Int}(h:15≤op∧op≤17):H7 op=some (1,1)∧G8 op=some (1,1):=by
 have:op=15∨op=16∨op=17:=om
 rcases this with rfl|rfl|rfl<;>exact ⟨rfl,rfl⟩
def C8(a:Ad):AG:=⟨1,rn a,false,[]⟩
theorem YA{a:Ad}(ha:HZ a):GV (C8 a):=⟨.of ha,by simp [C8],by simp [C8]⟩
theorem Uo(a:Ad):chk (C8 a)=true:=rfl
def JR(c:Bool):AG:=⟨2,(0,0),c,[]⟩
theorem AAD(b:Bool):GV (JR b):=⟨gn0,by simp [JR],by simp [JR]⟩
theorem ABK{N:Nat}{op:Int}{a b:Ad}(hN:2^54≤N)(h:8≤op∧op≤13)(ha:HZ a)(hb:HZ b):
  EK N op [C8 a,C8 b]=some (two op a b)∧Dc N op [C8 a,C8 b]=some (two op a b):=by
 obtain ⟨M,rfl⟩: ∃M,N=M+3:=⟨N - 3,om⟩
 have c1:DR (M+3) (C8 a)=some 0:=by rw [Nj (YA ha) (by simp [C8]),Uo];rfl
 have c2:DR (M+3) (C8 b)=some 0:=by rw [Nj (YA hb) (by simp [C8]),Uo];rfl
 have d1:CC (M+3) (C8 a)=some true:=by rw [MT (YA ha) (by simp [C8]),Uo]
 have d2:CC (M+3) (C8 b)=some true:=by rw [MT (YA hb) (by simp [C8]),Uo]
 have o1:Ey (C8 a).num=some (a,true):=Un ha
 have o2:Ey (C8 b).num=some (b,true):=Un hb
 constructor
 ·unfold EK
  rw [(ZA h).1,Option.bind_some]
  show Cp (M+3) op [C8 a,C8 b] (2,1) (Dh (M+3) op [C8 a,C8 b] (2,1) (M+2)) 0=_
  unfold Cp
  show (DR (M+3) (C8 a)).bind (fun x208=>IU 0 (Dh (M+3) op [C8 a,C8 b] (2,1) (M+2)) (x208 != 0))=_
  rw [c1,Option.bind_some]
  show Cp (M+3) op [C8 a,C8 b] (2,1) (Dh (M+3) op [C8 a,C8 b] (2,1) (M+1)) 1=_
  unfold Cp
  show (DR (M+3) (C8 b)).bind (fun x208=>IU 1 (Dh (M+3) op [C8 a,C8 b] (2,1) (M+1)) (x208 != 0))=_
  rw [c2,Option.bind_some]
  show Cp (M+3) op [C8 a,C8 b] (2,1) (Dh (M+3) op [C8 a,C8 b] (2,1) M) 2=_
  unfold Cp
  have hop:(op==14)=false∧(op==15)=false∧(op==16)=false∧(op==17)=false:=by
   refine ⟨?_,?_,?_,?_⟩<;>(simp;omega)
  rw [hop.1,hop.2.1,hop.2.2.1,hop.2.2.2]
  show (KG (M+3) op (rn a) (rn b)).bind (fun x321=>some (x321.1,x321.2))=_
  rw [Y8 hN ha hb];rfl
 ·unfold Dc
  rw [(ZA h).2,Option.bind_some]
  show CT (M+3) op [C8 a,C8 b] (2,1) (Bm (M+3) op [C8 a,C8 b] (2,1) (M+2)) true [] 0=_
  unfold CT
  show (CC (M+3) (C8 a)).bind (fun x412=>bif x412 then (Ek [C8 a,C8 b] [] 0 (Bm (M+3) op [C8 a,C8 b] (2,1) (M+2)) true) else (Ek [C8 a,C8 b] [] 0 (Bm (M+3) op [C8 a,C8 b] (2,1) (M+2)) false))=_
  rw [d1,Option.bind_some,cond_true]
  show (Ey (C8 a).num).bind (fun x354=>(HF 16 ([]:List Ad) [x354.1]).bind fun _=>Bm (M+3) op [C8 a,C8 b] (2,1) (M+2) true ([]++[x354.1]) (IntKind.i64.wrap (0+1)))=_
  rw [o1,Option.bind_some]
  show CT (M+3) op [C8 a,C8 b] (2,1) (Bm (M+3) op [C8 a,C8 b] (2,1) (M+1)) true [a] 1=_
  unfold CT
  show (CC (M+3) (C8 b)).bind (fun x412=>bif x412 then (Ek [C8 a,C8 b] [a] 1 (Bm (M+3) op [C8 a,C8 b] (2,1) (M+1)) true) else (Ek [C8 a,C8 b] [a] 1 (Bm (M+3) op [C8 a,C8 b] (2,1) (M+1)) false))=_
  rw [d2,Option.bind_some,cond_true]
  show (Ey (C8 b).num).bind (fun x354=>(HF 16 [a] [x354.1]).bind fun _=>Bm (M+3) op [C8 a,C8 b] (2,1) (M+1) true ([a]++[x354.1]) (IntKind.i64.wrap (1+1)))=_
  rw [o2,Option.bind_some]
  show CT (M+3) op [C8 a,C8 b] (2,1) (Bm (M+3) op [C8 a,C8 b] (2,1) M) true [a,b] 2=_
  unfold CT two
  have e:(a.re==b.re&&a.im==b.im)=(decide (a.re=b.re)&&decide (a.im=b.im)):=by rw [Bool.eq_iff_iff];simp
  have hh:op=8∨op=9∨op=10∨op=11∨op=12∨op=13:=om
  rcases hh with rfl|rfl|rfl|rfl|rfl|rfl
  ·show ((JB a b).bind fun x504=>(CW x504.1 x504.2).bind fun x511=>some (x511.1,x511.2))=_
   rw [AAA ha hb,Option.bind_some,Vf];rfl
  ·show ((JC a b).bind fun x504=>(CW x504.1 x504.2).bind fun x511=>some (x511.1,x511.2))=_
   rw [AAB ha hb,Option.bind_some,Vf];rfl
  ·show ((JD a b).bind fun x504=>(CW x504.1 x504.2).bind fun x511=>some (x511.1,x511.2))=_
   rw [AAC ha hb,Option.bind_some,Vf];rfl
  ·show ((JE a b).bind fun x504=>(CW x504.1 x504.2).bind fun x511=>some (x511.1,x511.2))=_
   rw [Z8 ha hb,Option.bind_some,Vf];rfl
  ·show some ((⟨2,(0,0),(a.re==b.re&&a.im==b.im),[]⟩:AG),(0:Int))=_
   rw [e];rfl
  ·show ((ID a b).bind fun x1013=>(G9 x1013).bind fun x1018=>some (x1018.1,x1018.2))=_
   rw [Y9 ha hb];rfl
theorem Xd{op:Int}(h:op=14):H7 op=some (1,2)∧G8 op=some (1,2):=by subst h;exact ⟨rfl,rfl⟩
theorem ABL{N:Nat}{c:Bool}{op:Int}(h:op=14)(hN:10≤N):EK N op [JR c]=some (JR !c,0):=by
 obtain ⟨M,rfl⟩: ∃M,N=M+3:=⟨N - 3,om⟩
 clear hN
 have c1:DR (M+3) (JR c)=some 0:=by rw [Nj (AAD c) (by simp [JR])];rfl
 have d1:CC (M+3) (JR c)=some true:=by rw [MT (AAD c) (by simp [JR])];rfl
 have o1:Ey (JR c).num=some (⟨0,0⟩,true):=Un (n:=⟨0,0⟩) ⟨⟨by decide,by decide⟩,by decide,by decide⟩
 unfold EK
 rw [(Xd h).1,Option.bind_some]
 show Cp (M+3) op [JR c] (1,2) (Dh (M+3) op [JR c] (1,2) (M+2)) 0=_
 unfold Cp
 show (DR (M+3) (JR c)).bind (fun x208=>IU 0 (Dh (M+3) op [JR c] (1,2) (M+2)) (x208 != 0))=_
 rw [c1,Option.bind_some]
 show Cp (M+3) op [JR c] (1,2) (Dh (M+3) op [JR c] (1,2) (M+1)) 1=_
 unfold Cp
 have h1:decide ((1:Int)< (([JR c].length:Nat):Int))=false:=rfl
 have h2:idx [JR c] 0=some (JR c):=rfl
 have h3:(op==14)=true:=by rw [h];rfl
 rw [h1,cond_false,h2,Option.bind_some,h3,cond_true]
 rfl
theorem ABh{N:Nat}{c:Bool}{op:Int}(h:op=14)(hN:10≤N):Dc N op [JR c]=some (JR !c,0):=by
 obtain ⟨M,rfl⟩: ∃M,N=M+3:=⟨N - 3,om⟩
 clear hN
 have c1:DR (M+3) (JR c)=some 0:=by rw [Nj (AAD c) (by simp [JR])];rfl
 have d1:CC (M+3) (JR c)=some true:=by rw [MT (AAD c) (by simp [JR])];rfl
 have o1:Ey (JR c).num=some (⟨0,0⟩,true):=Un (n:=⟨0,0⟩) ⟨⟨by decide,by decide⟩,by decide,by decide⟩
 unfold Dc
 rw [(Xd h).2,Option.bind_some]
 show CT (M+3) op [JR c] (1,2) (Bm (M+3) op [JR c] (1,2) (M+2)) true [] 0=_
 unfold CT
 show (CC (M+3) (JR c)).bind (fun x412=>bif x412 then (Ek [JR c] [] 0 (Bm (M+3) op [JR c] (1,2) (M+2)) true) else (Ek [JR c] [] 0 (Bm (M+3) op [JR c] (1,2) (M+2)) false))=_
 rw [d1,Option.bind_some,cond_true]
 show (Ey (JR c).num).bind (fun x354=>(HF 16 ([]:List Ad) [x354.1]).bind fun _=>Bm (M+3) op [JR c] (1,2) (M+2) true ([]++[x354.1]) (IntKind.i64.wrap (0+1)))=_
 rw [o1,Option.bind_some]
 show CT (M+3) op [JR c] (1,2) (Bm (M+3) op [JR c] (1,2) (M+1)) true [⟨0,0⟩] 1=_
 unfold CT
 have h1:decide ((1:Int)< ((1,2):Int×Int).1)=false:=rfl
 rw [cond_true,h1]
 unfold Ks
 have h2:idx [JR c] 0=some (JR c):=rfl
 have h3:(op==14)=true:=by rw [h];rfl
 have k1:(op==8)=false:=by rw [h];rfl
 have k2:(op==9)=false:=by rw [h];rfl
 have k3:(op==10)=false:=by rw [h];rfl
 have k4:(op==11)=false:=by rw [h];rfl
 have k5:(op==12)=false:=by rw [h];rfl
 have k6:(op==13)=false:=by rw [h];rfl
 rw [cond_false,Bool.not_true,cond_false,k1,cond_false,k2,cond_false,k3,cond_false,k4,cond_false,k5,cond_false,k6,cond_false,h3,cond_true,h2,Option.bind_some]
 rfl
theorem AAE{N:Nat}{c:Bool}(hN:2^54≤N):EK N 14 [JR c]=some (JR !c,0)∧Dc N 14 [JR c]=some (JR !c,0):=⟨ABL rfl om,ABh rfl om⟩
theorem nv0(x:Int):C8 ⟨x,0⟩=⟨1,(FloatKind.f64.nearest x,0),false,[]⟩:=by rw [C8,rn,PR]
def uno(op:Int)(a:Ad):AG×Int:=(C8 (if op=15 then ⟨a.re,0⟩ else if op=16 then ⟨a.im,0⟩ else ⟨a.re,-a.im⟩),0)
theorem ABM{N:Nat}{op:Int}{a:Ad}(hN:2^54≤N)(h:15≤op∧op≤17)(ha:HZ a):EK N op [C8 a]=some (uno op a)∧Dc N op [C8 a]=some (uno op a):=by
 obtain ⟨M,rfl⟩: ∃M,N=M+3:=⟨N - 3,om⟩
 have c1:DR (M+3) (C8 a)=some 0:=by rw [Nj (YA ha) (by simp [C8]),Uo];rfl
 have d1:CC (M+3) (C8 a)=some true:=by rw [MT (YA ha) (by simp [C8]),Uo]
 have o1:Ey (C8 a).num=some (a,true):=Un ha
 have hh:op=15∨op=16∨op=17:=om
 constructor
 ·unfold EK
  rw [(ZB h).1,Option.bind_some]
  show Cp (M+3) op [C8 a] (1,1) (Dh (M+3) op [C8 a] (1,1) (M+2)) 0=_
  unfold Cp
  show (DR (M+3) (C8 a)).bind (fun x208=>IU 0 (Dh (M+3) op [C8 a] (1,1) (M+2)) (x208 != 0))=_
  rw [c1,Option.bind_some]
  show Cp (M+3) op [C8 a] (1,1) (Dh (M+3) op [C8 a] (1,1) (M+1)) 1=_
  unfold Cp uno
  rcases hh with rfl|rfl|rfl
  ·rw [if_pos rfl,nv0];rfl
  ·rw [if_neg (by decide),if_pos rfl,nv0];rfl
  ·rw [if_neg (by decide),if_neg (by decide)]
   show ((H8 (rn a)).bind fun x279=>(D9 x279.1 x279.2).bind fun x284=>some (x284.1,x284.2))=_
   rw [Z2 ha];rfl
 ·unfold Dc
  rw [(ZB h).2,Option.bind_some]
  show CT (M+3) op [C8 a] (1,1) (Bm (M+3) op [C8 a] (1,1) (M+2)) true [] 0=_
  unfold CT
  show (CC (M+3) (C8 a)).bind (fun x412=>bif x412 then (Ek [C8 a] [] 0 (Bm (M+3) op [C8 a] (1,1) (M+2)) true) else (Ek [C8 a] [] 0 (Bm (M+3) op [C8 a] (1,1) (M+2)) false))=_
  rw [d1,Option.bind_some,cond_true]
  show (Ey (C8 a).num).bind (fun x354=>(HF 16 ([]:List Ad) [x354.1]).bind fun _=>Bm (M+3) op [C8 a] (1,1) (M+2) true ([]++[x354.1]) (IntKind.i64.wrap (0+1)))=_
  rw [o1,Option.bind_some]
  show CT (M+3) op [C8 a] (1,1) (Bm (M+3) op [C8 a] (1,1) (M+1)) true [a] 1=_
  unfold CT uno
  rcases hh with rfl|rfl|rfl
  ·rw [if_pos rfl];rfl
  ·rw [if_neg (by decide),if_pos rfl];rfl
  ·rw [if_neg (by decide),if_neg (by decide)]
   show ((CW ⟨a.re,IntKind.i64.wrap (0 - a.im)⟩ 0).bind fun x1213=>some (x1213.1,x1213.2))=_
   have:=ha.imA
   rw [wr om om,Int.zero_sub];rfl
def Res(t:Int)(r:AG×Int):Prop:=(r.2=0∧VV t r.1)∨((r.2=50∨r.2=51)∧r.1=v0)
theorem ABN{a:Ad}(h:HZ a):VV 1 (C8 a):= .inl ⟨rfl,rfl,.of h,rfl,rfl⟩
theorem Vg{x:Ad×Int}(h:(x.2=0∧HZ x.1)∨x.2=50∨x.2=51):Res 1 (nv x):=by
 unfold nv
 rcases h with ⟨h1,h2⟩|h
 ·rw [if_pos h1];exact .inl ⟨rfl,ABN h2⟩
 ·rw [if_neg om];exact .inr ⟨h,rfl⟩
theorem Vh(n:Ad):((inn n).2=0∧HZ (inn n).1)∨(inn n).2=50∨(inn n).2=51:=by
 unfold inn
 rcases Decidable.em (HZ n) with h|h
 ·rw [if_pos h];exact .inl ⟨rfl,h⟩
 ·rw [if_neg h];exact .inr (.inl rfl)
theorem ABO(a b:Ad):((quo a b).2=0∧HZ (quo a b).1)∨(quo a b).2=50∨(quo a b).2=51:=by
 unfold quo
 simp only
 split
 ·exact .inr (.inr rfl)
 ·exact Vh _
theorem YB(b:Bool):VV 2 ⟨2,(0,0),b,[]⟩:= .inr (.inl ⟨rfl,rfl,rfl,rfl⟩)
def opT(op:Int):Int:=if op=12∨op=13∨op=14 then 2 else 1
theorem vv1{v:AG}(h:VV 1 v): ∃a,HZ a∧v=C8 a:=by
 rcases h with ⟨_,h1,h2,h3,h4⟩| ⟨h,_⟩| ⟨h,_⟩
 ·obtain ⟨n,hn,e⟩:=(Q0 _).1 h2
  refine ⟨n,hn,?_⟩
  cases v;simp only at h1 h2 h3 h4 e;rw [C8,h1,h3,h4,e]
 ·cases h
 ·cases h
theorem vv2{v:AG}(h:VV 2 v):v=⟨2,(0,0),v.bool,[]⟩:=by
 rcases h with ⟨h,_⟩| ⟨_,h1,h2,h3⟩| ⟨h,_⟩
 ·cases h
 ·cases v;simp only at h1 h2 h3;rw [h1,h2,h3]
 ·cases h
theorem Wb{op:Int}{args:List AG}(h:(8≤op∧op≤13∧∃a b,VV 1 a∧VV 1 b∧args=[a,b])∨(op=14∧∃a,VV 2 a∧args=[a])∨(15≤op∧op≤17∧∃a,VV 1 a∧args=[a])):
  ∃r,Res (opT op) r∧∀N,2^54≤N→EK N op args=some r∧Dc N op args=some r:=by
 rcases h with ⟨h1,h2,x,y,hx,hy,rfl⟩| ⟨rfl,x,hx,rfl⟩| ⟨h1,h2,x,hx,rfl⟩
 ·obtain ⟨a,ha,rfl⟩:=vv1 hx
  obtain ⟨b,hb,rfl⟩:=vv1 hy
  refine ⟨two op a b,?_,fun N hN=>ABK hN ⟨h1,h2⟩ ha hb⟩
  unfold two opT
  have hh:op=8∨op=9∨op=10∨op=11∨op=12∨op=13:=om
  rcases hh with rfl|rfl|rfl|rfl|rfl|rfl
  ·exact Vg (Vh _)
  ·exact Vg (Vh _)
  ·exact Vg (Vh _)
  ·exact Vg (ABO a b)
  ·exact .inl ⟨rfl,YB _⟩
  ·exact .inl ⟨rfl,YB _⟩
 ·rw [vv2 hx]
  exact ⟨(JR !x.bool,0),.inl ⟨rfl,YB _⟩,fun N hN=>AAE hN⟩
 ·obtain ⟨a,ha,rfl⟩:=vv1 hx
  refine ⟨uno op a,?_,fun N hN=>ABM hN ⟨h1,h2⟩ ha⟩
  have e:opT op=1:=by unfold opT;rw [if_neg om]
  rw [e]
  refine .inl ⟨rfl,ABN ?_⟩
  obtain ⟨⟨l1,l2⟩,l3,l4⟩:=ha
  split
  ·exact ⟨⟨l1,l2⟩,by simp,by simp⟩
  ·split
   ·exact ⟨⟨l3,l4⟩,by simp,by simp⟩
   ·exact ⟨⟨l1,l2⟩,by simp only;omega,by simp only;omega⟩
end Fth
namespace Fth
open Go
theorem ZC{N:Nat}{t:List UInt8}(hl:t.length≤10000000)(hN:t.length+3≤N):T (GD N t) fun ws=>ws.length≤t.length+1∧∀w∈ws,w.length≤t.length:=by
 have key: ∀(k:Nat) (ws:List (List UInt8)) (f i:Int),0≤f→f≤i+1→0≤i→i≤t.length+1→(t.length:Int)+1 - i<k→ws.length≤i→(∀w∈ws,w.length≤t.length)→T (Ec t k ws f i) fun ws=>ws.length≤t.length+1∧∀w∈ws,w.length≤t.length:=by
  intro k
  induction k with
  |zero=>intro ws f i _ _ _ _ _;omega
  |succ k ih=>
   intro ws f i h1 h2 h3 h4 h5 h6 h7
   show T (FQ t (Ec t k) ws f i) _
   unfold FQ
   refine T.cond (fun h=>?_) fun h=>?_
   ·have h:=CZ h
    have e1:IntKind.i64.wrap (i+1)=i+1:=wr om om
    have go: ∀b,T (Gd t ws f i (Ec t k) b) fun ws=>ws.length≤t.length+1∧∀w∈ws,w.length≤t.length:=by
     intro b
     unfold Gd Hj Hi
     rw [e1]
     refine T.cond (fun _=>ih _ _ _ h1 om om om om om h7) fun _=>T.cond (fun hgt=>?_) fun _=>ih _ _ _ om om om om om om h7
     have hgt:=CZ hgt
     refine T.bind (NY h1 om h) fun w hw=>T.bind (Gy om (by simp;omega)) fun _ _=>ih _ _ _ om om om om om (by simp;omega) fun x hx=>?_
     rcases List.mem_append.1 hx with hx|hx
     ·exact h7 x hx
     ·simp at hx;subst hx;subst hw;simp;omega
    exact T.cond (fun hi=>T.bind (Fi h3 (CZ hi)) fun c _=>go _) fun _=>go _
   ·have h:=D5 h
    exact .some ⟨om,h7⟩
 exact key N [] 0 0 om om om om om (by simp) (by simp)
theorem Uq{N:Nat}{z:Nat×Nat}(hN:40≤N)(h:Gn z):T (EV N z) fun s=>s.length≤100:=by
 obtain ⟨n,hn,rfl,ho⟩:=Yv h
 unfold EV
 exact T.eq ho (T.bind (XT hN hn.1.1 hn.1.2 hn.2.1 hn.2.2) fun s hs=> .some hs)
theorem ZD{N:Nat}{v:AG}(h:GV v)(hl:v.list.length≤20000000)(hN:v.list.length+50≤N):T (Ge N v) fun _=>True:=by
 unfold Ge
 refine T.eq (MT h om) (T.cond (fun _=> .some trivial) fun _=>T.cond (fun _=>T.bind (Uq om h.1) fun _ _=> .some trivial) fun _=>T.cond (fun _=>T.cond (fun _=> .some trivial) fun _=> .some trivial) fun _=>?_)
 have key: ∀(k:Nat) (s:List UInt8) (i:Int),0≤i→i≤v.list.length→(v.list.length:Int) - i<k→(s.length:Int)≤101*i→T (FS N v k s i) fun _=>True:=by
  intro k
  induction k with
  |zero=>intro s i _ _ _;omega
  |succ k ih=>
   intro s i h0 h1 h2 h3
   show T (Fs N v (FS N v k) s i) _
   unfold Fs
   refine T.cond (fun hi=>?_) fun _=>T.bind (ML (by simp;omega)) fun u hu=>T.bind (ML (by subst hu;simp;omega)) fun _ _=> .some trivial
   have hi:=CZ hi
   have go: ∀s':List UInt8,(s'.length:Int)≤101*i+1→T (HU N v i (FS N v k) s') fun _=>True:=by
    intro s' hs'
    unfold HU
    refine T.bind (Fi h0 hi) fun z hz=>T.bind (Uq om (h.2.1 z (List.mem_of_getElem? hz))) fun u hu=>T.bind (Gy om om) fun _ _=>?_
    rw [wr om om]
    exact ih _ _ om om om (by simp;omega)
   exact T.cond (fun _=>T.bind (Gy om (by simp;omega)) fun _ _=>go _ (by simp;omega)) fun _=>go _ om
 exact key N [] 0 om om om (by simp)
theorem YC{N:Nat}{t:List UInt8}(hl:t.length≤10000000)(hN:t.length+100≤N):T (Fm N t) fun x=>x.2=0→VV x.1.type_ x.1∧x.1.list.length≤t.length+1:=by
 have j1: ∀b,T (Gg N t b) fun x=>x.2=0→VV x.1.type_ x.1∧x.1.list.length≤t.length+1:=by
  intro b
  unfold Gg
  refine T.cond (fun _=> .some fun _=>⟨YB _,by simp⟩) fun _=>T.bind (Qz om om) fun x hx=>T.cond (fun h=>?_) fun _=>?_
  ·have hx:=hx (CH h)
   refine .some (a:=_) fun _=>⟨ABN (a:=x.1) ⟨⟨hx.1,hx.2.1⟩,hx.2.2.1,hx.2.2.2⟩,by simp⟩
  ·have j2: ∀b,(b=false→2≤t.length)→T (Ft N t x b) fun x=>x.2=0→VV x.1.type_ x.1∧x.1.list.length≤t.length+1:=by
    intro b hb
    unfold Ft
    refine T.cond (fun _=> .some fun h=>by cases h) fun h=>?_
    have h2:=hb h
    rw [wr om om]
    refine T.bind (NY om om om) fun u hu=>?_
    have hul:u.length≤t.length:=by subst hu;simp;omega
    refine T.bind (ZC om om) fun ws hws=>?_
    have key: ∀(k:Nat) (i a b:Int) (l:List (Nat×Nat)),0≤i→i≤ws.length→(ws.length:Int) - i<k→(l.length:Int)=i→(∀z∈l,Gn z)→T (FB N t ws k i a b l) fun x=>x.2=0→VV x.1.type_ x.1∧x.1.list.length≤t.length+1:=by
     intro k
     induction k with
     |zero=>intro i a b l _ _ _;omega
     |succ k ih=>
      intro i a b l h0 h1 h3 h4 h5
      show T (FT N t ws (FB N t ws k) i a b l) _
      unfold FT
      refine T.cond (fun hi=>?_) fun _=>?_
      ·have hi:=CZ hi
       refine T.bind (Fi h0 hi) fun w hw=>?_
       have hwl:=hws.2 w (List.mem_of_getElem? hw)
       refine T.bind (Qz om om) fun y hy=>T.cond (fun _=> .some fun h=>by cases h) fun h=>?_
       have hy:=hy (J1 h)
       refine T.bind (ABr hy) fun z hz=>T.bind (Gy om (by simp;omega)) fun _ _=>?_
       rw [wr om om]
       refine ih _ _ _ _ om om om (by simp;omega) fun q hq=>?_
       rcases List.mem_append.1 hq with hq|hq
       ·exact h5 q hq
       ·simp at hq;subst hq;exact hz
      ·have gv:GV ⟨3,(0,0),false,l⟩:=⟨gn0,h5,by simp only;omega⟩
       refine T.bind (ZD gv (by simp only;omega) (by simp only;omega)) fun _ _=>T.cond (fun _=> .some fun h=>by cases h) fun _=> .some fun _=>⟨.inr (.inr ⟨rfl,rfl,rfl,rfl,h5⟩),by simp only;omega⟩
    exact key N 0 _ _ [] om om om (by simp) (by simp)
   refine T.cond (fun _=>j2 _ fun h=>by cases h) fun h=>?_
   have h:=D5 h
   refine T.bind (Fi om om) fun c _=>T.cond (fun _=>j2 _ fun h=>by cases h) fun _=>?_
   rw [wr om om]
   exact T.bind (Fi om om) fun c _=>j2 _ fun _=>om
 unfold Fm
 exact T.cond (fun _=>j1 _) fun _=>j1 _
def LV(l:List AG):Prop:=(∀v∈l,VV v.type_ v∧v.list.length≤1048577)∧l.length≤1048576
theorem ZE{N:Nat}{t:List UInt8}(hl:t.length≤1048576)(hN:t.length+200≤N):T (GE N t) fun x=>x.2=0→LV x.1:=by
 have outer: ∀(k:Nat) (l:List AG) (i:Int),0≤i→i≤t.length→(t.length:Int) - i<k→(l.length:Int)≤i→(∀v∈l,VV v.type_ v∧v.list.length≤1048577)→T (CX N t k l i) fun x=>x.2=0→LV x.1:=by
  intro k
  induction k with
  |zero=>intro l i _ _ _;omega
  |succ k ih=>
   intro l i h0 h1 h2 h3 h4
   show T (FV N t (CX N t k) l i) _
   unfold FV
   refine T.cond (fun hi=>?_) fun hi=> .some fun _=>⟨h4,by have:=D5 hi;simp only;omega⟩
   have hi:=CZ hi
   refine T.bind (Fi h0 hi) fun c hc=>T.cond (fun _=>?_) fun hb=>?_
   ·rw [wr om om]
    exact ih _ _ om om om om h4
   ·have hb:=B0 hb
    refine T.bind (Fi h0 hi) fun c' _=>?_
    have inner: ∀(j:Nat) (p:Int) (b:Bool),i≤p→p≤t.length→(t.length:Int) - p<j→(p=i∨i<p)→T (EJ N t l i (CX N t k) j p b) fun x=>x.2=0→LV x.1:=by
     intro j
     induction j with
     |zero=>intro p b _ _ _;omega
     |succ j ihj=>
      intro p b hp1 hp2 hp3 hp4
      show T (FU N t l i (CX N t k) (EJ N t l i (CX N t k) j) p b) _
      unfold FU
      have on:p<t.length→T (Ed N t l i (CX N t k) p b (EJ N t l i (CX N t k) j) true) fun x=>x.2=0→LV x.1:=by
       intro hp
       unfold Ed Hl
       rw [wr (x:=p+1) om om]
       refine T.cond (fun _=>T.bind (Fi om hp) fun d _=>T.cond (fun _=>ihj _ _ om om om om) fun _=>ihj _ _ om om om om) fun h=>by cases h
      have off:i<p→T (Ed N t l i (CX N t k) p b (EJ N t l i (CX N t k) j) false) fun x=>x.2=0→LV x.1:=by
       intro hp
       unfold Ed
       refine T.cond (fun h=>by cases h) fun _=>T.bind (NY h0 om hp2) fun u hu=>?_
       have hul:u.length≤t.length:=by subst hu;simp;omega
       refine T.bind (YC om om) fun x hx=>T.cond (fun _=> .some fun h=>by cases h) fun h=>?_
       have hx:=hx (J1 h)
       refine T.bind (Gy om (by simp;omega)) fun _ _=>ih _ _ om om om (by simp;omega) fun v hv=>?_
       rcases List.mem_append.1 hv with hv|hv
       ·exact h4 v hv
       ·simp at hv;subst hv;exact ⟨hx.1,by have:=hx.2;omega⟩
      refine T.cond (fun hp=>?_) fun hp=>?_
      ·have hp:=CZ hp
       refine T.cond (fun _=>on hp) fun _=>T.bind (Fi om hp) fun d hd=>?_
       cases hne:(((d.toNat:Nat):Int) != (((32:UInt8).toNat:Nat):Int))
       ·have hne:=J1 hne
        refine off ?_
        rcases hp4 with rfl|hp4
        ·rw [hd] at hc;cases hc;exact absurd hne hb
        ·exact hp4
       ·exact on hp
      ·have hp:=D5 hp
       exact off om
    exact inner N i _ om om om (.inl rfl)
 exact outer N [] 0 om om om (by simp) (by simp)
theorem AAF{N:Nat}{a:GZ}(hl:a.args.length≤1048576)(hN:20000000≤N):T (CD N a) fun x=>x.2.2=true→WP x.1∧LV x.2.1:=by
 unfold CD Gh JJ
 refine T.bind (P:=fun l=>l=⟨32768,32768,32768,32768⟩) (.some rfl) fun l hlm=>?_
 subst hlm
 refine T.bind (X7 om a.text) fun x hx=>T.bind (ZE hl om) fun y hy=>T.cond (fun h=> .some fun h'=>?_) fun _=> .some fun h'=>by cases h'
 exact ⟨hx (CH h),hy (CH h')⟩
end Fth
namespace Fth
open Go
theorem Ev.up{p:Nat→Prop}(k:Nat)(h:Ev p):Ev fun N=>p (N+k):=let ⟨n,hn⟩:=h;⟨n,fun N hN=>hn _ om⟩
theorem Ev.down{p:Nat→Prop}(k:Nat)(h:Ev fun N=>p (N+k)):Ev p:=by
 obtain ⟨n,hn⟩:=h
 refine ⟨n+k,fun N hN=>?_⟩
 have:=hn (N - k) om
 dsimp only at this
 rwa [Nat.sub_add_cancel om] at this
def hd(p:AM)(nm:List UInt8):Option AO:=p.funcs.find? fun f=>f.name==nm
def fnd(nm:List UInt8):Nm→Option Th
 | .nil=>none
 | .bind n t o=>bif n==nm then some t else fnd nm o
 | .letrec n e o=>bif n==nm then some (.later e (.letrec n e o)) else fnd nm o
theorem SA{nm:List UInt8}{ρ:Nm}{th:Th}(h:fnd nm ρ=some th):Ev fun N=>Dk N ρ nm=some th∧GO N ρ nm=some th:=by
 revert h
 refine Nm.rec (motive_1:=fun ρ=>fnd nm ρ=some th→Ev fun N=>Dk N ρ nm=some th∧GO N ρ nm=some th) (motive_2:=fun _=>True) ?_ ?_ ?_ ?_ ?_ ?_ ρ
 ·intro h;cases h
 ·intro n t o _ ih h
  rw [fnd] at h
  cases hn:(n==nm)
  ·rw [hn] at h
   refine Ev.down 1 ((ih h).mono fun N hN=>?_)
   constructor
   ·show (bif !(n==nm) then EX nm N o else some t)=_
    rw [hn];exact hN.1
   ·show (bif !(n==nm) then Gt nm N o else some t)=_
    rw [hn];exact hN.2
  ·rw [hn] at h
   refine Ev.down 1 (Ev.all fun N=>?_)
   constructor
   ·show (bif !(n==nm) then EX nm N o else some t)=_
    rw [hn];exact h
   ·show (bif !(n==nm) then Gt nm N o else some t)=_
    rw [hn];exact h
 ·intro n e o ih h
  rw [fnd] at h
  cases hn:(n==nm)
  ·rw [hn] at h
   refine Ev.down 1 ((ih h).mono fun N hN=>?_)
   constructor
   ·show (bif !(n==nm) then EX nm N o else some (.later e (.letrec n e o)))=_
    rw [hn];exact hN.1
   ·show (bif !(n==nm) then Gt nm N o else some (.later e (.letrec n e o)))=_
    rw [hn];exact hN.2
  ·rw [hn] at h
   refine Ev.down 1 (Ev.all fun N=>?_)
   constructor
   ·show (bif !(n==nm) then EX nm N o else some (.later e (.letrec n e o)))=_
    rw [hn];exact h
   ·show (bif !(n==nm) then Gt nm N o else some (.later e (.letrec n e o)))=_
    rw [hn];exact h
 ·trivial
 ·intros;trivial
 ·intros;trivial
def Ti(ρ:Nm):List AJ→List AE→Nm→Nm
 |x::ps,a::bs,acc=>Ti ρ ps bs (.bind x.name (.later a ρ) acc)
 |_,_,acc=>acc
def Ap(op:Int)(args:List AG)(r:AG×Int):Prop:=∀N,2^54≤N→EK N op args=some r∧Dc N op args=some r
def fin(r:AG×Int):Except Int Aw:=bif r.2 != 0 then .error r.2 else .ok ⟨r.1,.nil,.nil⟩
def plain(v:AG):Except Int Aw:= .ok ⟨v,.nil,.nil⟩
inductive Lk(p:AM)(m:Nat):Nat→AE→Nm→Except Int Aw→Nat→Prop
 |fuel {c e ρ} (h:m≤c):Lk p m c e ρ (.error 60) c
 |num {c e ρ} (h:c<m) (ho:e.op=1):Lk p m c e ρ (plain ⟨1,e.num,false,[]⟩) (c+1)
 |tru {c e ρ} (h:c<m) (ho:e.op=2):Lk p m c e ρ (plain ⟨2,(0,0),true,[]⟩) (c+1)
 |fls {c e ρ} (h:c<m) (ho:e.op=3):Lk p m c e ρ (plain ⟨2,(0,0),false,[]⟩) (c+1)
 |nil {c e ρ} (h:c<m) (ho:e.op=4):Lk p m c e ρ (plain ⟨3,(0,0),false,[]⟩) (c+1)
 |fail {c e ρ} (h:c<m) (ho:e.op=5):Lk p m c e ρ (.error 52) (c+1)
 |vdone {c e ρ x} (h:c<m) (ho:e.op=6) (hf:fnd e.name ρ=some (.done x.plain x.head x.tail)):Lk p m c e ρ (.ok x) (c+1)
 |vlater {c e ρ e' ρ' r c'} (h:c<m) (ho:e.op=6) (hf:fnd e.name ρ=some (.later e' ρ')) (h1:Lk p m (c+1) e' ρ' r c'):Lk p m c e ρ r c'
 |call {c e ρ f r c'} (h:c<m) (ho:e.op=7) (hf:hd p e.name=some f) (hl:f.params.length=e.args.length) (h1:Lk p m (c+1) f.body (Ti ρ f.params e.args .nil) r c'):Lk p m c e ρ r c'
 |cons {c e ρ a b} (h:c<m) (ho:e.op=18) (ha:e.args=[a,b]):Lk p m c e ρ (.ok ⟨v0,.later a ρ,.later b ρ⟩) (c+1)
 |ifE {c e ρ a b d y c'} (h:c<m) (ho:e.op=19) (ha:e.args=[a,b,d]) (h1:Lk p m (c+1) a ρ (.error y) c'):Lk p m c e ρ (.error y) c'
 |ifT {c e ρ a b d x c1 r c'} (h:c<m) (ho:e.op=19) (ha:e.args=[a,b,d]) (h1:Lk p m (c+1) a ρ (.ok x) c1) (hb:x.plain.bool=true) (h2:Lk p m c1 b ρ r c'):Lk p m c e ρ r c'
 |ifF {c e ρ a b d x c1 r c'} (h:c<m) (ho:e.op=19) (ha:e.args=[a,b,d]) (h1:Lk p m (c+1) a ρ (.ok x) c1) (hb:x.plain.bool=false) (h2:Lk p m c1 d ρ r c'):Lk p m c e ρ r c'
 |caE {c e ρ a b d y c'} (h:c<m) (ho:e.op=20) (ha:e.args=[a,b,d]) (h1:Lk p m (c+1) a ρ (.error y) c'):Lk p m c e ρ (.error y) c'
 |caN {c e ρ a b d x c1 r c'} (h:c<m) (ho:e.op=20) (ha:e.args=[a,b,d]) (h1:Lk p m (c+1) a ρ (.ok x) c1) (hb:x.head.isNil=true) (h2:Lk p m c1 b ρ r c'):Lk p m c e ρ r c'
 |caC {c e ρ a b d x c1 r c'} (h:c<m) (ho:e.op=20) (ha:e.args=[a,b,d]) (h1:Lk p m (c+1) a ρ (.ok x) c1) (hb:x.head.isNil=false) (h2:Lk p m c1 d (.bind e.tail x.tail (.bind e.name x.head ρ)) r c'):Lk p m c e ρ r c'
 |lt {c e ρ a b r c'} (h:c<m) (ho:e.op=21) (ha:e.args=[a,b]) (h1:Lk p m (c+1) b (.letrec e.name a ρ) r c'):Lk p m c e ρ r c'
 |stE {c e ρ a b y c'} (h:c<m) (ho:e.op=22) (ha:e.args=[a,b]) (h1:Lk p m (c+1) a ρ (.error y) c'):Lk p m c e ρ (.error y) c'
 |stV {c e ρ a b x c1 r c'} (h:c<m) (ho:e.op=22) (ha:e.args=[a,b]) (h1:Lk p m (c+1) a ρ (.ok x) c1) (h2:Lk p m c1 b (.bind e.name (.done x.plain x.head x.tail) ρ) r c'):Lk p m c e ρ r c'
 |unE {c e ρ a y c'} (h:c<m) (ho:14≤e.op∧e.op≤17) (ha:e.args=[a]) (h1:Lk p m (c+1) a ρ (.error y) c'):Lk p m c e ρ (.error y) c'
 |un {c e ρ a x c' r} (h:c<m) (ho:14≤e.op∧e.op≤17) (ha:e.args=[a]) (h1:Lk p m (c+1) a ρ (.ok x) c') (hr:Ap e.op [x.plain] r):Lk p m c e ρ (fin r) c'
 |biE {c e ρ a b y c'} (h:c<m) (ho:8≤e.op∧e.op≤13) (ha:e.args=[a,b]) (h1:Lk p m (c+1) a ρ (.error y) c'):Lk p m c e ρ (.error y) c'
 |biE2 {c e ρ a b x c1 y c'} (h:c<m) (ho:8≤e.op∧e.op≤13) (ha:e.args=[a,b]) (h1:Lk p m (c+1) a ρ (.ok x) c1) (h2:Lk p m c1 b ρ (.error y) c'):Lk p m c e ρ (.error y) c'
 |bi {c e ρ a b x c1 z c' r} (h:c<m) (ho:8≤e.op∧e.op≤13) (ha:e.args=[a,b]) (h1:Lk p m (c+1) a ρ (.ok x) c1) (h2:Lk p m c1 b ρ (.ok z) c') (hr:Ap e.op [x.plain,z.plain] r):Lk p m c e ρ (fin r) c'
theorem PD{α:Type}(r:Except Int α){β:Type}(b:β):Jd r (fun y=>some ((Except.error y:Except Int α),b)) (fun x=>some ((Except.ok x:Except Int α),b))=some (r,b):=by cases r<;>rfl
def Mpp(p:AM)(mp:Aq):Prop:=∀nm f,hd p nm=some f→idx p.funcs (Cr mp nm)=some f
section
variable{φ:Ac}{N:Nat}{fs:List AO}{c m:Int}{mp:Aq}{e:AE}{ρ:Nm}
theorem K0(h:c<m):BH φ N fs c m mp e ρ=Cd φ N fs c m mp e ρ:=by
 unfold BH
 rw [show decide (c≥m)=false from decide_eq_false om];rfl
theorem JS(h:(8≤e.op∧e.op≤17)∨(19≤e.op∧e.op≤22)):Cd φ N fs c m mp e ρ=φ.mean_run_parts fs (IntKind.i64.wrap (c+1)) m mp e ρ:=by
 unfold Cd K6
 rw [show (e.op==1)=false by simp;omega,show (e.op==2)=false by simp;omega,show (e.op==3)=false by simp;omega,show (e.op==4)=false by simp;omega,show (e.op==5)=false by simp;omega,show (e.op==6)=false by simp;omega,show (e.op==7)=false by simp;omega,show (e.op==18)=false by simp;omega]
 simp only [cond_false]
 cases φ.mean_run_parts fs (IntKind.i64.wrap (c+1)) m mp e ρ with
 |none=>rfl
 |some x=>exact PD x.1 x.2
end
section
variable{p:AM}{mp:Aq}{m:Nat}
theorem Vi(hp:WP p)(hmp:Mpp p mp)(hm:m≤16384){c:Nat}{e:AE}{ρ:Nm}{r:Except Int Aw}{c':Nat}(h:Lk p m c e ρ r c'):
  Ev fun N=>mean_run_look N p.funcs c m mp e ρ=some (r,p.funcs,(c':Int),(m:Int)):=by
 have w1: ∀c:Nat,c<m→IntKind.i64.wrap ((c:Int)+1)=((c+1:Nat):Int):=fun c h=>by rw [wr om om];omega
 have lt: ∀c:Nat,c<m→(c:Int)< (m:Int):=fun c h=>om
 induction h with
 | @fuel c e ρ h=>
  refine Ev.down 1 (Ev.all fun N=>?_)
  show BH _ N p.funcs c m mp e ρ=_
  unfold BH
  rw [show decide ((c:Int)≥(m:Int))=true from decide_eq_true om];rfl
 | @num c e ρ h ho=>
  refine Ev.down 1 (Ev.all fun N=>?_)
  show BH _ N p.funcs c m mp e ρ=_
  rw [K0 (lt c h)];unfold Cd;rw [ho,w1 c h];rfl
 | @tru c e ρ h ho=>
  refine Ev.down 1 (Ev.all fun N=>?_)
  show BH _ N p.funcs c m mp e ρ=_
  rw [K0 (lt c h)];unfold Cd;rw [ho,w1 c h];rfl
 | @fls c e ρ h ho=>
  refine Ev.down 1 (Ev.all fun N=>?_)
  show BH _ N p.funcs c m mp e ρ=_
  rw [K0 (lt c h)];unfold Cd;rw [ho,w1 c h];rfl
 | @nil c e ρ h ho=>
  refine Ev.down 1 (Ev.all fun N=>?_)
  show BH _ N p.funcs c m mp e ρ=_
  rw [K0 (lt c h)];unfold Cd;rw [ho,w1 c h];rfl
 | @fail c e ρ h ho=>
  refine Ev.down 1 (Ev.all fun N=>?_)
  show BH _ N p.funcs c m mp e ρ=_
  rw [K0 (lt c h)];unfold Cd;rw [ho,w1 c h];rfl
 | @vdone c e ρ x h ho hf=>
  refine Ev.down 2 (((SA hf).up 1).mono fun N hN=>?_)
  show BH _ (N+1) p.funcs c m mp e ρ=_
  rw [K0 (lt c h)];unfold Cd;rw [ho,w1 c h]
  show ((Dk (N+1) ρ e.name).bind fun x1087=>_)=_
  rw [hN.1];rfl
 | @vlater c e ρ e' ρ' r c' h ho hf _ ih=>
  refine Ev.down 3 ((((SA hf).up 2).and ih).mono fun N hN=>?_)
  show BH _ (N+2) p.funcs c m mp e ρ=_
  rw [K0 (lt c h)];unfold Cd;rw [ho,w1 c h]
  show ((Dk (N+2) ρ e.name).bind fun x1087=>_)=_
  rw [hN.1.1]
  show (((mean_run_look N p.funcs ((c+1:Nat):Int) m mp e' ρ').bind fun x29=>Jd x29.1 (fun y43=>some ((Except.error y43:Except Int Aw),x29.2.1,x29.2.2.1,x29.2.2.2)) fun r45=>some ((Except.ok r45:Except Int Aw),x29.2.1,x29.2.2.1,x29.2.2.2)).bind fun x1098=>Jd x1098.1 (fun y1116=>some ((Except.error y1116:Except Int Aw),x1098.2.1,x1098.2.2.1,x1098.2.2.2)) fun r1118=>some ((Except.ok r1118:Except Int Aw),x1098.2.1,x1098.2.2.1,x1098.2.2.2))=_
  rw [hN.2,Option.bind_some]
  dsimp only
  rw [PD,Option.bind_some]
  exact PD _ _
 | @call c e ρ f r c' h ho hf hl _ ih=>
  have hfm:f∈p.funcs:=List.mem_of_find?_eq_some hf
  have hps:=(hp.fns f hfm).pars
  have loop: ∀(N k i:Nat) (acc:Nm),i≤f.params.length→f.params.length<i+k→mean_run_look N p.funcs ((c+1:Nat):Int) m mp f.body (Ti ρ (f.params.drop i) (e.args.drop i) acc)=some (r,p.funcs,(c':Int),(m:Int))→
    GL (Ac.at N) p.funcs c m mp e ρ f k acc (i:Int)=some (r,p.funcs,(c':Int),(m:Int)):=by
   intro N k
   induction k with
   |zero=>intro i acc _ _;omega
   |succ k ihk=>
    intro i acc hi hk hN
    show JL _ p.funcs c m mp e ρ f (GL _ p.funcs c m mp e ρ f k) acc i=_
    unfold JL
    cases hd':decide ((i:Int)< (f.params.length:Int))
    ·have hd':=D5 hd'
     have hi':i=f.params.length:=om
     rw [cond_false,w1 c h,Py]
     have e1:f.params.drop i=[]:=by rw [hi'];exact List.drop_length
     rw [e1] at hN
     have e2:Ti ρ [] (e.args.drop i) acc=acc:=by cases e.args.drop i<;>rfl
     rw [e2] at hN
     show ((mean_run_look N p.funcs ((c+1:Nat):Int) m mp f.body acc).bind fun x1655=>_)=_
     rw [hN]
     exact PD _ _
    ·have hd':=CZ hd'
     have i1:i<f.params.length:=om
     have i2:i<e.args.length:=om
     obtain ⟨x,hx,hx'⟩:=Fi (xs:=f.params) (i:=(i:Int)) om hd'
     obtain ⟨a,ha,ha'⟩:=Fi (xs:=e.args) (i:=(i:Int)) om om
     rw [cond_true,hx,Option.bind_some,ha,Option.bind_some,wr om om,show (i:Int)+1=((i+1:Nat):Int) by omega]
     refine ihk (i+1) (.bind x.name (.later a ρ) acc) om om ?_
     have e1:f.params.drop i=x::f.params.drop (i+1):=by
      rw [List.drop_eq_getElem_cons i1];congr 1
      have:=List.getElem?_eq_getElem i1
      rw [Int.toNat_natCast,this] at hx';exact Option.some.inj hx'
     have e2:e.args.drop i=a::e.args.drop (i+1):=by
      rw [List.drop_eq_getElem_cons i2];congr 1
      have:=List.getElem?_eq_getElem i2
      rw [Int.toNat_natCast,this] at ha';exact Option.some.inj ha'
     rw [e1,e2] at hN
     exact hN
  refine Ev.down 1 ((ih.and (M0 (f.params.length+1))).mono fun N hN=>?_)
  show BH _ N p.funcs c m mp e ρ=_
  rw [K0 (lt c h)];unfold Cd;rw [ho]
  show ((idx p.funcs (Cr mp e.name)).bind fun x1151=>GL _ p.funcs c m mp e ρ x1151 N Nm.nil 0)=_
  rw [hmp _ _ hf,Option.bind_some]
  exact loop N N 0 .nil om om hN.1
 | @cons c e ρ a b h ho ha=>
  refine Ev.down 1 (Ev.all fun N=>?_)
  show BH _ N p.funcs c m mp e ρ=_
  rw [K0 (lt c h)];unfold Cd;rw [ho,w1 c h,ha];rfl
 | @ifE c e ρ a b d y c' h ho ha _ ih=>
  refine Ev.down 2 (ih.mono fun N hN=>?_)
  show BH _ (N+1) p.funcs c m mp e ρ=_
  rw [K0 (lt c h),JS om,w1 c h]
  show A6 (Ac.at N) N p.funcs ((c+1:Nat):Int) m mp e ρ=_
  unfold A6;rw [ho,ha]
  show ((mean_run_look N p.funcs ((c+1:Nat):Int) m mp a ρ).bind fun x51=>_)=_
  rw [hN];rfl
 | @ifT c e ρ a b d x c1 r c' h ho ha _ hb _ ih1 ih2=>
  refine Ev.down 2 ((ih1.and ih2).mono fun N hN=>?_)
  show BH _ (N+1) p.funcs c m mp e ρ=_
  rw [K0 (lt c h),JS om,w1 c h]
  show A6 (Ac.at N) N p.funcs ((c+1:Nat):Int) m mp e ρ=_
  unfold A6;rw [ho,ha]
  show ((mean_run_look N p.funcs ((c+1:Nat):Int) m mp a ρ).bind fun x51=>Jd x51.1 _ fun r67=>bif r67.plain.bool then _ else _)=_
  rw [hN.1,Option.bind_some]
  show (bif x.plain.bool then ((mean_run_look N p.funcs (c1:Int) m mp b ρ).bind fun x107=>_) else _)=_
  rw [hb,cond_true,hN.2]
  exact PD _ _
 | @ifF c e ρ a b d x c1 r c' h ho ha _ hb _ ih1 ih2=>
  refine Ev.down 2 ((ih1.and ih2).mono fun N hN=>?_)
  show BH _ (N+1) p.funcs c m mp e ρ=_
  rw [K0 (lt c h),JS om,w1 c h]
  show A6 (Ac.at N) N p.funcs ((c+1:Nat):Int) m mp e ρ=_
  unfold A6;rw [ho,ha]
  show ((mean_run_look N p.funcs ((c+1:Nat):Int) m mp a ρ).bind fun x51=>Jd x51.1 _ fun r67=>bif r67.plain.bool then _ else _)=_
  rw [hN.1,Option.bind_some]
  show (bif x.plain.bool then _ else ((mean_run_look N p.funcs (c1:Int) m mp d ρ).bind fun x107=>_))=_
  rw [hb,cond_false,hN.2]
  exact PD _ _
 | @caE c e ρ a b d y c' h ho ha _ ih=>
  refine Ev.down 2 (ih.mono fun N hN=>?_)
  show BH _ (N+1) p.funcs c m mp e ρ=_
  rw [K0 (lt c h),JS om,w1 c h]
  show A6 (Ac.at N) N p.funcs ((c+1:Nat):Int) m mp e ρ=_
  unfold A6;rw [ho,ha]
  show ((mean_run_look N p.funcs ((c+1:Nat):Int) m mp a ρ).bind fun x51=>_)=_
  rw [hN];rfl
 | @caN c e ρ a b d x c1 r c' h ho ha _ hb _ ih1 ih2=>
  refine Ev.down 2 ((ih1.and ih2).mono fun N hN=>?_)
  show BH _ (N+1) p.funcs c m mp e ρ=_
  rw [K0 (lt c h),JS om,w1 c h]
  show A6 (Ac.at N) N p.funcs ((c+1:Nat):Int) m mp e ρ=_
  unfold A6;rw [ho,ha]
  show ((mean_run_look N p.funcs ((c+1:Nat):Int) m mp a ρ).bind fun x51=>Jd x51.1 _ fun r67=>bif Th.isNil r67.head then _ else _)=_
  rw [hN.1,Option.bind_some]
  show (bif Th.isNil x.head then ((mean_run_look N p.funcs (c1:Int) m mp b ρ).bind fun x107=>_) else _)=_
  rw [hb,cond_true,hN.2]
  exact PD _ _
 | @caC c e ρ a b d x c1 r c' h ho ha _ hb _ ih1 ih2=>
  refine Ev.down 2 ((ih1.and ih2).mono fun N hN=>?_)
  show BH _ (N+1) p.funcs c m mp e ρ=_
  rw [K0 (lt c h),JS om,w1 c h]
  show A6 (Ac.at N) N p.funcs ((c+1:Nat):Int) m mp e ρ=_
  unfold A6;rw [ho,ha]
  show ((mean_run_look N p.funcs ((c+1:Nat):Int) m mp a ρ).bind fun x51=>Jd x51.1 _ fun r67=>bif Th.isNil r67.head then _ else _)=_
  rw [hN.1,Option.bind_some]
  show (bif Th.isNil x.head then _ else ((mean_run_look N p.funcs (c1:Int) m mp d (.bind e.tail x.tail (.bind e.name x.head ρ))).bind fun x107=>_))=_
  rw [hb,cond_false,hN.2]
  exact PD _ _
 | @lt c e ρ a b r c' h ho ha _ ih=>
  refine Ev.down 2 (ih.mono fun N hN=>?_)
  show BH _ (N+1) p.funcs c m mp e ρ=_
  rw [K0 (lt c h),JS om,w1 c h]
  show A6 (Ac.at N) N p.funcs ((c+1:Nat):Int) m mp e ρ=_
  unfold A6;rw [ho,ha]
  have ea:JU a=some a:=rfl
  rw [show ((21:Int)==19)=false from rfl,cond_false,show ((21:Int)==20)=false from rfl,cond_false,show ((21:Int)==21)=true from rfl,cond_true,show idx [a,b] 0=some a from rfl,Option.bind_some,ea,Option.bind_some,show idx [a,b] 1=some b from rfl,Option.bind_some]
  show ((mean_run_look N p.funcs ((c+1:Nat):Int) m mp b (.letrec e.name a ρ)).bind fun x662=>_)=_
  rw [hN]
  exact PD _ _
 | @stE c e ρ a b y c' h ho ha _ ih=>
  refine Ev.down 2 (ih.mono fun N hN=>?_)
  show BH _ (N+1) p.funcs c m mp e ρ=_
  rw [K0 (lt c h),JS om,w1 c h]
  show A6 (Ac.at N) N p.funcs ((c+1:Nat):Int) m mp e ρ=_
  unfold A6;rw [ho,ha]
  show ((mean_run_look N p.funcs ((c+1:Nat):Int) m mp a ρ).bind fun x51=>_)=_
  rw [hN];rfl
 | @stV c e ρ a b x c1 r c' h ho ha _ _ ih1 ih2=>
  refine Ev.down 2 ((ih1.and ih2).mono fun N hN=>?_)
  show BH _ (N+1) p.funcs c m mp e ρ=_
  rw [K0 (lt c h),JS om,w1 c h]
  show A6 (Ac.at N) N p.funcs ((c+1:Nat):Int) m mp e ρ=_
  unfold A6;rw [ho,ha]
  show ((mean_run_look N p.funcs ((c+1:Nat):Int) m mp a ρ).bind fun x51=>_)=_
  rw [hN.1,Option.bind_some]
  show ((mean_run_look N p.funcs (c1:Int) m mp b (.bind e.name (.done x.plain x.head x.tail) ρ)).bind fun x107=>_)=_
  rw [hN.2]
  exact PD _ _
 | @unE c e ρ a y c' h ho ha _ ih=>
  refine Ev.down 5 ((ih.up 3).mono fun N hN=>?_)
  show BH _ (N+4) p.funcs c m mp e ρ=_
  rw [K0 (lt c h),JS om,w1 c h]
  show A6 (Ac.at (N+3)) (N+3) p.funcs ((c+1:Nat):Int) m mp e ρ=_
  unfold A6
  rw [show (e.op==19)=false by simp;omega,show (e.op==20)=false by simp;omega,show (e.op==21)=false by simp;omega,show (e.op==22)=false by simp;omega]
  show BW _ (N+3) mp e ρ _ [] 0 p.funcs ((c+1:Nat):Int) m=_
  unfold BW
  rw [ha]
  show ((mean_run_look (N+3) p.funcs ((c+1:Nat):Int) m mp a ρ).bind fun x51=>_)=_
  rw [hN];rfl
 | @un c e ρ a x c' r h ho ha _ hr ih=>
  refine Ev.down 5 (((ih.up 3).and (M0 (2^54))).mono fun N hN=>?_)
  show BH _ (N+4) p.funcs c m mp e ρ=_
  rw [K0 (lt c h),JS om,w1 c h]
  show A6 (Ac.at (N+3)) (N+3) p.funcs ((c+1:Nat):Int) m mp e ρ=_
  unfold A6
  rw [show (e.op==19)=false by simp;omega,show (e.op==20)=false by simp;omega,show (e.op==21)=false by simp;omega,show (e.op==22)=false by simp;omega]
  have hA:=(hr (N+3) (by have:=hN.2;omega)).1
  generalize hop:e.op=op at*
  show BW _ (N+3) mp e ρ (DU (Ac.at (N+3)) (N+3) mp e ρ (N+2)) [] 0 p.funcs ((c+1:Nat):Int) m=_
  unfold BW
  rw [ha]
  show ((mean_run_look (N+3) p.funcs ((c+1:Nat):Int) m mp a ρ).bind fun x51=>_)=_
  rw [hN.1,Option.bind_some]
  show BW _ (N+3) mp e ρ (DU (Ac.at (N+3)) (N+3) mp e ρ (N+1)) [x.plain] 1 p.funcs (c':Int) m=_
  unfold BW
  rw [ha,hop]
  show ((EK (N+3) op [x.plain]).bind fun x1312=>bif (x1312.2 != 0) then _ else _)=_
  rw [hA,Option.bind_some,fin]
  cases (r.2 != 0)<;>rfl
 | @biE c e ρ a b y c' h ho ha _ ih=>
  refine Ev.down 5 ((ih.up 3).mono fun N hN=>?_)
  show BH _ (N+4) p.funcs c m mp e ρ=_
  rw [K0 (lt c h),JS om,w1 c h]
  show A6 (Ac.at (N+3)) (N+3) p.funcs ((c+1:Nat):Int) m mp e ρ=_
  unfold A6
  rw [show (e.op==19)=false by simp;omega,show (e.op==20)=false by simp;omega,show (e.op==21)=false by simp;omega,show (e.op==22)=false by simp;omega]
  show BW _ (N+3) mp e ρ _ [] 0 p.funcs ((c+1:Nat):Int) m=_
  unfold BW
  rw [ha]
  show ((mean_run_look (N+3) p.funcs ((c+1:Nat):Int) m mp a ρ).bind fun x51=>_)=_
  rw [hN];rfl
 | @biE2 c e ρ a b x c1 y c' h ho ha _ _ ih1 ih2=>
  refine Ev.down 5 (((ih1.up 3).and (ih2.up 3)).mono fun N hN=>?_)
  show BH _ (N+4) p.funcs c m mp e ρ=_
  rw [K0 (lt c h),JS om,w1 c h]
  show A6 (Ac.at (N+3)) (N+3) p.funcs ((c+1:Nat):Int) m mp e ρ=_
  unfold A6
  rw [show (e.op==19)=false by simp;omega,show (e.op==20)=false by simp;omega,show (e.op==21)=false by simp;omega,show (e.op==22)=false by simp;omega]
  show BW _ (N+3) mp e ρ (DU (Ac.at (N+3)) (N+3) mp e ρ (N+2)) [] 0 p.funcs ((c+1:Nat):Int) m=_
  unfold BW
  rw [ha]
  show ((mean_run_look (N+3) p.funcs ((c+1:Nat):Int) m mp a ρ).bind fun x51=>_)=_
  rw [hN.1,Option.bind_some]
  show BW _ (N+3) mp e ρ (DU (Ac.at (N+3)) (N+3) mp e ρ (N+1)) [x.plain] 1 p.funcs (c1:Int) m=_
  unfold BW
  rw [ha]
  show ((mean_run_look (N+3) p.funcs (c1:Int) m mp b ρ).bind fun x51=>_)=_
  rw [hN.2];rfl
 | @bi c e ρ a b x c1 z c' r h ho ha _ _ hr ih1 ih2=>
  refine Ev.down 5 ((((ih1.up 3).and (ih2.up 3)).and (M0 (2^54))).mono fun N hN=>?_)
  show BH _ (N+4) p.funcs c m mp e ρ=_
  rw [K0 (lt c h),JS om,w1 c h]
  show A6 (Ac.at (N+3)) (N+3) p.funcs ((c+1:Nat):Int) m mp e ρ=_
  unfold A6
  rw [show (e.op==19)=false by simp;omega,show (e.op==20)=false by simp;omega,show (e.op==21)=false by simp;omega,show (e.op==22)=false by simp;omega]
  have hA:=(hr (N+3) (by have:=hN.2;omega)).1
  generalize hop:e.op=op at*
  show BW _ (N+3) mp e ρ (DU (Ac.at (N+3)) (N+3) mp e ρ (N+2)) [] 0 p.funcs ((c+1:Nat):Int) m=_
  unfold BW
  rw [ha]
  show ((mean_run_look (N+3) p.funcs ((c+1:Nat):Int) m mp a ρ).bind fun x51=>_)=_
  rw [hN.1.1,Option.bind_some]
  show BW _ (N+3) mp e ρ (DU (Ac.at (N+3)) (N+3) mp e ρ (N+1)) [x.plain] 1 p.funcs (c1:Int) m=_
  unfold BW
  rw [ha]
  show ((mean_run_look (N+3) p.funcs (c1:Int) m mp b ρ).bind fun x51=>_)=_
  rw [hN.1.2,Option.bind_some]
  show BW _ (N+3) mp e ρ (DU (Ac.at (N+3)) (N+3) mp e ρ N) [x.plain,z.plain] 2 p.funcs (c':Int) m=_
  unfold BW
  rw [ha,hop]
  show ((EK (N+3) op [x.plain,z.plain]).bind fun x1312=>bif (x1312.2 != 0) then _ else _)=_
  rw [hA,Option.bind_some,fin]
  cases (r.2 != 0)<;>rfl
end
end Fth
namespace Fth
open Go
def th0:Th:= .later ⟨0,[],[],0,(0,0),[],0⟩ .nil
def f0:AO:=⟨[],[],0,⟨0,[],[],0,(0,0),[],0⟩,0⟩
def hdR(o:Option AO):AO×Bool:=match o with |some f=>(f,true)|none=>(f0,false)
theorem Lg{α:Type}{l:List α}{i:Nat}{x:α}(h:l[i]?=some x):l.drop i=x::l.drop (i+1):=by
 obtain ⟨hi,rfl⟩:=List.getElem?_eq_some_iff.1 h
 exact List.drop_eq_getElem_cons hi
theorem SB{p:AM}{nm:List UInt8}{N:Nat}(hl:p.funcs.length≤1000000)(hN:p.funcs.length+2≤N):Gk N p nm=some (hdR (hd p nm)):=by
 have loop: ∀(k i:Nat),i≤p.funcs.length→p.funcs.length<i+k→JZ p nm k (i:Int)=some (hdR ((p.funcs.drop i).find? fun f=>f.name==nm)):=by
  intro k
  induction k with
  |zero=>intro i _ _;omega
  |succ k ih=>
   intro i hi hk
   show Kp p nm (JZ p nm k) i=_
   unfold Kp
   cases hc:decide ((i:Int)< (p.funcs.length:Int))
   ·have hc:=D5 hc
    rw [cond_false,List.drop_eq_nil_of_le om];rfl
   ·have hc:=CZ hc
    obtain ⟨f,hf,hf'⟩:=Fi (xs:=p.funcs) (i:=(i:Int)) om hc
    rw [cond_true,hf,Option.bind_some,wr om om,show (i:Int)+1=((i+1:Nat):Int) by omega,Lg (by rwa [Int.toNat_natCast] at hf'),List.find?_cons]
    cases hn:(f.name==nm)
    ·rw [cond_false]
     exact ih (i+1) om om
    ·rfl
 have:=loop N 0 om om
 rw [List.drop_zero] at this
 exact this
def rth:Except Int Aw→Th
 | .ok x=> .done x.plain x.head x.tail
 | .error _=>th0
def rwy:Except Int Aw→Int
 | .ok _=>0
 | .error y=>y
section
variable{p:AM}{m:Nat}
theorem PE{c:Nat}{e:AE}{ρ:Nm}{r:Except Int Aw}{c':Nat}(h:Lk p m c e ρ r c'): ∀y,r= .error y→y≠0:=by
 induction h with
 |fuel=>rintro y ⟨⟩;decide
 |fail=>rintro y ⟨⟩;decide
 |num=>rintro y ⟨⟩
 |tru=>rintro y ⟨⟩
 |fls=>rintro y ⟨⟩
 |nil=>rintro y ⟨⟩
 |vdone=>rintro y ⟨⟩
 |cons=>rintro y ⟨⟩
 |vlater _ _ _ _ ih=>exact ih
 |call _ _ _ _ _ ih=>exact ih
 |ifE _ _ _ _ ih=>exact ih
 |ifT _ _ _ _ _ _ _ ih=>exact ih
 |ifF _ _ _ _ _ _ _ ih=>exact ih
 |caE _ _ _ _ ih=>exact ih
 |caN _ _ _ _ _ _ _ ih=>exact ih
 |caC _ _ _ _ _ _ _ ih=>exact ih
 |lt _ _ _ _ ih=>exact ih
 |stE _ _ _ _ ih=>exact ih
 |stV _ _ _ _ _ _ ih=>exact ih
 |unE _ _ _ _ ih=>exact ih
 |biE _ _ _ _ ih=>exact ih
 |biE2 _ _ _ _ _ _ ih=>exact ih
 | @un c e ρ a x c' r=>
  intro y hy
  unfold fin at hy
  cases hr:(r.2 != 0)
  ·rw [hr] at hy;cases hy
  ·rw [hr] at hy;cases hy;exact Lf hr
 | @bi c e ρ a b x c1 z c' r=>
  intro y hy
  unfold fin at hy
  cases hr:(r.2 != 0)
  ·rw [hr] at hy;cases hy
  ·rw [hr] at hy;cases hy;exact Lf hr
theorem Xe{N:Nat}{c y:Int}{e:AE}{ρ:Nm}(hy:y≠0):ref11_Machine_look (N+1) ⟨p,m,c,y⟩ e ρ=some (th0,⟨p,m,c,y⟩):=by
 show BI _ N ⟨p,m,c,y⟩ e ρ=_
 unfold BI
 rw [show (((AT.mk p m c y).why != 0))=true by simpa using hy];rfl
theorem QP{φ:AP}{N c:Nat}{e:AE}{ρ:Nm}(h:c<m)(h1:e.op≠1):BI φ N ⟨p,m,c,0⟩ e ρ=Bv φ N ⟨p,m,c,0⟩ e ρ (bif e.op==2 then e.op==2 else e.op==3):=by
 unfold BI
 rw [show (((AT.mk p m c 0).why != 0))=false from rfl,cond_false,show decide ((AT.mk p m c 0).cost≥(AT.mk p m c 0).most)=false from decide_eq_false (by simp only;omega),cond_false,show (e.op==1)=false by simpa using h1,cond_false]
 cases (e.op==2)<;>rfl
theorem ABi{φ:AP}{N c:Nat}{e:AE}{ρ:Nm}(h:c<m)(hm:m≤16384)(ho:(8≤e.op∧e.op≤17)∨(19≤e.op∧e.op≤22)):BI φ N ⟨p,m,c,0⟩ e ρ=φ.ref11_Machine_inside ⟨p,m,((c+1:Nat):Int),0⟩ e ρ:=by
 rw [QP h om,show (e.op==2)=false by simp;omega,show (e.op==3)=false by simp;omega]
 unfold Bv
 rw [cond_false,cond_false,show (e.op==4)=false by simp;omega,show (e.op==5)=false by simp;omega,show (e.op==6)=false by simp;omega,show (e.op==7)=false by simp;omega,show (e.op==18)=false by simp;omega]
 simp only [cond_false]
 rw [wr om om,show (c:Int)+1=((c+1:Nat):Int) by omega]
 show ((φ.ref11_Machine_inside ⟨p,m,((c+1:Nat):Int),0⟩ e ρ).bind fun x824=>some (x824.1,x824.2))=_
 cases φ.ref11_Machine_inside ⟨p,m,((c+1:Nat):Int),0⟩ e ρ<;>rfl
theorem XJ(hp:WP p)(hm:m≤16384){c:Nat}{e:AE}{ρ:Nm}{r:Except Int Aw}{c':Nat}(h:Lk p m c e ρ r c'):
  Ev fun N=>ref11_Machine_look N ⟨p,m,c,0⟩ e ρ=some (rth r,⟨p,m,c',rwy r⟩):=by
 have w1: ∀c:Nat,c<m→IntKind.i64.wrap ((c:Int)+1)=((c+1:Nat):Int):=fun c h=>by rw [wr om om];omega
 have go: ∀{c:Nat} {e:AE} {ρ:Nm} {r:Except Int Aw} {c':Nat},c<m→(8≤e.op∧e.op≤17)∨(19≤e.op∧e.op≤22)→(Ev fun N=>BL (AP.at N) N ⟨p,m,((c+1:Nat):Int),0⟩ e ρ=some (rth r,⟨p,m,c',rwy r⟩))→
   Ev fun N=>ref11_Machine_look N ⟨p,m,c,0⟩ e ρ=some (rth r,⟨p,m,c',rwy r⟩):=fun {c e ρ r c'} h ho hE=>by
  refine Ev.down 2 (hE.mono fun N hN=>?_)
  show BI (AP.at (N+1)) (N+1) ⟨p,m,c,0⟩ e ρ=_
  rw [ABi h hm ho]
  exact hN
 induction h with
 | @fuel c e ρ h=>
  refine Ev.down 1 (Ev.all fun N=>?_)
  show BI _ N ⟨p,m,c,0⟩ e ρ=_
  unfold BI
  rw [show (((AT.mk p m c 0).why != 0))=false from rfl,cond_false,show decide ((AT.mk p m c 0).cost≥(AT.mk p m c 0).most)=true from decide_eq_true (by simp only;omega)];rfl
 | @num c e ρ h ho=>
  refine Ev.down 1 (Ev.all fun N=>?_)
  show BI _ N ⟨p,m,c,0⟩ e ρ=_
  unfold BI
  rw [show (((AT.mk p m c 0).why != 0))=false from rfl,cond_false,show decide ((AT.mk p m c 0).cost≥(AT.mk p m c 0).most)=false from decide_eq_false (by simp only;omega),ho,w1 c h];rfl
 | @tru c e ρ h ho=>
  refine Ev.down 1 (Ev.all fun N=>?_)
  show BI _ N ⟨p,m,c,0⟩ e ρ=_
  rw [QP h om];unfold Bv;rw [ho,w1 c h];rfl
 | @fls c e ρ h ho=>
  refine Ev.down 1 (Ev.all fun N=>?_)
  show BI _ N ⟨p,m,c,0⟩ e ρ=_
  rw [QP h om];unfold Bv;rw [ho,w1 c h];rfl
 | @nil c e ρ h ho=>
  refine Ev.down 1 (Ev.all fun N=>?_)
  show BI _ N ⟨p,m,c,0⟩ e ρ=_
  rw [QP h om];unfold Bv;rw [ho,w1 c h];rfl
 | @fail c e ρ h ho=>
  refine Ev.down 1 (Ev.all fun N=>?_)
  show BI _ N ⟨p,m,c,0⟩ e ρ=_
  rw [QP h om];unfold Bv;rw [ho,w1 c h];rfl
 | @vdone c e ρ x h ho hf=>
  refine Ev.down 2 (((SA hf).up 1).mono fun N hN=>?_)
  show BI _ (N+1) ⟨p,m,c,0⟩ e ρ=_
  rw [QP h om];unfold Bv;rw [ho,w1 c h]
  show ((GO (N+1) ρ e.name).bind fun x132=>_)=_
  rw [hN.2];rfl
 | @vlater c e ρ e' ρ' r c' h ho hf _ ih=>
  refine Ev.down 2 ((((SA hf).up 1).and ih).mono fun N hN=>?_)
  show BI _ (N+1) ⟨p,m,c,0⟩ e ρ=_
  rw [QP h om];unfold Bv;rw [ho,w1 c h]
  show ((GO (N+1) ρ e.name).bind fun x132=>_)=_
  rw [hN.1.2]
  show (((ref11_Machine_look N ⟨p,m,((c+1:Nat):Int),0⟩ e' ρ').bind fun x131=>some (x131.1,x131.2)).bind fun x142=>some (x142.1,x142.2))=_
  rw [hN.2];rfl
 | @call c e ρ f r c' h ho hf hl _ ih=>
  have hfm:f∈p.funcs:=List.mem_of_find?_eq_some hf
  have hps:=(hp.fns f hfm).pars
  have hpl:=hp.len
  have loop: ∀(N k i:Nat) (acc:Nm),i≤f.params.length→f.params.length<i+k→ref11_Machine_look N ⟨p,m,((c+1:Nat):Int),0⟩ f.body (Ti ρ (f.params.drop i) (e.args.drop i) acc)=some (rth r,⟨p,m,c',rwy r⟩)→
    Eo (AP.at N) ⟨p,m,c,0⟩ e ρ f.params f.body.op f.body.name f.body.tail f.body.type_ f.body.num f.body.args f.body.at_ k acc (i:Int)=some (rth r,⟨p,m,c',rwy r⟩):=by
   intro N k
   induction k with
   |zero=>intro i acc _ _;omega
   |succ k ihk=>
    intro i acc hi hk hN
    show Gu _ ⟨p,m,c,0⟩ e ρ f.params f.body.op f.body.name f.body.tail f.body.type_ f.body.num f.body.args f.body.at_ (Eo _ ⟨p,m,c,0⟩ e ρ f.params f.body.op f.body.name f.body.tail f.body.type_ f.body.num f.body.args f.body.at_ k) acc i=_
    unfold Gu
    cases hd':decide ((i:Int)< (e.args.length:Int))
    ·have hd':=D5 hd'
     have hi':i=f.params.length:=om
     rw [cond_false,w1 c h,Py]
     have e1:f.params.drop i=[]:=by rw [hi'];exact List.drop_length
     rw [e1] at hN
     have e2:Ti ρ [] (e.args.drop i) acc=acc:=by cases e.args.drop i<;>rfl
     rw [e2] at hN
     show ((ref11_Machine_look N ⟨p,m,((c+1:Nat):Int),0⟩ f.body acc).bind fun x493=>_)=_
     rw [hN];rfl
    ·have hd':=CZ hd'
     have i1:i<f.params.length:=om
     obtain ⟨x,hx,hx'⟩:=Fi (xs:=f.params) (i:=(i:Int)) om om
     obtain ⟨a,ha,ha'⟩:=Fi (xs:=e.args) (i:=(i:Int)) om hd'
     rw [cond_true,hx,Option.bind_some,ha,Option.bind_some,wr om om,show (i:Int)+1=((i+1:Nat):Int) by omega]
     refine ihk (i+1) (.bind x.name (.later a ρ) acc) om om ?_
     rw [Int.toNat_natCast] at hx' ha'
     rw [Lg hx',Lg ha'] at hN
     exact hN
  refine Ev.down 1 ((ih.and (M0 (f.params.length+p.funcs.length+2))).mono fun N hN=>?_)
  show BI _ N ⟨p,m,c,0⟩ e ρ=_
  rw [QP h om];unfold Bv;rw [ho]
  show ((Gk N p e.name).bind fun x551=>I1 (AP.at N) N ⟨p,m,c,0⟩ e ρ x551.1.params x551.1.body.op x551.1.body.name x551.1.body.tail x551.1.body.type_ x551.1.body.num x551.1.body.args x551.1.body.at_)=_
  rw [SB om om,hf,Option.bind_some]
  exact loop N N 0 .nil om om hN.1
 | @cons c e ρ a b h ho ha=>
  refine Ev.down 1 (Ev.all fun N=>?_)
  show BI _ N ⟨p,m,c,0⟩ e ρ=_
  rw [QP h om];unfold Bv I2;rw [ho,w1 c h,ha];rfl
 | @ifE c e ρ a b d y c' h ho ha h1 ih=>
  have hy:=PE h1 y rfl
  refine go h om (Ev.down 1 ((ih.up 1).mono fun N hN=>?_))
  unfold BL;rw [ho,ha]
  show ((ref11_Machine_look (N+1) ⟨p,m,((c+1:Nat):Int),0⟩ a ρ).bind fun x44=>_)=_
  rw [hN]
  show ((ref11_Machine_look (N+1) ⟨p,m,c',y⟩ d ρ).bind fun x154=>_)=_
  rw [Xe hy];rfl
 | @ifT c e ρ a b d x c1 r c' h ho ha _ hb _ ih1 ih2=>
  refine go h om ((ih1.and ih2).mono fun N hN=>?_)
  unfold BL;rw [ho,ha]
  show ((ref11_Machine_look N ⟨p,m,((c+1:Nat):Int),0⟩ a ρ).bind fun x44=>_)=_
  rw [hN.1]
  show (bif x.plain.bool then ((ref11_Machine_look N ⟨p,m,c1,0⟩ b ρ).bind fun x154=>some (x154.1,x154.2)) else _)=_
  rw [hb,cond_true,hN.2];rfl
 | @ifF c e ρ a b d x c1 r c' h ho ha _ hb _ ih1 ih2=>
  refine go h om ((ih1.and ih2).mono fun N hN=>?_)
  unfold BL;rw [ho,ha]
  show ((ref11_Machine_look N ⟨p,m,((c+1:Nat):Int),0⟩ a ρ).bind fun x44=>_)=_
  rw [hN.1]
  show (bif x.plain.bool then _ else ((ref11_Machine_look N ⟨p,m,c1,0⟩ d ρ).bind fun x154=>some (x154.1,x154.2)))=_
  rw [hb,cond_false,hN.2];rfl
 | @caE c e ρ a b d y c' h ho ha h1 ih=>
  have hy:=PE h1 y rfl
  refine go h om (Ev.down 1 ((ih.up 1).mono fun N hN=>?_))
  unfold BL;rw [ho,ha]
  show ((ref11_Machine_look (N+1) ⟨p,m,((c+1:Nat):Int),0⟩ a ρ).bind fun x44=>_)=_
  rw [hN,Option.bind_some]
  show (bif (y != 0) then CV (AP.at (N+1)) e ρ (th0,⟨p,m,c',y⟩) true else _)=_
  rw [show (y != 0)=true by simpa using hy,cond_true]
  unfold CV
  rw [ha]
  show ((ref11_Machine_look (N+1) ⟨p,m,c',y⟩ b ρ).bind fun x273=>_)=_
  rw [Xe hy];rfl
 | @caN c e ρ a b d x c1 r c' h ho ha _ hb _ ih1 ih2=>
  refine go h om ((ih1.and ih2).mono fun N hN=>?_)
  unfold BL;rw [ho,ha]
  show ((ref11_Machine_look N ⟨p,m,((c+1:Nat):Int),0⟩ a ρ).bind fun x44=>_)=_
  rw [hN.1,Option.bind_some]
  show CV (AP.at N) e ρ (.done x.plain x.head x.tail,⟨p,m,c1,0⟩) (!!x.head.isNil)=_
  unfold CV
  rw [ha,hb]
  show ((ref11_Machine_look N ⟨p,m,c1,0⟩ b ρ).bind fun x273=>_)=_
  rw [hN.2];rfl
 | @caC c e ρ a b d x c1 r c' h ho ha _ hb _ ih1 ih2=>
  refine go h om ((ih1.and ih2).mono fun N hN=>?_)
  unfold BL;rw [ho,ha]
  show ((ref11_Machine_look N ⟨p,m,((c+1:Nat):Int),0⟩ a ρ).bind fun x44=>_)=_
  rw [hN.1,Option.bind_some]
  show CV (AP.at N) e ρ (.done x.plain x.head x.tail,⟨p,m,c1,0⟩) (!!x.head.isNil)=_
  unfold CV
  rw [ha,hb]
  show ((ref11_Machine_look N ⟨p,m,c1,0⟩ d (.bind e.tail x.tail (.bind e.name x.head ρ))).bind fun x273=>_)=_
  rw [hN.2];rfl
 | @lt c e ρ a b r c' h ho ha _ ih=>
  refine go h om (ih.mono fun N hN=>?_)
  unfold BL
  rw [ho,ha,show ((21:Int)==19)=false from rfl,cond_false,show ((21:Int)==20)=false from rfl,cond_false,show ((21:Int)==21)=true from rfl,cond_true,show idx [a,b] 0=some a from rfl,Option.bind_some,show idx [a,b] 1=some b from rfl,Option.bind_some]
  show ((ref11_Machine_look N ⟨p,m,((c+1:Nat):Int),0⟩ b (.letrec e.name a ρ)).bind fun x735=>_)=_
  rw [hN];rfl
 | @stE c e ρ a b y c' h ho ha h1 ih=>
  have hy:=PE h1 y rfl
  refine go h om (Ev.down 1 ((ih.up 1).mono fun N hN=>?_))
  unfold BL;rw [ho,ha]
  show ((ref11_Machine_look (N+1) ⟨p,m,((c+1:Nat):Int),0⟩ a ρ).bind fun x44=>_)=_
  rw [hN]
  show ((ref11_Machine_look (N+1) ⟨p,m,c',y⟩ b (.bind e.name th0 ρ)).bind fun x154=>_)=_
  rw [Xe hy];rfl
 | @stV c e ρ a b x c1 r c' h ho ha _ _ ih1 ih2=>
  refine go h om ((ih1.and ih2).mono fun N hN=>?_)
  unfold BL;rw [ho,ha]
  show ((ref11_Machine_look N ⟨p,m,((c+1:Nat):Int),0⟩ a ρ).bind fun x44=>_)=_
  rw [hN.1]
  show ((ref11_Machine_look N ⟨p,m,c1,0⟩ b (.bind e.name (.done x.plain x.head x.tail) ρ)).bind fun x154=>_)=_
  rw [hN.2];rfl
 | @unE c e ρ a y c' h ho ha h1 ih=>
  have hy:=PE h1 y rfl
  refine go h om (Ev.down 3 ((ih.up 3).mono fun N hN=>?_))
  unfold BL
  rw [show (e.op==19)=false by simp;omega,show (e.op==20)=false by simp;omega,show (e.op==21)=false by simp;omega,show (e.op==22)=false by simp;omega]
  show Au (AP.at (N+3)) (N+3) e ρ (BM (AP.at (N+3)) (N+3) e ρ (N+2)) [] 0 p.funcs m ((c+1:Nat):Int) 0=_
  unfold Au
  rw [ha]
  show ((ref11_Machine_look (N+3) ⟨p,m,((c+1:Nat):Int),0⟩ a ρ).bind fun x44=>_)=_
  rw [hN,Option.bind_some]
  show Au (AP.at (N+3)) (N+3) e ρ (BM (AP.at (N+3)) (N+3) e ρ (N+1)) [MD] 1 p.funcs m c' y=_
  unfold Au
  rw [ha]
  show (bif (y != 0) then _ else _)=_
  rw [show (y != 0)=true by simpa using hy];rfl
 | @un c e ρ a x c' r h ho ha _ hr ih=>
  refine go h om (Ev.down 3 (((ih.up 3).and (M0 (2^54))).mono fun N hN=>?_))
  unfold BL
  rw [show (e.op==19)=false by simp;omega,show (e.op==20)=false by simp;omega,show (e.op==21)=false by simp;omega,show (e.op==22)=false by simp;omega]
  have hA:=(hr (N+3) (by have:=hN.2;omega)).2
  generalize hop:e.op=op at*
  show Au (AP.at (N+3)) (N+3) e ρ (BM (AP.at (N+3)) (N+3) e ρ (N+2)) [] 0 p.funcs m ((c+1:Nat):Int) 0=_
  unfold Au
  rw [ha]
  show ((ref11_Machine_look (N+3) ⟨p,m,((c+1:Nat):Int),0⟩ a ρ).bind fun x44=>_)=_
  rw [hN.1,Option.bind_some]
  show Au (AP.at (N+3)) (N+3) e ρ (BM (AP.at (N+3)) (N+3) e ρ (N+1)) [x.plain] 1 p.funcs m c' 0=_
  unfold Au
  rw [ha,hop]
  show ((Dc (N+3) op [x.plain]).bind fun x1299=>bif (x1299.2 != 0) then _ else _)=_
  rw [hA,Option.bind_some,fin]
  cases (r.2 != 0)<;>rfl
 | @biE c e ρ a b y c' h ho ha h1 ih=>
  have hy:=PE h1 y rfl
  refine go h om (Ev.down 3 ((ih.up 3).mono fun N hN=>?_))
  unfold BL
  rw [show (e.op==19)=false by simp;omega,show (e.op==20)=false by simp;omega,show (e.op==21)=false by simp;omega,show (e.op==22)=false by simp;omega]
  show Au (AP.at (N+3)) (N+3) e ρ (BM (AP.at (N+3)) (N+3) e ρ (N+2)) [] 0 p.funcs m ((c+1:Nat):Int) 0=_
  unfold Au
  rw [ha]
  show ((ref11_Machine_look (N+3) ⟨p,m,((c+1:Nat):Int),0⟩ a ρ).bind fun x44=>_)=_
  rw [hN,Option.bind_some]
  show Au (AP.at (N+3)) (N+3) e ρ (BM (AP.at (N+3)) (N+3) e ρ (N+1)) [MD] 1 p.funcs m c' y=_
  unfold Au
  rw [ha]
  show ((ref11_Machine_look (N+3) ⟨p,m,c',y⟩ b ρ).bind fun x44=>_)=_
  rw [Xe hy,Option.bind_some]
  show Au (AP.at (N+3)) (N+3) e ρ (BM (AP.at (N+3)) (N+3) e ρ N) [MD,MD] 2 p.funcs m c' y=_
  unfold Au
  rw [ha]
  show (bif (y != 0) then _ else _)=_
  rw [show (y != 0)=true by simpa using hy];rfl
 | @biE2 c e ρ a b x c1 y c' h ho ha _ h2 ih1 ih2=>
  have hy:=PE h2 y rfl
  refine go h om (Ev.down 3 (((ih1.up 3).and (ih2.up 3)).mono fun N hN=>?_))
  unfold BL
  rw [show (e.op==19)=false by simp;omega,show (e.op==20)=false by simp;omega,show (e.op==21)=false by simp;omega,show (e.op==22)=false by simp;omega]
  show Au (AP.at (N+3)) (N+3) e ρ (BM (AP.at (N+3)) (N+3) e ρ (N+2)) [] 0 p.funcs m ((c+1:Nat):Int) 0=_
  unfold Au
  rw [ha]
  show ((ref11_Machine_look (N+3) ⟨p,m,((c+1:Nat):Int),0⟩ a ρ).bind fun x44=>_)=_
  rw [hN.1,Option.bind_some]
  show Au (AP.at (N+3)) (N+3) e ρ (BM (AP.at (N+3)) (N+3) e ρ (N+1)) [x.plain] 1 p.funcs m c1 0=_
  unfold Au
  rw [ha]
  show ((ref11_Machine_look (N+3) ⟨p,m,c1,0⟩ b ρ).bind fun x44=>_)=_
  rw [hN.2,Option.bind_some]
  show Au (AP.at (N+3)) (N+3) e ρ (BM (AP.at (N+3)) (N+3) e ρ N) [x.plain,MD] 2 p.funcs m c' y=_
  unfold Au
  rw [ha]
  show (bif (y != 0) then _ else _)=_
  rw [show (y != 0)=true by simpa using hy];rfl
 | @bi c e ρ a b x c1 z c' r h ho ha _ _ hr ih1 ih2=>
  refine go h om (Ev.down 3 ((((ih1.up 3).and (ih2.up 3)).and (M0 (2^54))).mono fun N hN=>?_))
  unfold BL
  rw [show (e.op==19)=false by simp;omega,show (e.op==20)=false by simp;omega,show (e.op==21)=false by simp;omega,show (e.op==22)=false by simp;omega]
  have hA:=(hr (N+3) (by have:=hN.2;omega)).2
  generalize hop:e.op=op at*
  show Au (AP.at (N+3)) (N+3) e ρ (BM (AP.at (N+3)) (N+3) e ρ (N+2)) [] 0 p.funcs m ((c+1:Nat):Int) 0=_
  unfold Au
  rw [ha]
  show ((ref11_Machine_look (N+3) ⟨p,m,((c+1:Nat):Int),0⟩ a ρ).bind fun x44=>_)=_
  rw [hN.1.1,Option.bind_some]
  show Au (AP.at (N+3)) (N+3) e ρ (BM (AP.at (N+3)) (N+3) e ρ (N+1)) [x.plain] 1 p.funcs m c1 0=_
  unfold Au
  rw [ha]
  show ((ref11_Machine_look (N+3) ⟨p,m,c1,0⟩ b ρ).bind fun x44=>_)=_
  rw [hN.1.2,Option.bind_some]
  show Au (AP.at (N+3)) (N+3) e ρ (BM (AP.at (N+3)) (N+3) e ρ N) [x.plain,z.plain] 2 p.funcs m c' 0=_
  unfold Au
  rw [ha,hop]
  show ((Dc (N+3) op [x.plain,z.plain]).bind fun x1299=>bif (x1299.2 != 0) then _ else _)=_
  rw [hA,Option.bind_some,fin]
  cases (r.2 != 0)<;>rfl
end
end Fth
namespace Fth
open Go
def Q1(Γ:List AJ)(nm:List UInt8):Option Int:=(Γ.find? fun x=>x.name==nm).map (·.type_)
def Win(Γ:List AJ)(e:AE)(i:Nat):List AJ:=
 if e.op=21∨(e.op=22∧i=1) then ⟨e.name,e.type_,0⟩::Γ else if e.op=20∧i=2 then ⟨e.tail,3,0⟩::⟨e.name,1,0⟩::Γ else Γ
def Wan(p:AM)(e:AE)(i:Nat)(t:Int):Int:=
 if e.op=14 then 2 else if e.op=18∧i=1 then 3 else if e.op=7 then (match (hd p e.name).bind fun f=>f.params[i]? with |some x=>x.type_|none=>1)
 else if e.op=19 then (if i=0 then 2 else t) else if e.op=20 then (if i=0 then 3 else t) else if e.op=21∨e.op=22 then (if i=0 then e.type_ else t) else 1
structure OwT(p:AM)(Γ:List AJ)(e:AE)(t:Int):Prop where
 n:(e.op=1∨(8≤e.op∧e.op≤11)∨(15≤e.op∧e.op≤17))→t=1
 b:(e.op=2∨e.op=3∨(12≤e.op∧e.op≤14))→t=2
 l:(e.op=4∨e.op=18)→t=3
 f:e.op=5→t=e.type_
 v:e.op=6→Q1 Γ e.name=some t
 c:e.op=7→∃f,hd p e.name=some f∧f.params.length=e.args.length∧f.type_=t
inductive WTy(p:AM):List AJ→AE→Int→Prop
 |mk (Γ:List AJ) (e:AE) (t:Int) (ho:OwT p Γ e t) (hs: ∀i a,e.args[i]?=some a→WTy p (Win Γ e i) a (Wan p e i t)):WTy p Γ e t
theorem WTy.own{p Γ e t}(h:WTy p Γ e t):OwT p Γ e t:=by cases h;assumption
theorem WTy.sub{p Γ e t}(h:WTy p Γ e t): ∀i a,e.args[i]?=some a→WTy p (Win Γ e i) a (Wan p e i t):=by cases h;assumption
def ch:Th→Nat
 | .done _ _ t=>1+ch t
 |_=>0
mutual
inductive EOK(p:AM)(L:Nat):List AJ→Nm→Prop
 |nil:EOK p L [] .nil
 |bind (x:AJ) (Γ:List AJ) (t:Th) (ρ:Nm) (ht:TOK p L x.type_ t) (he:EOK p L Γ ρ):EOK p L (x::Γ) (.bind x.name t ρ)
 |letrec (x:AJ) (Γ:List AJ) (e:AE) (ρ:Nm) (hw:WTy p (x::Γ) e x.type_) (hwe:WE e) (ht:1≤x.type_∧x.type_≤3) (he:EOK p L Γ ρ):EOK p L (x::Γ) (.letrec x.name e ρ)
inductive TOK(p:AM)(L:Nat):Int→Th→Prop
 |val (t:Int) (v:AG) (hv:VV t v) (h3:t=3→v.list=[]):TOK p L t (.done v .nil .nil)
 |pair (h t:Th) (h1:TOK p L 1 h) (h2:TOK p L 3 t) (hc:ch t<L):TOK p L 3 (.done v0 h t)
 |later (Γ:List AJ) (ρ:Nm) (e:AE) (t:Int) (he:EOK p L Γ ρ) (hw:WTy p Γ e t) (hwe:WE e) (ht:1≤t∧t≤3):TOK p L t (.later e ρ)
end
section
variable{p:AM}{L m:Nat}
theorem Xf{t:Int}{h:Th}(hh:TOK p L t h):h.isNil=false:=by cases hh<;>rfl
theorem QQ{t:Int}{x:Aw}(h:TOK p L t (.done x.plain x.head x.tail))(h3:t≠3):VV t x.plain:=by
 obtain ⟨pl,hh,tl⟩:=x
 cases h with
 |val _ _ hv _=>exact hv
 |pair=>exact absurd rfl h3
theorem ABP{nm:List UInt8}: ∀(Γ:List AJ) (ρ:Nm) (t:Int),EOK p L Γ ρ→Q1 Γ nm=some t→∃th,fnd nm ρ=some th∧TOK p L t th:=by
 intro Γ
 induction Γ with
 |nil=>intro ρ t _ h;simp [Q1] at h
 |cons x Γ ih=>
  intro ρ t he h
  unfold Q1 at h
  rw [List.find?_cons] at h
  cases he with
  |bind _ _ th ρ ht he=>
   rw [fnd]
   cases hn:(x.name==nm)
   ·rw [hn] at h
    exact ih ρ t he h
   ·rw [hn] at h
    cases h
    exact ⟨th,rfl,ht⟩
  |letrec _ _ e ρ hw hwe ht he=>
   rw [fnd]
   cases hn:(x.name==nm)
   ·rw [hn] at h
    exact ih ρ t he h
   ·rw [hn] at h
    cases h
    exact ⟨_,rfl,.later (x::Γ) _ _ _ (.letrec x Γ e ρ hw hwe ht he) hw hwe ht⟩
theorem ZF{Γ:List AJ}{ρ:Nm}(hρ:EOK p L Γ ρ): ∀(ps:List AJ) (zs:List AE) (Δ:List AJ) (acc:Nm),ps.length=zs.length→EOK p L Δ acc→
  (∀(i:Nat) (x:AJ) (a:AE),ps[i]?=some x→zs[i]?=some a→WTy p Γ a x.type_∧WE a∧1≤x.type_∧x.type_≤3)→EOK p L (ps.reverse++Δ) (Ti ρ ps zs acc):=by
 intro ps
 induction ps with
 |nil=>intro zs Δ acc h he _;cases zs with
  |nil=>exact he
  |cons=>cases h
 |cons x ps ih=>
  intro zs Δ acc h he ha
  cases zs with
  |nil=>cases h
  |cons a zs=>
   have h0:=ha 0 x a rfl rfl
   have:=ih zs (x::Δ) (.bind x.name (.later a ρ) acc) (by simpa using h) (.bind x Δ _ acc (.later Γ ρ a x.type_ hρ h0.1 h0.2.1 h0.2.2) he) fun i y b h1 h2=>ha (i+1) y b h1 h2
   rw [List.reverse_cons,List.append_assoc]
   exact this
def Rt(p:AM)(L m:Nat)(t:Int)(r:Except Int Aw)(c c':Nat):Prop:=
 match r with
 | .ok x=>TOK p L t (.done x.plain x.head x.tail)∧c<c'
 | .error y=>(y=60∧c'=m)∨((y=50∨y=51∨y=52)∧c<c')
theorem Rt.back{t t':Int}{r:Except Int Aw}{c c1 c':Nat}(h:Rt p L m t r c1 c')(hc:c≤c1)(ht:t=t'):Rt p L m t' r c c':=by
 subst ht
 cases r with
 |ok x=>exact ⟨h.1,by have:=h.2;omega⟩
 |error y=>exact h.imp id fun h=>⟨h.1,by have:=h.2;omega⟩
theorem Rt.err{t t' y:Int}{c c1 c':Nat}(h:Rt p L m t (.error y) c1 c')(hc:c≤c1):Rt p L m t' (.error y) c c':=
 Or.imp id (fun h=>⟨h.1,by have:=h.2;omega⟩) h
theorem Q2{α:Type}{l:List α}(h:l.length=2): ∃a b,l=[a,b]:=by
 match l,h with
 | [a,b],_=>exact ⟨a,b,rfl⟩
theorem Tj{α:Type}{l:List α}(h:l.length=3): ∃a b c,l=[a,b,c]:=by
 match l,h with
 | [a,b,c],_=>exact ⟨a,b,c,rfl⟩
theorem ABQ{α:Type}{l:List α}(h:l.length=1): ∃a,l=[a]:=by
 match l,h with
 | [a],_=>exact ⟨a,rfl⟩
theorem ZG(hp:WP p)(hS: ∀f∈p.funcs,WTy p f.params.reverse f.body f.type_)(hL:1≤L): ∀(k c:Nat),m - c≤k→c≤m→∀(Γ:List AJ) (e:AE) (ρ:Nm) (t:Int),EOK p L Γ ρ→WTy p Γ e t→WE e→1≤t∧t≤3→
  ∃r c',Lk p m c e ρ r c'∧c≤c'∧c'≤m∧Rt p L m t r c c':=by
 intro k
 induction k with
 |zero=>
  intro c hk hc Γ e ρ t _ _ _ _
  exact ⟨_,_,.fuel om,om,hc,.inl ⟨rfl,om⟩⟩
 |succ k ih=>
  intro c hk hc Γ e ρ t hρ hw he ht
  rcases Nat.lt_or_ge c m with h|h
  rotate_left
  ·exact ⟨_,_,.fuel h,om,hc,.inl ⟨rfl,om⟩⟩
  have ow:=hw.own
  have sb:=hw.sub
  have se:=he.sub
  have mem: ∀{i:Nat} {a:AE},e.args[i]?=some a→WE a:=fun h=>se _ (List.mem_of_getElem? h)
  rcases he.ar with ⟨h1,h2,h3⟩|h7| ⟨h1,h2,h3⟩| ⟨h1,h2,h3⟩| ⟨h1,h3⟩| ⟨h1,h2,h3⟩| ⟨h1,h2,h3⟩
  ·have hh:e.op=1∨e.op=2∨e.op=3∨e.op=4∨e.op=5∨e.op=6:=om
   rcases hh with ho|ho|ho|ho|ho|ho
   ·refine ⟨_,_,.num h ho,om,om,?_,om⟩
    rw [ow.n (.inl ho)]
    exact .val 1 _ (.inl ⟨rfl,rfl,he.num ho,rfl,rfl⟩) fun h=>by cases h
   ·refine ⟨_,_,.tru h ho,om,om,?_,om⟩
    rw [ow.b (.inl ho)]
    exact .val 2 _ (YB _) fun h=>by cases h
   ·refine ⟨_,_,.fls h ho,om,om,?_,om⟩
    rw [ow.b (.inr (.inl ho))]
    exact .val 2 _ (YB _) fun h=>by cases h
   ·refine ⟨_,_,.nil h ho,om,om,?_,om⟩
    rw [ow.l (.inl ho)]
    exact .val 3 _ (.inr (.inr ⟨rfl,rfl,rfl,rfl,by simp⟩)) fun _=>rfl
   ·exact ⟨_,_,.fail h ho,om,om,.inr ⟨.inr (.inr rfl),om⟩⟩
   ·obtain ⟨th,hf,htok⟩:=ABP Γ ρ t hρ (ow.v ho)
    cases th with
    |nil=>cases htok
    |done pl hh tl=>exact ⟨_,_,.vdone (x:=⟨pl,hh,tl⟩) h ho hf,om,om,htok,om⟩
    |later e' ρ'=>
     cases htok with
     |later Γ' _ _ _ he' hw' hwe' ht'=>
      obtain ⟨r,c',h1,h2,h3,h4⟩:=ih (c+1) om om Γ' e' ρ' t he' hw' hwe' ht'
      exact ⟨r,c',.vlater h ho hf h1,om,h3,h4.back om rfl⟩
  ·obtain ⟨f,hf,hl,hft⟩:=ow.c h7
   have hfm:f∈p.funcs:=List.mem_of_find?_eq_some hf
   have hfn:=hp.fns f hfm
   have henv:=ZF hρ f.params e.args [] .nil hl .nil fun i x a hx ha=>by
    have h1:=sb i a ha
    have e1:Win Γ e i=Γ:=by unfold Win;rw [if_neg om,if_neg om]
    have e2:Wan p e i t=x.type_:=by
     unfold Wan
     rw [if_neg om,if_neg om,if_pos h7,hf]
     show (match f.params[i]? with |some x=>x.type_|none=>1)=_
     rw [hx]
    rw [e1,e2] at h1
    exact ⟨h1,mem ha,hfn.ptyp x (List.mem_of_getElem? hx)⟩
   rw [List.append_nil] at henv
   obtain ⟨r,c',h1,h2,h3,h4⟩:=ih (c+1) om om _ f.body _ f.type_ henv (hS f hfm) hfn.body hfn.typ
   exact ⟨r,c',.call h h7 hf hl h1,om,h3,h4.back om hft⟩
  ·
   obtain ⟨a,b,ha⟩:=Q2 h3
   have wa:=sb 0 a (by rw [ha];rfl)
   have wb:=sb 1 b (by rw [ha];rfl)
   have e1: ∀i,Win Γ e i=Γ:=fun i=>by unfold Win;rw [if_neg om,if_neg om]
   have e2: ∀i,Wan p e i t=1:=fun i=>by unfold Wan;rw [if_neg om,if_neg om,if_neg om,if_neg om,if_neg om,if_neg om]
   rw [e1,e2] at wa wb
   obtain ⟨r1,c1,l1,l2,l3,l4⟩:=ih (c+1) om om Γ a ρ 1 hρ wa (mem (i:=0) (by rw [ha];rfl)) om
   cases r1 with
   |error y=>exact ⟨_,c1,.biE h ⟨h1,h2⟩ ha l1,om,l3,l4.err om⟩
   |ok x=>
    obtain ⟨r2,c2,k1,k2,k3,k4⟩:=ih c1 om l3 Γ b ρ 1 hρ wb (mem (i:=1) (by rw [ha];rfl)) om
    cases r2 with
    |error y=>exact ⟨_,c2,.biE2 h ⟨h1,h2⟩ ha l1 k1,om,k3,k4.err om⟩
    |ok z=>
     have vx:VV 1 x.plain:=QQ l4.1 (by decide)
     have vz:VV 1 z.plain:=QQ k4.1 (by decide)
     obtain ⟨r,hr,hA⟩:=Wb (op:=e.op) (args:=[x.plain,z.plain]) (.inl ⟨h1,h2,_,_,vx,vz,rfl⟩)
     refine ⟨fin r,c2,.bi h ⟨h1,h2⟩ ha l1 k1 hA,om,k3,?_⟩
     unfold fin
     rcases hr with ⟨hr0,hv⟩| ⟨hr0,_⟩
     ·rw [show (r.2 != 0)=false by rw [hr0];rfl]
      have hT:opT e.op=t:=by
       unfold opT
       rcases Decidable.em (e.op=12∨e.op=13∨e.op=14) with ho|ho
       ·rw [if_pos ho,ow.b om]
       ·rw [if_neg ho,ow.n om]
      refine ⟨.val t _ (hT▸hv) fun h3=>?_,om⟩
      have:=hT
      unfold opT at this
      split at this<;>omega
     ·rw [show (r.2 != 0)=true by simp;omega]
      exact .inr ⟨om,om⟩
  ·
   obtain ⟨a,ha⟩:=ABQ h3
   have wa:=sb 0 a (by rw [ha];rfl)
   have e1: ∀i,Win Γ e i=Γ:=fun i=>by unfold Win;rw [if_neg om,if_neg om]
   have e2:Wan p e 0 t=if e.op=14 then 2 else 1:=by
    unfold Wan
    rcases Decidable.em (e.op=14) with ho|ho
    ·rw [if_pos ho,if_pos ho]
    ·rw [if_neg ho,if_neg ho,if_neg om,if_neg om,if_neg om,if_neg om,if_neg om]
   rw [e1,e2] at wa
   obtain ⟨r1,c1,l1,l2,l3,l4⟩:=ih (c+1) om om Γ a ρ _ hρ wa (mem (i:=0) (by rw [ha];rfl)) (by split<;>omega)
   cases r1 with
   |error y=>exact ⟨_,c1,.unE h ⟨h1,h2⟩ ha l1,om,l3,l4.err om⟩
   |ok x=>
    have vx:VV (if e.op=14 then 2 else 1) x.plain:=QQ l4.1 (by split<;>decide)
    have hargs:(8≤e.op∧e.op≤13∧∃a b,VV 1 a∧VV 1 b∧[x.plain]=[a,b])∨(e.op=14∧∃a,VV 2 a∧[x.plain]=[a])∨(15≤e.op∧e.op≤17∧∃a,VV 1 a∧[x.plain]=[a]):=by
     rcases Decidable.em (e.op=14) with ho|ho
     ·rw [if_pos ho] at vx;exact .inr (.inl ⟨ho,_,vx,rfl⟩)
     ·rw [if_neg ho] at vx;exact .inr (.inr ⟨om,om,_,vx,rfl⟩)
    obtain ⟨r,hr,hA⟩:=Wb hargs
    refine ⟨fin r,c1,.un h ⟨h1,h2⟩ ha l1 hA,om,l3,?_⟩
    unfold fin
    rcases hr with ⟨hr0,hv⟩| ⟨hr0,_⟩
    ·rw [show (r.2 != 0)=false by rw [hr0];rfl]
     have hT:opT e.op=t:=by
      unfold opT
      rcases Decidable.em (e.op=12∨e.op=13∨e.op=14) with ho|ho
      ·rw [if_pos ho,ow.b om]
      ·rw [if_neg ho,ow.n om]
     refine ⟨.val t _ (hT▸hv) fun h3=>?_,om⟩
     have:=hT
     unfold opT at this
     split at this<;>omega
    ·rw [show (r.2 != 0)=true by simp;omega]
     exact .inr ⟨om,om⟩
  ·
   obtain ⟨a,b,ha⟩:=Q2 h3
   have wa:=sb 0 a (by rw [ha];rfl)
   have wb:=sb 1 b (by rw [ha];rfl)
   have e1: ∀i,Win Γ e i=Γ:=fun i=>by unfold Win;rw [if_neg om,if_neg om]
   have e2:Wan p e 0 t=1:=by unfold Wan;rw [if_neg om,if_neg om,if_neg om,if_neg om,if_neg om,if_neg om]
   have e3:Wan p e 1 t=3:=by unfold Wan;rw [if_neg om,if_pos ⟨h1,rfl⟩]
   rw [e1,e2] at wa
   rw [e1,e3] at wb
   refine ⟨_,_,.cons h h1 ha,om,om,?_,om⟩
   rw [ow.l (.inr h1)]
   exact .pair _ _ (.later Γ ρ a 1 hρ wa (mem (i:=0) (by rw [ha];rfl)) om) (.later Γ ρ b 3 hρ wb (mem (i:=1) (by rw [ha];rfl)) om) (by simp only [ch];omega)
  ·obtain ⟨a,b,d,ha⟩:=Tj h3
   have wa:=sb 0 a (by rw [ha];rfl)
   have wb:=sb 1 b (by rw [ha];rfl)
   have wd:=sb 2 d (by rw [ha];rfl)
   have ma:=mem (i:=0) (a:=a) (by rw [ha];rfl)
   have mb:=mem (i:=1) (a:=b) (by rw [ha];rfl)
   have md:=mem (i:=2) (a:=d) (by rw [ha];rfl)
   rcases (show e.op=19∨e.op=20 by omega) with ho|ho
   ·have e1: ∀i,Win Γ e i=Γ:=fun i=>by unfold Win;rw [if_neg om,if_neg om]
    have e2: ∀i,Wan p e i t=if i=0 then 2 else t:=fun i=>by unfold Wan;rw [if_neg om,if_neg om,if_neg om,if_pos ho]
    rw [e1,e2] at wa wb wd
    obtain ⟨r1,c1,l1,l2,l3,l4⟩:=ih (c+1) om om Γ a ρ 2 hρ wa ma om
    cases r1 with
    |error y=>exact ⟨_,c1,.ifE h ho ha l1,om,l3,l4.err om⟩
    |ok x=>
     cases hb:x.plain.bool
     ·obtain ⟨r2,c2,k1,k2,k3,k4⟩:=ih c1 om l3 Γ d ρ t hρ wd md ht
      exact ⟨r2,c2,.ifF h ho ha l1 hb k1,om,k3,k4.back om rfl⟩
     ·obtain ⟨r2,c2,k1,k2,k3,k4⟩:=ih c1 om l3 Γ b ρ t hρ wb mb ht
      exact ⟨r2,c2,.ifT h ho ha l1 hb k1,om,k3,k4.back om rfl⟩
   ·have e1: ∀i,i≠2→Win Γ e i=Γ:=fun i hi=>by unfold Win;rw [if_neg om,if_neg om]
    have e1':Win Γ e 2=⟨e.tail,3,0⟩::⟨e.name,1,0⟩::Γ:=by unfold Win;rw [if_neg om,if_pos ⟨ho,rfl⟩]
    have e2: ∀i,Wan p e i t=if i=0 then 3 else t:=fun i=>by unfold Wan;rw [if_neg om,if_neg om,if_neg om,if_neg om,if_pos ho]
    rw [e1 _ om,e2] at wa wb
    rw [e1',e2] at wd
    obtain ⟨r1,c1,l1,l2,l3,l4⟩:=ih (c+1) om om Γ a ρ 3 hρ wa ma om
    cases r1 with
    |error y=>exact ⟨_,c1,.caE h ho ha l1,om,l3,l4.err om⟩
    |ok x=>
     obtain ⟨pl,hx,tx⟩:=x
     have hl4:=l4.1
     simp only at hl4
     generalize hT:(3:Int)=T3 at hl4
     cases hl4 with
     |val _ _ hv h3=>
      obtain ⟨r2,c2,k1,k2,k3,k4⟩:=ih c1 om l3 Γ b ρ t hρ wb mb ht
      exact ⟨r2,c2,.caN h ho ha l1 rfl k1,om,k3,k4.back om rfl⟩
     |pair _ _ t1 t2 hc=>
      have henv:EOK p L (⟨e.tail,3,0⟩::⟨e.name,1,0⟩::Γ) (.bind e.tail tx (.bind e.name hx ρ)):= .bind ⟨e.tail,3,0⟩ _ _ _ t2 (.bind ⟨e.name,1,0⟩ _ _ _ t1 hρ)
      obtain ⟨r2,c2,k1,k2,k3,k4⟩:=ih c1 om l3 _ d _ t henv wd md ht
      exact ⟨r2,c2,.caC h ho ha l1 (Xf t1) k1,om,k3,k4.back om rfl⟩
  ·obtain ⟨a,b,ha⟩:=Q2 h3
   have wa:=sb 0 a (by rw [ha];rfl)
   have wb:=sb 1 b (by rw [ha];rfl)
   have ma:=mem (i:=0) (a:=a) (by rw [ha];rfl)
   have mb:=mem (i:=1) (a:=b) (by rw [ha];rfl)
   have e2: ∀i,Wan p e i t=if i=0 then e.type_ else t:=fun i=>by unfold Wan;rw [if_neg om,if_neg om,if_neg om,if_neg om,if_neg om,if_pos om]
   have et:=he.typ om
   rcases (show e.op=21∨e.op=22 by omega) with ho|ho
   ·have e1: ∀i,Win Γ e i=⟨e.name,e.type_,0⟩::Γ:=fun i=>by unfold Win;rw [if_pos (.inl ho)]
    rw [e1,e2] at wa wb
    have henv:EOK p L (⟨e.name,e.type_,0⟩::Γ) (.letrec e.name a ρ):= .letrec ⟨e.name,e.type_,0⟩ Γ a ρ wa ma et hρ
    obtain ⟨r2,c2,k1,k2,k3,k4⟩:=ih (c+1) om om _ b _ t henv wb mb ht
    exact ⟨r2,c2,.lt h ho ha k1,om,k3,k4.back om rfl⟩
   ·have e1:Win Γ e 0=Γ:=by unfold Win;rw [if_neg om,if_neg om]
    have e1':Win Γ e 1=⟨e.name,e.type_,0⟩::Γ:=by unfold Win;rw [if_pos (.inr ⟨ho,rfl⟩)]
    rw [e1,e2] at wa
    rw [e1',e2] at wb
    obtain ⟨r1,c1,l1,l2,l3,l4⟩:=ih (c+1) om om Γ a ρ _ hρ wa ma et
    cases r1 with
    |error y=>exact ⟨_,c1,.stE h ho ha l1,om,l3,l4.err om⟩
    |ok x=>
     have henv:EOK p L (⟨e.name,e.type_,0⟩::Γ) (.bind e.name (.done x.plain x.head x.tail) ρ):= .bind ⟨e.name,e.type_,0⟩ Γ _ ρ l4.1 hρ
     obtain ⟨r2,c2,k1,k2,k3,k4⟩:=ih c1 om l3 _ b _ t henv wb mb ht
     exact ⟨r2,c2,.stV h ho ha l1 k1,om,k3,k4.back om rfl⟩
end
end Fth
namespace Fth
open Go
inductive Tg(p:AM)(m:Nat):Nat→Th→Except Int Aw→Nat→Prop
 |done {c:Nat} {x:Aw}:Tg p m c (.done x.plain x.head x.tail) (.ok x) c
 |later {c e ρ r c'} (h:Lk p m c e ρ r c'):Tg p m c (.later e ρ) r c'
inductive Wl(p:AM)(m:Nat):Nat→Th→Th→List (Nat×Nat)→Except Int AG→Nat→Prop
 |hE {c h t acc y c'} (hb:acc.length≤34000000000) (h1:Tg p m c h (.error y) c'):Wl p m c h t acc (.error y) c'
 |tE {c h t acc x c1 y c'} (hb:acc.length≤34000000000) (h1:Tg p m c h (.ok x) c1) (h2:Tg p m c1 t (.error y) c'):Wl p m c h t acc (.error y) c'
 |stop {c h t acc x c1 z c'} (hb:acc.length≤34000000000) (h1:Tg p m c h (.ok x) c1) (h2:Tg p m c1 t (.ok z) c') (hz:z.head.isNil=true):Wl p m c h t acc (.ok ⟨3,(0,0),false,acc++[x.plain.num]⟩) c'
 |go {c h t acc x c1 z c2 r c'} (hb:acc.length≤34000000000) (h1:Tg p m c h (.ok x) c1) (h2:Tg p m c1 t (.ok z) c2) (hz:z.head.isNil=false) (h3:Wl p m c2 z.head z.tail (acc++[x.plain.num]) r c'):Wl p m c h t acc r c'
inductive Wh(p:AM)(m:Nat):Nat→Aw→Except Int AG→Nat→Prop
 |plain {c x} (hx:x.head.isNil=true):Wh p m c x (.ok x.plain) c
 |list {c x r c'} (hx:x.head.isNil=false) (h:Wl p m c x.head x.tail [] r c'):Wh p m c x r c'
inductive Rn(p:AM)(m:Nat):AE→Nm→Except Int AG→Nat→Prop
 |err {e ρ y c'} (h:Lk p m 0 e ρ (.error y) c'):Rn p m e ρ (.error y) c'
 |val {e ρ x c1 r c'} (h:Lk p m 0 e ρ (.ok x) c1) (h2:Wh p m c1 x r c'):Rn p m e ρ r c'
def rwv:Except Int AG→Int
 | .ok _=>0
 | .error y=>y
section
variable{p:AM}{m:Nat}{mp:Aq}
theorem ZH{c:Nat}{h:Th}{r:Except Int Aw}{c':Nat}(ht:Tg p m c h r c'): ∀y,r= .error y→y≠0:=by
 cases ht with
 |done=>rintro y ⟨⟩
 |later h=>exact PE h
theorem N9(hp:WP p)(hmp:Mpp p mp)(hm:m≤16384){c:Nat}{h:Th}{r:Except Int Aw}{c':Nat}(ht:Tg p m c h r c'):Ev fun N=>mean_callth N p.funcs c m mp h=some (r,p.funcs,(c':Int),(m:Int)):=by
 cases ht with
 |done=>exact Ev.down 1 (Ev.all fun N=>rfl)
 |later h=>
  rename_i e ρ
  refine Ev.down 2 ((Vi hp hmp hm h).mono fun N hN=>?_)
  show ((mean_run_look N p.funcs c m mp e ρ).bind fun x29=>Jd x29.1 (fun y43=>some ((Except.error y43:Except Int Aw),x29.2.1,x29.2.2.1,x29.2.2.2)) fun r45=>some ((Except.ok r45:Except Int Aw),x29.2.1,x29.2.2.1,x29.2.2.2))=_
  rw [hN]
  exact PD _ _
theorem P1(hp:WP p)(hm:m≤16384){c:Nat}{h:Th}{r:Except Int Aw}{c':Nat}(ht:Tg p m c h r c'):Ev fun N=>ref11_Machine_of N ⟨p,m,c,0⟩ h=some (rth r,⟨p,m,c',rwy r⟩):=by
 cases ht with
 |done=>exact Ev.down 1 (Ev.all fun N=>rfl)
 |later h=>
  rename_i e ρ
  refine Ev.down 1 ((XJ hp hm h).mono fun N hN=>?_)
  show ((ref11_Machine_look N ⟨p,m,c,0⟩ e ρ).bind fun x131=>some (x131.1,x131.2))=_
  rw [hN];rfl
theorem AAG{N:Nat}{c y:Int}{h:Th}(hy:y≠0):ref11_Machine_of (N+1) ⟨p,m,c,y⟩ h=some (h,⟨p,m,c,y⟩):=by
 show HR _ N ⟨p,m,c,y⟩ h=_
 unfold HR
 rw [show (((AT.mk p m c y).why != 0))=true by simpa using hy];rfl
theorem Tk{acc:List (Nat×Nat)}{z:Nat×Nat}(h:acc.length≤34000000000):HF 16 acc [z]=some ():=by
 obtain ⟨u,hu,_⟩:=Gy (b:=16) (xs:=acc) (ys:=[z]) (by decide) (by simp;omega)
 exact hu
theorem AAH(hp:WP p)(hmp:Mpp p mp)(hm:m≤16384){c:Nat}{h t:Th}{acc:List (Nat×Nat)}{r:Except Int AG}{c':Nat}(hw:Wl p m c h t acc r c')(hn:h.isNil=false):
  ∃k0,Ev fun N=>∀k,k0≤k→∀(a:Int) (b:Nat×Nat) (d:Bool) (l:List (Nat×Nat)),Dy N mp k p.funcs c m a b d l h t acc=some (r,p.funcs,(c':Int),(m:Int)):=by
 induction hw with
 | @hE c h t acc y c' hb h1=>
  refine ⟨1,(N9 hp hmp hm h1).mono fun N hN k hk a b d l=>?_⟩
  obtain ⟨k,rfl⟩: ∃j,k=j+1:=⟨k - 1,om⟩
  show Ce N mp (Dy N mp k) p.funcs c m a b d l h t acc=_
  unfold Ce
  rw [hn,hN];rfl
 | @tE c h t acc x c1 y c' hb h1 h2=>
  refine ⟨1,((N9 hp hmp hm h1).and (N9 hp hmp hm h2)).mono fun N hN k hk a b d l=>?_⟩
  obtain ⟨k,rfl⟩: ∃j,k=j+1:=⟨k - 1,om⟩
  show Ce N mp (Dy N mp k) p.funcs c m a b d l h t acc=_
  unfold Ce
  rw [hn,hN.1]
  show ((HF 16 acc [x.plain.num]).bind fun _=>(mean_callth N p.funcs c1 m mp t).bind fun x730=>_)=_
  rw [Tk hb,Option.bind_some,hN.2];rfl
 | @stop c h t acc x c1 z c' hb h1 h2 hz=>
  refine ⟨2,((N9 hp hmp hm h1).and (N9 hp hmp hm h2)).mono fun N hN k hk a b d l=>?_⟩
  obtain ⟨k,rfl⟩: ∃j,k=j+2:=⟨k - 2,om⟩
  show Ce N mp (Dy N mp (k+1)) p.funcs c m a b d l h t acc=_
  unfold Ce
  rw [hn,hN.1]
  show ((HF 16 acc [x.plain.num]).bind fun _=>(mean_callth N p.funcs c1 m mp t).bind fun x730=>_)=_
  rw [Tk hb,Option.bind_some,hN.2]
  show Ce N mp (Dy N mp k) p.funcs c' m z.plain.type_ z.plain.num z.plain.bool z.plain.list z.head z.tail (acc++[x.plain.num])=_
  unfold Ce
  rw [hz];rfl
 | @go c h t acc x c1 z c2 r c' hb h1 h2 hz _ ih=>
  obtain ⟨k0,ih⟩:=ih hz
  refine ⟨k0+1,(((N9 hp hmp hm h1).and (N9 hp hmp hm h2)).and ih).mono fun N hN k hk a b d l=>?_⟩
  obtain ⟨k,rfl⟩: ∃j,k=j+1:=⟨k - 1,om⟩
  show Ce N mp (Dy N mp k) p.funcs c m a b d l h t acc=_
  unfold Ce
  rw [hn,hN.1.1]
  show ((HF 16 acc [x.plain.num]).bind fun _=>(mean_callth N p.funcs c1 m mp t).bind fun x730=>_)=_
  rw [Tk hb,Option.bind_some,hN.1.2]
  exact hN.2 k om _ _ _ _
theorem AAI(hp:WP p)(hmp:Mpp p mp)(hm:m≤16384){c:Nat}{x:Aw}{r:Except Int AG}{c':Nat}(hw:Wh p m c x r c'):Ev fun N=>EM N p.funcs c m mp x=some (r,p.funcs,(c':Int),(m:Int)):=by
 cases hw with
 |plain hx=>
  refine Ev.all fun N=>?_
  unfold EM
  rw [hx];rfl
 |list hx h=>
  obtain ⟨k0,h⟩:=AAH hp hmp hm h hx
  refine (h.and (M0 k0)).mono fun N hN=>?_
  unfold EM
  rw [hx]
  exact hN.1 N hN.2 _ _ _ _
theorem ABR(hp:WP p)(hm:m≤16384){c:Nat}{h t:Th}{acc:List (Nat×Nat)}{r:Except Int AG}{c':Nat}(hw:Wl p m c h t acc r c')(hn:h.isNil=false):
  ∃k0,Ev fun N=>∀k,k0≤k→∀(pl:AG),∃v,Bq N k (.done pl h t) p.funcs m c 0 acc=some (v,⟨p,m,c',rwv r⟩)∧∀u,r= .ok u→v=u:=by
 induction hw with
 | @hE c h t acc y c' hb h1=>
  have hy:=ZH h1 y rfl
  refine ⟨2,Ev.down 1 (((P1 hp hm h1).up 1).mono fun N hN k hk pl=>?_)⟩
  obtain ⟨k,rfl⟩: ∃j,k=j+2:=⟨k - 2,om⟩
  refine ⟨⟨3,(0,0),false,acc++[MD.num]⟩,?_,fun u h=>by cases h⟩
  show Bn (N+1) (.done pl h t) p.funcs m c 0 acc (Bq (N+1) (k+1)) (!h.isNil)=_
  unfold Bn
  rw [hn]
  show ((ref11_Machine_of (N+1) ⟨p,m,c,0⟩ h).bind fun x764=>_)=_
  rw [hN]
  show ((HF 16 acc [MD.num]).bind fun _=>(ref11_Machine_of (N+1) ⟨p,m,c',y⟩ t).bind fun x901=>_)=_
  rw [Tk hb,Option.bind_some,AAG hy,Option.bind_some]
  show Cw (N+1) (Bq (N+1) k) t p.funcs m c' y (acc++[MD.num])=_
  unfold Cw
  rw [show (y==0)=false by simpa using hy];rfl
 | @tE c h t acc x c1 y c' hb h1 h2=>
  have hy:=ZH h2 y rfl
  refine ⟨2,(((P1 hp hm h1).and (P1 hp hm h2)).mono fun N hN k hk pl=>?_)⟩
  obtain ⟨k,rfl⟩: ∃j,k=j+2:=⟨k - 2,om⟩
  refine ⟨⟨3,(0,0),false,acc++[x.plain.num]⟩,?_,fun u h=>by cases h⟩
  show Bn N (.done pl h t) p.funcs m c 0 acc (Bq N (k+1)) (!h.isNil)=_
  unfold Bn
  rw [hn]
  show ((ref11_Machine_of N ⟨p,m,c,0⟩ h).bind fun x764=>_)=_
  rw [hN.1]
  show ((HF 16 acc [x.plain.num]).bind fun _=>(ref11_Machine_of N ⟨p,m,c1,0⟩ t).bind fun x901=>_)=_
  rw [Tk hb,Option.bind_some,hN.2,Option.bind_some]
  show Cw N (Bq N k) th0 p.funcs m c' y (acc++[x.plain.num])=_
  unfold Cw
  rw [show (y==0)=false by simpa using hy];rfl
 | @stop c h t acc x c1 z c' hb h1 h2 hz=>
  refine ⟨2,(((P1 hp hm h1).and (P1 hp hm h2)).mono fun N hN k hk pl=>?_)⟩
  obtain ⟨k,rfl⟩: ∃j,k=j+2:=⟨k - 2,om⟩
  refine ⟨⟨3,(0,0),false,acc++[x.plain.num]⟩,?_,fun u h=>by cases h;rfl⟩
  show Bn N (.done pl h t) p.funcs m c 0 acc (Bq N (k+1)) (!h.isNil)=_
  unfold Bn
  rw [hn]
  show ((ref11_Machine_of N ⟨p,m,c,0⟩ h).bind fun x764=>_)=_
  rw [hN.1]
  show ((HF 16 acc [x.plain.num]).bind fun _=>(ref11_Machine_of N ⟨p,m,c1,0⟩ t).bind fun x901=>_)=_
  rw [Tk hb,Option.bind_some,hN.2,Option.bind_some]
  show Bn N (.done z.plain z.head z.tail) p.funcs m c' 0 (acc++[x.plain.num]) (Bq N k) (!z.head.isNil)=_
  unfold Bn
  rw [hz];rfl
 | @go c h t acc x c1 z c2 r c' hb h1 h2 hz _ ih=>
  obtain ⟨k0,ih⟩:=ih hz
  refine ⟨k0+1,((((P1 hp hm h1).and (P1 hp hm h2)).and ih).mono fun N hN k hk pl=>?_)⟩
  obtain ⟨k,rfl⟩: ∃j,k=j+1:=⟨k - 1,om⟩
  obtain ⟨v,hv,hv'⟩:=hN.2 k om z.plain
  refine ⟨v,?_,hv'⟩
  show Bn N (.done pl h t) p.funcs m c 0 acc (Bq N k) (!h.isNil)=_
  unfold Bn
  rw [hn]
  show ((ref11_Machine_of N ⟨p,m,c,0⟩ h).bind fun x764=>_)=_
  rw [hN.1.1]
  show ((HF 16 acc [x.plain.num]).bind fun _=>(ref11_Machine_of N ⟨p,m,c1,0⟩ t).bind fun x901=>_)=_
  rw [Tk hb,Option.bind_some,hN.1.2]
  exact hv
theorem ABS(hp:WP p)(hm:m≤16384){c:Nat}{x:Aw}{r:Except Int AG}{c':Nat}(hw:Wh p m c x r c'):Ev fun N=>∃v,CO N ⟨p,m,c,0⟩ (.done x.plain x.head x.tail)=some (v,⟨p,m,c',rwv r⟩)∧∀u,r= .ok u→v=u:=by
 cases hw with
 |plain hx=>
  refine Ev.all fun N=>⟨x.plain,?_,fun u h=>by cases h;rfl⟩
  show EY N ⟨p,m,c,0⟩ (.done x.plain x.head x.tail) (!!x.head.isNil)=_
  rw [hx];rfl
 |list hx h=>
  obtain ⟨k0,h⟩:=ABR hp hm h hx
  refine (h.and (M0 k0)).mono fun N hN=>?_
  obtain ⟨v,hv,hv'⟩:=hN.1 N hN.2 x.plain
  refine ⟨v,?_,hv'⟩
  show EY N ⟨p,m,c,0⟩ (.done x.plain x.head x.tail) (!!x.head.isNil)=_
  rw [hx]
  exact hv
def Rv(m:Nat)(t:Int)(r:Except Int AG)(c':Nat):Prop:=
 match r with
 | .ok v=>VV t v∧0<c'∧v.list.length≤34000000001
 | .error y=>(y=60∧c'=m)∨((y=50∨y=51∨y=52)∧0<c')
variable{L:Nat}
theorem Q3(hp:WP p)(hS: ∀f∈p.funcs,WTy p f.params.reverse f.body f.type_)(hL:1≤L){c:Nat}(hc:c≤m){t:Int}{h:Th}(ht:TOK p L t h):
  ∃r c',Tg p m c h r c'∧c≤c'∧c'≤m∧(∀y,r= .error y→(y=60∧c'=m)∨((y=50∨y=51∨y=52)∧c<c'))∧(∀x,r= .ok x→TOK p L t (.done x.plain x.head x.tail)∧(c<c'∨(c'=c∧ch x.tail<ch h))):=by
 cases ht with
 |val _ v hv h3=>exact ⟨_,_,.done (x:=⟨v,.nil,.nil⟩),om,hc,fun y h=>(by cases h),fun x h=>by cases h;exact ⟨.val t v hv h3,.inr ⟨rfl,by simp [ch]⟩⟩⟩
 |pair a b h1 h2 h3=>exact ⟨_,_,.done (x:=⟨v0,a,b⟩),om,hc,fun y h=>(by cases h),fun x h=>by cases h;exact ⟨.pair a b h1 h2 h3,.inr ⟨rfl,by simp [ch]⟩⟩⟩
 |later Γ ρ e _ he hw hwe ht=>
  obtain ⟨r,c',l1,l2,l3,l4⟩:=ZG hp hS hL (m - c) c om hc Γ e ρ t he hw hwe ht
  refine ⟨r,c',.later l1,l2,l3,fun y h=>?_,fun x h=>?_⟩
  ·subst h;exact l4
  ·subst h;exact ⟨l4.1,.inl l4.2⟩
theorem ABT(hp:WP p)(hS: ∀f∈p.funcs,WTy p f.params.reverse f.body f.type_)(hL:1≤L): ∀(k n c:Nat) (h t:Th) (acc:List (Nat×Nat)),m - c≤k→ch t≤n→c≤m→TOK p L 1 h→TOK p L 3 t→acc.length+ch t+(L+1)*(m - c)≤34000000000→(∀z∈acc,Gn z)→
  ∃r c',Wl p m c h t acc r c'∧c≤c'∧c'≤m∧(∀y,r= .error y→(y=60∧c'=m)∨((y=50∨y=51∨y=52)∧c<c'))∧∀v,r= .ok v→VV 3 v∧v.list.length≤34000000001:=by
 intro k
 induction k with
 |zero=>
  intro n
  induction n with
  |zero=>
   intro c h t acc hk hn hc h1 h3 hb hg
   obtain ⟨r,c1,t1,t2,t3,t4,t5⟩:=Q3 hp hS hL hc h1
   cases r with
   |error y=>exact ⟨_,c1,.hE om t1,t2,t3,fun z hz=>by cases hz;exact t4 y rfl,fun v hv=>by cases hv⟩
   |ok x=>
    have hc1:c1=c:=om
    obtain ⟨r2,c2,s1,s2,s3,s4,s5⟩:=Q3 hp hS hL t3 h3
    cases r2 with
    |error y=>exact ⟨_,c2,.tE om t1 s1,om,s3,fun z hz=>by cases hz;rw [hc1] at s4;exact s4 y rfl,fun v hv=>by cases hv⟩
    |ok z=>have:=(s5 z rfl).2;omega
  |succ n ih=>
   intro c h t acc hk hn hc h1 h3 hb hg
   obtain ⟨r,c1,t1,t2,t3,t4,t5⟩:=Q3 hp hS hL hc h1
   cases r with
   |error y=>exact ⟨_,c1,.hE om t1,t2,t3,fun z hz=>by cases hz;exact t4 y rfl,fun v hv=>by cases hv⟩
   |ok x=>
    have hc1:c1=c:=om
    have vx:=QQ (t5 x rfl).1 (by decide)
    obtain ⟨a,ha,hae⟩:=vv1 vx
    have gx:Gn x.plain.num:=by rw [hae];exact .of ha
    obtain ⟨r2,c2,s1,s2,s3,s4,s5⟩:=Q3 hp hS hL t3 h3
    cases r2 with
    |error y=>exact ⟨_,c2,.tE om t1 s1,om,s3,fun z hz=>by cases hz;rw [hc1] at s4;exact s4 y rfl,fun v hv=>by cases hv⟩
    |ok z=>
     have s6:=s5 z rfl
     have hg': ∀w∈acc++[x.plain.num],Gn w:=fun w hw=>by
      rcases List.mem_append.1 hw with hw|hw
      ·exact hg w hw
      ·simp at hw;subst hw;exact gx
     obtain ⟨zp,zh,zt⟩:=z
     cases hz:zh.isNil
     ·have hp2:TOK p L 1 zh∧TOK p L 3 zt:=by
       have:=s6.1
       simp only at this
       generalize (3:Int)=T3 at this
       cases this with
       |val=>cases hz
       |pair _ _ a b _=>exact ⟨a,b⟩
      have hch:ch zt<ch t:=by have:=s6.2;simp only at this;omega
      obtain ⟨r,c',w1,w2,w3,w4,w5⟩:=ih c2 zh zt (acc++[x.plain.num]) om om s3 hp2.1 hp2.2 (by rw [List.length_append,List.length_singleton,show m - c2=m - c by omega];omega) hg'
      exact ⟨r,c',.go om t1 s1 hz w1,om,w3,fun y hy=>(w4 y hy).imp id fun h=>⟨h.1,om⟩,w5⟩
     ·exact ⟨_,c2,.stop om t1 s1 hz,om,s3,fun y h=>(by cases h),fun v hv=>by cases hv;exact ⟨.inr (.inr ⟨rfl,rfl,rfl,rfl,hg'⟩),by simp;omega⟩⟩
 |succ k ihk=>
  intro n
  induction n using Nat.strongRecOn with
  |ind n ih=>
   intro c h t acc hk hn hc h1 h3 hb hg
   obtain ⟨r,c1,t1,t2,t3,t4,t5⟩:=Q3 hp hS hL hc h1
   cases r with
   |error y=>exact ⟨_,c1,.hE om t1,t2,t3,fun z hz=>by cases hz;exact t4 y rfl,fun v hv=>by cases hv⟩
   |ok x=>
    have vx:=QQ (t5 x rfl).1 (by decide)
    obtain ⟨a,ha,hae⟩:=vv1 vx
    have gx:Gn x.plain.num:=by rw [hae];exact .of ha
    obtain ⟨r2,c2,s1,s2,s3,s4,s5⟩:=Q3 hp hS hL t3 h3
    cases r2 with
    |error y=>exact ⟨_,c2,.tE om t1 s1,om,s3,fun z hz=>by cases hz;exact (s4 y rfl).imp id fun h=>⟨h.1,om⟩,fun v hv=>by cases hv⟩
    |ok z=>
     have s6:=s5 z rfl
     have hg': ∀w∈acc++[x.plain.num],Gn w:=fun w hw=>by
      rcases List.mem_append.1 hw with hw|hw
      ·exact hg w hw
      ·simp at hw;subst hw;exact gx
     obtain ⟨zp,zh,zt⟩:=z
     cases hz:zh.isNil
     ·have hp2:TOK p L 1 zh∧TOK p L 3 zt∧ch zt<L:=by
       have:=s6.1
       simp only at this
       generalize (3:Int)=T3 at this
       cases this with
       |val=>cases hz
       |pair _ _ a b c=>exact ⟨a,b,c⟩
      rcases Nat.lt_or_ge c c2 with hlt|hge
      ·have hmul:(L+1)*(m - c2)+(L+1)≤(L+1)*(m - c):=by
        have:=Nat.mul_le_mul_left (L+1) (show m - c2+1≤m - c by omega)
        rw [Nat.mul_add,Nat.mul_one] at this;exact this
       obtain ⟨r,c',w1,w2,w3,w4,w5⟩:=ihk (ch zt) c2 zh zt (acc++[x.plain.num]) om om s3 hp2.1 hp2.2.1 (by rw [List.length_append,List.length_singleton];omega) hg'
       exact ⟨r,c',.go om t1 s1 hz w1,om,w3,fun y hy=>(w4 y hy).imp id fun h=>⟨h.1,om⟩,w5⟩
      ·have hch:ch zt<ch t:=by have:=s6.2;simp only at this;omega
       obtain ⟨r,c',w1,w2,w3,w4,w5⟩:=ih (ch zt) om c2 zh zt (acc++[x.plain.num]) om om s3 hp2.1 hp2.2.1 (by rw [List.length_append,List.length_singleton,show m - c2=m - c by omega];omega) hg'
       exact ⟨r,c',.go om t1 s1 hz w1,om,w3,fun y hy=>(w4 y hy).imp id fun h=>⟨h.1,om⟩,w5⟩
     ·exact ⟨_,c2,.stop om t1 s1 hz,om,s3,fun y h=>(by cases h),fun v hv=>by cases hv;exact ⟨.inr (.inr ⟨rfl,rfl,rfl,rfl,hg'⟩),by simp;omega⟩⟩
theorem ABU(hp:WP p)(hS: ∀f∈p.funcs,WTy p f.params.reverse f.body f.type_)(hL:1≤L)(hL2:L≤1100000)(hm:m≤16384){Γ:List AJ}{e:AE}{ρ:Nm}{t:Int}(he:EOK p L Γ ρ)(hw:WTy p Γ e t)(hwe:WE e)(ht:1≤t∧t≤3):
  ∃r c',Rn p m e ρ r c'∧c'≤m∧Rv m t r c':=by
 obtain ⟨r,c1,l1,l2,l3,l4⟩:=ZG hp hS hL (m - 0) 0 (Nat.le_refl _) (Nat.zero_le _) Γ e ρ t he hw hwe ht
 cases r with
 |error y=>exact ⟨_,c1,.err l1,l3,l4⟩
 |ok x=>
  obtain ⟨xp,xh,xt⟩:=x
  obtain ⟨h4,h5⟩:=l4
  simp only at h4
  cases hz:xh.isNil
  ·generalize hT:t=T at h4
   cases h4 with
   |val=>cases hz
   |pair _ _ a b hc=>
    subst hT
    have hmul:(L+1)*(m - c1)≤1100001*16384:=Nat.mul_le_mul om om
    obtain ⟨r,c',w1,w2,w3,w4,w5⟩:=ABT hp hS hL (m - c1) (ch xt) c1 xh xt [] (Nat.le_refl _) (Nat.le_refl _) l3 a b (by simp only [List.length_nil];omega) (by simp)
    refine ⟨r,c',.val l1 (.list hz w1),w3,?_⟩
    cases r with
    |ok v=>exact ⟨(w5 v rfl).1,om,(w5 v rfl).2⟩
    |error y=>exact (w4 y rfl).imp id fun h=>⟨h.1,om⟩
  ·generalize hT:t=T at h4
   cases h4 with
   |val _ v hv h3=>
    have hn:xp.list=[]:=by
     rcases hv with ⟨_,_,_,_,h⟩| ⟨_,_,_,h⟩| ⟨h,_⟩
     ·exact h
     ·exact h
     ·exact h3 h
    exact ⟨_,c1,.val l1 (.plain hz),l3,hv,h5,by simp only;rw [hn];simp⟩
   |pair _ _ a b hc=>rw [Xf a] at hz;cases hz
end
end Fth
namespace Fth
open Go
def E2(p:Nat→Nat→Prop):Prop:=∃n,∀N k,n≤N→n≤k→p N k
theorem E2.and{p q:Nat→Nat→Prop}(hp:E2 p)(hq:E2 q):E2 fun N k=>p N k∧q N k:=by
 obtain ⟨n,hn⟩:=hp;obtain ⟨m,hm⟩:=hq
 exact ⟨n+m,fun N k h h'=>⟨hn N k om om,hm N k om om⟩⟩
theorem E2.mono{p q:Nat→Nat→Prop}(hp:E2 p)(h: ∀N k,p N k→q N k):E2 q:=let ⟨n,hn⟩:=hp;⟨n,fun N k a b=>h N k (hn N k a b)⟩
theorem E2.of{p:Nat→Prop}(h:Ev p):E2 fun N _=>p N:=let ⟨n,hn⟩:=h;⟨n,fun N _ a _=>hn N a⟩
theorem E2.diag{p:Nat→Nat→Prop}(h:E2 p):Ev fun N=>p N N:=let ⟨n,hn⟩:=h;⟨n,fun N a=>hn N N a a⟩
theorem ZI{p:Nat→Nat→Prop}(h:E2 fun N k=>p N (k+1)):E2 p:=by
 obtain ⟨n,hn⟩:=h
 refine ⟨n+1,fun N k a b=>?_⟩
 obtain ⟨j,rfl⟩: ∃j,k=j+1:=⟨k - 1,om⟩
 exact hn N j om om
def ET{α:Type}(f:Nat→Option α)(Q:α→Prop):Prop:=∃r,Q r∧Ev fun N=>f N=some r
def EL{α:Type}(f:Nat→Nat→Option α)(Q:α→Prop):Prop:=∃r,Q r∧E2 fun N k=>f N k=some r
section
variable{α β:Type}
theorem ET.of{x:Option α}{Q:α→Prop}(h:T x Q):ET (fun _=>x) Q:=by obtain ⟨r,e,h⟩:=h;exact ⟨r,h,Ev.all fun _=>e⟩
theorem ET.some{r:α}{Q:α→Prop}(h:Q r):ET (fun _=>Option.some r) Q:=⟨r,h,Ev.all fun _=>rfl⟩
theorem ET.bind{f:Nat→Option α}{g:Nat→α→Option β}{P:α→Prop}{Q:β→Prop}(h:ET f P)(k: ∀a,P a→ET (fun N=>g N a) Q):ET (fun N=>(f N).bind (g N)) Q:=by
 obtain ⟨a,ha,hE⟩:=h
 obtain ⟨b,hb,hE2⟩:=k a ha
 exact ⟨b,hb,(hE.and hE2).mono fun N h=>by show (f N).bind (g N)=_;rw [h.1];exact h.2⟩
theorem ET.cond{c:Bool}{f g:Nat→Option α}{Q:α→Prop}(h1:c=true→ET f Q)(h2:c=false→ET g Q):ET (fun N=>bif c then f N else g N) Q:=by
 cases c
 ·exact h2 rfl
 ·exact h1 rfl
theorem ET.mono{f:Nat→Option α}{P Q:α→Prop}(h:ET f P)(k: ∀a,P a→Q a):ET f Q:=let ⟨r,hr,e⟩:=h;⟨r,k r hr,e⟩
theorem ET.down{f:Nat→Option α}{Q:α→Prop}(h:ET (fun N=>f (N+1)) Q):ET f Q:=let ⟨r,hr,e⟩:=h;⟨r,hr,Ev.down 1 e⟩
theorem ET.cg{f g:Nat→Option α}{Q:α→Prop}(h:ET f Q)(e: ∀N,g N=f N):ET g Q:=by
 have:g=f:=funext e
 rw [this];exact h
theorem RF{f:Nat→Option α}{Q:α→Prop}(n:Nat)(h: ∃r,Q r∧∀N,n≤N→f N=Option.some r):ET f Q:=let ⟨r,hr,e⟩:=h;⟨r,hr,⟨n,e⟩⟩
theorem EL.bind{f:Nat→Option α}{g:Nat→Nat→α→Option β}{P:α→Prop}{Q:β→Prop}(h:ET f P)(k: ∀a,P a→EL (fun N k=>g N k a) Q):EL (fun N k=>(f N).bind (g N k)) Q:=by
 obtain ⟨a,ha,hE⟩:=h
 obtain ⟨b,hb,hE2⟩:=k a ha
 exact ⟨b,hb,((E2.of hE).and hE2).mono fun N k h=>by show (f N).bind (g N k)=_;rw [h.1];exact h.2⟩
theorem EL.cond{c:Bool}{f g:Nat→Nat→Option α}{Q:α→Prop}(h1:c=true→EL f Q)(h2:c=false→EL g Q):EL (fun N k=>bif c then f N k else g N k) Q:=by
 cases c
 ·exact h2 rfl
 ·exact h1 rfl
theorem ET.eq{x:Option α}{a:α}{g:Nat→α→Option β}{Q:β→Prop}(h:x=Option.some a)(k:ET (fun N=>g N a) Q):ET (fun N=>x.bind (g N)) Q:=by subst h;exact k
theorem EL.eq{x:Option α}{a:α}{g:Nat→Nat→α→Option β}{Q:β→Prop}(h:x=Option.some a)(k:EL (fun N k=>g N k a) Q):EL (fun N k=>x.bind (g N k)) Q:=by subst h;exact k
theorem ET.tb{x:Option α}{g:Nat→α→Option β}{P:α→Prop}{Q:β→Prop}(h:T x P)(k: ∀a,P a→ET (fun N=>g N a) Q):ET (fun N=>x.bind (g N)) Q:=by obtain ⟨a,e,ha⟩:=h;exact .eq e (k a ha)
theorem EL.tb{x:Option α}{g:Nat→Nat→α→Option β}{P:α→Prop}{Q:β→Prop}(h:T x P)(k: ∀a,P a→EL (fun N k=>g N k a) Q):EL (fun N k=>x.bind (g N k)) Q:=by obtain ⟨a,e,ha⟩:=h;exact .eq e (k a ha)
theorem EL.of{f:Nat→Option α}{Q:α→Prop}(h:ET f Q):EL (fun N _=>f N) Q:=let ⟨r,hr,e⟩:=h;⟨r,hr,E2.of e⟩
theorem EL.some{r:α}{Q:α→Prop}(h:Q r):EL (fun _ _=>Option.some r) Q:=⟨r,h,⟨0,fun _ _ _ _=>rfl⟩⟩
theorem EL.down{f:Nat→Nat→Option α}{Q:α→Prop}(h:EL (fun N k=>f N (k+1)) Q):EL f Q:=let ⟨r,hr,e⟩:=h;⟨r,hr,ZI e⟩
theorem EL.diag{f:Nat→Nat→Option α}{Q:α→Prop}(h:EL f Q):ET (fun N=>f N N) Q:=let ⟨r,hr,e⟩:=h;⟨r,hr,e.diag⟩
theorem EL.mono{f:Nat→Nat→Option α}{P Q:α→Prop}(h:EL f P)(k: ∀a,P a→Q a):EL f Q:=let ⟨r,hr,e⟩:=h;⟨r,k r hr,e⟩
end
theorem Ur{s:List UInt8}: ∀(m:Aq) (i j:Nat),(La s m i).map (·.2)=(La s m j).map (·.2):=by
 intro m
 induction m with
 |nil=>intro i j;rfl
 |cons x m ih=>
  intro i j
  obtain ⟨k,v⟩:=x
  simp only [La]
  cases (s==k)
  ·exact ih _ _
  ·rfl
theorem Wc(m:Aq)(s:List UInt8):Cr m s=((La s m 0).map (·.2)).getD 0:=by
 unfold Cr
 cases La s m 0<;>rfl
theorem Tl(s:List UInt8):Cr [] s=0:=rfl
theorem Nk(k:List UInt8)(v:Int)(m:Aq)(s:List UInt8):Cr ((k,v)::m) s=bif s==k then v else Cr m s:=by
 rw [Wc,Wc]
 simp only [La]
 cases (s==k)
 ·simp only [cond_false];rw [Ur m 1 0]
 ·rfl
theorem We(m:Aq)(s:List UInt8):OE m s=((La s m 0).map (·.2)).isSome:=by
 unfold OE
 cases La s m 0<;>rfl
theorem Nl(k:List UInt8)(v:Int)(m:Aq)(s:List UInt8):OE ((k,v)::m) s=bif s==k then true else OE m s:=by
 rw [We,We]
 simp only [La]
 cases (s==k)
 ·simp only [cond_false];rw [Ur m 1 0]
 ·rfl
theorem Mj(s:List UInt8)(v:Int)(m:Aq)(t:List UInt8):Cr (L7 s v m) t=bif t==s then v else Cr m t:=by
 induction m with
 |nil=>exact Nk s v [] t
 |cons x m ih=>
  obtain ⟨k,u⟩:=x
  rw [L7]
  cases h:(s==k)
  ·rw [cond_false,Nk,Nk,ih]
   cases h1:(t==k)
   ·rfl
   ·have:t=k:=by simpa using h1
    have h2:(t==s)=false:=by
     rw [this];simp only [beq_eq_false_iff_ne,ne_eq] at h ⊢;exact fun e=>h e.symm
    rw [h2];rfl
  ·have e:s=k:=by simpa using h
   subst e
   rw [cond_true,Nk,Nk]
   cases (t==s)<;>rfl
theorem YD(s:List UInt8)(v:Int)(m:Aq)(t:List UInt8):OE (L7 s v m) t=bif t==s then true else OE m t:=by
 induction m with
 |nil=>exact Nl s v [] t
 |cons x m ih=>
  obtain ⟨k,u⟩:=x
  rw [L7]
  cases h:(s==k)
  ·rw [cond_false,Nl,Nl,ih]
   cases h1:(t==k)
   ·rfl
   ·have:t=k:=by simpa using h1
    have h2:(t==s)=false:=by
     rw [this];simp only [beq_eq_false_iff_ne,ne_eq] at h ⊢;exact fun e=>h e.symm
    rw [h2];rfl
  ·have e:s=k:=by simpa using h
   subst e
   rw [cond_true,Nl,Nl]
   cases (t==s)<;>rfl
end Fth
namespace Fth
open Go
def bnd(e:AE)(i:Nat):List (List UInt8):=if e.op=21∨(e.op=22∧i=1) then [e.name] else if e.op=20∧i=2 then [e.name,e.tail] else []
def KY(p:AM)(e:AE):Prop:=e.op=7→∃f,hd p e.name=some f∧f.params.length=e.args.length
inductive Sc(p:AM):(List UInt8→Prop)→AE→Prop
 |mk (B:List UInt8→Prop) (e:AE) (hv:e.op=6→B e.name) (hc:KY p e) (hs: ∀i a,e.args[i]?=some a→Sc p (fun s=>s∈bnd e i∨B s) a):Sc p B e
theorem ZJ{p:AM}{B:List UInt8→Prop}{e:AE}:Sc p B e↔(e.op=6→B e.name)∧KY p e∧∀i a,e.args[i]?=some a→Sc p (fun s=>s∈bnd e i∨B s) a:=
 ⟨fun h=>by cases h with |mk _ _ a b c=>exact ⟨a,b,c⟩,fun h=> .mk B e h.1 h.2.1 h.2.2⟩
def FN(p:AM):Prop:=∀i f,p.funcs[i]?=some f→f.name∉(p.funcs.take i).map (·.name)
def PN(f:AO):Prop:=∀i x,f.params[i]?=some x→x.name∉(f.params.take i).map (·.name)
def AAJ(p:AM):Prop:=FN p∧∀f∈p.funcs,PN f∧Sc p (fun s=>s∈f.params.map (·.name)) f.body
def Pl(p:AM)(mp:Aq):Prop:=∀nm,(hd p nm=none∧Cr mp nm=0)∨∃(i:Nat) (f:AO),p.funcs[i]?=some f∧hd p nm=some f∧Cr mp nm=(i:Int)+1
theorem QR{y a:Int}{flt:AD}(hy:y≠0):T (D2 y a flt) fun r=>r.why≠0:=by
 unfold D2 Jm
 exact T.cond (fun _=>T.cond (fun _=> .some hy) fun h=>by cases h) fun h=>T.cond (fun _=> .some hy) fun _=> .some (B0 h)
section
variable{p:AM}{mpl:Aq}(hpl:Pl p mpl)(hlen:p.funcs.length≤1000000)
include hpl hlen
theorem ZK{e:AE}{mi:Aq}{flt:AD}:T (Fv e mi mpl flt p) fun r=>r.why=0↔flt.why=0∧(e.op=6→Cr mi e.name≠0)∧KY p e:=by
 have j3: ∀b,(e.op≠6)→(b=false↔KY p e)→T (HL e flt b) fun r=>r.why=0↔flt.why=0∧(e.op=6→Cr mi e.name≠0)∧KY p e:=by
  intro b h6 hb
  unfold HL
  refine T.cond (fun h=>T.bind (QR (by decide)) fun r hr=> .some ?_) fun h=> .some ?_
  ·subst h
   exact ⟨fun h=>absurd h hr,fun h=>by have:=hb.2 h.2.2;cases this⟩
  ·subst h
   exact ⟨fun h=>⟨h,fun h'=>absurd h' h6,hb.1 rfl⟩,fun h=>h.1⟩
 have j2:e.op≠6→e.op≠7→T (GG e mpl flt p false) fun r=>r.why=0↔flt.why=0∧(e.op=6→Cr mi e.name≠0)∧KY p e:=by
  intro h6 h7
  unfold GG
  refine T.cond (fun h=>by cases h) fun _=>T.cond (fun h=>absurd (CH h) h7) fun _=>j3 _ h6 ⟨fun _ h=>absurd h h7,fun _=>rfl⟩
 have j1:e.op≠6→T (HM e mpl flt p false) fun r=>r.why=0↔flt.why=0∧(e.op=6→Cr mi e.name≠0)∧KY p e:=by
  intro h6
  unfold HM
  refine T.cond (fun h=>by cases h) fun _=>T.cond (fun h=>?_) fun h=>j2 h6 (B0 h)
  have h7:=CH h
  unfold GG
  rcases hpl e.name with ⟨hn,h0⟩| ⟨i,f,hi,hf,hm⟩
  ·rw [h0]
   refine T.cond (fun _=>T.bind (QR (by decide)) fun r hr=> .some ⟨fun h=>absurd h hr,fun h=>?_⟩) fun h=>by cases h
   obtain ⟨f,hf,_⟩:=h.2.2 h7
   rw [hn] at hf;cases hf
  ·rw [hm]
   have hil:=(List.getElem?_eq_some_iff.1 hi).1
   refine T.cond (fun h=>by have:=CH h;omega) fun _=>T.cond (fun _=>?_) fun h=>absurd h7 (B0 h)
   rw [wr (x:=(i:Int)+1 - 1) om om,show (i:Int)+1 - 1=(i:Int) by omega]
   refine T.eq (CL hi) (j3 _ h6 ⟨fun h _=>⟨f,hf,?_⟩,fun h=>?_⟩)
   ·have:=J1 h;omega
   ·obtain ⟨g,hg,hl⟩:=h h7
    rw [hf] at hg;cases hg
    simp;omega
 unfold Fv
 refine T.cond (fun h=>?_) fun h=>j1 (B0 h)
 have h6:=CH h
 unfold HM
 refine T.cond (fun h=>T.bind (QR (by decide)) fun r hr=> .some ⟨fun h=>absurd h hr,fun h'=>absurd (CH h) (h'.2.1 h6)⟩) fun h=>T.cond (fun h=>by have:=CH h;omega) fun h7=>?_
 unfold GG
 refine T.cond (fun h=>by cases h) fun _=>T.cond (fun h=>by have:=CH h;omega) fun _=>?_
 unfold HL
 refine T.cond (fun h=>by cases h) fun _=> .some ⟨fun h'=>⟨h',fun _=>B0 h,fun h7=>om⟩,fun h=>h.1⟩
omit hpl hlen in
theorem Xg(e:AE)(i:Nat):Hm e (i:Int)=some (bnd e i):=by
 unfold Hm Jn Kf bnd
 have e1:((i:Int)==1)=decide (i=1):=by rw [Bool.eq_iff_iff];simp;omega
 have e2:((i:Int)==2)=decide (i=2):=by rw [Bool.eq_iff_iff];simp;omega
 rw [e1,e2]
 cases h1:(e.op==21)
 ·have h1:=B0 h1
  cases h2:(e.op==22)
  ·have h2:=B0 h2
   rw [if_neg om]
   cases h3:(e.op==20)
   ·have h3:=B0 h3
    rw [if_neg om];rfl
   ·have h3:=CH h3
    cases h4:decide (i=2)
    ·have h4:=D5 h4;rw [if_neg om];rfl
    ·have h4:=CZ h4;rw [if_pos ⟨h3,h4⟩];rfl
  ·have h2:=CH h2
   cases h3:decide (i=1)
   ·have h3:=D5 h3
    rw [if_neg om,if_neg om,show (e.op==20)=false by simp;omega];rfl
   ·have h3:=CZ h3
    rw [if_pos (.inr ⟨h2,h3⟩)];rfl
 ·have h1:=CH h1
  rw [if_pos (.inl h1)];rfl
omit hpl hlen in
theorem AAK(e:AE)(i:Nat):IV e (i:Int)=some (bnd e i):=Xg e i
omit hpl hlen in
theorem Xh(e:AE)(i:Nat):(bnd e i).length≤2:=by
 unfold bnd;split
 ·simp
 ·split<;>simp
theorem AAL: ∀(n:Nat) (e:AE),E0 e≤n→∀(C:List (List UInt8)) (mi:Aq) (flt:AD),(∀s,Cr mi s=(C.count s:Int))→C.length+2*n≤1000000000→
  ET (fun N=>scope_walk N e mi mpl flt p) fun r=>(∀s,Cr r.1 s=(C.count s:Int))∧(r.2.why=0↔flt.why=0∧Sc p (fun s=>s∈C) e):=by
 intro n
 induction n with
 |zero=>intro e he;have:=Mh e;omega
 |succ n ih=>
  intro e he C mi flt hmi hC
  have hal:=M1 e.args
  have hes:=PA e
  refine ET.down ?_
  show ET (fun N=>K5 (A1.at N) N e mi mpl flt p) _
  unfold K5
  refine ET.bind (.of (ZK hpl hlen)) fun f1 hf1=>?_
  have cc: ∀s,(C.count s:Int)≠0↔s∈C:=fun s=>by
   have:=List.count_pos_iff (a:=s) (l:=C)
   constructor
   ·intro h;exact this.1 om
   ·intro h;have:=this.2 h;omega
  have loop: ∀(j i:Nat),i+j=e.args.length→∀(mi:Aq) (f2:AD),(∀s,Cr mi s=(C.count s:Int))→
    EL (fun N k=>Cj (A1.at N) N e mpl p k (i:Int) mi f2.why f2.at_) fun r=>(∀s,Cr r.1 s=(C.count s:Int))∧(r.2.why=0↔f2.why=0∧∀i' a,i≤i'→e.args[i']?=some a→Sc p (fun s=>s∈bnd e i'∨s∈C) a):=by
   intro j
   induction j with
   |zero=>
    intro i hi mi f2 hmi
    refine EL.down ?_
    show EL (fun N k=>Ih (A1.at N) N e mpl p (Cj (A1.at N) N e mpl p k) i mi f2.why f2.at_) _
    unfold Ih
    refine EL.cond (fun h=>by have:=CZ h;omega) fun _=> .some ⟨hmi,fun h=>⟨h,fun i' a hi' ha=>?_⟩,fun h=>h.1⟩
    have:=(List.getElem?_eq_some_iff.1 ha).1
    omega
   |succ j ihj=>
    intro i hi mi f2 hmi
    refine EL.down ?_
    show EL (fun N k=>Ih (A1.at N) N e mpl p (Cj (A1.at N) N e mpl p k) i mi f2.why f2.at_) _
    unfold Ih
    refine EL.cond (fun _=>?_) fun h=>by have:=D5 h;omega
    have hil:i<e.args.length:=om
    obtain ⟨a,ha⟩: ∃a,e.args[i]?=some a:=⟨_,List.getElem?_eq_getElem hil⟩
    have has:=N6 (List.mem_of_getElem? ha)
    refine EL.eq (CL ha) (EL.eq (Xg e i) ?_)
    have hbl:=Xh e i
    have l3: ∀(q t:Nat),t+q=(bnd e i).length→∀(m3:Aq) (w:Aq×AD),(∀s,Cr m3 s=(((bnd e i).drop t).count s+C.count s:Nat))→
      E2 (fun N k=>True)→∀(R:Aq×AD→Prop),(∀m4,(∀s,Cr m4 s=(C.count s:Int))→EL (fun N k=>Cj (A1.at N) N e mpl p k ((i+1:Nat):Int) m4 w.2.why w.2.at_) R)→
      ∃r,R r∧∃n0,∀N k kk,n0≤N→n0≤k→n0≤kk→IQ i (Cj (A1.at N) N e mpl p k) (bnd e i) w kk (t:Int) m3=some r:=by
     intro q
     induction q with
     |zero=>
      intro t ht m3 w hm3 _ R hR
      have hd0:(bnd e i).drop t=[]:=List.drop_eq_nil_of_le om
      obtain ⟨r,hr,n0,hn0⟩:=hR m3 (fun s=>by rw [hm3,hd0];simp)
      refine ⟨r,hr,n0+1,fun N k kk h1 h2 h3=>?_⟩
      obtain ⟨kk,rfl⟩: ∃j,kk=j+1:=⟨kk - 1,om⟩
      show If i (Cj (A1.at N) N e mpl p k) (bnd e i) w (IQ i (Cj (A1.at N) N e mpl p k) (bnd e i) w kk) t m3=_
      unfold If
      rw [show decide ((t:Int)< ((bnd e i).length:Int))=false from decide_eq_false om,cond_false,wr om om,show (i:Int)+1=((i+1:Nat):Int) by omega]
      exact hn0 N k om om
     |succ q ihq=>
      intro t ht m3 w hm3 ht2 R hR
      have htl:t< (bnd e i).length:=om
      obtain ⟨s0,hs0⟩: ∃s0,(bnd e i)[t]?=some s0:=⟨_,List.getElem?_eq_getElem htl⟩
      have hdr:=Lg hs0
      have h0:=hm3 s0
      have hc1:((bnd e i).drop t).count s0+C.count s0≤2+C.length:=by
       have a1:=List.count_le_length (a:=s0) (l:=(bnd e i).drop t)
       have a2:=List.count_le_length (a:=s0) (l:=C)
       simp at a1;omega
      obtain ⟨r,hr,n0,hn0⟩:=ihq (t+1) om (L7 s0 (Cr m3 s0 - 1) m3) w (fun s=>by
       rw [Mj]
       cases hs:(s==s0)
       ·rw [cond_false,hm3,hdr,List.count_cons_of_ne (fun e=>by subst e;simp at hs)]
       ·have:s=s0:=by simpa using hs
        subst this
        rw [cond_true,hm3,hdr,List.count_cons_self];omega) ht2 R hR
      refine ⟨r,hr,n0+1,fun N k kk h1 h2 h3=>?_⟩
      obtain ⟨kk,rfl⟩: ∃j,kk=j+1:=⟨kk - 1,om⟩
      show If i (Cj (A1.at N) N e mpl p k) (bnd e i) w (IQ i (Cj (A1.at N) N e mpl p k) (bnd e i) w kk) t m3=_
      unfold If
      rw [show decide ((t:Int)< ((bnd e i).length:Int))=true from decide_eq_true om,cond_true,CL hs0,Option.bind_some,wr (x:=(t:Int)+1) om om,wr (x:=Cr m3 s0 - 1) om om,show (t:Int)+1=((t+1:Nat):Int) by omega]
      exact hn0 N k kk om om om
    have l2: ∀(q t:Nat),t+q=(bnd e i).length→∀(m2:Aq),(∀s,Cr m2 s=(((bnd e i).take t).count s+C.count s:Nat))→
      ∃r:Aq×AD,((∀s,Cr r.1 s=(C.count s:Int))∧(r.2.why=0↔f2.why=0∧∀i' a,i≤i'→e.args[i']?=some a→Sc p (fun s=>s∈bnd e i'∨s∈C) a))∧
       ∃n0,∀N k kk,n0≤N→n0≤k→n0≤kk→IR (A1.at N) N mpl p i f2.why f2.at_ (Cj (A1.at N) N e mpl p k) a (bnd e i) kk (t:Int) m2=some r:=by
     intro q
     induction q with
     |zero=>
      intro t ht m2 hm2
      have htk:(bnd e i).take t=bnd e i:=List.take_of_length_le om
      obtain ⟨w,hw,hE⟩:=ih a om (bnd e i++C) m2 ⟨f2.why,f2.at_⟩ (fun s=>by rw [hm2,htk,List.count_append]) (by rw [List.length_append];omega)
      obtain ⟨n1,hn1⟩:=hE
      obtain ⟨r,hr,n0,hn0⟩:=l3 (bnd e i).length 0 om w.1 w (fun s=>by rw [hw.1,List.drop_zero,List.count_append]) ⟨0,fun _ _ _ _=>trivial⟩ (fun r=>(∀s,Cr r.1 s=(C.count s:Int))∧(r.2.why=0↔f2.why=0∧∀i' a,i≤i'→e.args[i']?=some a→Sc p (fun s=>s∈bnd e i'∨s∈C) a)) fun m4 hm4=>(ihj (i+1) om m4 w.2 hm4).mono fun r hr=>⟨hr.1,by
       rw [hr.2,hw.2]
       have eB:(fun s=>s∈bnd e i++C)=fun s=>s∈bnd e i∨s∈C:=funext fun s=>propext List.mem_append
       rw [eB]
       constructor
       ·rintro ⟨⟨h1,h2⟩,h3⟩
        refine ⟨h1,fun i' a' hi' ha'=>?_⟩
        rcases Nat.eq_or_lt_of_le hi' with rfl|hlt
        ·rw [ha] at ha';cases ha';exact h2
        ·exact h3 i' a' hlt ha'
       ·rintro ⟨h1,h2⟩
        exact ⟨⟨h1,h2 i a (Nat.le_refl _) ha⟩,fun i' a' hi' ha'=>h2 i' a' om ha'⟩⟩
      refine ⟨r,hr,n0+n1+1,fun N k kk h1 h2 h3=>?_⟩
      obtain ⟨kk,rfl⟩: ∃j,kk=j+1:=⟨kk - 1,om⟩
      show Ig (A1.at N) N mpl p i f2.why f2.at_ (Cj (A1.at N) N e mpl p k) a (bnd e i) (IR (A1.at N) N mpl p i f2.why f2.at_ (Cj (A1.at N) N e mpl p k) a (bnd e i) kk) t m2=_
      unfold Ig
      rw [show decide ((t:Int)< ((bnd e i).length:Int))=false from decide_eq_false om,cond_false]
      show ((scope_walk N a m2 mpl ⟨f2.why,f2.at_⟩ p).bind fun x649=>_)=_
      have ew:scope_walk N a m2 mpl ⟨f2.why,f2.at_⟩ p=some w:=hn1 N om
      rw [ew,Option.bind_some]
      exact hn0 N k N om om om
     |succ q ihq=>
      intro t ht m2 hm2
      have htl:t< (bnd e i).length:=om
      obtain ⟨s0,hs0⟩: ∃s0,(bnd e i)[t]?=some s0:=⟨_,List.getElem?_eq_getElem htl⟩
      have htk:(bnd e i).take (t+1)=(bnd e i).take t++[s0]:=by rw [List.take_add_one,hs0];rfl
      have h0:=hm2 s0
      have hc1:((bnd e i).take t).count s0+C.count s0≤2+C.length:=by
       have a1:=List.count_le_length (a:=s0) (l:=(bnd e i).take t)
       have a2:=List.count_le_length (a:=s0) (l:=C)
       simp at a1;omega
      obtain ⟨r,hr,n0,hn0⟩:=ihq (t+1) om (L7 s0 (Cr m2 s0+1) m2) fun s=>by
       rw [Mj,htk,List.count_append]
       cases hs:(s==s0)
       ·rw [cond_false,hm2,List.count_cons_of_ne (fun e=>by subst e;simp at hs)];simp
       ·have:s=s0:=by simpa using hs
        subst this
        rw [cond_true,hm2,List.count_singleton_self];omega
      refine ⟨r,hr,n0+1,fun N k kk h1 h2 h3=>?_⟩
      obtain ⟨kk,rfl⟩: ∃j,kk=j+1:=⟨kk - 1,om⟩
      show Ig (A1.at N) N mpl p i f2.why f2.at_ (Cj (A1.at N) N e mpl p k) a (bnd e i) (IR (A1.at N) N mpl p i f2.why f2.at_ (Cj (A1.at N) N e mpl p k) a (bnd e i) kk) t m2=_
      unfold Ig
      rw [show decide ((t:Int)< ((bnd e i).length:Int))=true from decide_eq_true om,cond_true,CL hs0,Option.bind_some,wr (x:=(t:Int)+1) om om,wr (x:=Cr m2 s0+1) om om,show (t:Int)+1=((t+1:Nat):Int) by omega]
      exact hn0 N k kk om om om
    obtain ⟨r,hr,n0,hn0⟩:=l2 (bnd e i).length 0 om mi fun s=>by rw [hmi];simp
    exact ⟨r,hr,n0,fun N k h1 h2=>hn0 N k N h1 h2 h1⟩
  refine (loop e.args.length 0 om mi f1 hmi).diag.mono fun r hr=>⟨hr.1,?_⟩
  rw [hr.2,hf1,hmi,ZJ,cc]
  constructor
  ·rintro ⟨⟨h1,h2,h3⟩,h4⟩;exact ⟨h1,h2,h3,fun i a ha=>h4 i a (Nat.zero_le _) ha⟩
  ·rintro ⟨h1,h2,h3,h4⟩;exact ⟨⟨h1,h2,h3⟩,fun i a _ ha=>h4 i a ha⟩
end
end Fth
namespace Fth
open Go
theorem SC{p:AM}{nm:List UInt8}{i:Nat}{f:AO}(hi:p.funcs[i]?=some f)(hn:f.name=nm)(h:nm∉(p.funcs.take i).map (·.name)):hd p nm=some f:=by
 unfold hd
 rw [List.find?_eq_some_iff_getElem]
 obtain ⟨hl,he⟩:=List.getElem?_eq_some_iff.1 hi
 refine ⟨by simpa using hn,i,hl,he,fun j hj=>?_⟩
 simp only [Bool.not_eq_true',beq_eq_false_iff_ne,ne_eq]
 intro e
 refine h (List.mem_map.2 ⟨p.funcs[j],?_,e⟩)
 rw [List.mem_take_iff_getElem]
 exact ⟨j,om,rfl⟩
theorem Vj{p:AM}{nm:List UInt8}(h:nm∉p.funcs.map (·.name)):hd p nm=none:=by
 unfold hd
 rw [List.find?_eq_none]
 intro f hf e
 exact h (List.mem_map.2 ⟨f,hf,by simpa using e⟩)
section
variable{p:AM}
theorem AAM(hlen:p.funcs.length≤50000)(hb: ∀f∈p.funcs,E0 f.body≤1000000∧f.params.length≤1000000):ET (fun N=>IS N p) fun r=>r.why=0↔AAJ p:=by
 have bodies: ∀(mpl:Aq),Pl p mpl→∀(j i:Nat),i+j=p.funcs.length→∀(f0:AD),
   EL (fun N k=>DE N p mpl k (i:Int) f0.why f0.at_) fun r=>r.why=0↔f0.why=0∧∀i' f,i≤i'→p.funcs[i']?=some f→PN f∧Sc p (fun s=>s∈f.params.map (·.name)) f.body:=by
  intro mpl hpl j
  induction j with
  |zero=>
   intro i hi f0
   refine EL.down ?_
   show EL (fun N k=>H4 N p mpl (DE N p mpl k) i f0.why f0.at_) _
   unfold H4
   refine EL.cond (fun h=>by have:=CZ h;omega) fun _=> .some ⟨fun h=>⟨h,fun i' f hi' hf=>?_⟩,fun h=>h.1⟩
   have:=(List.getElem?_eq_some_iff.1 hf).1
   omega
  |succ j ihj=>
   intro i hi f0
   refine EL.down ?_
   show EL (fun N k=>H4 N p mpl (DE N p mpl k) i f0.why f0.at_) _
   unfold H4
   refine EL.cond (fun _=>?_) fun h=>by have:=D5 h;omega
   obtain ⟨f,hf⟩: ∃f,p.funcs[i]?=some f:=⟨_,List.getElem?_eq_getElem om⟩
   have hfb:=hb f (List.mem_of_getElem? hf)
   refine EL.eq (CL hf) ?_
   have pars: ∀(q t:Nat),t+q=f.params.length→∀(f2:AD) (m:Aq),(∀s,Cr m s=(((f.params.take t).map (·.name)).count s:Int))→
     ∃r:AD,(r.why=0↔f2.why=0∧(∀i' x,t≤i'→f.params[i']?=some x→x.name∉(f.params.take i').map (·.name))∧Sc p (fun s=>s∈f.params.map (·.name)) f.body∧∀i' f,i+1≤i'→p.funcs[i']?=some f→PN f∧Sc p (fun s=>s∈f.params.map (·.name)) f.body)∧
      ∃n0,∀N k kk,n0≤N→n0≤k→n0≤kk→Fw N p mpl i (DE N p mpl k) f kk (t:Int) f2.why f2.at_ m=some r:=by
    intro q
    induction q with
    |zero=>
     intro t ht f2 m hm
     have htk:f.params.take t=f.params:=List.take_of_length_le om
     obtain ⟨w,hw,n1,hn1⟩:=AAL hpl om (E0 f.body) f.body (Nat.le_refl _) (f.params.map (·.name)) m ⟨f2.why,f2.at_⟩ (fun s=>by rw [hm,htk]) (by rw [List.length_map];omega)
     obtain ⟨r,hr,n0,hn0⟩:=ihj (i+1) om w.2
     refine ⟨r,?_,n0+n1+1,fun N k kk h1 h2 h3=>?_⟩
     ·rw [hr,hw.2]
      constructor
      ·rintro ⟨⟨h1,h2⟩,h3⟩
       exact ⟨h1,fun i' x hi' hx=>by have:=(List.getElem?_eq_some_iff.1 hx).1;omega,h2,h3⟩
      ·rintro ⟨h1,_,h2,h3⟩;exact ⟨⟨h1,h2⟩,h3⟩
     ·obtain ⟨kk,rfl⟩: ∃j,kk=j+1:=⟨kk - 1,om⟩
      show F1 N p mpl i (DE N p mpl k) f (Fw N p mpl i (DE N p mpl k) f kk) t f2.why f2.at_ m=_
      unfold F1
      have ew:scope_walk N f.body m mpl ⟨f2.why,f2.at_⟩ p=some w:=hn1 N om
      rw [show decide ((t:Int)< (f.params.length:Int))=false from decide_eq_false om,cond_false,Py,ew,Option.bind_some,wr om om,show (i:Int)+1=((i+1:Nat):Int) by omega]
      exact hn0 N k om om
    |succ q ihq=>
     intro t ht f2 m hm
     obtain ⟨x,hx⟩: ∃x,f.params[t]?=some x:=⟨_,List.getElem?_eq_getElem om⟩
     have htk:(f.params.take (t+1)).map (·.name)=(f.params.take t).map (·.name)++[x.name]:=by rw [List.take_add_one,hx];simp
     have hcl:=List.count_le_length (a:=x.name) (l:=(f.params.take t).map (·.name))
     simp only [List.length_map,List.length_take] at hcl
     have hm': ∀s,Cr (L7 x.name (Cr m x.name+1) m) s=(((f.params.take (t+1)).map (·.name)).count s:Int):=fun s=>by
      rw [Mj,htk,List.count_append]
      cases hs:(s==x.name)
      ·rw [cond_false,hm,List.count_cons_of_ne (fun e=>by subst e;simp at hs)];simp
      ·have:s=x.name:=by simpa using hs
       subst this
       rw [cond_true,hm,List.count_singleton_self];omega
     have next: ∀f3:AD,(f3.why=0↔f2.why=0∧x.name∉(f.params.take t).map (·.name))→∃r:AD,(r.why=0↔f2.why=0∧(∀i' x,t≤i'→f.params[i']?=some x→x.name∉(f.params.take i').map (·.name))∧Sc p (fun s=>s∈f.params.map (·.name)) f.body∧∀i' f,i+1≤i'→p.funcs[i']?=some f→PN f∧Sc p (fun s=>s∈f.params.map (·.name)) f.body)∧
       ∃n0,∀N k kk,n0≤N→n0≤k→n0≤kk→Jp (t:Int) m (Fw N p mpl i (DE N p mpl k) f kk) x f3.why f3.at_=some r:=by
      intro f3 hf3
      obtain ⟨r,hr,n0,hn0⟩:=ihq (t+1) om f3 _ hm'
      refine ⟨r,?_,n0,fun N k kk h1 h2 h3=>?_⟩
      ·rw [hr,hf3]
       constructor
       ·rintro ⟨⟨h1,h2⟩,h3,h4⟩
        refine ⟨h1,fun i' y hi' hy=>?_,h4⟩
        rcases Nat.eq_or_lt_of_le hi' with rfl|hlt
        ·rw [hx] at hy;cases hy;exact h2
        ·exact h3 i' y hlt hy
       ·rintro ⟨h1,h2,h3⟩
        exact ⟨⟨h1,h2 t x (Nat.le_refl _) hx⟩,fun i' y hi' hy=>h2 i' y om hy,h3⟩
      ·unfold Jp
       have:=hm x.name
       rw [wr (x:=(t:Int)+1) om om,wr (x:=Cr m x.name+1) om om,show (t:Int)+1=((t+1:Nat):Int) by omega]
       exact hn0 N k kk h1 h2 h3
     have hcnt:=List.count_pos_iff (a:=x.name) (l:=(f.params.take t).map (·.name))
     cases hpos:decide (Cr m x.name>0)
     ·have hpos':=D5 hpos
      obtain ⟨r,hr,n0,hn0⟩:=next f2 ⟨fun h=>⟨h,fun h'=>by have:=hcnt.2 h';rw [hm] at hpos';omega⟩,fun h=>h.1⟩
      refine ⟨r,hr,n0+1,fun N k kk h1 h2 h3=>?_⟩
      obtain ⟨kk,rfl⟩: ∃j,kk=j+1:=⟨kk - 1,om⟩
      show F1 N p mpl i (DE N p mpl k) f (Fw N p mpl i (DE N p mpl k) f kk) t f2.why f2.at_ m=_
      unfold F1
      rw [show decide ((t:Int)< (f.params.length:Int))=true from decide_eq_true om,cond_true,CL hx,Option.bind_some,hpos,cond_false]
      exact hn0 N k kk om om om
     ·have hpos':=CZ hpos
      obtain ⟨f3,e3,h3⟩:=QR (y:=30) (a:=x.at_) (flt:=⟨f2.why,f2.at_⟩) (by decide)
      obtain ⟨r,hr,n0,hn0⟩:=next f3 ⟨fun h=>absurd h h3,fun h=>absurd (hcnt.1 (by rw [hm] at hpos';omega)) h.2⟩
      refine ⟨r,hr,n0+1,fun N k kk h1 h2 h3=>?_⟩
      obtain ⟨kk,rfl⟩: ∃j,kk=j+1:=⟨kk - 1,om⟩
      show F1 N p mpl i (DE N p mpl k) f (Fw N p mpl i (DE N p mpl k) f kk) t f2.why f2.at_ m=_
      unfold F1
      rw [show decide ((t:Int)< (f.params.length:Int))=true from decide_eq_true om,cond_true,CL hx,Option.bind_some,hpos,cond_true,e3,Option.bind_some]
      exact hn0 N k kk om om om
   obtain ⟨r,hr,n0,hn0⟩:=pars f.params.length 0 om f0 [] fun s=>by simp [Tl]
   refine ⟨r,hr.trans ?_,n0,fun N k h1 h2=>hn0 N k N h1 h2 h1⟩
   constructor
   ·rintro ⟨h1,h2,h3,h4⟩
    refine ⟨h1,fun i' g hi' hg=>?_⟩
    rcases Nat.eq_or_lt_of_le hi' with rfl|hlt
    ·rw [hf] at hg;cases hg;exact ⟨fun i x hx=>h2 i x (Nat.zero_le _) hx,h3⟩
    ·exact h4 i' g hlt hg
   ·rintro ⟨h1,h2⟩
    have:=h2 i f (Nat.le_refl _) hf
    exact ⟨h1,fun i' x _ hx=>this.1 i' x hx,this.2,fun i' g hi' hg=>h2 i' g om hg⟩
 have places: ∀(j i:Nat),i+j=p.funcs.length→∀(f0:AD) (m:Aq),(∀nm,(nm∉(p.funcs.take i).map (·.name)∧Cr m nm=0)∨∃(k:Nat) (f:AO),k<i∧p.funcs[k]?=some f∧hd p nm=some f∧Cr m nm=(k:Int)+1)→
   EL (fun N k=>Hn N p k (i:Int) f0.why f0.at_ m) fun r=>r.why=0↔f0.why=0∧(∀i' f,i≤i'→p.funcs[i']?=some f→f.name∉(p.funcs.take i').map (·.name))∧∀f∈p.funcs,PN f∧Sc p (fun s=>s∈f.params.map (·.name)) f.body:=by
  intro j
  induction j with
  |zero=>
   intro i hi f0 m hm
   have htk:p.funcs.take i=p.funcs:=List.take_of_length_le om
   refine EL.down ?_
   show EL (fun N k=>H5 N p (Hn N p k) i f0.why f0.at_ m) _
   unfold H5
   refine EL.cond (fun h=>by have:=CZ h;omega) fun _=>?_
   have hpl:Pl p m:=fun nm=>by
    rcases hm nm with ⟨h1,h2⟩| ⟨k,f,h1,h2,h3,h4⟩
    ·rw [htk] at h1;exact .inl ⟨Vj h1,h2⟩
    ·exact .inr ⟨k,f,h2,h3,h4⟩
   refine EL.of ((bodies m hpl p.funcs.length 0 om f0).diag.mono fun r hr=>?_)
   rw [hr]
   constructor
   ·rintro ⟨h1,h2⟩
    refine ⟨h1,fun i' f hi' hf=>by have:=(List.getElem?_eq_some_iff.1 hf).1;omega,fun f hf=>?_⟩
    obtain ⟨i',hi'⟩:=List.mem_iff_getElem?.1 hf
    exact h2 i' f (Nat.zero_le _) hi'
   ·rintro ⟨h1,_,h2⟩
    exact ⟨h1,fun i' f _ hf=>h2 f (List.mem_of_getElem? hf)⟩
  |succ j ihj=>
   intro i hi f0 m hm
   obtain ⟨f,hf⟩: ∃f,p.funcs[i]?=some f:=⟨_,List.getElem?_eq_getElem om⟩
   have htk:(p.funcs.take (i+1)).map (·.name)=(p.funcs.take i).map (·.name)++[f.name]:=by rw [List.take_add_one,hf];simp
   refine EL.down ?_
   show EL (fun N k=>H5 N p (Hn N p k) i f0.why f0.at_ m) _
   unfold H5
   refine EL.cond (fun _=>?_) fun h=>by have:=D5 h;omega
   refine EL.eq (CL hf) ?_
   have e1:IntKind.i64.wrap ((i:Int)+1)=((i+1:Nat):Int):=by rw [wr om om];omega
   refine EL.cond (fun h=>?_) fun h=>?_
   ·have h:=CZ h
    refine EL.tb (QR (by decide)) fun f3 h3=>?_
    unfold Jo
    rw [e1]
    have hin:f.name∈(p.funcs.take i).map (·.name):=by
     rcases hm f.name with ⟨_,h2⟩| ⟨k,g,h1,h2,h3,h4⟩
     ·omega
     ·have hgn:g.name=f.name:=by unfold hd at h3;have:=List.find?_some h3;simpa using this
      rw [←hgn]
      refine List.mem_map.2 ⟨g,?_,rfl⟩
      rw [List.mem_take_iff_getElem]
      obtain ⟨hkl,hke⟩:=List.getElem?_eq_some_iff.1 h2
      exact ⟨k,om,hke⟩
    refine (ihj (i+1) om f3 m fun nm=>?_).mono fun r hr=>?_
    ·rcases hm nm with ⟨h1,h2⟩| ⟨k,g,h1,h2,h3,h4⟩
     ·refine .inl ⟨fun h'=>?_,h2⟩
      rw [htk] at h'
      rcases List.mem_append.1 h' with h'|h'
      ·exact h1 h'
      ·simp at h';subst h';exact h1 hin
     ·exact .inr ⟨k,g,om,h2,h3,h4⟩
    ·rw [hr]
     exact ⟨fun h=>absurd h.1 h3,fun h=>absurd hin (h.2.1 i f (Nat.le_refl _) hf)⟩
   ·have h:=D5 h
    unfold Jo
    rw [e1]
    have hout:f.name∉(p.funcs.take i).map (·.name):=by
     rcases hm f.name with ⟨h1,_⟩| ⟨k,g,h1,h2,h3,h4⟩
     ·exact h1
     ·omega
    refine (ihj (i+1) om f0 (L7 f.name ((i+1:Nat):Int) m) fun nm=>?_).mono fun r hr=>?_
    ·rw [Mj]
     cases hn:(nm==f.name)
     ·have hne:nm≠f.name:=by simpa using hn
      rw [cond_false]
      rcases hm nm with ⟨h1,h2⟩| ⟨k,g,h1,h2,h3,h4⟩
      ·refine .inl ⟨fun h'=>?_,h2⟩
       rw [htk] at h'
       rcases List.mem_append.1 h' with h'|h'
       ·exact h1 h'
       ·simp at h';exact hne h'
      ·exact .inr ⟨k,g,om,h2,h3,h4⟩
     ·have hne:nm=f.name:=by simpa using hn
      subst hne
      rw [cond_true]
      exact .inr ⟨i,f,om,hf,SC hf rfl hout,om⟩
    ·rw [hr]
     constructor
     ·rintro ⟨h1,h2,h3⟩
      refine ⟨h1,fun i' g hi' hg=>?_,h3⟩
      rcases Nat.eq_or_lt_of_le hi' with rfl|hlt
      ·rw [hf] at hg;cases hg;exact hout
      ·exact h2 i' g hlt hg
     ·rintro ⟨h1,h2,h3⟩
      exact ⟨h1,fun i' g hi' hg=>h2 i' g om hg,h3⟩
 refine (places p.funcs.length 0 om ⟨0,0⟩ [] fun nm=> .inl ⟨by simp,Tl nm⟩).diag.mono fun r hr=>?_
 rw [hr]
 constructor
 ·rintro ⟨_,h1,h2⟩;exact ⟨fun i f hf=>h1 i f (Nat.zero_le _) hf,h2⟩
 ·rintro ⟨h1,h2⟩;exact ⟨rfl,fun i f _ hf=>h1 i f hf,h2⟩
end
end Fth
namespace Fth
open Go
theorem P2{α:Type}{b:Nat}{xs ys:List α}(hb:b≤16)(h:xs.length+ys.length≤8000000000000):T (HF b xs ys) fun _=>True:=by
 rw [HF,if_pos]
 ·exact .some trivial
 ·refine ⟨?_,om⟩
  have:=Nat.mul_le_mul h hb
  omega
theorem QS{p:AM}{nm:List UInt8}{N:Nat}(hl:p.funcs.length≤1000000)(hN:p.funcs.length+2≤N):
  T (G6 N p nm) fun r=>(hd p nm=none∧r= -1)∨∃(i:Nat) (f:AO),p.funcs[i]?=some f∧hd p nm=some f∧r=(i:Int)∧f.name=nm∧nm∉(p.funcs.take i).map (·.name):=by
 have loop: ∀(k i:Nat),i≤p.funcs.length→p.funcs.length<i+k→nm∉(p.funcs.take i).map (·.name)→T (Io p nm k (i:Int)) fun r=>(hd p nm=none∧r= -1)∨∃(i:Nat) (f:AO),p.funcs[i]?=some f∧hd p nm=some f∧r=(i:Int)∧f.name=nm∧nm∉(p.funcs.take i).map (·.name):=by
  intro k
  induction k with
  |zero=>intro i _ _;omega
  |succ k ih=>
   intro i hi hk hno
   show T (KH p nm (Io p nm k) i) _
   unfold KH
   refine T.cond (fun h=>?_) fun h=>?_
   ·have h:=CZ h
    obtain ⟨f,hf⟩: ∃f,p.funcs[i]?=some f:=⟨_,List.getElem?_eq_getElem om⟩
    refine T.eq (CL hf) (T.cond (fun hn=>?_) fun hn=>?_)
    ·have hn:f.name=nm:=by simpa using hn
     exact .some (.inr ⟨i,f,hf,SC hf hn hno,rfl,hn,hno⟩)
    ·have hn:f.name≠nm:=by simpa using hn
     rw [wr om om,show (i:Int)+1=((i+1:Nat):Int) by omega]
     refine ih (i+1) om om fun h'=>?_
     rw [List.take_add_one,hf] at h'
     simp only [List.map_append,List.mem_append] at h'
     rcases h' with h'|h'
     ·exact hno h'
     ·simp at h';exact hn h'.symm
   ·have h:=D5 h
    rw [List.take_of_length_le om] at hno
    exact .some (.inl ⟨Vj hno,rfl⟩)
 exact loop N 0 om om (by simp)
theorem ZL{l:List (List UInt8)}{s:List UInt8}{N:Nat}(hl:l.length≤2000000000)(hN:l.length+2≤N):I6 N l s=some (decide (s∈l)):=by
 have loop: ∀(k i:Nat),i≤l.length→l.length<i+k→s∉l.take i→J8 l s k (i:Int)=some (decide (s∈l)):=by
  intro k
  induction k with
  |zero=>intro i _ _;omega
  |succ k ih=>
   intro i hi hk hno
   show LL l s (J8 l s k) i=_
   unfold LL
   cases h:decide ((i:Int)< (l.length:Int))
   ·have h:=D5 h
    rw [List.take_of_length_le om] at hno
    rw [cond_false,decide_eq_false hno]
   ·have h:=CZ h
    obtain ⟨x,hx⟩: ∃f,l[i]?=some f:=⟨_,List.getElem?_eq_getElem om⟩
    rw [cond_true,CL hx,Option.bind_some]
    cases hn:(x==s)
    ·have hn:x≠s:=by simpa using hn
     rw [cond_false,wr om om,show (i:Int)+1=((i+1:Nat):Int) by omega]
     refine ih (i+1) om om fun h'=>?_
     rw [List.take_add_one,hx] at h'
     rcases List.mem_append.1 h' with h'|h'
     ·exact hno h'
     ·simp at h';exact hn h'.symm
    ·have hn:x=s:=by simpa using hn
     subst hn
     rw [cond_true,decide_eq_true (List.mem_of_getElem? hx)]
 exact loop N 0 om om (by simp)
theorem AAN{a b:List (List UInt8)}(h:a.length+b.length≤2000000000):Ip a b=some (a++b):=by
 unfold Ip
 obtain ⟨_,e1,_⟩:=P2 (b:=16) (xs:=([]:List (List UInt8))) (ys:=a) (by decide) (by simp;omega)
 obtain ⟨_,e2,_⟩:=P2 (b:=16) (xs:=([]:List (List UInt8))++a) (ys:=b) (by decide) (by simp;omega)
 rw [e1,Option.bind_some,e2,Option.bind_some,List.nil_append]
section
variable{p:AM}
def NZ(p:AM)(l:List BE):Prop:=∀s∈l,s.free=false∧KY p s.e
theorem AAO: ∀(n:Nat) (e:AE),E0 e≤n→∀(C:List (List UInt8)),C.length+2*n≤1000000000→n≤10000000→ET (fun N=>ref06_seen N e C) fun l=>l.length≤E0 e∧(NZ p l↔Sc p (fun s=>s∈C) e):=by
 intro n
 induction n with
 |zero=>intro e he;have:=Mh e;omega
 |succ n ih=>
  intro e he C hC hn
  have hal:=M1 e.args
  have hes:=PA e
  refine ET.down ?_
  show ET (fun N=>K7 (Bb.at N) N e C) _
  have loop: ∀(j i:Nat),i+j=e.args.length→∀(acc:List BE),acc.length≤1+DK (e.args.take i)→
    EL (fun N k=>IW (Bb.at N) e C k acc (i:Int)) fun l=>l.length≤1+DK e.args - (1+DK (e.args.take i) - acc.length)∧(NZ p l↔NZ p acc∧∀i' a,i≤i'→e.args[i']?=some a→Sc p (fun s=>s∈bnd e i'∨s∈C) a):=by
   intro j
   induction j with
   |zero=>
    intro i hi acc hacc
    refine EL.down ?_
    show EL (fun N k=>Iq (Bb.at N) e C (IW (Bb.at N) e C k) acc i) _
    unfold Iq
    have htk:e.args.take i=e.args:=List.take_of_length_le om
    refine EL.cond (fun h=>by have:=CZ h;omega) fun _=> .some ⟨by rw [htk] at hacc ⊢;omega,fun h=>⟨h,fun i' a hi' ha=>?_⟩,fun h=>h.1⟩
    have:=(List.getElem?_eq_some_iff.1 ha).1
    omega
   |succ j ihj=>
    intro i hi acc hacc
    refine EL.down ?_
    show EL (fun N k=>Iq (Bb.at N) e C (IW (Bb.at N) e C k) acc i) _
    unfold Iq
    obtain ⟨a,ha⟩: ∃a,e.args[i]?=some a:=⟨_,List.getElem?_eq_getElem om⟩
    have has:=N6 (List.mem_of_getElem? ha)
    have hbl:=Xh e i
    have htk:DK (e.args.take (i+1))=DK (e.args.take i)+E0 a:=by rw [List.take_add_one,ha];simp [KV,DK]
    have htk2:DK (e.args.take (i+1))≤DK e.args:=by
     have:=KV (e.args.take (i+1)) (e.args.drop (i+1))
     rw [List.take_append_drop] at this;omega
    refine EL.cond (fun _=>?_) fun h=>by have:=D5 h;omega
    refine EL.eq (AAK e i) (EL.eq (AAN om) (EL.eq (CL ha) (EL.bind (P:=fun l=>l.length≤E0 a∧(NZ p l↔Sc p (fun s=>s∈bnd e i∨s∈C) a)) ?_ fun l hl=>?_)))
    ·have:=ih a om (C++bnd e i) (by rw [List.length_append];omega) om
     have eB:(fun s=>s∈C++bnd e i)=fun s=>s∈bnd e i∨s∈C:=funext fun s=>propext (List.mem_append.trans Or.comm)
     rw [eB] at this
     exact this
    ·refine EL.tb (Gy (by decide) om) fun _ _=>?_
     rw [wr om om,show (i:Int)+1=((i+1:Nat):Int) by omega]
     refine (ihj (i+1) om (acc++l) (by rw [List.length_append,htk];omega)).mono fun r hr=>⟨by have:=hr.1;rw [List.length_append,htk] at this;omega,?_⟩
     rw [hr.2]
     constructor
     ·rintro ⟨h1,h2⟩
      have a1:NZ p acc:=fun s hs=>h1 s (List.mem_append_left _ hs)
      have a2:NZ p l:=fun s hs=>h1 s (List.mem_append_right _ hs)
      refine ⟨a1,fun i' b hi' hb=>?_⟩
      rcases Nat.eq_or_lt_of_le hi' with rfl|hlt
      ·rw [ha] at hb;cases hb;exact hl.2.1 a2
      ·exact h2 i' b hlt hb
     ·rintro ⟨h1,h2⟩
      refine ⟨fun s hs=>?_,fun i' b hi' hb=>h2 i' b om hb⟩
      rcases List.mem_append.1 hs with hs|hs
      ·exact h1 s hs
      ·exact hl.2.2 (h2 i a (Nat.le_refl _) ha) s hs
  have j1: ∀(acc:List BE),acc.length≤1→(NZ p acc↔(e.op=6→e.name∈C)∧KY p e)→ET (fun N=>JY (Bb.at N) N e C acc) fun l=>l.length≤E0 e∧(NZ p l↔Sc p (fun s=>s∈C) e):=by
   intro acc hacc hok
   unfold JY
   refine (loop e.args.length 0 om acc om).diag.mono fun r hr=>⟨om,?_⟩
   rw [hr.2,hok,ZJ]
   constructor
   ·rintro ⟨⟨h1,h2⟩,h3⟩;exact ⟨h1,h2,fun i a ha=>h3 i a (Nat.zero_le _) ha⟩
   ·rintro ⟨h1,h2,h3⟩;exact ⟨⟨h1,h2⟩,fun i a _ ha=>h3 i a ha⟩
  unfold K7 LM
  refine ET.cond (fun h=>?_) fun h=>?_
  ·have h6:=CH h
   refine ET.cond (fun _=>ET.cond (fun _=>?_) fun h=>absurd h6 (B0 h)) fun h=>by cases h
   refine ET.bind (P:=fun b=>b=decide (e.name∈C)) (RF (C.length+2) ⟨_,rfl,fun N hN=>ZL om hN⟩) fun b hb=>?_
   subst hb
   refine ET.tb (Gy (by decide) (by simp)) fun _ _=>j1 _ (by simp) ?_
   simp only [List.nil_append,NZ,List.mem_singleton,forall_eq]
   constructor
   ·rintro ⟨h1,h2⟩;exact ⟨fun _=>by simpa using h1,h2⟩
   ·rintro ⟨h1,h2⟩;exact ⟨by simpa using h1 h6,h2⟩
  ·have h6:=B0 h
   cases h7:(e.op==7)
   ·have h7:=B0 h7
    refine ET.cond (fun h=>by cases h) fun _=>j1 _ (by simp) ?_
    exact ⟨fun _=>⟨fun h=>absurd h h6,fun h=>absurd h h7⟩,fun _ s hs=>by cases hs⟩
   ·refine ET.cond (fun _=>ET.cond (fun h=>absurd (CH h) h6) fun _=>?_) fun h=>by cases h
    refine ET.tb (Gy (by decide) (by simp)) fun _ _=>j1 _ (by simp) ?_
    simp only [List.nil_append,NZ,List.mem_singleton,forall_eq]
    exact ⟨fun h=>⟨fun h'=>absurd h' h6,h.2⟩,fun h=>⟨trivial,h.2⟩⟩
def GF(l:List AD)(n:Nat):Prop:=(∀y∈l,y.why≠0)∧l.length≤n
theorem GF.snoc{l:List AD}{n:Nat}{y:AD}(h:GF l n)(hy:y.why≠0):GF (l++[y]) (n+1):=by
 refine ⟨fun z hz=>?_,by simp;exact h.2⟩
 rcases List.mem_append.1 hz with hz|hz
 ·exact h.1 z hz
 ·simp at hz;subst hz;exact hy
theorem YE(hlen:p.funcs.length≤50000)(hb: ∀f∈p.funcs,E0 f.body≤1000000∧f.params.length≤1000000):ET (fun N=>HW N p) fun l=>GF l 200000000000∧(l=[]↔AAJ p):=by
 have seens: ∀(l:List BE),l.length≤1000000→∀(i:Nat) (S:Nat→Nat→List AD→Int→Option (List AD)) (n0:Nat),n0+2*l.length≤300000000000→i≤50000→∀(j t:Nat),t+j=l.length→∀acc,GF acc (n0+2*t)→
   ∃acc',GF acc' (n0+2*l.length)∧(acc'=[]↔acc=[]∧∀t' s,t≤t'→l[t']?=some s→s.free=false∧KY p s.e)∧∃n1,∀N k kk,n1≤N→n1≤kk→EH N p i (S N k) l kk acc (t:Int)=S N k acc' ((i+1:Nat):Int):=by
  intro l hl i S n0 hn0 hi j
  induction j with
  |zero=>
   intro t ht acc hacc
   refine ⟨acc,by rw [show t=l.length by omega] at hacc;exact hacc,⟨fun h=>⟨h,fun t' s ht' hs=>by have:=(List.getElem?_eq_some_iff.1 hs).1;omega⟩,fun h=>h.1⟩,1,fun N k kk _ hkk=>?_⟩
   obtain ⟨kk,rfl⟩: ∃j,kk=j+1:=⟨kk - 1,om⟩
   show Fc N p i (S N k) l (EH N p i (S N k) l kk) acc t=_
   unfold Fc
   rw [show decide ((t:Int)< (l.length:Int))=false from decide_eq_false om,cond_false,wr om om,show (i:Int)+1=((i+1:Nat):Int) by omega]
  |succ j ihj=>
   intro t ht acc hacc
   obtain ⟨s,hs⟩: ∃s,l[t]?=some s:=⟨_,List.getElem?_eq_getElem om⟩
   have iff: ∀{A:Prop},(A↔acc=[]∧(s.free=false∧KY p s.e))→((A∧∀t' s,t+1≤t'→l[t']?=some s→s.free=false∧KY p s.e)↔acc=[]∧∀t' s,t≤t'→l[t']?=some s→s.free=false∧KY p s.e):=by
    intro A hA
    rw [hA]
    constructor
    ·rintro ⟨⟨h1,h2⟩,h3⟩
     refine ⟨h1,fun t' s' ht' hs'=>?_⟩
     rcases Nat.eq_or_lt_of_le ht' with rfl|hlt
     ·rw [hs] at hs';cases hs';exact h2
     ·exact h3 t' s' hlt hs'
    ·rintro ⟨h1,h2⟩
     exact ⟨⟨h1,h2 t s (Nat.le_refl _) hs⟩,fun t' s' ht' hs'=>h2 t' s' om hs'⟩
   have e1:IntKind.i64.wrap ((t:Int)+1)=((t+1:Nat):Int):=by rw [wr om om];omega
   have call: ∀(a1:List AD),GF a1 (n0+2*t+1)→(a1=[]↔acc=[]∧s.free=false)→∃acc',GF acc' (n0+2*l.length)∧(acc'=[]↔acc=[]∧∀t' s,t≤t'→l[t']?=some s→s.free=false∧KY p s.e)∧∃n1,∀N k kk,n1≤N→n1≤kk→F3 N p t (EH N p i (S N k) l kk) s a1=S N k acc' ((i+1:Nat):Int):=by
    intro a1 ha1 hf
    have go: ∀a2,GF a2 (n0+2*(t+1))→(a2=[]↔acc=[]∧(s.free=false∧KY p s.e))→∃acc',GF acc' (n0+2*l.length)∧(acc'=[]↔acc=[]∧∀t' s,t≤t'→l[t']?=some s→s.free=false∧KY p s.e)∧∃n1,∀N k kk,n1≤N→n1≤kk→F2 t (EH N p i (S N k) l kk) a2=S N k acc' ((i+1:Nat):Int):=by
     intro a2 h2 h3
     obtain ⟨acc',q1,q2,n1,q3⟩:=ihj (t+1) om a2 h2
     refine ⟨acc',q1,q2.trans (iff h3),n1,fun N k kk hN hkk=>?_⟩
     unfold F2
     rw [e1]
     exact q3 N k kk hN hkk
    have up:GF a1 (n0+2*(t+1)):=⟨ha1.1,by have:=ha1.2;omega⟩
    cases h7:(s.e.op != 7)
    ·have h7':=J1 h7
     have hcall: ∀N,p.funcs.length+2≤N→T (G6 N p s.e.name) fun r=>(hd p s.e.name=none∧r= -1)∨∃(i:Nat) (f:AO),p.funcs[i]?=some f∧hd p s.e.name=some f∧r=(i:Int)∧f.name=s.e.name∧s.e.name∉(p.funcs.take i).map (·.name):=fun N hN=>QS om hN
     have bad: ∀y:Int,y≠0→¬KY p s.e→∃acc',GF acc' (n0+2*l.length)∧(acc'=[]↔acc=[]∧∀t' s,t≤t'→l[t']?=some s→s.free=false∧KY p s.e)∧∃n1,∀N k kk,n1≤N→n1≤kk→((HF 16 a1 [AD.mk y s.e.at_]).bind fun _=>F2 t (EH N p i (S N k) l kk) (a1++[AD.mk y s.e.at_]))=S N k acc' ((i+1:Nat):Int):=by
      intro y hy hno
      obtain ⟨acc',q1,q2,n1,q3⟩:=go (a1++[AD.mk y s.e.at_]) ⟨(ha1.snoc hy).1,by have:=(ha1.snoc (y:=AD.mk y s.e.at_) hy).2;omega⟩ ⟨fun h=>by simp at h,fun h=>absurd h.2.2 hno⟩
      refine ⟨acc',q1,q2,n1,fun N k kk hN hkk=>?_⟩
      obtain ⟨_,e,_⟩:=P2 (b:=16) (xs:=a1) (ys:=[AD.mk y s.e.at_]) (by decide) (by have:=ha1.2;simp;omega)
      rw [e,Option.bind_some]
      exact q3 N k kk hN hkk
     cases hh:hd p s.e.name with
     |none=>
      obtain ⟨acc',q1,q2,n1,q3⟩:=bad 32 (by decide) fun h=>by obtain ⟨f,hf',_⟩:=h h7';rw [hh] at hf';cases hf'
      refine ⟨acc',q1,q2,n1+p.funcs.length+2,fun N k kk hN hkk=>?_⟩
      unfold F3
      obtain ⟨r,hr,hr'⟩:=hcall N om
      rcases hr' with ⟨_,h0⟩| ⟨_,f,_,h0,_⟩
      ·subst h0
       rw [h7,cond_false,hr,Option.bind_some,show decide ((-1:Int)<0)=true from rfl,cond_true]
       exact q3 N k kk om om
      ·rw [hh] at h0;cases h0
     |some f=>
      rcases Decidable.em (f.params.length=s.e.args.length) with hfl|hfl
      ·obtain ⟨acc',q1,q2,n1,q3⟩:=go a1 up (by rw [hf];exact ⟨fun h=>⟨h.1,h.2,fun _=>⟨f,hh,hfl⟩⟩,fun h=>⟨h.1,h.2.1⟩⟩)
       refine ⟨acc',q1,q2,n1+p.funcs.length+2,fun N k kk hN hkk=>?_⟩
       unfold F3
       obtain ⟨r,hr,hr'⟩:=hcall N om
       rcases hr' with ⟨h0,_⟩| ⟨i2,f2,h1,h0,h3,_⟩
       ·rw [hh] at h0;cases h0
       ·rw [hh] at h0;cases h0
        subst h3
        rw [h7,cond_false,hr,Option.bind_some,show decide ((i2:Int)<0)=false from decide_eq_false om,cond_false,CL h1,Option.bind_some,show ((f.params.length:Int) != (s.e.args.length:Int))=false by simp;omega,cond_false]
        exact q3 N k kk om om
      ·obtain ⟨acc',q1,q2,n1,q3⟩:=bad 33 (by decide) fun h=>by obtain ⟨g,hg,hl⟩:=h h7';rw [hh] at hg;cases hg;exact hfl hl
       refine ⟨acc',q1,q2,n1+p.funcs.length+2,fun N k kk hN hkk=>?_⟩
       unfold F3
       obtain ⟨r,hr,hr'⟩:=hcall N om
       rcases hr' with ⟨h0,_⟩| ⟨i2,f2,h1,h0,h3,_⟩
       ·rw [hh] at h0;cases h0
       ·rw [hh] at h0;cases h0
        subst h3
        rw [h7,cond_false,hr,Option.bind_some,show decide ((i2:Int)<0)=false from decide_eq_false om,cond_false,CL h1,Option.bind_some,show ((f.params.length:Int) != (s.e.args.length:Int))=true by simp;omega,cond_true]
        exact q3 N k kk om om
    ·have h7':=Lf h7
     obtain ⟨acc',q1,q2,n1,q3⟩:=go a1 up (by rw [hf];exact ⟨fun h=>⟨h.1,h.2,fun h=>absurd h h7'⟩,fun h=>⟨h.1,h.2.1⟩⟩)
     refine ⟨acc',q1,q2,n1,fun N k kk hN hkk=>?_⟩
     unfold F3
     rw [h7,cond_true]
     exact q3 N k kk hN hkk
   cases hfr:s.free
   ·obtain ⟨acc',q1,q2,n1,q3⟩:=call acc ⟨hacc.1,by have:=hacc.2;omega⟩ ⟨fun h=>⟨h,hfr⟩,fun h=>h.1⟩
    refine ⟨acc',q1,q2,n1+1,fun N k kk hN hkk=>?_⟩
    obtain ⟨kk,rfl⟩: ∃j,kk=j+1:=⟨kk - 1,om⟩
    show Fc N p i (S N k) l (EH N p i (S N k) l kk) acc t=_
    unfold Fc
    rw [show decide ((t:Int)< (l.length:Int))=true from decide_eq_true om,cond_true,CL hs,Option.bind_some,hfr,cond_false]
    exact q3 N k kk om om
   ·obtain ⟨acc',q1,q2,n1,q3⟩:=call (acc++[AD.mk 31 s.e.at_]) (hacc.snoc (y:=AD.mk 31 s.e.at_) (show (31:Int)≠0 by decide)) ⟨fun h=>by simp at h,fun h=>by rw [hfr] at h;cases h.2⟩
    refine ⟨acc',q1,q2,n1+1,fun N k kk hN hkk=>?_⟩
    obtain ⟨kk,rfl⟩: ∃j,kk=j+1:=⟨kk - 1,om⟩
    show Fc N p i (S N k) l (EH N p i (S N k) l kk) acc t=_
    unfold Fc
    obtain ⟨_,e,_⟩:=P2 (b:=16) (xs:=acc) (ys:=[AD.mk 31 s.e.at_]) (by decide) (by have:=hacc.2;simp;omega)
    rw [show decide ((t:Int)< (l.length:Int))=true from decide_eq_true om,cond_true,CL hs,Option.bind_some,hfr,cond_true,e,Option.bind_some]
    exact q3 N k kk om om
 have pars: ∀(i:Nat) (f:AO),p.funcs[i]?=some f→∀(S:Nat→Nat→List AD→Int→Option (List AD)) (n0:Nat),n0+3000000≤300000000000→∀(j t:Nat),t+j=f.params.length→∀acc,GF acc (n0+t)→
   ∃acc',GF acc' (n0+3000000)∧(acc'=[]↔acc=[]∧(∀t' x,t≤t'→f.params[t']?=some x→x.name∉(f.params.take t').map (·.name))∧Sc p (fun s=>s∈f.params.map (·.name)) f.body)∧∃n1,∀N k kk,n1≤N→n1≤kk→Eh N p i (S N k) f kk acc ((f.params.take t).map (·.name)) (t:Int)=S N k acc' ((i+1:Nat):Int):=by
  intro i f hf S n0 hn0 j
  have hfb:=hb f (List.mem_of_getElem? hf)
  have hil:=(List.getElem?_eq_some_iff.1 hf).1
  induction j with
  |zero=>
   intro t ht acc hacc
   have htk:f.params.take t=f.params:=List.take_of_length_le om
   obtain ⟨l,hl,n2,hn2⟩:=AAO (p:=p) (E0 f.body) f.body (Nat.le_refl _) (f.params.map (·.name)) (by rw [List.length_map];omega) om
   obtain ⟨acc',q1,q2,n1,q3⟩:=seens l om i S (n0+t) om om l.length 0 om acc (by simpa using hacc)
   refine ⟨acc',⟨q1.1,by have:=q1.2;omega⟩,?_,n1+n2+1,fun N k kk hN hkk=>?_⟩
   ·rw [q2,←hl.2]
    constructor
    ·rintro ⟨h1,h2⟩
     refine ⟨h1,fun t' x ht' hx=>by have:=(List.getElem?_eq_some_iff.1 hx).1;omega,fun s hs=>?_⟩
     obtain ⟨t',ht'⟩:=List.mem_iff_getElem?.1 hs
     exact h2 t' s (Nat.zero_le _) ht'
    ·rintro ⟨h1,_,h2⟩
     exact ⟨h1,fun t' s _ hs=>h2 s (List.mem_of_getElem? hs)⟩
   ·obtain ⟨kk,rfl⟩: ∃j,kk=j+1:=⟨kk - 1,om⟩
    show Fe N p i (S N k) f (Eh N p i (S N k) f kk) acc ((f.params.take t).map (·.name)) t=_
    unfold Fe
    have es:ref06_seen N f.body (f.params.map (·.name))=some l:=hn2 N om
    rw [show decide ((t:Int)< (f.params.length:Int))=false from decide_eq_false om,cond_false,Py,htk,es,Option.bind_some]
    exact q3 N k N om om
  |succ j ihj=>
   intro t ht acc hacc
   obtain ⟨x,hx⟩: ∃x,f.params[t]?=some x:=⟨_,List.getElem?_eq_getElem om⟩
   have htk:(f.params.take (t+1)).map (·.name)=(f.params.take t).map (·.name)++[x.name]:=by rw [List.take_add_one,hx];simp
   have hln:((f.params.take t).map (·.name)).length=t:=by simp;omega
   have go: ∀a2,GF a2 (n0+(t+1))→(a2=[]↔acc=[]∧x.name∉(f.params.take t).map (·.name))→∃acc',GF acc' (n0+3000000)∧(acc'=[]↔acc=[]∧(∀t' x,t≤t'→f.params[t']?=some x→x.name∉(f.params.take t').map (·.name))∧Sc p (fun s=>s∈f.params.map (·.name)) f.body)∧
     ∃n1,∀N k kk,n1≤N→n1≤kk→I7 f ((f.params.take t).map (·.name)) t (Eh N p i (S N k) f kk) a2=S N k acc' ((i+1:Nat):Int):=by
    intro a2 h2 h3
    obtain ⟨acc',q1,q2,n1,q3⟩:=ihj (t+1) om a2 h2
    refine ⟨acc',q1,q2.trans ?_,n1,fun N k kk hN hkk=>?_⟩
    ·rw [h3]
     constructor
     ·rintro ⟨⟨h1,h2⟩,h3,h4⟩
      refine ⟨h1,fun t' y ht' hy=>?_,h4⟩
      rcases Nat.eq_or_lt_of_le ht' with rfl|hlt
      ·rw [hx] at hy;cases hy;exact h2
      ·exact h3 t' y hlt hy
     ·rintro ⟨h1,h2,h3⟩
      exact ⟨⟨h1,h2 t x (Nat.le_refl _) hx⟩,fun t' y ht' hy=>h2 t' y om hy,h3⟩
    ·unfold I7
     obtain ⟨_,e,_⟩:=P2 (b:=16) (xs:=(f.params.take t).map (·.name)) (ys:=[x.name]) (by decide) (by rw [hln];simp;omega)
     rw [CL hx,Option.bind_some,e,Option.bind_some,wr om om,show (t:Int)+1=((t+1:Nat):Int) by omega,←htk]
     exact q3 N k kk hN hkk
   have hhas: ∀N,t+2≤N→I6 N ((f.params.take t).map (·.name)) x.name=some (decide (x.name∈(f.params.take t).map (·.name))):=fun N hN=>ZL (by rw [hln];omega) (by rw [hln];omega)
   rcases Decidable.em (x.name∈(f.params.take t).map (·.name)) with hin|hin
   ·obtain ⟨acc',q1,q2,n1,q3⟩:=go (acc++[AD.mk 30 x.at_]) ⟨(hacc.snoc (y:=AD.mk 30 x.at_) (show (30:Int)≠0 by decide)).1,by have:=hacc.2;simp;omega⟩ ⟨fun h=>by simp at h,fun h=>absurd hin h.2⟩
    refine ⟨acc',q1,q2,n1+t+2,fun N k kk hN hkk=>?_⟩
    obtain ⟨kk,rfl⟩: ∃j,kk=j+1:=⟨kk - 1,om⟩
    show Fe N p i (S N k) f (Eh N p i (S N k) f kk) acc ((f.params.take t).map (·.name)) t=_
    unfold Fe
    obtain ⟨_,e,_⟩:=P2 (b:=16) (xs:=acc) (ys:=[AD.mk 30 x.at_]) (by decide) (by have:=hacc.2;simp;omega)
    rw [show decide ((t:Int)< (f.params.length:Int))=true from decide_eq_true om,cond_true,CL hx,Option.bind_some,hhas N om,Option.bind_some,decide_eq_true hin,cond_true,e,Option.bind_some]
    exact q3 N k kk om om
   ·obtain ⟨acc',q1,q2,n1,q3⟩:=go acc ⟨hacc.1,by have:=hacc.2;omega⟩ ⟨fun h=>⟨h,hin⟩,fun h=>h.1⟩
    refine ⟨acc',q1,q2,n1+t+2,fun N k kk hN hkk=>?_⟩
    obtain ⟨kk,rfl⟩: ∃j,kk=j+1:=⟨kk - 1,om⟩
    show Fe N p i (S N k) f (Eh N p i (S N k) f kk) acc ((f.params.take t).map (·.name)) t=_
    unfold Fe
    rw [show decide ((t:Int)< (f.params.length:Int))=true from decide_eq_true om,cond_true,CL hx,Option.bind_some,hhas N om,Option.bind_some,decide_eq_false hin,cond_false]
    exact q3 N k kk om om
 have fns: ∀(j i:Nat),i+j=p.funcs.length→∀acc,GF acc (i*3000001)→EL (fun N k=>Ei N p k acc (i:Int)) fun r=>GF r 200000000000∧(r=[]↔acc=[]∧∀i' f,i≤i'→p.funcs[i']?=some f→f.name∉(p.funcs.take i').map (·.name)∧PN f∧Sc p (fun s=>s∈f.params.map (·.name)) f.body):=by
  intro j
  induction j with
  |zero=>
   intro i hi acc hacc
   refine EL.down ?_
   show EL (fun N k=>HP N p (Ei N p k) acc i) _
   unfold HP
   refine EL.cond (fun h=>by have:=CZ h;omega) fun _=> .some ⟨⟨hacc.1,by have:=hacc.2;omega⟩,fun h=>⟨h,fun i' f hi' hf=>by have:=(List.getElem?_eq_some_iff.1 hf).1;omega⟩,fun h=>h.1⟩
  |succ j ihj=>
   intro i hi acc hacc
   obtain ⟨f,hf⟩: ∃f,p.funcs[i]?=some f:=⟨_,List.getElem?_eq_getElem om⟩
   have step: ∀a2,GF a2 (i*3000001+1)→(a2=[]↔acc=[]∧f.name∉(p.funcs.take i).map (·.name))→EL (fun N k=>I8 N p i (Ei N p k) f a2) fun r=>GF r 200000000000∧(r=[]↔acc=[]∧∀i' f,i≤i'→p.funcs[i']?=some f→f.name∉(p.funcs.take i').map (·.name)∧PN f∧Sc p (fun s=>s∈f.params.map (·.name)) f.body):=by
    intro a2 h2 h3
    obtain ⟨n0,hn0⟩: ∃n,n=i*3000001+1:=⟨_,rfl⟩
    rw [←hn0] at h2
    obtain ⟨acc',q1,q2,n1,q3⟩:=pars i f hf (fun N k=>Ei N p k) n0 om f.params.length 0 om a2 h2
    obtain ⟨r,hr,n2,hn2⟩:=ihj (i+1) om acc' ⟨q1.1,by have:=q1.2;omega⟩
    refine ⟨r,⟨hr.1,hr.2.trans ?_⟩,n1+n2,fun N k hN hk=>?_⟩
    ·rw [q2,h3]
     constructor
     ·rintro ⟨⟨⟨h1,h2⟩,h3,h4⟩,h5⟩
      refine ⟨h1,fun i' g hi' hg=>?_⟩
      rcases Nat.eq_or_lt_of_le hi' with rfl|hlt
      ·rw [hf] at hg;cases hg;exact ⟨h2,fun t x hx=>h3 t x (Nat.zero_le _) hx,h4⟩
      ·exact h5 i' g hlt hg
     ·rintro ⟨h1,h2⟩
      have:=h2 i f (Nat.le_refl _) hf
      exact ⟨⟨⟨h1,this.1⟩,fun t x _ hx=>this.2.1 t x hx,this.2.2⟩,fun i' g hi' hg=>h2 i' g om hg⟩
    ·unfold I8
     have:=q3 N k N om om
     simp only [List.take_zero,List.map_nil] at this
     show Eh N p i (Ei N p k) f N a2 [] 0=some r
     refine Eq.trans this ?_
     exact hn2 N k om om
   refine EL.down ?_
   show EL (fun N k=>HP N p (Ei N p k) acc i) _
   unfold HP
   refine EL.cond (fun _=>?_) fun h=>by have:=D5 h;omega
   refine EL.eq (CL hf) (EL.bind (P:=fun r=>r=(i:Int)∧f.name∉(p.funcs.take i).map (·.name)∨r< (i:Int)∧f.name∈(p.funcs.take i).map (·.name)) ?_ fun r hr=>?_)
   ·rcases Decidable.em (f.name∈(p.funcs.take i).map (·.name)) with hin|hin
    ·obtain ⟨r,hr,hr'⟩:=QS (p:=p) (nm:=f.name) (N:=p.funcs.length+2) om (Nat.le_refl _)
     obtain ⟨g,hg,hgn⟩:=List.mem_map.1 hin
     rw [List.mem_take_iff_getElem] at hg
     obtain ⟨q,hq,hqe⟩:=hg
     refine RF (p.funcs.length+2) ⟨r,?_,fun N hN=>?_⟩
     ·rcases hr' with ⟨h1,_⟩| ⟨i2,f2,h1,h2,h3,h4,h5⟩
      ·unfold hd at h1
       rw [List.find?_eq_none] at h1
       exact absurd (by simp) (h1 f (List.mem_of_getElem? hf))
      ·refine .inr ⟨?_,hin⟩
       rw [h3]
       rcases Nat.lt_or_ge i2 i with h|h
       ·omega
       ·refine absurd (List.mem_map.2 ⟨g,?_,hgn⟩) h5
        rw [List.mem_take_iff_getElem]
        have:=(List.getElem?_eq_some_iff.1 h1).1
        exact ⟨q,om,hqe⟩
     ·obtain ⟨r2,hr2,hr2'⟩:=QS (p:=p) (nm:=f.name) (N:=N) om hN
      rw [hr2];congr 1
      rcases hr' with ⟨h1,h2⟩| ⟨i2,f2,h1,h2,h3,h4,h5⟩
      ·rcases hr2' with ⟨_,h3⟩| ⟨_,_,_,h3,_⟩
       ·rw [h2,h3]
       ·rw [h1] at h3;cases h3
      ·rcases hr2' with ⟨k1,_⟩| ⟨i3,f3,k1,k2,k3,k4,k5⟩
       ·rw [h2] at k1;cases k1
       ·rw [h3,k3]
        rcases Nat.lt_trichotomy i2 i3 with h|h|h
        ·refine absurd (List.mem_map.2 ⟨f2,?_,h4⟩) k5
         rw [List.mem_take_iff_getElem]
         obtain ⟨a1,a2⟩:=List.getElem?_eq_some_iff.1 h1
         have:=(List.getElem?_eq_some_iff.1 k1).1
         exact ⟨i2,om,a2⟩
        ·rw [h]
        ·refine absurd (List.mem_map.2 ⟨f3,?_,k4⟩) h5
         rw [List.mem_take_iff_getElem]
         obtain ⟨a1,a2⟩:=List.getElem?_eq_some_iff.1 k1
         have:=(List.getElem?_eq_some_iff.1 h1).1
         exact ⟨i3,om,a2⟩
    ·refine RF (p.funcs.length+2) ⟨(i:Int),.inl ⟨rfl,hin⟩,fun N hN=>?_⟩
     obtain ⟨r2,hr2,hr2'⟩:=QS (p:=p) (nm:=f.name) (N:=N) om hN
     rw [hr2];congr 1
     have hdi:=SC hf rfl hin
     rcases hr2' with ⟨k1,_⟩| ⟨i3,f3,k1,k2,k3,k4,k5⟩
     ·rw [hdi] at k1;cases k1
     ·rw [k3]
      rcases Nat.lt_trichotomy i3 i with h|h|h
      ·refine absurd (List.mem_map.2 ⟨f3,?_,k4⟩) hin
       rw [List.mem_take_iff_getElem]
       obtain ⟨a1,a2⟩:=List.getElem?_eq_some_iff.1 k1
       exact ⟨i3,om,a2⟩
      ·rw [h]
      ·refine absurd (List.mem_map.2 ⟨f,?_,rfl⟩) k5
       rw [List.mem_take_iff_getElem]
       obtain ⟨a1,a2⟩:=List.getElem?_eq_some_iff.1 hf
       have:=(List.getElem?_eq_some_iff.1 k1).1
       exact ⟨i,om,a2⟩
   ·rcases hr with ⟨h1,h2⟩| ⟨h1,h2⟩
    ·refine EL.cond (fun h=>by have:=CZ h;omega) fun _=>step acc ⟨hacc.1,Nat.le_succ_of_le hacc.2⟩ ⟨fun h=>⟨h,h2⟩,fun h=>h.1⟩
    ·refine EL.cond (fun _=>EL.tb (P2 (by decide) (by have:=hacc.2;simp;omega)) fun _ _=>step _ (hacc.snoc (y:=AD.mk 30 f.at_) (show (30:Int)≠0 by decide)) ⟨fun h=>by simp at h,fun h=>absurd h2 h.2⟩) fun h=>by have:=D5 h;omega
 refine (fns p.funcs.length 0 om [] ⟨fun y h=>(by cases h),by simp⟩).diag.mono fun r hr=>⟨hr.1,hr.2.trans ?_⟩
 constructor
 ·rintro ⟨_,h⟩
  refine ⟨fun i f hf=>(h i f (Nat.zero_le _) hf).1,fun f hf=>?_⟩
  obtain ⟨i,hi⟩:=List.mem_iff_getElem?.1 hf
  exact (h i f (Nat.zero_le _) hi).2
 ·rintro ⟨h1,h2⟩
  exact ⟨rfl,fun i f _ hf=>⟨h1 i f hf,h2 f (List.mem_of_getElem? hf)⟩⟩
theorem ZM(hlen:p.funcs.length≤50000)(hb: ∀f∈p.funcs,E0 f.body≤1000000∧f.params.length≤1000000):ET (fun N=>Hu N p) fun r=>r.why=0↔AAJ p:=by
 unfold Hu
 refine ET.bind (YE hlen hb) fun l hl=>?_
 have loop: ∀(j i:Nat),i+j=l.length→∀(y a:Int),EL (fun _N k=>Ht l k (i:Int) y a) fun r=>r.why=0↔y=0∧i=l.length:=by
  intro j
  induction j with
  |zero=>
   intro i hi y a
   refine EL.down ?_
   show EL (fun _N k=>IA l (Ht l k) i y a) _
   unfold IA
   exact EL.cond (fun h=>by have:=CZ h;omega) fun _=> .some ⟨fun h=>⟨h,om⟩,fun h=>h.1⟩
  |succ j ihj=>
   intro i hi y a
   obtain ⟨x,hx⟩: ∃x,l[i]?=some x:=⟨_,List.getElem?_eq_getElem om⟩
   have hy:=hl.1.1 x (List.mem_of_getElem? hx)
   have hll:=hl.1.2
   refine EL.down ?_
   show EL (fun _N k=>IA l (Ht l k) i y a) _
   unfold IA Ko Kn
   rw [wr om om,show (i:Int)+1=((i+1:Nat):Int) by omega]
   have no: ∀{y':Int},y'≠0→∀{r:AD},(r.why=0↔y'=0∧i+1=l.length)→(r.why=0↔y=0∧i=l.length):=fun hy' _ hr=>hr.trans ⟨fun h=>absurd h.1 hy',fun h=>om⟩
   refine EL.cond (fun _=>EL.cond (fun _=>EL.cond (fun _=>EL.eq (CL hx) ((ihj (i+1) om x.why x.at_).mono fun r hr=>no hy hr)) fun h=>by cases h) fun h=>EL.eq (CL hx) (EL.cond (fun _=>EL.eq (CL hx) ((ihj (i+1) om x.why x.at_).mono fun r hr=>no hy hr)) fun _=>(ihj (i+1) om y a).mono fun r hr=>no (B0 h) hr)) fun h=>by have:=D5 h;omega
 refine (loop l.length 0 om 0 0).diag.mono fun r hr=>hr.trans ?_
 rw [←hl.2]
 constructor
 ·rintro ⟨_,h⟩;exact List.length_eq_zero_iff.1 h.symm
 ·intro h;subst h;exact ⟨rfl,rfl⟩
end
end Fth
namespace Fth
open Go
def TyE(Γ:List AJ):Prop:=∀x∈Γ,1≤x.type_∧x.type_≤3
theorem Vk{Γ:List AJ}{e:AE}(hΓ:TyE Γ)(he:WE e)(i:Nat):TyE (Win Γ e i)∧(Win Γ e i).length≤Γ.length+2:=by
 unfold Win
 split
 ·rename_i h
  refine ⟨fun x hx=>?_,by simp⟩
  rcases List.mem_cons.1 hx with rfl|hx
  ·exact he.typ om
  ·exact hΓ x hx
 ·split
  ·refine ⟨fun x hx=>?_,by simp⟩
   rcases List.mem_cons.1 hx with rfl|hx
   ·exact ⟨by simp,by simp⟩
   ·rcases List.mem_cons.1 hx with rfl|hx
    ·exact ⟨by simp,by simp⟩
    ·exact hΓ x hx
  ·exact ⟨hΓ,om⟩
theorem ABV{p:AM}(hp:WP p){e:AE}(he:WE e){t:Int}(ht:1≤t∧t≤3)(i:Nat):1≤Wan p e i t∧Wan p e i t≤3:=by
 unfold Wan
 split
 ·omega
 ·split
  ·omega
  ·split
   ·cases hh:hd p e.name with
    |none=>simp
    |some f=>
     have hf:=hp.fns f (List.mem_of_find?_eq_some hh)
     cases hx:f.params[i]? with
     |none=>simp [hx]
     |some x=>simpa [hx] using hf.ptyp x (List.mem_of_getElem? hx)
   ·split
    ·split<;>omega
    ·split
     ·split<;>omega
     ·split
      ·rename_i h
       have:=he.typ om
       split<;>omega
      ·omega
theorem ZN{α:Type}(a b:List α)(x:α):((a++x::b).reverse)[b.length]?=some x:=by
 rw [List.reverse_append,List.reverse_cons,List.append_assoc,List.getElem?_append_right (by simp)]
 simp
section
variable{p:AM}(hp:WP p)
theorem AAP{Γ:List AJ}{e:AE}(hl:Γ.length≤1000000000): ∀(Γ2 Γ1:List AJ),Γ=Γ1++Γ2→∀k,Γ2.length<k→J9 Γ.reverse e k ((Γ2.length:Int) - 1)=some ((Q1 Γ2 e.name).getD (-1)):=by
 intro Γ2
 induction Γ2 with
 |nil=>
  intro Γ1 h k hk
  obtain ⟨k,rfl⟩: ∃j,k=j+1:=⟨k - 1,by simp at hk;omega⟩
  rfl
 |cons x Γ2 ih=>
  intro Γ1 h k hk
  obtain ⟨k,rfl⟩: ∃j,k=j+1:=⟨k - 1,by simp at hk;omega⟩
  show LN Γ.reverse e (J9 Γ.reverse e k) (((x::Γ2).length:Int) - 1)=_
  unfold LN
  have hlen:Γ2.length<1000000000:=by rw [h] at hl;simp at hl;omega
  have e1:(((x::Γ2).length:Nat):Int) - 1=(Γ2.length:Int):=by simp
  have hat:Γ.reverse[Γ2.length]?=some x:=by rw [h];exact ZN _ _ _
  rw [e1,show decide ((Γ2.length:Int)≥0)=true from decide_eq_true om,cond_true,CL hat,Option.bind_some,wr om om]
  unfold Q1
  rw [List.find?_cons]
  cases hn:(x.name==e.name)
  ·rw [cond_false]
   exact ih (Γ1++[x]) (by rw [h];simp) k (by simp at hk;omega)
  ·rfl
include hp
theorem ABj{Γ:List AJ}{e:AE}{t:Int}(hΓ:TyE Γ)(hl:Γ.length≤1000000000)(he:WE e)(ht:1≤t∧t≤3):ET (fun N=>Jw N p Γ.reverse e) fun o=>(o=0∨o=t)↔OwT p Γ e t:=by
 have j1: ∀b,(b=true↔(e.op=1∨(8≤e.op∧e.op≤11)∨(15≤e.op∧e.op≤17)))→ET (fun N=>Ff N p Γ.reverse e b) fun o=>(o=0∨o=t)↔OwT p Γ e t:=by
  intro b hb
  have j2: ∀b',b=false→(b'=true↔(e.op=2∨e.op=3∨(12≤e.op∧e.op≤14)))→ET (fun N=>IM N p Γ.reverse e b') fun o=>(o=0∨o=t)↔OwT p Γ e t:=by
   intro b' hbf hb'
   have n1: ¬(e.op=1∨(8≤e.op∧e.op≤11)∨(15≤e.op∧e.op≤17)):=fun h=>by have:=hb.2 h;rw [hbf] at this;cases this
   have j3: ∀b'',b'=false→(b''=true↔(e.op=4∨e.op=18))→ET (fun N=>K8 N p Γ.reverse e b'') fun o=>(o=0∨o=t)↔OwT p Γ e t:=by
    intro b'' hbf' hb''
    have n2: ¬(e.op=2∨e.op=3∨(12≤e.op∧e.op≤14)):=fun h=>by have:=hb'.2 h;rw [hbf'] at this;cases this
    unfold K8
    refine ET.cond (fun h=> .some ?_) fun h=>?_
    ·have h:=hb''.1 h
     exact ⟨fun h'=>⟨fun h=>absurd h n1,fun h=>absurd h n2,fun _=>om,fun h'=>om,fun h'=>om,fun h'=>om⟩,fun h'=> .inr (h'.l h).symm⟩
    have n3: ¬(e.op=4∨e.op=18):=fun h'=>by have:=hb''.2 h';rw [h] at this;cases this
    refine ET.cond (fun h=> .some ?_) fun h5=>ET.cond (fun h=>?_) fun h6=>ET.cond (fun h=>?_) fun h7=> .some ?_
    ·have h5:=CH h
     have:=he.typ (.inl h5)
     exact ⟨fun h'=>⟨fun h=>absurd h n1,fun h=>absurd h n2,fun h=>absurd h n3,fun _=>om,fun h'=>om,fun h'=>om⟩,fun h'=> .inr (h'.f h5).symm⟩
    ·have h6:=CH h
     refine RF (Γ.length+2) ⟨(Q1 Γ e.name).getD (-1),?_,fun N hN=>?_⟩
     ·cases hlk:Q1 Γ e.name with
      |none=>exact ⟨fun h'=>by simp at h';omega,fun h'=>by have:=h'.v h6;rw [hlk] at this;cases this⟩
      |some u=>
       have hu:1≤u∧u≤3:=by
        unfold Q1 at hlk
        obtain ⟨x,hx,rfl⟩:=Option.map_eq_some_iff.1 hlk
        exact hΓ x (List.mem_of_find?_eq_some hx)
       refine ⟨fun h'=>⟨fun h=>absurd h n1,fun h=>absurd h n2,fun h=>absurd h n3,fun h'=>om,fun _=>?_,fun h'=>om⟩,fun h'=>?_⟩
       ·simp at h';rw [hlk];congr 1;omega
       ·have:=h'.v h6;rw [hlk] at this;cases this;exact .inr rfl
     ·have:=AAP (e:=e) hl Γ [] rfl N om
      rw [wr (by simp;omega) (by simp;omega),List.length_reverse]
      exact this
    ·have h7:=CH h
     have hl:=hp.len
     refine ET.bind (P:=fun r=>r=hdR (hd p e.name)) (RF (p.funcs.length+2) ⟨_,rfl,fun N hN=>SB om hN⟩) fun r hr=>?_
     subst hr
     unfold Lz
     cases hh:hd p e.name with
     |none=>exact .some ⟨fun h=>om,fun h'=>by obtain ⟨f,hf,_⟩:=h'.c h7;rw [hh] at hf;cases hf⟩
     |some f=>
      have hf:=hp.fns f (List.mem_of_find?_eq_some hh)
      refine ET.cond (fun h=>by cases h) fun _=>ET.cond (fun h=> .some ?_) fun h=> .some ?_
      ·have h:=Lf h
       exact ⟨fun h=>om,fun h'=>by obtain ⟨g,hg,hgl,_⟩:=h'.c h7;rw [hh] at hg;cases hg;exact absurd (congrArg Int.ofNat hgl) h⟩
      ·have h:=J1 h
       have:=hf.typ
       refine ⟨fun h'=>⟨fun h=>absurd h n1,fun h=>absurd h n2,fun h=>absurd h n3,fun h'=>om,fun h'=>om,fun _=>⟨f,hh,?_,?_⟩⟩,fun h'=>?_⟩
       ·have:(f.params.length:Int)=e.args.length:=h;omega
       ·have h':f.type_=0∨f.type_=t:=h';omega
       ·obtain ⟨g,hg,_,hgt⟩:=h'.c h7;rw [hh] at hg;cases hg;exact .inr hgt
    ·have h5:=B0 h5;have h6:=B0 h6;have h7:=B0 h7
     exact ⟨fun _=>⟨fun h=>absurd h n1,fun h=>absurd h n2,fun h=>absurd h n3,fun h=>absurd h h5,fun h=>absurd h h6,fun h=>absurd h h7⟩,fun _=> .inl rfl⟩
   unfold IM
   refine ET.cond (fun h=> .some ?_) fun h=>?_
   ·have h:=hb'.1 h
    exact ⟨fun h'=>⟨fun h=>absurd h n1,fun _=>om,fun h'=>om,fun h'=>om,fun h'=>om,fun h'=>om⟩,fun h'=> .inr (h'.b h).symm⟩
   ·refine ET.cond (fun h4=>j3 _ h ⟨fun _=> .inl (CH h4),fun _=>h4⟩) fun h4=>j3 _ h ⟨fun h=> .inr (CH h),fun h=>?_⟩
    rcases h with h|h
    ·exact absurd h (B0 h4)
    ·simp [h]
  unfold Ff
  refine ET.cond (fun h=> .some ?_) fun h=>?_
  ·have h:=hb.1 h
   exact ⟨fun h'=>⟨fun _=>om,fun h'=>om,fun h'=>om,fun h'=>om,fun h'=>om,fun h'=>om⟩,fun h'=> .inr (h'.n h).symm⟩
  ·refine ET.cond (fun h2=>j2 _ h ⟨fun _=>by have:=CH h2;omega,fun _=>h2⟩) fun h2=>ET.cond (fun h3=>j2 _ h ⟨fun _=>by have:=CH h3;omega,fun _=>h3⟩) fun h3=>ET.cond (fun h4=>j2 _ h ⟨fun _=>by have:=CH h4;omega,fun _=>h4⟩) fun h4=>ET.cond (fun h5=>j2 _ h ⟨fun _=>by have:=CH h5;omega,fun _=>h5⟩) fun h5=>j2 _ h ⟨fun h6=>by have:=CH h6;omega,fun h6=>?_⟩
   have:=B0 h2;have:=B0 h3;have:=B0 h4;have:=B0 h5
   simp;omega
 unfold Jw
 have yes: ∀{k:Int},(k=1∨(8≤k∧k≤11)∨(15≤k∧k≤17))→(e.op==k)=true→ET (fun N=>Ff N p Γ.reverse e (e.op==k)) fun o=>(o=0∨o=t)↔OwT p Γ e t:=fun hk h=>j1 _ ⟨fun _=>by have:=CH h;omega,fun _=>h⟩
 refine ET.cond (fun h=>yes om h) fun h1=>ET.cond (fun h=>yes om h) fun h2=>ET.cond (fun h=>yes om h) fun h3=>ET.cond (fun h=>yes om h) fun h4=>ET.cond (fun h=>yes om h) fun h5=>ET.cond (fun h=>yes om h) fun h6=>ET.cond (fun h=>yes om h) fun h7=>j1 _ ⟨fun h=>by have:=CH h;omega,fun h=>?_⟩
 have:=B0 h1;have:=B0 h2;have:=B0 h3;have:=B0 h4;have:=B0 h5;have:=B0 h6;have:=B0 h7
 simp;omega
omit hp in
theorem ZO{l:List AJ}{nm:List UInt8}{t:Int}(h:l.length≤1000000100):HQ l nm t=some (l++[⟨nm,t,0⟩]):=by
 unfold HQ
 obtain ⟨_,e1,_⟩:=Gy (b:=32) (xs:=([]:List AJ)) (ys:=l) (by decide) (by simp;omega)
 obtain ⟨_,e2,_⟩:=Gy (b:=32) (xs:=([]:List AJ)++l) (ys:=[AJ.mk nm t 0]) (by decide) (by simp;omega)
 rw [e1,Option.bind_some,e2,Option.bind_some,List.nil_append]
omit hp in
theorem ZP{Γ:List AJ}{e:AE}(hl:Γ.length≤1000000000)(i:Nat):Gl Γ.reverse e (i:Int)=some (Win Γ e i).reverse:=by
 unfold Gl I9 KI Win
 have e1:((i:Int)==1)=decide (i=1):=by rw [Bool.eq_iff_iff];simp;omega
 have e2:((i:Int)==2)=decide (i=2):=by rw [Bool.eq_iff_iff];simp;omega
 rw [e1,e2,ZO (by rw [List.length_reverse];omega),ZO (by rw [List.length_reverse];omega)]
 simp only [Option.bind_some]
 rw [ZO (by simp;omega)]
 cases h1:(e.op==21)
 ·have h1:=B0 h1
  cases h2:(e.op==22)
  ·have h2:=B0 h2
   rw [if_neg om]
   cases h3:(e.op==20)
   ·have h3:=B0 h3
    rw [if_neg om];rfl
   ·have h3:=CH h3
    cases h4:decide (i=2)
    ·have h4:=D5 h4;rw [if_neg om];rfl
    ·have h4:=CZ h4;rw [if_pos ⟨h3,h4⟩];simp
  ·have h2:=CH h2
   cases h3:decide (i=1)
   ·have h3:=D5 h3
    rw [if_neg om,if_neg om,show (e.op==20)=false by simp;omega];rfl
   ·have h3:=CZ h3
    rw [if_pos (.inr ⟨h2,h3⟩)];simp
 ·have h1:=CH h1
  rw [if_pos (.inl h1)];simp
theorem ZQ{e:AE}{t:Int}(i:Nat):ET (fun N=>Gq N p e (i:Int) t) fun r=>r=Wan p e i t:=by
 have hl:=hp.len
 unfold Gq KK JA Wan
 have e1:((i:Int)==1)=decide (i=1):=by rw [Bool.eq_iff_iff];simp;omega
 have e0:((i:Int)==0)=decide (i=0):=by rw [Bool.eq_iff_iff];simp
 rw [e1,e0]
 refine ET.cond (fun h=> .some ?_) fun h14=>ET.cond (fun h=>ET.cond (fun h'=> .some ?_) fun h'=> .some ?_) fun h18=>ET.cond (fun h=>?_) fun h7=>ET.cond (fun h=>ET.cond (fun h'=> .some ?_) fun h'=> .some ?_) fun h19=>ET.cond (fun h=>ET.cond (fun h'=> .some ?_) fun h'=> .some ?_) fun h20=>ET.cond (fun h=>ET.cond (fun h'=>ET.cond (fun h''=> .some ?_) fun h''=> .some ?_) fun h'=>absurd (h.symm.trans h') (by decide)) fun h21=>ET.cond (fun h'=>ET.cond (fun h''=> .some ?_) fun h''=> .some ?_) fun h22=> .some ?_
 ·rw [if_pos (CH h)]
 ·have:=B0 h14;rw [if_neg om,if_pos ⟨CH h,CZ h'⟩]
 ·have:=B0 h14;have:=CH h;have:=D5 h';rw [if_neg om,if_neg om,if_neg om,if_neg om,if_neg om,if_neg om]
 ·have:=B0 h14;have:=B0 h18;have h7:=CH h
  refine ET.bind (P:=fun r=>r=hdR (hd p e.name)) (RF (p.funcs.length+2) ⟨_,rfl,fun N hN=>SB om hN⟩) fun r hr=>?_
  subst hr
  rw [if_neg om,if_neg om,if_pos h7]
  unfold KJ
  cases hh:hd p e.name with
  |none=>exact .some rfl
  |some f=>
   refine ET.cond (fun _=>ET.cond (fun h'=>?_) fun h'=>?_) fun h=>by cases h
   ·have h':=CZ h'
    have h':(i:Int)< (f.params.length:Int):=h'
    obtain ⟨x,hx⟩: ∃x,f.params[i]?=some x:=⟨_,List.getElem?_eq_getElem om⟩
    refine ET.eq (CL hx) (.some ?_)
    show x.type_=(match f.params[i]? with |some x=>x.type_|none=>1)
    rw [hx]
   ·have h':=D5 h'
    have h': ¬(i:Int)< (f.params.length:Int):=h'
    refine .some ?_
    show 1=(match f.params[i]? with |some x=>x.type_|none=>1)
    rw [List.getElem?_eq_none om]
 ·have:=B0 h14;have:=B0 h18;have:=B0 h7;rw [if_neg om,if_neg om,if_neg om,if_pos (CH h),if_pos (CZ h')]
 ·have:=B0 h14;have:=B0 h18;have:=B0 h7;rw [if_neg om,if_neg om,if_neg om,if_pos (CH h),if_neg (D5 h')]
 ·have:=B0 h14;have:=B0 h18;have:=B0 h7;have:=B0 h19;rw [if_neg om,if_neg om,if_neg om,if_neg om,if_pos (CH h),if_pos (CZ h')]
 ·have:=B0 h14;have:=B0 h18;have:=B0 h7;have:=B0 h19;rw [if_neg om,if_neg om,if_neg om,if_neg om,if_pos (CH h),if_neg (D5 h')]
 ·have:=CH h;rw [if_neg om,if_neg om,if_neg om,if_neg om,if_neg om,if_pos om,if_pos (CZ h'')]
 ·have:=CH h;rw [if_neg om,if_neg om,if_neg om,if_neg om,if_neg om,if_pos om,if_neg (D5 h'')]
 ·have:=CH h';rw [if_neg om,if_neg om,if_neg om,if_neg om,if_neg om,if_pos om,if_pos (CZ h'')]
 ·have:=CH h';rw [if_neg om,if_neg om,if_neg om,if_neg om,if_neg om,if_pos om,if_neg (D5 h'')]
 ·have:=B0 h14;have:=B0 h18;have:=B0 h7;have:=B0 h19;have:=B0 h20;have:=B0 h21;have:=B0 h22
  rw [if_neg om,if_neg om,if_neg om,if_neg om,if_neg om,if_neg om]
omit hp in
theorem MM{Γ:List AJ}{e:AE}{t:Int}:WTy p Γ e t↔OwT p Γ e t∧∀i a,e.args[i]?=some a→WTy p (Win Γ e i) a (Wan p e i t):=
 ⟨fun h=>⟨h.own,h.sub⟩,fun h=> .mk Γ e t h.1 h.2⟩
theorem AAQ: ∀(n:Nat) (e:AE),E0 e≤n→n≤10000000→WE e→∀(Γ:List AJ) (t:Int),TyE Γ→Γ.length+2*n≤1000000000→1≤t∧t≤3→
  ET (fun N=>ref07_wrong N p Γ.reverse e t) fun l=>l.length≤E0 e∧(l=[]↔WTy p Γ e t):=by
 intro n
 induction n with
 |zero=>intro e he;have:=Mh e;omega
 |succ n ih=>
  intro e hen hn he Γ t hΓ hl ht
  have hal:=M1 e.args
  have hes:=PA e
  refine ET.down ?_
  show ET (fun N=>KS (BT.at N) N p Γ.reverse e t) _
  have loop: ∀(j i:Nat),i+j=e.args.length→∀(acc:List Int),acc.length≤1+DK (e.args.take i)→
    EL (fun N k=>Hv (BT.at N) N p Γ.reverse e t k acc (i:Int)) fun l=>l.length≤1+DK e.args∧(l=[]↔acc=[]∧∀i' a,i≤i'→e.args[i']?=some a→WTy p (Win Γ e i') a (Wan p e i' t)):=by
   intro j
   induction j with
   |zero=>
    intro i hi acc hacc
    refine EL.down ?_
    show EL (fun N k=>IB (BT.at N) N p Γ.reverse e t (Hv (BT.at N) N p Γ.reverse e t k) acc i) _
    unfold IB
    have htk:e.args.take i=e.args:=List.take_of_length_le om
    refine EL.cond (fun h=>by have:=CZ h;omega) fun _=> .some ⟨by rw [htk] at hacc;omega,fun h=>⟨h,fun i' a hi' ha=>?_⟩,fun h=>h.1⟩
    have:=(List.getElem?_eq_some_iff.1 ha).1
    omega
   |succ j ihj=>
    intro i hi acc hacc
    refine EL.down ?_
    show EL (fun N k=>IB (BT.at N) N p Γ.reverse e t (Hv (BT.at N) N p Γ.reverse e t k) acc i) _
    unfold IB
    obtain ⟨a,ha⟩: ∃a,e.args[i]?=some a:=⟨_,List.getElem?_eq_getElem om⟩
    have has:=N6 (List.mem_of_getElem? ha)
    have htk:DK (e.args.take (i+1))=DK (e.args.take i)+E0 a:=by rw [List.take_add_one,ha];simp [KV,DK]
    have htk2:DK (e.args.take (i+1))≤DK e.args:=by
     have:=KV (e.args.take (i+1)) (e.args.drop (i+1))
     rw [List.take_append_drop] at this;omega
    have hwin:=Vk hΓ he i
    refine EL.cond (fun _=>?_) fun h=>by have:=D5 h;omega
    refine EL.eq (CL ha) (EL.eq (ZP om i) (EL.bind (ZQ hp i) fun w hw=>?_))
    subst hw
    refine EL.bind (ih a om om (he.sub a (List.mem_of_getElem? ha)) (Win Γ e i) _ hwin.1 om (ABV hp he ht i)) fun l hl=>?_
    refine EL.tb (Gy (by decide) om) fun _ _=>?_
    rw [wr om om,show (i:Int)+1=((i+1:Nat):Int) by omega]
    refine (ihj (i+1) om (acc++l) (by rw [List.length_append,htk];omega)).mono fun r hr=>⟨hr.1,?_⟩
    rw [hr.2,List.append_eq_nil_iff,hl.2]
    constructor
    ·rintro ⟨⟨h1,h2⟩,h3⟩
     refine ⟨h1,fun i' b hi' hb=>?_⟩
     rcases Nat.eq_or_lt_of_le hi' with rfl|hlt
     ·rw [ha] at hb;cases hb;exact h2
     ·exact h3 i' b hlt hb
    ·rintro ⟨h1,h2⟩
     exact ⟨⟨h1,h2 i a (Nat.le_refl _) ha⟩,fun i' b hi' hb=>h2 i' b om hb⟩
  unfold KS
  refine ET.bind (ABj hp hΓ om he ht) fun o ho=>?_
  have fin: ∀(acc:List Int),acc.length≤1→(acc=[]↔OwT p Γ e t)→ET (fun N=>Jx (BT.at N) N p Γ.reverse e t acc) fun l=>l.length≤E0 e∧(l=[]↔WTy p Γ e t):=by
   intro acc h1 h2
   unfold Jx
   refine (loop e.args.length 0 om acc om).diag.mono fun r hr=>⟨om,?_⟩
   rw [hr.2,h2,MM]
   exact ⟨fun h=>⟨h.1,fun i a ha=>h.2 i a (Nat.zero_le _) ha⟩,fun h=>⟨h.1,fun i a _ ha=>h.2 i a ha⟩⟩
  unfold Kq
  refine ET.cond (fun h=>ET.cond (fun h'=>ET.tb (Gy (by decide) (by simp)) fun _ _=>fin _ (by simp) ⟨fun h=>by simp at h,fun h''=>?_⟩) fun h'=>fin [] (by simp) ⟨fun _=>ho.1 (.inr (J1 h')),fun _=>rfl⟩) fun h=>ET.cond (fun h'=>by cases h') fun _=>fin [] (by simp) ⟨fun _=>ho.1 (.inl (J1 h)),fun _=>rfl⟩
  rcases ho.2 h'' with h0|h0
  ·exact absurd h0 (Lf h)
  ·exact absurd h0 (Lf h')
def Tm(p:AM):Prop:=AAJ p∧∀f∈p.funcs,WTy p f.params.reverse f.body f.type_
theorem ZR:ET (fun N=>G7 N p) fun r=>r.why=0↔Tm p:=by
 have hb: ∀f∈p.funcs,E0 f.body≤1000000∧f.params.length≤1000000:=fun f hf=>⟨(hp.fns f hf).size,(hp.fns f hf).pars⟩
 have hlen:=hp.len
 unfold G7
 refine ET.bind (ZM hlen hb) fun r hr=>ET.cond (fun h=> .some ⟨fun h'=>absurd h' (Lf h),fun h'=>hr.2 h'.1⟩) fun h=>?_
 have h:=J1 h
 have hsc:=hr.1 h
 have fns: ∀(j i:Nat),i+j=p.funcs.length→∀(y a:Int),EL (fun N k=>CE N p k (i:Int) y a) fun r=>r.why=0↔y=0∧∀i' f,i≤i'→p.funcs[i']?=some f→WTy p f.params.reverse f.body f.type_:=by
  intro j
  induction j with
  |zero=>
   intro i hi y a
   refine EL.down ?_
   show EL (fun N k=>IC N p (CE N p k) i y a) _
   unfold IC
   refine EL.cond (fun h=>by have:=CZ h;omega) fun _=> .some ⟨fun h=>⟨h,fun i' f hi' hf=>by have:=(List.getElem?_eq_some_iff.1 hf).1;omega⟩,fun h=>h.1⟩
  |succ j ihj=>
   intro i hi y a
   obtain ⟨f,hf⟩: ∃f,p.funcs[i]?=some f:=⟨_,List.getElem?_eq_getElem om⟩
   have hfn:=hp.fns f (List.mem_of_getElem? hf)
   have hfs:=hfn.size
   have hfp:=hfn.pars
   refine EL.down ?_
   show EL (fun N k=>IC N p (CE N p k) i y a) _
   unfold IC
   refine EL.cond (fun _=>?_) fun h=>by have:=D5 h;omega
   refine EL.eq (CL hf) ?_
   rw [Py]
   have hΓ:TyE f.params.reverse:=fun x hx=>hfn.ptyp x (List.mem_reverse.1 hx)
   have hw:=AAQ hp (E0 f.body) f.body (Nat.le_refl _) om hfn.body f.params.reverse f.type_ hΓ (by rw [List.length_reverse];omega) hfn.typ
   rw [List.reverse_reverse] at hw
   refine EL.bind hw fun l hl=>?_
   have inner: ∀(q t:Nat),t+q=l.length→∀(y a:Int),∃y' a',(y'=0↔y=0∧t=l.length)∧∃n0,∀N k kk,n0≤kk→FF i (CE N p k) l kk (t:Int) y a=CE N p k ((i+1:Nat):Int) y' a':=by
    intro q
    induction q with
    |zero=>
     intro t ht y a
     refine ⟨y,a,⟨fun h=>⟨h,om⟩,fun h=>h.1⟩,1,fun N k kk hkk=>?_⟩
     obtain ⟨kk,rfl⟩: ∃j,kk=j+1:=⟨kk - 1,om⟩
     show Ej i (CE N p k) l (FF i (CE N p k) l kk) t y a=_
     unfold Ej
     rw [show decide ((t:Int)< (l.length:Int))=false from decide_eq_false om,cond_false,wr om om,show (i:Int)+1=((i+1:Nat):Int) by omega]
    |succ q ihq=>
     intro t ht y a
     obtain ⟨x,hx⟩: ∃x,l[t]?=some x:=⟨_,List.getElem?_eq_getElem om⟩
     have hll:=hl.1
     have e1:IntKind.i64.wrap ((t:Int)+1)=((t+1:Nat):Int):=by rw [wr om om];omega
     have take: ∃y' a',(y'=0↔y=0∧t=l.length)∧∃n0,∀N k kk,n0≤kk→FF i (CE N p k) l kk ((t+1:Nat):Int) 34 x=CE N p k ((i+1:Nat):Int) y' a':=by
      obtain ⟨y',a',h1,n0,h2⟩:=ihq (t+1) om 34 x
      exact ⟨y',a',⟨fun h=>absurd (h1.1 h).1 (by decide),fun h=>om⟩,n0,h2⟩
     cases hy:(y==0)
     ·have hy':=B0 hy
      cases hlt:decide (x<a)
      ·obtain ⟨y',a',h1,n0,h2⟩:=ihq (t+1) om y a
       refine ⟨y',a',⟨fun h=>absurd (h1.1 h).1 hy',fun h=>om⟩,n0+1,fun N k kk hkk=>?_⟩
       obtain ⟨kk,rfl⟩: ∃j,kk=j+1:=⟨kk - 1,om⟩
       show Ej i (CE N p k) l (FF i (CE N p k) l kk) t y a=_
       unfold Ej Is Ir
       rw [show decide ((t:Int)< (l.length:Int))=true from decide_eq_true om,cond_true,hy,cond_false,CL hx,Option.bind_some,hlt,cond_false,e1]
       exact h2 N k kk om
      ·obtain ⟨y',a',h1,n0,h2⟩:=take
       refine ⟨y',a',h1,n0+1,fun N k kk hkk=>?_⟩
       obtain ⟨kk,rfl⟩: ∃j,kk=j+1:=⟨kk - 1,om⟩
       show Ej i (CE N p k) l (FF i (CE N p k) l kk) t y a=_
       unfold Ej Is Ir
       rw [show decide ((t:Int)< (l.length:Int))=true from decide_eq_true om,cond_true,hy,cond_false,CL hx,Option.bind_some,hlt,cond_true,Option.bind_some,e1]
       exact h2 N k kk om
     ·obtain ⟨y',a',h1,n0,h2⟩:=take
      refine ⟨y',a',h1,n0+1,fun N k kk hkk=>?_⟩
      obtain ⟨kk,rfl⟩: ∃j,kk=j+1:=⟨kk - 1,om⟩
      show Ej i (CE N p k) l (FF i (CE N p k) l kk) t y a=_
      unfold Ej Is Ir
      rw [show decide ((t:Int)< (l.length:Int))=true from decide_eq_true om,cond_true,hy,cond_true,cond_true,CL hx,Option.bind_some,e1]
      exact h2 N k kk om
   obtain ⟨y',a',h1,n0,h2⟩:=inner l.length 0 om y a
   obtain ⟨r,hr,n1,h3⟩:=ihj (i+1) om y' a'
   refine ⟨r,hr.trans ?_,n0+n1,fun N k hN hk=>?_⟩
   ·rw [h1]
    have hz:(0=l.length)↔WTy p f.params.reverse f.body f.type_:=by
     rw [←hl.2]
     exact ⟨fun h=>List.length_eq_zero_iff.1 h.symm,fun h=>by rw [h];rfl⟩
    rw [hz]
    constructor
    ·rintro ⟨⟨h1,h2⟩,h3⟩
     refine ⟨h1,fun i' g hi' hg=>?_⟩
     rcases Nat.eq_or_lt_of_le hi' with rfl|hlt
     ·rw [hf] at hg;cases hg;exact h2
     ·exact h3 i' g hlt hg
    ·rintro ⟨h1,h2⟩
     exact ⟨⟨h1,h2 i f (Nat.le_refl _) hf⟩,fun i' g hi' hg=>h2 i' g om hg⟩
   ·exact (h2 N k N om).trans (h3 N k om om)
 refine (fns p.funcs.length 0 om r.why r.at_).diag.mono fun q hq=>hq.trans ⟨fun h'=>⟨hsc,fun f hf=>?_⟩,fun h'=>⟨h,fun i' f _ hf=>h'.2 f (List.mem_of_getElem? hf)⟩⟩
 obtain ⟨i,hi⟩:=List.mem_iff_getElem?.1 hf
 exact h'.2 i f (Nat.zero_le _) hi
end
end Fth
