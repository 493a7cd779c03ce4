/-
  fathomlaw11.MeanTurns, WHERE WHAT IT READS IS OF BULK AT MOST 1048576: for every text, name and line of arguments, for every number the Go function returns true, and its input reads as it did. No condition beside the statement's own.
-/
import Derived.KernelRfl
import Derived.Test.YtiodboehkcmdnaaGreatRows
import Derived.WalkKit
import Derived.ProofKit
import Derived.OpenShut
import Derived.JoinedCond
import Derived.Lib.SmallJoins
import Derived.Test.YtiodboehkcmdnaaGreatRF
set_option linter.all false
set_option exponentiation.threshold 3000
namespace Fth
open Go
inductive Tg(p:AM)(m:Nat):Nat→Th→Except Int Ao→Nat→Prop
 |done {c:Nat} {x:Ao}:Tg p m c (.done x.plain x.head x.tail) (.ok x) c
 |later {c e ρ r c'} (h:Lk p m c e ρ r c'):Tg p m c (.later e ρ) r c'
inductive Wl(p:AM)(m:Nat):Nat→Th→Th→List (Nat×Nat)→Except Int AI→Nat→Prop
 |hE {c h t acc y c'} (hb:acc.length≤34000000000) (h1:Tg p m c h (.error y) c'):Wl p m c h t acc (.error y) c'
 |tE {c h t acc x c1 y c'} (hb:acc.length≤34000000000) (h1:Tg p m c h (.ok x) c1) (h2:Tg p m c1 t (.error y) c'):Wl p m c h t acc (.error y) c'
 |stop {c h t acc x c1 z c'} (hb:acc.length≤34000000000) (h1:Tg p m c h (.ok x) c1) (h2:Tg p m c1 t (.ok z) c') (hz:z.head.isNil=true):Wl p m c h t acc (.ok ⟨3,(0,0),false,acc++[x.plain.num]⟩) c'
 |go {c h t acc x c1 z c2 r c'} (hb:acc.length≤34000000000) (h1:Tg p m c h (.ok x) c1) (h2:Tg p m c1 t (.ok z) c2) (hz:z.head.isNil=false) (h3:Wl p m c2 z.head z.tail (acc++[x.plain.num]) r c'):Wl p m c h t acc r c'
inductive Wh(p:AM)(m:Nat):Nat→Ao→Except Int AI→Nat→Prop
 |plain {c x} (hx:x.head.isNil=true):Wh p m c x (.ok x.plain) c
 |list {c x r c'} (hx:x.head.isNil=false) (h:Wl p m c x.head x.tail [] r c'):Wh p m c x r c'
inductive Rn(p:AM)(m:Nat):AB→Nm→Except Int AI→Nat→Prop
 |err {e ρ y c'} (h:Lk p m 0 e ρ (.error y) c'):Rn p m e ρ (.error y) c'
 |val {e ρ x c1 r c'} (h:Lk p m 0 e ρ (.ok x) c1) (h2:Wh p m c1 x r c'):Rn p m e ρ r c'
def rwv:Except Int AI→Int
 | .ok _=>0
 | .error y=>y
section
variable{p:AM}{m:Nat}{mp:An}
theorem Yz{c:Nat}{h:Th}{r:Except Int Ao}{c':Nat}(ht:Tg p m c h r c'): ∀y,r= .error y→y≠0:=by
 cases ht with
 |done=>rintro y ⟨⟩
 |later h=>exact PD h
theorem N4(hp:WP p)(hmp:Mpp p mp)(hm:m≤16384){c:Nat}{h:Th}{r:Except Int Ao}{c':Nat}(ht:Tg p m c h r c'):Ev fun N=>mean_callth N p.funcs c m mp h=some (r,p.funcs,(c':Int),(m:Int)):=by
 cases ht with
 |done=>exact Ev.down 1 (Ev.all fun N=>rfl)
 |later h=>
  rename_i e ρ
  refine Ev.down 2 ((QR hp hmp hm h).mono fun N hN=>?_)
  show ((mean_run_look N p.funcs c m mp e ρ).bind fun x29=>JO x29.1 (fun y43=>some ((Except.error y43:Except Int Ao),x29.2.1,x29.2.2.1,x29.2.2.2)) fun r45=>some ((Except.ok r45:Except Int Ao),x29.2.1,x29.2.2.1,x29.2.2.2))=_
  rw [hN]
  exact PC _ _
theorem P1(hp:WP p)(hm:m≤16384){c:Nat}{h:Th}{r:Except Int Ao}{c':Nat}(ht:Tg p m c h r c'):Ev fun N=>ref11_Machine_of N ⟨p,m,c,0⟩ h=some (rth r,⟨p,m,c',rwy r⟩):=by
 cases ht with
 |done=>exact Ev.down 1 (Ev.all fun N=>rfl)
 |later h=>
  rename_i e ρ
  refine Ev.down 1 ((Wz hp hm h).mono fun N hN=>?_)
  show ((ref11_Machine_look N ⟨p,m,c,0⟩ e ρ).bind fun x131=>some (x131.1,x131.2))=_
  rw [hN];rfl
theorem Z1{N:Nat}{c y:Int}{h:Th}(hy:y≠0):ref11_Machine_of (N+1) ⟨p,m,c,y⟩ h=some (h,⟨p,m,c,y⟩):=by
 show LH _ N ⟨p,m,c,y⟩ h=_
 unfold LH
 rw [show (((Ai.mk p m c y).why != 0))=true by simpa using hy];rfl
theorem Tq{acc:List (Nat×Nat)}{z:Nat×Nat}(h:acc.length≤34000000000):Ft 16 acc [z]=some ():=by
 obtain ⟨u,hu,_⟩:=F1 (b:=16) (xs:=acc) (ys:=[z]) (by decide) (by simp;omega)
 exact hu
theorem Z2(hp:WP p)(hmp:Mpp p mp)(hm:m≤16384){c:Nat}{h t:Th}{acc:List (Nat×Nat)}{r:Except Int AI}{c':Nat}(hw:Wl p m c h t acc r c')(hn:h.isNil=false):
  ∃k0,Ev fun N=>∀k,k0≤k→∀(a:Int) (b:Nat×Nat) (d:Bool) (l:List (Nat×Nat)),Dp N mp k p.funcs c m a b d l h t acc=some (r,p.funcs,(c':Int),(m:Int)):=by
 induction hw with
 | @hE c h t acc y c' hb h1=>
  refine ⟨1,(N4 hp hmp hm h1).mono fun N hN k hk a b d l=>?_⟩
  obtain ⟨k,rfl⟩: ∃j,k=j+1:=⟨k - 1,om⟩
  show CY N mp (Dp N mp k) p.funcs c m a b d l h t acc=_
  unfold CY
  rw [hn,hN];rfl
 | @tE c h t acc x c1 y c' hb h1 h2=>
  refine ⟨1,((N4 hp hmp hm h1).and (N4 hp hmp hm h2)).mono fun N hN k hk a b d l=>?_⟩
  obtain ⟨k,rfl⟩: ∃j,k=j+1:=⟨k - 1,om⟩
  show CY N mp (Dp N mp k) p.funcs c m a b d l h t acc=_
  unfold CY
  rw [hn,hN.1]
  show ((Ft 16 acc [x.plain.num]).bind fun _=>(mean_callth N p.funcs c1 m mp t).bind fun x730=>_)=_
  rw [Tq hb,Option.bind_some,hN.2];rfl
 | @stop c h t acc x c1 z c' hb h1 h2 hz=>
  refine ⟨2,((N4 hp hmp hm h1).and (N4 hp hmp hm h2)).mono fun N hN k hk a b d l=>?_⟩
  obtain ⟨k,rfl⟩: ∃j,k=j+2:=⟨k - 2,om⟩
  show CY N mp (Dp N mp (k+1)) p.funcs c m a b d l h t acc=_
  unfold CY
  rw [hn,hN.1]
  show ((Ft 16 acc [x.plain.num]).bind fun _=>(mean_callth N p.funcs c1 m mp t).bind fun x730=>_)=_
  rw [Tq hb,Option.bind_some,hN.2]
  show CY N mp (Dp N mp k) p.funcs c' m z.plain.type_ z.plain.num z.plain.bool z.plain.list z.head z.tail (acc++[x.plain.num])=_
  unfold CY
  rw [hz];rfl
 | @go c h t acc x c1 z c2 r c' hb h1 h2 hz _ ih=>
  obtain ⟨k0,ih⟩:=ih hz
  refine ⟨k0+1,(((N4 hp hmp hm h1).and (N4 hp hmp hm h2)).and ih).mono fun N hN k hk a b d l=>?_⟩
  obtain ⟨k,rfl⟩: ∃j,k=j+1:=⟨k - 1,om⟩
  show CY N mp (Dp N mp k) p.funcs c m a b d l h t acc=_
  unfold CY
  rw [hn,hN.1.1]
  show ((Ft 16 acc [x.plain.num]).bind fun _=>(mean_callth N p.funcs c1 m mp t).bind fun x730=>_)=_
  rw [Tq hb,Option.bind_some,hN.1.2]
  exact hN.2 k om _ _ _ _
theorem VX(hp:WP p)(hmp:Mpp p mp)(hm:m≤16384){c:Nat}{x:Ao}{r:Except Int AI}{c':Nat}(hw:Wh p m c x r c'):Ev fun N=>D8 N p.funcs c m mp x=some (r,p.funcs,(c':Int),(m:Int)):=by
 cases hw with
 |plain hx=>
  refine Ev.all fun N=>?_
  unfold D8
  rw [hx];rfl
 |list hx h=>
  obtain ⟨k0,h⟩:=Z2 hp hmp hm h hx
  refine (h.and (Lv k0)).mono fun N hN=>?_
  unfold D8
  rw [hx]
  exact hN.1 N hN.2 _ _ _ _
theorem AA7(hp:WP p)(hm:m≤16384){c:Nat}{h t:Th}{acc:List (Nat×Nat)}{r:Except Int AI}{c':Nat}(hw:Wl p m c h t acc r c')(hn:h.isNil=false):
  ∃k0,Ev fun N=>∀k,k0≤k→∀(pl:AI),∃v,CN N k (.done pl h t) p.funcs m c 0 acc=some (v,⟨p,m,c',rwv r⟩)∧∀u,r= .ok u→v=u:=by
 induction hw with
 | @hE c h t acc y c' hb h1=>
  have hy:=Yz h1 y rfl
  refine ⟨2,Ev.down 1 (((P1 hp hm h1).up 1).mono fun N hN k hk pl=>?_)⟩
  obtain ⟨k,rfl⟩: ∃j,k=j+2:=⟨k - 2,om⟩
  refine ⟨⟨3,(0,0),false,acc++[Nk.num]⟩,?_,fun u h=>by cases h⟩
  show B0 (N+1) (.done pl h t) p.funcs m c 0 acc (CN (N+1) (k+1)) (!h.isNil)=_
  unfold B0
  rw [hn]
  show ((ref11_Machine_of (N+1) ⟨p,m,c,0⟩ h).bind fun x764=>_)=_
  rw [hN]
  show ((Ft 16 acc [Nk.num]).bind fun _=>(ref11_Machine_of (N+1) ⟨p,m,c',y⟩ t).bind fun x901=>_)=_
  rw [Tq hb,Option.bind_some,Z1 hy,Option.bind_some]
  show D9 (N+1) (CN (N+1) k) t p.funcs m c' y (acc++[Nk.num])=_
  unfold D9
  rw [show (y==0)=false by simpa using hy];rfl
 | @tE c h t acc x c1 y c' hb h1 h2=>
  have hy:=Yz h2 y rfl
  refine ⟨2,(((P1 hp hm h1).and (P1 hp hm h2)).mono fun N hN k hk pl=>?_)⟩
  obtain ⟨k,rfl⟩: ∃j,k=j+2:=⟨k - 2,om⟩
  refine ⟨⟨3,(0,0),false,acc++[x.plain.num]⟩,?_,fun u h=>by cases h⟩
  show B0 N (.done pl h t) p.funcs m c 0 acc (CN N (k+1)) (!h.isNil)=_
  unfold B0
  rw [hn]
  show ((ref11_Machine_of N ⟨p,m,c,0⟩ h).bind fun x764=>_)=_
  rw [hN.1]
  show ((Ft 16 acc [x.plain.num]).bind fun _=>(ref11_Machine_of N ⟨p,m,c1,0⟩ t).bind fun x901=>_)=_
  rw [Tq hb,Option.bind_some,hN.2,Option.bind_some]
  show D9 N (CN N k) th0 p.funcs m c' y (acc++[x.plain.num])=_
  unfold D9
  rw [show (y==0)=false by simpa using hy];rfl
 | @stop c h t acc x c1 z c' hb h1 h2 hz=>
  refine ⟨2,(((P1 hp hm h1).and (P1 hp hm h2)).mono fun N hN k hk pl=>?_)⟩
  obtain ⟨k,rfl⟩: ∃j,k=j+2:=⟨k - 2,om⟩
  refine ⟨⟨3,(0,0),false,acc++[x.plain.num]⟩,?_,fun u h=>by cases h;rfl⟩
  show B0 N (.done pl h t) p.funcs m c 0 acc (CN N (k+1)) (!h.isNil)=_
  unfold B0
  rw [hn]
  show ((ref11_Machine_of N ⟨p,m,c,0⟩ h).bind fun x764=>_)=_
  rw [hN.1]
  show ((Ft 16 acc [x.plain.num]).bind fun _=>(ref11_Machine_of N ⟨p,m,c1,0⟩ t).bind fun x901=>_)=_
  rw [Tq hb,Option.bind_some,hN.2,Option.bind_some]
  show B0 N (.done z.plain z.head z.tail) p.funcs m c' 0 (acc++[x.plain.num]) (CN N k) (!z.head.isNil)=_
  unfold B0
  rw [hz];rfl
 | @go c h t acc x c1 z c2 r c' hb h1 h2 hz _ ih=>
  obtain ⟨k0,ih⟩:=ih hz
  refine ⟨k0+1,((((P1 hp hm h1).and (P1 hp hm h2)).and ih).mono fun N hN k hk pl=>?_)⟩
  obtain ⟨k,rfl⟩: ∃j,k=j+1:=⟨k - 1,om⟩
  obtain ⟨v,hv,hv'⟩:=hN.2 k om z.plain
  refine ⟨v,?_,hv'⟩
  show B0 N (.done pl h t) p.funcs m c 0 acc (CN N k) (!h.isNil)=_
  unfold B0
  rw [hn]
  show ((ref11_Machine_of N ⟨p,m,c,0⟩ h).bind fun x764=>_)=_
  rw [hN.1.1]
  show ((Ft 16 acc [x.plain.num]).bind fun _=>(ref11_Machine_of N ⟨p,m,c1,0⟩ t).bind fun x901=>_)=_
  rw [Tq hb,Option.bind_some,hN.1.2]
  exact hv
theorem AA8(hp:WP p)(hm:m≤16384){c:Nat}{x:Ao}{r:Except Int AI}{c':Nat}(hw:Wh p m c x r c'):Ev fun N=>∃v,IC N ⟨p,m,c,0⟩ (.done x.plain x.head x.tail)=some (v,⟨p,m,c',rwv r⟩)∧∀u,r= .ok u→v=u:=by
 cases hw with
 |plain hx=>
  refine Ev.all fun N=>⟨x.plain,?_,fun u h=>by cases h;rfl⟩
  show Ge N ⟨p,m,c,0⟩ (.done x.plain x.head x.tail) (!!x.head.isNil)=_
  rw [hx];rfl
 |list hx h=>
  obtain ⟨k0,h⟩:=AA7 hp hm h hx
  refine (h.and (Lv k0)).mono fun N hN=>?_
  obtain ⟨v,hv,hv'⟩:=hN.1 N hN.2 x.plain
  refine ⟨v,?_,hv'⟩
  show Ge N ⟨p,m,c,0⟩ (.done x.plain x.head x.tail) (!!x.head.isNil)=_
  rw [hx]
  exact hv
def Rv(m:Nat)(t:Int)(r:Except Int AI)(c':Nat):Prop:=
 match r with
 | .ok v=>VV t v∧0<c'∧v.list.length≤34000000001
 | .error y=>(y=60∧c'=m)∨((y=50∨y=51∨y=52)∧0<c')
variable{L:Nat}
theorem RH(hp:WP p)(hS: ∀f∈p.funcs,WTy p f.params.reverse f.body f.type_)(hL:1≤L){c:Nat}(hc:c≤m){t:Int}{h:Th}(ht:TOK p L t h):
  ∃r c',Tg p m c h r c'∧c≤c'∧c'≤m∧(∀y,r= .error y→(y=60∧c'=m)∨((y=50∨y=51∨y=52)∧c<c'))∧(∀x,r= .ok x→TOK p L t (.done x.plain x.head x.tail)∧(c<c'∨(c'=c∧ch x.tail<ch h))):=by
 cases ht with
 |val _ v hv h3=>exact ⟨_,_,.done (x:=⟨v,.nil,.nil⟩),om,hc,fun y h=>(by cases h),fun x h=>by cases h;exact ⟨.val t v hv h3,.inr ⟨rfl,by simp [ch]⟩⟩⟩
 |pair a b h1 h2 h3=>exact ⟨_,_,.done (x:=⟨v0,a,b⟩),om,hc,fun y h=>(by cases h),fun x h=>by cases h;exact ⟨.pair a b h1 h2 h3,.inr ⟨rfl,by simp [ch]⟩⟩⟩
 |later Γ ρ e _ he hw hwe ht=>
  obtain ⟨r,c',l1,l2,l3,l4⟩:=Yy hp hS hL (m - c) c om hc Γ e ρ t he hw hwe ht
  refine ⟨r,c',.later l1,l2,l3,fun y h=>?_,fun x h=>?_⟩
  ·subst h;exact l4
  ·subst h;exact ⟨l4.1,.inl l4.2⟩
theorem AA9(hp:WP p)(hS: ∀f∈p.funcs,WTy p f.params.reverse f.body f.type_)(hL:1≤L): ∀(k n c:Nat) (h t:Th) (acc:List (Nat×Nat)),m - c≤k→ch t≤n→c≤m→TOK p L 1 h→TOK p L 3 t→acc.length+ch t+(L+1)*(m - c)≤34000000000→(∀z∈acc,Gn z)→
  ∃r c',Wl p m c h t acc r c'∧c≤c'∧c'≤m∧(∀y,r= .error y→(y=60∧c'=m)∨((y=50∨y=51∨y=52)∧c<c'))∧∀v,r= .ok v→VV 3 v∧v.list.length≤34000000001:=by
 intro k
 induction k with
 |zero=>
  intro n
  induction n with
  |zero=>
   intro c h t acc hk hn hc h1 h3 hb hg
   obtain ⟨r,c1,t1,t2,t3,t4,t5⟩:=RH hp hS hL hc h1
   cases r with
   |error y=>exact ⟨_,c1,.hE om t1,t2,t3,fun z hz=>by cases hz;exact t4 y rfl,fun v hv=>by cases hv⟩
   |ok x=>
    have hc1:c1=c:=om
    obtain ⟨r2,c2,s1,s2,s3,s4,s5⟩:=RH hp hS hL t3 h3
    cases r2 with
    |error y=>exact ⟨_,c2,.tE om t1 s1,om,s3,fun z hz=>by cases hz;rw [hc1] at s4;exact s4 y rfl,fun v hv=>by cases hv⟩
    |ok z=>have:=(s5 z rfl).2;omega
  |succ n ih=>
   intro c h t acc hk hn hc h1 h3 hb hg
   obtain ⟨r,c1,t1,t2,t3,t4,t5⟩:=RH hp hS hL hc h1
   cases r with
   |error y=>exact ⟨_,c1,.hE om t1,t2,t3,fun z hz=>by cases hz;exact t4 y rfl,fun v hv=>by cases hv⟩
   |ok x=>
    have hc1:c1=c:=om
    have vx:=QU (t5 x rfl).1 (by decide)
    obtain ⟨a,ha,hae⟩:=vv1 vx
    have gx:Gn x.plain.num:=by rw [hae];exact .of ha
    obtain ⟨r2,c2,s1,s2,s3,s4,s5⟩:=RH hp hS hL t3 h3
    cases r2 with
    |error y=>exact ⟨_,c2,.tE om t1 s1,om,s3,fun z hz=>by cases hz;rw [hc1] at s4;exact s4 y rfl,fun v hv=>by cases hv⟩
    |ok z=>
     have s6:=s5 z rfl
     have hg': ∀w∈acc++[x.plain.num],Gn w:=fun w hw=>by
      rcases List.mem_append.1 hw with hw|hw
      ·exact hg w hw
      ·simp at hw;subst hw;exact gx
     obtain ⟨zp,zh,zt⟩:=z
     cases hz:zh.isNil
     ·have hp2:TOK p L 1 zh∧TOK p L 3 zt:=by
       have:=s6.1
       simp only at this
       generalize (3:Int)=T3 at this
       cases this with
       |val=>cases hz
       |pair _ _ a b _=>exact ⟨a,b⟩
      have hch:ch zt<ch t:=by have:=s6.2;simp only at this;omega
      obtain ⟨r,c',w1,w2,w3,w4,w5⟩:=ih c2 zh zt (acc++[x.plain.num]) om om s3 hp2.1 hp2.2 (by rw [List.length_append,List.length_singleton,show m - c2=m - c by omega];omega) hg'
      exact ⟨r,c',.go om t1 s1 hz w1,om,w3,fun y hy=>(w4 y hy).imp id fun h=>⟨h.1,om⟩,w5⟩
     ·exact ⟨_,c2,.stop om t1 s1 hz,om,s3,fun y h=>(by cases h),fun v hv=>by cases hv;exact ⟨.inr (.inr ⟨rfl,rfl,rfl,rfl,hg'⟩),by simp;omega⟩⟩
 |succ k ihk=>
  intro n
  induction n using Nat.strongRecOn with
  |ind n ih=>
   intro c h t acc hk hn hc h1 h3 hb hg
   obtain ⟨r,c1,t1,t2,t3,t4,t5⟩:=RH hp hS hL hc h1
   cases r with
   |error y=>exact ⟨_,c1,.hE om t1,t2,t3,fun z hz=>by cases hz;exact t4 y rfl,fun v hv=>by cases hv⟩
   |ok x=>
    have vx:=QU (t5 x rfl).1 (by decide)
    obtain ⟨a,ha,hae⟩:=vv1 vx
    have gx:Gn x.plain.num:=by rw [hae];exact .of ha
    obtain ⟨r2,c2,s1,s2,s3,s4,s5⟩:=RH hp hS hL t3 h3
    cases r2 with
    |error y=>exact ⟨_,c2,.tE om t1 s1,om,s3,fun z hz=>by cases hz;exact (s4 y rfl).imp id fun h=>⟨h.1,om⟩,fun v hv=>by cases hv⟩
    |ok z=>
     have s6:=s5 z rfl
     have hg': ∀w∈acc++[x.plain.num],Gn w:=fun w hw=>by
      rcases List.mem_append.1 hw with hw|hw
      ·exact hg w hw
      ·simp at hw;subst hw;exact gx
     obtain ⟨zp,zh,zt⟩:=z
     cases hz:zh.isNil
     ·have hp2:TOK p L 1 zh∧TOK p L 3 zt∧ch zt<L:=by
       have:=s6.1
       simp only at this
       generalize (3:Int)=T3 at this
       cases this with
       |val=>cases hz
       |pair _ _ a b c=>exact ⟨a,b,c⟩
      rcases Nat.lt_or_ge c c2 with hlt|hge
      ·have hmul:(L+1)*(m - c2)+(L+1)≤(L+1)*(m - c):=by
        have:=Nat.mul_le_mul_left (L+1) (show m - c2+1≤m - c by omega)
        rw [Nat.mul_add,Nat.mul_one] at this;exact this
       obtain ⟨r,c',w1,w2,w3,w4,w5⟩:=ihk (ch zt) c2 zh zt (acc++[x.plain.num]) om om s3 hp2.1 hp2.2.1 (by rw [List.length_append,List.length_singleton];omega) hg'
       exact ⟨r,c',.go om t1 s1 hz w1,om,w3,fun y hy=>(w4 y hy).imp id fun h=>⟨h.1,om⟩,w5⟩
      ·have hch:ch zt<ch t:=by have:=s6.2;simp only at this;omega
       obtain ⟨r,c',w1,w2,w3,w4,w5⟩:=ih (ch zt) om c2 zh zt (acc++[x.plain.num]) om om s3 hp2.1 hp2.2.1 (by rw [List.length_append,List.length_singleton,show m - c2=m - c by omega];omega) hg'
       exact ⟨r,c',.go om t1 s1 hz w1,om,w3,fun y hy=>(w4 y hy).imp id fun h=>⟨h.1,om⟩,w5⟩
     ·exact ⟨_,c2,.stop om t1 s1 hz,om,s3,fun y h=>(by cases h),fun v hv=>by cases hv;exact ⟨.inr (.inr ⟨rfl,rfl,rfl,rfl,hg'⟩),by simp;omega⟩⟩
theorem ABA(hp:WP p)(hS: ∀f∈p.funcs,WTy p f.params.reverse f.body f.type_)(hL:1≤L)(hL2:L≤1100000)(hm:m≤16384){Γ:List AK}{e:AB}{ρ:Nm}{t:Int}(he:EOK p L Γ ρ)(hw:WTy p Γ e t)(hwe:WE e)(ht:1≤t∧t≤3):
  ∃r c',Rn p m e ρ r c'∧c'≤m∧Rv m t r c':=by
 obtain ⟨r,c1,l1,l2,l3,l4⟩:=Yy hp hS hL (m - 0) 0 (Nat.le_refl _) (Nat.zero_le _) Γ e ρ t he hw hwe ht
 cases r with
 |error y=>exact ⟨_,c1,.err l1,l3,l4⟩
 |ok x=>
  obtain ⟨xp,xh,xt⟩:=x
  obtain ⟨h4,h5⟩:=l4
  simp only at h4
  cases hz:xh.isNil
  ·generalize hT:t=T at h4
   cases h4 with
   |val=>cases hz
   |pair _ _ a b hc=>
    subst hT
    have hmul:(L+1)*(m - c1)≤1100001*16384:=Nat.mul_le_mul om om
    obtain ⟨r,c',w1,w2,w3,w4,w5⟩:=AA9 hp hS hL (m - c1) (ch xt) c1 xh xt [] (Nat.le_refl _) (Nat.le_refl _) l3 a b (by simp only [List.length_nil];omega) (by simp)
    refine ⟨r,c',.val l1 (.list hz w1),w3,?_⟩
    cases r with
    |ok v=>exact ⟨(w5 v rfl).1,om,(w5 v rfl).2⟩
    |error y=>exact (w4 y rfl).imp id fun h=>⟨h.1,om⟩
  ·generalize hT:t=T at h4
   cases h4 with
   |val _ v hv h3=>
    have hn:xp.list=[]:=by
     rcases hv with ⟨_,_,_,_,h⟩| ⟨_,_,_,h⟩| ⟨h,_⟩
     ·exact h
     ·exact h
     ·exact h3 h
    exact ⟨_,c1,.val l1 (.plain hz),l3,hv,h5,by simp only;rw [hn];simp⟩
   |pair _ _ a b hc=>rw [XN a] at hz;cases hz
end
end Fth
namespace Fth
open Go
def E2(p:Nat→Nat→Prop):Prop:=∃n,∀N k,n≤N→n≤k→p N k
theorem E2.and{p q:Nat→Nat→Prop}(hp:E2 p)(hq:E2 q):E2 fun N k=>p N k∧q N k:=by
 obtain ⟨n,hn⟩:=hp;obtain ⟨m,hm⟩:=hq
 exact ⟨n+m,fun N k h h'=>⟨hn N k om om,hm N k om om⟩⟩
theorem E2.mono{p q:Nat→Nat→Prop}(hp:E2 p)(h: ∀N k,p N k→q N k):E2 q:=let ⟨n,hn⟩:=hp;⟨n,fun N k a b=>h N k (hn N k a b)⟩
theorem E2.of{p:Nat→Prop}(h:Ev p):E2 fun N _=>p N:=let ⟨n,hn⟩:=h;⟨n,fun N _ a _=>hn N a⟩
theorem E2.diag{p:Nat→Nat→Prop}(h:E2 p):Ev fun N=>p N N:=let ⟨n,hn⟩:=h;⟨n,fun N a=>hn N N a a⟩
theorem Y0{p:Nat→Nat→Prop}(h:E2 fun N k=>p N (k+1)):E2 p:=by
 obtain ⟨n,hn⟩:=h
 refine ⟨n+1,fun N k a b=>?_⟩
 obtain ⟨j,rfl⟩: ∃j,k=j+1:=⟨k - 1,om⟩
 exact hn N j om om
def ET{α:Type}(f:Nat→Option α)(Q:α→Prop):Prop:=∃r,Q r∧Ev fun N=>f N=some r
def EL{α:Type}(f:Nat→Nat→Option α)(Q:α→Prop):Prop:=∃r,Q r∧E2 fun N k=>f N k=some r
section
variable{α β:Type}
theorem ET.of{x:Option α}{Q:α→Prop}(h:T x Q):ET (fun _=>x) Q:=by obtain ⟨r,e,h⟩:=h;exact ⟨r,h,Ev.all fun _=>e⟩
theorem ET.some{r:α}{Q:α→Prop}(h:Q r):ET (fun _=>Option.some r) Q:=⟨r,h,Ev.all fun _=>rfl⟩
theorem ET.bind{f:Nat→Option α}{g:Nat→α→Option β}{P:α→Prop}{Q:β→Prop}(h:ET f P)(k: ∀a,P a→ET (fun N=>g N a) Q):ET (fun N=>(f N).bind (g N)) Q:=by
 obtain ⟨a,ha,hE⟩:=h
 obtain ⟨b,hb,hE2⟩:=k a ha
 exact ⟨b,hb,(hE.and hE2).mono fun N h=>by show (f N).bind (g N)=_;rw [h.1];exact h.2⟩
theorem ET.cond{c:Bool}{f g:Nat→Option α}{Q:α→Prop}(h1:c=true→ET f Q)(h2:c=false→ET g Q):ET (fun N=>bif c then f N else g N) Q:=by
 cases c
 ·exact h2 rfl
 ·exact h1 rfl
theorem ET.mono{f:Nat→Option α}{P Q:α→Prop}(h:ET f P)(k: ∀a,P a→Q a):ET f Q:=let ⟨r,hr,e⟩:=h;⟨r,k r hr,e⟩
theorem ET.down{f:Nat→Option α}{Q:α→Prop}(h:ET (fun N=>f (N+1)) Q):ET f Q:=let ⟨r,hr,e⟩:=h;⟨r,hr,Ev.down 1 e⟩
theorem ET.cg{f g:Nat→Option α}{Q:α→Prop}(h:ET f Q)(e: ∀N,g N=f N):ET g Q:=by
 have:g=f:=funext e
 rw [this];exact h
theorem ET.from{f g:Nat→Option α}{Q:α→Prop}(h:ET f Q)(n:Nat)(e: ∀N,n≤N→g N=f N):ET g Q:=by
 obtain ⟨r,hr,hE⟩:=h
 exact ⟨r,hr,(hE.and (Lv n)).mono fun N h=>by rw [e N h.2];exact h.1⟩
theorem RT{f:Nat→Option α}{Q:α→Prop}(n:Nat)(h: ∃r,Q r∧∀N,n≤N→f N=Option.some r):ET f Q:=let ⟨r,hr,e⟩:=h;⟨r,hr,⟨n,e⟩⟩
theorem EL.bind{f:Nat→Option α}{g:Nat→Nat→α→Option β}{P:α→Prop}{Q:β→Prop}(h:ET f P)(k: ∀a,P a→EL (fun N k=>g N k a) Q):EL (fun N k=>(f N).bind (g N k)) Q:=by
 obtain ⟨a,ha,hE⟩:=h
 obtain ⟨b,hb,hE2⟩:=k a ha
 exact ⟨b,hb,((E2.of hE).and hE2).mono fun N k h=>by show (f N).bind (g N k)=_;rw [h.1];exact h.2⟩
theorem EL.cond{c:Bool}{f g:Nat→Nat→Option α}{Q:α→Prop}(h1:c=true→EL f Q)(h2:c=false→EL g Q):EL (fun N k=>bif c then f N k else g N k) Q:=by
 cases c
 ·exact h2 rfl
 ·exact h1 rfl
theorem ET.eq{x:Option α}{a:α}{g:Nat→α→Option β}{Q:β→Prop}(h:x=Option.some a)(k:ET (fun N=>g N a) Q):ET (fun N=>x.bind (g N)) Q:=by subst h;exact k
theorem EL.eq{x:Option α}{a:α}{g:Nat→Nat→α→Option β}{Q:β→Prop}(h:x=Option.some a)(k:EL (fun N k=>g N k a) Q):EL (fun N k=>x.bind (g N k)) Q:=by subst h;exact k
theorem ET.tb{x:Option α}{g:Nat→α→Option β}{P:α→Prop}{Q:β→Prop}(h:T x P)(k: ∀a,P a→ET (fun N=>g N a) Q):ET (fun N=>x.bind (g N)) Q:=by obtain ⟨a,e,ha⟩:=h;exact .eq e (k a ha)
theorem EL.tb{x:Option α}{g:Nat→Nat→α→Option β}{P:α→Prop}{Q:β→Prop}(h:T x P)(k: ∀a,P a→EL (fun N k=>g N k a) Q):EL (fun N k=>x.bind (g N k)) Q:=by obtain ⟨a,e,ha⟩:=h;exact .eq e (k a ha)
theorem EL.of{f:Nat→Option α}{Q:α→Prop}(h:ET f Q):EL (fun N _=>f N) Q:=let ⟨r,hr,e⟩:=h;⟨r,hr,E2.of e⟩
theorem EL.some{r:α}{Q:α→Prop}(h:Q r):EL (fun _ _=>Option.some r) Q:=⟨r,h,⟨0,fun _ _ _ _=>rfl⟩⟩
theorem EL.down{f:Nat→Nat→Option α}{Q:α→Prop}(h:EL (fun N k=>f N (k+1)) Q):EL f Q:=let ⟨r,hr,e⟩:=h;⟨r,hr,Y0 e⟩
theorem EL.diag{f:Nat→Nat→Option α}{Q:α→Prop}(h:EL f Q):ET (fun N=>f N N) Q:=let ⟨r,hr,e⟩:=h;⟨r,hr,e.diag⟩
theorem EL.mono{f:Nat→Nat→Option α}{P Q:α→Prop}(h:EL f P)(k: ∀a,P a→Q a):EL f Q:=let ⟨r,hr,e⟩:=h;⟨r,k r hr,e⟩
end
theorem Uj{s:List UInt8}: ∀(m:An) (i j:Nat),(LI s m i).map (·.2)=(LI s m j).map (·.2):=by
 intro m
 induction m with
 |nil=>intro i j;rfl
 |cons x m ih=>
  intro i j
  obtain ⟨k,v⟩:=x
  simp only [LI]
  cases (s==k)
  ·exact ih _ _
  ·rfl
theorem WJ(m:An)(s:List UInt8):Cm m s=((LI s m 0).map (·.2)).getD 0:=by
 unfold Cm
 cases LI s m 0<;>rfl
theorem Tt(s:List UInt8):Cm [] s=0:=rfl
theorem Ng(k:List UInt8)(v:Int)(m:An)(s:List UInt8):Cm ((k,v)::m) s=bif s==k then v else Cm m s:=by
 rw [WJ,WJ]
 simp only [LI]
 cases (s==k)
 ·simp only [cond_false];rw [Uj m 1 0]
 ·rfl
theorem WK(m:An)(s:List UInt8):OA m s=((LI s m 0).map (·.2)).isSome:=by
 unfold OA
 cases LI s m 0<;>rfl
theorem Nh(k:List UInt8)(v:Int)(m:An)(s:List UInt8):OA ((k,v)::m) s=bif s==k then true else OA m s:=by
 rw [WK,WK]
 simp only [LI]
 cases (s==k)
 ·simp only [cond_false];rw [Uj m 1 0]
 ·rfl
theorem MZ(s:List UInt8)(v:Int)(m:An)(t:List UInt8):Cm (Lq s v m) t=bif t==s then v else Cm m t:=by
 induction m with
 |nil=>exact Ng s v [] t
 |cons x m ih=>
  obtain ⟨k,u⟩:=x
  rw [Lq]
  cases h:(s==k)
  ·rw [cond_false,Ng,Ng,ih]
   cases h1:(t==k)
   ·rfl
   ·have:t=k:=by simpa using h1
    have h2:(t==s)=false:=by
     rw [this];simp only [beq_eq_false_iff_ne,ne_eq] at h ⊢;exact fun e=>h e.symm
    rw [h2];rfl
  ·have e:s=k:=by simpa using h
   subst e
   rw [cond_true,Ng,Ng]
   cases (t==s)<;>rfl
theorem Xr(s:List UInt8)(v:Int)(m:An)(t:List UInt8):OA (Lq s v m) t=bif t==s then true else OA m t:=by
 induction m with
 |nil=>exact Nh s v [] t
 |cons x m ih=>
  obtain ⟨k,u⟩:=x
  rw [Lq]
  cases h:(s==k)
  ·rw [cond_false,Nh,Nh,ih]
   cases h1:(t==k)
   ·rfl
   ·have:t=k:=by simpa using h1
    have h2:(t==s)=false:=by
     rw [this];simp only [beq_eq_false_iff_ne,ne_eq] at h ⊢;exact fun e=>h e.symm
    rw [h2];rfl
  ·have e:s=k:=by simpa using h
   subst e
   rw [cond_true,Nh,Nh]
   cases (t==s)<;>rfl
end Fth
namespace Fth
open Go
def bnd(e:AB)(i:Nat):List (List UInt8):=if e.op=21∨(e.op=22∧i=1) then [e.name] else if e.op=20∧i=2 then [e.name,e.tail] else []
def KI(p:AM)(e:AB):Prop:=e.op=7→∃f,hd p e.name=some f∧f.params.length=e.args.length
inductive Sc(p:AM):(List UInt8→Prop)→AB→Prop
 |mk (B:List UInt8→Prop) (e:AB) (hv:e.op=6→B e.name) (hc:KI p e) (hs: ∀i a,e.args[i]?=some a→Sc p (fun s=>s∈bnd e i∨B s) a):Sc p B e
theorem Y1{p:AM}{B:List UInt8→Prop}{e:AB}:Sc p B e↔(e.op=6→B e.name)∧KI p e∧∀i a,e.args[i]?=some a→Sc p (fun s=>s∈bnd e i∨B s) a:=
 ⟨fun h=>by cases h with |mk _ _ a b c=>exact ⟨a,b,c⟩,fun h=> .mk B e h.1 h.2.1 h.2.2⟩
def FN(p:AM):Prop:=∀i f,p.funcs[i]?=some f→f.name∉(p.funcs.take i).map (·.name)
def PN(f:AE):Prop:=∀i x,f.params[i]?=some x→x.name∉(f.params.take i).map (·.name)
def Z3(p:AM):Prop:=FN p∧∀f∈p.funcs,PN f∧Sc p (fun s=>s∈f.params.map (·.name)) f.body
def Pl(p:AM)(mp:An):Prop:=∀nm,(hd p nm=none∧Cm mp nm=0)∨∃(i:Nat) (f:AE),p.funcs[i]?=some f∧hd p nm=some f∧Cm mp nm=(i:Int)+1
theorem QV{y a:Int}{flt:AF}(hy:y≠0):T (Dt y a flt) fun r=>r.why≠0:=by
 unfold Dt JW
 exact T.cond (fun _=>T.cond (fun _=> .some hy) fun h=>by cases h) fun h=>T.cond (fun _=> .some hy) fun _=> .some (Bn h)
section
variable{p:AM}{mpl:An}(hpl:Pl p mpl)(hlen:p.funcs.length≤1000000)
include hpl hlen
theorem Y5{e:AB}{mi:An}{flt:AF}:T (Fn e mi mpl flt p) fun r=>r.why=0↔flt.why=0∧(e.op=6→Cm mi e.name≠0)∧KI p e:=by
 have j3: ∀b,(e.op≠6)→(b=false↔KI p e)→T (HA e flt b) fun r=>r.why=0↔flt.why=0∧(e.op=6→Cm mi e.name≠0)∧KI p e:=by
  intro b h6 hb
  unfold HA
  refine T.cond (fun h=>T.bind (QV (by decide)) fun r hr=> .some ?_) fun h=> .some ?_
  ·subst h
   exact ⟨fun h=>absurd h hr,fun h=>by have:=hb.2 h.2.2;cases this⟩
  ·subst h
   exact ⟨fun h=>⟨h,fun h'=>absurd h' h6,hb.1 rfl⟩,fun h=>h.1⟩
 have j2:e.op≠6→e.op≠7→T (GC e mpl flt p false) fun r=>r.why=0↔flt.why=0∧(e.op=6→Cm mi e.name≠0)∧KI p e:=by
  intro h6 h7
  unfold GC
  refine T.cond (fun h=>by cases h) fun _=>T.cond (fun h=>absurd (CJ h) h7) fun _=>j3 _ h6 ⟨fun _ h=>absurd h h7,fun _=>rfl⟩
 have j1:e.op≠6→T (HB e mpl flt p false) fun r=>r.why=0↔flt.why=0∧(e.op=6→Cm mi e.name≠0)∧KI p e:=by
  intro h6
  unfold HB
  refine T.cond (fun h=>by cases h) fun _=>T.cond (fun h=>?_) fun h=>j2 h6 (Bn h)
  have h7:=CJ h
  unfold GC
  rcases hpl e.name with ⟨hn,h0⟩| ⟨i,f,hi,hf,hm⟩
  ·rw [h0]
   refine T.cond (fun _=>T.bind (QV (by decide)) fun r hr=> .some ⟨fun h=>absurd h hr,fun h=>?_⟩) fun h=>by cases h
   obtain ⟨f,hf,_⟩:=h.2.2 h7
   rw [hn] at hf;cases hf
  ·rw [hm]
   have hil:=(List.getElem?_eq_some_iff.1 hi).1
   refine T.cond (fun h=>by have:=CJ h;omega) fun _=>T.cond (fun _=>?_) fun h=>absurd h7 (Bn h)
   rw [wr (x:=(i:Int)+1 - 1) om om,show (i:Int)+1 - 1=(i:Int) by omega]
   refine T.eq (Br hi) (j3 _ h6 ⟨fun h _=>⟨f,hf,?_⟩,fun h=>?_⟩)
   ·have:=Jr h;omega
   ·obtain ⟨g,hg,hl⟩:=h h7
    rw [hf] at hg;cases hg
    simp;omega
 unfold Fn
 refine T.cond (fun h=>?_) fun h=>j1 (Bn h)
 have h6:=CJ h
 unfold HB
 refine T.cond (fun h=>T.bind (QV (by decide)) fun r hr=> .some ⟨fun h=>absurd h hr,fun h'=>absurd (CJ h) (h'.2.1 h6)⟩) fun h=>T.cond (fun h=>by have:=CJ h;omega) fun h7=>?_
 unfold GC
 refine T.cond (fun h=>by cases h) fun _=>T.cond (fun h=>by have:=CJ h;omega) fun _=>?_
 unfold HA
 refine T.cond (fun h=>by cases h) fun _=> .some ⟨fun h'=>⟨h',fun _=>Bn h,fun h7=>om⟩,fun h=>h.1⟩
omit hpl hlen in
theorem XO(e:AB)(i:Nat):Hf e (i:Int)=some (bnd e i):=by
 unfold Hf JX KM bnd
 have e1:((i:Int)==1)=decide (i=1):=by rw [Bool.eq_iff_iff];simp;omega
 have e2:((i:Int)==2)=decide (i=2):=by rw [Bool.eq_iff_iff];simp;omega
 rw [e1,e2]
 cases h1:(e.op==21)
 ·have h1:=Bn h1
  cases h2:(e.op==22)
  ·have h2:=Bn h2
   rw [if_neg om]
   cases h3:(e.op==20)
   ·have h3:=Bn h3
    rw [if_neg om];rfl
   ·have h3:=CJ h3
    cases h4:decide (i=2)
    ·have h4:=Db h4;rw [if_neg om];rfl
    ·have h4:=CI h4;rw [if_pos ⟨h3,h4⟩];rfl
  ·have h2:=CJ h2
   cases h3:decide (i=1)
   ·have h3:=Db h3
    rw [if_neg om,if_neg om,show (e.op==20)=false by simp;omega];rfl
   ·have h3:=CI h3
    rw [if_pos (.inr ⟨h2,h3⟩)];rfl
 ·have h1:=CJ h1
  rw [if_pos (.inl h1)];rfl
omit hpl hlen in
theorem Z4(e:AB)(i:Nat):IS e (i:Int)=some (bnd e i):=XO e i
omit hpl hlen in
theorem XP(e:AB)(i:Nat):(bnd e i).length≤2:=by
 unfold bnd;split
 ·simp
 ·split<;>simp
theorem Z5: ∀(n:Nat) (e:AB),CW e≤n→∀(C:List (List UInt8)) (mi:An) (flt:AF),(∀s,Cm mi s=(C.count s:Int))→C.length+2*n≤1000000000→
  ET (fun N=>scope_walk N e mi mpl flt p) fun r=>(∀s,Cm r.1 s=(C.count s:Int))∧(r.2.why=0↔flt.why=0∧Sc p (fun s=>s∈C) e):=by
 intro n
 induction n with
 |zero=>intro e he;have:=LM e;omega
 |succ n ih=>
  intro e he C mi flt hmi hC
  have hal:=L4 e.args
  have hes:=Mu e
  refine ET.down ?_
  show ET (fun N=>Kj (Ax.at N) N e mi mpl flt p) _
  unfold Kj
  refine ET.bind (.of (Y5 hpl hlen)) fun f1 hf1=>?_
  have cc: ∀s,(C.count s:Int)≠0↔s∈C:=fun s=>by
   have:=List.count_pos_iff (a:=s) (l:=C)
   constructor
   ·intro h;exact this.1 om
   ·intro h;have:=this.2 h;omega
  have loop: ∀(j i:Nat),i+j=e.args.length→∀(mi:An) (f2:AF),(∀s,Cm mi s=(C.count s:Int))→
    EL (fun N k=>Cf (Ax.at N) N e mpl p k (i:Int) mi f2.why f2.at_) fun r=>(∀s,Cm r.1 s=(C.count s:Int))∧(r.2.why=0↔f2.why=0∧∀i' a,i≤i'→e.args[i']?=some a→Sc p (fun s=>s∈bnd e i'∨s∈C) a):=by
   intro j
   induction j with
   |zero=>
    intro i hi mi f2 hmi
    refine EL.down ?_
    show EL (fun N k=>Ie (Ax.at N) N e mpl p (Cf (Ax.at N) N e mpl p k) i mi f2.why f2.at_) _
    unfold Ie
    refine EL.cond (fun h=>by have:=CI h;omega) fun _=> .some ⟨hmi,fun h=>⟨h,fun i' a hi' ha=>?_⟩,fun h=>h.1⟩
    have:=(List.getElem?_eq_some_iff.1 ha).1
    omega
   |succ j ihj=>
    intro i hi mi f2 hmi
    refine EL.down ?_
    show EL (fun N k=>Ie (Ax.at N) N e mpl p (Cf (Ax.at N) N e mpl p k) i mi f2.why f2.at_) _
    unfold Ie
    refine EL.cond (fun _=>?_) fun h=>by have:=Db h;omega
    have hil:i<e.args.length:=om
    obtain ⟨a,ha⟩: ∃a,e.args[i]?=some a:=⟨_,List.getElem?_eq_getElem hil⟩
    have has:=L3 (List.mem_of_getElem? ha)
    refine EL.eq (Br ha) (EL.eq (XO e i) ?_)
    have hbl:=XP e i
    have l3: ∀(q t:Nat),t+q=(bnd e i).length→∀(m3:An) (w:An×AF),(∀s,Cm m3 s=(((bnd e i).drop t).count s+C.count s:Nat))→
      E2 (fun N k=>True)→∀(R:An×AF→Prop),(∀m4,(∀s,Cm m4 s=(C.count s:Int))→EL (fun N k=>Cf (Ax.at N) N e mpl p k ((i+1:Nat):Int) m4 w.2.why w.2.at_) R)→
      ∃r,R r∧∃n0,∀N k kk,n0≤N→n0≤k→n0≤kk→IM i (Cf (Ax.at N) N e mpl p k) (bnd e i) w kk (t:Int) m3=some r:=by
     intro q
     induction q with
     |zero=>
      intro t ht m3 w hm3 _ R hR
      have hd0:(bnd e i).drop t=[]:=List.drop_eq_nil_of_le om
      obtain ⟨r,hr,n0,hn0⟩:=hR m3 (fun s=>by rw [hm3,hd0];simp)
      refine ⟨r,hr,n0+1,fun N k kk h1 h2 h3=>?_⟩
      obtain ⟨kk,rfl⟩: ∃j,kk=j+1:=⟨kk - 1,om⟩
      show Ic i (Cf (Ax.at N) N e mpl p k) (bnd e i) w (IM i (Cf (Ax.at N) N e mpl p k) (bnd e i) w kk) t m3=_
      unfold Ic
      rw [show decide ((t:Int)< ((bnd e i).length:Int))=false from decide_eq_false om,cond_false,wr om om,show (i:Int)+1=((i+1:Nat):Int) by omega]
      exact hn0 N k om om
     |succ q ihq=>
      intro t ht m3 w hm3 ht2 R hR
      have htl:t< (bnd e i).length:=om
      obtain ⟨s0,hs0⟩: ∃s0,(bnd e i)[t]?=some s0:=⟨_,List.getElem?_eq_getElem htl⟩
      have hdr:=LN hs0
      have h0:=hm3 s0
      have hc1:((bnd e i).drop t).count s0+C.count s0≤2+C.length:=by
       have a1:=List.count_le_length (a:=s0) (l:=(bnd e i).drop t)
       have a2:=List.count_le_length (a:=s0) (l:=C)
       simp at a1;omega
      obtain ⟨r,hr,n0,hn0⟩:=ihq (t+1) om (Lq s0 (Cm m3 s0 - 1) m3) w (fun s=>by
       rw [MZ]
       cases hs:(s==s0)
       ·rw [cond_false,hm3,hdr,List.count_cons_of_ne (fun e=>by subst e;simp at hs)]
       ·have:s=s0:=by simpa using hs
        subst this
        rw [cond_true,hm3,hdr,List.count_cons_self];omega) ht2 R hR
      refine ⟨r,hr,n0+1,fun N k kk h1 h2 h3=>?_⟩
      obtain ⟨kk,rfl⟩: ∃j,kk=j+1:=⟨kk - 1,om⟩
      show Ic i (Cf (Ax.at N) N e mpl p k) (bnd e i) w (IM i (Cf (Ax.at N) N e mpl p k) (bnd e i) w kk) t m3=_
      unfold Ic
      rw [show decide ((t:Int)< ((bnd e i).length:Int))=true from decide_eq_true om,cond_true,Br hs0,Option.bind_some,wr (x:=(t:Int)+1) om om,wr (x:=Cm m3 s0 - 1) om om,show (t:Int)+1=((t+1:Nat):Int) by omega]
      exact hn0 N k kk om om om
    have l2: ∀(q t:Nat),t+q=(bnd e i).length→∀(m2:An),(∀s,Cm m2 s=(((bnd e i).take t).count s+C.count s:Nat))→
      ∃r:An×AF,((∀s,Cm r.1 s=(C.count s:Int))∧(r.2.why=0↔f2.why=0∧∀i' a,i≤i'→e.args[i']?=some a→Sc p (fun s=>s∈bnd e i'∨s∈C) a))∧
       ∃n0,∀N k kk,n0≤N→n0≤k→n0≤kk→IN (Ax.at N) N mpl p i f2.why f2.at_ (Cf (Ax.at N) N e mpl p k) a (bnd e i) kk (t:Int) m2=some r:=by
     intro q
     induction q with
     |zero=>
      intro t ht m2 hm2
      have htk:(bnd e i).take t=bnd e i:=List.take_of_length_le om
      obtain ⟨w,hw,hE⟩:=ih a om (bnd e i++C) m2 ⟨f2.why,f2.at_⟩ (fun s=>by rw [hm2,htk,List.count_append]) (by rw [List.length_append];omega)
      obtain ⟨n1,hn1⟩:=hE
      obtain ⟨r,hr,n0,hn0⟩:=l3 (bnd e i).length 0 om w.1 w (fun s=>by rw [hw.1,List.drop_zero,List.count_append]) ⟨0,fun _ _ _ _=>trivial⟩ (fun r=>(∀s,Cm r.1 s=(C.count s:Int))∧(r.2.why=0↔f2.why=0∧∀i' a,i≤i'→e.args[i']?=some a→Sc p (fun s=>s∈bnd e i'∨s∈C) a)) fun m4 hm4=>(ihj (i+1) om m4 w.2 hm4).mono fun r hr=>⟨hr.1,by
       rw [hr.2,hw.2]
       have eB:(fun s=>s∈bnd e i++C)=fun s=>s∈bnd e i∨s∈C:=funext fun s=>propext List.mem_append
       rw [eB]
       constructor
       ·rintro ⟨⟨h1,h2⟩,h3⟩
        refine ⟨h1,fun i' a' hi' ha'=>?_⟩
        rcases Nat.eq_or_lt_of_le hi' with rfl|hlt
        ·rw [ha] at ha';cases ha';exact h2
        ·exact h3 i' a' hlt ha'
       ·rintro ⟨h1,h2⟩
        exact ⟨⟨h1,h2 i a (Nat.le_refl _) ha⟩,fun i' a' hi' ha'=>h2 i' a' om ha'⟩⟩
      refine ⟨r,hr,n0+n1+1,fun N k kk h1 h2 h3=>?_⟩
      obtain ⟨kk,rfl⟩: ∃j,kk=j+1:=⟨kk - 1,om⟩
      show Id (Ax.at N) N mpl p i f2.why f2.at_ (Cf (Ax.at N) N e mpl p k) a (bnd e i) (IN (Ax.at N) N mpl p i f2.why f2.at_ (Cf (Ax.at N) N e mpl p k) a (bnd e i) kk) t m2=_
      unfold Id
      rw [show decide ((t:Int)< ((bnd e i).length:Int))=false from decide_eq_false om,cond_false]
      show ((scope_walk N a m2 mpl ⟨f2.why,f2.at_⟩ p).bind fun x649=>_)=_
      have ew:scope_walk N a m2 mpl ⟨f2.why,f2.at_⟩ p=some w:=hn1 N om
      rw [ew,Option.bind_some]
      exact hn0 N k N om om om
     |succ q ihq=>
      intro t ht m2 hm2
      have htl:t< (bnd e i).length:=om
      obtain ⟨s0,hs0⟩: ∃s0,(bnd e i)[t]?=some s0:=⟨_,List.getElem?_eq_getElem htl⟩
      have htk:(bnd e i).take (t+1)=(bnd e i).take t++[s0]:=by rw [List.take_add_one,hs0];rfl
      have h0:=hm2 s0
      have hc1:((bnd e i).take t).count s0+C.count s0≤2+C.length:=by
       have a1:=List.count_le_length (a:=s0) (l:=(bnd e i).take t)
       have a2:=List.count_le_length (a:=s0) (l:=C)
       simp at a1;omega
      obtain ⟨r,hr,n0,hn0⟩:=ihq (t+1) om (Lq s0 (Cm m2 s0+1) m2) fun s=>by
       rw [MZ,htk,List.count_append]
       cases hs:(s==s0)
       ·rw [cond_false,hm2,List.count_cons_of_ne (fun e=>by subst e;simp at hs)];simp
       ·have:s=s0:=by simpa using hs
        subst this
        rw [cond_true,hm2,List.count_singleton_self];omega
      refine ⟨r,hr,n0+1,fun N k kk h1 h2 h3=>?_⟩
      obtain ⟨kk,rfl⟩: ∃j,kk=j+1:=⟨kk - 1,om⟩
      show Id (Ax.at N) N mpl p i f2.why f2.at_ (Cf (Ax.at N) N e mpl p k) a (bnd e i) (IN (Ax.at N) N mpl p i f2.why f2.at_ (Cf (Ax.at N) N e mpl p k) a (bnd e i) kk) t m2=_
      unfold Id
      rw [show decide ((t:Int)< ((bnd e i).length:Int))=true from decide_eq_true om,cond_true,Br hs0,Option.bind_some,wr (x:=(t:Int)+1) om om,wr (x:=Cm m2 s0+1) om om,show (t:Int)+1=((t+1:Nat):Int) by omega]
      exact hn0 N k kk om om om
    obtain ⟨r,hr,n0,hn0⟩:=l2 (bnd e i).length 0 om mi fun s=>by rw [hmi];simp
    exact ⟨r,hr,n0,fun N k h1 h2=>hn0 N k N h1 h2 h1⟩
  refine (loop e.args.length 0 om mi f1 hmi).diag.mono fun r hr=>⟨hr.1,?_⟩
  rw [hr.2,hf1,hmi,Y1,cc]
  constructor
  ·rintro ⟨⟨h1,h2,h3⟩,h4⟩;exact ⟨h1,h2,h3,fun i a ha=>h4 i a (Nat.zero_le _) ha⟩
  ·rintro ⟨h1,h2,h3,h4⟩;exact ⟨⟨h1,h2,h3⟩,fun i a _ ha=>h4 i a ha⟩
end
end Fth
namespace Fth
open Go
theorem QW{p:AM}{nm:List UInt8}{i:Nat}{f:AE}(hi:p.funcs[i]?=some f)(hn:f.name=nm)(h:nm∉(p.funcs.take i).map (·.name)):hd p nm=some f:=by
 unfold hd
 rw [List.find?_eq_some_iff_getElem]
 obtain ⟨hl,he⟩:=List.getElem?_eq_some_iff.1 hi
 refine ⟨by simpa using hn,i,hl,he,fun j hj=>?_⟩
 simp only [Bool.not_eq_true',beq_eq_false_iff_ne,ne_eq]
 intro e
 refine h (List.mem_map.2 ⟨p.funcs[j],?_,e⟩)
 rw [List.mem_take_iff_getElem]
 exact ⟨j,om,rfl⟩
theorem VY{p:AM}{nm:List UInt8}(h:nm∉p.funcs.map (·.name)):hd p nm=none:=by
 unfold hd
 rw [List.find?_eq_none]
 intro f hf e
 exact h (List.mem_map.2 ⟨f,hf,by simpa using e⟩)
section
variable{p:AM}
theorem Z6(hlen:p.funcs.length≤50000)(hb: ∀f∈p.funcs,CW f.body≤1000000∧f.params.length≤1000000):ET (fun N=>IP N p) fun r=>r.why=0↔Z3 p:=by
 have bodies: ∀(mpl:An),Pl p mpl→∀(j i:Nat),i+j=p.funcs.length→∀(f0:AF),
   EL (fun N k=>DA N p mpl k (i:Int) f0.why f0.at_) fun r=>r.why=0↔f0.why=0∧∀i' f,i≤i'→p.funcs[i']?=some f→PN f∧Sc p (fun s=>s∈f.params.map (·.name)) f.body:=by
  intro mpl hpl j
  induction j with
  |zero=>
   intro i hi f0
   refine EL.down ?_
   show EL (fun N k=>Hz N p mpl (DA N p mpl k) i f0.why f0.at_) _
   unfold Hz
   refine EL.cond (fun h=>by have:=CI h;omega) fun _=> .some ⟨fun h=>⟨h,fun i' f hi' hf=>?_⟩,fun h=>h.1⟩
   have:=(List.getElem?_eq_some_iff.1 hf).1
   omega
  |succ j ihj=>
   intro i hi f0
   refine EL.down ?_
   show EL (fun N k=>Hz N p mpl (DA N p mpl k) i f0.why f0.at_) _
   unfold Hz
   refine EL.cond (fun _=>?_) fun h=>by have:=Db h;omega
   obtain ⟨f,hf⟩: ∃f,p.funcs[i]?=some f:=⟨_,List.getElem?_eq_getElem om⟩
   have hfb:=hb f (List.mem_of_getElem? hf)
   refine EL.eq (Br hf) ?_
   have pars: ∀(q t:Nat),t+q=f.params.length→∀(f2:AF) (m:An),(∀s,Cm m s=(((f.params.take t).map (·.name)).count s:Int))→
     ∃r:AF,(r.why=0↔f2.why=0∧(∀i' x,t≤i'→f.params[i']?=some x→x.name∉(f.params.take i').map (·.name))∧Sc p (fun s=>s∈f.params.map (·.name)) f.body∧∀i' f,i+1≤i'→p.funcs[i']?=some f→PN f∧Sc p (fun s=>s∈f.params.map (·.name)) f.body)∧
      ∃n0,∀N k kk,n0≤N→n0≤k→n0≤kk→Fo N p mpl i (DA N p mpl k) f kk (t:Int) f2.why f2.at_ m=some r:=by
    intro q
    induction q with
    |zero=>
     intro t ht f2 m hm
     have htk:f.params.take t=f.params:=List.take_of_length_le om
     obtain ⟨w,hw,n1,hn1⟩:=Z5 hpl om (CW f.body) f.body (Nat.le_refl _) (f.params.map (·.name)) m ⟨f2.why,f2.at_⟩ (fun s=>by rw [hm,htk]) (by rw [List.length_map];omega)
     obtain ⟨r,hr,n0,hn0⟩:=ihj (i+1) om w.2
     refine ⟨r,?_,n0+n1+1,fun N k kk h1 h2 h3=>?_⟩
     ·rw [hr,hw.2]
      constructor
      ·rintro ⟨⟨h1,h2⟩,h3⟩
       exact ⟨h1,fun i' x hi' hx=>by have:=(List.getElem?_eq_some_iff.1 hx).1;omega,h2,h3⟩
      ·rintro ⟨h1,_,h2,h3⟩;exact ⟨⟨h1,h2⟩,h3⟩
     ·obtain ⟨kk,rfl⟩: ∃j,kk=j+1:=⟨kk - 1,om⟩
      show Fw N p mpl i (DA N p mpl k) f (Fo N p mpl i (DA N p mpl k) f kk) t f2.why f2.at_ m=_
      unfold Fw
      have ew:scope_walk N f.body m mpl ⟨f2.why,f2.at_⟩ p=some w:=hn1 N om
      rw [show decide ((t:Int)< (f.params.length:Int))=false from decide_eq_false om,cond_false,O9,ew,Option.bind_some,wr om om,show (i:Int)+1=((i+1:Nat):Int) by omega]
      exact hn0 N k om om
    |succ q ihq=>
     intro t ht f2 m hm
     obtain ⟨x,hx⟩: ∃x,f.params[t]?=some x:=⟨_,List.getElem?_eq_getElem om⟩
     have htk:(f.params.take (t+1)).map (·.name)=(f.params.take t).map (·.name)++[x.name]:=by rw [List.take_add_one,hx];simp
     have hcl:=List.count_le_length (a:=x.name) (l:=(f.params.take t).map (·.name))
     simp only [List.length_map,List.length_take] at hcl
     have hm': ∀s,Cm (Lq x.name (Cm m x.name+1) m) s=(((f.params.take (t+1)).map (·.name)).count s:Int):=fun s=>by
      rw [MZ,htk,List.count_append]
      cases hs:(s==x.name)
      ·rw [cond_false,hm,List.count_cons_of_ne (fun e=>by subst e;simp at hs)];simp
      ·have:s=x.name:=by simpa using hs
       subst this
       rw [cond_true,hm,List.count_singleton_self];omega
     have next: ∀f3:AF,(f3.why=0↔f2.why=0∧x.name∉(f.params.take t).map (·.name))→∃r:AF,(r.why=0↔f2.why=0∧(∀i' x,t≤i'→f.params[i']?=some x→x.name∉(f.params.take i').map (·.name))∧Sc p (fun s=>s∈f.params.map (·.name)) f.body∧∀i' f,i+1≤i'→p.funcs[i']?=some f→PN f∧Sc p (fun s=>s∈f.params.map (·.name)) f.body)∧
       ∃n0,∀N k kk,n0≤N→n0≤k→n0≤kk→JZ (t:Int) m (Fo N p mpl i (DA N p mpl k) f kk) x f3.why f3.at_=some r:=by
      intro f3 hf3
      obtain ⟨r,hr,n0,hn0⟩:=ihq (t+1) om f3 _ hm'
      refine ⟨r,?_,n0,fun N k kk h1 h2 h3=>?_⟩
      ·rw [hr,hf3]
       constructor
       ·rintro ⟨⟨h1,h2⟩,h3,h4⟩
        refine ⟨h1,fun i' y hi' hy=>?_,h4⟩
        rcases Nat.eq_or_lt_of_le hi' with rfl|hlt
        ·rw [hx] at hy;cases hy;exact h2
        ·exact h3 i' y hlt hy
       ·rintro ⟨h1,h2,h3⟩
        exact ⟨⟨h1,h2 t x (Nat.le_refl _) hx⟩,fun i' y hi' hy=>h2 i' y om hy,h3⟩
      ·unfold JZ
       have:=hm x.name
       rw [wr (x:=(t:Int)+1) om om,wr (x:=Cm m x.name+1) om om,show (t:Int)+1=((t+1:Nat):Int) by omega]
       exact hn0 N k kk h1 h2 h3
     have hcnt:=List.count_pos_iff (a:=x.name) (l:=(f.params.take t).map (·.name))
     cases hpos:decide (Cm m x.name>0)
     ·have hpos':=Db hpos
      obtain ⟨r,hr,n0,hn0⟩:=next f2 ⟨fun h=>⟨h,fun h'=>by have:=hcnt.2 h';rw [hm] at hpos';omega⟩,fun h=>h.1⟩
      refine ⟨r,hr,n0+1,fun N k kk h1 h2 h3=>?_⟩
      obtain ⟨kk,rfl⟩: ∃j,kk=j+1:=⟨kk - 1,om⟩
      show Fw N p mpl i (DA N p mpl k) f (Fo N p mpl i (DA N p mpl k) f kk) t f2.why f2.at_ m=_
      unfold Fw
      rw [show decide ((t:Int)< (f.params.length:Int))=true from decide_eq_true om,cond_true,Br hx,Option.bind_some,hpos,cond_false]
      exact hn0 N k kk om om om
     ·have hpos':=CI hpos
      obtain ⟨f3,e3,h3⟩:=QV (y:=30) (a:=x.at_) (flt:=⟨f2.why,f2.at_⟩) (by decide)
      obtain ⟨r,hr,n0,hn0⟩:=next f3 ⟨fun h=>absurd h h3,fun h=>absurd (hcnt.1 (by rw [hm] at hpos';omega)) h.2⟩
      refine ⟨r,hr,n0+1,fun N k kk h1 h2 h3=>?_⟩
      obtain ⟨kk,rfl⟩: ∃j,kk=j+1:=⟨kk - 1,om⟩
      show Fw N p mpl i (DA N p mpl k) f (Fo N p mpl i (DA N p mpl k) f kk) t f2.why f2.at_ m=_
      unfold Fw
      rw [show decide ((t:Int)< (f.params.length:Int))=true from decide_eq_true om,cond_true,Br hx,Option.bind_some,hpos,cond_true,e3,Option.bind_some]
      exact hn0 N k kk om om om
   obtain ⟨r,hr,n0,hn0⟩:=pars f.params.length 0 om f0 [] fun s=>by simp [Tt]
   refine ⟨r,hr.trans ?_,n0,fun N k h1 h2=>hn0 N k N h1 h2 h1⟩
   constructor
   ·rintro ⟨h1,h2,h3,h4⟩
    refine ⟨h1,fun i' g hi' hg=>?_⟩
    rcases Nat.eq_or_lt_of_le hi' with rfl|hlt
    ·rw [hf] at hg;cases hg;exact ⟨fun i x hx=>h2 i x (Nat.zero_le _) hx,h3⟩
    ·exact h4 i' g hlt hg
   ·rintro ⟨h1,h2⟩
    have:=h2 i f (Nat.le_refl _) hf
    exact ⟨h1,fun i' x _ hx=>this.1 i' x hx,this.2,fun i' g hi' hg=>h2 i' g om hg⟩
 have places: ∀(j i:Nat),i+j=p.funcs.length→∀(f0:AF) (m:An),(∀nm,(nm∉(p.funcs.take i).map (·.name)∧Cm m nm=0)∨∃(k:Nat) (f:AE),k<i∧p.funcs[k]?=some f∧hd p nm=some f∧Cm m nm=(k:Int)+1)→
   EL (fun N k=>Hg N p k (i:Int) f0.why f0.at_ m) fun r=>r.why=0↔f0.why=0∧(∀i' f,i≤i'→p.funcs[i']?=some f→f.name∉(p.funcs.take i').map (·.name))∧∀f∈p.funcs,PN f∧Sc p (fun s=>s∈f.params.map (·.name)) f.body:=by
  intro j
  induction j with
  |zero=>
   intro i hi f0 m hm
   have htk:p.funcs.take i=p.funcs:=List.take_of_length_le om
   refine EL.down ?_
   show EL (fun N k=>H0 N p (Hg N p k) i f0.why f0.at_ m) _
   unfold H0
   refine EL.cond (fun h=>by have:=CI h;omega) fun _=>?_
   have hpl:Pl p m:=fun nm=>by
    rcases hm nm with ⟨h1,h2⟩| ⟨k,f,h1,h2,h3,h4⟩
    ·rw [htk] at h1;exact .inl ⟨VY h1,h2⟩
    ·exact .inr ⟨k,f,h2,h3,h4⟩
   refine EL.of ((bodies m hpl p.funcs.length 0 om f0).diag.mono fun r hr=>?_)
   rw [hr]
   constructor
   ·rintro ⟨h1,h2⟩
    refine ⟨h1,fun i' f hi' hf=>by have:=(List.getElem?_eq_some_iff.1 hf).1;omega,fun f hf=>?_⟩
    obtain ⟨i',hi'⟩:=List.mem_iff_getElem?.1 hf
    exact h2 i' f (Nat.zero_le _) hi'
   ·rintro ⟨h1,_,h2⟩
    exact ⟨h1,fun i' f _ hf=>h2 f (List.mem_of_getElem? hf)⟩
  |succ j ihj=>
   intro i hi f0 m hm
   obtain ⟨f,hf⟩: ∃f,p.funcs[i]?=some f:=⟨_,List.getElem?_eq_getElem om⟩
   have htk:(p.funcs.take (i+1)).map (·.name)=(p.funcs.take i).map (·.name)++[f.name]:=by rw [List.take_add_one,hf];simp
   refine EL.down ?_
   show EL (fun N k=>H0 N p (Hg N p k) i f0.why f0.at_ m) _
   unfold H0
   refine EL.cond (fun _=>?_) fun h=>by have:=Db h;omega
   refine EL.eq (Br hf) ?_
   have e1:IntKind.i64.wrap ((i:Int)+1)=((i+1:Nat):Int):=by rw [wr om om];omega
   refine EL.cond (fun h=>?_) fun h=>?_
   ·have h:=CI h
    refine EL.tb (QV (by decide)) fun f3 h3=>?_
    unfold JY
    rw [e1]
    have hin:f.name∈(p.funcs.take i).map (·.name):=by
     rcases hm f.name with ⟨_,h2⟩| ⟨k,g,h1,h2,h3,h4⟩
     ·omega
     ·have hgn:g.name=f.name:=by unfold hd at h3;have:=List.find?_some h3;simpa using this
      rw [←hgn]
      refine List.mem_map.2 ⟨g,?_,rfl⟩
      rw [List.mem_take_iff_getElem]
      obtain ⟨hkl,hke⟩:=List.getElem?_eq_some_iff.1 h2
      exact ⟨k,om,hke⟩
    refine (ihj (i+1) om f3 m fun nm=>?_).mono fun r hr=>?_
    ·rcases hm nm with ⟨h1,h2⟩| ⟨k,g,h1,h2,h3,h4⟩
     ·refine .inl ⟨fun h'=>?_,h2⟩
      rw [htk] at h'
      rcases List.mem_append.1 h' with h'|h'
      ·exact h1 h'
      ·simp at h';subst h';exact h1 hin
     ·exact .inr ⟨k,g,om,h2,h3,h4⟩
    ·rw [hr]
     exact ⟨fun h=>absurd h.1 h3,fun h=>absurd hin (h.2.1 i f (Nat.le_refl _) hf)⟩
   ·have h:=Db h
    unfold JY
    rw [e1]
    have hout:f.name∉(p.funcs.take i).map (·.name):=by
     rcases hm f.name with ⟨h1,_⟩| ⟨k,g,h1,h2,h3,h4⟩
     ·exact h1
     ·omega
    refine (ihj (i+1) om f0 (Lq f.name ((i+1:Nat):Int) m) fun nm=>?_).mono fun r hr=>?_
    ·rw [MZ]
     cases hn:(nm==f.name)
     ·have hne:nm≠f.name:=by simpa using hn
      rw [cond_false]
      rcases hm nm with ⟨h1,h2⟩| ⟨k,g,h1,h2,h3,h4⟩
      ·refine .inl ⟨fun h'=>?_,h2⟩
       rw [htk] at h'
       rcases List.mem_append.1 h' with h'|h'
       ·exact h1 h'
       ·simp at h';exact hne h'
      ·exact .inr ⟨k,g,om,h2,h3,h4⟩
     ·have hne:nm=f.name:=by simpa using hn
      subst hne
      rw [cond_true]
      exact .inr ⟨i,f,om,hf,QW hf rfl hout,om⟩
    ·rw [hr]
     constructor
     ·rintro ⟨h1,h2,h3⟩
      refine ⟨h1,fun i' g hi' hg=>?_,h3⟩
      rcases Nat.eq_or_lt_of_le hi' with rfl|hlt
      ·rw [hf] at hg;cases hg;exact hout
      ·exact h2 i' g hlt hg
     ·rintro ⟨h1,h2,h3⟩
      exact ⟨h1,fun i' g hi' hg=>h2 i' g om hg,h3⟩
 refine (places p.funcs.length 0 om ⟨0,0⟩ [] fun nm=> .inl ⟨by simp,Tt nm⟩).diag.mono fun r hr=>?_
 rw [hr]
 constructor
 ·rintro ⟨_,h1,h2⟩;exact ⟨fun i f hf=>h1 i f (Nat.zero_le _) hf,h2⟩
 ·rintro ⟨h1,h2⟩;exact ⟨rfl,fun i f _ hf=>h1 i f hf,h2⟩
end
end Fth
namespace Fth
open Go
theorem MM{α:Type}{b:Nat}{xs ys:List α}(hb:b≤16)(h:xs.length+ys.length≤8000000000000):T (Ft b xs ys) fun _=>True:=by
 rw [Ft,if_pos]
 ·exact .some trivial
 ·refine ⟨?_,om⟩
  have:=Nat.mul_le_mul h hb
  omega
theorem QX{p:AM}{nm:List UInt8}{N:Nat}(hl:p.funcs.length≤1000000)(hN:p.funcs.length+2≤N):
  T (Gu N p nm) fun r=>(hd p nm=none∧r= -1)∨∃(i:Nat) (f:AE),p.funcs[i]?=some f∧hd p nm=some f∧r=(i:Int)∧f.name=nm∧nm∉(p.funcs.take i).map (·.name):=by
 have loop: ∀(k i:Nat),i≤p.funcs.length→p.funcs.length<i+k→nm∉(p.funcs.take i).map (·.name)→T (Il p nm k (i:Int)) fun r=>(hd p nm=none∧r= -1)∨∃(i:Nat) (f:AE),p.funcs[i]?=some f∧hd p nm=some f∧r=(i:Int)∧f.name=nm∧nm∉(p.funcs.take i).map (·.name):=by
  intro k
  induction k with
  |zero=>intro i _ _;omega
  |succ k ih=>
   intro i hi hk hno
   show T (J5 p nm (Il p nm k) i) _
   unfold J5
   refine T.cond (fun h=>?_) fun h=>?_
   ·have h:=CI h
    obtain ⟨f,hf⟩: ∃f,p.funcs[i]?=some f:=⟨_,List.getElem?_eq_getElem om⟩
    refine T.eq (Br hf) (T.cond (fun hn=>?_) fun hn=>?_)
    ·have hn:f.name=nm:=by simpa using hn
     exact .some (.inr ⟨i,f,hf,QW hf hn hno,rfl,hn,hno⟩)
    ·have hn:f.name≠nm:=by simpa using hn
     rw [wr om om,show (i:Int)+1=((i+1:Nat):Int) by omega]
     refine ih (i+1) om om fun h'=>?_
     rw [List.take_add_one,hf] at h'
     simp only [List.map_append,List.mem_append] at h'
     rcases h' with h'|h'
     ·exact hno h'
     ·simp at h';exact hn h'.symm
   ·have h:=Db h
    rw [List.take_of_length_le om] at hno
    exact .some (.inl ⟨VY hno,rfl⟩)
 exact loop N 0 om om (by simp)
theorem VZ{l:List (List UInt8)}{s:List UInt8}{N:Nat}(hl:l.length≤2000000000)(hN:l.length+2≤N):GJ N l s=some (decide (s∈l)):=by
 have loop: ∀(k i:Nat),i≤l.length→l.length<i+k→s∉l.take i→Jx l s k (i:Int)=some (decide (s∈l)):=by
  intro k
  induction k with
  |zero=>intro i _ _;omega
  |succ k ih=>
   intro i hi hk hno
   show K0 l s (Jx l s k) i=_
   unfold K0
   cases h:decide ((i:Int)< (l.length:Int))
   ·have h:=Db h
    rw [List.take_of_length_le om] at hno
    rw [cond_false,decide_eq_false hno]
   ·have h:=CI h
    obtain ⟨x,hx⟩: ∃f,l[i]?=some f:=⟨_,List.getElem?_eq_getElem om⟩
    rw [cond_true,Br hx,Option.bind_some]
    cases hn:(x==s)
    ·have hn:x≠s:=by simpa using hn
     rw [cond_false,wr om om,show (i:Int)+1=((i+1:Nat):Int) by omega]
     refine ih (i+1) om om fun h'=>?_
     rw [List.take_add_one,hx] at h'
     rcases List.mem_append.1 h' with h'|h'
     ·exact hno h'
     ·simp at h';exact hn h'.symm
    ·have hn:x=s:=by simpa using hn
     subst hn
     rw [cond_true,decide_eq_true (List.mem_of_getElem? hx)]
 exact loop N 0 om om (by simp)
theorem XQ{a b:List (List UInt8)}(h:a.length+b.length≤2000000000):H5 a b=some (a++b):=by
 unfold H5
 obtain ⟨_,e1,_⟩:=MM (b:=16) (xs:=([]:List (List UInt8))) (ys:=a) (by decide) (by simp;omega)
 obtain ⟨_,e2,_⟩:=MM (b:=16) (xs:=([]:List (List UInt8))++a) (ys:=b) (by decide) (by simp;omega)
 rw [e1,Option.bind_some,e2,Option.bind_some,List.nil_append]
section
variable{p:AM}
def NU(p:AM)(l:List A5):Prop:=∀s∈l,s.free=false∧KI p s.e
theorem Z7: ∀(n:Nat) (e:AB),CW e≤n→∀(C:List (List UInt8)),C.length+2*n≤1000000000→n≤10000000→ET (fun N=>ref06_seen N e C) fun l=>l.length≤CW e∧(NU p l↔Sc p (fun s=>s∈C) e):=by
 intro n
 induction n with
 |zero=>intro e he;have:=LM e;omega
 |succ n ih=>
  intro e he C hC hn
  have hal:=L4 e.args
  have hes:=Mu e
  refine ET.down ?_
  show ET (fun N=>Kl (BS.at N) N e C) _
  have loop: ∀(j i:Nat),i+j=e.args.length→∀(acc:List A5),acc.length≤1+CR (e.args.take i)→
    EL (fun N k=>IT (BS.at N) e C k acc (i:Int)) fun l=>l.length≤1+CR e.args - (1+CR (e.args.take i) - acc.length)∧(NU p l↔NU p acc∧∀i' a,i≤i'→e.args[i']?=some a→Sc p (fun s=>s∈bnd e i'∨s∈C) a):=by
   intro j
   induction j with
   |zero=>
    intro i hi acc hacc
    refine EL.down ?_
    show EL (fun N k=>Im (BS.at N) e C (IT (BS.at N) e C k) acc i) _
    unfold Im
    have htk:e.args.take i=e.args:=List.take_of_length_le om
    refine EL.cond (fun h=>by have:=CI h;omega) fun _=> .some ⟨by rw [htk] at hacc ⊢;omega,fun h=>⟨h,fun i' a hi' ha=>?_⟩,fun h=>h.1⟩
    have:=(List.getElem?_eq_some_iff.1 ha).1
    omega
   |succ j ihj=>
    intro i hi acc hacc
    refine EL.down ?_
    show EL (fun N k=>Im (BS.at N) e C (IT (BS.at N) e C k) acc i) _
    unfold Im
    obtain ⟨a,ha⟩: ∃a,e.args[i]?=some a:=⟨_,List.getElem?_eq_getElem om⟩
    have has:=L3 (List.mem_of_getElem? ha)
    have hbl:=XP e i
    have htk:CR (e.args.take (i+1))=CR (e.args.take i)+CW a:=by rw [List.take_add_one,ha];simp [IU,CR]
    have htk2:CR (e.args.take (i+1))≤CR e.args:=by
     have:=IU (e.args.take (i+1)) (e.args.drop (i+1))
     rw [List.take_append_drop] at this;omega
    refine EL.cond (fun _=>?_) fun h=>by have:=Db h;omega
    refine EL.eq (Z4 e i) (EL.eq (XQ om) (EL.eq (Br ha) (EL.bind (P:=fun l=>l.length≤CW a∧(NU p l↔Sc p (fun s=>s∈bnd e i∨s∈C) a)) ?_ fun l hl=>?_)))
    ·have:=ih a om (C++bnd e i) (by rw [List.length_append];omega) om
     have eB:(fun s=>s∈C++bnd e i)=fun s=>s∈bnd e i∨s∈C:=funext fun s=>propext (List.mem_append.trans Or.comm)
     rw [eB] at this
     exact this
    ·refine EL.tb (F1 (by decide) om) fun _ _=>?_
     rw [wr om om,show (i:Int)+1=((i+1:Nat):Int) by omega]
     refine (ihj (i+1) om (acc++l) (by rw [List.length_append,htk];omega)).mono fun r hr=>⟨by have:=hr.1;rw [List.length_append,htk] at this;omega,?_⟩
     rw [hr.2]
     constructor
     ·rintro ⟨h1,h2⟩
      have a1:NU p acc:=fun s hs=>h1 s (List.mem_append_left _ hs)
      have a2:NU p l:=fun s hs=>h1 s (List.mem_append_right _ hs)
      refine ⟨a1,fun i' b hi' hb=>?_⟩
      rcases Nat.eq_or_lt_of_le hi' with rfl|hlt
      ·rw [ha] at hb;cases hb;exact hl.2.1 a2
      ·exact h2 i' b hlt hb
     ·rintro ⟨h1,h2⟩
      refine ⟨fun s hs=>?_,fun i' b hi' hb=>h2 i' b om hb⟩
      rcases List.mem_append.1 hs with hs|hs
      ·exact h1 s hs
      ·exact hl.2.2 (h2 i a (Nat.le_refl _) ha) s hs
  have j1: ∀(acc:List A5),acc.length≤1→(NU p acc↔(e.op=6→e.name∈C)∧KI p e)→ET (fun N=>JH (BS.at N) N e C acc) fun l=>l.length≤CW e∧(NU p l↔Sc p (fun s=>s∈C) e):=by
   intro acc hacc hok
   unfold JH
   refine (loop e.args.length 0 om acc om).diag.mono fun r hr=>⟨om,?_⟩
   rw [hr.2,hok,Y1]
   constructor
   ·rintro ⟨⟨h1,h2⟩,h3⟩;exact ⟨h1,h2,fun i a ha=>h3 i a (Nat.zero_le _) ha⟩
   ·rintro ⟨h1,h2,h3⟩;exact ⟨⟨h1,h2⟩,fun i a _ ha=>h3 i a ha⟩
  unfold Kl K1
  refine ET.cond (fun h=>?_) fun h=>?_
  ·have h6:=CJ h
   refine ET.cond (fun _=>ET.cond (fun _=>?_) fun h=>absurd h6 (Bn h)) fun h=>by cases h
   refine ET.bind (P:=fun b=>b=decide (e.name∈C)) (RT (C.length+2) ⟨_,rfl,fun N hN=>VZ om hN⟩) fun b hb=>?_
   subst hb
   refine ET.tb (F1 (by decide) (by simp)) fun _ _=>j1 _ (by simp) ?_
   simp only [List.nil_append,NU,List.mem_singleton,forall_eq]
   constructor
   ·rintro ⟨h1,h2⟩;exact ⟨fun _=>by simpa using h1,h2⟩
   ·rintro ⟨h1,h2⟩;exact ⟨by simpa using h1 h6,h2⟩
  ·have h6:=Bn h
   cases h7:(e.op==7)
   ·have h7:=Bn h7
    refine ET.cond (fun h=>by cases h) fun _=>j1 _ (by simp) ?_
    exact ⟨fun _=>⟨fun h=>absurd h h6,fun h=>absurd h h7⟩,fun _ s hs=>by cases hs⟩
   ·refine ET.cond (fun _=>ET.cond (fun h=>absurd (CJ h) h6) fun _=>?_) fun h=>by cases h
    refine ET.tb (F1 (by decide) (by simp)) fun _ _=>j1 _ (by simp) ?_
    simp only [List.nil_append,NU,List.mem_singleton,forall_eq]
    exact ⟨fun h=>⟨fun h'=>absurd h' h6,h.2⟩,fun h=>⟨trivial,h.2⟩⟩
def GF(l:List AF)(n:Nat):Prop:=(∀y∈l,y.why≠0)∧l.length≤n
theorem GF.snoc{l:List AF}{n:Nat}{y:AF}(h:GF l n)(hy:y.why≠0):GF (l++[y]) (n+1):=by
 refine ⟨fun z hz=>?_,by simp;exact h.2⟩
 rcases List.mem_append.1 hz with hz|hz
 ·exact h.1 z hz
 ·simp at hz;subst hz;exact hy
theorem Xs(hlen:p.funcs.length≤50000)(hb: ∀f∈p.funcs,CW f.body≤1000000∧f.params.length≤1000000):ET (fun N=>HQ N p) fun l=>GF l 200000000000∧(l=[]↔Z3 p):=by
 have seens: ∀(l:List A5),l.length≤1000000→∀(i:Nat) (S:Nat→Nat→List AF→Int→Option (List AF)) (n0:Nat),n0+2*l.length≤300000000000→i≤50000→∀(j t:Nat),t+j=l.length→∀acc,GF acc (n0+2*t)→
   ∃acc',GF acc' (n0+2*l.length)∧(acc'=[]↔acc=[]∧∀t' s,t≤t'→l[t']?=some s→s.free=false∧KI p s.e)∧∃n1,∀N k kk,n1≤N→n1≤kk→D5 N p i (S N k) l kk acc (t:Int)=S N k acc' ((i+1:Nat):Int):=by
  intro l hl i S n0 hn0 hi j
  induction j with
  |zero=>
   intro t ht acc hacc
   refine ⟨acc,by rw [show t=l.length by omega] at hacc;exact hacc,⟨fun h=>⟨h,fun t' s ht' hs=>by have:=(List.getElem?_eq_some_iff.1 hs).1;omega⟩,fun h=>h.1⟩,1,fun N k kk _ hkk=>?_⟩
   obtain ⟨kk,rfl⟩: ∃j,kk=j+1:=⟨kk - 1,om⟩
   show FQ N p i (S N k) l (D5 N p i (S N k) l kk) acc t=_
   unfold FQ
   rw [show decide ((t:Int)< (l.length:Int))=false from decide_eq_false om,cond_false,wr om om,show (i:Int)+1=((i+1:Nat):Int) by omega]
  |succ j ihj=>
   intro t ht acc hacc
   obtain ⟨s,hs⟩: ∃s,l[t]?=some s:=⟨_,List.getElem?_eq_getElem om⟩
   have iff: ∀{A:Prop},(A↔acc=[]∧(s.free=false∧KI p s.e))→((A∧∀t' s,t+1≤t'→l[t']?=some s→s.free=false∧KI p s.e)↔acc=[]∧∀t' s,t≤t'→l[t']?=some s→s.free=false∧KI p s.e):=by
    intro A hA
    rw [hA]
    constructor
    ·rintro ⟨⟨h1,h2⟩,h3⟩
     refine ⟨h1,fun t' s' ht' hs'=>?_⟩
     rcases Nat.eq_or_lt_of_le ht' with rfl|hlt
     ·rw [hs] at hs';cases hs';exact h2
     ·exact h3 t' s' hlt hs'
    ·rintro ⟨h1,h2⟩
     exact ⟨⟨h1,h2 t s (Nat.le_refl _) hs⟩,fun t' s' ht' hs'=>h2 t' s' om hs'⟩
   have e1:IntKind.i64.wrap ((t:Int)+1)=((t+1:Nat):Int):=by rw [wr om om];omega
   have call: ∀(a1:List AF),GF a1 (n0+2*t+1)→(a1=[]↔acc=[]∧s.free=false)→∃acc',GF acc' (n0+2*l.length)∧(acc'=[]↔acc=[]∧∀t' s,t≤t'→l[t']?=some s→s.free=false∧KI p s.e)∧∃n1,∀N k kk,n1≤N→n1≤kk→Fy N p t (D5 N p i (S N k) l kk) s a1=S N k acc' ((i+1:Nat):Int):=by
    intro a1 ha1 hf
    have go: ∀a2,GF a2 (n0+2*(t+1))→(a2=[]↔acc=[]∧(s.free=false∧KI p s.e))→∃acc',GF acc' (n0+2*l.length)∧(acc'=[]↔acc=[]∧∀t' s,t≤t'→l[t']?=some s→s.free=false∧KI p s.e)∧∃n1,∀N k kk,n1≤N→n1≤kk→Fx t (D5 N p i (S N k) l kk) a2=S N k acc' ((i+1:Nat):Int):=by
     intro a2 h2 h3
     obtain ⟨acc',q1,q2,n1,q3⟩:=ihj (t+1) om a2 h2
     refine ⟨acc',q1,q2.trans (iff h3),n1,fun N k kk hN hkk=>?_⟩
     unfold Fx
     rw [e1]
     exact q3 N k kk hN hkk
    have up:GF a1 (n0+2*(t+1)):=⟨ha1.1,by have:=ha1.2;omega⟩
    cases h7:(s.e.op != 7)
    ·have h7':=Jr h7
     have hcall: ∀N,p.funcs.length+2≤N→T (Gu N p s.e.name) fun r=>(hd p s.e.name=none∧r= -1)∨∃(i:Nat) (f:AE),p.funcs[i]?=some f∧hd p s.e.name=some f∧r=(i:Int)∧f.name=s.e.name∧s.e.name∉(p.funcs.take i).map (·.name):=fun N hN=>QX om hN
     have bad: ∀y:Int,y≠0→¬KI p s.e→∃acc',GF acc' (n0+2*l.length)∧(acc'=[]↔acc=[]∧∀t' s,t≤t'→l[t']?=some s→s.free=false∧KI p s.e)∧∃n1,∀N k kk,n1≤N→n1≤kk→((Ft 16 a1 [AF.mk y s.e.at_]).bind fun _=>Fx t (D5 N p i (S N k) l kk) (a1++[AF.mk y s.e.at_]))=S N k acc' ((i+1:Nat):Int):=by
      intro y hy hno
      obtain ⟨acc',q1,q2,n1,q3⟩:=go (a1++[AF.mk y s.e.at_]) ⟨(ha1.snoc hy).1,by have:=(ha1.snoc (y:=AF.mk y s.e.at_) hy).2;omega⟩ ⟨fun h=>by simp at h,fun h=>absurd h.2.2 hno⟩
      refine ⟨acc',q1,q2,n1,fun N k kk hN hkk=>?_⟩
      obtain ⟨_,e,_⟩:=MM (b:=16) (xs:=a1) (ys:=[AF.mk y s.e.at_]) (by decide) (by have:=ha1.2;simp;omega)
      rw [e,Option.bind_some]
      exact q3 N k kk hN hkk
     cases hh:hd p s.e.name with
     |none=>
      obtain ⟨acc',q1,q2,n1,q3⟩:=bad 32 (by decide) fun h=>by obtain ⟨f,hf',_⟩:=h h7';rw [hh] at hf';cases hf'
      refine ⟨acc',q1,q2,n1+p.funcs.length+2,fun N k kk hN hkk=>?_⟩
      unfold Fy
      obtain ⟨r,hr,hr'⟩:=hcall N om
      rcases hr' with ⟨_,h0⟩| ⟨_,f,_,h0,_⟩
      ·subst h0
       rw [h7,cond_false,hr,Option.bind_some,show decide ((-1:Int)<0)=true from rfl,cond_true]
       exact q3 N k kk om om
      ·rw [hh] at h0;cases h0
     |some f=>
      rcases Decidable.em (f.params.length=s.e.args.length) with hfl|hfl
      ·obtain ⟨acc',q1,q2,n1,q3⟩:=go a1 up (by rw [hf];exact ⟨fun h=>⟨h.1,h.2,fun _=>⟨f,hh,hfl⟩⟩,fun h=>⟨h.1,h.2.1⟩⟩)
       refine ⟨acc',q1,q2,n1+p.funcs.length+2,fun N k kk hN hkk=>?_⟩
       unfold Fy
       obtain ⟨r,hr,hr'⟩:=hcall N om
       rcases hr' with ⟨h0,_⟩| ⟨i2,f2,h1,h0,h3,_⟩
       ·rw [hh] at h0;cases h0
       ·rw [hh] at h0;cases h0
        subst h3
        rw [h7,cond_false,hr,Option.bind_some,show decide ((i2:Int)<0)=false from decide_eq_false om,cond_false,Br h1,Option.bind_some,show ((f.params.length:Int) != (s.e.args.length:Int))=false by simp;omega,cond_false]
        exact q3 N k kk om om
      ·obtain ⟨acc',q1,q2,n1,q3⟩:=bad 33 (by decide) fun h=>by obtain ⟨g,hg,hl⟩:=h h7';rw [hh] at hg;cases hg;exact hfl hl
       refine ⟨acc',q1,q2,n1+p.funcs.length+2,fun N k kk hN hkk=>?_⟩
       unfold Fy
       obtain ⟨r,hr,hr'⟩:=hcall N om
       rcases hr' with ⟨h0,_⟩| ⟨i2,f2,h1,h0,h3,_⟩
       ·rw [hh] at h0;cases h0
       ·rw [hh] at h0;cases h0
        subst h3
        rw [h7,cond_false,hr,Option.bind_some,show decide ((i2:Int)<0)=false from decide_eq_false om,cond_false,Br h1,Option.bind_some,show ((f.params.length:Int) != (s.e.args.length:Int))=true by simp;omega,cond_true]
        exact q3 N k kk om om
    ·have h7':=Lo h7
     obtain ⟨acc',q1,q2,n1,q3⟩:=go a1 up (by rw [hf];exact ⟨fun h=>⟨h.1,h.2,fun h=>absurd h h7'⟩,fun h=>⟨h.1,h.2.1⟩⟩)
     refine ⟨acc',q1,q2,n1,fun N k kk hN hkk=>?_⟩
     unfold Fy
     rw [h7,cond_true]
     exact q3 N k kk hN hkk
   cases hfr:s.free
   ·obtain ⟨acc',q1,q2,n1,q3⟩:=call acc ⟨hacc.1,by have:=hacc.2;omega⟩ ⟨fun h=>⟨h,hfr⟩,fun h=>h.1⟩
    refine ⟨acc',q1,q2,n1+1,fun N k kk hN hkk=>?_⟩
    obtain ⟨kk,rfl⟩: ∃j,kk=j+1:=⟨kk - 1,om⟩
    show FQ N p i (S N k) l (D5 N p i (S N k) l kk) acc t=_
    unfold FQ
    rw [show decide ((t:Int)< (l.length:Int))=true from decide_eq_true om,cond_true,Br hs,Option.bind_some,hfr,cond_false]
    exact q3 N k kk om om
   ·obtain ⟨acc',q1,q2,n1,q3⟩:=call (acc++[AF.mk 31 s.e.at_]) (hacc.snoc (y:=AF.mk 31 s.e.at_) (show (31:Int)≠0 by decide)) ⟨fun h=>by simp at h,fun h=>by rw [hfr] at h;cases h.2⟩
    refine ⟨acc',q1,q2,n1+1,fun N k kk hN hkk=>?_⟩
    obtain ⟨kk,rfl⟩: ∃j,kk=j+1:=⟨kk - 1,om⟩
    show FQ N p i (S N k) l (D5 N p i (S N k) l kk) acc t=_
    unfold FQ
    obtain ⟨_,e,_⟩:=MM (b:=16) (xs:=acc) (ys:=[AF.mk 31 s.e.at_]) (by decide) (by have:=hacc.2;simp;omega)
    rw [show decide ((t:Int)< (l.length:Int))=true from decide_eq_true om,cond_true,Br hs,Option.bind_some,hfr,cond_true,e,Option.bind_some]
    exact q3 N k kk om om
 have pars: ∀(i:Nat) (f:AE),p.funcs[i]?=some f→∀(S:Nat→Nat→List AF→Int→Option (List AF)) (n0:Nat),n0+3000000≤300000000000→∀(j t:Nat),t+j=f.params.length→∀acc,GF acc (n0+t)→
   ∃acc',GF acc' (n0+3000000)∧(acc'=[]↔acc=[]∧(∀t' x,t≤t'→f.params[t']?=some x→x.name∉(f.params.take t').map (·.name))∧Sc p (fun s=>s∈f.params.map (·.name)) f.body)∧∃n1,∀N k kk,n1≤N→n1≤kk→ER N p i (S N k) f kk acc ((f.params.take t).map (·.name)) (t:Int)=S N k acc' ((i+1:Nat):Int):=by
  intro i f hf S n0 hn0 j
  have hfb:=hb f (List.mem_of_getElem? hf)
  have hil:=(List.getElem?_eq_some_iff.1 hf).1
  induction j with
  |zero=>
   intro t ht acc hacc
   have htk:f.params.take t=f.params:=List.take_of_length_le om
   obtain ⟨l,hl,n2,hn2⟩:=Z7 (p:=p) (CW f.body) f.body (Nat.le_refl _) (f.params.map (·.name)) (by rw [List.length_map];omega) om
   obtain ⟨acc',q1,q2,n1,q3⟩:=seens l om i S (n0+t) om om l.length 0 om acc (by simpa using hacc)
   refine ⟨acc',⟨q1.1,by have:=q1.2;omega⟩,?_,n1+n2+1,fun N k kk hN hkk=>?_⟩
   ·rw [q2,←hl.2]
    constructor
    ·rintro ⟨h1,h2⟩
     refine ⟨h1,fun t' x ht' hx=>by have:=(List.getElem?_eq_some_iff.1 hx).1;omega,fun s hs=>?_⟩
     obtain ⟨t',ht'⟩:=List.mem_iff_getElem?.1 hs
     exact h2 t' s (Nat.zero_le _) ht'
    ·rintro ⟨h1,_,h2⟩
     exact ⟨h1,fun t' s _ hs=>h2 s (List.mem_of_getElem? hs)⟩
   ·obtain ⟨kk,rfl⟩: ∃j,kk=j+1:=⟨kk - 1,om⟩
    show FR N p i (S N k) f (ER N p i (S N k) f kk) acc ((f.params.take t).map (·.name)) t=_
    unfold FR
    have es:ref06_seen N f.body (f.params.map (·.name))=some l:=hn2 N om
    rw [show decide ((t:Int)< (f.params.length:Int))=false from decide_eq_false om,cond_false,O9,htk,es,Option.bind_some]
    exact q3 N k N om om
  |succ j ihj=>
   intro t ht acc hacc
   obtain ⟨x,hx⟩: ∃x,f.params[t]?=some x:=⟨_,List.getElem?_eq_getElem om⟩
   have htk:(f.params.take (t+1)).map (·.name)=(f.params.take t).map (·.name)++[x.name]:=by rw [List.take_add_one,hx];simp
   have hln:((f.params.take t).map (·.name)).length=t:=by simp;omega
   have go: ∀a2,GF a2 (n0+(t+1))→(a2=[]↔acc=[]∧x.name∉(f.params.take t).map (·.name))→∃acc',GF acc' (n0+3000000)∧(acc'=[]↔acc=[]∧(∀t' x,t≤t'→f.params[t']?=some x→x.name∉(f.params.take t').map (·.name))∧Sc p (fun s=>s∈f.params.map (·.name)) f.body)∧
     ∃n1,∀N k kk,n1≤N→n1≤kk→Iu f ((f.params.take t).map (·.name)) t (ER N p i (S N k) f kk) a2=S N k acc' ((i+1:Nat):Int):=by
    intro a2 h2 h3
    obtain ⟨acc',q1,q2,n1,q3⟩:=ihj (t+1) om a2 h2
    refine ⟨acc',q1,q2.trans ?_,n1,fun N k kk hN hkk=>?_⟩
    ·rw [h3]
     constructor
     ·rintro ⟨⟨h1,h2⟩,h3,h4⟩
      refine ⟨h1,fun t' y ht' hy=>?_,h4⟩
      rcases Nat.eq_or_lt_of_le ht' with rfl|hlt
      ·rw [hx] at hy;cases hy;exact h2
      ·exact h3 t' y hlt hy
     ·rintro ⟨h1,h2,h3⟩
      exact ⟨⟨h1,h2 t x (Nat.le_refl _) hx⟩,fun t' y ht' hy=>h2 t' y om hy,h3⟩
    ·unfold Iu
     obtain ⟨_,e,_⟩:=MM (b:=16) (xs:=(f.params.take t).map (·.name)) (ys:=[x.name]) (by decide) (by rw [hln];simp;omega)
     rw [Br hx,Option.bind_some,e,Option.bind_some,wr om om,show (t:Int)+1=((t+1:Nat):Int) by omega,←htk]
     exact q3 N k kk hN hkk
   have hhas: ∀N,t+2≤N→GJ N ((f.params.take t).map (·.name)) x.name=some (decide (x.name∈(f.params.take t).map (·.name))):=fun N hN=>VZ (by rw [hln];omega) (by rw [hln];omega)
   rcases Decidable.em (x.name∈(f.params.take t).map (·.name)) with hin|hin
   ·obtain ⟨acc',q1,q2,n1,q3⟩:=go (acc++[AF.mk 30 x.at_]) ⟨(hacc.snoc (y:=AF.mk 30 x.at_) (show (30:Int)≠0 by decide)).1,by have:=hacc.2;simp;omega⟩ ⟨fun h=>by simp at h,fun h=>absurd hin h.2⟩
    refine ⟨acc',q1,q2,n1+t+2,fun N k kk hN hkk=>?_⟩
    obtain ⟨kk,rfl⟩: ∃j,kk=j+1:=⟨kk - 1,om⟩
    show FR N p i (S N k) f (ER N p i (S N k) f kk) acc ((f.params.take t).map (·.name)) t=_
    unfold FR
    obtain ⟨_,e,_⟩:=MM (b:=16) (xs:=acc) (ys:=[AF.mk 30 x.at_]) (by decide) (by have:=hacc.2;simp;omega)
    rw [show decide ((t:Int)< (f.params.length:Int))=true from decide_eq_true om,cond_true,Br hx,Option.bind_some,hhas N om,Option.bind_some,decide_eq_true hin,cond_true,e,Option.bind_some]
    exact q3 N k kk om om
   ·obtain ⟨acc',q1,q2,n1,q3⟩:=go acc ⟨hacc.1,by have:=hacc.2;omega⟩ ⟨fun h=>⟨h,hin⟩,fun h=>h.1⟩
    refine ⟨acc',q1,q2,n1+t+2,fun N k kk hN hkk=>?_⟩
    obtain ⟨kk,rfl⟩: ∃j,kk=j+1:=⟨kk - 1,om⟩
    show FR N p i (S N k) f (ER N p i (S N k) f kk) acc ((f.params.take t).map (·.name)) t=_
    unfold FR
    rw [show decide ((t:Int)< (f.params.length:Int))=true from decide_eq_true om,cond_true,Br hx,Option.bind_some,hhas N om,Option.bind_some,decide_eq_false hin,cond_false]
    exact q3 N k kk om om
 have fns: ∀(j i:Nat),i+j=p.funcs.length→∀acc,GF acc (i*3000001)→EL (fun N k=>ES N p k acc (i:Int)) fun r=>GF r 200000000000∧(r=[]↔acc=[]∧∀i' f,i≤i'→p.funcs[i']?=some f→f.name∉(p.funcs.take i').map (·.name)∧PN f∧Sc p (fun s=>s∈f.params.map (·.name)) f.body):=by
  intro j
  induction j with
  |zero=>
   intro i hi acc hacc
   refine EL.down ?_
   show EL (fun N k=>HE N p (ES N p k) acc i) _
   unfold HE
   refine EL.cond (fun h=>by have:=CI h;omega) fun _=> .some ⟨⟨hacc.1,by have:=hacc.2;omega⟩,fun h=>⟨h,fun i' f hi' hf=>by have:=(List.getElem?_eq_some_iff.1 hf).1;omega⟩,fun h=>h.1⟩
  |succ j ihj=>
   intro i hi acc hacc
   obtain ⟨f,hf⟩: ∃f,p.funcs[i]?=some f:=⟨_,List.getElem?_eq_getElem om⟩
   have step: ∀a2,GF a2 (i*3000001+1)→(a2=[]↔acc=[]∧f.name∉(p.funcs.take i).map (·.name))→EL (fun N k=>Iv N p i (ES N p k) f a2) fun r=>GF r 200000000000∧(r=[]↔acc=[]∧∀i' f,i≤i'→p.funcs[i']?=some f→f.name∉(p.funcs.take i').map (·.name)∧PN f∧Sc p (fun s=>s∈f.params.map (·.name)) f.body):=by
    intro a2 h2 h3
    obtain ⟨n0,hn0⟩: ∃n,n=i*3000001+1:=⟨_,rfl⟩
    rw [←hn0] at h2
    obtain ⟨acc',q1,q2,n1,q3⟩:=pars i f hf (fun N k=>ES N p k) n0 om f.params.length 0 om a2 h2
    obtain ⟨r,hr,n2,hn2⟩:=ihj (i+1) om acc' ⟨q1.1,by have:=q1.2;omega⟩
    refine ⟨r,⟨hr.1,hr.2.trans ?_⟩,n1+n2,fun N k hN hk=>?_⟩
    ·rw [q2,h3]
     constructor
     ·rintro ⟨⟨⟨h1,h2⟩,h3,h4⟩,h5⟩
      refine ⟨h1,fun i' g hi' hg=>?_⟩
      rcases Nat.eq_or_lt_of_le hi' with rfl|hlt
      ·rw [hf] at hg;cases hg;exact ⟨h2,fun t x hx=>h3 t x (Nat.zero_le _) hx,h4⟩
      ·exact h5 i' g hlt hg
     ·rintro ⟨h1,h2⟩
      have:=h2 i f (Nat.le_refl _) hf
      exact ⟨⟨⟨h1,this.1⟩,fun t x _ hx=>this.2.1 t x hx,this.2.2⟩,fun i' g hi' hg=>h2 i' g om hg⟩
    ·unfold Iv
     have:=q3 N k N om om
     simp only [List.take_zero,List.map_nil] at this
     show ER N p i (ES N p k) f N a2 [] 0=some r
     refine Eq.trans this ?_
     exact hn2 N k om om
   refine EL.down ?_
   show EL (fun N k=>HE N p (ES N p k) acc i) _
   unfold HE
   refine EL.cond (fun _=>?_) fun h=>by have:=Db h;omega
   refine EL.eq (Br hf) (EL.bind (P:=fun r=>r=(i:Int)∧f.name∉(p.funcs.take i).map (·.name)∨r< (i:Int)∧f.name∈(p.funcs.take i).map (·.name)) ?_ fun r hr=>?_)
   ·rcases Decidable.em (f.name∈(p.funcs.take i).map (·.name)) with hin|hin
    ·obtain ⟨r,hr,hr'⟩:=QX (p:=p) (nm:=f.name) (N:=p.funcs.length+2) om (Nat.le_refl _)
     obtain ⟨g,hg,hgn⟩:=List.mem_map.1 hin
     rw [List.mem_take_iff_getElem] at hg
     obtain ⟨q,hq,hqe⟩:=hg
     refine RT (p.funcs.length+2) ⟨r,?_,fun N hN=>?_⟩
     ·rcases hr' with ⟨h1,_⟩| ⟨i2,f2,h1,h2,h3,h4,h5⟩
      ·unfold hd at h1
       rw [List.find?_eq_none] at h1
       exact absurd (by simp) (h1 f (List.mem_of_getElem? hf))
      ·refine .inr ⟨?_,hin⟩
       rw [h3]
       rcases Nat.lt_or_ge i2 i with h|h
       ·omega
       ·refine absurd (List.mem_map.2 ⟨g,?_,hgn⟩) h5
        rw [List.mem_take_iff_getElem]
        have:=(List.getElem?_eq_some_iff.1 h1).1
        exact ⟨q,om,hqe⟩
     ·obtain ⟨r2,hr2,hr2'⟩:=QX (p:=p) (nm:=f.name) (N:=N) om hN
      rw [hr2];congr 1
      rcases hr' with ⟨h1,h2⟩| ⟨i2,f2,h1,h2,h3,h4,h5⟩
      ·rcases hr2' with ⟨_,h3⟩| ⟨_,_,_,h3,_⟩
       ·rw [h2,h3]
       ·rw [h1] at h3;cases h3
      ·rcases hr2' with ⟨k1,_⟩| ⟨i3,f3,k1,k2,k3,k4,k5⟩
       ·rw [h2] at k1;cases k1
       ·rw [h3,k3]
        rcases Nat.lt_trichotomy i2 i3 with h|h|h
        ·refine absurd (List.mem_map.2 ⟨f2,?_,h4⟩) k5
         rw [List.mem_take_iff_getElem]
         obtain ⟨a1,a2⟩:=List.getElem?_eq_some_iff.1 h1
         have:=(List.getElem?_eq_some_iff.1 k1).1
         exact ⟨i2,om,a2⟩
        ·rw [h]
        ·refine absurd (List.mem_map.2 ⟨f3,?_,k4⟩) h5
         rw [List.mem_take_iff_getElem]
         obtain ⟨a1,a2⟩:=List.getElem?_eq_some_iff.1 k1
         have:=(List.getElem?_eq_some_iff.1 h1).1
         exact ⟨i3,om,a2⟩
    ·refine RT (p.funcs.length+2) ⟨(i:Int),.inl ⟨rfl,hin⟩,fun N hN=>?_⟩
     obtain ⟨r2,hr2,hr2'⟩:=QX (p:=p) (nm:=f.name) (N:=N) om hN
     rw [hr2];congr 1
     have hdi:=QW hf rfl hin
     rcases hr2' with ⟨k1,_⟩| ⟨i3,f3,k1,k2,k3,k4,k5⟩
     ·rw [hdi] at k1;cases k1
     ·rw [k3]
      rcases Nat.lt_trichotomy i3 i with h|h|h
      ·refine absurd (List.mem_map.2 ⟨f3,?_,k4⟩) hin
       rw [List.mem_take_iff_getElem]
       obtain ⟨a1,a2⟩:=List.getElem?_eq_some_iff.1 k1
       exact ⟨i3,om,a2⟩
      ·rw [h]
      ·refine absurd (List.mem_map.2 ⟨f,?_,rfl⟩) k5
       rw [List.mem_take_iff_getElem]
       obtain ⟨a1,a2⟩:=List.getElem?_eq_some_iff.1 hf
       have:=(List.getElem?_eq_some_iff.1 k1).1
       exact ⟨i,om,a2⟩
   ·rcases hr with ⟨h1,h2⟩| ⟨h1,h2⟩
    ·refine EL.cond (fun h=>by have:=CI h;omega) fun _=>step acc ⟨hacc.1,Nat.le_succ_of_le hacc.2⟩ ⟨fun h=>⟨h,h2⟩,fun h=>h.1⟩
    ·refine EL.cond (fun _=>EL.tb (MM (by decide) (by have:=hacc.2;simp;omega)) fun _ _=>step _ (hacc.snoc (y:=AF.mk 30 f.at_) (show (30:Int)≠0 by decide)) ⟨fun h=>by simp at h,fun h=>absurd h2 h.2⟩) fun h=>by have:=Db h;omega
 refine (fns p.funcs.length 0 om [] ⟨fun y h=>(by cases h),by simp⟩).diag.mono fun r hr=>⟨hr.1,hr.2.trans ?_⟩
 constructor
 ·rintro ⟨_,h⟩
  refine ⟨fun i f hf=>(h i f (Nat.zero_le _) hf).1,fun f hf=>?_⟩
  obtain ⟨i,hi⟩:=List.mem_iff_getElem?.1 hf
  exact (h i f (Nat.zero_le _) hi).2
 ·rintro ⟨h1,h2⟩
  exact ⟨rfl,fun i f _ hf=>⟨h1 i f hf,h2 f (List.mem_of_getElem? hf)⟩⟩
theorem Y6(hlen:p.funcs.length≤50000)(hb: ∀f∈p.funcs,CW f.body≤1000000∧f.params.length≤1000000):ET (fun N=>Hm N p) fun r=>r.why=0↔Z3 p:=by
 unfold Hm
 refine ET.bind (Xs hlen hb) fun l hl=>?_
 have loop: ∀(j i:Nat),i+j=l.length→∀(y a:Int),EL (fun _N k=>Hl l k (i:Int) y a) fun r=>r.why=0↔y=0∧i=l.length:=by
  intro j
  induction j with
  |zero=>
   intro i hi y a
   refine EL.down ?_
   show EL (fun _N k=>H6 l (Hl l k) i y a) _
   unfold H6
   exact EL.cond (fun h=>by have:=CI h;omega) fun _=> .some ⟨fun h=>⟨h,om⟩,fun h=>h.1⟩
  |succ j ihj=>
   intro i hi y a
   obtain ⟨x,hx⟩: ∃x,l[i]?=some x:=⟨_,List.getElem?_eq_getElem om⟩
   have hy:=hl.1.1 x (List.mem_of_getElem? hx)
   have hll:=hl.1.2
   refine EL.down ?_
   show EL (fun _N k=>H6 l (Hl l k) i y a) _
   unfold H6 KV KU
   rw [wr om om,show (i:Int)+1=((i+1:Nat):Int) by omega]
   have no: ∀{y':Int},y'≠0→∀{r:AF},(r.why=0↔y'=0∧i+1=l.length)→(r.why=0↔y=0∧i=l.length):=fun hy' _ hr=>hr.trans ⟨fun h=>absurd h.1 hy',fun h=>om⟩
   refine EL.cond (fun _=>EL.cond (fun _=>EL.cond (fun _=>EL.eq (Br hx) ((ihj (i+1) om x.why x.at_).mono fun r hr=>no hy hr)) fun h=>by cases h) fun h=>EL.eq (Br hx) (EL.cond (fun _=>EL.eq (Br hx) ((ihj (i+1) om x.why x.at_).mono fun r hr=>no hy hr)) fun _=>(ihj (i+1) om y a).mono fun r hr=>no (Bn h) hr)) fun h=>by have:=Db h;omega
 refine (loop l.length 0 om 0 0).diag.mono fun r hr=>hr.trans ?_
 rw [←hl.2]
 constructor
 ·rintro ⟨_,h⟩;exact List.length_eq_zero_iff.1 h.symm
 ·intro h;subst h;exact ⟨rfl,rfl⟩
end
end Fth
namespace Fth
open Go
def TyE(Γ:List AK):Prop:=∀x∈Γ,1≤x.type_∧x.type_≤3
theorem Vb{Γ:List AK}{e:AB}(hΓ:TyE Γ)(he:WE e)(i:Nat):TyE (Win Γ e i)∧(Win Γ e i).length≤Γ.length+2:=by
 unfold Win
 split
 ·rename_i h
  refine ⟨fun x hx=>?_,by simp⟩
  rcases List.mem_cons.1 hx with rfl|hx
  ·exact he.typ om
  ·exact hΓ x hx
 ·split
  ·refine ⟨fun x hx=>?_,by simp⟩
   rcases List.mem_cons.1 hx with rfl|hx
   ·exact ⟨by simp,by simp⟩
   ·rcases List.mem_cons.1 hx with rfl|hx
    ·exact ⟨by simp,by simp⟩
    ·exact hΓ x hx
  ·exact ⟨hΓ,om⟩
theorem ABB{p:AM}(hp:WP p){e:AB}(he:WE e){t:Int}(ht:1≤t∧t≤3)(i:Nat):1≤Wan p e i t∧Wan p e i t≤3:=by
 unfold Wan
 split
 ·omega
 ·split
  ·omega
  ·split
   ·cases hh:hd p e.name with
    |none=>simp
    |some f=>
     have hf:=hp.fns f (List.mem_of_find?_eq_some hh)
     cases hx:f.params[i]? with
     |none=>simp [hx]
     |some x=>simpa [hx] using hf.ptyp x (List.mem_of_getElem? hx)
   ·split
    ·split<;>omega
    ·split
     ·split<;>omega
     ·split
      ·rename_i h
       have:=he.typ om
       split<;>omega
      ·omega
theorem Y7{α:Type}(a b:List α)(x:α):((a++x::b).reverse)[b.length]?=some x:=by
 rw [List.reverse_append,List.reverse_cons,List.append_assoc,List.getElem?_append_right (by simp)]
 simp
section
variable{p:AM}(hp:WP p)
theorem Z8{Γ:List AK}{e:AB}(hl:Γ.length≤1000000000): ∀(Γ2 Γ1:List AK),Γ=Γ1++Γ2→∀k,Γ2.length<k→Jy Γ.reverse e k ((Γ2.length:Int) - 1)=some ((RF Γ2 e.name).getD (-1)):=by
 intro Γ2
 induction Γ2 with
 |nil=>
  intro Γ1 h k hk
  obtain ⟨k,rfl⟩: ∃j,k=j+1:=⟨k - 1,by simp at hk;omega⟩
  rfl
 |cons x Γ2 ih=>
  intro Γ1 h k hk
  obtain ⟨k,rfl⟩: ∃j,k=j+1:=⟨k - 1,by simp at hk;omega⟩
  show K5 Γ.reverse e (Jy Γ.reverse e k) (((x::Γ2).length:Int) - 1)=_
  unfold K5
  have hlen:Γ2.length<1000000000:=by rw [h] at hl;simp at hl;omega
  have e1:(((x::Γ2).length:Nat):Int) - 1=(Γ2.length:Int):=by simp
  have hat:Γ.reverse[Γ2.length]?=some x:=by rw [h];exact Y7 _ _ _
  rw [e1,show decide ((Γ2.length:Int)≥0)=true from decide_eq_true om,cond_true,Br hat,Option.bind_some,wr om om]
  unfold RF
  rw [List.find?_cons]
  cases hn:(x.name==e.name)
  ·rw [cond_false]
   exact ih (Γ1++[x]) (by rw [h];simp) k (by simp at hk;omega)
  ·rfl
include hp
theorem ABX{Γ:List AK}{e:AB}{t:Int}(hΓ:TyE Γ)(hl:Γ.length≤1000000000)(he:WE e)(ht:1≤t∧t≤3):ET (fun N=>Jg N p Γ.reverse e) fun o=>(o=0∨o=t)↔OwT p Γ e t:=by
 have j1: ∀b,(b=true↔(e.op=1∨(8≤e.op∧e.op≤11)∨(15≤e.op∧e.op≤17)))→ET (fun N=>FS N p Γ.reverse e b) fun o=>(o=0∨o=t)↔OwT p Γ e t:=by
  intro b hb
  have j2: ∀b',b=false→(b'=true↔(e.op=2∨e.op=3∨(12≤e.op∧e.op≤14)))→ET (fun N=>IJ N p Γ.reverse e b') fun o=>(o=0∨o=t)↔OwT p Γ e t:=by
   intro b' hbf hb'
   have n1: ¬(e.op=1∨(8≤e.op∧e.op≤11)∨(15≤e.op∧e.op≤17)):=fun h=>by have:=hb.2 h;rw [hbf] at this;cases this
   have j3: ∀b'',b'=false→(b''=true↔(e.op=4∨e.op=18))→ET (fun N=>Km N p Γ.reverse e b'') fun o=>(o=0∨o=t)↔OwT p Γ e t:=by
    intro b'' hbf' hb''
    have n2: ¬(e.op=2∨e.op=3∨(12≤e.op∧e.op≤14)):=fun h=>by have:=hb'.2 h;rw [hbf'] at this;cases this
    unfold Km
    refine ET.cond (fun h=> .some ?_) fun h=>?_
    ·have h:=hb''.1 h
     exact ⟨fun h'=>⟨fun h=>absurd h n1,fun h=>absurd h n2,fun _=>om,fun h'=>om,fun h'=>om,fun h'=>om⟩,fun h'=> .inr (h'.l h).symm⟩
    have n3: ¬(e.op=4∨e.op=18):=fun h'=>by have:=hb''.2 h';rw [h] at this;cases this
    refine ET.cond (fun h=> .some ?_) fun h5=>ET.cond (fun h=>?_) fun h6=>ET.cond (fun h=>?_) fun h7=> .some ?_
    ·have h5:=CJ h
     have:=he.typ (.inl h5)
     exact ⟨fun h'=>⟨fun h=>absurd h n1,fun h=>absurd h n2,fun h=>absurd h n3,fun _=>om,fun h'=>om,fun h'=>om⟩,fun h'=> .inr (h'.f h5).symm⟩
    ·have h6:=CJ h
     refine RT (Γ.length+2) ⟨(RF Γ e.name).getD (-1),?_,fun N hN=>?_⟩
     ·cases hlk:RF Γ e.name with
      |none=>exact ⟨fun h'=>by simp at h';omega,fun h'=>by have:=h'.v h6;rw [hlk] at this;cases this⟩
      |some u=>
       have hu:1≤u∧u≤3:=by
        unfold RF at hlk
        obtain ⟨x,hx,rfl⟩:=Option.map_eq_some_iff.1 hlk
        exact hΓ x (List.mem_of_find?_eq_some hx)
       refine ⟨fun h'=>⟨fun h=>absurd h n1,fun h=>absurd h n2,fun h=>absurd h n3,fun h'=>om,fun _=>?_,fun h'=>om⟩,fun h'=>?_⟩
       ·simp at h';rw [hlk];congr 1;omega
       ·have:=h'.v h6;rw [hlk] at this;cases this;exact .inr rfl
     ·have:=Z8 (e:=e) hl Γ [] rfl N om
      rw [wr (by simp;omega) (by simp;omega),List.length_reverse]
      exact this
    ·have h7:=CJ h
     have hl:=hp.len
     refine ET.bind (P:=fun r=>r=hdR (hd p e.name)) (RT (p.funcs.length+2) ⟨_,rfl,fun N hN=>QS om hN⟩) fun r hr=>?_
     subst hr
     unfold Lg
     cases hh:hd p e.name with
     |none=>exact .some ⟨fun h=>om,fun h'=>by obtain ⟨f,hf,_⟩:=h'.c h7;rw [hh] at hf;cases hf⟩
     |some f=>
      have hf:=hp.fns f (List.mem_of_find?_eq_some hh)
      refine ET.cond (fun h=>by cases h) fun _=>ET.cond (fun h=> .some ?_) fun h=> .some ?_
      ·have h:=Lo h
       exact ⟨fun h=>om,fun h'=>by obtain ⟨g,hg,hgl,_⟩:=h'.c h7;rw [hh] at hg;cases hg;exact absurd (congrArg Int.ofNat hgl) h⟩
      ·have h:=Jr h
       have:=hf.typ
       refine ⟨fun h'=>⟨fun h=>absurd h n1,fun h=>absurd h n2,fun h=>absurd h n3,fun h'=>om,fun h'=>om,fun _=>⟨f,hh,?_,?_⟩⟩,fun h'=>?_⟩
       ·have:(f.params.length:Int)=e.args.length:=h;omega
       ·have h':f.type_=0∨f.type_=t:=h';omega
       ·obtain ⟨g,hg,_,hgt⟩:=h'.c h7;rw [hh] at hg;cases hg;exact .inr hgt
    ·have h5:=Bn h5;have h6:=Bn h6;have h7:=Bn h7
     exact ⟨fun _=>⟨fun h=>absurd h n1,fun h=>absurd h n2,fun h=>absurd h n3,fun h=>absurd h h5,fun h=>absurd h h6,fun h=>absurd h h7⟩,fun _=> .inl rfl⟩
   unfold IJ
   refine ET.cond (fun h=> .some ?_) fun h=>?_
   ·have h:=hb'.1 h
    exact ⟨fun h'=>⟨fun h=>absurd h n1,fun _=>om,fun h'=>om,fun h'=>om,fun h'=>om,fun h'=>om⟩,fun h'=> .inr (h'.b h).symm⟩
   ·refine ET.cond (fun h4=>j3 _ h ⟨fun _=> .inl (CJ h4),fun _=>h4⟩) fun h4=>j3 _ h ⟨fun h=> .inr (CJ h),fun h=>?_⟩
    rcases h with h|h
    ·exact absurd h (Bn h4)
    ·simp [h]
  unfold FS
  refine ET.cond (fun h=> .some ?_) fun h=>?_
  ·have h:=hb.1 h
   exact ⟨fun h'=>⟨fun _=>om,fun h'=>om,fun h'=>om,fun h'=>om,fun h'=>om,fun h'=>om⟩,fun h'=> .inr (h'.n h).symm⟩
  ·refine ET.cond (fun h2=>j2 _ h ⟨fun _=>by have:=CJ h2;omega,fun _=>h2⟩) fun h2=>ET.cond (fun h3=>j2 _ h ⟨fun _=>by have:=CJ h3;omega,fun _=>h3⟩) fun h3=>ET.cond (fun h4=>j2 _ h ⟨fun _=>by have:=CJ h4;omega,fun _=>h4⟩) fun h4=>ET.cond (fun h5=>j2 _ h ⟨fun _=>by have:=CJ h5;omega,fun _=>h5⟩) fun h5=>j2 _ h ⟨fun h6=>by have:=CJ h6;omega,fun h6=>?_⟩
   have:=Bn h2;have:=Bn h3;have:=Bn h4;have:=Bn h5
   simp;omega
 unfold Jg
 have yes: ∀{k:Int},(k=1∨(8≤k∧k≤11)∨(15≤k∧k≤17))→(e.op==k)=true→ET (fun N=>FS N p Γ.reverse e (e.op==k)) fun o=>(o=0∨o=t)↔OwT p Γ e t:=fun hk h=>j1 _ ⟨fun _=>by have:=CJ h;omega,fun _=>h⟩
 refine ET.cond (fun h=>yes om h) fun h1=>ET.cond (fun h=>yes om h) fun h2=>ET.cond (fun h=>yes om h) fun h3=>ET.cond (fun h=>yes om h) fun h4=>ET.cond (fun h=>yes om h) fun h5=>ET.cond (fun h=>yes om h) fun h6=>ET.cond (fun h=>yes om h) fun h7=>j1 _ ⟨fun h=>by have:=CJ h;omega,fun h=>?_⟩
 have:=Bn h1;have:=Bn h2;have:=Bn h3;have:=Bn h4;have:=Bn h5;have:=Bn h6;have:=Bn h7
 simp;omega
omit hp in
theorem Y8{l:List AK}{nm:List UInt8}{t:Int}(h:l.length≤1000000100):HF l nm t=some (l++[⟨nm,t,0⟩]):=by
 unfold HF
 obtain ⟨_,e1,_⟩:=F1 (b:=32) (xs:=([]:List AK)) (ys:=l) (by decide) (by simp;omega)
 obtain ⟨_,e2,_⟩:=F1 (b:=32) (xs:=([]:List AK)++l) (ys:=[AK.mk nm t 0]) (by decide) (by simp;omega)
 rw [e1,Option.bind_some,e2,Option.bind_some,List.nil_append]
omit hp in
theorem Y9{Γ:List AK}{e:AB}(hl:Γ.length≤1000000000)(i:Nat):Gc Γ.reverse e (i:Int)=some (Win Γ e i).reverse:=by
 unfold Gc Iw J6 Win
 have e1:((i:Int)==1)=decide (i=1):=by rw [Bool.eq_iff_iff];simp;omega
 have e2:((i:Int)==2)=decide (i=2):=by rw [Bool.eq_iff_iff];simp;omega
 rw [e1,e2,Y8 (by rw [List.length_reverse];omega),Y8 (by rw [List.length_reverse];omega)]
 simp only [Option.bind_some]
 rw [Y8 (by simp;omega)]
 cases h1:(e.op==21)
 ·have h1:=Bn h1
  cases h2:(e.op==22)
  ·have h2:=Bn h2
   rw [if_neg om]
   cases h3:(e.op==20)
   ·have h3:=Bn h3
    rw [if_neg om];rfl
   ·have h3:=CJ h3
    cases h4:decide (i=2)
    ·have h4:=Db h4;rw [if_neg om];rfl
    ·have h4:=CI h4;rw [if_pos ⟨h3,h4⟩];simp
  ·have h2:=CJ h2
   cases h3:decide (i=1)
   ·have h3:=Db h3
    rw [if_neg om,if_neg om,show (e.op==20)=false by simp;omega];rfl
   ·have h3:=CI h3
    rw [if_pos (.inr ⟨h2,h3⟩)];simp
 ·have h1:=CJ h1
  rw [if_pos (.inl h1)];simp
theorem ZA{e:AB}{t:Int}(i:Nat):ET (fun N=>Gd N p e (i:Int) t) fun r=>r=Wan p e i t:=by
 have hl:=hp.len
 unfold Gd J8 Iy Wan
 have e1:((i:Int)==1)=decide (i=1):=by rw [Bool.eq_iff_iff];simp;omega
 have e0:((i:Int)==0)=decide (i=0):=by rw [Bool.eq_iff_iff];simp
 rw [e1,e0]
 refine ET.cond (fun h=> .some ?_) fun h14=>ET.cond (fun h=>ET.cond (fun h'=> .some ?_) fun h'=> .some ?_) fun h18=>ET.cond (fun h=>?_) fun h7=>ET.cond (fun h=>ET.cond (fun h'=> .some ?_) fun h'=> .some ?_) fun h19=>ET.cond (fun h=>ET.cond (fun h'=> .some ?_) fun h'=> .some ?_) fun h20=>ET.cond (fun h=>ET.cond (fun h'=>ET.cond (fun h''=> .some ?_) fun h''=> .some ?_) fun h'=>absurd (h.symm.trans h') (by decide)) fun h21=>ET.cond (fun h'=>ET.cond (fun h''=> .some ?_) fun h''=> .some ?_) fun h22=> .some ?_
 ·rw [if_pos (CJ h)]
 ·have:=Bn h14;rw [if_neg om,if_pos ⟨CJ h,CI h'⟩]
 ·have:=Bn h14;have:=CJ h;have:=Db h';rw [if_neg om,if_neg om,if_neg om,if_neg om,if_neg om,if_neg om]
 ·have:=Bn h14;have:=Bn h18;have h7:=CJ h
  refine ET.bind (P:=fun r=>r=hdR (hd p e.name)) (RT (p.funcs.length+2) ⟨_,rfl,fun N hN=>QS om hN⟩) fun r hr=>?_
  subst hr
  rw [if_neg om,if_neg om,if_pos h7]
  unfold J7
  cases hh:hd p e.name with
  |none=>exact .some rfl
  |some f=>
   refine ET.cond (fun _=>ET.cond (fun h'=>?_) fun h'=>?_) fun h=>by cases h
   ·have h':=CI h'
    have h':(i:Int)< (f.params.length:Int):=h'
    obtain ⟨x,hx⟩: ∃x,f.params[i]?=some x:=⟨_,List.getElem?_eq_getElem om⟩
    refine ET.eq (Br hx) (.some ?_)
    show x.type_=(match f.params[i]? with |some x=>x.type_|none=>1)
    rw [hx]
   ·have h':=Db h'
    have h': ¬(i:Int)< (f.params.length:Int):=h'
    refine .some ?_
    show 1=(match f.params[i]? with |some x=>x.type_|none=>1)
    rw [List.getElem?_eq_none om]
 ·have:=Bn h14;have:=Bn h18;have:=Bn h7;rw [if_neg om,if_neg om,if_neg om,if_pos (CJ h),if_pos (CI h')]
 ·have:=Bn h14;have:=Bn h18;have:=Bn h7;rw [if_neg om,if_neg om,if_neg om,if_pos (CJ h),if_neg (Db h')]
 ·have:=Bn h14;have:=Bn h18;have:=Bn h7;have:=Bn h19;rw [if_neg om,if_neg om,if_neg om,if_neg om,if_pos (CJ h),if_pos (CI h')]
 ·have:=Bn h14;have:=Bn h18;have:=Bn h7;have:=Bn h19;rw [if_neg om,if_neg om,if_neg om,if_neg om,if_pos (CJ h),if_neg (Db h')]
 ·have:=CJ h;rw [if_neg om,if_neg om,if_neg om,if_neg om,if_neg om,if_pos om,if_pos (CI h'')]
 ·have:=CJ h;rw [if_neg om,if_neg om,if_neg om,if_neg om,if_neg om,if_pos om,if_neg (Db h'')]
 ·have:=CJ h';rw [if_neg om,if_neg om,if_neg om,if_neg om,if_neg om,if_pos om,if_pos (CI h'')]
 ·have:=CJ h';rw [if_neg om,if_neg om,if_neg om,if_neg om,if_neg om,if_pos om,if_neg (Db h'')]
 ·have:=Bn h14;have:=Bn h18;have:=Bn h7;have:=Bn h19;have:=Bn h20;have:=Bn h21;have:=Bn h22
  rw [if_neg om,if_neg om,if_neg om,if_neg om,if_neg om,if_neg om]
omit hp in
theorem ME{Γ:List AK}{e:AB}{t:Int}:WTy p Γ e t↔OwT p Γ e t∧∀i a,e.args[i]?=some a→WTy p (Win Γ e i) a (Wan p e i t):=
 ⟨fun h=>⟨h.own,h.sub⟩,fun h=> .mk Γ e t h.1 h.2⟩
theorem Z9: ∀(n:Nat) (e:AB),CW e≤n→n≤10000000→WE e→∀(Γ:List AK) (t:Int),TyE Γ→Γ.length+2*n≤1000000000→1≤t∧t≤3→
  ET (fun N=>ref07_wrong N p Γ.reverse e t) fun l=>l.length≤CW e∧(l=[]↔WTy p Γ e t):=by
 intro n
 induction n with
 |zero=>intro e he;have:=LM e;omega
 |succ n ih=>
  intro e hen hn he Γ t hΓ hl ht
  have hal:=L4 e.args
  have hes:=Mu e
  refine ET.down ?_
  show ET (fun N=>KE (BH.at N) N p Γ.reverse e t) _
  have loop: ∀(j i:Nat),i+j=e.args.length→∀(acc:List Int),acc.length≤1+CR (e.args.take i)→
    EL (fun N k=>Hn (BH.at N) N p Γ.reverse e t k acc (i:Int)) fun l=>l.length≤1+CR e.args∧(l=[]↔acc=[]∧∀i' a,i≤i'→e.args[i']?=some a→WTy p (Win Γ e i') a (Wan p e i' t)):=by
   intro j
   induction j with
   |zero=>
    intro i hi acc hacc
    refine EL.down ?_
    show EL (fun N k=>H7 (BH.at N) N p Γ.reverse e t (Hn (BH.at N) N p Γ.reverse e t k) acc i) _
    unfold H7
    have htk:e.args.take i=e.args:=List.take_of_length_le om
    refine EL.cond (fun h=>by have:=CI h;omega) fun _=> .some ⟨by rw [htk] at hacc;omega,fun h=>⟨h,fun i' a hi' ha=>?_⟩,fun h=>h.1⟩
    have:=(List.getElem?_eq_some_iff.1 ha).1
    omega
   |succ j ihj=>
    intro i hi acc hacc
    refine EL.down ?_
    show EL (fun N k=>H7 (BH.at N) N p Γ.reverse e t (Hn (BH.at N) N p Γ.reverse e t k) acc i) _
    unfold H7
    obtain ⟨a,ha⟩: ∃a,e.args[i]?=some a:=⟨_,List.getElem?_eq_getElem om⟩
    have has:=L3 (List.mem_of_getElem? ha)
    have htk:CR (e.args.take (i+1))=CR (e.args.take i)+CW a:=by rw [List.take_add_one,ha];simp [IU,CR]
    have htk2:CR (e.args.take (i+1))≤CR e.args:=by
     have:=IU (e.args.take (i+1)) (e.args.drop (i+1))
     rw [List.take_append_drop] at this;omega
    have hwin:=Vb hΓ he i
    refine EL.cond (fun _=>?_) fun h=>by have:=Db h;omega
    refine EL.eq (Br ha) (EL.eq (Y9 om i) (EL.bind (ZA hp i) fun w hw=>?_))
    subst hw
    refine EL.bind (ih a om om (he.sub a (List.mem_of_getElem? ha)) (Win Γ e i) _ hwin.1 om (ABB hp he ht i)) fun l hl=>?_
    refine EL.tb (F1 (by decide) om) fun _ _=>?_
    rw [wr om om,show (i:Int)+1=((i+1:Nat):Int) by omega]
    refine (ihj (i+1) om (acc++l) (by rw [List.length_append,htk];omega)).mono fun r hr=>⟨hr.1,?_⟩
    rw [hr.2,List.append_eq_nil_iff,hl.2]
    constructor
    ·rintro ⟨⟨h1,h2⟩,h3⟩
     refine ⟨h1,fun i' b hi' hb=>?_⟩
     rcases Nat.eq_or_lt_of_le hi' with rfl|hlt
     ·rw [ha] at hb;cases hb;exact h2
     ·exact h3 i' b hlt hb
    ·rintro ⟨h1,h2⟩
     exact ⟨⟨h1,h2 i a (Nat.le_refl _) ha⟩,fun i' b hi' hb=>h2 i' b om hb⟩
  unfold KE
  refine ET.bind (ABX hp hΓ om he ht) fun o ho=>?_
  have fin: ∀(acc:List Int),acc.length≤1→(acc=[]↔OwT p Γ e t)→ET (fun N=>Jh (BH.at N) N p Γ.reverse e t acc) fun l=>l.length≤CW e∧(l=[]↔WTy p Γ e t):=by
   intro acc h1 h2
   unfold Jh
   refine (loop e.args.length 0 om acc om).diag.mono fun r hr=>⟨om,?_⟩
   rw [hr.2,h2,ME]
   exact ⟨fun h=>⟨h.1,fun i a ha=>h.2 i a (Nat.zero_le _) ha⟩,fun h=>⟨h.1,fun i a _ ha=>h.2 i a ha⟩⟩
  unfold KX
  refine ET.cond (fun h=>ET.cond (fun h'=>ET.tb (F1 (by decide) (by simp)) fun _ _=>fin _ (by simp) ⟨fun h=>by simp at h,fun h''=>?_⟩) fun h'=>fin [] (by simp) ⟨fun _=>ho.1 (.inr (Jr h')),fun _=>rfl⟩) fun h=>ET.cond (fun h'=>by cases h') fun _=>fin [] (by simp) ⟨fun _=>ho.1 (.inl (Jr h)),fun _=>rfl⟩
  rcases ho.2 h'' with h0|h0
  ·exact absurd h0 (Lo h)
  ·exact absurd h0 (Lo h')
def QY(p:AM):Prop:=Z3 p∧∀f∈p.funcs,WTy p f.params.reverse f.body f.type_
theorem Tu:ET (fun N=>Dq N p) fun r=>r.why=0↔QY p:=by
 have hb: ∀f∈p.funcs,CW f.body≤1000000∧f.params.length≤1000000:=fun f hf=>⟨(hp.fns f hf).size,(hp.fns f hf).pars⟩
 have hlen:=hp.len
 unfold Dq
 refine ET.bind (Y6 hlen hb) fun r hr=>ET.cond (fun h=> .some ⟨fun h'=>absurd h' (Lo h),fun h'=>hr.2 h'.1⟩) fun h=>?_
 have h:=Jr h
 have hsc:=hr.1 h
 have fns: ∀(j i:Nat),i+j=p.funcs.length→∀(y a:Int),EL (fun N k=>CA N p k (i:Int) y a) fun r=>r.why=0↔y=0∧∀i' f,i≤i'→p.funcs[i']?=some f→WTy p f.params.reverse f.body f.type_:=by
  intro j
  induction j with
  |zero=>
   intro i hi y a
   refine EL.down ?_
   show EL (fun N k=>H8 N p (CA N p k) i y a) _
   unfold H8
   refine EL.cond (fun h=>by have:=CI h;omega) fun _=> .some ⟨fun h=>⟨h,fun i' f hi' hf=>by have:=(List.getElem?_eq_some_iff.1 hf).1;omega⟩,fun h=>h.1⟩
  |succ j ihj=>
   intro i hi y a
   obtain ⟨f,hf⟩: ∃f,p.funcs[i]?=some f:=⟨_,List.getElem?_eq_getElem om⟩
   have hfn:=hp.fns f (List.mem_of_getElem? hf)
   have hfs:=hfn.size
   have hfp:=hfn.pars
   refine EL.down ?_
   show EL (fun N k=>H8 N p (CA N p k) i y a) _
   unfold H8
   refine EL.cond (fun _=>?_) fun h=>by have:=Db h;omega
   refine EL.eq (Br hf) ?_
   rw [O9]
   have hΓ:TyE f.params.reverse:=fun x hx=>hfn.ptyp x (List.mem_reverse.1 hx)
   have hw:=Z9 hp (CW f.body) f.body (Nat.le_refl _) om hfn.body f.params.reverse f.type_ hΓ (by rw [List.length_reverse];omega) hfn.typ
   rw [List.reverse_reverse] at hw
   refine EL.bind hw fun l hl=>?_
   have inner: ∀(q t:Nat),t+q=l.length→∀(y a:Int),∃y' a',(y'=0↔y=0∧t=l.length)∧∃n0,∀N k kk,n0≤kk→Ez i (CA N p k) l kk (t:Int) y a=CA N p k ((i+1:Nat):Int) y' a':=by
    intro q
    induction q with
    |zero=>
     intro t ht y a
     refine ⟨y,a,⟨fun h=>⟨h,om⟩,fun h=>h.1⟩,1,fun N k kk hkk=>?_⟩
     obtain ⟨kk,rfl⟩: ∃j,kk=j+1:=⟨kk - 1,om⟩
     show EU i (CA N p k) l (Ez i (CA N p k) l kk) t y a=_
     unfold EU
     rw [show decide ((t:Int)< (l.length:Int))=false from decide_eq_false om,cond_false,wr om om,show (i:Int)+1=((i+1:Nat):Int) by omega]
    |succ q ihq=>
     intro t ht y a
     obtain ⟨x,hx⟩: ∃x,l[t]?=some x:=⟨_,List.getElem?_eq_getElem om⟩
     have hll:=hl.1
     have e1:IntKind.i64.wrap ((t:Int)+1)=((t+1:Nat):Int):=by rw [wr om om];omega
     have take: ∃y' a',(y'=0↔y=0∧t=l.length)∧∃n0,∀N k kk,n0≤kk→Ez i (CA N p k) l kk ((t+1:Nat):Int) 34 x=CA N p k ((i+1:Nat):Int) y' a':=by
      obtain ⟨y',a',h1,n0,h2⟩:=ihq (t+1) om 34 x
      exact ⟨y',a',⟨fun h=>absurd (h1.1 h).1 (by decide),fun h=>om⟩,n0,h2⟩
     cases hy:(y==0)
     ·have hy':=Bn hy
      cases hlt:decide (x<a)
      ·obtain ⟨y',a',h1,n0,h2⟩:=ihq (t+1) om y a
       refine ⟨y',a',⟨fun h=>absurd (h1.1 h).1 hy',fun h=>om⟩,n0+1,fun N k kk hkk=>?_⟩
       obtain ⟨kk,rfl⟩: ∃j,kk=j+1:=⟨kk - 1,om⟩
       show EU i (CA N p k) l (Ez i (CA N p k) l kk) t y a=_
       unfold EU Io In
       rw [show decide ((t:Int)< (l.length:Int))=true from decide_eq_true om,cond_true,hy,cond_false,Br hx,Option.bind_some,hlt,cond_false,e1]
       exact h2 N k kk om
      ·obtain ⟨y',a',h1,n0,h2⟩:=take
       refine ⟨y',a',h1,n0+1,fun N k kk hkk=>?_⟩
       obtain ⟨kk,rfl⟩: ∃j,kk=j+1:=⟨kk - 1,om⟩
       show EU i (CA N p k) l (Ez i (CA N p k) l kk) t y a=_
       unfold EU Io In
       rw [show decide ((t:Int)< (l.length:Int))=true from decide_eq_true om,cond_true,hy,cond_false,Br hx,Option.bind_some,hlt,cond_true,Option.bind_some,e1]
       exact h2 N k kk om
     ·obtain ⟨y',a',h1,n0,h2⟩:=take
      refine ⟨y',a',h1,n0+1,fun N k kk hkk=>?_⟩
      obtain ⟨kk,rfl⟩: ∃j,kk=j+1:=⟨kk - 1,om⟩
      show EU i (CA N p k) l (Ez i (CA N p k) l kk) t y a=_
      unfold EU Io In
      rw [show decide ((t:Int)< (l.length:Int))=true from decide_eq_true om,cond_true,hy,cond_true,cond_true,Br hx,Option.bind_some,e1]
      exact h2 N k kk om
   obtain ⟨y',a',h1,n0,h2⟩:=inner l.length 0 om y a
   obtain ⟨r,hr,n1,h3⟩:=ihj (i+1) om y' a'
   refine ⟨r,hr.trans ?_,n0+n1,fun N k hN hk=>?_⟩
   ·rw [h1]
    have hz:(0=l.length)↔WTy p f.params.reverse f.body f.type_:=by
     rw [←hl.2]
     exact ⟨fun h=>List.length_eq_zero_iff.1 h.symm,fun h=>by rw [h];rfl⟩
    rw [hz]
    constructor
    ·rintro ⟨⟨h1,h2⟩,h3⟩
     refine ⟨h1,fun i' g hi' hg=>?_⟩
     rcases Nat.eq_or_lt_of_le hi' with rfl|hlt
     ·rw [hf] at hg;cases hg;exact h2
     ·exact h3 i' g hlt hg
    ·rintro ⟨h1,h2⟩
     exact ⟨⟨h1,h2 i f (Nat.le_refl _) hf⟩,fun i' g hi' hg=>h2 i' g om hg⟩
   ·exact (h2 N k N om).trans (h3 N k om om)
 refine (fns p.funcs.length 0 om r.why r.at_).diag.mono fun q hq=>hq.trans ⟨fun h'=>⟨hsc,fun f hf=>?_⟩,fun h'=>⟨h,fun i' f _ hf=>h'.2 f (List.mem_of_getElem? hf)⟩⟩
 obtain ⟨i,hi⟩:=List.mem_iff_getElem?.1 hf
 exact h'.2 i f (Nat.zero_le _) hi
end
end Fth
namespace Fth
open Go
theorem ABC{α:Type}{P:Nat→α→Prop}{a b:α}:(∀i x,[a,b][i]?=some x→P i x)↔P 0 a∧P 1 b:=by
 constructor
 ·intro h;exact ⟨h 0 a rfl,h 1 b rfl⟩
 ·intro h i x hx
  match i,hx with
  |0,hx=>cases hx;exact h.1
  |1,hx=>cases hx;exact h.2
theorem ABY{α:Type}{P:Nat→α→Prop}{a b c:α}:(∀i x,[a,b,c][i]?=some x→P i x)↔P 0 a∧P 1 b∧P 2 c:=by
 constructor
 ·intro h;exact ⟨h 0 a rfl,h 1 b rfl,h 2 c rfl⟩
 ·intro h i x hx
  match i,hx with
  |0,hx=>cases hx;exact h.1
  |1,hx=>cases hx;exact h.2.1
  |2,hx=>cases hx;exact h.2.2
section
variable{p:AM}
theorem AAA(hlen:p.funcs.length≤50000)(flt:AF):ET (fun N=>KN N p flt) fun r=>r.2.1=p.funcs∧Pl p r.2.2.2:=by
 have loop: ∀(i:Nat),i≤p.funcs.length→∀(m:An),(∀nm,((∀k f,i≤k→p.funcs[k]?=some f→f.name≠nm)∧Cm m nm=0)∨∃(k:Nat) (f:AE),i≤k∧p.funcs[k]?=some f∧f.name=nm∧(∀k' f',i≤k'→k'<k→p.funcs[k']?=some f'→f'.name≠nm)∧Cm m nm=(k:Int)+1)→
   EL (fun _N k=>IQ p k ((i:Int) - 1) m) fun r=>r.2.1=p.funcs∧Pl p r.2.2.2:=by
  intro i
  induction i with
  |zero=>
   intro _ m hm
   refine EL.down ?_
   show EL (fun _N k=>If p (IQ p k) (((0:Nat):Int) - 1) m) _
   unfold If
   refine EL.cond (fun h=>by have:=CI h;omega) fun _=> .some ⟨rfl,fun nm=>?_⟩
   rcases hm nm with ⟨h1,h2⟩| ⟨k,f,_,h2,h3,h4,h5⟩
   ·refine .inl ⟨VY fun h=>?_,h2⟩
    obtain ⟨f,hf,hfn⟩:=List.mem_map.1 h
    obtain ⟨k,hk⟩:=List.mem_iff_getElem?.1 hf
    exact h1 k f (Nat.zero_le _) hk hfn
   ·refine .inr ⟨k,f,h2,QW h2 h3 fun h=>?_,h5⟩
    obtain ⟨g,hg,hgn⟩:=List.mem_map.1 h
    rw [List.mem_take_iff_getElem] at hg
    obtain ⟨q,hq,hqe⟩:=hg
    exact h4 q g (Nat.zero_le _) om (by rw [List.getElem?_eq_getElem om,hqe]) hgn
  |succ i ih=>
   intro hi m hm
   obtain ⟨f,hf⟩: ∃f,p.funcs[i]?=some f:=⟨_,List.getElem?_eq_getElem om⟩
   refine EL.down ?_
   show EL (fun _N k=>If p (IQ p k) (((i+1:Nat):Int) - 1) m) _
   unfold If
   rw [show ((i+1:Nat):Int) - 1=(i:Int) by omega]
   refine EL.cond (fun _=>?_) fun h=>by have:=Db h;omega
   refine EL.eq (Br hf) ?_
   rw [wr om om,wr om om]
   refine ih om _ fun nm=>?_
   rw [MZ]
   cases hn:(nm==f.name)
   ·have hne:nm≠f.name:=by simpa using hn
    rw [cond_false]
    rcases hm nm with ⟨h1,h2⟩| ⟨k,g,h1,h2,h3,h4,h5⟩
    ·refine .inl ⟨fun k g hk hg e=>?_,h2⟩
     rcases Nat.eq_or_lt_of_le hk with rfl|hlt
     ·rw [hf] at hg;cases hg;exact hne e.symm
     ·exact h1 k g hlt hg e
    ·refine .inr ⟨k,g,om,h2,h3,fun k' g' hk1 hk2 hg' e=>?_,h5⟩
     rcases Nat.eq_or_lt_of_le hk1 with rfl|hlt
     ·rw [hf] at hg';cases hg';exact hne e.symm
     ·exact h4 k' g' hlt hk2 hg' e
   ·have hne:nm=f.name:=by simpa using hn
    rw [cond_true]
    exact .inr ⟨i,f,Nat.le_refl _,hf,hne.symm,fun k' g' h1 h2=>om,rfl⟩
 have:=(loop p.funcs.length (Nat.le_refl _) [] fun nm=> .inl ⟨fun k f hk hf=>by have:=(List.getElem?_eq_some_iff.1 hf).1;omega,Tt nm⟩).diag
 refine this.cg fun N=>?_
 unfold KN
 rw [wr om om]
theorem ZB{a:Int}{flt:AF}:T (Fp a flt) fun r=>r.why≠0:=by
 unfold Fp Ja
 exact T.cond (fun _=>T.cond (fun _=> .some (show (34:Int)≠0 by decide)) fun h=>by cases h) fun h=>T.cond (fun _=> .some (show (34:Int)≠0 by decide)) fun _=> .some (Bn h)
theorem ZC{e:AB}{t o:Int}{fs:List AE}{env:List AK}{y a:Int}:T (CV e t o fs env y a) fun r=>r.1=fs∧r.2.1=env∧(r.2.2.why=0↔y=0∧o=t):=by
 unfold CV
 refine T.cond (fun h=>T.bind ZB fun r hr=> .some ⟨rfl,rfl,fun h'=>absurd h' hr,fun h'=>absurd h'.2 (Lo h)⟩) fun h=> .some ⟨rfl,rfl,fun h'=>⟨h',Jr h⟩,fun h'=>h'.1⟩
def Wn(p:AM)(Γ:List AK)(flt:AF)(A:Prop)(r:List AE×List AK×AF):Prop:=r.1=p.funcs∧r.2.1=Γ.reverse∧(r.2.2.why=0↔flt.why=0∧A)
def Wo(p:AM)(Γ:List AK)(flt:AF)(t:Int)(A:Prop)(r:Int×List AE×List AK×AF):Prop:=r.2.1=p.funcs∧r.2.2.1=Γ.reverse∧((r.2.2.2.why=0∧r.1=t)↔flt.why=0∧A)
theorem ABD{Γ:List AK}{e:AB}{fs:List AE}{flt:AF}(hl:Γ.length≤1000000000): ∀(Γ2 Γ1:List AK),Γ=Γ1++Γ2→∀k,Γ2.length<k→Et fs Γ.reverse flt e k ((Γ2.length:Int) - 1)=some ((RF Γ2 e.name).getD 0,fs,Γ.reverse,flt):=by
 intro Γ2
 induction Γ2 with
 |nil=>
  intro Γ1 h k hk
  obtain ⟨k,rfl⟩: ∃j,k=j+1:=⟨k - 1,by simp at hk;omega⟩
  rfl
 |cons x Γ2 ih=>
  intro Γ1 h k hk
  obtain ⟨k,rfl⟩: ∃j,k=j+1:=⟨k - 1,by simp at hk;omega⟩
  show G6 fs Γ.reverse flt e (Et fs Γ.reverse flt e k) (((x::Γ2).length:Int) - 1)=_
  unfold G6
  have hlen:Γ2.length<1000000000:=by rw [h] at hl;simp at hl;omega
  have e1:(((x::Γ2).length:Nat):Int) - 1=(Γ2.length:Int):=by simp
  have hat:Γ.reverse[Γ2.length]?=some x:=by rw [h];exact Y7 _ _ _
  rw [e1,show decide ((Γ2.length:Int)≥0)=true from decide_eq_true om,cond_true,Br hat,Option.bind_some,Option.bind_some,wr om om]
  unfold RF
  rw [List.find?_cons]
  cases hn:(x.name==e.name)
  ·rw [cond_false]
   exact ih (Γ1++[x]) (by rw [h];simp) k (by simp at hk;omega)
  ·rfl
variable(hp:WP p){mp:An}(hmp:Pl p mp)
include hp hmp
theorem ZD: ∀(n:Nat) (e:AB),CW e≤n→n≤10000000→WE e→∀(Γ:List AK) (t:Int) (flt:AF),TyE Γ→Γ.length+2*n≤1000000000→1≤t∧t≤3→
  ET (fun N=>types_checker_want N p.funcs Γ.reverse mp flt e t) (Wn p Γ flt (WTy p Γ e t)):=by
 intro n
 induction n with
 |zero=>intro e he;have:=LM e;omega
 |succ n ih=>
  intro e hen hn he Γ t flt hΓ hl ht
  have hal:=L4 e.args
  have hes:=Mu e
  have hfl:=hp.len
  have mem: ∀{i:Nat} {a:AB},e.args[i]?=some a→WE a∧CW a≤n:=fun h=>⟨he.sub _ (List.mem_of_getElem? h),by have:=L3 (List.mem_of_getElem? h);omega⟩
  have one: ∀{i:Nat} {a:AB},e.args[i]?=some a→∀(Δ:List AK) (u:Int) (flt:AF),TyE Δ→Δ.length≤Γ.length+2→1≤u∧u≤3→ET (fun N=>types_checker_want N p.funcs Δ.reverse mp flt a u) (Wn p Δ flt (WTy p Δ a u)):=
   fun h Δ u flt h1 h2 h3=>ih _ (mem h).2 om (mem h).1 Δ u flt h1 om h3
  have alls: ∀(l:List AB),(∀a∈l,a∈e.args)→l.length≤e.args.length→∀(u:Int) (flt:AF),1≤u∧u≤3→ET (fun N=>types_checker_all N p.funcs Γ.reverse mp flt u l) (Wn p Γ flt (∀a∈l,WTy p Γ a u)):=by
   intro l hl1 hl2 u flt hu
   refine ET.down ?_
   show ET (fun N=>Do (AG.at N) mp u l N 0 p.funcs Γ.reverse flt.why flt.at_) _
   have loop: ∀(j i:Nat),i+j=l.length→∀(fs:List AE) (env:List AK) (f:AF),fs=p.funcs→env=Γ.reverse→EL (fun N k=>Do (AG.at N) mp u l k (i:Int) fs env f.why f.at_) (Wn p Γ f (∀i' a,i≤i'→l[i']?=some a→WTy p Γ a u)):=by
    intro j
    induction j with
    |zero=>
     intro i hi fs env f hfs henv
     subst hfs;subst henv
     refine EL.down ?_
     show EL (fun N k=>EX (AG.at N) mp u l (Do (AG.at N) mp u l k) i p.funcs Γ.reverse f.why f.at_) _
     unfold EX
     refine EL.cond (fun h=>by have:=CI h;omega) fun _=> .some ⟨rfl,rfl,fun h=>⟨h,fun i' a hi' ha=>by have:=(List.getElem?_eq_some_iff.1 ha).1;omega⟩,fun h=>h.1⟩
    |succ j ihj=>
     intro i hi fs env f hfs henv
     subst hfs;subst henv
     obtain ⟨a,ha⟩: ∃a,l[i]?=some a:=⟨_,List.getElem?_eq_getElem om⟩
     obtain ⟨q,hq⟩:=List.mem_iff_getElem?.1 (hl1 a (List.mem_of_getElem? ha))
     refine EL.down ?_
     show EL (fun N k=>EX (AG.at N) mp u l (Do (AG.at N) mp u l k) i p.funcs Γ.reverse f.why f.at_) _
     unfold EX
     refine EL.cond (fun _=>?_) fun h=>by have:=Db h;omega
     refine EL.eq (Br ha) (EL.bind (one hq Γ u ⟨f.why,f.at_⟩ hΓ om hu) fun r hr=>?_)
     rw [wr om om,show (i:Int)+1=((i+1:Nat):Int) by omega]
     refine (ihj (i+1) om r.1 r.2.1 r.2.2 hr.1 hr.2.1).mono fun w hw=>⟨hw.1,hw.2.1,hw.2.2.trans ?_⟩
     rw [hr.2.2]
     constructor
     ·rintro ⟨⟨h1,h2⟩,h3⟩
      refine ⟨h1,fun i' b hi' hb=>?_⟩
      rcases Nat.eq_or_lt_of_le hi' with rfl|hlt
      ·rw [ha] at hb;cases hb;exact h2
      ·exact h3 i' b hlt hb
     ·rintro ⟨h1,h2⟩
      exact ⟨⟨h1,h2 i a (Nat.le_refl _) ha⟩,fun i' b hi' hb=>h2 i' b om hb⟩
   refine (loop l.length 0 om p.funcs Γ.reverse flt rfl rfl).diag.mono fun r hr=>⟨hr.1,hr.2.1,hr.2.2.trans ?_⟩
   constructor
   ·rintro ⟨h1,h2⟩
    refine ⟨h1,fun a ha=>?_⟩
    obtain ⟨i,hi⟩:=List.mem_iff_getElem?.1 ha
    exact h2 i a (Nat.zero_le _) hi
   ·rintro ⟨h1,h2⟩
    exact ⟨h1,fun i a _ ha=>h2 a (List.mem_of_getElem? ha)⟩
  have last: ∀(r:List AE×List AK×AF) (f:AF) (A:Prop),Wn p Γ f A r→(f.why=0↔flt.why=0)→(A↔WTy p Γ e t)→T (CV e t t r.1 r.2.1 r.2.2.why r.2.2.at_) (Wn p Γ flt (WTy p Γ e t)):=by
   intro r f A hr hf hA
   refine ZC.mono fun w hw=>⟨hw.1.trans hr.1,hw.2.1.trans hr.2.1,hw.2.2.trans ?_⟩
   rw [hr.2.2,hA,hf]
   exact ⟨fun h=>h.1,fun h=>⟨h,rfl⟩⟩
  refine ET.down ?_
  show ET (fun N=>GD (AG.at N) N p.funcs Γ.reverse mp flt e t) _
  unfold GD
  have ow:19≤e.op∧e.op≤22→OwT p Γ e t:=fun h=>⟨fun h=>om,fun h=>om,fun h=>om,fun h=>om,fun h=>om,fun h=>om⟩
  have har:=he.ar
  refine ET.cond (fun h=>?_) fun h19=>ET.cond (fun h=>?_) fun h20=>ET.cond (fun h=>?_) fun h21=>ET.cond (fun h=>?_) fun h22=>?_
  ·
   have ho:=CJ h
   obtain ⟨a,b,d,ha⟩:=Tp (l:=e.args) (by unfold Ar at har;omega)
   have ea:e.args[0]?=some a:=by rw [ha];rfl
   have eb:e.args[1]?=some b:=by rw [ha];rfl
   have ed:e.args[2]?=some d:=by rw [ha];rfl
   have hsub:sub e.args 1 (e.args.length:Int)=some [b,d]:=by rw [ha];rfl
   refine ET.eq (Br (i:=0) ea) (ET.bind (one ea Γ 2 flt hΓ om om) fun r hr=>ET.eq hsub ?_)
   rw [hr.1,hr.2.1]
   refine ET.bind (alls [b,d] (fun x hx=>by rw [ha];simp at hx ⊢;rcases hx with rfl|rfl<;>simp) (by rw [ha];simp) t r.2.2 ht) fun r2 hr2=> .of ?_
   refine last r2 flt (WTy p Γ a 2∧∀x∈[b,d],WTy p Γ x t) ⟨hr2.1,hr2.2.1,by rw [hr2.2.2,hr.2.2];exact and_assoc⟩ Iff.rfl ?_
   have e1: ∀i,Win Γ e i=Γ:=fun i=>by unfold Win;rw [if_neg om,if_neg om]
   have e2: ∀i,Wan p e i t=if i=0 then 2 else t:=fun i=>by unfold Wan;rw [if_neg om,if_neg om,if_neg om,if_pos ho]
   rw [ME (e:=e),ha,ABY,e1,e1,e1,e2,e2,e2]
   simp only [List.mem_cons,List.not_mem_nil,or_false,forall_eq_or_imp,forall_eq]
   exact ⟨fun h=>⟨ow om,h.1,h.2.1,h.2.2⟩,fun h=>⟨h.2.1,h.2.2.1,h.2.2.2⟩⟩
  ·
   have ho:=CJ h
   obtain ⟨a,b,d,ha⟩:=Tp (l:=e.args) (by unfold Ar at har;omega)
   have ea:e.args[0]?=some a:=by rw [ha];rfl
   have eb:e.args[1]?=some b:=by rw [ha];rfl
   have ed:e.args[2]?=some d:=by rw [ha];rfl
   have e1: ∀i,i≠2→Win Γ e i=Γ:=fun i hi=>by unfold Win;rw [if_neg om,if_neg om]
   have e1':Win Γ e 2=⟨e.tail,3,0⟩::⟨e.name,1,0⟩::Γ:=by unfold Win;rw [if_neg om,if_pos ⟨ho,rfl⟩]
   have e2: ∀i,Wan p e i t=if i=0 then 3 else t:=fun i=>by unfold Wan;rw [if_neg om,if_neg om,if_neg om,if_neg om,if_pos ho]
   have hwin:=Vb hΓ he 2
   rw [e1'] at hwin
   refine ET.eq (Br (i:=0) ea) (ET.bind (one ea Γ 3 flt hΓ om om) fun r hr=>ET.eq (Br (i:=1) eb) ?_)
   rw [hr.1,hr.2.1]
   refine ET.bind (one eb Γ t r.2.2 hΓ om ht) fun r2 hr2=>?_
   rw [hr2.1,hr2.2.1]
   refine ET.bind (P:=Wn p Γ r2.2.2 (WTy p (⟨e.tail,3,0⟩::⟨e.name,1,0⟩::Γ) d t)) ?_ fun r3 hr3=> .of ?_
   ·refine ET.down ?_
    show ET (fun N=>HC (AG.at N) N p.funcs Γ.reverse mp r2.2.2 e t [⟨e.name,1,0⟩,⟨e.tail,3,0⟩]) _
    unfold HC
    refine ET.tb (F1 (by decide) (by simp;omega)) fun _ _=>?_
    refine ET.bind (P:=Wn p (⟨e.tail,3,0⟩::⟨e.name,1,0⟩::Γ) r2.2.2 (WTy p (⟨e.tail,3,0⟩::⟨e.name,1,0⟩::Γ) d t)) ?_ fun w hw=>?_
    ·refine ET.down ?_
     have hrev:Γ.reverse++[⟨e.name,1,0⟩,⟨e.tail,3,0⟩]=(⟨e.tail,3,0⟩::⟨e.name,1,0⟩::Γ:List AK).reverse:=by simp
     rw [hrev]
     show ET (fun N=>FL (AG.at N) N p.funcs (⟨e.tail,3,0⟩::⟨e.name,1,0⟩::Γ:List AK).reverse mp r2.2.2 e t) _
     unfold FL
     exact ET.eq (Br (i:=2) ed) (ET.bind (one ed _ t r2.2.2 hwin.1 hwin.2 ht) fun w hw=> .some hw)
    ·refine ET.tb (P:=fun x=>x=Γ.reverse) ?_ fun x hx=> .some ⟨hw.1,hx,hw.2.2⟩
     refine (NT om om (by rw [hw.2.1];simp;omega)).mono fun x hx=>?_
     rw [hx,hw.2.1];simp
   ·refine last r3 flt (WTy p Γ a 3∧WTy p Γ b t∧WTy p (⟨e.tail,3,0⟩::⟨e.name,1,0⟩::Γ) d t) ⟨hr3.1,hr3.2.1,by rw [hr3.2.2,hr2.2.2,hr.2.2,and_assoc,and_assoc]⟩ Iff.rfl ?_
    rw [ME (e:=e),ha,ABY,e1 0 om,e1 1 om,e1',e2,e2,e2]
    exact ⟨fun h=>⟨ow om,h.1,h.2.1,h.2.2⟩,fun h=>⟨h.2.1,h.2.2.1,h.2.2.2⟩⟩
  ·
   have ho:=CJ h
   obtain ⟨a,b,ha⟩:=RG (l:=e.args) (by unfold Ar at har;omega)
   have ea:e.args[0]?=some a:=by rw [ha];rfl
   have eb:e.args[1]?=some b:=by rw [ha];rfl
   have e1: ∀i,Win Γ e i=⟨e.name,e.type_,0⟩::Γ:=fun i=>by unfold Win;rw [if_pos (.inl ho)]
   have e2: ∀i,Wan p e i t=if i=0 then e.type_ else t:=fun i=>by unfold Wan;rw [if_neg om,if_neg om,if_neg om,if_neg om,if_neg om,if_pos om]
   have hwin:=Vb hΓ he 0
   rw [e1] at hwin
   have het:=he.typ om
   refine ET.bind (P:=Wn p Γ flt (WTy p (⟨e.name,e.type_,0⟩::Γ) a e.type_∧WTy p (⟨e.name,e.type_,0⟩::Γ) b t)) ?_ fun r3 hr3=> .of ?_
   ·refine ET.down ?_
    show ET (fun N=>GE (AG.at N) N p.funcs Γ.reverse mp flt e t [⟨e.name,e.type_,0⟩]) _
    unfold GE
    refine ET.tb (F1 (by decide) (by simp;omega)) fun _ _=>?_
    refine ET.bind (P:=Wn p (⟨e.name,e.type_,0⟩::Γ) flt (WTy p (⟨e.name,e.type_,0⟩::Γ) a e.type_∧WTy p (⟨e.name,e.type_,0⟩::Γ) b t)) ?_ fun w hw=>?_
    ·refine ET.down ?_
     have hrev:Γ.reverse++[⟨e.name,e.type_,0⟩]=(⟨e.name,e.type_,0⟩::Γ:List AK).reverse:=by simp
     rw [hrev]
     show ET (fun N=>FM (AG.at N) N p.funcs (⟨e.name,e.type_,0⟩::Γ:List AK).reverse mp flt e t) _
     unfold FM
     refine ET.eq (Br (i:=0) ea) (ET.bind (one ea _ e.type_ flt hwin.1 hwin.2 het) fun w hw=>ET.eq (Br (i:=1) eb) ?_)
     rw [hw.1,hw.2.1]
     exact ET.bind (one eb _ t w.2.2 hwin.1 hwin.2 ht) fun w2 hw2=> .some ⟨hw2.1,hw2.2.1,by rw [hw2.2.2,hw.2.2];exact and_assoc⟩
    ·refine ET.tb (P:=fun x=>x=Γ.reverse) ?_ fun x hx=> .some ⟨hw.1,hx,hw.2.2⟩
     refine (NT om om (by rw [hw.2.1];simp;omega)).mono fun x hx=>?_
     rw [hx,hw.2.1];simp
   ·refine last r3 flt _ hr3 Iff.rfl ?_
    rw [ME (e:=e),ha,ABC,e1,e1,e2,e2]
    exact ⟨fun h=>⟨ow om,h.1,h.2⟩,fun h=>⟨h.2.1,h.2.2⟩⟩
  ·
   have ho:=CJ h
   obtain ⟨a,b,ha⟩:=RG (l:=e.args) (by unfold Ar at har;omega)
   have ea:e.args[0]?=some a:=by rw [ha];rfl
   have eb:e.args[1]?=some b:=by rw [ha];rfl
   have e1:Win Γ e 0=Γ:=by unfold Win;rw [if_neg om,if_neg om]
   have e1':Win Γ e 1=⟨e.name,e.type_,0⟩::Γ:=by unfold Win;rw [if_pos (.inr ⟨ho,rfl⟩)]
   have e2: ∀i,Wan p e i t=if i=0 then e.type_ else t:=fun i=>by unfold Wan;rw [if_neg om,if_neg om,if_neg om,if_neg om,if_neg om,if_pos om]
   have hwin:=Vb hΓ he 1
   rw [e1'] at hwin
   have het:=he.typ om
   refine ET.eq (Br (i:=0) ea) (ET.bind (one ea Γ e.type_ flt hΓ om het) fun r hr=>?_)
   rw [hr.1,hr.2.1]
   refine ET.bind (P:=Wn p Γ r.2.2 (WTy p (⟨e.name,e.type_,0⟩::Γ) b t)) ?_ fun r3 hr3=> .of ?_
   ·refine ET.down ?_
    show ET (fun N=>GG (AG.at N) N p.funcs Γ.reverse mp r.2.2 e t [⟨e.name,e.type_,0⟩]) _
    unfold GG
    refine ET.tb (F1 (by decide) (by simp;omega)) fun _ _=>?_
    refine ET.bind (P:=Wn p (⟨e.name,e.type_,0⟩::Γ) r.2.2 (WTy p (⟨e.name,e.type_,0⟩::Γ) b t)) ?_ fun w hw=>?_
    ·refine ET.down ?_
     have hrev:Γ.reverse++[⟨e.name,e.type_,0⟩]=(⟨e.name,e.type_,0⟩::Γ:List AK).reverse:=by simp
     rw [hrev]
     show ET (fun N=>FO (AG.at N) N p.funcs (⟨e.name,e.type_,0⟩::Γ:List AK).reverse mp r.2.2 e t) _
     unfold FO
     exact ET.eq (Br (i:=1) eb) (ET.bind (one eb _ t r.2.2 hwin.1 hwin.2 ht) fun w hw=> .some hw)
    ·refine ET.tb (P:=fun x=>x=Γ.reverse) ?_ fun x hx=> .some ⟨hw.1,hx,hw.2.2⟩
     refine (NT om om (by rw [hw.2.1];simp;omega)).mono fun x hx=>?_
     rw [hx,hw.2.1];simp
   ·refine last r3 flt (WTy p Γ a e.type_∧WTy p (⟨e.name,e.type_,0⟩::Γ) b t) ⟨hr3.1,hr3.2.1,by rw [hr3.2.2,hr.2.2];exact and_assoc⟩ Iff.rfl ?_
    rw [ME (e:=e),ha,ABC,e1,e1',e2,e2]
    exact ⟨fun h=>⟨ow om,h.1,h.2⟩,fun h=>⟨h.2.1,h.2.2⟩⟩
  ·
   have h19:=Bn h19;have h20:=Bn h20;have h21:=Bn h21;have h22:=Bn h22
   have hop:1≤e.op∧e.op≤18:=by unfold Ar at har;omega
   have e1: ∀i,Win Γ e i=Γ:=fun i=>by unfold Win;rw [if_neg om,if_neg om]
   have fin:ET (fun N=>types_checker_own N p.funcs Γ.reverse mp flt e) (Wo p Γ flt t (WTy p Γ e t))→ET (fun N=>((AG.at N).types_checker_own p.funcs Γ.reverse mp flt e).bind fun x2165=>CV e t x2165.1 x2165.2.1 x2165.2.2.1 x2165.2.2.2.why x2165.2.2.2.at_) (Wn p Γ flt (WTy p Γ e t)):=fun h=>
    ET.bind h fun r hr=> .of (ZC.mono fun w hw=>⟨hw.1.trans hr.1,hw.2.1.trans hr.2.1,hw.2.2.trans hr.2.2⟩)
   refine fin (ET.down ?_)
   show ET (fun N=>Gk (AG.at N) N p.funcs Γ.reverse mp flt e) _
   have leaf: ∀(o:Int),e.args=[]→((o=t)↔OwT p Γ e t)→Wo p Γ flt t (WTy p Γ e t) (o,p.funcs,Γ.reverse,flt):=fun o ha ho=>⟨rfl,rfl,by
    rw [ME (e:=e),ha]
    exact ⟨fun h=>⟨h.1,ho.1 h.2,fun i a h=>by simp at h⟩,fun h=>⟨h.1,ho.2 h.2.1⟩⟩⟩
   have nil_of:(1≤e.op∧e.op≤6)→e.args=[]:=fun h=>List.length_eq_zero_iff.1 (by unfold Ar at har;omega)
   unfold Gk
   have j1t:(e.op=2∨e.op=3)→ET (fun N=>Ew (AG.at N) N p.funcs Γ.reverse mp flt e true) (Wo p Γ flt t (WTy p Γ e t)):=by
    intro ho
    unfold Ew
    refine ET.cond (fun _=> .some (leaf 2 (nil_of om) ⟨fun h=>⟨fun h=>om,fun _=>h.symm,fun h=>om,fun h=>om,fun h=>om,fun h=>om⟩,fun h=>(h.b om).symm⟩)) fun h=>by cases h
   refine ET.cond (fun h=>by rw [h];exact j1t (.inl (CJ h))) fun h2=>?_
   have h2:=Bn h2
   cases h3:(e.op==3)
   rotate_left
   ·exact j1t (.inr (CJ h3))
   have h3:=Bn h3
   unfold Ew
   refine ET.cond (fun h=>by cases h) fun _=>ET.cond (fun h=> .some ?_) fun h4=>ET.cond (fun h=> .some ?_) fun h5=>ET.cond (fun h=>?_) fun h6=>ET.cond (fun h=>?_) fun h7=>ET.cond (fun h=>?_) fun h14=>ET.cond (fun h=>?_) fun h18=>?_
   ·have ho:=CJ h
    exact leaf 3 (nil_of om) ⟨fun h=>⟨fun h=>om,fun h=>om,fun _=>h.symm,fun h=>om,fun h=>om,fun h=>om⟩,fun h=>(h.l om).symm⟩
   ·have ho:=CJ h
    exact leaf e.type_ (nil_of om) ⟨fun h=>⟨fun h=>om,fun h=>om,fun h=>om,fun _=>h.symm,fun h=>om,fun h=>om⟩,fun h=>(h.f ho).symm⟩
   ·have ho:=CJ h
    refine RT (Γ.length+2) ⟨((RF Γ e.name).getD 0,p.funcs,Γ.reverse,flt),leaf _ (nil_of om) ⟨fun h=>⟨fun h=>om,fun h=>om,fun h=>om,fun h=>om,fun _=>?_,fun h=>om⟩,fun h=>?_⟩,fun N hN=>?_⟩
    ·cases hlk:RF Γ e.name with
     |none=>rw [hlk] at h;simp at h;omega
     |some u=>rw [hlk] at h;simp at h;rw [h]
    ·rw [h.v ho];rfl
    ·have:=ABD (e:=e) (fs:=p.funcs) (flt:=flt) (Γ:=Γ) om Γ [] rfl N om
     rw [wr (by simp;omega) (by simp;omega),List.length_reverse]
     exact this
   ·
    have ho:=CJ h
    have hwan: ∀f,hd p e.name=some f→∀i x,f.params[i]?=some x→Wan p e i t=x.type_:=fun f hf i x hx=>by
     unfold Wan
     rw [if_neg om,if_neg om,if_pos ho,hf]
     show (match f.params[i]? with |some x=>x.type_|none=>1)=_
     rw [hx]
    refine ET.bind (P:=Wo p Γ flt t (WTy p Γ e t)) ?_ fun r hr=> .some hr
    refine ET.down ?_
    show ET (fun N=>GH (AG.at N) N p.funcs Γ.reverse mp flt e) _
    have bad: ¬WTy p Γ e t→Wo p Γ flt t (WTy p Γ e t) (0,p.funcs,Γ.reverse,flt):=fun h=>⟨rfl,rfl,fun h'=>by have:(0:Int)=t:=h'.2;omega,fun h'=>absurd h'.2 h⟩
    unfold GH
    rcases hmp e.name with ⟨hn0,h0⟩| ⟨i,f,hi,hf,hm⟩
    ·rw [h0]
     refine ET.cond (fun _=>?_) fun h=>by cases h
     unfold Fg
     refine ET.cond (fun _=> .some (bad fun h=>?_)) fun h=>by cases h
     obtain ⟨g,hg,_⟩:=h.own.c ho
     rw [hn0] at hg;cases hg
    ·have hil:=(List.getElem?_eq_some_iff.1 hi).1
     have hfn:=hp.fns f (List.mem_of_find?_eq_some hf)
     have hfp:=hfn.pars
     rw [hm]
     refine ET.cond (fun h=>by have:=CJ h;omega) fun _=>?_
     rw [wr (x:=(i:Int)+1 - 1) om om,show (i:Int)+1 - 1=(i:Int) by omega]
     refine ET.eq (Br hi) ?_
     unfold Fg
     refine ET.cond (fun h=> .some (bad fun h'=>?_)) fun h=>?_
     ·obtain ⟨g,hg,hgl,_⟩:=h'.own.c ho
      rw [hf] at hg;cases hg
      exact absurd (congrArg Int.ofNat hgl) (Lo h)
     have hfl:f.params.length=e.args.length:=by have:=Jr h;omega
     rw [hm,wr (x:=(i:Int)+1 - 1) om om,show (i:Int)+1 - 1=(i:Int) by omega]
     refine ET.eq (Br hi) ?_
     have loop: ∀(j q:Nat),q+j=f.params.length→∀(fs:List AE) (env:List AK) (f2:AF),fs=p.funcs→env=Γ.reverse→EL (fun N k=>Dx (AG.at N) mp e f k (q:Int) fs env f2.why f2.at_) fun r=>r.1=f.type_∧r.2.1=p.funcs∧r.2.2.1=Γ.reverse∧(r.2.2.2.why=0↔f2.why=0∧∀i' a,q≤i'→e.args[i']?=some a→WTy p Γ a (Wan p e i' t)):=by
      intro j
      induction j with
      |zero=>
       intro q hq fs env f2 hfs henv
       subst hfs;subst henv
       refine EL.down ?_
       show EL (fun N k=>EH (AG.at N) mp e f (Dx (AG.at N) mp e f k) q p.funcs Γ.reverse f2.why f2.at_) _
       unfold EH
       refine EL.cond (fun h=>by have:=CI h;omega) fun _=>?_
       rw [hm,wr (x:=(i:Int)+1 - 1) om om,show (i:Int)+1 - 1=(i:Int) by omega]
       exact EL.eq (Br hi) (.some ⟨rfl,rfl,rfl,fun h=>⟨h,fun i' a hi' ha=>by have:=(List.getElem?_eq_some_iff.1 ha).1;omega⟩,fun h=>h.1⟩)
      |succ j ihj=>
       intro q hq fs env f2 hfs henv
       subst hfs;subst henv
       obtain ⟨x,hx⟩: ∃x,f.params[q]?=some x:=⟨_,List.getElem?_eq_getElem om⟩
       obtain ⟨a,ha⟩: ∃a,e.args[q]?=some a:=⟨_,List.getElem?_eq_getElem om⟩
       have hxt:=hfn.ptyp x (List.mem_of_getElem? hx)
       refine EL.down ?_
       show EL (fun N k=>EH (AG.at N) mp e f (Dx (AG.at N) mp e f k) q p.funcs Γ.reverse f2.why f2.at_) _
       unfold EH
       refine EL.cond (fun _=>?_) fun h=>by have:=Db h;omega
       refine EL.eq (Br hx) (EL.eq (Br ha) (EL.bind (one ha Γ x.type_ ⟨f2.why,f2.at_⟩ hΓ om hxt) fun w hw=>?_))
       rw [wr om om,show (q:Int)+1=((q+1:Nat):Int) by omega]
       refine (ihj (q+1) om w.1 w.2.1 w.2.2 hw.1 hw.2.1).mono fun r hr=>⟨hr.1,hr.2.1,hr.2.2.1,hr.2.2.2.trans ?_⟩
       rw [hw.2.2]
       constructor
       ·rintro ⟨⟨h1,h2⟩,h3⟩
        refine ⟨h1,fun i' b hi' hb=>?_⟩
        rcases Nat.eq_or_lt_of_le hi' with rfl|hlt
        ·rw [ha] at hb;cases hb;rw [hwan f hf q x hx];exact h2
        ·exact h3 i' b hlt hb
       ·rintro ⟨h1,h2⟩
        exact ⟨⟨h1,by have:=h2 q a (Nat.le_refl _) ha;rwa [hwan f hf q x hx] at this⟩,fun i' b hi' hb=>h2 i' b om hb⟩
     refine (loop f.params.length 0 om p.funcs Γ.reverse flt rfl rfl).diag.mono fun r hr=>⟨hr.2.1,hr.2.2.1,?_⟩
     rw [hr.1,hr.2.2.2,ME (e:=e)]
     simp only [e1]
     constructor
     ·rintro ⟨⟨h1,h2⟩,h3⟩
      exact ⟨h1,⟨fun h=>om,fun h=>om,fun h=>om,fun h=>om,fun h=>om,fun _=>⟨f,hf,hfl,h3⟩⟩,fun i a ha=>h2 i a (Nat.zero_le _) ha⟩
     ·rintro ⟨h1,h2,h3⟩
      obtain ⟨g,hg,_,hgt⟩:=h2.c ho
      rw [hf] at hg;cases hg
      exact ⟨⟨h1,fun i a _ ha=>h3 i a ha⟩,hgt⟩
   ·
    have ho:=CJ h
    refine ET.bind (alls e.args (fun a h=>h) (Nat.le_refl _) 2 flt om) fun r hr=> .some ⟨hr.1,hr.2.1,?_⟩
    have e2: ∀i,Wan p e i t=2:=fun i=>by unfold Wan;rw [if_pos ho]
    show (r.2.2.why=0∧(2:Int)=t)↔_
    rw [hr.2.2,ME (e:=e)]
    simp only [e1,e2]
    constructor
    ·rintro ⟨⟨h1,h2⟩,h3⟩
     exact ⟨h1,⟨fun h=>om,fun _=>h3.symm,fun h=>om,fun h=>om,fun h=>om,fun h=>om⟩,fun i a ha=>h2 a (List.mem_of_getElem? ha)⟩
    ·rintro ⟨h1,h2,h3⟩
     refine ⟨⟨h1,fun a ha=>?_⟩,(h2.b om).symm⟩
     obtain ⟨i,hi⟩:=List.mem_iff_getElem?.1 ha
     exact h3 i a hi
   ·
    have ho:=CJ h
    obtain ⟨a,b,ha⟩:=RG (l:=e.args) (by unfold Ar at har;omega)
    have ea:e.args[0]?=some a:=by rw [ha];rfl
    have eb:e.args[1]?=some b:=by rw [ha];rfl
    have e2:Wan p e 0 t=1:=by unfold Wan;rw [if_neg om,if_neg om,if_neg om,if_neg om,if_neg om,if_neg om]
    have e3:Wan p e 1 t=3:=by unfold Wan;rw [if_neg om,if_pos ⟨ho,rfl⟩]
    refine ET.eq (Br (i:=0) ea) (ET.bind (one ea Γ 1 flt hΓ om om) fun r hr=>ET.eq (Br (i:=1) eb) ?_)
    rw [hr.1,hr.2.1]
    refine ET.bind (one eb Γ 3 r.2.2 hΓ om om) fun r2 hr2=> .some ⟨hr2.1,hr2.2.1,?_⟩
    show (r2.2.2.why=0∧(3:Int)=t)↔_
    rw [hr2.2.2,hr.2.2,ME (e:=e),ha,ABC,e1,e1,e2,e3]
    constructor
    ·rintro ⟨⟨⟨h1,h2⟩,h3⟩,h4⟩
     exact ⟨h1,⟨fun h=>om,fun h=>om,fun _=>h4.symm,fun h=>om,fun h=>om,fun h=>om⟩,h2,h3⟩
    ·rintro ⟨h1,h2,h3,h4⟩
     exact ⟨⟨⟨h1,h3⟩,h4⟩,(h2.l om).symm⟩
   ·
    have h4:=Bn h4;have h5:=Bn h5;have h6:=Bn h6;have h7:=Bn h7;have h14:=Bn h14;have h18:=Bn h18
    have e2: ∀i,Wan p e i t=1:=fun i=>by unfold Wan;rw [if_neg om,if_neg om,if_neg om,if_neg om,if_neg om,if_neg om]
    refine ET.bind (alls e.args (fun a h=>h) (Nat.le_refl _) 1 flt om) fun r hr=>?_
    have out: ∀o:Int,(o=t↔OwT p Γ e t)→Wo p Γ flt t (WTy p Γ e t) (o,r.1,r.2.1,r.2.2):=fun o ho=>⟨hr.1,hr.2.1,by
     show (r.2.2.why=0∧o=t)↔_
     rw [hr.2.2,ME (e:=e),ho]
     simp only [e1,e2]
     constructor
     ·rintro ⟨⟨h1,h2⟩,h3⟩
      exact ⟨h1,h3,fun i a ha=>h2 a (List.mem_of_getElem? ha)⟩
     ·rintro ⟨h1,h2,h3⟩
      refine ⟨⟨h1,fun a ha=>?_⟩,h2⟩
      obtain ⟨i,hi⟩:=List.mem_iff_getElem?.1 ha
      exact h3 i a hi⟩
    have two':(e.op=12∨e.op=13)→ET (fun _N=>Hh r true) (Wo p Γ flt t (WTy p Γ e t)):=fun ho=>
     .some (out 2 ⟨fun h=>⟨fun h=>om,fun _=>h.symm,fun h=>om,fun h=>om,fun h=>om,fun h=>om⟩,fun h=>(h.b om).symm⟩)
    refine ET.cond (fun h=>two' (.inl (CJ h))) fun h12=>?_
    have h12:=Bn h12
    cases h13:(e.op==13)
    ·have h13:=Bn h13
     exact .some (out 1 ⟨fun h=>⟨fun _=>h.symm,fun h=>om,fun h=>om,fun h=>om,fun h=>om,fun h=>om⟩,fun h=>(h.n om).symm⟩)
    ·exact two' (.inr (CJ h13))
end
theorem AAB{p:AM}(hp:WP p):ET (fun N=>Gs N p) fun r=>r.why=0↔QY p:=by
 have hb: ∀f∈p.funcs,CW f.body≤1000000∧f.params.length≤1000000:=fun f hf=>⟨(hp.fns f hf).size,(hp.fns f hf).pars⟩
 have hlen:=hp.len
 unfold Gs
 refine ET.bind (Z6 hlen hb) fun r hr=>ET.cond (fun h=> .some ⟨fun h'=>absurd h' (Lo h),fun h'=>hr.2 h'.1⟩) fun h=>?_
 have h:=Jr h
 have hsc:=hr.1 h
 refine ET.bind (AAA hlen r) fun o ho=>?_
 have fns: ∀(j i:Nat),i+j=p.funcs.length→∀(f0:AF) (fs:List AE) (env:List AK),fs=p.funcs→EL (fun N k=>Hi N p o k (i:Int) f0.why f0.at_ fs env) fun r=>r.why=0↔f0.why=0∧∀i' f,i≤i'→p.funcs[i']?=some f→WTy p f.params.reverse f.body f.type_:=by
  intro j
  induction j with
  |zero=>
   intro i hi f0 fs env hfs
   refine EL.down ?_
   show EL (fun N k=>H1 N p o (Hi N p o k) i f0.why f0.at_ fs env) _
   unfold H1
   exact EL.cond (fun h=>by have:=CI h;omega) fun _=> .some ⟨fun h=>⟨h,fun i' f hi' hf=>by have:=(List.getElem?_eq_some_iff.1 hf).1;omega⟩,fun h=>h.1⟩
  |succ j ihj=>
   intro i hi f0 fs env hfs
   subst hfs
   obtain ⟨f,hf⟩: ∃f,p.funcs[i]?=some f:=⟨_,List.getElem?_eq_getElem om⟩
   have hfn:=hp.fns f (List.mem_of_getElem? hf)
   have hfs:=hfn.size
   have hfp:=hfn.pars
   refine EL.down ?_
   show EL (fun N k=>H1 N p o (Hi N p o k) i f0.why f0.at_ p.funcs env) _
   unfold H1
   refine EL.cond (fun _=>?_) fun h=>by have:=Db h;omega
   refine EL.eq (Br hf) (EL.tb (F1 (by decide) (by simp;omega)) fun _ _=>?_)
   rw [O9,List.nil_append]
   have hΓ:TyE f.params.reverse:=fun x hx=>hfn.ptyp x (List.mem_reverse.1 hx)
   have hw:=ZD hp ho.2 (CW f.body) f.body (Nat.le_refl _) om hfn.body f.params.reverse f.type_ ⟨f0.why,f0.at_⟩ hΓ (by rw [List.length_reverse];omega) hfn.typ
   rw [List.reverse_reverse] at hw
   refine EL.bind hw fun w hw=>?_
   rw [wr om om,show (i:Int)+1=((i+1:Nat):Int) by omega]
   refine (ihj (i+1) om w.2.2 w.1 w.2.1 hw.1).mono fun r hr=>hr.trans ?_
   rw [hw.2.2]
   constructor
   ·rintro ⟨⟨h1,h2⟩,h3⟩
    refine ⟨h1,fun i' g hi' hg=>?_⟩
    rcases Nat.eq_or_lt_of_le hi' with rfl|hlt
    ·rw [hf] at hg;cases hg;exact h2
    ·exact h3 i' g hlt hg
   ·rintro ⟨h1,h2⟩
    exact ⟨⟨h1,h2 i f (Nat.le_refl _) hf⟩,fun i' g hi' hg=>h2 i' g om hg⟩
 refine (fns p.funcs.length 0 om r o.2.1 o.2.2.1 ho.1).diag.mono fun q hq=>hq.trans ⟨fun h'=>⟨hsc,fun f hf=>?_⟩,fun h'=>⟨h,fun i' f _ hf=>h'.2 f (List.mem_of_getElem? hf)⟩⟩
 obtain ⟨i,hi⟩:=List.mem_iff_getElem?.1 hf
 exact h'.2 i f (Nat.zero_le _) hi
end Fth
namespace Fth
open Go
def gv(v:AI):Th:=if v.type_=3 then v.list.foldr (fun z t=> .done v0 (.done ⟨1,z,false,[]⟩ .nil .nil) t) (.done ⟨3,(0,0),false,[]⟩ .nil .nil) else .done v .nil .nil
theorem WM{v:AI}{N:Nat}(hl:v.list.length≤1000000000)(hN:v.list.length+2≤N):Ii N v=some (gv v)∧Oc N v=some (gv v):=by
 have loop: ∀(l2 l1:List (Nat×Nat)),v.list=l1++l2→∀k,l1.length<k→
   JC v k (l2.foldr (fun z t=> .done v0 (.done ⟨1,z,false,[]⟩ .nil .nil) t) (.done ⟨3,(0,0),false,[]⟩ .nil .nil)) ((l1.length:Int) - 1)=some (v.list.foldr (fun z t=> .done v0 (.done ⟨1,z,false,[]⟩ .nil .nil) t) (.done ⟨3,(0,0),false,[]⟩ .nil .nil))∧
   Lh v k (l2.foldr (fun z t=> .done v0 (.done ⟨1,z,false,[]⟩ .nil .nil) t) (.done ⟨3,(0,0),false,[]⟩ .nil .nil)) ((l1.length:Int) - 1)=some (v.list.foldr (fun z t=> .done v0 (.done ⟨1,z,false,[]⟩ .nil .nil) t) (.done ⟨3,(0,0),false,[]⟩ .nil .nil)):=by
  intro l2 l1
  induction hn:l1.length generalizing l1 l2 with
  |zero=>
   intro h k hk
   obtain ⟨k,rfl⟩: ∃j,k=j+1:=⟨k - 1,om⟩
   have:l1=[]:=List.length_eq_zero_iff.1 hn
   subst this
   rw [h]
   exact ⟨rfl,rfl⟩
  |succ n ih=>
   intro h k hk
   obtain ⟨k,rfl⟩: ∃j,k=j+1:=⟨k - 1,om⟩
   have hne:l1≠[]:=fun e=>by subst e;cases hn
   obtain ⟨l0,z,rfl⟩: ∃l0 z,l1=l0++[z]:=⟨l1.dropLast,l1.getLast hne,(List.dropLast_concat_getLast hne).symm⟩
   have hl0:l0.length=n:=by simp at hn;exact hn
   have hz:v.list[n]?=some z:=by rw [h,List.append_assoc,List.getElem?_append_right om,hl0];simp
   have hnl:n<v.list.length:=(List.getElem?_eq_some_iff.1 hz).1
   have ihh:=ih (z::l2) l0 hl0 (by rw [h];simp) k om
   have e1:((n+1:Nat):Int) - 1=(n:Int):=om
   rw [e1]
   constructor
   ·show KQ v (JC v k) _ (n:Int)=_
    unfold KQ
    rw [show decide ((n:Int)≥0)=true from decide_eq_true om,cond_true,Br hz,Option.bind_some,wr om om]
    exact ihh.1
   ·show MK v (Lh v k) _ (n:Int)=_
    unfold MK
    rw [show decide ((n:Int)≥0)=true from decide_eq_true om,cond_true,Br hz,Option.bind_some,wr om om]
    exact ihh.2
 unfold Ii Oc gv
 cases h:(v.type_ != 3)
 ·have h:=Jr h
  rw [if_pos h,wr om om]
  have:=loop [] v.list (by simp) N om
  exact this
 ·have h:=Lo h
  rw [if_neg h]
  exact ⟨rfl,rfl⟩
theorem ABE{p:AM}{L:Nat}{v:AI}(h:VV v.type_ v)(hl:v.list.length+1<L):TOK p L v.type_ (gv v):=by
 unfold gv
 rcases Decidable.em (v.type_=3) with h3|h3
 ·rw [if_pos h3]
  have hg: ∀z∈v.list,Gn z:=by
   rcases h with ⟨e,_⟩| ⟨e,_⟩| ⟨_,_,_,_,h⟩
   ·omega
   ·omega
   ·exact h
  rw [h3]
  have key: ∀l:List (Nat×Nat),(∀z∈l,Gn z)→l.length+1<L→TOK p L 3 (l.foldr (fun z t=> .done v0 (.done ⟨1,z,false,[]⟩ .nil .nil) t) (.done ⟨3,(0,0),false,[]⟩ .nil .nil))∧ch (l.foldr (fun z t=> .done v0 (.done ⟨1,z,false,[]⟩ .nil .nil) t) (.done ⟨3,(0,0),false,[]⟩ .nil .nil))=l.length+1:=by
   intro l
   induction l with
   |nil=>intro _ _;exact ⟨.val 3 _ (.inr (.inr ⟨rfl,rfl,rfl,rfl,by simp⟩)) fun _=>rfl,rfl⟩
   |cons z l ih=>
    intro hz hl
    have:=ih (fun w hw=>hz w (List.mem_cons_of_mem _ hw)) (by simp at hl;omega)
    refine ⟨.pair _ _ (.val 1 _ (.inl ⟨rfl,rfl,hz z (List.mem_cons_self ..),rfl,rfl⟩) fun h=>by cases h) this.1 (by rw [this.2];simp at hl;omega),?_⟩
    simp only [List.foldr_cons,ch,this.2,List.length_cons];omega
  exact (key v.list hg hl).1
 ·rw [if_neg h3]
  exact .val _ v h fun e=>absurd e h3
def P2:List AK→List AI→Nm→Nm
 |x::ps,v::vs,acc=>P2 ps vs (.bind x.name (gv v) acc)
 |_,_,acc=>acc
theorem AAC{p:AM}{L:Nat}: ∀(ps:List AK) (vs:List AI) (Δ:List AK) (acc:Nm),ps.length=vs.length→EOK p L Δ acc→(∀(i:Nat) (x:AK) (v:AI),ps[i]?=some x→vs[i]?=some v→v.type_=x.type_∧VV v.type_ v∧v.list.length+1<L)→EOK p L (ps.reverse++Δ) (P2 ps vs acc):=by
 intro ps
 induction ps with
 |nil=>intro vs Δ acc h he _;cases vs with
  |nil=>exact he
  |cons=>cases h
 |cons x ps ih=>
  intro vs Δ acc h he ha
  cases vs with
  |nil=>cases h
  |cons v vs=>
   have h0:=ha 0 x v rfl rfl
   have:=ih vs (x::Δ) (.bind x.name (gv v) acc) (by simpa using h) (.bind x Δ _ acc (h0.1▸ABE h0.2.1 h0.2.2) he) fun i y w h1 h2=>ha (i+1) y w h1 h2
   rw [List.reverse_cons,List.append_assoc]
   exact this
def QZ(most:Int):Nat:=(if (16384:Int)< (if most<0 then 0 else most) then 16384 else (if most<0 then 0 else most)).toNat
theorem SO(most:Int):(if (16384:Int)< (if most<0 then 0 else most) then 16384 else (if most<0 then 0 else most))=(QZ most:Int):=by
 unfold QZ;split<;>split<;>omega
theorem XR(most:Int):QZ most≤16384:=by unfold QZ;split<;>split<;>omega
theorem XS{n:Nat}(h:n≤16384):QZ (n:Int)=n:=by unfold QZ;rw [if_neg (by omega: ¬((n:Int)<0)),if_neg om];rfl
def XT(f:AE)(args:List AI):Prop:=args.length=f.params.length∧∀(i:Nat) (v:AI) (x:AK),args[i]?=some v→f.params[i]?=some x→v.type_=x.type_∧chk v=true
def RI(y:Int):BX:=⟨y,v0,0,0,0,0⟩
def W0(r:Except Int AI)(c:Nat):BX:=match r with
 | .ok v=>⟨0,v,c,0,0,0⟩
 | .error y=>⟨y,v0,c,0,0,0⟩
inductive Uk(p:AM)(nm:List UInt8)(args:List AI)(m:Nat):BX→Prop
 |shape (h: ¬QY p):Uk p nm args m (RI 3)
 |func (h:QY p) (hf:hd p nm=none):Uk p nm args m (RI 32)
 |args {f:AE} (h:QY p) (hf:hd p nm=some f) (ha: ¬XT f args):Uk p nm args m (RI 40)
 |run {f:AE} {r:Except Int AI} {c:Nat} (h:QY p) (hf:hd p nm=some f) (ha:XT f args) (hr:Rn p m f.body (P2 f.params args .nil) r c) (hc:c≤m) (hv:Rv m f.type_ r c):Uk p nm args m (W0 r c)
def AV(args:List AI):Prop:=(∀v∈args,GV v∧v.list.length≤1048577)∧args.length≤1000000000
theorem LV.av{l:List AI}(h:LV l):AV l:=⟨fun v hv=>⟨(h.1 v hv).1.gv (by have:=(h.1 v hv).2;omega),(h.1 v hv).2⟩,by have:=h.2;omega⟩
section
variable{p:AM}{nm:List UInt8}{args:List AI}
theorem ZE(hlen:p.funcs.length≤50000)(hS:FN p): ∀(j i:Nat),i+j=p.funcs.length→∀(m:An),(∀s,OA m s=decide (s∈(p.funcs.take i).map (·.name))∧∀k f,k<i→p.funcs[k]?=some f→f.name=s→Cm m s=(k:Int))→
  ∃mp,Mpp p mp∧(∀s,OA mp s=(hd p s).isSome)∧∃n0,∀N k most,n0≤k→I7 N p nm args most k (i:Int) m=(bif !(OA mp nm) then some (RI 32) else ((idx p.funcs (Cm mp nm)).bind fun x239=>bif ((args.length:Int) != (x239.params.length:Int)) then some (RI 40) else Ee N p args most mp x239 N Nm.nil 0)):=by
 intro j
 induction j with
 |zero=>
  intro i hi m hm
  have htk:p.funcs.take i=p.funcs:=List.take_of_length_le om
  refine ⟨m,fun s f hf=>?_,fun s=>?_,1,fun N k most hk=>?_⟩
  ·have hfm:=List.mem_of_find?_eq_some hf
   obtain ⟨k,hk⟩:=List.mem_iff_getElem?.1 hfm
   have hfn:f.name=s:=by have:=List.find?_some hf;simpa using this
   have:=(hm s).2 k f (by have:=(List.getElem?_eq_some_iff.1 hk).1;omega) hk hfn
   rw [this]
   exact Br hk
  ·rw [(hm s).1,htk]
   cases hh:hd p s with
   |none=>
    rw [decide_eq_false];rfl
    intro h
    obtain ⟨f,hf,hfn⟩:=List.mem_map.1 h
    unfold hd at hh
    rw [List.find?_eq_none] at hh
    exact hh f hf (by simpa using hfn)
   |some f=>
    rw [decide_eq_true];rfl
    have hfn:f.name=s:=by have:=List.find?_some hh;simpa using this
    exact List.mem_map.2 ⟨f,List.mem_of_find?_eq_some hh,hfn⟩
  ·obtain ⟨k,rfl⟩: ∃j,k=j+1:=⟨k - 1,om⟩
   show JG N p nm args most (I7 N p nm args most k) i m=_
   unfold JG
   rw [show decide ((i:Int)< (p.funcs.length:Int))=false from decide_eq_false om,cond_false]
   rfl
 |succ j ihj=>
  intro i hi m hm
  obtain ⟨f,hf⟩: ∃f,p.funcs[i]?=some f:=⟨_,List.getElem?_eq_getElem om⟩
  have htk:(p.funcs.take (i+1)).map (·.name)=(p.funcs.take i).map (·.name)++[f.name]:=by rw [List.take_add_one,hf];simp
  obtain ⟨mp,h1,h2,n0,h3⟩:=ihj (i+1) om (Lq f.name i m) fun s=>by
   rw [Xr,MZ,htk]
   cases hn:(s==f.name)
   ·have hne:s≠f.name:=by simpa using hn
    rw [cond_false,cond_false]
    refine ⟨?_,fun k g hk hg hgn=>?_⟩
    ·rw [(hm s).1];congr 1;simp [hne]
    ·rcases Nat.eq_or_lt_of_le (Nat.le_of_lt_succ hk) with rfl|hlt
     ·rw [hf] at hg;cases hg;exact absurd hgn.symm hne
     ·exact (hm s).2 k g hlt hg hgn
   ·have hne:s=f.name:=by simpa using hn
    rw [cond_true,cond_true]
    refine ⟨?_,fun k g hk hg hgn=>?_⟩
    ·rw [decide_eq_true];rw [hne];simp
    ·rcases Nat.eq_or_lt_of_le (Nat.le_of_lt_succ hk) with rfl|hlt
     ·rfl
     ·refine absurd (List.mem_map.2 ⟨g,?_,hgn.trans hne⟩) (hS i f hf)
      rw [List.mem_take_iff_getElem]
      obtain ⟨a1,a2⟩:=List.getElem?_eq_some_iff.1 hg
      exact ⟨k,om,a2⟩
  refine ⟨mp,h1,h2,n0+1,fun N k most hk=>?_⟩
  obtain ⟨k,rfl⟩: ∃j,k=j+1:=⟨k - 1,om⟩
  show JG N p nm args most (I7 N p nm args most k) i m=_
  unfold JG
  rw [show decide ((i:Int)< (p.funcs.length:Int))=true from decide_eq_true om,cond_true,Br hf,Option.bind_some,wr om om,show (i:Int)+1=((i+1:Nat):Int) by omega]
  exact h3 N k most om
theorem AAD(hA:AV args){f:AE}(hf:f.params.length≤1000000):ET (fun N=>Lz N f args) fun b=>b=true↔XT f args:=by
 unfold Lz
 refine ET.cond (fun h=> .some ⟨fun h=>(by cases h),fun h'=>absurd (congrArg Int.ofNat h'.1) (Lo h)⟩) fun h=>?_
 have h:=Jr h
 have hlen:args.length=f.params.length:=om
 have loop: ∀(j i:Nat),i+j=args.length→EL (fun N k=>K6 N f args k (i:Int)) fun b=>b=true↔∀(i':Nat) (v:AI) (x:AK),i≤i'→args[i']?=some v→f.params[i']?=some x→v.type_=x.type_∧chk v=true:=by
  intro j
  induction j with
  |zero=>
   intro i hi
   refine EL.down ?_
   show EL (fun N k=>KY N f args (K6 N f args k) i) _
   unfold KY
   exact EL.cond (fun h=>by have:=CI h;omega) fun _=> .some ⟨fun _ i' v x hi' hv _=>by have:=(List.getElem?_eq_some_iff.1 hv).1;omega,fun _=>rfl⟩
  |succ j ihj=>
   intro i hi
   obtain ⟨v,hv⟩: ∃v,args[i]?=some v:=⟨_,List.getElem?_eq_getElem om⟩
   obtain ⟨x,hx⟩: ∃x,f.params[i]?=some x:=⟨_,List.getElem?_eq_getElem om⟩
   have hg:=hA.1 v (List.mem_of_getElem? hv)
   refine EL.down ?_
   show EL (fun N k=>KY N f args (K6 N f args k) i) _
   unfold KY NF
   rw [wr om om,show (i:Int)+1=((i+1:Nat):Int) by omega]
   refine EL.cond (fun _=>?_) fun h=>by have:=Db h;omega
   refine EL.eq (Br hv) (EL.eq (Br hx) (EL.cond (fun h=>?_) fun h=>?_))
   ·exact EL.cond (fun _=> .some ⟨fun h=>(by cases h),fun h'=>absurd (h' i v x (Nat.le_refl _) hv hx).1 (Lo h)⟩) fun h=>by cases h
   ·refine EL.bind (P:=fun b=>b=chk v) (RT (v.list.length+2) ⟨_,rfl,fun N hN=>MI hg.1 hN⟩) fun b hb=>?_
    subst hb
    refine EL.cond (fun hc=> .some ⟨fun h=>(by cases h),fun h'=>?_⟩) fun hc=>(ihj (i+1) om).mono fun b hb=>hb.trans ?_
    ·have:=(h' i v x (Nat.le_refl _) hv hx).2;rw [this] at hc;cases hc
    ·constructor
     ·intro h' i' w y hi' hw hy
      rcases Nat.eq_or_lt_of_le hi' with rfl|hlt
      ·rw [hv] at hw;cases hw;rw [hx] at hy;cases hy;exact ⟨Jr h,by simpa using hc⟩
      ·exact h' i' w y hlt hw hy
     ·intro h' i' w y hi' hw hy;exact h' i' w y om hw hy
 refine (loop args.length 0 om).diag.mono fun b hb=>hb.trans ⟨fun h=>⟨hlen,fun i v x hv hx=>h i v x (Nat.zero_le _) hv hx⟩,fun h i v x _ hv hx=>h.2 i v x hv hx⟩
theorem XU(hp:WP p)(hA:AV args)(most:Int): ∃r,Uk p nm args (QZ most) r∧Ev fun N=>FP N p nm args most=some r∧L0 N p nm args most=some r:=by
 have hlen:=hp.len
 obtain ⟨ft,hft,et⟩:=AAB hp
 obtain ⟨fr,hfr,er⟩:=Tu hp
 replace et:Ev fun N=>Gs N p=some ft:=et
 replace er:Ev fun N=>Dq N p=some fr:=er
 rcases Classical.em (QY p) with hS|hS
 rotate_left
 ·refine ⟨_,.shape hS,(et.and er).mono fun N hN=>⟨?_,?_⟩⟩
  ·unfold FP
   rw [hN.1,Option.bind_some,show (ft.why != 0)=true by simp;exact fun h=>hS (hft.1 h)];rfl
  ·unfold L0
   rw [hN.2,Option.bind_some,show (fr.why != 0)=true by simp;exact fun h=>hS (hfr.1 h)];rfl
 have zt:(ft.why != 0)=false:=by simp;exact hft.2 hS
 have zr:(fr.why != 0)=false:=by simp;exact hfr.2 hS
 obtain ⟨mp,hmpp,hmh,n0,hmap⟩:=ZE (nm:=nm) (args:=args) hlen hS.1.1 p.funcs.length 0 om [] fun s=>⟨by simp;rfl,fun k f hk=>om⟩
 have mean0:Ev fun N=>FP N p nm args most=(bif !(OA mp nm) then some (RI 32) else ((idx p.funcs (Cm mp nm)).bind fun x239=>bif ((args.length:Int) != (x239.params.length:Int)) then some (RI 40) else Ee N p args most mp x239 N Nm.nil 0)):=
  (et.and (Lv n0)).mono fun N hN=>by
   unfold FP
   rw [hN.1,Option.bind_some,zt,cond_false]
   exact hmap N N most hN.2
 have ref0:Ev fun N=>L0 N p nm args most=(bif (!(hdR (hd p nm)).2) then some (RI 32) else ((Lz N (hdR (hd p nm)).1 args).bind fun x80=>bif (!x80) then some (RI 40) else (JJ N p args most (hdR (hd p nm)) N Nm.nil 0))):=
  (er.and (Lv (p.funcs.length+2))).mono fun N hN=>by
   unfold L0
   rw [hN.1,Option.bind_some,zr,cond_false,QS om hN.2,Option.bind_some];rfl
 cases hh:hd p nm with
 |none=>
  refine ⟨_,.func hS hh,(mean0.and ref0).mono fun N hN=>⟨?_,?_⟩⟩
  ·rw [hN.1,hmh,hh];rfl
  ·rw [hN.2,hh];rfl
 |some f=>
  have hfm:=List.mem_of_find?_eq_some hh
  have hfn:=hp.fns f hfm
  have hfp:=hfn.pars
  obtain ⟨b,hb,eb⟩:=AAD (f:=f) hA hfp
  replace eb:Ev fun N=>Lz N f args=some b:=eb
  have mean1:Ev fun N=>FP N p nm args most=(bif ((args.length:Int) != (f.params.length:Int)) then some (RI 40) else Ee N p args most mp f N Nm.nil 0):=mean0.mono fun N hN=>by
   rw [hN,hmh,hh,hmpp nm f hh];rfl
  have ref1:Ev fun N=>L0 N p nm args most=(bif (!b) then some (RI 40) else (JJ N p args most (f,true) N Nm.nil 0)):=(ref0.and eb).mono fun N hN=>by
   rw [hN.1,hh]
   show (bif (!true) then _ else ((Lz N f args).bind fun x80=>_))=_
   rw [hN.2];rfl
  have loopM: ∀(Z:Option BX),args.length=f.params.length→∀(j i:Nat),i+j=args.length→∀(acc:Nm),
    ((∀(i':Nat) (v:AI) (x:AK),i≤i'→args[i']?=some v→f.params[i']?=some x→v.type_=x.type_∧chk v=true)→
     ∃n1,∀N k,n1≤N→n1≤k→Ee N p args most mp f k acc (i:Int)=Fq N p args most mp f (fun _ _=>Z) (P2 (f.params.drop i) (args.drop i) acc) (args.length:Int))∧
    ((¬∀(i':Nat) (v:AI) (x:AK),i≤i'→args[i']?=some v→f.params[i']?=some x→v.type_=x.type_∧chk v=true)→
     ∃n1,∀N k,n1≤N→n1≤k→Ee N p args most mp f k acc (i:Int)=some (RI 40)):=by
   intro Z hlen2 j
   induction j with
   |zero=>
    intro i hi acc
    refine ⟨fun _=>⟨1,fun N k _ hk=>?_⟩,fun h=>absurd (fun i' v x hi' hv _=>by have:=(List.getElem?_eq_some_iff.1 hv).1;omega) h⟩
    obtain ⟨k,rfl⟩: ∃j,k=j+1:=⟨k - 1,om⟩
    show Fq N p args most mp f (Ee N p args most mp f k) acc i=_
    have e1:f.params.drop i=[]:=List.drop_eq_nil_of_le om
    have e2:args.drop i=[]:=List.drop_eq_nil_of_le om
    rw [e1,e2]
    unfold Fq
    rw [show decide ((i:Int)< (args.length:Int))=false from decide_eq_false om,show decide ((args.length:Int)< (args.length:Int))=false from decide_eq_false om]
    rfl
   |succ j ihj=>
    intro i hi acc
    obtain ⟨v,hv⟩: ∃v,args[i]?=some v:=⟨_,List.getElem?_eq_getElem om⟩
    obtain ⟨x,hx⟩: ∃x,f.params[i]?=some x:=⟨_,List.getElem?_eq_getElem om⟩
    have hg:=hA.1 v (List.mem_of_getElem? hv)
    have step: ∀N k,v.list.length+2≤N→Ee N p args most mp f (k+1) acc (i:Int)=(bif (v.type_==x.type_&&chk v) then Ee N p args most mp f k (.bind x.name (gv v) acc) ((i+1:Nat):Int) else some (RI 40)):=by
     intro N k hN
     show Fq N p args most mp f (Ee N p args most mp f k) acc i=_
     unfold Fq Lc
     rw [show decide ((i:Int)< (args.length:Int))=true from decide_eq_true om,cond_true,Br hv,Option.bind_some,Br hx,Option.bind_some,Nf hg.1 hN,Option.bind_some,(WM (v:=v) (N:=N) (by have:=hg.2;omega) hN).1,wr om om,show (i:Int)+1=((i+1:Nat):Int) by omega,Option.bind_some,Option.bind_some]
     cases h1:(v.type_==x.type_)
     ·rw [show (v.type_ != x.type_)=true by simp only [bne,h1];rfl];rfl
     ·rw [show (v.type_ != x.type_)=false by simp only [bne,h1];rfl]
      cases chk v<;>rfl
    have ihh:=ihj (i+1) om (.bind x.name (gv v) acc)
    have heq:v.type_=x.type_∧chk v=true↔(v.type_==x.type_&&chk v)=true:=by simp
    have henv:P2 (f.params.drop i) (args.drop i) acc=P2 (f.params.drop (i+1)) (args.drop (i+1)) (.bind x.name (gv v) acc):=by rw [LN hx,LN hv];rfl
    constructor
    ·intro h
     have h0:=h i v x (Nat.le_refl _) hv hx
     obtain ⟨n1,hn1⟩:=ihh.1 fun i' w y hi' hw hy=>h i' w y om hw hy
     refine ⟨n1+v.list.length+3,fun N k hN hk=>?_⟩
     obtain ⟨k,rfl⟩: ∃j,k=j+1:=⟨k - 1,om⟩
     rw [step N k om,heq.1 h0,cond_true,hn1 N k om om,henv]
    ·intro h
     cases hc:(v.type_==x.type_&&chk v)
     ·refine ⟨v.list.length+3,fun N k hN hk=>?_⟩
      obtain ⟨k,rfl⟩: ∃j,k=j+1:=⟨k - 1,om⟩
      rw [step N k om,hc];rfl
     ·obtain ⟨n1,hn1⟩:=ihh.2 fun h'=>h fun i' w y hi' hw hy=>by
       rcases Nat.eq_or_lt_of_le hi' with rfl|hlt
       ·rw [hv] at hw;cases hw;rw [hx] at hy;cases hy;exact heq.2 hc
       ·exact h' i' w y hlt hw hy
      refine ⟨n1+v.list.length+3,fun N k hN hk=>?_⟩
      obtain ⟨k,rfl⟩: ∃j,k=j+1:=⟨k - 1,om⟩
      rw [step N k om,hc]
      exact hn1 N k om om
  rcases Classical.em (XT f args) with hF|hF
  ·
   have hEnv:EOK p 1100000 f.params.reverse (P2 f.params args .nil):=by
    have:=AAC (p:=p) (L:=1100000) f.params args [] .nil hF.1.symm .nil fun i x v hx hv=>by
     have h1:=hF.2 i v x hv hx
     have h2:=hA.1 v (List.mem_of_getElem? hv)
     exact ⟨h1.1,(Yp h2.1).1 h1.2,om⟩
    rwa [List.append_nil] at this
   obtain ⟨r,c,hr,hc,hv⟩:=ABA hp hS.2 om (Nat.le_refl 1100000) (XR most) hEnv (hS.2 f hfm) hfn.body hfn.typ
   refine ⟨_,.run hS hh hF hr hc hv,?_⟩
   obtain ⟨n1,hn1⟩:=(loopM none hF.1 args.length 0 om .nil).1 fun i v x _ hv hx=>hF.2 i v x hv hx
   have mean2:Ev fun N=>FP N p nm args most=Fq N p args most mp f (fun _ _=>none) (P2 f.params args .nil) (args.length:Int):=(mean1.and (Lv n1)).mono fun N hN=>by
    rw [hN.1,show ((args.length:Int) != (f.params.length:Int))=false by simp;have:=hF.1;omega,cond_false]
    exact hn1 N N hN.2 hN.2
   have hbt:b=true:=hb.2 hF
   have loopR: ∀(j i:Nat),i+j=args.length→∀(acc:Nm),∃n1,∀N k,n1≤N→n1≤k→JJ N p args most (f,true) k acc (i:Int)=Gg N p args most (f,true) (fun _ _=>none) (P2 (f.params.drop i) (args.drop i) acc) (args.length:Int):=by
    intro j
    induction j with
    |zero=>
     intro i hi acc
     refine ⟨1,fun N k _ hk=>?_⟩
     obtain ⟨k,rfl⟩: ∃j,k=j+1:=⟨k - 1,om⟩
     show Gg N p args most (f,true) (JJ N p args most (f,true) k) acc i=_
     have e1:f.params.drop i=[]:=List.drop_eq_nil_of_le (by have:=hF.1;omega)
     have e2:args.drop i=[]:=List.drop_eq_nil_of_le om
     rw [e1,e2]
     unfold Gg
     rw [show decide ((i:Int)< (args.length:Int))=false from decide_eq_false om,show decide ((args.length:Int)< (args.length:Int))=false from decide_eq_false om]
     rfl
    |succ j ihj=>
     intro i hi acc
     obtain ⟨v,hv⟩: ∃v,args[i]?=some v:=⟨_,List.getElem?_eq_getElem om⟩
     obtain ⟨x,hx⟩: ∃x,f.params[i]?=some x:=⟨_,List.getElem?_eq_getElem (by have:=hF.1;omega)⟩
     have hg:=hA.1 v (List.mem_of_getElem? hv)
     obtain ⟨n1,hn1⟩:=ihj (i+1) om (.bind x.name (gv v) acc)
     refine ⟨n1+v.list.length+3,fun N k hN hk=>?_⟩
     obtain ⟨k,rfl⟩: ∃j,k=j+1:=⟨k - 1,om⟩
     show Gg N p args most (f,true) (JJ N p args most (f,true) k) acc i=_
     have henv:P2 (f.params.drop i) (args.drop i) acc=P2 (f.params.drop (i+1)) (args.drop (i+1)) (.bind x.name (gv v) acc):=by rw [LN hx,LN hv];rfl
     rw [henv,←hn1 N k om om]
     conv=>lhs;unfold Gg
     have hx':idx (f,true).1.params (i:Int)=some x:=Br hx
     have hai:(i:Int)< (args.length:Int):=om
     have hfl:=hF.1
     rw [show decide ((i:Int)< (args.length:Int))=true from decide_eq_true hai,cond_true,hx',Option.bind_some,Br hv,Option.bind_some,(WM (v:=v) (N:=N) (by have:=hg.2;omega) om).2,Option.bind_some,wr om om,show (i:Int)+1=((i+1:Nat):Int) by omega]
   obtain ⟨n2,hn2⟩:=loopR args.length 0 om .nil
   have ref2:Ev fun N=>L0 N p nm args most=Gg N p args most (f,true) (fun _ _=>none) (P2 f.params args .nil) (args.length:Int):=(ref1.and (Lv n2)).mono fun N hN=>by
    rw [hN.1,hbt]
    exact hn2 N N hN.2 hN.2
   have hm:=XR most
   have dl:decide ((args.length:Int)< (args.length:Int))=false:=decide_eq_false om
   cases hr with
   |err h=>
    rename_i y
    have hy:=PD h y rfl
    refine (((mean2.and ref2).and (QR hp hmpp hm h)).and ((Wz hp hm h).and (Lv 1))).mono fun N hN=>⟨?_,?_⟩
    ·rw [hN.1.1.1]
     unfold Fq
     rw [dl,cond_false,O9,SO]
     have:=hN.1.2
     rw [show ((0:Nat):Int)=0 from rfl] at this
     rw [this];rfl
    ·rw [hN.1.1.2]
     unfold Gg
     rw [dl,cond_false,O9,SO]
     have:=hN.2.1
     rw [show ((0:Nat):Int)=0 from rfl] at this
     rw [this]
     obtain ⟨M,hM⟩: ∃M,N=M+1:=⟨N - 1,by have:=hN.2.2;omega⟩
     subst hM
     show ((IC (M+1) ⟨p,QZ most,c,y⟩ th0).bind fun x312=>_)=_
     unfold IC Ge
     rw [show ((Ai.mk p (QZ most) c y).why==0)=false by simpa using hy,cond_false,cond_false]
     show ((D9 (M+1) (CN (M+1) M) th0 p.funcs (QZ most) c y []).bind fun x312=>_)=_
     unfold D9
     rw [show (y==0)=false by simpa using hy]
     show (bif (y != 0) then _ else _)=_
     rw [show (y != 0)=true by simpa using hy];rfl
   |val h h2=>
    rename_i x c1
    refine (((mean2.and ref2).and ((QR hp hmpp hm h).and (VX hp hmpp hm h2))).and ((Wz hp hm h).and (AA8 hp hm h2))).mono fun N hN=>⟨?_,?_⟩
    ·rw [hN.1.1.1]
     unfold Fq
     rw [dl,cond_false,O9,SO]
     have:=hN.1.2.1
     rw [show ((0:Nat):Int)=0 from rfl] at this
     rw [this]
     show ((D8 N p.funcs c1 (QZ most) mp x).bind fun x757=>_)=_
     rw [hN.1.2.2]
     cases r<;>rfl
    ·rw [hN.1.1.2]
     unfold Gg
     rw [dl,cond_false,O9,SO]
     have:=hN.2.1
     rw [show ((0:Nat):Int)=0 from rfl] at this
     rw [this]
     obtain ⟨v,hv1,hv2⟩:=hN.2.2
     show ((IC N ⟨p,QZ most,c1,0⟩ (.done x.plain x.head x.tail)).bind fun x312=>_)=_
     rw [hv1,Option.bind_some]
     cases r with
     |ok u=>rw [hv2 u rfl];rfl
     |error y=>
      have hy:y≠0:=by rcases hv with ⟨h,_⟩| ⟨h,_⟩<;>omega
      show (bif (y != 0) then _ else _)=_
      rw [show (y != 0)=true by simpa using hy];rfl
  ·
   have hbf:b=false:=by cases hbb:b;rfl;exact absurd (hb.1 hbb) hF
   refine ⟨_,.args hS hh hF,?_⟩
   rcases Decidable.em (args.length=f.params.length) with hl2|hl2
   ·obtain ⟨n1,hn1⟩:=(loopM none hl2 args.length 0 om .nil).2 fun h=>hF ⟨hl2,fun i v x hv hx=>h i v x (Nat.zero_le _) hv hx⟩
    refine ((mean1.and ref1).and (Lv n1)).mono fun N hN=>⟨?_,?_⟩
    ·rw [hN.1.1,show ((args.length:Int) != (f.params.length:Int))=false by simp;omega,cond_false]
     exact hn1 N N hN.2 hN.2
    ·rw [hN.1.2,hbf];rfl
   ·refine (mean1.and ref1).mono fun N hN=>⟨?_,?_⟩
    ·rw [hN.1,show ((args.length:Int) != (f.params.length:Int))=true by simp;omega];rfl
    ·rw [hN.2,hbf];rfl
end
end Fth
namespace Fth
open Go
def Rvv(v:AI):Prop:=v=v0∨(VV v.type_ v∧GV v)
theorem Xt{v:AI}(h:Rvv v):Ev fun N=>Gw N v v=some true:=by
 rcases h with rfl| ⟨h,hg⟩
 ·refine Ev.all fun N=>?_
  have c0:ceq ((0,0):Nat×Nat) (0,0)=true:=by decide
  unfold Gw Jk
  rw [show (v0.type_==0)=true from rfl,cond_true,cond_true,show v0.num=(0,0) from rfl,c0]
  rfl
 ·have ht:v.type_≠0:=by rcases h with ⟨e,_⟩| ⟨e,_⟩| ⟨e,_⟩<;>omega
  have hl:=hg.2.2
  refine (Lv (v.list.length+2)).mono fun N hN=>?_
  have cself: ∀z,Gn z→cne z z=false:=fun z hz=>by
   obtain ⟨n,hn,rfl⟩:=(RE z).1 hz
   have:=Yh hn hn
   simp only [decide_true,Bool.and_self] at this
   unfold ceq at this
   unfold cne
   rw [this];rfl
  have loop: ∀(k i:Nat),i≤v.list.length→v.list.length<i+k→JK v v k (i:Int)=some true:=by
   intro k
   induction k with
   |zero=>intro i _ _;omega
   |succ k ih=>
    intro i hi hk
    show KZ v v (JK v v k) i=_
    unfold KZ
    cases hc:decide ((i:Int)< (v.list.length:Int))
    ·rfl
    ·have hc:=CI hc
     obtain ⟨z,hz⟩: ∃z,v.list[i]?=some z:=⟨_,List.getElem?_eq_getElem om⟩
     rw [cond_true,Br hz,Option.bind_some,Option.bind_some,cself z (hg.2.1 z (List.mem_of_getElem? hz)),cond_false,wr om om,show (i:Int)+1=((i+1:Nat):Int) by omega]
     exact ih (i+1) om om
  have hch:=(Yp hg).2 h
  unfold Gw Jk
  rw [show (v.type_==0)=false by simpa using ht,cond_false,cond_false]
  unfold JL HR
  rw [MI hg hN,Option.bind_some,hch,Bool.not_true,cond_false,Option.bind_some,Bool.not_true,cond_false,show (v.type_ != v.type_)=false by simp,cond_false,cself v.num hg.1,cond_false,show (!(v.bool==v.bool))=false by simp,cond_false,show ((v.list.length:Int) != (v.list.length:Int))=false by simp,cond_false]
  have:=loop N 0 om om
  rw [show ((0:Nat):Int)=0 from rfl] at this
  rw [this];rfl
section
variable{p:AM}{nm:List UInt8}{args:List AI}{m:Nat}
theorem ZF{r:BX}(h:Uk p nm args m r):Rvv r.value:=by
 cases h with
 |shape=>exact .inl rfl
 |func=>exact .inl rfl
 |args=>exact .inl rfl
 | @run f r c h hf ha hr hc hv=>
  cases r with
  |error y=>exact .inl rfl
  |ok v=>exact .inr ⟨hv.1.type▸hv.1,hv.1.gv (by have:=hv.2.2;omega)⟩
end
end Fth
namespace Fth
open Go
class OL{α:Type}(x y:Option α):Prop where
 le: ∀a,x=some a→y=some a
class Up(N M:Nat):Prop where
 le:N≤M
instance OL.refl {α:Type} {x:Option α}:OL x x:=⟨fun _ h=>h⟩
theorem OL.none{α:Type}{x:Option α}:OL none x:=⟨fun _ h=>by cases h⟩
instance OL.bind {α β:Type} {x y:Option α} {f g:α→Option β} [h:OL x y] [k: ∀a,OL (f a) (g a)]:OL (x.bind f) (y.bind g):=⟨fun b hb=>by
 cases x with
 |none=>cases hb
 |some a=>rw [h.le a rfl];exact (k a).le b hb⟩
instance OL.cond {α:Type} {c:Bool} {x y x' y':Option α} [h1:OL x x'] [h2:OL y y']:OL (bif c then x else y) (bif c then x' else y'):=by
 cases c
 ·exact h2
 ·exact h1
theorem Up.go{P:Nat→Nat→Prop}(h0: ∀M,P 0 M)(hs: ∀n m [Up n m],P n m→P (n+1) (m+1)){N M:Nat}[h:Up N M]:P N M:=by
 have: ∀N M,N≤M→P N M:=by
  intro N
  induction N with
  |zero=>intro M _;exact h0 M
  |succ n ih=>
   intro M hM
   cases M with
   |zero=>exact absurd hM (Nat.not_succ_le_zero n)
   |succ m=>exact @hs n m ⟨Nat.le_of_succ_le_succ hM⟩ (ih m (Nat.le_of_succ_le_succ hM))
 exact this N M h.le
set_option linter.unusedVariables false
set_option synthInstance.maxHeartbeats 400000
set_option synthInstance.maxSize 4000
theorem ZG{α0 β:Type}{f f':Nat→α0→Option β}(hs: ∀n m [Up n m] [∀y0,OL (f n y0) (f' m y0)] y0,OL (f (n+1) y0) (f' (m+1) y0))(h0: ∀y0,f 0 y0=none:=by intros;rfl){N M}[Up N M]{y0}:OL (f N y0) (f' M y0):=Up.go (P:=fun N M=>∀y0,OL (f N y0) (f' M y0)) (fun _ _=>by rw [h0];exact .none) (fun n m _ h=>@hs n m _ h) y0
theorem Ul{α0 α1 β:Type}{f f':Nat→α0→α1→Option β}(hs: ∀n m [Up n m] [∀y0 y1,OL (f n y0 y1) (f' m y0 y1)] y0 y1,OL (f (n+1) y0 y1) (f' (m+1) y0 y1))(h0: ∀y0 y1,f 0 y0 y1=none:=by intros;rfl){N M}[Up N M]{y0 y1}:OL (f N y0 y1) (f' M y0 y1):=Up.go (P:=fun N M=>∀y0 y1,OL (f N y0 y1) (f' M y0 y1)) (fun _ _ _=>by rw [h0];exact .none) (fun n m _ h=>@hs n m _ h) y0 y1
theorem ABZ{α0 α1 α2 β:Type}{f f':Nat→α0→α1→α2→Option β}(hs: ∀n m [Up n m] [∀y0 y1 y2,OL (f n y0 y1 y2) (f' m y0 y1 y2)] y0 y1 y2,OL (f (n+1) y0 y1 y2) (f' (m+1) y0 y1 y2))(h0: ∀y0 y1 y2,f 0 y0 y1 y2=none:=by intros;rfl){N M}[Up N M]{y0 y1 y2}:OL (f N y0 y1 y2) (f' M y0 y1 y2):=Up.go (P:=fun N M=>∀y0 y1 y2,OL (f N y0 y1 y2) (f' M y0 y1 y2)) (fun _ _ _ _=>by rw [h0];exact .none) (fun n m _ h=>@hs n m _ h) y0 y1 y2
theorem ABa{α0 α1 α2 α3 β:Type}{f f':Nat→α0→α1→α2→α3→Option β}(hs: ∀n m [Up n m] [∀y0 y1 y2 y3,OL (f n y0 y1 y2 y3) (f' m y0 y1 y2 y3)] y0 y1 y2 y3,OL (f (n+1) y0 y1 y2 y3) (f' (m+1) y0 y1 y2 y3))(h0: ∀y0 y1 y2 y3,f 0 y0 y1 y2 y3=none:=by intros;rfl){N M}[Up N M]{y0 y1 y2 y3}:OL (f N y0 y1 y2 y3) (f' M y0 y1 y2 y3):=Up.go (P:=fun N M=>∀y0 y1 y2 y3,OL (f N y0 y1 y2 y3) (f' M y0 y1 y2 y3)) (fun _ _ _ _ _=>by rw [h0];exact .none) (fun n m _ h=>@hs n m _ h) y0 y1 y2 y3
instance {p0 p2} {s1 s1'} [∀x0,OL (s1 x0) (s1' x0)]:OL (GU p0 s1 p2) (GU p0 s1' p2):=by unfold GU;infer_instance
instance {p0 p1 p3} {s2 s2'} [∀x0,OL (s2 x0) (s2' x0)]:OL (GQ p0 p1 s2 p3) (GQ p0 p1 s2' p3):=by unfold GQ;infer_instance
instance {p0 p1} {k j} [Up k j] {y0}:OL (Ec p0 p1 k y0) (Ec p0 p1 j y0):=ZG fun n m _ _ y0=>inferInstanceAs (OL (GQ p0 p1 (Ec p0 p1 n) y0) (GQ p0 p1 (Ec p0 p1 m) y0))
instance {p1 p2} {N M} [Up N M]:OL (IW N p1 p2) (IW M p1 p2):=by unfold IW;infer_instance
instance {p0 p1 p2 p3 p5} {s4 s4'} [∀x0 x1,OL (s4 x0 x1) (s4' x0 x1)]:OL (Ek p0 p1 p2 p3 s4 p5) (Ek p0 p1 p2 p3 s4' p5):=by unfold Ek;infer_instance
instance {p0 p1 p3 p4} {s2 s2'} [∀x0 x1,OL (s2 x0 x1) (s2' x0 x1)]:OL (FA p0 p1 s2 p3 p4) (FA p0 p1 s2' p3 p4):=by unfold FA;infer_instance
instance {p0 p1} {k j} [Up k j] {y0 y1}:OL (EK p0 p1 k y0 y1) (EK p0 p1 j y0 y1):=Ul fun n m _ _ y0 y1=>inferInstanceAs (OL (FA p0 p1 (EK p0 p1 n) y0 y1) (FA p0 p1 (EK p0 p1 m) y0 y1))
instance {p1 p2} {N M} [Up N M]:OL (Ia N p1 p2) (Ia M p1 p2):=by unfold Ia;infer_instance
instance {p1 p2} {N M} [Up N M]:OL (HW N p1 p2) (HW M p1 p2):=by unfold HW;infer_instance
instance {p1} {N M} [Up N M]:OL (El N p1) (El M p1):=by unfold El;infer_instance
class A6.Le(φ ψ:A6):Prop where
 ref01_digits: ∀x0,OL (φ.ref01_digits x0) (ψ.ref01_digits x0)
attribute [instance] A6.Le.ref01_digits
instance {p2} {φ ψ} [A6.Le φ ψ] {N M} [Up N M]:OL (DO φ N p2) (DO ψ M p2):=by unfold DO;infer_instance
instance {N M} [Up N M]:A6.Le (A6.at N) (A6.at M):=Up.go (P:=fun N M=>A6.Le (A6.at N) (A6.at M)) (fun _=>⟨fun _=> .none⟩) fun n m _ _=>⟨fun x0=>inferInstanceAs (OL (DO (A6.at n) n x0) (DO (A6.at m) m x0))⟩
instance {N M} [Up N M] {y0}:OL (ref01_digits N y0) (ref01_digits M y0):=A6.Le.ref01_digits _
instance {p1} {N M} [Up N M]:OL (F4 N p1) (F4 M p1):=by unfold F4;infer_instance
instance {p1 p2 p3} {N M} [Up N M]:OL (Fi N p1 p2 p3) (Fi M p1 p2 p3):=by unfold Fi;infer_instance
instance {p1 p2 p3} {N M} [Up N M]:OL (HY N p1 p2 p3) (HY M p1 p2 p3):=by unfold HY;infer_instance
instance {p1} {N M} [Up N M]:OL (EW N p1) (EW M p1):=by unfold EW;infer_instance
instance {p0 p1 p3} {s2 s2'} [∀x0,OL (s2 x0) (s2' x0)]:OL (Dr p0 p1 s2 p3) (Dr p0 p1 s2' p3):=by unfold Dr;infer_instance
instance {p0 p1} {k j} [Up k j] {y0}:OL (Dd p0 p1 k y0) (Dd p0 p1 j y0):=ZG fun n m _ _ y0=>inferInstanceAs (OL (Dr p0 p1 (Dd p0 p1 n) y0) (Dr p0 p1 (Dd p0 p1 m) y0))
instance {p1} {N M} [Up N M]:OL (De N p1) (De M p1):=by unfold De;infer_instance
instance {p1 p2 p3 p4 p5} {N M} [Up N M]:OL (IG N p1 p2 p3 p4 p5) (IG M p1 p2 p3 p4 p5):=by unfold IG;infer_instance
instance {p1 p2 p3 p4 p5} {N M} [Up N M]:OL (IH N p1 p2 p3 p4 p5) (IH M p1 p2 p3 p4 p5):=by unfold IH;infer_instance
instance {p1 p2} {N M} [Up N M]:OL (Hv N p1 p2) (Hv M p1 p2):=by unfold Hv;infer_instance
instance {p0 p2 p4} {s1 s1'} [∀x0 x1,OL (s1 x0 x1) (s1' x0 x1)] {s3 s3'} [∀x0,OL (s3 x0) (s3' x0)]:OL (HZ p0 s1 p2 s3 p4) (HZ p0 s1' p2 s3' p4):=by unfold HZ;infer_instance
instance {p0 p1 p4} {s2 s2'} [∀x0 x1,OL (s2 x0 x1) (s2' x0 x1)] {s3 s3'} [∀x0,OL (s3 x0) (s3' x0)]:OL (FB p0 p1 s2 s3 p4) (FB p0 p1 s2' s3' p4):=by unfold FB;infer_instance
instance {p0 p1} {s2 s2'} [∀x0 x1,OL (s2 x0 x1) (s2' x0 x1)] {k j} [Up k j] {y0}:OL (Em p0 p1 s2 k y0) (Em p0 p1 s2' j y0):=ZG fun n m _ _ y0=>inferInstanceAs (OL (FB p0 p1 s2 (Em p0 p1 s2 n) y0) (FB p0 p1 s2' (Em p0 p1 s2' m) y0))
instance {p1 p3 p4} {N M} [Up N M] {s2 s2'} [∀x0 x1,OL (s2 x0 x1) (s2' x0 x1)]:OL (FC N p1 s2 p3 p4) (FC M p1 s2' p3 p4):=by unfold FC;infer_instance
instance {p1} {N M} [Up N M] {k j} [Up k j] {y0 y1}:OL (Df N p1 k y0 y1) (Df M p1 j y0 y1):=Ul fun n m _ _ y0 y1=>inferInstanceAs (OL (FC N p1 (Df N p1 n) y0 y1) (FC M p1 (Df M p1 m) y0 y1))
instance {p1} {N M} [Up N M]:OL (F7 N p1) (F7 M p1):=by unfold F7;infer_instance
instance {p1 p2 p3 p4 p5 p6 p7 p8 p9 p10} {s0 s0'} [∀x0 x1 x2 x3 x4 x5 x6 x7 x8 x9,OL (s0 x0 x1 x2 x3 x4 x5 x6 x7 x8 x9) (s0' x0 x1 x2 x3 x4 x5 x6 x7 x8 x9)]:OL (DG s0 p1 p2 p3 p4 p5 p6 p7 p8 p9 p10) (DG s0' p1 p2 p3 p4 p5 p6 p7 p8 p9 p10):=by unfold DG;infer_instance
instance {k j} [Up k j] {y0 y1 y2 y3 y4 y5 y6 y7 y8 y9}:OL (CP k y0 y1 y2 y3 y4 y5 y6 y7 y8 y9) (CP j y0 y1 y2 y3 y4 y5 y6 y7 y8 y9):=Up.go (P:=fun k j=>∀y0 y1 y2 y3 y4 y5 y6 y7 y8 y9,OL (CP k y0 y1 y2 y3 y4 y5 y6 y7 y8 y9) (CP j y0 y1 y2 y3 y4 y5 y6 y7 y8 y9)) (fun _ _ _ _ _ _ _ _ _ _ _=> .none) (fun n m _ _ y0 y1 y2 y3 y4 y5 y6 y7 y8 y9=>inferInstanceAs (OL (DG (CP n) y0 y1 y2 y3 y4 y5 y6 y7 y8 y9) (DG (CP m) y0 y1 y2 y3 y4 y5 y6 y7 y8 y9))) y0 y1 y2 y3 y4 y5 y6 y7 y8 y9
instance {p1} {N M} [Up N M]:OL (CQ N p1) (CQ M p1):=by unfold CQ;infer_instance
class AC.Le(φ ψ:AC):Prop where
 ref04_reader_expr: ∀x0,OL (φ.ref04_reader_expr x0) (ψ.ref04_reader_expr x0)
 ref04_reader_cons: ∀x0,OL (φ.ref04_reader_cons x0) (ψ.ref04_reader_cons x0)
 ref04_reader_parts: ∀x0 x1,OL (φ.ref04_reader_parts x0 x1) (ψ.ref04_reader_parts x0 x1)
 ref04_reader_branches: ∀x0 x1,OL (φ.ref04_reader_branches x0 x1) (ψ.ref04_reader_branches x0 x1)
 ref04_reader_comp: ∀x0,OL (φ.ref04_reader_comp x0) (ψ.ref04_reader_comp x0)
 ref04_reader_sum: ∀x0,OL (φ.ref04_reader_sum x0) (ψ.ref04_reader_sum x0)
 ref04_reader_term: ∀x0,OL (φ.ref04_reader_term x0) (ψ.ref04_reader_term x0)
 ref04_reader_unit: ∀x0,OL (φ.ref04_reader_unit x0) (ψ.ref04_reader_unit x0)
 ref04_reader_named: ∀x0 x1,OL (φ.ref04_reader_named x0 x1) (ψ.ref04_reader_named x0 x1)
attribute [instance] AC.Le.ref04_reader_expr AC.Le.ref04_reader_cons AC.Le.ref04_reader_parts AC.Le.ref04_reader_branches AC.Le.ref04_reader_comp AC.Le.ref04_reader_sum AC.Le.ref04_reader_term AC.Le.ref04_reader_unit AC.Le.ref04_reader_named
instance {p2 p3 p4 p5 p6 p7 p8 p9 p10 p11 p12 p13} {φ ψ} [AC.Le φ ψ] {N M} [Up N M]:OL (Dg φ N p2 p3 p4 p5 p6 p7 p8 p9 p10 p11 p12 p13) (Dg ψ M p2 p3 p4 p5 p6 p7 p8 p9 p10 p11 p12 p13):=by unfold Dg;infer_instance
instance {p2 p3 p4 p5 p6 p7 p8 p9 p10 p11 p12} {φ ψ} [AC.Le φ ψ] {N M} [Up N M]:OL (Dh φ N p2 p3 p4 p5 p6 p7 p8 p9 p10 p11 p12) (Dh ψ M p2 p3 p4 p5 p6 p7 p8 p9 p10 p11 p12):=by unfold Dh;infer_instance
instance {p2 p3 p4 p5 p6 p7 p8 p9 p10 p11 p12 p13} {φ ψ} [AC.Le φ ψ] {N M} [Up N M]:OL (Di φ N p2 p3 p4 p5 p6 p7 p8 p9 p10 p11 p12 p13) (Di ψ M p2 p3 p4 p5 p6 p7 p8 p9 p10 p11 p12 p13):=by unfold Di;infer_instance
instance {p2 p3 p4 p5 p6 p7 p8 p9 p10 p11 p12} {φ ψ} [AC.Le φ ψ] {N M} [Up N M]:OL (Dj φ N p2 p3 p4 p5 p6 p7 p8 p9 p10 p11 p12) (Dj ψ M p2 p3 p4 p5 p6 p7 p8 p9 p10 p11 p12):=by unfold Dj;infer_instance
instance {p2 p3 p4 p5} {φ ψ} [AC.Le φ ψ] {N M} [Up N M]:OL (Dk φ N p2 p3 p4 p5) (Dk ψ M p2 p3 p4 p5):=by unfold Dk;infer_instance
instance {p2 p3 p4} {φ ψ} [AC.Le φ ψ] {N M} [Up N M]:OL (DH φ N p2 p3 p4) (DH ψ M p2 p3 p4):=by unfold DH;infer_instance
instance {p2} {φ ψ} [AC.Le φ ψ] {N M} [Up N M]:OL (Cy φ N p2) (Cy ψ M p2):=by unfold Cy;infer_instance
instance {p2} {φ ψ} [AC.Le φ ψ] {N M} [Up N M]:OL (Cz φ N p2) (Cz ψ M p2):=by unfold Cz;infer_instance
instance {p1 p2 p4 p5 p6 p7 p8 p9 p10 p11 p12} {φ ψ} [AC.Le φ ψ] {s3 s3'} [∀x0 x1 x2 x3 x4 x5 x6 x7 x8 x9 x10,OL (s3 x0 x1 x2 x3 x4 x5 x6 x7 x8 x9 x10) (s3' x0 x1 x2 x3 x4 x5 x6 x7 x8 x9 x10)]:OL (DQ φ p1 p2 s3 p4 p5 p6 p7 p8 p9 p10 p11 p12) (DQ ψ p1 p2 s3' p4 p5 p6 p7 p8 p9 p10 p11 p12):=by unfold DQ;infer_instance
instance {p1 p3 p4 p5 p6 p7 p8 p9 p10 p11 p12 p13} {φ ψ} [AC.Le φ ψ] {s2 s2'} [∀x0 x1 x2 x3 x4 x5 x6 x7 x8 x9 x10,OL (s2 x0 x1 x2 x3 x4 x5 x6 x7 x8 x9 x10) (s2' x0 x1 x2 x3 x4 x5 x6 x7 x8 x9 x10)]:OL (Cd φ p1 s2 p3 p4 p5 p6 p7 p8 p9 p10 p11 p12 p13) (Cd ψ p1 s2' p3 p4 p5 p6 p7 p8 p9 p10 p11 p12 p13):=by unfold Cd;infer_instance
instance {p1} {φ ψ} [AC.Le φ ψ] {k j} [Up k j] {y0 y1 y2 y3 y4 y5 y6 y7 y8 y9 y10}:OL (Bj φ p1 k y0 y1 y2 y3 y4 y5 y6 y7 y8 y9 y10) (Bj ψ p1 j y0 y1 y2 y3 y4 y5 y6 y7 y8 y9 y10):=Up.go (P:=fun k j=>∀y0 y1 y2 y3 y4 y5 y6 y7 y8 y9 y10,OL (Bj φ p1 k y0 y1 y2 y3 y4 y5 y6 y7 y8 y9 y10) (Bj ψ p1 j y0 y1 y2 y3 y4 y5 y6 y7 y8 y9 y10)) (fun _ _ _ _ _ _ _ _ _ _ _ _=> .none) (fun n m _ _ y0 y1 y2 y3 y4 y5 y6 y7 y8 y9 y10=>inferInstanceAs (OL (Cd φ p1 (Bj φ p1 n) y0 y1 y2 y3 y4 y5 y6 y7 y8 y9 y10) (Cd ψ p1 (Bj ψ p1 m) y0 y1 y2 y3 y4 y5 y6 y7 y8 y9 y10))) y0 y1 y2 y3 y4 y5 y6 y7 y8 y9 y10
instance {p2 p3} {φ ψ} [AC.Le φ ψ] {N M} [Up N M]:OL (Ci φ N p2 p3) (Ci ψ M p2 p3):=by unfold Ci;infer_instance
instance {p2 p3} {φ ψ} [AC.Le φ ψ] {N M} [Up N M]:OL (B6 φ N p2 p3) (B6 ψ M p2 p3):=by unfold B6;infer_instance
instance {p1 p2 p3 p4 p5 p6 p7 p8 p9 p10 p11 p12 p13} {φ ψ} [AC.Le φ ψ]:OL (EF φ p1 p2 p3 p4 p5 p6 p7 p8 p9 p10 p11 p12 p13) (EF ψ p1 p2 p3 p4 p5 p6 p7 p8 p9 p10 p11 p12 p13):=by unfold EF;infer_instance
instance {p1 p2 p3} {φ ψ} [AC.Le φ ψ]:OL (Dl φ p1 p2 p3) (Dl ψ p1 p2 p3):=by unfold Dl;infer_instance
instance {p2} {φ ψ} [AC.Le φ ψ] {N M} [Up N M]:OL (C7 φ N p2) (C7 ψ M p2):=by unfold C7;infer_instance
instance {p0 p1 p2 p3 p4 p5 p6 p8 p9 p10} {s7 s7'} [∀x0 x1 x2 x3 x4 x5 x6 x7 x8 x9 x10 x11 x12 x13 x14 x15,OL (s7 x0 x1 x2 x3 x4 x5 x6 x7 x8 x9 x10 x11 x12 x13 x14 x15) (s7' x0 x1 x2 x3 x4 x5 x6 x7 x8 x9 x10 x11 x12 x13 x14 x15)]:OL (Dz p0 p1 p2 p3 p4 p5 p6 s7 p8 p9 p10) (Dz p0 p1 p2 p3 p4 p5 p6 s7' p8 p9 p10):=by unfold Dz;infer_instance
instance {p1 p2 p3 p4 p5 p6 p7 p8 p9 p10 p11 p12 p13 p14 p15 p16 p18} {φ ψ} [AC.Le φ ψ] {s17 s17'} [∀x0 x1 x2 x3 x4 x5 x6 x7 x8 x9 x10 x11 x12 x13 x14 x15,OL (s17 x0 x1 x2 x3 x4 x5 x6 x7 x8 x9 x10 x11 x12 x13 x14 x15) (s17' x0 x1 x2 x3 x4 x5 x6 x7 x8 x9 x10 x11 x12 x13 x14 x15)]:OL (D0 φ p1 p2 p3 p4 p5 p6 p7 p8 p9 p10 p11 p12 p13 p14 p15 p16 s17 p18) (D0 ψ p1 p2 p3 p4 p5 p6 p7 p8 p9 p10 p11 p12 p13 p14 p15 p16 s17' p18):=by unfold D0;infer_instance
instance {p2 p3 p4 p5 p6 p7 p8 p9 p10 p11 p12 p13 p14 p15 p16 p17} {φ ψ} [AC.Le φ ψ] {s1 s1'} [∀x0 x1 x2 x3 x4 x5 x6 x7 x8 x9 x10 x11 x12 x13 x14 x15,OL (s1 x0 x1 x2 x3 x4 x5 x6 x7 x8 x9 x10 x11 x12 x13 x14 x15) (s1' x0 x1 x2 x3 x4 x5 x6 x7 x8 x9 x10 x11 x12 x13 x14 x15)]:OL (DI φ s1 p2 p3 p4 p5 p6 p7 p8 p9 p10 p11 p12 p13 p14 p15 p16 p17) (DI ψ s1' p2 p3 p4 p5 p6 p7 p8 p9 p10 p11 p12 p13 p14 p15 p16 p17):=by unfold DI;infer_instance
instance {φ ψ} [AC.Le φ ψ] {k j} [Up k j] {y0 y1 y2 y3 y4 y5 y6 y7 y8 y9 y10 y11 y12 y13 y14 y15}:OL (Bq φ k y0 y1 y2 y3 y4 y5 y6 y7 y8 y9 y10 y11 y12 y13 y14 y15) (Bq ψ j y0 y1 y2 y3 y4 y5 y6 y7 y8 y9 y10 y11 y12 y13 y14 y15):=Up.go (P:=fun k j=>∀y0 y1 y2 y3 y4 y5 y6 y7 y8 y9 y10 y11 y12 y13 y14 y15,OL (Bq φ k y0 y1 y2 y3 y4 y5 y6 y7 y8 y9 y10 y11 y12 y13 y14 y15) (Bq ψ j y0 y1 y2 y3 y4 y5 y6 y7 y8 y9 y10 y11 y12 y13 y14 y15)) (fun _ _ _ _ _ _ _ _ _ _ _ _ _ _ _ _ _=> .none) (fun n m _ _ y0 y1 y2 y3 y4 y5 y6 y7 y8 y9 y10 y11 y12 y13 y14 y15=>inferInstanceAs (OL (DI φ (Bq φ n) y0 y1 y2 y3 y4 y5 y6 y7 y8 y9 y10 y11 y12 y13 y14 y15) (DI ψ (Bq ψ m) y0 y1 y2 y3 y4 y5 y6 y7 y8 y9 y10 y11 y12 y13 y14 y15))) y0 y1 y2 y3 y4 y5 y6 y7 y8 y9 y10 y11 y12 y13 y14 y15
instance {p2} {φ ψ} [AC.Le φ ψ] {N M} [Up N M]:OL (DP φ N p2) (DP ψ M p2):=by unfold DP;infer_instance
instance {p0 p1 p2 p3 p4 p5 p6 p8 p9 p10} {s7 s7'} [∀x0 x1 x2 x3 x4 x5 x6 x7 x8 x9 x10 x11 x12 x13 x14 x15,OL (s7 x0 x1 x2 x3 x4 x5 x6 x7 x8 x9 x10 x11 x12 x13 x14 x15) (s7' x0 x1 x2 x3 x4 x5 x6 x7 x8 x9 x10 x11 x12 x13 x14 x15)]:OL (Dm p0 p1 p2 p3 p4 p5 p6 s7 p8 p9 p10) (Dm p0 p1 p2 p3 p4 p5 p6 s7' p8 p9 p10):=by unfold Dm;infer_instance
instance {p1 p2 p3 p4 p5 p6 p7 p8 p9 p10 p11 p12 p13 p14 p15 p16 p18} {φ ψ} [AC.Le φ ψ] {s17 s17'} [∀x0 x1 x2 x3 x4 x5 x6 x7 x8 x9 x10 x11 x12 x13 x14 x15,OL (s17 x0 x1 x2 x3 x4 x5 x6 x7 x8 x9 x10 x11 x12 x13 x14 x15) (s17' x0 x1 x2 x3 x4 x5 x6 x7 x8 x9 x10 x11 x12 x13 x14 x15)]:OL (Dn φ p1 p2 p3 p4 p5 p6 p7 p8 p9 p10 p11 p12 p13 p14 p15 p16 s17 p18) (Dn ψ p1 p2 p3 p4 p5 p6 p7 p8 p9 p10 p11 p12 p13 p14 p15 p16 s17' p18):=by unfold Dn;infer_instance
instance {p2 p3 p4 p5 p6 p7 p8 p9 p10 p11 p12 p13 p14 p15 p16 p17} {φ ψ} [AC.Le φ ψ] {s1 s1'} [∀x0 x1 x2 x3 x4 x5 x6 x7 x8 x9 x10 x11 x12 x13 x14 x15,OL (s1 x0 x1 x2 x3 x4 x5 x6 x7 x8 x9 x10 x11 x12 x13 x14 x15) (s1' x0 x1 x2 x3 x4 x5 x6 x7 x8 x9 x10 x11 x12 x13 x14 x15)]:OL (Ct φ s1 p2 p3 p4 p5 p6 p7 p8 p9 p10 p11 p12 p13 p14 p15 p16 p17) (Ct ψ s1' p2 p3 p4 p5 p6 p7 p8 p9 p10 p11 p12 p13 p14 p15 p16 p17):=by unfold Ct;infer_instance
instance {φ ψ} [AC.Le φ ψ] {k j} [Up k j] {y0 y1 y2 y3 y4 y5 y6 y7 y8 y9 y10 y11 y12 y13 y14 y15}:OL (Bg φ k y0 y1 y2 y3 y4 y5 y6 y7 y8 y9 y10 y11 y12 y13 y14 y15) (Bg ψ j y0 y1 y2 y3 y4 y5 y6 y7 y8 y9 y10 y11 y12 y13 y14 y15):=Up.go (P:=fun k j=>∀y0 y1 y2 y3 y4 y5 y6 y7 y8 y9 y10 y11 y12 y13 y14 y15,OL (Bg φ k y0 y1 y2 y3 y4 y5 y6 y7 y8 y9 y10 y11 y12 y13 y14 y15) (Bg ψ j y0 y1 y2 y3 y4 y5 y6 y7 y8 y9 y10 y11 y12 y13 y14 y15)) (fun _ _ _ _ _ _ _ _ _ _ _ _ _ _ _ _ _=> .none) (fun n m _ _ y0 y1 y2 y3 y4 y5 y6 y7 y8 y9 y10 y11 y12 y13 y14 y15=>inferInstanceAs (OL (Ct φ (Bg φ n) y0 y1 y2 y3 y4 y5 y6 y7 y8 y9 y10 y11 y12 y13 y14 y15) (Ct ψ (Bg ψ m) y0 y1 y2 y3 y4 y5 y6 y7 y8 y9 y10 y11 y12 y13 y14 y15))) y0 y1 y2 y3 y4 y5 y6 y7 y8 y9 y10 y11 y12 y13 y14 y15
instance {p2} {φ ψ} [AC.Le φ ψ] {N M} [Up N M]:OL (C8 φ N p2) (C8 ψ M p2):=by unfold C8;infer_instance
instance {p1 p2 p3 p4 p5 p6 p7 p8} {φ ψ} [AC.Le φ ψ]:OL (CS φ p1 p2 p3 p4 p5 p6 p7 p8) (CS ψ p1 p2 p3 p4 p5 p6 p7 p8):=by unfold CS;infer_instance
instance {p2 p3 p4 p5 p6 p7 p8} {φ ψ} [AC.Le φ ψ] {N M} [Up N M]:OL (Eo φ N p2 p3 p4 p5 p6 p7 p8) (Eo ψ M p2 p3 p4 p5 p6 p7 p8):=by unfold Eo;infer_instance
instance {p2 p3 p4} {φ ψ} [AC.Le φ ψ] {N M} [Up N M]:OL (DJ φ N p2 p3 p4) (DJ ψ M p2 p3 p4):=by unfold DJ;infer_instance
instance {p2} {φ ψ} [AC.Le φ ψ] {N M} [Up N M]:OL (C9 φ N p2) (C9 ψ M p2):=by unfold C9;infer_instance
instance {p1 p3 p4 p5 p6 p7 p8 p9 p10 p11} {φ ψ} [AC.Le φ ψ] {s2 s2'} [∀x0 x1 x2 x3 x4 x5 x6 x7 x8 x9,OL (s2 x0 x1 x2 x3 x4 x5 x6 x7 x8 x9) (s2' x0 x1 x2 x3 x4 x5 x6 x7 x8 x9)]:OL (DR φ p1 s2 p3 p4 p5 p6 p7 p8 p9 p10 p11) (DR ψ p1 s2' p3 p4 p5 p6 p7 p8 p9 p10 p11):=by unfold DR;infer_instance
instance {p1 p2 p3 p4 p5 p6 p7 p8 p9 p10 p11 p13} {φ ψ} [AC.Le φ ψ] {s12 s12'} [∀x0 x1 x2 x3 x4 x5 x6 x7 x8 x9,OL (s12 x0 x1 x2 x3 x4 x5 x6 x7 x8 x9) (s12' x0 x1 x2 x3 x4 x5 x6 x7 x8 x9)]:OL (DS φ p1 p2 p3 p4 p5 p6 p7 p8 p9 p10 p11 s12 p13) (DS ψ p1 p2 p3 p4 p5 p6 p7 p8 p9 p10 p11 s12' p13):=by unfold DS;infer_instance
instance {p1 p3 p4 p5 p6 p7 p8 p9 p10 p11 p12} {φ ψ} [AC.Le φ ψ] {s2 s2'} [∀x0 x1 x2 x3 x4 x5 x6 x7 x8 x9,OL (s2 x0 x1 x2 x3 x4 x5 x6 x7 x8 x9) (s2' x0 x1 x2 x3 x4 x5 x6 x7 x8 x9)]:OL (Ce φ p1 s2 p3 p4 p5 p6 p7 p8 p9 p10 p11 p12) (Ce ψ p1 s2' p3 p4 p5 p6 p7 p8 p9 p10 p11 p12):=by unfold Ce;infer_instance
instance {p1} {φ ψ} [AC.Le φ ψ] {k j} [Up k j] {y0 y1 y2 y3 y4 y5 y6 y7 y8 y9}:OL (Be φ p1 k y0 y1 y2 y3 y4 y5 y6 y7 y8 y9) (Be ψ p1 j y0 y1 y2 y3 y4 y5 y6 y7 y8 y9):=Up.go (P:=fun k j=>∀y0 y1 y2 y3 y4 y5 y6 y7 y8 y9,OL (Be φ p1 k y0 y1 y2 y3 y4 y5 y6 y7 y8 y9) (Be ψ p1 j y0 y1 y2 y3 y4 y5 y6 y7 y8 y9)) (fun _ _ _ _ _ _ _ _ _ _ _=> .none) (fun n m _ _ y0 y1 y2 y3 y4 y5 y6 y7 y8 y9=>inferInstanceAs (OL (Ce φ p1 (Be φ p1 n) y0 y1 y2 y3 y4 y5 y6 y7 y8 y9) (Ce ψ p1 (Be ψ p1 m) y0 y1 y2 y3 y4 y5 y6 y7 y8 y9))) y0 y1 y2 y3 y4 y5 y6 y7 y8 y9
instance {p2 p3} {φ ψ} [AC.Le φ ψ] {N M} [Up N M]:OL (Cj φ N p2 p3) (Cj ψ M p2 p3):=by unfold Cj;infer_instance
instance {N M} [Up N M]:AC.Le (AC.at N) (AC.at M):=Up.go (P:=fun N M=>AC.Le (AC.at N) (AC.at M)) (fun _=>⟨fun _=> .none,fun _=> .none,fun _ _=> .none,fun _ _=> .none,fun _=> .none,fun _=> .none,fun _=> .none,fun _=> .none,fun _ _=> .none⟩) fun n m _ _=>⟨fun x0=>inferInstanceAs (OL (Cy (AC.at n) n x0) (Cy (AC.at m) m x0)),fun x0=>inferInstanceAs (OL (Cz (AC.at n) n x0) (Cz (AC.at m) m x0)),fun x0 x1=>inferInstanceAs (OL (Ci (AC.at n) n x0 x1) (Ci (AC.at m) m x0 x1)),fun x0 x1=>inferInstanceAs (OL (B6 (AC.at n) n x0 x1) (B6 (AC.at m) m x0 x1)),fun x0=>inferInstanceAs (OL (C7 (AC.at n) n x0) (C7 (AC.at m) m x0)),fun x0=>inferInstanceAs (OL (DP (AC.at n) n x0) (DP (AC.at m) m x0)),fun x0=>inferInstanceAs (OL (C8 (AC.at n) n x0) (C8 (AC.at m) m x0)),fun x0=>inferInstanceAs (OL (C9 (AC.at n) n x0) (C9 (AC.at m) m x0)),fun x0 x1=>inferInstanceAs (OL (Cj (AC.at n) n x0 x1) (Cj (AC.at m) m x0 x1))⟩
instance {N M} [Up N M] {y0}:OL (ref04_reader_expr N y0) (ref04_reader_expr M y0):=AC.Le.ref04_reader_expr _
instance {N M} [Up N M] {y0}:OL (ref04_reader_cons N y0) (ref04_reader_cons M y0):=AC.Le.ref04_reader_cons _
instance {N M} [Up N M] {y0 y1}:OL (ref04_reader_parts N y0 y1) (ref04_reader_parts M y0 y1):=AC.Le.ref04_reader_parts _ _
instance {N M} [Up N M] {y0 y1}:OL (ref04_reader_branches N y0 y1) (ref04_reader_branches M y0 y1):=AC.Le.ref04_reader_branches _ _
instance {N M} [Up N M] {y0}:OL (ref04_reader_comp N y0) (ref04_reader_comp M y0):=AC.Le.ref04_reader_comp _
instance {N M} [Up N M] {y0}:OL (ref04_reader_sum N y0) (ref04_reader_sum M y0):=AC.Le.ref04_reader_sum _
instance {N M} [Up N M] {y0}:OL (ref04_reader_term N y0) (ref04_reader_term M y0):=AC.Le.ref04_reader_term _
instance {N M} [Up N M] {y0}:OL (ref04_reader_unit N y0) (ref04_reader_unit M y0):=AC.Le.ref04_reader_unit _
instance {N M} [Up N M] {y0 y1}:OL (ref04_reader_named N y0 y1) (ref04_reader_named M y0 y1):=AC.Le.ref04_reader_named _ _
instance {p1 p3 p4 p5 p6 p7 p8 p9 p10 p11} {N M} [Up N M] {s2 s2'} [∀x0 x1 x2 x3 x4 x5 x6 x7 x8 x9,OL (s2 x0 x1 x2 x3 x4 x5 x6 x7 x8 x9) (s2' x0 x1 x2 x3 x4 x5 x6 x7 x8 x9)]:OL (D1 N p1 s2 p3 p4 p5 p6 p7 p8 p9 p10 p11) (D1 M p1 s2' p3 p4 p5 p6 p7 p8 p9 p10 p11):=by unfold D1;infer_instance
instance {p1 p3 p4 p5 p6 p7 p8 p9 p10 p11 p12} {N M} [Up N M] {s2 s2'} [∀x0 x1 x2 x3 x4 x5 x6 x7 x8 x9,OL (s2 x0 x1 x2 x3 x4 x5 x6 x7 x8 x9) (s2' x0 x1 x2 x3 x4 x5 x6 x7 x8 x9)]:OL (DW N p1 s2 p3 p4 p5 p6 p7 p8 p9 p10 p11 p12) (DW M p1 s2' p3 p4 p5 p6 p7 p8 p9 p10 p11 p12):=by unfold DW;infer_instance
instance {p1 p3 p4 p5 p6 p7 p8 p9 p10 p11} {N M} [Up N M] {s2 s2'} [∀x0 x1 x2 x3 x4 x5 x6 x7 x8 x9,OL (s2 x0 x1 x2 x3 x4 x5 x6 x7 x8 x9) (s2' x0 x1 x2 x3 x4 x5 x6 x7 x8 x9)]:OL (D2 N p1 s2 p3 p4 p5 p6 p7 p8 p9 p10 p11) (D2 M p1 s2' p3 p4 p5 p6 p7 p8 p9 p10 p11):=by unfold D2;infer_instance
instance {p1 p2 p3 p4 p5 p6 p7 p8 p9 p10 p11 p13} {N M} [Up N M] {s12 s12'} [∀x0 x1 x2 x3 x4 x5 x6 x7 x8 x9,OL (s12 x0 x1 x2 x3 x4 x5 x6 x7 x8 x9) (s12' x0 x1 x2 x3 x4 x5 x6 x7 x8 x9)]:OL (DX N p1 p2 p3 p4 p5 p6 p7 p8 p9 p10 p11 s12 p13) (DX M p1 p2 p3 p4 p5 p6 p7 p8 p9 p10 p11 s12' p13):=by unfold DX;infer_instance
instance {p1 p3 p4 p5 p6 p7 p8 p9 p10 p11 p12} {N M} [Up N M] {s2 s2'} [∀x0 x1 x2 x3 x4 x5 x6 x7 x8 x9,OL (s2 x0 x1 x2 x3 x4 x5 x6 x7 x8 x9) (s2' x0 x1 x2 x3 x4 x5 x6 x7 x8 x9)]:OL (DK N p1 s2 p3 p4 p5 p6 p7 p8 p9 p10 p11 p12) (DK M p1 s2' p3 p4 p5 p6 p7 p8 p9 p10 p11 p12):=by unfold DK;infer_instance
instance {p1} {N M} [Up N M] {k j} [Up k j] {y0 y1 y2 y3 y4 y5 y6 y7 y8 y9}:OL (Bd N p1 k y0 y1 y2 y3 y4 y5 y6 y7 y8 y9) (Bd M p1 j y0 y1 y2 y3 y4 y5 y6 y7 y8 y9):=Up.go (P:=fun k j=>∀y0 y1 y2 y3 y4 y5 y6 y7 y8 y9,OL (Bd N p1 k y0 y1 y2 y3 y4 y5 y6 y7 y8 y9) (Bd M p1 j y0 y1 y2 y3 y4 y5 y6 y7 y8 y9)) (fun _ _ _ _ _ _ _ _ _ _ _=> .none) (fun n m _ _ y0 y1 y2 y3 y4 y5 y6 y7 y8 y9=>inferInstanceAs (OL (DK N p1 (Bd N p1 n) y0 y1 y2 y3 y4 y5 y6 y7 y8 y9) (DK M p1 (Bd M p1 m) y0 y1 y2 y3 y4 y5 y6 y7 y8 y9))) y0 y1 y2 y3 y4 y5 y6 y7 y8 y9
instance {p1 p2 p3 p4 p5 p6 p7 p8 p9} {N M} [Up N M]:OL (D3 N p1 p2 p3 p4 p5 p6 p7 p8 p9) (D3 M p1 p2 p3 p4 p5 p6 p7 p8 p9):=by unfold D3;infer_instance
instance {p1 p2} {N M} [Up N M]:OL (D4 N p1 p2) (D4 M p1 p2):=by unfold D4;infer_instance
instance {p1 p2} {N M} [Up N M]:OL (Cs N p1 p2) (Cs M p1 p2):=by unfold Cs;infer_instance
instance {p1 p2 p3 p4 p5 p6 p7 p8 p9 p10 p12} {N M} [Up N M] {s11 s11'} [∀x0 x1 x2 x3 x4 x5 x6 x7 x8 x9,OL (s11 x0 x1 x2 x3 x4 x5 x6 x7 x8 x9) (s11' x0 x1 x2 x3 x4 x5 x6 x7 x8 x9)]:OL (B7 N p1 p2 p3 p4 p5 p6 p7 p8 p9 p10 s11 p12) (B7 M p1 p2 p3 p4 p5 p6 p7 p8 p9 p10 s11' p12):=by unfold B7;infer_instance
instance {p2 p3 p4 p5 p6 p7 p8 p9 p10 p11} {N M} [Up N M] {s1 s1'} [∀x0 x1 x2 x3 x4 x5 x6 x7 x8 x9,OL (s1 x0 x1 x2 x3 x4 x5 x6 x7 x8 x9) (s1' x0 x1 x2 x3 x4 x5 x6 x7 x8 x9)]:OL (CK N s1 p2 p3 p4 p5 p6 p7 p8 p9 p10 p11) (CK M s1' p2 p3 p4 p5 p6 p7 p8 p9 p10 p11):=by unfold CK;infer_instance
instance {N M} [Up N M] {k j} [Up k j] {y0 y1 y2 y3 y4 y5 y6 y7 y8 y9}:OL (BR N k y0 y1 y2 y3 y4 y5 y6 y7 y8 y9) (BR M j y0 y1 y2 y3 y4 y5 y6 y7 y8 y9):=Up.go (P:=fun k j=>∀y0 y1 y2 y3 y4 y5 y6 y7 y8 y9,OL (BR N k y0 y1 y2 y3 y4 y5 y6 y7 y8 y9) (BR M j y0 y1 y2 y3 y4 y5 y6 y7 y8 y9)) (fun _ _ _ _ _ _ _ _ _ _ _=> .none) (fun n m _ _ y0 y1 y2 y3 y4 y5 y6 y7 y8 y9=>inferInstanceAs (OL (CK N (BR N n) y0 y1 y2 y3 y4 y5 y6 y7 y8 y9) (CK M (BR M m) y0 y1 y2 y3 y4 y5 y6 y7 y8 y9))) y0 y1 y2 y3 y4 y5 y6 y7 y8 y9
instance {p1} {N M} [Up N M]:OL (Bv N p1) (Bv M p1):=by unfold Bv;infer_instance
instance {p1 p2} {N M} [Up N M]:OL (Fe N p1 p2) (Fe M p1 p2):=by unfold Fe;infer_instance
instance {p0 p2 p3} {s1 s1'} [∀x0 x1 x2,OL (s1 x0 x1 x2) (s1' x0 x1 x2)]:OL (Hb p0 s1 p2 p3) (Hb p0 s1' p2 p3):=by unfold Hb;infer_instance
instance {p0 p2} {s1 s1'} [∀x0 x1 x2,OL (s1 x0 x1 x2) (s1' x0 x1 x2)]:OL (Hc p0 s1 p2) (Hc p0 s1' p2):=by unfold Hc;infer_instance
instance {p0 p1 p2 p3 p5} {s4 s4'} [∀x0 x1 x2,OL (s4 x0 x1 x2) (s4' x0 x1 x2)]:OL (GW p0 p1 p2 p3 s4 p5) (GW p0 p1 p2 p3 s4' p5):=by unfold GW;infer_instance
instance {p0 p2 p3 p4} {s1 s1'} [∀x0 x1 x2,OL (s1 x0 x1 x2) (s1' x0 x1 x2)]:OL (FD p0 s1 p2 p3 p4) (FD p0 s1' p2 p3 p4):=by unfold FD;infer_instance
instance {p0} {k j} [Up k j] {y0 y1 y2}:OL (EM p0 k y0 y1 y2) (EM p0 j y0 y1 y2):=ABZ fun n m _ _ y0 y1 y2=>inferInstanceAs (OL (FD p0 (EM p0 n) y0 y1 y2) (FD p0 (EM p0 m) y0 y1 y2))
instance {p1} {N M} [Up N M]:OL (GA N p1) (GA M p1):=by unfold GA;infer_instance
instance {p0 p2} {s1 s1'} [∀x0 x1,OL (s1 x0 x1) (s1' x0 x1)]:OL (Hd p0 s1 p2) (Hd p0 s1' p2):=by unfold Hd;infer_instance
instance {p0 p2 p3} {s1 s1'} [∀x0 x1,OL (s1 x0 x1) (s1' x0 x1)]:OL (FE p0 s1 p2 p3) (FE p0 s1' p2 p3):=by unfold FE;infer_instance
instance {p0} {k j} [Up k j] {y0 y1}:OL (Ep p0 k y0 y1) (Ep p0 j y0 y1):=Ul fun n m _ _ y0 y1=>inferInstanceAs (OL (FE p0 (Ep p0 n) y0 y1) (FE p0 (Ep p0 m) y0 y1))
instance {p1} {N M} [Up N M]:OL (B8 N p1) (B8 M p1):=by unfold B8;infer_instance
instance {p1} {N M} [Up N M]:OL (EG N p1) (EG M p1):=by unfold EG;infer_instance
instance {p1 p2 p4} {N M} [Up N M] {s3 s3'} [∀x0 x1,OL (s3 x0 x1) (s3' x0 x1)]:OL (HO N p1 p2 s3 p4) (HO M p1 p2 s3' p4):=by unfold HO;infer_instance
instance {p1 p3 p4} {N M} [Up N M] {s2 s2'} [∀x0 x1,OL (s2 x0 x1) (s2' x0 x1)]:OL (Fk N p1 s2 p3 p4) (Fk M p1 s2' p3 p4):=by unfold Fk;infer_instance
instance {p1} {N M} [Up N M] {k j} [Up k j] {y0 y1}:OL (FF N p1 k y0 y1) (FF M p1 j y0 y1):=Ul fun n m _ _ y0 y1=>inferInstanceAs (OL (Fk N p1 (FF N p1 n) y0 y1) (Fk M p1 (FF M p1 m) y0 y1))
instance {p1} {N M} [Up N M]:OL (GX N p1) (GX M p1):=by unfold GX;infer_instance
instance {p1 p2 p4 p5 p6 p7} {N M} [Up N M] {s3 s3'} [∀x0 x1 x2 x3,OL (s3 x0 x1 x2 x3) (s3' x0 x1 x2 x3)]:OL (FG N p1 p2 s3 p4 p5 p6 p7) (FG M p1 p2 s3' p4 p5 p6 p7):=by unfold FG;infer_instance
instance {p1 p2} {N M} [Up N M] {k j} [Up k j] {y0 y1 y2 y3}:OL (Er N p1 p2 k y0 y1 y2 y3) (Er M p1 p2 j y0 y1 y2 y3):=ABa fun n m _ _ y0 y1 y2 y3=>inferInstanceAs (OL (FG N p1 p2 (Er N p1 p2 n) y0 y1 y2 y3) (FG M p1 p2 (Er M p1 p2 m) y0 y1 y2 y3))
instance {p1 p2 p3} {N M} [Up N M]:OL (Fm N p1 p2 p3) (Fm M p1 p2 p3):=by unfold Fm;infer_instance
instance {p1 p2} {N M} [Up N M]:OL (GY N p1 p2) (GY M p1 p2):=by unfold GY;infer_instance
instance {p1} {N M} [Up N M]:OL (Ff N p1) (Ff M p1):=by unfold Ff;infer_instance
instance {p0 p2} {s1 s1'} [∀x0 x1,OL (s1 x0 x1) (s1' x0 x1)]:OL (He p0 s1 p2) (He p0 s1' p2):=by unfold He;infer_instance
instance {p1 p2 p3 p5 p6 p8} {N M} [Up N M] {s4 s4'} [∀x0 x1,OL (s4 x0 x1) (s4' x0 x1)] {s7 s7'} [∀x0 x1,OL (s7 x0 x1) (s7' x0 x1)]:OL (EN N p1 p2 p3 s4 p5 p6 s7 p8) (EN M p1 p2 p3 s4' p5 p6 s7' p8):=by unfold EN;infer_instance
instance {p1 p2 p3 p6 p7} {N M} [Up N M] {s4 s4'} [∀x0 x1,OL (s4 x0 x1) (s4' x0 x1)] {s5 s5'} [∀x0 x1,OL (s5 x0 x1) (s5' x0 x1)]:OL (FH N p1 p2 p3 s4 s5 p6 p7) (FH M p1 p2 p3 s4' s5' p6 p7):=by unfold FH;infer_instance
instance {p1 p2 p3} {N M} [Up N M] {s4 s4'} [∀x0 x1,OL (s4 x0 x1) (s4' x0 x1)] {k j} [Up k j] {y0 y1}:OL (D6 N p1 p2 p3 s4 k y0 y1) (D6 M p1 p2 p3 s4' j y0 y1):=Ul fun n m _ _ y0 y1=>inferInstanceAs (OL (FH N p1 p2 p3 s4 (D6 N p1 p2 p3 s4 n) y0 y1) (FH M p1 p2 p3 s4' (D6 M p1 p2 p3 s4' m) y0 y1))
instance {p1 p3 p4} {N M} [Up N M] {s2 s2'} [∀x0 x1,OL (s2 x0 x1) (s2' x0 x1)]:OL (FI N p1 s2 p3 p4) (FI M p1 s2' p3 p4):=by unfold FI;infer_instance
instance {p1} {N M} [Up N M] {k j} [Up k j] {y0 y1}:OL (CU N p1 k y0 y1) (CU M p1 j y0 y1):=Ul fun n m _ _ y0 y1=>inferInstanceAs (OL (FI N p1 (CU N p1 n) y0 y1) (FI M p1 (CU M p1 m) y0 y1))
instance {p1} {N M} [Up N M]:OL (GB N p1) (GB M p1):=by unfold GB;infer_instance
instance {p1 p2 p3} {N M} [Up N M]:OL (GZ N p1 p2 p3) (GZ M p1 p2 p3):=by unfold GZ;infer_instance
instance {p1} {N M} [Up N M]:OL (B9 N p1) (B9 M p1):=by unfold B9;infer_instance
theorem Qa{N M}(h:N≤M){a}: ∀x,B9 N a=some x→B9 M a=some x:=haveI:Up N M:=⟨h⟩;(inferInstance:OL (B9 N a) (B9 M a)).le
end Fth
namespace Fth
open Go
theorem AAE(k:Nat):Hk (k+200)=some true:=by kernel_rfl
theorem Qb:Ev fun N=>Hk N=some true:=Ev.down 200 (Ev.all AAE)
theorem AAF{a:Ea}(h:a.args.length≤1048576): ∃x:AM×List AI×Bool,(WPt x.1∧(x.2.2=true→LV x.2.1))∧Ev fun N=>B9 N a=some x:=by
 obtain ⟨x,hx,hq⟩:=Z0 (N:=20000000) h (Nat.le_refl _)
 exact ⟨x,hq,⟨20000000,fun N hN=>Qa hN x hx⟩⟩
theorem ABF{p:AM}(hp:WP p)(hS:FN p): ∃mp,Mpp p mp:=by
 obtain ⟨mp,h,_⟩:=ZE (nm:=[]) (args:=[]) hp.len hS p.funcs.length 0 om [] fun s=>⟨by simp;rfl,fun k f hk=>om⟩
 exact ⟨mp,h⟩
theorem ABG{p:AM}{m:Nat}(hp:WP p)(hS:FN p)(hm:m≤16384){e:AB}{ρ:Nm}{q1 q2:Except Int AI}{c1 c2:Nat}(h1:Rn p m e ρ q1 c1)(h2:Rn p m e ρ q2 c2):q1=q2∧c1=c2:=by
 obtain ⟨mp,hmp⟩:=ABF hp hS
 have lk: ∀{r1 r2:Except Int Ao} {c1 c2:Nat},Lk p m 0 e ρ r1 c1→Lk p m 0 e ρ r2 c2→r1=r2∧c1=c2:=fun h1 h2=>by
  obtain ⟨N,e1,e2⟩:=((QR hp hmp hm h1).and (QR hp hmp hm h2)).get
  rw [e1] at e2
  have:=Option.some.inj e2
  simp only [Prod.mk.injEq] at this
  exact ⟨this.1,om⟩
 cases h1 with
 |err h1=>
  cases h2 with
  |err h2=>obtain ⟨e1,e2⟩:=lk h1 h2;cases e1;exact ⟨rfl,e2⟩
  |val h2 _=>obtain ⟨e1,_⟩:=lk h1 h2;cases e1
 |val h1 k1=>
  cases h2 with
  |err h2=>obtain ⟨e1,_⟩:=lk h1 h2;cases e1
  |val h2 k2=>
   obtain ⟨e1,e2⟩:=lk h1 h2
   cases e1;subst e2
   obtain ⟨N,e1,e2⟩:=((VX hp hmp hm k1).and (VX hp hmp hm k2)).get
   rw [e1] at e2
   have:=Option.some.inj e2
   simp only [Prod.mk.injEq] at this
   exact ⟨this.1,om⟩
end Fth
namespace Fth
open Go
def zz:List UInt8:=[122,122]
inductive Zf:AB→Prop
 |mk (e:AB) (hn:e.op=6→e.name≠zz) (hs: ∀a∈e.args,Zf a):Zf e
theorem Zf.nm{e:AB}(h:Zf e):e.op=6→e.name≠zz:=by cases h;assumption
theorem Zf.sub{e:AB}(h:Zf e): ∀a∈e.args,Zf a:=by cases h;assumption
mutual
inductive Ne:Bool→Nm→Nm→Prop
 |nil (b:Bool):Ne b .nil .nil
 |bind (b:Bool) (n:List UInt8) (t t':Th) (ρ ρ':Nm) (ht:Ts t t') (hr:Ne b ρ ρ'):Ne b (.bind n t ρ) (.bind n t' ρ')
 |letrec (b:Bool) (n:List UInt8) (e:AB) (ρ ρ':Nm) (hz:b=true→Zf e) (hr:Ne b ρ ρ'):Ne b (.letrec n e ρ) (.letrec n e ρ')
 |skipB (b:Bool) (t:Th) (ρ ρ':Nm) (hr:Ne b ρ ρ'):Ne true ρ (.bind zz t ρ')
 |skipL (b:Bool) (e:AB) (ρ ρ':Nm) (hr:Ne b ρ ρ'):Ne true ρ (.letrec zz e ρ')
inductive Ts:Th→Th→Prop
 |nil:Ts .nil .nil
 |done (v:AI) (h t h' t':Th) (hh:Ts h h') (ht:Ts t t'):Ts (.done v h t) (.done v h' t')
 |later (b:Bool) (e:AB) (ρ ρ':Nm) (hz:b=true→Zf e) (hr:Ne b ρ ρ'):Ts (.later e ρ) (.later e ρ')
end
def Rq:Except Int Ao→Except Int Ao→Prop
 | .ok x,.ok y=>x.plain=y.plain∧Ts x.head y.head∧Ts x.tail y.tail
 | .error a,.error b=>a=b
 |_,_=>False
theorem Ni{t t':Th}(h:Ts t t'):t'.isNil=t.isNil:=by cases h<;>rfl
theorem Qc(ρ:Nm):Ne false ρ ρ:=by
 refine Nm.rec (motive_1:=fun ρ=>Ne false ρ ρ) (motive_2:=fun t=>Ts t t) ?_ ?_ ?_ ?_ ?_ ?_ ρ
 ·exact .nil _
 ·intro n t o ht ho;exact .bind _ _ _ _ _ _ ht ho
 ·intro n e o ho;exact .letrec _ _ _ _ _ (fun h=>by cases h) ho
 ·exact .nil
 ·intro v h t hh ht;exact .done _ _ _ _ _ hh ht
 ·intro e ρ hr;exact .later false _ _ _ (fun h=>by cases h) hr
theorem XV{nm:List UInt8}{b:Bool}{ρ ρ':Nm}(h:Ne b ρ ρ'):(b=true→nm≠zz)→∀th,fnd nm ρ=some th→∃th',fnd nm ρ'=some th'∧Ts th th':=by
 refine Ne.rec (motive_1:=fun b ρ ρ' _=>(b=true→nm≠zz)→∀th,fnd nm ρ=some th→∃th',fnd nm ρ'=some th'∧Ts th th') (motive_2:=fun _ _ _=>True) ?_ ?_ ?_ ?_ ?_ ?_ ?_ ?_ h
 ·intro b _ th h;cases h
 ·intro b n t t' ρ ρ' ht hr _ ih hn th h
  rw [fnd] at h ⊢
  cases hx:(n==nm)
  ·rw [hx] at h;exact ih hn th h
  ·rw [hx] at h;cases h;exact ⟨t',rfl,ht⟩
 ·intro b n e ρ ρ' hz hr ih hn th h
  rw [fnd] at h ⊢
  cases hx:(n==nm)
  ·rw [hx] at h;exact ih hn th h
  ·rw [hx] at h;cases h;exact ⟨_,rfl,.later b _ _ _ hz (.letrec b _ _ _ _ hz hr)⟩
 ·intro b t ρ ρ' hr ih hn th h
  have hne:=hn rfl
  rw [fnd,show (zz==nm)=false from beq_false_of_ne fun e=>hne e.symm]
  exact ih (fun _=>hne) th h
 ·intro b e ρ ρ' hr ih hn th h
  have hne:=hn rfl
  rw [fnd,show (zz==nm)=false from beq_false_of_ne fun e=>hne e.symm]
  exact ih (fun _=>hne) th h
 ·trivial
 ·intros;trivial
 ·intros;trivial
theorem Xu{b b':Bool}{ρ ρ':Nm}(h:Ne b ρ ρ'): ∀(ps:List AK) (l:List AB) (acc acc':Nm),(b=true→∀a∈l,Zf a)→Ne b' acc acc'→Ne b' (QQ ρ ps l acc) (QQ ρ' ps l acc'):=by
 intro ps
 induction ps with
 |nil=>intro l acc acc' _ ha;cases l<;>exact ha
 |cons x ps ih=>
  intro l acc acc' hz ha
  cases l with
  |nil=>exact ha
  |cons a l=>exact ih l _ _ (fun hb y hy=>hz hb y (List.mem_cons_of_mem _ hy)) (.bind _ _ _ _ _ _ (.later b _ _ _ (fun hb=>hz hb a (List.mem_cons_self ..)) h) ha)
theorem N5{y:Int}{r':Except Int Ao}(h:Rq (.error y) r'):r'= .error y:=by
 cases r' with
 |ok x=>exact h.elim
 |error z=>cases h;rfl
theorem Mx{x:Ao}{r':Except Int Ao}(h:Rq (.ok x) r'): ∃y,r'= .ok y∧x.plain=y.plain∧Ts x.head y.head∧Ts x.tail y.tail:=by
 cases r' with
 |ok y=>exact ⟨y,rfl,h⟩
 |error z=>exact h.elim
theorem ZH(r:AI×Int):Rq (fin r) (fin r):=by
 unfold fin
 cases (r.2 != 0)
 ·exact ⟨rfl,.nil,.nil⟩
 ·exact rfl
section
variable{p q:AM}{m d:Nat}
theorem W1(hq: ∀nm f,hd p nm=some f→hd q nm=some f){c:Nat}{e:AB}{ρ:Nm}{r:Except Int Ao}{c':Nat}(h:Lk p m c e ρ r c'):
  ∀b ρ',Ne b ρ ρ'→(b=true→Zf e)→∃r',Lk q (d+m) (d+c) e ρ' r' (d+c')∧Rq r r':=by
 have lt: ∀c:Nat,c<m→d+c<d+m:=fun c h=>om
 have sb: ∀{b:Bool} {e:AB} {l:List AB},(b=true→Zf e)→e.args=l→∀a∈l,b=true→Zf a:=fun hz he a ha hb=>(hz hb).sub a (he▸ha)
 induction h with
 |fuel h=>intro b ρ' _ _;exact ⟨_,.fuel om,rfl⟩
 |num h ho=>intro b ρ' _ _;exact ⟨_,.num (lt _ h) ho,rfl,.nil,.nil⟩
 |tru h ho=>intro b ρ' _ _;exact ⟨_,.tru (lt _ h) ho,rfl,.nil,.nil⟩
 |fls h ho=>intro b ρ' _ _;exact ⟨_,.fls (lt _ h) ho,rfl,.nil,.nil⟩
 |nil h ho=>intro b ρ' _ _;exact ⟨_,.nil (lt _ h) ho,rfl,.nil,.nil⟩
 |fail h ho=>intro b ρ' _ _;exact ⟨_,.fail (lt _ h) ho,rfl⟩
 | @vdone c e ρ x h ho hf=>
  intro b ρ' hr hz
  obtain ⟨th,h1,h2⟩:=XV hr (fun hb=>(hz hb).nm ho) _ hf
  cases h2 with
  |done _ _ _ h' t' hh ht=>exact ⟨.ok ⟨x.plain,h',t'⟩,.vdone (x:=⟨x.plain,h',t'⟩) (lt _ h) ho h1,rfl,hh,ht⟩
 | @vlater c e ρ e' ρ1 r c' h ho hf _ ih=>
  intro b ρ' hr hz
  obtain ⟨th,h1,h2⟩:=XV hr (fun hb=>(hz hb).nm ho) _ hf
  cases h2 with
  |later b1 _ _ ρ1' hz1 hr1=>
   obtain ⟨r',l,rr⟩:=ih b1 ρ1' hr1 hz1
   exact ⟨r',.vlater (lt _ h) ho h1 l,rr⟩
 | @call c e ρ f r c' h ho hf hl _ ih=>
  intro b ρ' hr hz
  obtain ⟨r',l,rr⟩:=ih false _ (Xu hr f.params e.args .nil .nil (fun hb=>(hz hb).sub) (.nil _)) (fun hb=>by cases hb)
  exact ⟨r',.call (lt _ h) ho (hq _ _ hf) hl l,rr⟩
 | @cons c e ρ x y h ho ha=>
  intro b ρ' hr hz
  exact ⟨_,.cons (lt _ h) ho ha,rfl,.later b _ _ _ (sb hz ha x (by simp)) hr,.later b _ _ _ (sb hz ha y (by simp)) hr⟩
 | @ifE c e ρ x y z w c' h ho ha _ ih=>
  intro b ρ' hr hz
  obtain ⟨r',l,rr⟩:=ih b ρ' hr (sb hz ha x (by simp))
  obtain rfl:=N5 rr
  exact ⟨_,.ifE (lt _ h) ho ha l,rfl⟩
 | @ifT c e ρ x y z w c1 r c' h ho ha _ hb _ ih1 ih2=>
  intro b ρ' hr hz
  obtain ⟨r1,l1,rr1⟩:=ih1 b ρ' hr (sb hz ha x (by simp))
  obtain ⟨u,rfl,e1,e2,e3⟩:=Mx rr1
  obtain ⟨r',l,rr⟩:=ih2 b ρ' hr (sb hz ha y (by simp))
  exact ⟨r',.ifT (lt _ h) ho ha l1 (e1▸hb) l,rr⟩
 | @ifF c e ρ x y z w c1 r c' h ho ha _ hb _ ih1 ih2=>
  intro b ρ' hr hz
  obtain ⟨r1,l1,rr1⟩:=ih1 b ρ' hr (sb hz ha x (by simp))
  obtain ⟨u,rfl,e1,e2,e3⟩:=Mx rr1
  obtain ⟨r',l,rr⟩:=ih2 b ρ' hr (sb hz ha z (by simp))
  exact ⟨r',.ifF (lt _ h) ho ha l1 (e1▸hb) l,rr⟩
 | @caE c e ρ x y z w c' h ho ha _ ih=>
  intro b ρ' hr hz
  obtain ⟨r',l,rr⟩:=ih b ρ' hr (sb hz ha x (by simp))
  obtain rfl:=N5 rr
  exact ⟨_,.caE (lt _ h) ho ha l,rfl⟩
 | @caN c e ρ x y z w c1 r c' h ho ha _ hb _ ih1 ih2=>
  intro b ρ' hr hz
  obtain ⟨r1,l1,rr1⟩:=ih1 b ρ' hr (sb hz ha x (by simp))
  obtain ⟨u,rfl,e1,e2,e3⟩:=Mx rr1
  obtain ⟨r',l,rr⟩:=ih2 b ρ' hr (sb hz ha y (by simp))
  exact ⟨r',.caN (lt _ h) ho ha l1 ((Ni e2).trans hb) l,rr⟩
 | @caC c e ρ x y z w c1 r c' h ho ha _ hb _ ih1 ih2=>
  intro b ρ' hr hz
  obtain ⟨r1,l1,rr1⟩:=ih1 b ρ' hr (sb hz ha x (by simp))
  obtain ⟨u,rfl,e1,e2,e3⟩:=Mx rr1
  obtain ⟨r',l,rr⟩:=ih2 b _ (.bind _ _ _ _ _ _ e3 (.bind _ _ _ _ _ _ e2 hr)) (sb hz ha z (by simp))
  exact ⟨r',.caC (lt _ h) ho ha l1 ((Ni e2).trans hb) l,rr⟩
 | @lt c e ρ x y r c' h ho ha _ ih=>
  intro b ρ' hr hz
  obtain ⟨r',l,rr⟩:=ih b _ (.letrec _ _ _ _ _ (sb hz ha x (by simp)) hr) (sb hz ha y (by simp))
  exact ⟨r',.lt (lt _ h) ho ha l,rr⟩
 | @stE c e ρ x y w c' h ho ha _ ih=>
  intro b ρ' hr hz
  obtain ⟨r',l,rr⟩:=ih b ρ' hr (sb hz ha x (by simp))
  obtain rfl:=N5 rr
  exact ⟨_,.stE (lt _ h) ho ha l,rfl⟩
 | @stV c e ρ x y w c1 r c' h ho ha _ _ ih1 ih2=>
  intro b ρ' hr hz
  obtain ⟨r1,l1,rr1⟩:=ih1 b ρ' hr (sb hz ha x (by simp))
  obtain ⟨u,rfl,e1,e2,e3⟩:=Mx rr1
  obtain ⟨r',l,rr⟩:=ih2 b (.bind e.name (.done u.plain u.head u.tail) ρ') (.bind _ _ _ _ _ _ (e1▸ .done _ _ _ _ _ e2 e3) hr) (sb hz ha y (by simp))
  exact ⟨r',.stV (lt _ h) ho ha l1 l,rr⟩
 | @unE c e ρ x w c' h ho ha _ ih=>
  intro b ρ' hr hz
  obtain ⟨r',l,rr⟩:=ih b ρ' hr (sb hz ha x (by simp))
  obtain rfl:=N5 rr
  exact ⟨_,.unE (lt _ h) ho ha l,rfl⟩
 | @un c e ρ x w c' r h ho ha _ hA ih=>
  intro b ρ' hr hz
  obtain ⟨r1,l1,rr1⟩:=ih b ρ' hr (sb hz ha x (by simp))
  obtain ⟨u,rfl,e1,e2,e3⟩:=Mx rr1
  exact ⟨_,.un (lt _ h) ho ha l1 (e1▸hA),ZH r⟩
 | @biE c e ρ x y w c' h ho ha _ ih=>
  intro b ρ' hr hz
  obtain ⟨r',l,rr⟩:=ih b ρ' hr (sb hz ha x (by simp))
  obtain rfl:=N5 rr
  exact ⟨_,.biE (lt _ h) ho ha l,rfl⟩
 | @biE2 c e ρ x y w c1 v c' h ho ha _ _ ih1 ih2=>
  intro b ρ' hr hz
  obtain ⟨r1,l1,rr1⟩:=ih1 b ρ' hr (sb hz ha x (by simp))
  obtain ⟨u,rfl,e1,e2,e3⟩:=Mx rr1
  obtain ⟨r',l,rr⟩:=ih2 b ρ' hr (sb hz ha y (by simp))
  obtain rfl:=N5 rr
  exact ⟨_,.biE2 (lt _ h) ho ha l1 l,rfl⟩
 | @bi c e ρ x y w c1 v c' r h ho ha _ _ hA ih1 ih2=>
  intro b ρ' hr hz
  obtain ⟨r1,l1,rr1⟩:=ih1 b ρ' hr (sb hz ha x (by simp))
  obtain ⟨u,rfl,e1,e2,e3⟩:=Mx rr1
  obtain ⟨r2,l2,rr2⟩:=ih2 b ρ' hr (sb hz ha y (by simp))
  obtain ⟨u2,rfl,f1,f2,f3⟩:=Mx rr2
  exact ⟨_,.bi (lt _ h) ho ha l1 l2 (e1▸f1▸hA),ZH r⟩
theorem P3(hq: ∀nm f,hd p nm=some f→hd q nm=some f){c:Nat}{h h':Th}{r:Except Int Ao}{c':Nat}(ht:Tg p m c h r c')(hh:Ts h h'): ∃r',Tg q (d+m) (d+c) h' r' (d+c')∧Rq r r':=by
 cases ht with
 | @done x=>
  cases hh with
  |done _ _ _ a b e1 e2=>exact ⟨_,.done (x:=⟨x.plain,a,b⟩),rfl,e1,e2⟩
 |later hl=>
  cases hh with
  |later b _ _ ρ' hz hr=>
   obtain ⟨r',l,rr⟩:=W1 hq hl b ρ' hr hz
   exact ⟨r',.later l,rr⟩
theorem ABH(hq: ∀nm f,hd p nm=some f→hd q nm=some f){c:Nat}{h t:Th}{acc:List (Nat×Nat)}{r:Except Int AI}{c':Nat}(hw:Wl p m c h t acc r c'): ∀h' t',Ts h h'→Ts t t'→Wl q (d+m) (d+c) h' t' acc r (d+c'):=by
 induction hw with
 |hE hb h1=>
  intro h' t' hh _
  obtain ⟨r',l,rr⟩:=P3 (d:=d) hq h1 hh
  obtain rfl:=N5 rr
  exact .hE hb l
 |tE hb h1 h2=>
  intro h' t' hh ht
  obtain ⟨r1,l1,rr1⟩:=P3 (d:=d) hq h1 hh
  obtain ⟨u,rfl,e1,e2,e3⟩:=Mx rr1
  obtain ⟨r',l,rr⟩:=P3 (d:=d) hq h2 ht
  obtain rfl:=N5 rr
  exact .tE hb l1 l
 |stop hb h1 h2 hz=>
  intro h' t' hh ht
  obtain ⟨r1,l1,rr1⟩:=P3 (d:=d) hq h1 hh
  obtain ⟨u,rfl,e1,e2,e3⟩:=Mx rr1
  obtain ⟨r2,l2,rr2⟩:=P3 (d:=d) hq h2 ht
  obtain ⟨u2,rfl,f1,f2,f3⟩:=Mx rr2
  rw [e1]
  exact .stop hb l1 l2 ((Ni f2).trans hz)
 |go hb h1 h2 hz _ ih=>
  intro h' t' hh ht
  obtain ⟨r1,l1,rr1⟩:=P3 (d:=d) hq h1 hh
  obtain ⟨u,rfl,e1,e2,e3⟩:=Mx rr1
  obtain ⟨r2,l2,rr2⟩:=P3 (d:=d) hq h2 ht
  obtain ⟨u2,rfl,f1,f2,f3⟩:=Mx rr2
  have:=ih _ _ f2 f3
  rw [e1] at this
  exact .go hb l1 l2 ((Ni f2).trans hz) this
theorem ABI(hq: ∀nm f,hd p nm=some f→hd q nm=some f){c:Nat}{x y:Ao}{r:Except Int AI}{c':Nat}(hw:Wh p m c x r c')(e1:x.plain=y.plain)(e2:Ts x.head y.head)(e3:Ts x.tail y.tail):Wh q (d+m) (d+c) y r (d+c'):=by
 cases hw with
 |plain hx=>rw [e1];exact .plain ((Ni e2).trans hx)
 |list hx h=>exact .list ((Ni e2).trans hx) (ABH hq h _ _ e2 e3)
end
end Fth
namespace Fth
open Go
inductive InE(s:List UInt8):AB→Prop
 |here (e:AB) (h:e.name=s):InE s e
 |sub (e a:AB) (ha:a∈e.args) (h:InE s a):InE s e
theorem Xv: ∀(n:Nat) (e:AB),CW e≤n→n≤10000000→ET (fun N=>ref06_within N e) fun l=>l.length≤2*CW e∧∀s,s≠[]→InE s e→s∈l:=by
 intro n
 induction n with
 |zero=>intro e he;have:=LM e;omega
 |succ n ih=>
  intro e he hn
  have hal:=L4 e.args
  have hes:=Mu e
  refine ET.down ?_
  show ET (fun N=>Jl (BA.at N) N e) _
  have loop: ∀(j i:Nat),i+j=e.args.length→∀(acc:List (List UInt8)),acc.length≤2+2*CR (e.args.take i)→
    EL (fun N k=>Gy (BA.at N) e k acc (i:Int)) fun l=>l.length≤2+2*CR e.args∧(∀s,s∈acc→s∈l)∧∀i' a,i≤i'→e.args[i']?=some a→∀s,s≠[]→InE s a→s∈l:=by
   intro j
   induction j with
   |zero=>
    intro i hi acc hacc
    refine EL.down ?_
    show EL (fun N k=>HG (BA.at N) e (Gy (BA.at N) e k) acc i) _
    unfold HG
    have htk:e.args.take i=e.args:=List.take_of_length_le om
    refine EL.cond (fun h=>by have:=CI h;omega) fun _=> .some ⟨by rw [htk] at hacc;exact hacc,fun s h=>h,fun i' a hi' ha=>?_⟩
    have:=(List.getElem?_eq_some_iff.1 ha).1
    omega
   |succ j ihj=>
    intro i hi acc hacc
    refine EL.down ?_
    show EL (fun N k=>HG (BA.at N) e (Gy (BA.at N) e k) acc i) _
    unfold HG
    obtain ⟨a,ha⟩: ∃a,e.args[i]?=some a:=⟨_,List.getElem?_eq_getElem om⟩
    have has:=L3 (List.mem_of_getElem? ha)
    have htk:CR (e.args.take (i+1))=CR (e.args.take i)+CW a:=by rw [List.take_add_one,ha];simp [IU,CR]
    have htk2:CR (e.args.take (i+1))≤CR e.args:=by
     have:=IU (e.args.take (i+1)) (e.args.drop (i+1))
     rw [List.take_append_drop] at this;omega
    refine EL.cond (fun _=>?_) fun h=>by have:=Db h;omega
    refine EL.eq (Br ha) (EL.bind (P:=fun l=>l.length≤2*CW a∧∀s,s≠[]→InE s a→s∈l) ?_ fun l hl=>?_)
    ·exact ih a om om
    refine EL.tb (MM (by decide) om) fun _ _=>?_
    rw [wr om om,show (i:Int)+1=((i+1:Nat):Int) by omega]
    refine (ihj (i+1) om (acc++l) (by rw [List.length_append,htk];omega)).mono fun r hr=>⟨hr.1,fun s hs=>hr.2.1 s (List.mem_append_left _ hs),fun i' b hi' hb s hs hin=>?_⟩
    rcases Nat.eq_or_lt_of_le hi' with rfl|hlt
    ·rw [ha] at hb;cases hb;exact hr.2.1 s (List.mem_append_right _ (hl.2 s hs hin))
    ·exact hr.2.2 i' b hlt hb s hs hin
  have fin: ∀acc:List (List UInt8),acc.length≤2→(e.name≠[]→e.name∈acc)→ET (fun N=>J9 (BA.at N) N e acc) fun l=>l.length≤2*CW e∧∀s,s≠[]→InE s e→s∈l:=by
   intro acc hacc hnm
   refine (EL.diag (loop e.args.length 0 om acc om)).mono fun l hl=>⟨by have:=hl.1;omega,fun s hs hin=>?_⟩
   cases hin with
   |here _ h=>exact hl.2.1 s (h▸hnm (h▸hs))
   |sub _ a ha h=>
    obtain ⟨i,hi⟩:=List.getElem?_of_mem ha
    exact hl.2.2 i a (Nat.zero_le _) hi s hs h
  have fin1: ∀acc:List (List UInt8),acc.length≤1→(e.name≠[]→e.name∈acc)→ET (fun N=>Iz (BA.at N) N e acc) fun l=>l.length≤2*CW e∧∀s,s≠[]→InE s e→s∈l:=by
   intro acc hacc hnm
   unfold Iz
   refine ET.cond (fun _=>ET.tb (MM (by decide) (by simp;omega)) fun _ _=>fin _ (by simp;omega) fun h=>List.mem_append_left _ (hnm h)) fun _=>fin _ om hnm
  unfold Jl
  refine ET.cond (fun _=>ET.tb (MM (by decide) (by simp)) fun _ _=>fin1 _ (by simp) fun _=>by simp) fun h=>fin1 [] (by simp) fun h'=>absurd (by simpa using h) h'
def E3{α:Type}(f:Nat→Nat→Nat→Option α)(Q:α→Prop):Prop:=∃r,Q r∧∃n,∀N k M,n≤N→n≤k→n≤M→f N k M=some r
theorem E3.of{α:Type}{f:Nat→Nat→Option α}{Q:α→Prop}(h:EL f Q):E3 (fun N k _=>f N k) Q:=let ⟨r,hr,n,hn⟩:=h;⟨r,hr,n,fun N k _ h1 h2 _=>hn N k h1 h2⟩
theorem E3.down{α:Type}{f:Nat→Nat→Nat→Option α}{Q:α→Prop}(h:E3 (fun N k M=>f N k (M+1)) Q):E3 f Q:=by
 obtain ⟨r,hr,n,hn⟩:=h
 refine ⟨r,hr,n+1,fun N k M h1 h2 h3=>?_⟩
 have:=hn N k (M - 1) om om om
 dsimp only at this
 rwa [Nat.sub_add_cancel om] at this
theorem E3.cond{α:Type}{c:Bool}{f g:Nat→Nat→Nat→Option α}{Q:α→Prop}(h1:c=true→E3 f Q)(h2:c=false→E3 g Q):E3 (fun N k M=>bif c then f N k M else g N k M) Q:=by
 cases c
 ·exact h2 rfl
 ·exact h1 rfl
theorem E3.eq{α β:Type}{x:Option α}{a:α}{g:Nat→Nat→Nat→α→Option β}{Q:β→Prop}(h:x=Option.some a)(k:E3 (fun N k M=>g N k M a) Q):E3 (fun N k M=>x.bind (g N k M)) Q:=by subst h;exact k
theorem E3.diag{α:Type}{f:Nat→Nat→Nat→Option α}{Q:α→Prop}(h:E3 f Q):EL (fun N k=>f N k N) Q:=let ⟨r,hr,n,hn⟩:=h;⟨r,hr,n,fun N k h1 h2=>hn N k N h1 h2 h1⟩
theorem Xw{l:List (List UInt8)}{k:Nat}{x y:List UInt8}(h1:l[k]?=some y)(hk:k+1<l.length){s:List UInt8}(hs:s∈l.set (k+1) x):s∈(l.set (k+1) y).set k x:=by
 obtain ⟨i,hi⟩:=List.getElem?_of_mem hs
 rw [List.getElem?_set] at hi
 have hkl:k<l.length:=om
 by_cases e:k+1=i
 ·rw [if_pos e,if_pos om] at hi
  cases hi
  exact List.mem_of_getElem? (i:=k) (by rw [List.getElem?_set];simp [hkl])
 ·rw [if_neg e] at hi
  by_cases e2:i=k
  ·subst e2
   rw [h1] at hi;cases hi
   exact List.mem_of_getElem? (i:=i+1) (by rw [List.getElem?_set,if_neg om,List.getElem?_set];simp [hk])
  ·exact List.mem_of_getElem? (i:=i) (by rw [List.getElem?_set,if_neg om,List.getElem?_set,if_neg e];exact hi)
theorem Xx{l:List (List UInt8)}(hl:l.length≤1000000000):ET (fun N=>Gh N l) fun r=>r.length≤l.length∧∀s∈l,s∈r:=by
 have outer: ∀(j i:Nat),i+j=l.length→∀(acc:List (List UInt8)),acc.length≤i→
   EL (fun N k=>CZ N l k acc (i:Int)) fun r=>r.length≤l.length∧(∀s∈acc,s∈r)∧∀i' s,i≤i'→l[i']?=some s→s∈r:=by
  intro j
  induction j with
  |zero=>
   intro i hi acc hacc
   refine EL.down ?_
   show EL (fun N k=>HI N l (CZ N l k) acc i) _
   unfold HI
   refine EL.cond (fun h=>by have:=CI h;omega) fun _=> .some ⟨om,fun s h=>h,fun i' a hi' ha=>?_⟩
   have:=(List.getElem?_eq_some_iff.1 ha).1
   omega
  |succ j ihj=>
   intro i hi acc hacc
   refine EL.down ?_
   show EL (fun N k=>HI N l (CZ N l k) acc i) _
   unfold HI
   obtain ⟨a,ha⟩: ∃a,l[i]?=some a:=⟨_,List.getElem?_eq_getElem om⟩
   refine EL.cond (fun _=>?_) fun h=>by have:=Db h;omega
   refine EL.eq (Br ha) ?_
   have next: ∀(out:List (List UInt8)),out.length≤i+1→(∀s∈acc,s∈out)→a∈out→EL (fun N k=>I0 (i:Int) (CZ N l k) out) fun r=>r.length≤l.length∧(∀s∈acc,s∈r)∧∀i' s,i≤i'→l[i']?=some s→s∈r:=by
    intro out ho h1 h2
    unfold I0
    rw [wr om om,show (i:Int)+1=((i+1:Nat):Int) by omega]
    refine (ihj (i+1) om out ho).mono fun r hr=>⟨hr.1,fun s hs=>hr.2.1 s (h1 s hs),fun i' s hi' hs=>?_⟩
    rcases Nat.eq_or_lt_of_le hi' with rfl|hlt
    ·rw [ha] at hs;cases hs;exact hr.2.1 _ h2
    ·exact hr.2.2 i' s hlt hs
   have inner: ∀(k:Nat) (out:List (List UInt8)),out.length=acc.length+1→k≤acc.length→(∀s∈acc++[a],s∈out.set k a)→
     E3 (fun N k' M=>F0 (i:Int) (CZ N l k') a M out (k:Int)) fun r=>r.length≤l.length∧(∀s∈acc,s∈r)∧∀i' s,i≤i'→l[i']?=some s→s∈r:=by
    intro k
    induction k with
    |zero=>
     intro out ho hk hm
     refine E3.down ?_
     show E3 (fun N k' M=>HH (i:Int) (CZ N l k') a (F0 (i:Int) (CZ N l k') a M) out ((0:Nat):Int)) _
     unfold HH
     refine E3.cond (fun h=>by have:=CI h;omega) fun _=>?_
     unfold H9
     obtain ⟨y,hy⟩: ∃y,out[0]?=some y:=⟨_,List.getElem?_eq_getElem om⟩
     exact E3.eq (Br hy) (E3.of (next _ (by simp;omega) (fun s hs=>hm s (List.mem_append_left _ hs)) (hm a (by simp))))
    |succ k ihk=>
     intro out ho hk hm
     refine E3.down ?_
     show E3 (fun N k' M=>HH (i:Int) (CZ N l k') a (F0 (i:Int) (CZ N l k') a M) out ((k+1:Nat):Int)) _
     obtain ⟨y,hy⟩: ∃y,out[k]?=some y:=⟨_,List.getElem?_eq_getElem om⟩
     obtain ⟨z,hz⟩: ∃z,out[k+1]?=some z:=⟨_,List.getElem?_eq_getElem om⟩
     have ek:IntKind.i64.wrap (((k+1:Nat):Int) - 1)=(k:Int):=by rw [wr om om];omega
     have et:(((k+1:Nat):Int)).toNat=k+1:=om
     have key: ∀c,E3 (fun N k' M=>H9 (i:Int) (CZ N l k') a out ((k+1:Nat):Int) (F0 (i:Int) (CZ N l k') a M) c) fun r=>r.length≤l.length∧(∀s∈acc,s∈r)∧∀i' s,i≤i'→l[i']?=some s→s∈r:=by
      intro c
      unfold H9
      rw [ek,et]
      refine E3.cond (fun _=>E3.eq (Br hy) (E3.eq (Br hz) ?_)) fun _=>E3.eq (Br hz) (E3.of (next _ (by simp;omega) (fun s hs=>hm s (List.mem_append_left _ hs)) (hm a (by simp))))
      exact ihk (out.set (k+1) y) (by simp;omega) om fun s hs=>Xw hy om (hm s hs)
     unfold HH
     rw [ek]
     exact E3.cond (fun _=>E3.eq (Br hy) (key _)) fun _=>key false
   refine EL.bind (f:=fun N=>GJ N acc a) (P:=fun b=>b=decide (a∈acc)) (ET.from (ET.some (r:=decide (a∈acc)) rfl) (acc.length+2) fun N hN=>VZ om hN) fun b hb=>?_
   refine EL.cond (fun h=>next acc om (fun s h=>h) (by rw [hb] at h;exact CI h)) fun _=>EL.tb (MM (by decide) (by simp;omega)) fun _ _=>?_
   refine E3.diag (inner acc.length (acc++[a]) (by simp) (Nat.le_refl _) fun s hs=>?_)
   rw [show (acc++[a]).set acc.length a=acc++[a] by simp]
   exact hs
 unfold Gh
 refine (EL.diag (outer l.length 0 om [] (by simp))).mono fun r hr=>⟨hr.1,fun s hs=>?_⟩
 obtain ⟨i,hi⟩:=List.getElem?_of_mem hs
 exact hr.2.2 i s (Nat.zero_le _) hi
theorem ZI{f:AE}(hb:CW f.body≤1000000)(hp:f.params.length≤1000000):ET (fun N=>Gz N f) fun r=>r.length≤10000000∧∀s,s≠[]→InE s f.body→s∈r:=by
 have loop: ∀(j i:Nat),i+j=f.params.length→∀(acc:List (List UInt8)),acc.length=i+1→EL (fun N k=>Hq N f k acc (i:Int)) fun r=>r.length≤10000000∧∀s,s≠[]→InE s f.body→s∈r:=by
  intro j
  induction j with
  |zero=>
   intro i hi acc hacc
   refine EL.down ?_
   show EL (fun N k=>IA N f (Hq N f k) acc i) _
   unfold IA
   refine EL.cond (fun h=>by have:=CI h;omega) fun _=>?_
   rw [O9]
   refine EL.bind (Xv _ f.body (Nat.le_refl _) om) fun x hx=>EL.eq (XQ om) ?_
   refine EL.of (ET.bind (Xx (by rw [List.length_append];omega)) fun r hr=> .some ⟨by have:=hr.1;rw [List.length_append] at this;omega,fun s hs hin=>hr.2 s (List.mem_append_right _ (hx.2 s hs hin))⟩)
  |succ j ihj=>
   intro i hi acc hacc
   refine EL.down ?_
   show EL (fun N k=>IA N f (Hq N f k) acc i) _
   unfold IA
   obtain ⟨a,ha⟩: ∃a,f.params[i]?=some a:=⟨_,List.getElem?_eq_getElem om⟩
   refine EL.cond (fun _=>EL.eq (Br ha) (EL.tb (MM (by decide) (by simp;omega)) fun _ _=>?_)) fun h=>by have:=Db h;omega
   rw [wr om om,show (i:Int)+1=((i+1:Nat):Int) by omega]
   exact ihj (i+1) om _ (by simp;omega)
 exact EL.diag (loop f.params.length 0 om [f.name] rfl)
theorem ABb{e:AB}: ¬InE zz e→Zf e:=by
 have: ∀(n:Nat) (e:AB),CW e≤n→¬InE zz e→Zf e:=by
  intro n
  induction n with
  |zero=>intro e he;have:=LM e;omega
  |succ n ih=>
   intro e he h
   have hes:=Mu e
   exact .mk e (fun _ hn=>h (.here e hn)) fun a ha=>ih a (by have:=L3 ha;omega) fun h'=>h (.sub e a ha h')
 exact this _ e (Nat.le_refl _)
end Fth
namespace Fth
open Go
section
variable{p:AM}{f:AE}{b:AB}
def gOf(f:AE)(b:AB):AE:=⟨zz,f.params,f.type_,b,f.at_⟩
def qOf(p:AM)(g:AE):AM:=⟨([]++p.funcs)++[g]⟩
theorem PP(p:AM)(g:AE):(qOf p g).funcs=p.funcs++[g]:=rfl
theorem ABJ(hp:WPt p)(hf:f∈p.funcs)(hb:WE b)(hs:CW b≤CW f.body+10):WP (qOf p (gOf f b)):=by
 have h:=hp.fns f hf
 refine ⟨fun x hx=>?_,?_⟩
 ·rw [PP] at hx
  rcases List.mem_append.1 hx with hx|hx
  ·exact hp.wp.fns x hx
  ·simp at hx;subst hx
   have h2:=h.size;have h3:=h.pars
   exact ⟨hb,by show CW b≤_;omega,by show f.params.length≤_;omega,h.typ,h.ptyp⟩
 ·have:=hp.len
  rw [PP,List.length_append];simp;omega
theorem ABK(g:AE): ∀nm x,hd p nm=some x→hd (qOf p g) nm=some x:=fun nm x h=>by
 unfold hd at h ⊢
 rw [PP,List.find?_append,h];rfl
theorem ABL(g:AE)(hg:g.name=zz)(hS:FN (qOf p g)):hd (qOf p g) zz=some g:=by
 have hi:(qOf p g).funcs[p.funcs.length]?=some g:=by rw [PP];simp
 have:=hS _ _ hi
 exact QW hi hg (hg▸this)
def W2(f:AE)(b:AB)(d:Nat):Prop:=
 ∀(q:AM) (M:Nat) (ρ:Nm),d<M→∃ρ' bb,Ne bb ρ ρ'∧∀r c',Lk q M d f.body ρ' r c'→Lk q M 0 b ρ r c'
theorem W3(hz:Zf f.body){d:Nat}(hd1:d≤2)(hA:W2 f b d){args:List AI}{r:Except Int AI}{c:Nat}
  (h:Rn p (16384 - d) f.body (P2 f.params args .nil) r c):Rn (qOf p (gOf f b)) 16384 b (P2 f.params args .nil) r (d+c):=by
 have hq:=ABK (p:=p) (gOf f b)
 obtain ⟨ρ',bb,hN,hL⟩:=hA (qOf p (gOf f b)) 16384 (P2 f.params args .nil) om
 have eM:d+(16384 - d)=16384:=om
 cases h with
 |err h=>
  obtain ⟨r',l,rr⟩:=W1 (d:=d) hq h bb ρ' hN (fun _=>hz)
  obtain rfl:=N5 rr
  rw [eM] at l
  exact .err (hL _ _ l)
 |val h h2=>
  obtain ⟨r',l,rr⟩:=W1 (d:=d) hq h bb ρ' hN (fun _=>hz)
  obtain ⟨u,rfl,e1,e2,e3⟩:=Mx rr
  have w:=ABI (d:=d) hq h2 e1 e2 e3
  rw [eM] at l w
  exact .val (hL _ _ l) w
end
theorem ZJ{r:Except Int AI}{c d:Nat}:(W0 r (d+c)).why=(W0 r c).why∧(W0 r (d+c)).value=(W0 r c).value∧(W0 r (d+c)).moves=(W0 r c).moves+d:=by
 cases r<;>exact ⟨rfl,rfl,by show (((d+c:Nat)):Int)=(c:Int)+d;omega⟩
theorem ABi(v:AI):AI.mk v.type_ v.num v.bool v.list=v:=by cases v;rfl
theorem ZK{a:Ea}{x:AM×List AI×Bool}{f:AE}{b:AB}{d:Nat}(hp:WPt x.1)(hl:LV x.2.1)(hSp:QY x.1)(hf:hd x.1 a.name=some f)(hz:Zf f.body)
  (hd1:d≤2) (hA:W2 f b d) (hb:WE b) (hs:CW b≤CW f.body+10):Ev fun N=>F5 N a x (d:Int) (qOf x.1 (gOf f b)).funcs=some true:=by
 have hfm:f∈x.1.funcs:=List.mem_of_find?_eq_some hf
 have hq:=ABJ hp hfm hb hs
 obtain ⟨fr,hfr,e1⟩:=Tu hq
 obtain ⟨r,hr,ec⟩:=XU (nm:=a.name) hp.wp hl.av (16384 - (d:Int))
 obtain ⟨s,hs',es⟩:=XU (nm:=zz) hq hl.av 16384
 have ew:IntKind.i64.wrap ((16384:Int) - d)=16384 - (d:Int):=wr om om
 have fin:(fr.why=0→(r.why=40∧s.why=40)∨(r.why≠40∧r.why=s.why∧r.value=s.value∧s.moves=r.moves+d∧r.moves≤16384∧0≤r.moves))→Ev fun N=>F5 N a x (d:Int) (qOf x.1 (gOf f b)).funcs=some true:=by
  intro H
  by_cases h0:fr.why=0
  ·refine (((e1.and ec).and es).and (Xt (ZF hr))).mono fun N hN=>?_
   have hN1:Dq N (qOf x.1 (gOf f b))=some fr:=hN.1.1.1
   unfold F5
   show ((Dq N (qOf x.1 (gOf f b))).bind fun x962=>_)=_
   rw [hN1,Option.bind_some,show (fr.why != 0)=false by simp [h0],cond_false,ew,hN.1.1.2.1,Option.bind_some]
   show ((FP N (qOf x.1 (gOf f b)) zz x.2.1 16384).bind fun x1001=>_)=_
   rw [hN.1.2.1,Option.bind_some]
   rcases H h0 with ⟨h1,h2⟩| ⟨h1,h2,h3,h4,h5,h6⟩
   ·rw [h1,h2];rfl
   ·rw [show (r.why==40)=false by simp [h1],cond_false,show (r.why==s.why)=true by simp [h2],cond_true,←h3,ABi,hN.2,Option.bind_some,cond_true,wr om om,h4]
    simp [HJ]
  ·refine e1.mono fun N hN=>?_
   have hN1:Dq N (qOf x.1 (gOf f b))=some fr:=hN
   unfold F5
   show ((Dq N (qOf x.1 (gOf f b))).bind fun x962=>_)=_
   rw [hN1,Option.bind_some,show (fr.why != 0)=true by simp [h0]];rfl
 refine fin fun h0=>?_
 have hSq:=hfr.1 h0
 have hzz:hd (qOf x.1 (gOf f b)) zz=some (gOf f b):=ABL _ rfl hSq.1.1
 have em:QZ (16384 - (d:Int))=16384 - d:=by
  rw [show (16384:Int) - d=((16384 - d:Nat):Int) by omega];exact XS om
 have em2:QZ 16384=16384:=XS (n:=16384) (Nat.le_refl _)
 rw [em] at hr;rw [em2] at hs'
 cases hr with
 |shape h=>exact absurd hSp h
 |func _ h=>rw [hf] at h;cases h
 | @args f' _ h ha=>
  rw [hf] at h;cases h
  cases hs' with
  |shape h=>exact absurd hSq h
  |func _ h=>rw [hzz] at h;cases h
  |args _ h _=>exact .inl ⟨rfl,rfl⟩
  |run _ h ha' _ _ _=>rw [hzz] at h;cases h;exact absurd ha' ha
 | @run f' r c _ h ha hR hc hv=>
  rw [hf] at h;cases h
  have hR2:=W3 (b:=b) hz hd1 hA hR
  cases hs' with
  |shape h=>exact absurd hSq h
  |func _ h=>rw [hzz] at h;cases h
  |args _ h ha'=>rw [hzz] at h;cases h;exact absurd ha ha'
  | @run g r' c' _ h _ hR' _ _=>
   rw [hzz] at h;cases h
   obtain ⟨rfl,rfl⟩:=ABG hq hSq.1.1 (Nat.le_refl _) hR2 hR'
   obtain ⟨h1,h2,h3⟩:=ZJ (r:=r) (c:=c) (d:=d)
   refine .inr ⟨?_,h1.symm,h2.symm,h3,?_,?_⟩
   ·cases r with
    |ok v=>show (0:Int)≠40;decide
    |error y=>
     show y≠40
     have:=hv
     rcases this with h| ⟨h,_⟩
     ·have:=h.1;omega
     ·omega
   ·cases r<;>(show (c:Int)≤16384;omega)
   ·cases r<;>(show (0:Int)≤c;omega)
theorem ZL{a:Ea}{x:AM×List AI×Bool}{f:AE}{o:Int}{n1 n2:List UInt8}{t:Int}{z:Nat×Nat}{l:List AB}{d:Nat}{fb:Bool}(hp:WPt x.1)(hl:LV x.2.1)(hSp:QY x.1)(hf:hd x.1 a.name=some f)(hz:Zf f.body)
  (hd1:d≤2) (hA:W2 f ⟨o,n1,n2,t,z,l,0⟩ d) (hb:WE ⟨o,n1,n2,t,z,l,0⟩) (hs:CW ⟨o,n1,n2,t,z,l,0⟩≤CW f.body+10):Ev fun N=>CO N a x (f,fb) (d:Int) o n1 n2 t z l 0=some true:=by
 refine (ZK (a:=a) hp hl hSp hf hz hd1 hA hb hs).mono fun N hN=>?_
 have hlen:=hp.len
 obtain ⟨_,e1,_⟩:=F1 (b:=152) (xs:=([]:List AE)) (ys:=x.1.funcs) (by decide) (by simp;omega)
 obtain ⟨_,e2,_⟩:=F1 (b:=152) (xs:=([]:List AE)++x.1.funcs) (ys:=[(AE.mk zz f.params f.type_ (AB.mk o n1 n2 t z l 0) f.at_)]) (by decide) (by simp;omega)
 unfold CO
 rw [e1,Option.bind_some]
 show ((Ft 152 (([]:List AE)++x.1.funcs) [(AE.mk zz f.params f.type_ (AB.mk o n1 n2 t z l 0) f.at_)]).bind fun _=>_)=_
 rw [e2,Option.bind_some]
 exact hN
theorem Qd{o t:Int}{z:Nat×Nat}(ho:1≤o∧o≤5)(hz:o=1→Gn z)(ht:o=5→1≤t∧t≤3):WE ⟨o,[],[],t,z,[],0⟩:=
 .mk _ (.inl ⟨ho.1,by show o≤6;omega,rfl⟩) hz (fun h=>by
  rcases h with h|h|h
  ·exact ht h
  ·have:o=21:=h
   omega
  ·have:o=22:=h
   omega) fun a ha=>by cases ha
theorem ABM:Gn (4607182418800017408,0):=⟨1,0,⟨by kernel_rfl,by decide,by decide⟩,⟨by kernel_rfl,by decide,by decide⟩⟩
theorem Kh{o t:Int}{z:Nat×Nat}:CW ⟨o,[],[],t,z,[],0⟩=1:=rfl
theorem PE{o t:Int}{n1 n2:List UInt8}{z:Nat×Nat}{a b c:AB}:CW ⟨o,n1,n2,t,z,[a,b,c],0⟩=1+(CW a+(CW b+(CW c+0))):=by simp [CW,CR]
theorem Um{o t:Int}{n1 n2:List UInt8}{z:Nat×Nat}{a b:AB}:CW ⟨o,n1,n2,t,z,[a,b],0⟩=1+(CW a+(CW b+0)):=by simp [CW,CR]
theorem Tv(a:Ea)(n:Int)(h:a.args.length≤1048576): ∃N,CG N a n=some true:=by
 obtain ⟨x,⟨hpt,hl⟩,er⟩:=AAF h
 have hp:=hpt.wp
 have hlen:=hp.len
 have eh:Ev fun N=>Ey N x.1 a.name=some (hdR (hd x.1 a.name)):=(Lv (x.1.funcs.length+2)).mono fun N hN=>QS om hN
 cases hb:x.2.2
 ·refine (((Qb.and er).and eh).mono (q:=fun N=>CG N a n=some true) fun N hN=>?_).get
  unfold CG
  rw [hN.1.1,Option.bind_some,Bool.not_true,cond_false,hN.1.2,Option.bind_some,hN.2,Option.bind_some,hb];rfl
 have hl:=hl hb
 cases hf:hd x.1 a.name with
 |none=>
  refine (((Qb.and er).and eh).mono (q:=fun N=>CG N a n=some true) fun N hN=>?_).get
  unfold CG
  rw [hN.1.1,Option.bind_some,Bool.not_true,cond_false,hN.1.2,Option.bind_some,hN.2,Option.bind_some,hb,hf];rfl
 |some f=>
  rw [hf] at eh
  replace eh:Ev fun N=>Ey N x.1 a.name=some (f,true):=eh
  obtain ⟨fr,hfr,e1⟩:=Tu hp
  replace e1:Ev fun N=>Dq N x.1=some fr:=e1
  by_cases h0: ¬fr.why=0
  ·refine ((((Qb.and er).and eh).and e1).mono (q:=fun N=>CG N a n=some true) fun N hN=>?_).get
   unfold CG
   rw [hN.1.1.1,Option.bind_some,Bool.not_true,cond_false,hN.1.1.2,Option.bind_some,hN.1.2,Option.bind_some,hb,Bool.not_true,cond_false,cond_false,hN.2,Option.bind_some,show (fr.why != 0)=true by simp [h0]];rfl
  have h0:=Decidable.not_not.1 h0
  have hS:=hfr.1 h0
  have hfm:f∈x.1.funcs:=List.mem_of_find?_eq_some hf
  have hfn:=hp.fns f hfm
  obtain ⟨l,hlN,eN⟩:=ZI (f:=f) hfn.size hfn.pars
  have eH:Ev fun N=>GJ N l zz=some (decide (zz∈l)):=(Lv (l.length+2)).mono fun N hN=>VZ (by have:=hlN.1;omega) hN
  have fin:(Ev fun N=>EJ N a n x (f,true) (decide (zz∈l))=some true)→∃N,CG N a n=some true:=fun hj=>by
   refine ((((((Qb.and er).and eh).and e1).and (eN.and eH)).and hj).mono (q:=fun N=>CG N a n=some true) fun N hN=>?_).get
   have hN5:Gz N f=some l:=hN.1.2.1
   unfold CG
   rw [hN.1.1.1.1.1,Option.bind_some,Bool.not_true,cond_false,hN.1.1.1.1.2,Option.bind_some,hN.1.1.1.2,Option.bind_some,hb,Bool.not_true,cond_false,cond_false,hN.1.1.2,Option.bind_some,show (fr.why != 0)=false by simp [h0],cond_false]
   show ((Gz N f).bind fun x1868=>(GJ N x1868 zz).bind fun x1879=>EJ N a n x (f,true) x1879)=some true
   rw [hN5,Option.bind_some,hN.1.2.2,Option.bind_some]
   exact hN.2
  refine fin ?_
  by_cases hz':zz∈l
  ·rw [decide_eq_true hz'];exact Ev.all fun N=>rfl
  rw [decide_eq_false hz']
  have hz:Zf f.body:=ABb fun hin=>hz' (hlN.2 zz (by decide) hin)
  have hbt:=hfn.typ
  have hbody:=hfn.body
  have j2:=fun {o:Int} {n1 n2:List UInt8} {t:Int} {z:Nat×Nat} {l:List AB} {d:Nat}=>ZL (a:=a) (x:=x) (f:=f) (o:=o) (n1:=n1) (n2:=n2) (t:=t) (z:=z) (l:=l) (d:=d) (fb:=true) hpt hl hS hf hz
  have w3: ∀{o t:Int} {n1 n2:List UInt8} {a b c:AB},19≤o∧o≤20→WE a→WE b→WE c→WE ⟨o,n1,n2,t,(0,0),[a,b,c],0⟩:=fun {o t n1 n2 a b c} ho ha hb hc=>
   .mk _ (.inr (.inr (.inr (.inr (.inr (.inl ⟨ho.1,ho.2,rfl⟩)))))) (fun h=>by have:o=1:=h;omega) (fun h=>by have:o=5∨o=21∨o=22:=h;omega) fun y hy=>by
    simp only [List.mem_cons,List.not_mem_nil,or_false] at hy
    rcases hy with rfl|rfl|rfl<;>assumption
  have w2: ∀{o t:Int} {n1 n2:List UInt8} {a b:AB},21≤o∧o≤22→1≤t∧t≤3→WE a→WE b→WE ⟨o,n1,n2,t,(0,0),[a,b],0⟩:=fun {o t n1 n2 a b} ho ht ha hb=>
   .mk _ (.inr (.inr (.inr (.inr (.inr (.inr ⟨ho.1,ho.2,rfl⟩)))))) (fun h=>by have:o=1:=h;omega) (fun _=>ht) fun y hy=>by
    simp only [List.mem_cons,List.not_mem_nil,or_false] at hy
    rcases hy with rfl|rfl<;>assumption
  have leaf:WE ⟨5,[],[],f.type_,(0,0),[],0⟩:=Qd (by decide) (fun h=>by cases h) fun _=>hbt
  have c0:Ev fun N=>CO N a x (f,true) 2 19 [] [] 0 (0,0) [⟨2,[],[],0,(0,0),[],0⟩,f.body,⟨5,[],[],f.type_,(0,0),[],0⟩] 0=some true:=
   j2 (d:=2) om (fun q M ρ hM=>⟨ρ,false,Qc ρ,fun r c' h=> .ifT om rfl rfl (.tru om rfl) rfl h⟩) (w3 (by decide) (Qd (by decide) (fun h=>by cases h) fun h=>by cases h) hbody leaf) (by rw [PE,Kh,Kh];omega)
  have c1:Ev fun N=>CO N a x (f,true) 2 19 [] [] 0 (0,0) [⟨3,[],[],0,(0,0),[],0⟩,⟨5,[],[],f.type_,(0,0),[],0⟩,f.body] 0=some true:=
   j2 (d:=2) om (fun q M ρ hM=>⟨ρ,false,Qc ρ,fun r c' h=> .ifF om rfl rfl (.fls om rfl) rfl h⟩) (w3 (by decide) (Qd (by decide) (fun h=>by cases h) fun h=>by cases h) leaf hbody) (by rw [PE,Kh,Kh];omega)
  have c2:Ev fun N=>CO N a x (f,true) 2 22 zz [] 1 (0,0) [⟨1,[],[],0,(4607182418800017408,0),[],0⟩,f.body] 0=some true:=
   j2 (d:=2) om (fun q M ρ hM=>⟨_,true,.skipB false _ _ _ (Qc ρ),fun r c' h=> .stV om rfl rfl (.num om rfl) h⟩) (w2 (by decide) (by decide) (Qd (by decide) (fun _=>ABM) fun h=>by cases h) hbody) (by rw [Um,Kh];omega)
  have c3:Ev fun N=>CO N a x (f,true) 1 21 zz [] f.type_ (0,0) [⟨5,[],[],f.type_,(0,0),[],0⟩,f.body] 0=some true:=
   j2 (d:=1) om (fun q M ρ hM=>⟨_,true,.skipL false _ _ _ (Qc ρ),fun r c' h=> .lt om rfl rfl h⟩) (w2 (by decide) hbt leaf hbody) (by rw [Um,Kh];omega)
  have c4:Ev fun N=>CO N a x (f,true) 2 20 zz zz 0 (0,0) [⟨4,[],[],0,(0,0),[],0⟩,f.body,⟨5,[],[],f.type_,(0,0),[],0⟩] 0=some true:=
   j2 (d:=2) om (fun q M ρ hM=>⟨ρ,false,Qc ρ,fun r c' h=> .caN om rfl rfl (.nil om rfl) rfl h⟩) (w3 (by decide) (Qd (by decide) (fun h=>by cases h) fun h=>by cases h) hbody leaf) (by rw [PE,Kh,Kh];omega)
  refine ((((c0.and c1).and c2).and c3).and c4).mono fun N hN=>?_
  unfold EJ
  rw [cond_false,show nz (5:Int)=some () from rfl,Option.bind_some,Option.bind_some]
  dsimp only
  rw [O9]
  generalize (IntKind.i64.wrap (n.tmod 5+5)).tmod 5=k
  cases (k==0)
  ·cases (k==1)
   ·cases (k==2)
    ·cases (k==3)
     ·exact hN.2
     ·exact hN.1.2
    ·exact hN.1.1.2
   ·exact hN.1.1.1.2
  ·exact hN.1.1.1.1
end Fth
namespace Fth
open Go Go.Proofs Go.ChangeShapes Go.WideShapes Go.ChangeAt Go.RowKit
open Go.Proofs.YtiodboehkcmdnaaGreat
open Go.ChangeMaps (open_string shut_string)
open Go.Deep (trod_struct3_mk)
theorem ABN{n:Int}(h:(Lit.int .u8 n).wf=true):((UInt8.ofNat n.toNat).toNat:Int)=n:=by
 have h:0≤n∧n≤255:=by simpa [Lit.wf,IntKind.min,IntKind.max,IntKind.signed,IntKind.bits] using h
 simp only [UInt8.toNat_ofNat']
 omega
theorem SP(s:ByteArray):bs s.data.toList=s:=by cases s;simp [bs]
section
variable{H:Type}{enc:TypeId×Value→H}{W:World}{base:Nat}
theorem AT.old{C C':Col}{W':World}(h:AT [] C W C' W'): ∀b,b<W.heap.size→W'.heap[b]?=W.heap[b]?:=fun b hb=>h.same b hb (by simp)
theorem AT.keptBut{C C':Col}{W':World}(h:AT [] C W C' W')(may:MemPlace→Prop):W.keptBut W' may:=by
 refine ⟨h.os,h.output,fun i hi=>?_⟩
 rw [h.old i hi]
 exact (World.keptBut_refl W may).2.2 i hi
theorem Xy{P:Program}{f:Func}{s:ChangeSpec}{apart fresh handsOn again:Bool}{W':World}{args:Array Value}{v:Value}{ds gs:List (DataW H)}{before pa:List MemPlace}{C C':Col}
  (hW:DataW.Whole enc P f.params.toList s.vars apart W args.toList ds gs before)
  (hres: ∀(b:Nat) (sp:Nat→Bool) (hd:Bool),DataW.TrodAll enc P W' b sp hd f.resultTypes.toList (v.resultList f.resultTypes.size) (s.fn H (ds++gs)).results [])
  (hargs: ∀sp:Nat→Bool,(∀p∈before,sp p.block=true)→DataW.TrodAll enc P W' 0 sp true f.params.toList args.toList (s.fn H (ds++gs)).args pa)
  (hvars: ∀sp:Nat→Bool,DataW.TrodVars enc P W' sp s.vars (s.fn H (ds++gs)).vars [])
  (hps:before=pa) (st:AT [] C W C' W')
  (hok: ∀(j:Nat) (t:TypeId) (r:Value),f.resultTypes[j]?=some t→(v.resultList f.resultTypes.size)[j]?=some r→Value.okWide P W' .any 0 t r):
  s.post enc P f apart fresh handsOn again W args v W':=by
 have hold: ∀p∈before,(fun b=>decide (b<W.heap.size)) p.block=true:=fun p hp=>by simpa using hW.lt p hp
 refine ⟨ds,gs,before,[],pa,[],hW,hres _ _ _,hargs _ hold,hvars _,World.keptBut_mono (fun p hp=>⟨hp,?_⟩) (st.keptBut (· ∈before)),fun _=>?_⟩
 ·rw [hps] at hp
  exact Or.inr (by simpa using hp)
 ·have hlt:=hW.lt
  obtain ⟨_,_,_,_,_,hz,hn⟩:=hW
  refine ⟨hok,_,_,([]++pa)++[],⟨[]++pa,[],trodAll_append (hargs _ (fun _ _=>rfl)) (hres _ _ _),hvars _,rfl,?_,?_⟩,?_⟩
  ·intro b off hp
   have hp':MemPlace.cell b off∈before:=by rw [hps];simpa using hp
   have hb:b<W.heap.size:=hlt _ hp'
   have:=hz b off hp'
   unfold World.frozen? at this ⊢
   rw [st.old b hb]
   exact this
  ·intro ha
   have:=hn ha
   rw [hps] at this
   simpa using this
  ·intro p hp _
   rw [hps]
   simpa using hp
set_option maxRecDepth 100000 in
theorem ZM{v:Value}{d:DataW H}{p:List MemPlace}(hv:Value.okWide Tryz.prog W .any base 24 v)(h:DataW.Trod enc Tryz.prog W 0 (fun _=>true) true 24 v d p):
  ∃(a:Ea) (c0:List Value),v= .agg c0.toArray∧NZ.rep (Col.F fun _=>0) W c0 a∧a.args.length≤Rows.uptoBulk d∧a.text.length≤Rows.uptoBulk d∧a.name.length≤Rows.uptoBulk d∧
   ∀W':World,(∀b,b<W.heap.size→W'.heap[b]?=W.heap[b]?)→∀sp:Nat→Bool,(∀q∈p,sp q.block=true)→DataW.Trod enc Tryz.prog W' 0 sp true 24 v d p:=by
 obtain ⟨c0,c1,c2,y0,y1,y2,m,rfl,rfl,rfl,h0,h1,h2⟩:=Go.Joins.open_agg3 Tryz.underlying24 (by kernel_rfl) (by kernel_rfl) hv h
 obtain ⟨s1,e1,rfl,k1⟩:=DataW.trod_string Tryz.underlying9 h1
 obtain ⟨s2,e2,rfl,k2⟩:=DataW.trod_string Tryz.underlying9 h2
 simp only [List.cons.injEq,and_true] at e1 e2
 subst e1 e2
 have hstr: ∀(n:Nat) (W':World) (sp:Nat→Bool) (s:ByteArray),s.size≤maxLen→DataW.trod enc Tryz.prog W' 0 sp true (n+1) 9 [.string s]=some (.lit (.string s.data.toList),[]):=fun n W' sp s hs=>by
  obtain ⟨n',hn⟩:=shut_string (enc:=enc) (P:=Tryz.prog) (w:=W') (base:=0) (sp:=sp) (held:=true) Tryz.underlying9 hs
  cases n' with
  |zero=>simp [DataW.trod] at hn
  |succ n'=>
   simp only [DataW.trod,Value.cells,Tryz.underlying9] at hn ⊢
   exact hn
 have hcells:Tryz.prog.cellsOf 24=3:=by kernel_rfl
 have close: ∀(n:Nat) (W':World) (sp:Nat→Bool),DataW.trod enc Tryz.prog W' 0 sp true (n+1) 22 [c0]=some y0→
   DataW.Trod enc Tryz.prog W' 0 sp true 24 (.agg #[c0,.string s1,.string s2]) (.agg [y0.1,.lit (.string s1.data.toList),.lit (.string s2.data.toList)]) (y0.2++([]++[])):=fun n W' sp hn=>
  ⟨n+1+1,trod_struct3_mk (y1:=(.lit (.string s1.data.toList),[])) (y2:=(.lit (.string s2.data.toList),[])) Tryz.underlying24 (by rw [hcells];rfl) (by rw [show Tryz.prog.cellsOf 22=1 from by kernel_rfl];exact hn) (hstr n W' sp s1 k1) (hstr n W' sp s2 k2)⟩
 have l1:Rows.uptoBulk (.agg [y0.1,.lit (.string s1.data.toList),.lit (.string s2.data.toList)]:DataW H)=Rows.uptoBulk y0.1+(s1.data.toList.length+1)+(s2.data.toList.length+1)+1:=by
  simp only [Rows.uptoBulk,Rows.uptoBulkAll];omega
 rcases open_ints Tryz.underlying22 Tryz.underlying5 (by kernel_rfl) h0 with ⟨e,rfl⟩| ⟨a,len,cap,zs,e,hb,hl,hm,hz,rfl,hcell,hw⟩
 ·simp only [List.cons.injEq,and_true] at e
  subst e
  refine ⟨⟨[],s1.data.toList,s2.data.toList⟩,[.slice none 0 0,.string s1,.string s2],rfl,⟨_,by rw [SP,SP];rfl,none,0,rfl,Nat.le_refl _,.inl rfl⟩,?_,?_,?_,?_⟩
  ·rw [l1];show s2.data.toList.length≤_;omega
  ·rw [l1];show 0≤_;omega
  ·rw [l1];show s1.data.toList.length≤_;omega
  ·intro W' hW' sp hsp
   refine close 1 W' sp ?_
   rw [DataW.trod_step]
   simp only [DataW.trodStep,Tryz.underlying22]
 ·simp only [List.cons.injEq,and_true] at e
  subst e
  simp only [if_true] at hz
  have hlt: ∀i,i<zs.length→a.block<W.heap.size:=fun i hi=>by
   have:=World.block_lt_of_cell? _ _ (hcell i hi)
   simpa [block_add] using this
  refine ⟨⟨(zs.take len).map fun n=>UInt8.ofNat n.toNat,s1.data.toList,s2.data.toList⟩,[.slice (some a) len cap,.string s1,.string s2],rfl,⟨_,by rw [SP,SP],some a,cap,?_,?_,?_⟩,?_,?_,?_,?_⟩
  ·simp [hz,Nat.min_eq_left hl]
  ·simp [hz];omega
  ·by_cases h0:len=0
   ·subst h0;left;rfl
   ·right
    have h00:=hcell 0 om
    have hs:a.spot=none:=by simpa [Addr.add] using World.cell?_spot h00
    obtain ⟨b,off,spot⟩:=a
    simp only at hs
    subst hs
    refine ⟨b,off,rfl,rfl,hlt 0 om,fun i x hx=>?_⟩
    rw [List.getElem?_map] at hx
    obtain ⟨n,hn,rfl⟩:=Option.map_eq_some_iff.1 hx
    have hi:i<len:=by
     have:=(List.getElem?_eq_some_iff.1 hn).1
     simp at this;omega
    rw [List.getElem?_take_of_lt hi] at hn
    have hm':n∈zs:=List.mem_of_getElem? hn
    refine ⟨_,rfl,rfl,fun j c hj=>?_⟩
    match j,hj with
    |0,hj=>
     simp only [List.getElem?_cons_zero,Option.some.injEq] at hj
     subst hj
     have:=hcell i om
     rw [add_plain,show zs.getD i 0=n by simp [List.getD,hn]] at this
     show W.cell? ⟨b,off+i*1+0,none⟩=_
     rw [ABN (hw n hm')]
     simpa using this
  ·rw [l1];show s2.data.toList.length≤_;omega
  ·rw [l1]
   show ((zs.take len).map _).length≤_
   have h1:Rows.uptoBulk (.slice (lits .u8 (zs.take len)) (lits .u8 (zs.drop len)):DataW H)≥(zs.take len).length:=by
    have: ∀l:List Int,Rows.uptoBulkAll (lits .u8 l:List (DataW H))=l.length:=fun l=>by
     induction l with
     |nil=>rfl
     |cons x l ih=>
      have e:(lits .u8 (x::l):List (DataW H))= .lit (.int .u8 x)::lits .u8 l:=rfl
      rw [e];simp only [Rows.uptoBulkAll,Rows.uptoBulk,ih,List.length_cons];omega
    simp only [Rows.uptoBulk,this]
    omega
   rw [List.length_map]
   simp only
   omega
  ·rw [l1];show s1.data.toList.length≤_;omega
  ·intro W' hW' sp hsp
   refine close 1 W' sp ?_
   refine shut_ints 0 Tryz.underlying22 Tryz.underlying5 (by kernel_rfl) (Nat.zero_le _) hl hm ?_ ?_ hw
   ·by_cases h0:zs.length=0
    ·split<;>omega
    ·have:sp a.block=true:=hsp (.cell a.block (a.off+0)) (by
      simp only [List.append_nil,MemPlace.row,List.mem_map,List.mem_range]
      exact ⟨0,om,rfl⟩)
     rw [if_pos this];exact hz
   ·intro i hi
    rw [World.cell?_of_block (w:=W) (a:=a.add i) (by rw [block_add];exact hW' _ (hlt i hi))]
    exact hcell i hi
end
end Fth
namespace Go.Proofs.YtiodboehkcmdnaaGreat.meanTurns
open Go Go.ChangeShapes Go.WideShapes Go.ChangeAt Go.RowKit Fth
set_option linter.unusedVariables false
theorem own:ownKnob Tryz.prog.godebug=none:=by kernel_rfl
set_option maxRecDepth 100000 in
theorem contract(H:Type)(enc:TypeId×Value→H)(W:World)(base:Nat)(args:Array Value)(ds gs:List (DataW H))(before:List MemPlace)
  (hval: ∀(j:Nat) t v,Tryz.f7.params[j]?=some t→args[j]?=some v→Value.okWide Tryz.prog W .any base t v)
  (hW:DataW.Whole enc Tryz.prog Tryz.f7.params.toList Rows.meanTurnsSpec.vars false W args.toList ds gs before) (hk:Rows.uptoSmall H (ds++gs)=true):
  Calls Tryz.prog 7 args W fun e W'=>∃v,e= .returned v∧Rows.meanTurnsSpec.post enc Tryz.prog Tryz.f7 false true false false W args v W':=by
 have hW':=hW
 obtain ⟨p,q,hA0,hV,rfl,hfz,hnd⟩:=hW
 have hA:DataW.TrodAll enc Tryz.prog W 0 (fun _=>true) true Tryz.f7.params.toList args.toList ds p:=hA0
 rw [Tryz.params7] at hA hval
 obtain ⟨v0,vs0,d0,ds0,p0,q0,hargs,rfl,rfl,h0,r0⟩:=trodAll_cons hA
 obtain ⟨v1,vs1,d1,ds1,p1,q1,rfl,rfl,rfl,h1,r1⟩:=trodAll_cons r0
 obtain ⟨rfl,rfl,rfl⟩:=trodAll_nil r1
 obtain rfl:args=#[v0,v1]:=by cases args;simp_all
 obtain ⟨rfl,rfl⟩:=trodVars_none hV
 obtain ⟨n1,rfl,rfl,rfl,w1⟩:=open_int Tryz.underlying3 (hval 1 3 v1 rfl rfl) h1
 obtain ⟨a,c0,rfl,ha,l1,_,_,hcl⟩:=ZM (hval 0 24 v0 rfl rfl) h0
 clear hA0
 have hb:Rows.uptoBulkAll (d0::[.lit (.int .i64 n1)])≤1048576:=by
  have h:Rows.uptoBulkAll (d0::[.lit (.int .i64 n1)]++[])≤1048576:=of_decide_eq_true hk
  simpa using h
 have hl:a.args.length≤1048576:=by
  rw [Rows.uptoBulkAll] at hb
  omega
 obtain ⟨N,hN⟩:=Tv a n1 hl
 refine (Py N (fun _=>0) W hN ha).mono ?_
 rintro e W' ⟨C',rfl,st⟩
 refine ⟨_,rfl,Xy (pa:=p0++([]++[])) hW' (fun _ _ _=>trodAll_cons_mk (shut_bool Tryz.underlying4 _) trodAll_mk0) (fun sp hsp=>?_) (fun _=>rfl) (by simp) st (ok_one (by kernel_rfl) rfl (okWide_bool_mk Tryz.underlying4 _))⟩
 exact trodAll_cons_mk (hcl W' st.old sp (fun q hq=>hsp q (by simp [hq]))) (trodAll_cons_mk (shut_int Tryz.underlying3 w1) trodAll_mk0)
set_option maxRecDepth 100000 in
theorem lifted(os:Os)(started:os.Started)(H:Type)(enc:TypeId×Value→H)(F:Stop.Interp):
  ReturnsInHanded {} Tryz.checked os 7 .any ((Rows.OpenSpec.upto Rows.meanTurnsSpec).pre6 enc Tryz.prog Tryz.f7 Rows.meanTurnsUptoRow.domain false) (((Rows.OpenSpec.upto Rows.meanTurnsSpec).at F).post enc Tryz.prog Tryz.f7 false true false false):=by
 refine returnsInHanded_of_cond (C:=Tryz.checked) (s:=Rows.OpenSpec.upto Rows.meanTurnsSpec) (k:=Rows.uptoSmall) rfl own started (by kernel_rfl) Tryz.func7
  (OpenSpec.witness (enc:=enc) (C:=Tryz.checked) (s:=Rows.OpenSpec.upto Rows.meanTurnsSpec) (k:=Rows.uptoSmall) rfl false ⟨#[],#[.agg #[.slice none 0 0,.string .empty,.string .empty],.int .i64 0],[]⟩ 8 (by kernel_rfl) (by kernel_rfl) (by kernel_rfl)
   (x:=([.agg [.nil,.lit (.string []),.lit (.string [])],.lit (.int .i64 0)],[],[])) (by kernel_rfl) rfl (by kernel_rfl)) ?_
 intro W base args ds gs before hval hW _ hk _
 exact contract H enc W base args ds gs before hval hW hk
theorem proved:Rows.MeanTurnsUptoSaid:=
 OpenClaim.holds_of_cond 7 Tryz.f7 rfl rfl rfl rfl rfl rfl rfl ⟨rfl,rfl,rfl,rfl,rfl⟩ rfl rfl rfl rfl rfl (by kernel_rfl) Tryz.func7 (by kernel_rfl)
  (of_decide_eq_true (by kernel_rfl)) (by unfold Func.isWrapper;first| (rw [if_pos (by decide+kernel)];kernel_rfl)| (rw [if_neg (by decide+kernel)];exact ⟨rfl,rfl⟩))
  (fun os started H enc _ F=>lifted os started H enc F)
end Go.Proofs.YtiodboehkcmdnaaGreat.meanTurns
