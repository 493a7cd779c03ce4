/- Part 2 of the proof: what it says holds of the given program; no condition. -/
import Derived.Test.YtiodboehkcmdnaaGreatProg
import Derived.KernelRfl
import Derived.Test.YtiodboehkcmdnaaGreatWA
set_option linter.all false
set_option exponentiation.threshold 3000
namespace Fth
open Go Go.IntKind
set_option maxRecDepth 100000
def KN:Option Ai:=
 some (Ai.mk 32768 32768 32768 32768)
def Ir(a:Bool):Option Bool:=
 some a
def Hl(a:UInt8):Option Bool:=
 bif (((a).toNat:Int)==(((9:UInt8)).toNat:Int)) then (Ir true) else (bif (((a).toNat:Int)==(((10:UInt8)).toNat:Int)) then (Ir true) else (bif (((a).toNat:Int)==(((13:UInt8)).toNat:Int)) then (Ir true) else (Ir (((a).toNat:Int)==(((32:UInt8)).toNat:Int)))))
def HC(a:Bool):Option Bool:=
 some a
def Gk(a:UInt8):Option Bool:=
 bif (decide (((a).toNat:Int)≥(((65:UInt8)).toNat:Int))) then (bif (decide (((a).toNat:Int)≤(((90:UInt8)).toNat:Int))) then (HC true) else (bif (decide (((a).toNat:Int)≥(((97:UInt8)).toNat:Int))) then (HC (decide (((a).toNat:Int)≤(((122:UInt8)).toNat:Int)))) else (HC false))) else (bif (decide (((a).toNat:Int)≥(((97:UInt8)).toNat:Int))) then (HC (decide (((a).toNat:Int)≤(((122:UInt8)).toNat:Int)))) else (HC false))
def Ks(a:Bool):Option Bool:=
 some a
def HD(a:UInt8):Option Bool:=
 bif (decide (((a).toNat:Int)≥(((48:UInt8)).toNat:Int))) then (Ks (decide (((a).toNat:Int)≤(((57:UInt8)).toNat:Int)))) else (Ks false)
def Gl(a:Int)(b:(Int→Option Int))(c:Bool):Option Int:=
 bif c then (b (i64.wrap (a+1))) else (some a)
def Gh(d:Bts)(e:Int)(b:Int→Option Int)(a:Int):Option Int:=
 bif (decide ((i64.wrap (e+a))< (d.length:Int))) then ((idx d (i64.wrap (e+a))).bind fun c=>(Gk c).bind fun f=>bif f then (Gl a b true) else ((HD c).bind fun g=>bif g then (Gl a b true) else (Gl a b (((c).toNat:Int)==(((95:UInt8)).toNat:Int))))) else (Gl a b false)
def E3(a:Bts)(b:Int):Nat→Int→Option Int
 |0=>fun _=>none
 |k+1=>Gh a b (E3 a b k)
def Io(a:Nat)(b:Bts)(c:Int):Option Int:=
 E3 b c a 0
def Lw(a b:Int):Option (Int×Int):=
 some (b,a)
def FB(e:Bts)(c b a:Int)(f:(Int→Int→Option (Int×Int)))(g:Bool):Option (Int×Int):=
 bif g then ((idx e a).bind fun d=>f (if 16777217< (i64.wrap ((i64.wrap (10*b))+(i64.wrap ((((u8c (((d).toNat:Int) - (((48:UInt8)).toNat:Int)))).toNat:Int))))) then 16777217 else (i64.wrap ((i64.wrap (10*b))+(i64.wrap ((((u8c (((d).toNat:Int) - (((48:UInt8)).toNat:Int)))).toNat:Int)))))) (i64.wrap (a+1))) else (bif (a==c) then (some (0,0)) else (bif (c==1) then (Lw a (i64.wrap (0 - b))) else (Lw a b)))
def FS(a:Bts)(c:Int)(d:Int→Int→Option (Int×Int))(e b:Int):Option (Int×Int):=
 bif (decide (b< (a.length:Int))) then ((idx a b).bind fun f=>bif (decide (((f).toNat:Int)≥(((48:UInt8)).toNat:Int))) then ((idx a b).bind fun g=>FB a c e b d (decide (((g).toNat:Int)≤(((57:UInt8)).toNat:Int)))) else (FB a c e b d false)) else (FB a c e b d false)
def Eg(a:Bts)(b:Int):Nat→Int→Int→Option (Int×Int)
 |0=>fun _ _=>none
 |k+1=>FS a b (Eg a b k)
def Is(b:Nat)(c:Bts)(a:Int):Option (Int×Int):=
 Eg c a b 0 a
def Hm(a:Nat)(b:Bts)(c:Bool):Option (Int×Int):=
 bif c then (Is a b 1) else (Is a b 0)
def FC(b:Nat)(a:Bts):Option (Int×Int):=
 bif (decide ((a.length:Int)>0)) then ((idx a (0:Int)).bind fun c=>Hm b a (((c).toNat:Int)==(((45:UInt8)).toNat:Int))) else (Hm b a false)
def KI(a:Ad)(b:Bool):Option (Ad×Int):=
 bif b then (some ((Ad.mk 0 0),50)) else (some (a,0))
def Hn(a:Ad):Option (Ad×Int):=
 bif (decide (a.re< (-16777216))) then (KI a true) else (bif (decide (a.re>16777216)) then (KI a true) else (bif (decide (a.im< (-16777216))) then (KI a true) else (KI a (decide (a.im>16777216)))))
structure BH where
 ref01_digits:Int→Option (Bts)
def Lm(a:Bts):Option (Bts):=
 some a
def DW(b:BH)(_N:Nat)(a:Int):Option (Bts):=
 bif (decide (a<0)) then ((b.ref01_digits (i64.wrap (0 - a))).bind fun c=>(P3 ([45]:List UInt8) c).bind fun d=>some d) else ((nz (10:Int)).bind fun _=>bif (decide (a≥10)) then ((nz (10:Int)).bind fun _=>(b.ref01_digits (i64.wrap (a.tdiv (10:Int)))).bind fun e=>(P3 e ([(u8c ((i64.wrap (48+(a.tmod 10)))))]:List UInt8)).bind fun f=>Lm f) else (Lm ([(u8c ((i64.wrap (48+(a.tmod 10)))))]:List UInt8)))
def BH.at:Nat→BH
 |0=>⟨fun _=>none⟩
 |n+1=>⟨DW (BH.at n) n⟩
def ref01_digits(a:Nat):Int→Option (Bts):=(BH.at a).ref01_digits
def GG(b:Nat)(a:Ad):Option (Bts):=
 bif (a.im==0) then ((ref01_digits b a.re).bind fun c=>some c) else (bif (a.re==0) then ((ref01_digits b a.im).bind fun d=>(P3 d ([105]:List UInt8)).bind fun e=>some e) else (bif (decide (a.im>0)) then ((ref01_digits b a.re).bind fun f=>(P3 f ([43]:List UInt8)).bind fun g=>(ref01_digits b a.im).bind fun h=>(P3 g h).bind fun i=>(P3 i ([105]:List UInt8)).bind fun j=>some j) else ((ref01_digits b a.re).bind fun k=>(ref01_digits b a.im).bind fun l=>(P3 k l).bind fun m=>(P3 m ([105]:List UInt8)).bind fun n=>some n)))
def Ly(a b:Int)(c:Bool):Option (Ad×Int):=
 bif c then (some ((Ad.mk 0 0),10)) else (some ((Ad.mk a b),0))
def Fv(c:Nat)(d:Bts)(a b:Int):Option (Ad×Int):=
 (Hn (Ad.mk a b)).bind fun e=>bif (e.2 != 0) then (Ly a b true) else ((GG c (Ad.mk a b)).bind fun f=>Ly a b (!(f==d)))
def Hp(a:Nat)(b:Bts)(c:(Int×Int))(d:Bts):Option (Ad×Int):=
 (FC a d).bind fun e=>Fv a b c.1 e.1
def Ep(d:Nat)(a:Bts):Option (Ad×Int):=
 (FC d a).bind fun b=>bif (b.2==0) then (some ((Ad.mk 0 0),10)) else ((sub a b.2 (a.length:Int)).bind fun c=>bif (c==([105]:List UInt8)) then (Fv d a 0 b.1) else (bif (!(c==([]:List UInt8))) then ((idx c (0:Int)).bind fun e=>bif (((e).toNat:Int)==(((43:UInt8)).toNat:Int)) then ((sub c 1 (c.length:Int)).bind fun f=>Hp d a b f) else (Hp d a b c)) else (Fv d a b.1 0)))
def GJ(a:Ad):Option ((Nat×Nat)):=
 some ((FloatKind.f64.nearest a.re),(FloatKind.f64.nearest a.im))
def JY:Option ((List Bts)):=
 some ([([66]:List UInt8),([76]:List UInt8),([78]:List UInt8),([99,97,115,101]:List UInt8),([99,111,110,106]:List UInt8),([101,108,115,101]:List UInt8),([102,97,105,108]:List UInt8),([102,97,108,115,101]:List UInt8),([105,102]:List UInt8),([105,109]:List UInt8),([105,110]:List UInt8),([108,101,116]:List UInt8),([110,105,108]:List UInt8),([110,111,116]:List UInt8),([111,102]:List UInt8),([114,101]:List UInt8),([115,116,114,105,99,116]:List UInt8),([116,104,101,110]:List UInt8),([116,114,117,101]:List UInt8)]:List Bts)
def D4(c:Bts)(b:((List Bts)))(d:Int→Option Bool)(a:Int):Option Bool:=
 bif (decide (a< (b.length:Int))) then ((idx b a).bind fun e=>bif (e==c) then (some true) else (d (i64.wrap (a+1)))) else (some false)
def Dn(a:Bts)(b:((List Bts))):Nat→Int→Option Bool
 |0=>fun _=>none
 |k+1=>D4 a b (Dn a b k)
def Do(a:Nat)(b:Bts):Option Bool:=
 (JY).bind fun c=>Dn b c a 0
def D5(a:Bool):Option Int:=
 bif a then (some 1) else (some 0)
def Fw(b:Bts)(c:Int)(d:Bool):Option Int:=
 bif d then (some 2) else ((idx b c).bind fun a=>bif (((a).toNat:Int)==(((40:UInt8)).toNat:Int)) then (D5 (((a).toNat:Int)==(((40:UInt8)).toNat:Int))) else (bif (((a).toNat:Int)==(((41:UInt8)).toNat:Int)) then (D5 (((a).toNat:Int)==(((41:UInt8)).toNat:Int))) else (bif (((a).toNat:Int)==(((44:UInt8)).toNat:Int)) then (D5 (((a).toNat:Int)==(((44:UInt8)).toNat:Int))) else (bif (((a).toNat:Int)==(((58:UInt8)).toNat:Int)) then (D5 (((a).toNat:Int)==(((58:UInt8)).toNat:Int))) else (bif (((a).toNat:Int)==(((59:UInt8)).toNat:Int)) then (D5 (((a).toNat:Int)==(((59:UInt8)).toNat:Int))) else (bif (((a).toNat:Int)==(((61:UInt8)).toNat:Int)) then (D5 (((a).toNat:Int)==(((61:UInt8)).toNat:Int))) else (bif (((a).toNat:Int)==(((43:UInt8)).toNat:Int)) then (D5 (((a).toNat:Int)==(((43:UInt8)).toNat:Int))) else (bif (((a).toNat:Int)==(((45:UInt8)).toNat:Int)) then (D5 (((a).toNat:Int)==(((45:UInt8)).toNat:Int))) else (bif (((a).toNat:Int)==(((42:UInt8)).toNat:Int)) then (D5 (((a).toNat:Int)==(((42:UInt8)).toNat:Int))) else (bif (((a).toNat:Int)==(((47:UInt8)).toNat:Int)) then (D5 (((a).toNat:Int)==(((47:UInt8)).toNat:Int))) else (bif (((a).toNat:Int)==(((60:UInt8)).toNat:Int)) then (D5 (((a).toNat:Int)==(((60:UInt8)).toNat:Int))) else (D5 (((a).toNat:Int)==(((124:UInt8)).toNat:Int))))))))))))))
def It(a:Bts)(b:Int):Option Int:=
 bif (decide ((i64.wrap (b+1))< (a.length:Int))) then ((idx a b).bind fun c=>bif (((c).toNat:Int)==(((45:UInt8)).toNat:Int)) then ((idx a (i64.wrap (b+(1:Int)))).bind fun d=>bif (((d).toNat:Int)==(((62:UInt8)).toNat:Int)) then (Fw a b true) else (bif (((c).toNat:Int)==(((61:UInt8)).toNat:Int)) then (Fw a b (((d).toNat:Int)==(((61:UInt8)).toNat:Int))) else (Fw a b false))) else (bif (((c).toNat:Int)==(((61:UInt8)).toNat:Int)) then ((idx a (i64.wrap (b+(1:Int)))).bind fun e=>Fw a b (((e).toNat:Int)==(((61:UInt8)).toNat:Int))) else (Fw a b false))) else (Fw a b false)
def M0(a:Int)(b:Bts)(c:Int):Option (Aj×Bool):=
 some ((Aj.mk c b ((0,0):Nat×Nat) a),true)
def IW(e:Nat)(c:Bts)(a f:Int)(b:Bts)(g:Bool):Option (Aj×Bool):=
 bif g then (some ((Aj.mk 0 b ((0,0):Nat×Nat) a),false)) else (bif (decide (f>0)) then ((Do e b).bind fun h=>bif h then (M0 a b 1) else (M0 a b 0)) else ((It c a).bind fun d=>(sub c a (i64.wrap (a+d))).bind fun i=>some ((Aj.mk 3 i ((0,0):Nat×Nat) a),(decide (d>0)))))
def IX(c:Nat)(d:Bts)(a e:Int)(b:Bts)(g:Bool):Option (Aj×Bool):=
 bif g then ((Ep c b).bind fun f=>(GJ f.1).bind fun h=>some ((Aj.mk 2 b h a),(f.2==0))) else (bif (decide (e>0)) then ((idx d a).bind fun i=>IW c d a e b (((i).toNat:Int)==(((95:UInt8)).toNat:Int))) else (IW c d a e b false))
def IA(d:Nat)(b:Bts)(a:Int):Option (Aj×Bool):=
 (Io d b a).bind fun c=>(sub b a (i64.wrap (a+c))).bind fun e=>bif (decide (c>0)) then ((idx b a).bind fun f=>(HD f).bind fun g=>IX d b a c e g) else (IX d b a c e false)
def Hq(b:(List Aj))(c:((List Aj)→Int→Option ((List Aj)×Int)))(a:Int)(d:(Int→Option ((List Aj)×Int)))(e:Bool):Option ((List Aj)×Int):=
 bif e then (d (i64.wrap (a+1))) else (c b a)
def FT(b:Bts)(c:(List Aj))(d:((List Aj)→Int→Option ((List Aj)×Int)))(e:Int→Option ((List Aj)×Int))(a:Int):Option ((List Aj)×Int):=
 bif (decide (a< (b.length:Int))) then ((idx b a).bind fun f=>Hq c d a e (((f).toNat:Int) != (((10:UInt8)).toNat:Int))) else (Hq c d a e false)
def FD(a:Bts)(b:(List Aj))(c:((List Aj)→Int→Option ((List Aj)×Int))):Nat→Int→Option ((List Aj)×Int)
 |0=>fun _=>none
 |k+1=>FT a b c (FD a b c k)
def FU(f:Nat)(b:Bts)(e:(List Aj)→Int→Option ((List Aj)×Int))(c:(List Aj))(a:Int):Option ((List Aj)×Int):=
 bif (decide (a< (b.length:Int))) then ((idx b a).bind fun g=>(Hl g).bind fun h=>bif h then (e c (i64.wrap (a+1))) else (bif (((g).toNat:Int)==(((35:UInt8)).toNat:Int)) then (FD b c e f a) else ((IA f b a).bind fun d=>bif (!d.2) then (some ([],a)) else ((HB 48 c ([d.1]:List Aj)).bind fun _=>e (c++([d.1]:List Aj)) (i64.wrap (a+(d.1.text.length:Int))))))) else ((HB 48 c ([(Aj.mk 4 ([]:List UInt8) ((0,0):Nat×Nat) (b.length:Int))]:List Aj)).bind fun _=>some ((c++([(Aj.mk 4 ([]:List UInt8) ((0,0):Nat×Nat) (b.length:Int))]:List Aj)),(-1)))
def Dp(a:Nat)(b:Bts):Nat→(List Aj)→Int→Option ((List Aj)×Int)
 |0=>fun _ _=>none
 |k+1=>FU a b (Dp a b k)
def GK(a:Nat)(b:Bts):Option ((List Aj)×Int):=
 Dp a b a ([]:List Aj) 0
def Bf(a:AC):Option Aj:=
 (idx a.marks a.at_).bind fun b=>some b
def B5(a:AC)(b:Int):Option AC:=
 bif (a.why==0) then ((Bf (AC.mk a.marks a.at_ b a.where_ (Ai.mk a.l.text a.l.funcs a.l.arity a.l.nest) a.nest)).bind fun c=>some (AC.mk a.marks a.at_ b c.at_ (Ai.mk a.l.text a.l.funcs a.l.arity a.l.nest) a.nest)) else (some a)
def GL(a:AC)(b:Aj)(c:Bool):Option (Aj×AC):=
 bif c then ((B5 a (21:Int)).bind fun d=>some ((Aj.mk 0 ([]:List UInt8) ((0,0):Nat×Nat) 0),d)) else (some (b,(AC.mk a.marks (i64.wrap (a.at_+1)) a.why a.where_ (Ai.mk a.l.text a.l.funcs a.l.arity a.l.nest) a.nest)))
def CM(a:AC):Option (Aj×AC):=
 (Bf a).bind fun b=>bif (a.why != 0) then (GL a b true) else (GL a b (b.kind != 0))
def HU(a:Bool):Option Bool:=
 some a
def Br(b:AC)(c:Bts):Option Bool:=
 (Bf b).bind fun a=>bif (b.why==0) then (bif (a.kind==1) then (HU (a.text==c)) else (bif (a.kind==3) then (HU (a.text==c)) else (HU false))) else (HU false)
def B6(a:AC)(b:Bts):Option (Bool×AC):=
 (Br a b).bind fun c=>bif (!c) then (some (false,a)) else (some (true,(AC.mk a.marks (i64.wrap (a.at_+1)) a.why a.where_ (Ai.mk a.l.text a.l.funcs a.l.arity a.l.nest) a.nest)))
def BB(b:AC)(c:Bts):Option AC:=
 (B6 b c).bind fun a=>bif (!a.1) then ((B5 a.2 (21:Int)).bind fun d=>some d) else (some a.2)
def DN(l:Int→(List Aj)→Int→Int→Int→Int→Int→Int→Int→Int→Option (Int×AC))(b:Int)(c:(List Aj))(d e f g h i j k:Int):Option (Int×AC):=
 bif (decide (b< (([([78]:List UInt8),([66]:List UInt8),([76]:List UInt8)]:List Bts).length:Int))) then ((idx ([([78]:List UInt8),([66]:List UInt8),([76]:List UInt8)]:List Bts) b).bind fun m=>(B6 (AC.mk c d e f (Ai.mk g h i j) k) m).bind fun a=>bif a.1 then (some ((i64.wrap (b+1)),a.2)) else (l (i64.wrap (b+1)) a.2.marks a.2.at_ a.2.why a.2.where_ a.2.l.text a.2.l.funcs a.2.l.arity a.2.l.nest a.2.nest)) else ((B5 (AC.mk c d e f (Ai.mk g h i j) k) (21:Int)).bind fun n=>some (0,n))
def CO:Nat→Int→(List Aj)→Int→Int→Int→Int→Int→Int→Int→Int→Option (Int×AC)
 |0=>fun _ _ _ _ _ _ _ _ _ _=>none
 |k+1=>DN (CO k)
def CP(b:Nat)(a:AC):Option (Int×AC):=
 CO b 0 a.marks a.at_ a.why a.where_ a.l.text a.l.funcs a.l.arity a.l.nest a.nest
def JK(a:Int)(b c:AE)(d:Aj):Option AE:=
 some (AE.mk a ([]:List UInt8) ([]:List UInt8) 0 ((0,0):Nat×Nat) ([b,c]:List AE) d.at_)
def IB(a:Bts):Option Int:=
 bif (a==([116,114,117,101]:List UInt8)) then (some 2) else (bif (a==([102,97,108,115,101]:List UInt8)) then (some 3) else (bif (a==([110,105,108]:List UInt8)) then (some 4) else (bif (a==([102,97,105,108]:List UInt8)) then (some 5) else (bif (a==([110,111,116]:List UInt8)) then (some 14) else (bif (a==([114,101]:List UInt8)) then (some 15) else (bif (a==([105,109]:List UInt8)) then (some 16) else (bif (a==([99,111,110,106]:List UInt8)) then (some 17) else (some 0))))))))
structure AB where
 ref04_reader_expr:AC→Option (AE×AC)
 ref04_reader_cons:AC→Option (AE×AC)
 ref04_reader_parts:AC→(List Bts)→Option ((List AE)×AC)
 ref04_reader_branches:AC→AE→Option (AC×AE)
 ref04_reader_comp:AC→Option (AE×AC)
 ref04_reader_sum:AC→Option (AE×AC)
 ref04_reader_term:AC→Option (AE×AC)
 ref04_reader_unit:AC→Option (AE×AC)
 ref04_reader_named:AC→Aj→Option (AE×AC)
def Hr(a:(List Aj))(b c d e f g h i:Int)(j k:Bts)(l:Int)(m:(Nat×Nat))(n:(List AE))(o p:Int):Option (AE×AC):=
 some ((AE.mk i j k l m n o),(AC.mk a b c d (Ai.mk e f g h) p))
def FE(q:Bool)(a:(List Aj))(b c d e f g h i j:Int)(k l:Bts)(m:Int)(n:(Nat×Nat))(o:(List AE))(p:Int):Option (AE×AC):=
 bif q then (Hr a b c d e f g h j k l m n o p (i64.wrap (i - 1))) else (Hr a b c d e f g h j k l m n o p i)
def Dq(d:AB)(e:Nat)(f:Aj)(g:Bool)(h:(List Aj))(i j k l m n o p q:Int):Option (AE×AC):=
 (CM (AC.mk h (i64.wrap (i+1)) j k (Ai.mk l m n o) p)).bind fun b=>(CP e b.2).bind fun c=>(d.ref04_reader_parts c.2 ([([61]:List UInt8),([105,110]:List UInt8)]:List Bts)).bind fun a=>FE g a.2.marks a.2.at_ a.2.why a.2.where_ a.2.l.text a.2.l.funcs a.2.l.arity a.2.l.nest a.2.nest q b.1.text ([]:List UInt8) c.1 ((0,0):Nat×Nat) a.1 f.at_
def Dr(d:AB)(o:Nat)(c:Aj)(e:Bool)(f:(List Aj))(g h i j k l m n:Int):Option (AE×AC):=
 bif (c.text==([105,102]:List UInt8)) then ((d.ref04_reader_parts (AC.mk f (i64.wrap (g+1)) h i (Ai.mk j k l m) n) ([([]:List UInt8),([116,104,101,110]:List UInt8),([101,108,115,101]:List UInt8)]:List Bts)).bind fun b=>FE e b.2.marks b.2.at_ b.2.why b.2.where_ b.2.l.text b.2.l.funcs b.2.l.arity b.2.l.nest b.2.nest 19 ([]:List UInt8) ([]:List UInt8) 0 ((0,0):Nat×Nat) b.1 c.at_) else (bif (c.text==([99,97,115,101]:List UInt8)) then ((d.ref04_reader_branches (AC.mk f (i64.wrap (g+1)) h i (Ai.mk j k l m) n) (AE.mk 0 ([]:List UInt8) ([]:List UInt8) 0 ((0,0):Nat×Nat) [] c.at_)).bind fun a=>FE e a.1.marks a.1.at_ a.1.why a.1.where_ a.1.l.text a.1.l.funcs a.1.l.arity a.1.l.nest a.1.nest a.2.op a.2.name a.2.tail a.2.type_ a.2.num a.2.args a.2.at_) else (bif (c.text==([115,116,114,105,99,116]:List UInt8)) then (Dq d o c e f g h i j k l m n 22) else (Dq d o c e f g h i j k l m n 21)))
def Ds(a:AB)(l:Nat)(m:Aj)(b:Bool)(c:(List Aj))(d e f g h i j k:Int)(o:Bool):Option (AE×AC):=
 bif o then ((a.ref04_reader_cons (AC.mk c d e f (Ai.mk g h i j) k)).bind fun n=>some (n.1,n.2)) else (bif b then (Dr a l m b c d e f g h i j (i64.wrap (k+1))) else (Dr a l m b c d e f g h i j k))
def Dt(k:AB)(l:Nat)(m:Aj)(j:Bool)(b:(List Aj))(c a d e f g h i:Int):Option (AE×AC):=
 bif (a != 0) then (some ((AE.mk 0 ([]:List UInt8) ([]:List UInt8) 0 ((0,0):Nat×Nat) [] 0),(AC.mk b c a d (Ai.mk e f g h) i))) else (bif (!j) then ((Br (AC.mk b c a d (Ai.mk e f g h) i) ([105,102]:List UInt8)).bind fun n=>Ds k l m j b c a d e f g h i (!n)) else (Ds k l m j b c a d e f g h i false))
def Du(c:AB)(d:Nat)(a:AC)(e:Aj)(f g:Bool):Option (AE×AC):=
 bif g then ((B5 a (23:Int)).bind fun b=>Dt c d e f b.marks b.at_ b.why b.where_ b.l.text b.l.funcs b.l.arity b.l.nest b.nest) else (Dt c d e f a.marks a.at_ a.why a.where_ a.l.text a.l.funcs a.l.arity a.l.nest a.nest)
def DO(c:AB)(d:Nat)(a:AC)(e:Aj)(b:Bool):Option (AE×AC):=
 bif b then (Du c d a e b (decide (a.nest≥a.l.nest))) else (Du c d a e b false)
def DC(b:AB)(c:Nat)(a:AC):Option (AE×AC):=
 (Bf a).bind fun d=>(Br a ([108,101,116]:List UInt8)).bind fun e=>bif e then (DO b c a d true) else ((Br a ([115,116,114,105,99,116]:List UInt8)).bind fun f=>bif f then (DO b c a d true) else ((Br a ([99,97,115,101]:List UInt8)).bind fun g=>DO b c a d g))
def DD(c:AB)(_N:Nat)(e:AC):Option (AE×AC):=
 (c.ref04_reader_comp e).bind fun a=>(Bf a.2).bind fun f=>(B6 a.2 ([58]:List UInt8)).bind fun b=>bif (!b.1) then (some (a.1,b.2)) else ((c.ref04_reader_cons b.2).bind fun d=>(JK 18 a.1 d.1 f).bind fun g=>some (g,d.2))
def DZ(c:AB)(b:(List AE))(d:Int)(e:((List AE)→Int→(List Aj)→Int→Int→Int→Int→Int→Int→Int→Int→Option ((List AE)×AC)))(f:(List Aj))(g h i j k l m n:Int):Option ((List AE)×AC):=
 (c.ref04_reader_expr (AC.mk f g h i (Ai.mk j k l m) n)).bind fun a=>(HB 96 b ([a.1]:List AE)).bind fun _=>e (b++([a.1]:List AE)) (i64.wrap (d+1)) a.2.marks a.2.at_ a.2.why a.2.where_ a.2.l.text a.2.l.funcs a.2.l.arity a.2.l.nest a.2.nest
def Ci(m:AB)(n:(List Bts))(o:(List AE)→Int→(List Aj)→Int→Int→Int→Int→Int→Int→Int→Int→Option ((List AE)×AC))(c:(List AE))(b:Int)(d:(List Aj))(e f g h i j k l:Int):Option ((List AE)×AC):=
 bif (decide (b< (n.length:Int))) then ((idx n b).bind fun p=>bif (!(p==([]:List UInt8))) then ((BB (AC.mk d e f g (Ai.mk h i j k) l) p).bind fun a=>DZ m c b o a.marks a.at_ a.why a.where_ a.l.text a.l.funcs a.l.arity a.l.nest a.nest) else (DZ m c b o d e f g h i j k l)) else (some (c,(AC.mk d e f g (Ai.mk h i j k) l)))
def By(a:AB)(b:(List Bts)):Nat→(List AE)→Int→(List Aj)→Int→Int→Int→Int→Int→Int→Int→Int→Option ((List AE)×AC)
 |0=>fun _ _ _ _ _ _ _ _ _ _ _=>none
 |k+1=>Ci a b (By a b k)
def Cm(b:AB)(c:Nat)(a:AC)(d:(List Bts)):Option ((List AE)×AC):=
 By b d c ([]:List AE) 0 a.marks a.at_ a.why a.where_ a.l.text a.l.funcs a.l.arity a.l.nest a.nest
def CD(a:AB)(_N:Nat)(h:AC)(b:AE):Option (AC×AE):=
 (a.ref04_reader_expr h).bind fun c=>(BB c.2 ([111,102]:List UInt8)).bind fun i=>(BB i ([110,105,108]:List UInt8)).bind fun j=>(BB j ([45,62]:List UInt8)).bind fun k=>(a.ref04_reader_expr k).bind fun d=>(BB d.2 ([124]:List UInt8)).bind fun l=>(CM l).bind fun e=>(BB e.2 ([58]:List UInt8)).bind fun m=>(CM m).bind fun f=>(BB f.2 ([45,62]:List UInt8)).bind fun n=>(a.ref04_reader_expr n).bind fun g=>some (g.2,(AE.mk 20 e.1.text f.1.text b.type_ b.num ([c.1,d.1,g.1]:List AE) b.at_))
def EV(l:AB)(a:(AE×AC))(m:Aj)(n:Int)(o:Bool)(b:(List Aj))(c d e f g h i j:Int):Option (AE×AC):=
 bif o then (some (a.1,(AC.mk b c d e (Ai.mk f g h i) j))) else ((l.ref04_reader_sum (AC.mk b c d e (Ai.mk f g h i) j)).bind fun k=>(JK n a.1 k.1 m).bind fun p=>some (p,k.2))
def Dv(d:AB)(c:(AE×AC))(e:Aj)(f:Int):Option (AE×AC):=
 (B6 c.2 ([61,61]:List UInt8)).bind fun a=>bif (!a.1) then ((B6 a.2 ([60]:List UInt8)).bind fun b=>EV d c e f (!b.1) b.2.marks b.2.at_ b.2.why b.2.where_ b.2.l.text b.2.l.funcs b.2.l.arity b.2.l.nest b.2.nest) else (EV d c e f false a.2.marks a.2.at_ a.2.why a.2.where_ a.2.l.text a.2.l.funcs a.2.l.arity a.2.l.nest a.2.nest)
def DE(b:AB)(_N:Nat)(d:AC):Option (AE×AC):=
 (b.ref04_reader_sum d).bind fun a=>(Bf a.2).bind fun c=>(Br a.2 ([60]:List UInt8)).bind fun e=>bif e then (Dv b a c 13) else (Dv b a c 12)
def EE(c:Int)(d e:Bts)(f:Int)(g:(Nat×Nat))(h:(List AE))(i:Int)(j:((List Aj)→Int→Int→Int→Int→Int→Int→Int→Int→Int→Bts→Bts→Int→(Nat×Nat)→(List AE)→Int→Option (AE×AC)))(k:Aj)(a:(AE×AC))(l:Int):Option (AE×AC):=
 (JK l (AE.mk c d e f g h i) a.1 k).bind fun b=>j a.2.marks a.2.at_ a.2.why a.2.where_ a.2.l.text a.2.l.funcs a.2.l.arity a.2.l.nest a.2.nest b.op b.name b.tail b.type_ b.num b.args b.at_
def EF(t:AB)(a:(List Aj))(b c d e f g h i j:Int)(k l:Bts)(m:Int)(n:(Nat×Nat))(o:(List AE))(p:Int)(r:((List Aj)→Int→Int→Int→Int→Int→Int→Int→Int→Int→Bts→Bts→Int→(Nat×Nat)→(List AE)→Int→Option (AE×AC)))(u:Bool):Option (AE×AC):=
 bif u then ((Bf (AC.mk a b c d (Ai.mk e f g h) i)).bind fun q=>(t.ref04_reader_term (AC.mk a (i64.wrap (b+1)) c d (Ai.mk e f g h) i)).bind fun s=>bif (q.text==([45]:List UInt8)) then (EE j k l m n o p r q s 9) else (EE j k l m n o p r q s 8)) else (some ((AE.mk j k l m n o p),(AC.mk a b c d (Ai.mk e f g h) i)))
def DP(j:AB)(k:(List Aj)→Int→Int→Int→Int→Int→Int→Int→Int→Int→Bts→Bts→Int→(Nat×Nat)→(List AE)→Int→Option (AE×AC))(a:(List Aj))(b c d e f g h i l:Int)(m n:Bts)(o:Int)(p:(Nat×Nat))(q:(List AE))(r:Int):Option (AE×AC):=
 (Br (AC.mk a b c d (Ai.mk e f g h) i) ([43]:List UInt8)).bind fun s=>bif s then (EF j a b c d e f g h i l m n o p q r k true) else ((Br (AC.mk a b c d (Ai.mk e f g h) i) ([45]:List UInt8)).bind fun t=>EF j a b c d e f g h i l m n o p q r k t)
def B4(a:AB):Nat→(List Aj)→Int→Int→Int→Int→Int→Int→Int→Int→Int→Bts→Bts→Int→(Nat×Nat)→(List AE)→Int→Option (AE×AC)
 |0=>fun _ _ _ _ _ _ _ _ _ _ _ _ _ _ _ _=>none
 |k+1=>DP a (B4 a k)
def DX(b:AB)(c:Nat)(d:AC):Option (AE×AC):=
 (b.ref04_reader_term d).bind fun a=>B4 b c a.2.marks a.2.at_ a.2.why a.2.where_ a.2.l.text a.2.l.funcs a.2.l.arity a.2.l.nest a.2.nest a.1.op a.1.name a.1.tail a.1.type_ a.1.num a.1.args a.1.at_
def Dw(c:Int)(d e:Bts)(f:Int)(g:(Nat×Nat))(h:(List AE))(i:Int)(j:((List Aj)→Int→Int→Int→Int→Int→Int→Int→Int→Int→Bts→Bts→Int→(Nat×Nat)→(List AE)→Int→Option (AE×AC)))(k:Aj)(a:(AE×AC))(l:Int):Option (AE×AC):=
 (JK l (AE.mk c d e f g h i) a.1 k).bind fun b=>j a.2.marks a.2.at_ a.2.why a.2.where_ a.2.l.text a.2.l.funcs a.2.l.arity a.2.l.nest a.2.nest b.op b.name b.tail b.type_ b.num b.args b.at_
def Dx(t:AB)(a:(List Aj))(b c d e f g h i j:Int)(k l:Bts)(m:Int)(n:(Nat×Nat))(o:(List AE))(p:Int)(r:((List Aj)→Int→Int→Int→Int→Int→Int→Int→Int→Int→Bts→Bts→Int→(Nat×Nat)→(List AE)→Int→Option (AE×AC)))(u:Bool):Option (AE×AC):=
 bif u then ((Bf (AC.mk a b c d (Ai.mk e f g h) i)).bind fun q=>(t.ref04_reader_unit (AC.mk a (i64.wrap (b+1)) c d (Ai.mk e f g h) i)).bind fun s=>bif (q.text==([47]:List UInt8)) then (Dw j k l m n o p r q s 11) else (Dw j k l m n o p r q s 10)) else (some ((AE.mk j k l m n o p),(AC.mk a b c d (Ai.mk e f g h) i)))
def C9(j:AB)(k:(List Aj)→Int→Int→Int→Int→Int→Int→Int→Int→Int→Bts→Bts→Int→(Nat×Nat)→(List AE)→Int→Option (AE×AC))(a:(List Aj))(b c d e f g h i l:Int)(m n:Bts)(o:Int)(p:(Nat×Nat))(q:(List AE))(r:Int):Option (AE×AC):=
 (Br (AC.mk a b c d (Ai.mk e f g h) i) ([42]:List UInt8)).bind fun s=>bif s then (Dx j a b c d e f g h i l m n o p q r k true) else ((Br (AC.mk a b c d (Ai.mk e f g h) i) ([47]:List UInt8)).bind fun t=>Dx j a b c d e f g h i l m n o p q r k t)
def Bx(a:AB):Nat→(List Aj)→Int→Int→Int→Int→Int→Int→Int→Int→Int→Bts→Bts→Int→(Nat×Nat)→(List AE)→Int→Option (AE×AC)
 |0=>fun _ _ _ _ _ _ _ _ _ _ _ _ _ _ _ _=>none
 |k+1=>C9 a (Bx a k)
def DF(b:AB)(c:Nat)(d:AC):Option (AE×AC):=
 (b.ref04_reader_unit d).bind fun a=>Bx b c a.2.marks a.2.at_ a.2.why a.2.where_ a.2.l.text a.2.l.funcs a.2.l.arity a.2.l.nest a.2.nest a.1.op a.1.name a.1.tail a.1.type_ a.1.num a.1.args a.1.at_
def GN(a:Int)(b c:Bts)(d:(Nat×Nat))(e:Int)(f:(List Aj))(g h i j k l m n o:Int)(p:(List AE)):Option (AE×AC):=
 some ((AE.mk a b c o d p e),(AC.mk f g h i (Ai.mk j k l m) n))
def CU(j:AB)(a:(Bool×AC))(c:Int)(d e:Bts)(f:Int)(g:(Nat×Nat))(h:Int)(k:Bool):Option (AE×AC):=
 bif k then ((BB (AC.mk a.2.marks (i64.wrap (a.2.at_+1)) a.2.why a.2.where_ (Ai.mk a.2.l.text a.2.l.funcs a.2.l.arity a.2.l.nest) a.2.nest) ([40]:List UInt8)).bind fun l=>(j.ref04_reader_expr l).bind fun i=>(BB i.2 ([41]:List UInt8)).bind fun b=>GN c d e g h b.marks b.at_ b.why b.where_ b.l.text b.l.funcs b.l.arity b.l.nest b.nest f ([i.1]:List AE)) else (GN c d e g h a.2.marks (i64.wrap (a.2.at_+1)) a.2.why a.2.where_ a.2.l.text a.2.l.funcs a.2.l.arity a.2.l.nest a.2.nest f ([]:List AE))
def FF(h:AB)(j:Nat)(a:(Bool×AC))(b:Int)(d e:Bts)(i:Int)(f:(Nat×Nat))(g:Int):Option (AE×AC):=
 bif (b==5) then ((CP j (AC.mk a.2.marks (i64.wrap (a.2.at_+1)) a.2.why a.2.where_ (Ai.mk a.2.l.text a.2.l.funcs a.2.l.arity a.2.l.nest) a.2.nest)).bind fun c=>GN b d e f g c.2.marks c.2.at_ c.2.why c.2.where_ c.2.l.text c.2.l.funcs c.2.l.arity c.2.l.nest c.2.nest c.1 ([]:List AE)) else (bif (b==14) then (CU h a b d e i f g (b==14)) else (bif (b==15) then (CU h a b d e i f g (b==15)) else (bif (b==16) then (CU h a b d e i f g (b==16)) else (CU h a b d e i f g (b==17)))))
def DQ(c:AB)(d:Nat)(a:Aj)(b:(Bool×AC))(e:Bool):Option (AE×AC):=
 bif e then ((B5 b.2 (21:Int)).bind fun f=>some ((AE.mk 0 ([]:List UInt8) ([]:List UInt8) 0 ((0,0):Nat×Nat) [] 0),f)) else ((IB a.text).bind fun g=>FF c d b g ([]:List UInt8) ([]:List UInt8) 0 ((0,0):Nat×Nat) a.at_)
def DG(c:AB)(e:Nat)(a:AC):Option (AE×AC):=
 (Bf a).bind fun b=>bif (a.why != 0) then (some ((AE.mk 0 ([]:List UInt8) ([]:List UInt8) 0 ((0,0):Nat×Nat) [] 0),a)) else (bif (b.kind==2) then (some ((AE.mk 1 ([]:List UInt8) ([]:List UInt8) 0 b.num [] b.at_),(AC.mk a.marks (i64.wrap (a.at_+1)) a.why a.where_ (Ai.mk a.l.text a.l.funcs a.l.arity a.l.nest) a.nest))) else (bif (b.kind==0) then ((c.ref04_reader_named (AC.mk a.marks (i64.wrap (a.at_+1)) a.why a.where_ (Ai.mk a.l.text a.l.funcs a.l.arity a.l.nest) a.nest) b).bind fun f=>some (f.1,f.2)) else ((B6 a ([40]:List UInt8)).bind fun d=>bif d.1 then ((c.ref04_reader_expr d.2).bind fun g=>(BB g.2 ([41]:List UInt8)).bind fun h=>some (g.1,h)) else (bif (b.kind != 1) then (DQ c e b d true) else ((IB b.text).bind fun i=>DQ c e b d (i==0))))))
def Da(c:AB)(b:(List AE))(d:((List Aj)→Int→Int→Int→Int→Int→Int→Int→Int→(List AE)→Option (AE×AC)))(e:(List Aj))(f g h i j k l m:Int):Option (AE×AC):=
 (c.ref04_reader_expr (AC.mk e f g h (Ai.mk i j k l) m)).bind fun a=>(HB 96 b ([a.1]:List AE)).bind fun _=>d a.2.marks a.2.at_ a.2.why a.2.where_ a.2.l.text a.2.l.funcs a.2.l.arity a.2.l.nest a.2.nest (b++([a.1]:List AE))
def Db(l:AB)(m:Aj)(c:(List Aj))(d e f g h i j k:Int)(b:(List AE))(n:((List Aj)→Int→Int→Int→Int→Int→Int→Int→Int→(List AE)→Option (AE×AC)))(o:Bool):Option (AE×AC):=
 bif o then (bif (decide ((b.length:Int)>0)) then ((BB (AC.mk c d e f (Ai.mk g h i j) k) ([44]:List UInt8)).bind fun a=>Da l b n a.marks a.at_ a.why a.where_ a.l.text a.l.funcs a.l.arity a.l.nest a.nest) else (Da l b n c d e f g h i j k)) else ((BB (AC.mk c d e f (Ai.mk g h i j) k) ([41]:List UInt8)).bind fun p=>some ((AE.mk 7 m.text ([]:List UInt8) 0 ((0,0):Nat×Nat) b m.at_),p))
def Cj(j:AB)(k:Aj)(l:(List Aj)→Int→Int→Int→Int→Int→Int→Int→Int→(List AE)→Option (AE×AC))(b:(List Aj))(c a d e f g h i:Int)(m:(List AE)):Option (AE×AC):=
 bif (a==0) then ((Br (AC.mk b c a d (Ai.mk e f g h) i) ([41]:List UInt8)).bind fun n=>Db j k b c a d e f g h i m l (!n)) else (Db j k b c a d e f g h i m l false)
def Bl(a:AB)(b:Aj):Nat→(List Aj)→Int→Int→Int→Int→Int→Int→Int→Int→(List AE)→Option (AE×AC)
 |0=>fun _ _ _ _ _ _ _ _ _ _=>none
 |k+1=>Cj a b (Bl a b k)
def Cp(c:AB)(d:Nat)(e:AC)(b:Aj):Option (AE×AC):=
 (B6 e ([40]:List UInt8)).bind fun a=>bif (!a.1) then (some ((AE.mk 6 b.text ([]:List UInt8) 0 ((0,0):Nat×Nat) [] b.at_),a.2)) else (Bl c b d a.2.marks a.2.at_ a.2.why a.2.where_ a.2.l.text a.2.l.funcs a.2.l.arity a.2.l.nest a.2.nest ([]:List AE))
def AB.at:Nat→AB
 |0=>⟨fun _=>none,fun _=>none,fun _ _=>none,fun _ _=>none,fun _=>none,fun _=>none,fun _=>none,fun _=>none,fun _ _=>none⟩
 |n+1=>⟨DC (AB.at n) n,DD (AB.at n) n,Cm (AB.at n) n,CD (AB.at n) n,DE (AB.at n) n,DX (AB.at n) n,DF (AB.at n) n,DG (AB.at n) n,Cp (AB.at n) n⟩
def ref04_reader_expr(a:Nat):AC→Option (AE×AC):=(AB.at a).ref04_reader_expr
def ref04_reader_cons(a:Nat):AC→Option (AE×AC):=(AB.at a).ref04_reader_cons
def ref04_reader_parts(a:Nat):AC→(List Bts)→Option ((List AE)×AC):=(AB.at a).ref04_reader_parts
def ref04_reader_branches(a:Nat):AC→AE→Option (AC×AE):=(AB.at a).ref04_reader_branches
def ref04_reader_comp(a:Nat):AC→Option (AE×AC):=(AB.at a).ref04_reader_comp
def ref04_reader_sum(a:Nat):AC→Option (AE×AC):=(AB.at a).ref04_reader_sum
def ref04_reader_term(a:Nat):AC→Option (AE×AC):=(AB.at a).ref04_reader_term
def ref04_reader_unit(a:Nat):AC→Option (AE×AC):=(AB.at a).ref04_reader_unit
def ref04_reader_named(a:Nat):AC→Aj→Option (AE×AC):=(AB.at a).ref04_reader_named
def EG(d:Nat)(c:(List AJ))(e:((List Aj)→Int→Int→Int→Int→Int→Int→Int→Int→(List AJ)→Option (AO×AC)))(f:(List Aj))(g h i j k l m n:Int):Option (AO×AC):=
 (CM (AC.mk f g h i (Ai.mk j k l m) n)).bind fun b=>(CP d b.2).bind fun a=>(HB 32 c ([(AJ.mk b.1.text a.1 b.1.at_)]:List AJ)).bind fun _=>e a.2.marks a.2.at_ a.2.why a.2.where_ a.2.l.text a.2.l.funcs a.2.l.arity a.2.l.nest a.2.nest (c++([(AJ.mk b.1.text a.1 b.1.at_)]:List AJ))
def Df(b:Nat)(c:(List AJ))(d:((List Aj)→Int→Int→Int→Int→Int→Int→Int→Int→(List AJ)→Option (AO×AC)))(e:(List Aj))(f g h i j k l m:Int)(n:Bool):Option (AO×AC):=
 bif n then ((B5 (AC.mk e f g h (Ai.mk i j k l) m) (22:Int)).bind fun a=>EG b c d a.marks a.at_ a.why a.where_ a.l.text a.l.funcs a.l.arity a.l.nest a.nest) else (EG b c d e f g h i j k l m)
def EH(k:Nat)(c:(List AJ))(l:((List Aj)→Int→Int→Int→Int→Int→Int→Int→Int→(List AJ)→Option (AO×AC)))(d:(List Aj))(e a f g h b i j:Int):Option (AO×AC):=
 bif (a==0) then ((Bf (AC.mk d e a f (Ai.mk g h b i) j)).bind fun m=>bif (m.kind==0) then (Df k c l d e a f g h b i j (decide ((c.length:Int)≥b))) else (Df k c l d e a f g h b i j false)) else (Df k c l d e a f g h b i j false)
def Dg(b:Nat)(m:(Aj×AC))(d:(List Aj))(e f g h i j k l:Int)(c:(List AJ))(n:((List Aj)→Int→Int→Int→Int→Int→Int→Int→Int→(List AJ)→Option (AO×AC)))(q:Bool):Option (AO×AC):=
 bif q then (bif (decide ((c.length:Int)>0)) then ((BB (AC.mk d e f g (Ai.mk h i j k) l) ([44]:List UInt8)).bind fun a=>EH b c n a.marks a.at_ a.why a.where_ a.l.text a.l.funcs a.l.arity a.l.nest a.nest) else (EH b c n d e f g h i j k l)) else ((BB (AC.mk d e f g (Ai.mk h i j k) l) ([41]:List UInt8)).bind fun r=>(BB r ([58]:List UInt8)).bind fun s=>(CP b s).bind fun o=>(BB o.2 ([61]:List UInt8)).bind fun t=>(ref04_reader_expr b t).bind fun p=>(BB p.2 ([59]:List UInt8)).bind fun u=>some ((AO.mk m.1.text c o.1 p.1 m.1.at_),u))
def DR(j:Nat)(k:(Aj×AC))(l:(List Aj)→Int→Int→Int→Int→Int→Int→Int→Int→(List AJ)→Option (AO×AC))(b:(List Aj))(c a d e f g h i:Int)(m:(List AJ)):Option (AO×AC):=
 bif (a==0) then ((Br (AC.mk b c a d (Ai.mk e f g h) i) ([41]:List UInt8)).bind fun n=>Dg j k b c a d e f g h i m l (!n)) else (Dg j k b c a d e f g h i m l false)
def Bj(a:Nat)(b:(Aj×AC)):Nat→(List Aj)→Int→Int→Int→Int→Int→Int→Int→Int→(List AJ)→Option (AO×AC)
 |0=>fun _ _ _ _ _ _ _ _ _ _=>none
 |k+1=>DR a b (Bj a b k)
def EI(b:Nat)(d:(List Aj))(e f g h i j k l:Int):Option (AO×AC):=
 (CM (AC.mk d e f g (Ai.mk h i j k) l)).bind fun c=>(BB c.2 ([40]:List UInt8)).bind fun a=>Bj b c b a.marks a.at_ a.why a.where_ a.l.text a.l.funcs a.l.arity a.l.nest a.nest ([]:List AJ)
def EJ(c:Nat)(a:AC)(d:Bool):Option (AO×AC):=
 bif d then ((B5 a (22:Int)).bind fun b=>EI c b.marks b.at_ b.why b.where_ b.l.text b.l.funcs b.l.arity b.l.nest b.nest) else (EI c a.marks a.at_ a.why a.where_ a.l.text a.l.funcs a.l.arity a.l.nest a.nest)
def Cz(b:Nat)(a:AC)(c:Int):Option (AO×AC):=
 (Bf a).bind fun d=>bif (d.kind==0) then (EJ b a (decide (c≥a.l.funcs))) else (EJ b a false)
def CE(l:Nat)(c:(List Aj))(d e f g h i j k:Int)(b:(List AO))(m:((List Aj)→Int→Int→Int→Int→Int→Int→Int→Int→(List AO)→Option (AM×AC)))(n:Bool):Option (AM×AC):=
 bif n then ((Cz l (AC.mk c d e f (Ai.mk g h i j) k) (b.length:Int)).bind fun a=>(HB 152 b ([a.1]:List AO)).bind fun _=>m a.2.marks a.2.at_ a.2.why a.2.where_ a.2.l.text a.2.l.funcs a.2.l.arity a.2.l.nest a.2.nest (b++([a.1]:List AO))) else (some ((AM.mk b),(AC.mk c d e f (Ai.mk g h i j) k)))
def CL(k:Nat)(l:(List Aj)→Int→Int→Int→Int→Int→Int→Int→Int→(List AO)→Option (AM×AC))(b:(List Aj))(c a d e f g h i:Int)(j:(List AO)):Option (AM×AC):=
 bif (a==0) then (bif ((j.length:Int)==0) then (CE k b c a d e f g h i j l true) else ((Bf (AC.mk b c a d (Ai.mk e f g h) i)).bind fun m=>CE k b c a d e f g h i j l (m.kind != 4))) else (CE k b c a d e f g h i j l false)
def Bd(a:Nat):Nat→(List Aj)→Int→Int→Int→Int→Int→Int→Int→Int→(List AO)→Option (AM×AC)
 |0=>fun _ _ _ _ _ _ _ _ _ _=>none
 |k+1=>CL a (Bd a k)
def B7(b:Nat)(a:AC):Option (AM×AC):=
 Bd b b a.marks a.at_ a.why a.where_ a.l.text a.l.funcs a.l.arity a.l.nest a.nest ([]:List AO)
def Fp(d:Nat)(e:Bts)(a:Ai):Option (AM×AD):=
 bif (decide ((e.length:Int)>(if 32768< (if a.text<0 then 0 else a.text) then 32768 else (if a.text<0 then 0 else a.text)))) then (some ((AM.mk []),(AD.mk 22 (if 32768< (if a.text<0 then 0 else a.text) then 32768 else (if a.text<0 then 0 else a.text))))) else ((GK d e).bind fun c=>bif (decide (c.2≥0)) then (some ((AM.mk []),(AD.mk 20 c.2))) else ((B7 d (AC.mk c.1 0 0 0 (Ai.mk (if 32768< (if a.text<0 then 0 else a.text) then 32768 else (if a.text<0 then 0 else a.text)) a.funcs a.arity a.nest) (0:Int))).bind fun b=>bif (b.2.why != 0) then (some ((AM.mk []),(AD.mk b.2.why b.2.where_))) else (some (b.1,(AD.mk 0 0)))))
def Hs(a:Int)(b:((List Bts)→Int→Int→Option ((List Bts))))(c:(List Bts))(d:Int):Option ((List Bts)):=
 b c d (i64.wrap (a+1))
def Ht(a:Int)(b:((List Bts)→Int→Int→Option ((List Bts))))(c:(List Bts)):Option ((List Bts)):=
 Hs a b c (i64.wrap (a+1))
def Gq(f:Bts)(b:(List Bts))(c a:Int)(d:((List Bts)→Int→Int→Option ((List Bts))))(g:Bool):Option ((List Bts)):=
 bif g then (Hs a d b c) else (bif (decide (a>c)) then ((sub f c a).bind fun e=>(HB 16 b ([e]:List Bts)).bind fun _=>Ht a d (b++([e]:List Bts))) else (Ht a d b))
def FV(a:Bts)(d:(List Bts)→Int→Int→Option ((List Bts)))(c:(List Bts))(e b:Int):Option ((List Bts)):=
 bif (decide (b≤(a.length:Int))) then (bif (decide (b< (a.length:Int))) then ((idx a b).bind fun f=>Gq a c e b d (((f).toNat:Int) != (((32:UInt8)).toNat:Int))) else (Gq a c e b d false)) else (some c)
def Eh(a:Bts):Nat→(List Bts)→Int→Int→Option ((List Bts))
 |0=>fun _ _ _=>none
 |k+1=>FV a (Eh a k)
def GO(a:Nat)(b:Bts):Option ((List Bts)):=
 Eh b a ([]:List Bts) 0 0
def Fx(a:Nat)(c:Bool):Option (Int×Bool):=
 bif c then (some (0,false)) else ((f2i .i64 a).bind fun b=>some (b,(feq (FloatKind.f64.nearest b) a)))
def Fn(a:Nat):Option (Int×Bool):=
 bif (fge a 13938640846711685120) then (bif (!(fle a 4715268809856909312)) then (Fx a true) else (bif (feq a 0) then (Fx a (((a:Nat):Int) != 0)) else (Fx a false))) else (bif (!false) then (Fx a true) else (bif (feq a 0) then (Fx a (((a:Nat):Int) != 0)) else (Fx a false)))
def Mh(a:(Int×Bool))(b:(Int×Bool))(c:Bool):Option (Ad×Bool):=
 bif c then (some ((Ad.mk 0 0),false)) else (some ((Ad.mk a.1 b.1),true))
def EW(c:(Nat×Nat)):Option (Ad×Bool):=
 (Fn c.1).bind fun a=>(Fn c.2).bind fun b=>bif (!a.2) then (Mh a b true) else (Mh a b (!b.2))
def Gs(a:Int)(b:(Bool→Int→Option Bool))(c:Bool):Option Bool:=
 b c (i64.wrap (a+1))
def Iu(a:Bool):Option Bool:=
 some a
def Iv(a:Bool):Option Bool:=
 some a
def Iw(a:Bool):Option Bool:=
 some a
def EK(a:AF)(d:Bool→Int→Option Bool)(b:Bool)(c:Int):Option Bool:=
 bif (decide (c< (a.list.length:Int))) then ((idx a.list c).bind fun e=>(EW e).bind fun f=>bif b then (Gs c d f.2) else (Gs c d false)) else (bif (a.type_==1) then (bif b then (bif (!a.bool) then (Iu ((a.list.length:Int)==0)) else (Iu false)) else (Iu false)) else (bif (a.type_==2) then (bif b then (bif (ceq a.num ((0,0):Nat×Nat)) then (Iv ((a.list.length:Int)==0)) else (Iv false)) else (Iv false)) else (bif (a.type_==3) then (bif b then (bif (ceq a.num ((0,0):Nat×Nat)) then (Iw (!a.bool)) else (Iw false)) else (Iw false)) else (some false))))
def EN(a:AF):Nat→Bool→Int→Option Bool
 |0=>fun _ _=>none
 |k+1=>EK a (EN a k)
def B8(b:Nat)(a:AF):Option Bool:=
 (EW a.num).bind fun c=>EN a b c.2 0
def EZ(a:Nat)(b:(Nat×Nat)):Option (Bts):=
 (EW b).bind fun c=>(GG a c.1).bind fun d=>some d
def Hd(d:Nat)(e:AF)(a:Int)(f:(Bts→Int→Option (Bts×Int)))(b:Bts):Option (Bts×Int):=
 (idx e.list a).bind fun g=>(EZ d g).bind fun c=>(HB 1 b c).bind fun _=>f (b++c) (i64.wrap (a+1))
def Fy(d:Nat)(c:AF)(e:Bts→Int→Option (Bts×Int))(a:Bts)(b:Int):Option (Bts×Int):=
 bif (decide (b< (c.list.length:Int))) then (bif (decide (b>0)) then ((HB 1 a ([(32:UInt8)]:List UInt8)).bind fun _=>Hd d c b e (a++([(32:UInt8)]:List UInt8))) else (Hd d c b e a)) else ((P3 ([91]:List UInt8) a).bind fun f=>(P3 f ([93]:List UInt8)).bind fun g=>some (g,0))
def FW(a:Nat)(b:AF):Nat→Bts→Int→Option (Bts×Int)
 |0=>fun _ _=>none
 |k+1=>Fy a b (FW a b k)
def Gt(b:Nat)(a:AF):Option (Bts×Int):=
 (B8 b a).bind fun c=>bif (!c) then (some (([]:List UInt8),3)) else (bif (a.type_==1) then ((EZ b a.num).bind fun d=>some (d,0)) else (bif (a.type_==2) then (bif a.bool then (some (([116,114,117,101]:List UInt8),0)) else (some (([102,97,108,115,101]:List UInt8),0))) else (FW b a b ([]:List UInt8) 0)))
def FX(d:Nat)(g:Bts)(e:((List Bts)))(h:Int→Int→Int→(List (Nat×Nat))→Option (AF×Int))(c _x193 _x194:Int)(a:(List (Nat×Nat))):Option (AF×Int):=
 bif (decide (c< (e.length:Int))) then ((idx e c).bind fun i=>(Ep d i).bind fun b=>bif (b.2 != 0) then (some ((AF.mk 0 ((0,0):Nat×Nat) false []),11)) else ((GJ b.1).bind fun f=>(HB 16 a ([f]:List (Nat×Nat))).bind fun _=>h (i64.wrap (c+1)) b.1.re b.1.im (a++([f]:List (Nat×Nat))))) else ((Gt d (AF.mk 3 ((0,0):Nat×Nat) false a)).bind fun j=>bif (!(j.1==g)) then (some ((AF.mk 0 ((0,0):Nat×Nat) false []),11)) else (some ((AF.mk 3 ((0,0):Nat×Nat) false a),0)))
def FG(a:Nat)(b:Bts)(c:((List Bts))):Nat→Int→Int→Int→(List (Nat×Nat))→Option (AF×Int)
 |0=>fun _ _ _ _=>none
 |k+1=>FX a b c (FG a b c k)
def F0(a:Nat)(b:Bts)(c:(Ad×Int))(d:Bool):Option (AF×Int):=
 bif d then (some ((AF.mk 0 ((0,0):Nat×Nat) false []),11)) else ((sub b 1 (i64.wrap ((b.length:Int) - (1:Int)))).bind fun e=>(GO a e).bind fun f=>FG a b f a 0 c.1.re c.1.im ([]:List (Nat×Nat)))
def Gu(c:Nat)(a:Bts)(d:Bool):Option (AF×Int):=
 bif d then (some ((AF.mk 2 ((0,0):Nat×Nat) (a==([116,114,117,101]:List UInt8)) []),0)) else ((Ep c a).bind fun b=>bif (b.2==0) then ((GJ b.1).bind fun e=>some ((AF.mk 1 e false []),0)) else (bif (decide ((a.length:Int)<2)) then (F0 c a b true) else ((idx a (0:Int)).bind fun f=>bif (((f).toNat:Int) != (((91:UInt8)).toNat:Int)) then (F0 c a b true) else ((idx a (i64.wrap ((a.length:Int) - (1:Int)))).bind fun g=>F0 c a b (((g).toNat:Int) != (((93:UInt8)).toNat:Int))))))
def Fq(b:Nat)(a:Bts):Option (AF×Int):=
 bif (a==([116,114,117,101]:List UInt8)) then (Gu b a true) else (Gu b a (a==([102,97,108,115,101]:List UInt8)))
def Hu(a:Int)(b:(Int→Bool→Option ((List AF)×Int)))(c:Bool):Option ((List AF)×Int):=
 b (i64.wrap (a+1)) c
def Ei(f:Nat)(c:Bts)(d:(List AF))(g:Int)(h:((List AF)→Int→Option ((List AF)×Int)))(a:Int)(i:Bool)(e:(Int→Bool→Option ((List AF)×Int)))(j:Bool):Option ((List AF)×Int):=
 bif j then ((idx c a).bind fun k=>bif (((k).toNat:Int)==(((93:UInt8)).toNat:Int)) then (Hu a e false) else (Hu a e i)) else ((sub c g a).bind fun l=>(Fq f l).bind fun b=>bif (b.2 != 0) then (some ([],11)) else ((HB 56 d ([b.1]:List AF)).bind fun _=>h (d++([b.1]:List AF)) a))
def FY(d:Nat)(a:Bts)(e:(List AF))(f:Int)(g:((List AF)→Int→Option ((List AF)×Int)))(h:Int→Bool→Option ((List AF)×Int))(b:Int)(c:Bool):Option ((List AF)×Int):=
 bif (decide (b< (a.length:Int))) then (bif c then (Ei d a e f g b c h true) else ((idx a b).bind fun i=>Ei d a e f g b c h (((i).toNat:Int) != (((32:UInt8)).toNat:Int)))) else (Ei d a e f g b c h false)
def EO(a:Nat)(b:Bts)(c:(List AF))(d:Int)(e:((List AF)→Int→Option ((List AF)×Int))):Nat→Int→Bool→Option ((List AF)×Int)
 |0=>fun _ _=>none
 |k+1=>FY a b c d e (EO a b c d e k)
def FZ(d:Nat)(b:Bts)(e:(List AF)→Int→Option ((List AF)×Int))(c:(List AF))(a:Int):Option ((List AF)×Int):=
 bif (decide (a< (b.length:Int))) then ((idx b a).bind fun f=>bif (((f).toNat:Int)==(((32:UInt8)).toNat:Int)) then (e c (i64.wrap (a+1))) else ((idx b a).bind fun g=>EO d b c a e d a (((g).toNat:Int)==(((91:UInt8)).toNat:Int)))) else (some (c,0))
def CZ(a:Nat)(b:Bts):Nat→(List AF)→Int→Option ((List AF)×Int)
 |0=>fun _ _=>none
 |k+1=>FZ a b (CZ a b k)
def Id(a:Nat)(b:Bts):Option ((List AF)×Int):=
 CZ a b a ([]:List AF) 0
def JZ(a:(List AF))(b:Bool)(c:(List AO)):Option (AM×(List AF)×Bool):=
 some ((AM.mk c),a,b)
def Gv(c:Nat)(d:Ft)(b:(List AO))(e:Int):Option (AM×(List AF)×Bool):=
 (Id c d.args).bind fun a=>bif (e==0) then (JZ a.1 (a.2==0) b) else (JZ a.1 false b)
def Cq(a:Nat)(b:Ft):Option (AM×(List AF)×Bool):=
 (KN).bind fun d=>(Fp a b.text d).bind fun c=>Gv a b c.1.funcs c.2.why
def J1(a b:Int)(c:AD)(d:Bool):Option AD:=
 bif d then (some (AD.mk a b)) else (some c)
def D6(c b:Int)(a:AD):Option AD:=
 bif (a.why==0) then (J1 c b a true) else (J1 c b a (decide (b<a.at_)))
def HV(b:AE)(a:AD)(c:Bool):Option AD:=
 bif c then ((D6 33 b.at_ a).bind fun d=>some d) else (some a)
def GP(a:AE)(c:Aq)(b:AD)(d:AM)(e:Bool):Option AD:=
 bif e then ((D6 32 a.at_ b).bind fun f=>some f) else (bif (a.op==7) then ((idx d.funcs (i64.wrap ((Cu c a.name) - (1:Int)))).bind fun g=>HV a b ((g.params.length:Int) != (a.args.length:Int))) else (HV a b false))
def HW(a:AE)(b:Aq)(c:AD)(d:AM)(e:Bool):Option AD:=
 bif e then ((D6 31 a.at_ c).bind fun f=>some f) else (bif (a.op==7) then (GP a b c d ((Cu b a.name)==0)) else (GP a b c d false))
def F1(a:AE)(e b:Aq)(c:AD)(d:AM):Option AD:=
 bif (a.op==6) then (HW a b c d ((Cu e a.name)==0)) else (HW a b c d false)
def Kt(a:AE)(b:Bool):Option ((List Bts)):=
 bif b then (some ([a.name,a.tail]:List Bts)) else (some [])
def J2(a:AE)(b:Int)(c:Bool):Option ((List Bts)):=
 bif c then (some ([a.name]:List Bts)) else (bif (a.op==20) then (Kt a (b==2)) else (Kt a false))
def Hv(a:AE)(b:Int):Option ((List Bts)):=
 bif (a.op==21) then (J2 a b (a.op==21)) else (bif (a.op==22) then (J2 a b (b==1)) else (J2 a b false))
structure A2 where
 scope_walk:AE→Aq→Aq→AD→AM→Option (Aq×AD)
def Iy(f:Int)(g:(Int→Aq→Int→Int→Option (Aq×AD)))(c:((List Bts)))(d:(Aq×AD))(h:Int→Aq→Option (Aq×AD))(a:Int)(b:Aq):Option (Aq×AD):=
 bif (decide (a< (c.length:Int))) then ((idx c a).bind fun e=>h (i64.wrap (a+1)) (MM e (i64.wrap ((Cu b e) - 1)) b)) else (g (i64.wrap (f+1)) b d.2.why d.2.at_)
def Ie(a:Int)(b:(Int→Aq→Int→Int→Option (Aq×AD)))(c:((List Bts)))(d:(Aq×AD)):Nat→Int→Aq→Option (Aq×AD)
 |0=>fun _ _=>none
 |k+1=>Iy a b c d (Ie a b c d k)
def Iz(f:A2)(g:Nat)(h:Aq)(i:AM)(j k l:Int)(m:(Int→Aq→Int→Int→Option (Aq×AD)))(n:AE)(a:((List Bts)))(o:Int→Aq→Option (Aq×AD))(b:Int)(c:Aq):Option (Aq×AD):=
 bif (decide (b< (a.length:Int))) then ((idx a b).bind fun d=>o (i64.wrap (b+1)) (MM d (i64.wrap ((Cu c d)+1)) c)) else ((f.scope_walk n c h (AD.mk k l) i).bind fun e=>Ie j m a e g 0 e.1)
def If(a:A2)(b:Nat)(c:Aq)(d:AM)(e f g:Int)(h:(Int→Aq→Int→Int→Option (Aq×AD)))(i:AE)(j:((List Bts))):Nat→Int→Aq→Option (Aq×AD)
 |0=>fun _ _=>none
 |k+1=>Iz a b c d e f g h i j (If a b c d e f g h i j k)
def I0(g:A2)(c:Nat)(b:AE)(h:Aq)(i:AM)(j:Int→Aq→Int→Int→Option (Aq×AD))(a:Int)(d:Aq)(e f:Int):Option (Aq×AD):=
 bif (decide (a< (b.args.length:Int))) then ((idx b.args a).bind fun k=>(Hv b a).bind fun l=>If g c h i a e f j k l c 0 d) else (some (d,(AD.mk e f)))
def Ck(a:A2)(b:Nat)(c:AE)(d:Aq)(e:AM):Nat→Int→Aq→Int→Int→Option (Aq×AD)
 |0=>fun _ _ _ _=>none
 |k+1=>I0 a b c d e (Ck a b c d e k)
def LH(g:A2)(a:Nat)(b:AE)(c d:Aq)(h:AD)(e:AM):Option (Aq×AD):=
 (F1 b c d h e).bind fun f=>Ck g a b d e a 0 c f.why f.at_
def A2.at:Nat→A2
 |0=>⟨fun _ _ _ _ _=>none⟩
 |n+1=>⟨LH (A2.at n) n⟩
def scope_walk(a:Nat):AE→Aq→Aq→AD→AM→Option (Aq×AD):=(A2.at a).scope_walk
def J3(a:Int)(b:(Int→Int→Int→Aq→Option AD))(c d:Int)(e:Aq):Option AD:=
 b (i64.wrap (a+1)) c d e
def J4(c:Int)(a:Aq)(d:(Int→Int→Int→Aq→Option AD))(b:AJ)(e f:Int):Option AD:=
 d (i64.wrap (c+1)) e f (MM b.name (i64.wrap ((Cu a b.name)+1)) a)
def F8(j:Nat)(k:AM)(l:Aq)(m:Int)(n:(Int→Int→Int→Option AD))(a:AO)(g:Int→Int→Int→Aq→Option AD)(b e f:Int)(c:Aq):Option AD:=
 bif (decide (b< (a.params.length:Int))) then ((idx a.params b).bind fun d=>bif (decide ((Cu c d.name)>0)) then ((D6 30 d.at_ (AD.mk e f)).bind fun h=>J4 b c g d h.why h.at_) else (J4 b c g d e f)) else ((scope_walk j (AE.mk a.body.op a.body.name a.body.tail a.body.type_ a.body.num a.body.args a.body.at_) c l (AD.mk e f) k).bind fun i=>n (i64.wrap (m+1)) i.2.why i.2.at_)
def F2(a:Nat)(b:AM)(c:Aq)(d:Int)(e:(Int→Int→Int→Option AD))(f:AO):Nat→Int→Int→Int→Aq→Option AD
 |0=>fun _ _ _ _=>none
 |k+1=>F8 a b c d e f (F2 a b c d e f k)
def IC(c:Nat)(a:AM)(f:Aq)(g:Int→Int→Int→Option AD)(b d e:Int):Option AD:=
 bif (decide (b< (a.funcs.length:Int))) then ((idx a.funcs b).bind fun h=>F2 c a f b g h c 0 d e ([]:Aq)) else (some (AD.mk d e))
def DH(a:Nat)(b:AM)(c:Aq):Nat→Int→Int→Int→Option AD
 |0=>fun _ _ _=>none
 |k+1=>IC a b c (DH a b c k)
def ID(g:Nat)(c:AM)(h:Int→Int→Int→Aq→Option AD)(a d e:Int)(b:Aq):Option AD:=
 bif (decide (a< (c.funcs.length:Int))) then ((idx c.funcs a).bind fun f=>bif (decide ((Cu b f.name)>0)) then ((D6 30 f.at_ (AD.mk d e)).bind fun i=>J3 a h i.why i.at_ b) else (J3 a h d e (MM f.name (i64.wrap (a+1)) b))) else (DH g c b g 0 d e)
def Hw(a:Nat)(b:AM):Nat→Int→Int→Int→Aq→Option AD
 |0=>fun _ _ _ _=>none
 |k+1=>ID a b (Hw a b k)
def Ig(a:Nat)(b:AM):Option AD:=
 Hw a b a 0 0 0 ([]:Aq)
def I1(c:AM)(d:Int→Aq→Option (Aq×(List AO)×(List AJ)×Aq))(a:Int)(b:Aq):Option (Aq×(List AO)×(List AJ)×Aq):=
 bif (decide (a≥0)) then ((idx c.funcs a).bind fun e=>d (i64.wrap (a - 1)) (MM e.name (i64.wrap (a+1)) b)) else (some (b,c.funcs,[],b))
def Ih(a:AM):Nat→Int→Aq→Option (Aq×(List AO)×(List AJ)×Aq)
 |0=>fun _ _=>none
 |k+1=>I1 a (Ih a k)
def Ku(b:Nat)(a:AM)(_ao0:AD):Option (Aq×(List AO)×(List AJ)×Aq):=
 Ih a b (i64.wrap ((a.funcs.length:Int) - 1)) ([]:Aq)
def J5(a:Int)(b:AD)(c:Bool):Option AD:=
 bif c then (some (AD.mk 34 a)) else (some b)
def F3(b:Int)(a:AD):Option AD:=
 bif (a.why==0) then (J5 b a true) else (J5 b a (decide (b<a.at_)))
structure AG where
 types_checker_want:(List AO)→(List AJ)→Aq→AD→AE→Int→Option ((List AO)×(List AJ)×AD)
 types_checker_all:(List AO)→(List AJ)→Aq→AD→Int→(List AE)→Option ((List AO)×(List AJ)×AD)
 types_checker_in:(List AO)→(List AJ)→Aq→AD→AE→Int→(List AJ)→Option ((List AO)×(List AJ)×AD)
 types_checker_in_2:(List AO)→(List AJ)→Aq→AD→AE→Int→(List AJ)→Option ((List AO)×(List AJ)×AD)
 types_checker_in_3:(List AO)→(List AJ)→Aq→AD→AE→Int→(List AJ)→Option ((List AO)×(List AJ)×AD)
 types_checker_own:(List AO)→(List AJ)→Aq→AD→AE→Option (Int×(List AO)×(List AJ)×AD)
 types_checker_want_1:(List AO)→(List AJ)→Aq→AD→AE→Int→Option ((List AO)×(List AJ)×AD)
 types_checker_want_2:(List AO)→(List AJ)→Aq→AD→AE→Int→Option ((List AO)×(List AJ)×AD)
 types_checker_want_3:(List AO)→(List AJ)→Aq→AD→AE→Int→Option ((List AO)×(List AJ)×AD)
 types_checker_call:(List AO)→(List AJ)→Aq→AD→AE→Option (Int×(List AO)×(List AJ)×AD)
def Cc(e:AE)(f g:Int)(a:(List AO))(b:(List AJ))(c d:Int):Option ((List AO)×(List AJ)×AD):=
 bif (g != f) then ((F3 e.at_ (AD.mk c d)).bind fun h=>some (a,b,h)) else (some (a,b,(AD.mk c d)))
def GQ(c:AG)(_N:Nat)(e:(List AO))(f:(List AJ))(d:Aq)(g:AD)(a:AE)(b:Int):Option ((List AO)×(List AJ)×AD):=
 bif (a.op==19) then ((idx a.args (0:Int)).bind fun q=>(c.types_checker_want e f d g q (2:Int)).bind fun m=>(sub a.args 1 (a.args.length:Int)).bind fun r=>(c.types_checker_all m.1 m.2.1 d m.2.2 b r).bind fun i=>Cc a b b i.1 i.2.1 i.2.2.why i.2.2.at_) else (bif (a.op==20) then ((idx a.args (0:Int)).bind fun s=>(c.types_checker_want e f d g s (3:Int)).bind fun n=>(idx a.args (1:Int)).bind fun t=>(c.types_checker_want n.1 n.2.1 d n.2.2 t b).bind fun o=>(c.types_checker_in o.1 o.2.1 d o.2.2 a b ([(AJ.mk a.name 1 0),(AJ.mk a.tail 3 0)]:List AJ)).bind fun j=>Cc a b b j.1 j.2.1 j.2.2.why j.2.2.at_) else (bif (a.op==21) then ((c.types_checker_in_2 e f d g a b ([(AJ.mk a.name a.type_ 0)]:List AJ)).bind fun k=>Cc a b b k.1 k.2.1 k.2.2.why k.2.2.at_) else (bif (a.op==22) then ((idx a.args (0:Int)).bind fun u=>(c.types_checker_want e f d g u a.type_).bind fun p=>(c.types_checker_in_3 p.1 p.2.1 d p.2.2 a b ([(AJ.mk a.name a.type_ 0)]:List AJ)).bind fun l=>Cc a b b l.1 l.2.1 l.2.2.why l.2.2.at_) else ((c.types_checker_own e f d g a).bind fun h=>Cc a b h.1 h.2.1 h.2.2.1 h.2.2.2.why h.2.2.2.at_))))
def Ew(h:AG)(i:Aq)(j:Int)(c:(List AE))(k:Int→(List AO)→(List AJ)→Int→Int→Option ((List AO)×(List AJ)×AD))(b:Int)(d:(List AO))(e:(List AJ))(f g:Int):Option ((List AO)×(List AJ)×AD):=
 bif (decide (b< (c.length:Int))) then ((idx c b).bind fun l=>(h.types_checker_want d e i (AD.mk f g) l j).bind fun a=>k (i64.wrap (b+1)) a.1 a.2.1 a.2.2.why a.2.2.at_) else (some (d,e,(AD.mk f g)))
def Dy(a:AG)(b:Aq)(c:Int)(d:(List AE)):Nat→Int→(List AO)→(List AJ)→Int→Int→Option ((List AO)×(List AJ)×AD)
 |0=>fun _ _ _ _ _=>none
 |k+1=>Ew a b c d (Dy a b c d k)
def Jw(b:AG)(c:Nat)(d:(List AO))(e:(List AJ))(f:Aq)(a:AD)(g:Int)(h:(List AE)):Option ((List AO)×(List AJ)×AD):=
 Dy b f g h c 0 d e a.why a.at_
def HX(d:AG)(_N:Nat)(e:(List AO))(a:(List AJ))(f:Aq)(g:AD)(h:AE)(i:Int)(c:(List AJ)):Option ((List AO)×(List AJ)×AD):=
 (HB 32 a c).bind fun _=>(d.types_checker_want_1 e (a++c) f g h i).bind fun b=>(sub b.2.1 0 (a.length:Int)).bind fun j=>some (b.1,j,b.2.2)
def GR(d:AG)(_N:Nat)(e:(List AO))(a:(List AJ))(f:Aq)(g:AD)(h:AE)(i:Int)(c:(List AJ)):Option ((List AO)×(List AJ)×AD):=
 (HB 32 a c).bind fun _=>(d.types_checker_want_2 e (a++c) f g h i).bind fun b=>(sub b.2.1 0 (a.length:Int)).bind fun j=>some (b.1,j,b.2.2)
def GS(d:AG)(_N:Nat)(e:(List AO))(a:(List AJ))(f:Aq)(g:AD)(h:AE)(i:Int)(c:(List AJ)):Option ((List AO)×(List AJ)×AD):=
 (HB 32 a c).bind fun _=>(d.types_checker_want_3 e (a++c) f g h i).bind fun b=>(sub b.2.1 0 (a.length:Int)).bind fun j=>some (b.1,j,b.2.2)
def HR(c:(List AO))(a:(List AJ))(d:AD)(e:AE)(f:Int→Option (Int×(List AO)×(List AJ)×AD))(b:Int):Option (Int×(List AO)×(List AJ)×AD):=
 bif (decide (b≥0)) then ((idx a b).bind fun g=>bif (g.name==e.name) then ((idx a b).bind fun h=>some (h.type_,c,a,d)) else (f (i64.wrap (b - 1)))) else (some (0,c,a,d))
def FH(a:(List AO))(b:(List AJ))(c:AD)(d:AE):Nat→Int→Option (Int×(List AO)×(List AJ)×AD)
 |0=>fun _=>none
 |k+1=>HR a b c d (FH a b c d k)
def Hx(a:((List AO)×(List AJ)×AD))(b:Bool):Option (Int×(List AO)×(List AJ)×AD):=
 bif b then (some (2,a.1,a.2.1,a.2.2)) else (some (1,a.1,a.2.1,a.2.2))
def FI(e:AG)(l:Nat)(c:(List AO))(b:(List AJ))(f:Aq)(d:AD)(a:AE)(m:Bool):Option (Int×(List AO)×(List AJ)×AD):=
 bif m then (some (2,c,b,d)) else (bif (a.op==4) then (some (3,c,b,d)) else (bif (a.op==5) then (some (a.type_,c,b,d)) else (bif (a.op==6) then (FH c b d a l (i64.wrap ((b.length:Int) - 1))) else (bif (a.op==7) then ((e.types_checker_call c b f d a).bind fun g=>some (g.1,g.2.1,g.2.2.1,g.2.2.2)) else (bif (a.op==14) then ((e.types_checker_all c b f d 2 a.args).bind fun h=>some (2,h.1,h.2.1,h.2.2)) else (bif (a.op==18) then ((idx a.args (0:Int)).bind fun n=>(e.types_checker_want c b f d n (1:Int)).bind fun i=>(idx a.args (1:Int)).bind fun o=>(e.types_checker_want i.1 i.2.1 f i.2.2 o (3:Int)).bind fun j=>some (3,j.1,j.2.1,j.2.2)) else ((e.types_checker_all c b f d 1 a.args).bind fun k=>bif (a.op==12) then (Hx k true) else (Hx k (a.op==13)))))))))
def HA(b:AG)(c:Nat)(d:(List AO))(e:(List AJ))(f:Aq)(g:AD)(a:AE):Option (Int×(List AO)×(List AJ)×AD):=
 bif (a.op==2) then (FI b c d e f g a (a.op==2)) else (FI b c d e f g a (a.op==3))
def Fe(b:AG)(_N:Nat)(c:(List AO))(d:(List AJ))(e:Aq)(f:AD)(g:AE)(h:Int):Option ((List AO)×(List AJ)×AD):=
 (idx g.args (2:Int)).bind fun i=>(b.types_checker_want c d e f i h).bind fun a=>some (a.1,a.2.1,a.2.2)
def Ff(d:AG)(_N:Nat)(f:(List AO))(g:(List AJ))(e:Aq)(h:AD)(a:AE)(i:Int):Option ((List AO)×(List AJ)×AD):=
 (idx a.args (0:Int)).bind fun j=>(d.types_checker_want f g e h j a.type_).bind fun b=>(idx a.args (1:Int)).bind fun k=>(d.types_checker_want b.1 b.2.1 e b.2.2 k i).bind fun c=>some (c.1,c.2.1,c.2.2)
def Fg(b:AG)(_N:Nat)(c:(List AO))(d:(List AJ))(e:Aq)(f:AD)(g:AE)(h:Int):Option ((List AO)×(List AJ)×AD):=
 (idx g.args (1:Int)).bind fun i=>(b.types_checker_want c d e f i h).bind fun a=>some (a.1,a.2.1,a.2.2)
def Ea(j:AG)(d:Aq)(e:AE)(f:AO)(k:Int→(List AO)→(List AJ)→Int→Int→Option (Int×(List AO)×(List AJ)×AD))(a:Int)(c:(List AO))(g:(List AJ))(h i:Int):Option (Int×(List AO)×(List AJ)×AD):=
 bif (decide (a< (f.params.length:Int))) then ((idx f.params a).bind fun l=>(idx e.args a).bind fun m=>(j.types_checker_want c g d (AD.mk h i) m l.type_).bind fun b=>k (i64.wrap (a+1)) b.1 b.2.1 b.2.2.why b.2.2.at_) else ((idx c (i64.wrap ((Cu d e.name) - (1:Int)))).bind fun n=>some (n.type_,c,g,(AD.mk h i)))
def EB(a:AG)(b:Aq)(c:AE)(d:AO):Nat→Int→(List AO)→(List AJ)→Int→Int→Option (Int×(List AO)×(List AJ)×AD)
 |0=>fun _ _ _ _ _=>none
 |k+1=>Ea a b c d (EB a b c d k)
def Fr(f:AG)(g:Nat)(a:(List AO))(c:(List AJ))(d:Aq)(b:AD)(e:AE)(h:Bool):Option (Int×(List AO)×(List AJ)×AD):=
 bif h then (some (0,a,c,b)) else ((idx a (i64.wrap ((Cu d e.name) - (1:Int)))).bind fun i=>EB f d e i g 0 a c b.why b.at_)
def GT(d:AG)(e:Nat)(c:(List AO))(f:(List AJ))(b:Aq)(g:AD)(a:AE):Option (Int×(List AO)×(List AJ)×AD):=
 bif ((Cu b a.name)==0) then (Fr d e c f b g a true) else ((idx c (i64.wrap ((Cu b a.name) - (1:Int)))).bind fun h=>Fr d e c f b g a ((h.params.length:Int) != (a.args.length:Int)))
def AG.at:Nat→AG
 |0=>⟨fun _ _ _ _ _ _=>none,fun _ _ _ _ _ _=>none,fun _ _ _ _ _ _ _=>none,fun _ _ _ _ _ _ _=>none,fun _ _ _ _ _ _ _=>none,fun _ _ _ _ _=>none,fun _ _ _ _ _ _=>none,fun _ _ _ _ _ _=>none,fun _ _ _ _ _ _=>none,fun _ _ _ _ _=>none⟩
 |n+1=>⟨GQ (AG.at n) n,Jw (AG.at n) n,HX (AG.at n) n,GR (AG.at n) n,GS (AG.at n) n,HA (AG.at n) n,Fe (AG.at n) n,Ff (AG.at n) n,Fg (AG.at n) n,GT (AG.at n) n⟩
def types_checker_want(a:Nat):(List AO)→(List AJ)→Aq→AD→AE→Int→Option ((List AO)×(List AJ)×AD):=(AG.at a).types_checker_want
def types_checker_all(a:Nat):(List AO)→(List AJ)→Aq→AD→Int→(List AE)→Option ((List AO)×(List AJ)×AD):=(AG.at a).types_checker_all
def types_checker_in(a:Nat):(List AO)→(List AJ)→Aq→AD→AE→Int→(List AJ)→Option ((List AO)×(List AJ)×AD):=(AG.at a).types_checker_in
def types_checker_in_2(a:Nat):(List AO)→(List AJ)→Aq→AD→AE→Int→(List AJ)→Option ((List AO)×(List AJ)×AD):=(AG.at a).types_checker_in_2
def types_checker_in_3(a:Nat):(List AO)→(List AJ)→Aq→AD→AE→Int→(List AJ)→Option ((List AO)×(List AJ)×AD):=(AG.at a).types_checker_in_3
def types_checker_own(a:Nat):(List AO)→(List AJ)→Aq→AD→AE→Option (Int×(List AO)×(List AJ)×AD):=(AG.at a).types_checker_own
def types_checker_want_1(a:Nat):(List AO)→(List AJ)→Aq→AD→AE→Int→Option ((List AO)×(List AJ)×AD):=(AG.at a).types_checker_want_1
def types_checker_want_2(a:Nat):(List AO)→(List AJ)→Aq→AD→AE→Int→Option ((List AO)×(List AJ)×AD):=(AG.at a).types_checker_want_2
def types_checker_want_3(a:Nat):(List AO)→(List AJ)→Aq→AD→AE→Int→Option ((List AO)×(List AJ)×AD):=(AG.at a).types_checker_want_3
def types_checker_call(a:Nat):(List AO)→(List AJ)→Aq→AD→AE→Option (Int×(List AO)×(List AJ)×AD):=(AG.at a).types_checker_call
def IE(g:Nat)(d:AM)(h:(Aq×(List AO)×(List AJ)×Aq))(i:Int→Int→Int→(List AO)→(List AJ)→Option AD)(c e f:Int)(j:(List AO))(_x182:(List AJ)):Option AD:=
 bif (decide (c< (d.funcs.length:Int))) then ((idx d.funcs c).bind fun a=>(HB 32 ([]:List AJ) a.params).bind fun _=>(types_checker_want g j (([]:List AJ)++a.params) h.2.2.2 (AD.mk e f) (AE.mk a.body.op a.body.name a.body.tail a.body.type_ a.body.num a.body.args a.body.at_) a.type_).bind fun b=>i (i64.wrap (c+1)) b.2.2.why b.2.2.at_ b.1 b.2.1) else (some (AD.mk e f))
def Hy(a:Nat)(b:AM)(c:(Aq×(List AO)×(List AJ)×Aq)):Nat→Int→Int→Int→(List AO)→(List AJ)→Option AD
 |0=>fun _ _ _ _ _=>none
 |k+1=>IE a b c (Hy a b c k)
def HE(b:Nat)(c:AM):Option AD:=
 (Ig b c).bind fun a=>bif (a.why != 0) then (some a) else ((Ku b c a).bind fun d=>Hy b c d b 0 a.why a.at_ d.2.1 d.2.2.1)
def IF(a:Nat):Option Nat:=
 (P5 a).bind fun b=>some b
def IY(a:Nat):Option Bool:=
 some (decide ((i64.wrap (((a:Nat):Int)))<0))
def Hz(a:Bool):Option Bool:=
 some a
def Er(a:Nat):Option Bool:=
 bif (fge a 13938640846711685120) then (bif (fle a 4715268809856909312) then ((IF a).bind fun b=>bif (feq a b) then (bif (fne a 0) then (Hz true) else ((IY a).bind fun c=>Hz (!c))) else (Hz false)) else (Hz false)) else (Hz false)
def J6(a:Bool):Option Bool:=
 some a
def Bt(a:(Nat×Nat)):Option Bool:=
 (Er a.1).bind fun b=>bif b then ((Er a.2).bind fun c=>J6 c) else (J6 false)
def Dz(a:Bool):Option Int:=
 bif (!a) then (some 3) else (some 0)
def J7(a:Int)(b:(Bool→Int→Option Int))(c:Bool):Option Int:=
 b c (i64.wrap (a+1))
def IG(b:AF)(c:Bool→Int→Option Int)(d:Bool)(a:Int):Option Int:=
 bif (decide (a< (b.list.length:Int))) then ((idx b.list a).bind fun e=>bif d then ((Bt e).bind fun f=>J7 a c f) else (J7 a c false)) else (Dz d)
def F4(a:AF):Nat→Bool→Int→Option Int
 |0=>fun _ _=>none
 |k+1=>IG a (F4 a k)
def I2(a:Nat)(b:AF)(c:Bool):Option Int:=
 F4 b a c 0
def Cr(b:Nat)(a:AF):Option Int:=
 bif (a.type_==1) then ((Bt a.num).bind fun c=>bif c then (bif (!a.bool) then (Dz ((a.list.length:Int)==0)) else (Dz false)) else (Dz false)) else (bif (a.type_==2) then ((Bt a.num).bind fun d=>bif d then (bif (ceq a.num ((0,0):Nat×Nat)) then (Dz ((a.list.length:Int)==0)) else (Dz false)) else (Dz false)) else (bif (a.type_==3) then ((Bt a.num).bind fun e=>bif e then (bif (ceq a.num ((0,0):Nat×Nat)) then (I2 b a (!a.bool)) else (I2 b a false)) else (I2 b a false)) else (Dz false)))
def Ip(a:Aw):Option Th:=
 some (Th.done (AF.mk a.plain.type_ a.plain.num a.plain.bool a.plain.list) a.head a.tail)
def Kv(c:AF)(d:Th→Int→Option Th)(b:Th)(a:Int):Option Th:=
 bif (decide (a≥0)) then ((idx c.list a).bind fun e=>(Ip (Aw.mk (AF.mk 1 e false []) Th.nil Th.nil)).bind fun f=>(Ip (Aw.mk (AF.mk 0 ((0,0):Nat×Nat) false []) f b)).bind fun g=>d g (i64.wrap (a - 1))) else (some b)
def Jj(a:AF):Nat→Th→Int→Option Th
 |0=>fun _ _=>none
 |k+1=>Kv a (Jj a k)
def I3(b:Nat)(a:AF):Option Th:=
 bif (a.type_ != 3) then ((Ip (Aw.mk a Th.nil Th.nil)).bind fun c=>some c) else ((Ip (Aw.mk (AF.mk 3 ((0,0):Nat×Nat) false []) Th.nil Th.nil)).bind fun d=>Jj a b d (i64.wrap ((a.list.length:Int) - 1)))
def LP(b:Bts)(c:Nm→Option Th)(d:Nm):Option Th:=
 (d.view).bind fun a=>bif (!(a.1==b)) then (c a.2.2) else (some a.2.1)
def Eb(a:Bts):Nat→Nm→Option Th
 |0=>fun _=>none
 |k+1=>LP a (Eb a k)
def Dl(a:Nat)(b:Nm)(c:Bts):Option Th:=
 Eb c a b
def Ja(a:Aw):Option Aw:=
 some a
def Jk(a:AE):Option AE:=
 some a
def MX(a:Bool):Option (Int×Int):=
 bif a then (some (1,1)) else (some (0,0))
def MY(a:Int)(b:Bool):Option (Int×Int):=
 bif b then (some (2,1)) else (bif (a==14) then (some (1,2)) else (bif (decide (a≥15)) then (MX (decide (a≤17))) else (MX false)))
def IH(a:Int):Option (Int×Int):=
 bif (decide (a≥8)) then (MY a (decide (a≤13))) else (MY a false)
def EC(b:(Nat×Nat))(a:Int):Option (AF×Int):=
 bif (a != 0) then (some ((AF.mk 0 ((0,0):Nat×Nat) false []),a)) else (some ((AF.mk 1 b false []),0))
def FJ(a:(Nat×Nat)):Option ((Nat×Nat)×Int):=
 (FloatKind.f64.format.add a.1 (0:Nat)).bind fun b=>(FloatKind.f64.format.add a.2 (0:Nat)).bind fun c=>(Bt (b,c)).bind fun d=>bif (!d) then (some (((0,0):Nat×Nat),50)) else (some ((b,c),0))
def II(a:(Nat×Nat)):Option ((Nat×Nat)×Int):=
 (Bt a).bind fun c=>bif (!c) then (some (((0,0):Nat×Nat),3)) else ((FJ (a.1,(Op.negFloat .f64 a.2))).bind fun b=>some (b.1,b.2))
def Lz(b:(Nat×Nat))(c:(Nat×Nat))(d:Bool):Option ((Nat×Nat)×Int):=
 bif d then (some (((0,0):Nat×Nat),3)) else ((cadd b c).bind fun e=>(FJ e).bind fun a=>some (a.1,a.2))
def J8(a:(Nat×Nat))(b:(Nat×Nat)):Option ((Nat×Nat)×Int):=
 (Bt a).bind fun c=>bif (!c) then (Lz a b true) else ((Bt b).bind fun d=>Lz a b (!d))
def L0(b:(Nat×Nat))(c:(Nat×Nat))(d:Bool):Option ((Nat×Nat)×Int):=
 bif d then (some (((0,0):Nat×Nat),3)) else ((csub b c).bind fun e=>(FJ e).bind fun a=>some (a.1,a.2))
def J9(a:(Nat×Nat))(b:(Nat×Nat)):Option ((Nat×Nat)×Int):=
 (Bt a).bind fun c=>bif (!c) then (L0 a b true) else ((Bt b).bind fun d=>L0 a b (!d))
def L1(b:(Nat×Nat))(c:(Nat×Nat))(d:Bool):Option ((Nat×Nat)×Int):=
 bif d then (some (((0,0):Nat×Nat),3)) else ((cmul b c).bind fun e=>(FJ e).bind fun a=>some (a.1,a.2))
def KA(a:(Nat×Nat))(b:(Nat×Nat)):Option ((Nat×Nat)×Int):=
 (Bt a).bind fun c=>bif (!c) then (L1 a b true) else ((Bt b).bind fun d=>L1 a b (!d))
def IT(a:Nat):Option Nat:=
 some (((Cy .u64 ((a:Nat):Int) (9223372036854775808:Int))).toNat)
def Kg(a:Nat):Option Bool:=
 some (fgt a 9218868437227405311)
def HY(a:Nat)(b:Int):Option Bool:=
 bif (b==0) then ((IT a).bind fun c=>Kg c) else (bif (decide (b<0)) then (Kg (Op.negFloat .f64 a)) else (Kg a))
def Gw(a:Nat):Option Bool:=
 some (fne a a)
def L2:Option Nat:=
 some (((9221120237041090561:Int)).toNat)
def Ej(a:Nat):Option (Nat×Int):=
 (IT a).bind fun b=>bif (flt_ b 4503599627370496) then ((FloatKind.f64.format.mul a (4841369599423283200:Nat)).bind fun c=>some (c,(-52))) else (some (a,0))
def LR(b:Nat)(c:Bool):Option (Nat×Int):=
 bif c then (some (b,0)) else ((Ej b).bind fun a=>(nn (52:Int)).bind fun _=>some (((MN .u64 (Cy .u64 ((a.1:Nat):Int) 9218868437227405312) (4602678819172646912:Int))).toNat,(i64.wrap (a.2+(i64.wrap ((i64.wrap ((i64.wrap ((E9 .u64 (shr .u64 ((a.1:Nat):Int) 52) 2047))) - 1023))+1))))))
def Jl(a:Nat):Option (Nat×Int):=
 bif (feq a 0) then (some (a,0)) else ((HY a (0:Int)).bind fun b=>bif b then (LR a true) else ((Gw a).bind fun c=>LR a c))
def IJ(b:Nat):Option (Nat×Int):=
 (Jl b).bind fun a=>some (a.1,a.2)
def He(a b:Nat):Option Nat:=
 some (((MN .u64 (Cy .u64 ((a:Nat):Int) 9223372036854775808) (E9 .u64 ((b:Nat):Int) (9223372036854775808:Int)))).toNat)
def NS(a:Int):Option Nat:=
 some ((a).toNat)
def LT(a:Int):Option Nat:=
 bif (decide (a≥0)) then (NS 9218868437227405312) else (NS 18442240474082181120)
def LU(a:(Nat×Int))(b:Int)(c:Nat):Option Nat:=
 (nn (52:Int)).bind fun _=>(FloatKind.f64.format.mul c (((MN .u64 (Cy .u64 ((a.1:Nat):Int) 9218868437227405312) (shl .u64 (IntKind.u64.wrap ((i64.wrap (b+1023)))) (52:Int)))).toNat)).bind fun d=>some d
def LW(c:Nat)(b:Int)(d:Bool):Option Nat:=
 bif d then (some c) else ((Ej c).bind fun a=>(nn (52:Int)).bind fun _=>bif (decide ((i64.wrap ((i64.wrap (b+a.2))+(i64.wrap ((E9 .i64 (i64.wrap ((shr .u64 ((a.1:Nat):Int) 52))) 2047) - 1023))))< (-1075))) then ((He 0 a.1).bind fun e=>some e) else (bif (decide ((i64.wrap ((i64.wrap (b+a.2))+(i64.wrap ((E9 .i64 (i64.wrap ((shr .u64 ((a.1:Nat):Int) 52))) 2047) - 1023))))>1023)) then (bif (flt_ a.1 0) then ((LT (-1:Int)).bind fun f=>some f) else ((LT (1:Int)).bind fun g=>some g)) else (bif (decide ((i64.wrap ((i64.wrap (b+a.2))+(i64.wrap ((E9 .i64 (i64.wrap ((shr .u64 ((a.1:Nat):Int) 52))) 2047) - 1023))))< (-1022))) then (LU a (i64.wrap ((i64.wrap ((i64.wrap (b+a.2))+(i64.wrap ((E9 .i64 (i64.wrap ((shr .u64 ((a.1:Nat):Int) 52))) 2047) - 1023))))+53)) 4368491638549381120) else (LU a (i64.wrap ((i64.wrap (b+a.2))+(i64.wrap ((E9 .i64 (i64.wrap ((shr .u64 ((a.1:Nat):Int) 52))) 2047) - 1023)))) 4607182418800017408))))
def Jm(a:Nat)(b:Int):Option Nat:=
 bif (feq a 0) then (some a) else ((HY a (0:Int)).bind fun c=>bif c then (LW a b true) else ((Gw a).bind fun d=>LW a b d))
def I4(a:Nat)(b:Int):Option Nat:=
 (Jm a b).bind fun c=>some c
def Kw(a:Nat)(b:(Nat×Int))(c:Nat)(d:(Nat→Option Nat))(e:Int):Option Nat:=
 (I4 a (i64.wrap (e - b.2))).bind fun f=>(FloatKind.f64.format.sub c f).bind fun g=>d g
def NT(a:Nat):Option Nat:=
 some a
def L3(f b:Nat)(c:(Nat×Int))(e:Nat→Option Nat)(a:Nat):Option Nat:=
 bif (fge a b) then ((IJ a).bind fun d=>bif (flt_ d.1 c.1) then (Kw b c a e (i64.wrap (d.2 - 1))) else (Kw b c a e d.2)) else (bif (flt_ f 0) then (NT (Op.negFloat .f64 a)) else (NT a))
def KJ(a b:Nat)(c:(Nat×Int)):Nat→Nat→Option Nat
 |0=>fun _=>none
 |k+1=>L3 a b c (KJ a b c k)
def Lr(a b c:Nat)(d:(Nat×Int))(e:Nat):Option Nat:=
 KJ b c d a e
def Kx(c a e:Nat)(f:Bool):Option Nat:=
 bif f then ((L2).bind fun g=>some g) else ((IT e).bind fun b=>(IJ b).bind fun d=>bif (flt_ a 0) then (Lr c a b d (Op.negFloat .f64 a)) else (Lr c a b d a))
def LX(c a b:Nat):Option Nat:=
 bif (feq b 0) then (Kx c a b true) else ((HY a (0:Int)).bind fun d=>bif d then (Kx c a b true) else ((Gw a).bind fun e=>bif e then (Kx c a b true) else ((Gw b).bind fun f=>Kx c a b f)))
def KT(a b c:Nat):Option Nat:=
 (LX a b c).bind fun d=>some d
def L4(a:(Nat×Nat))(b:(Nat×Nat))(d:Bool):Option ((Nat×Nat)×Int):=
 bif d then (some (((0,0):Nat×Nat),51)) else ((FloatKind.f64.format.div a.1 b.1).bind fun e=>(FloatKind.f64.format.div a.2 b.1).bind fun f=>(FJ (e,f)).bind fun c=>some (c.1,c.2))
def L5(d:Nat)(e:(Nat×Nat))(a:(Nat×Nat))(f:Bool):Option ((Nat×Nat)×Int):=
 bif f then (some (((0,0):Nat×Nat),3)) else (bif (ceq a ((0,0):Nat×Nat)) then (some (((0,0):Nat×Nat),51)) else ((cmul e (a.1,(Op.negFloat .f64 a.2))).bind fun b=>(cmul a (a.1,(Op.negFloat .f64 a.2))).bind fun c=>(KT d b.1 c.1).bind fun g=>bif (fne g 0) then (L4 b c true) else ((KT d b.2 c.1).bind fun h=>L4 b c (fne h 0))))
def KB(c:Nat)(a:(Nat×Nat))(b:(Nat×Nat)):Option ((Nat×Nat)×Int):=
 (Bt a).bind fun d=>bif (!d) then (L5 c a b true) else ((Bt b).bind fun e=>L5 c a b (!e))
def LY(a:(Nat×Nat))(b:(Nat×Nat))(c:Bool):Option (Bool×Int):=
 bif c then (some (false,3)) else (bif (fne a.1 b.1) then (some ((flt_ a.1 b.1),0)) else (some ((flt_ a.2 b.2),0)))
def I5(a:(Nat×Nat))(b:(Nat×Nat)):Option (Bool×Int):=
 (Bt a).bind fun c=>bif (!c) then (LY a b true) else ((Bt b).bind fun d=>LY a b (!d))
def KU(m:Nat)(c:Int)(a:(Nat×Nat))(b:(Nat×Nat)):Option (AF×Int):=
 bif (c==8) then ((J8 a b).bind fun d=>(EC d.1 d.2).bind fun e=>some (e.1,e.2)) else (bif (c==9) then ((J9 a b).bind fun f=>(EC f.1 f.2).bind fun g=>some (g.1,g.2)) else (bif (c==10) then ((KA a b).bind fun h=>(EC h.1 h.2).bind fun i=>some (i.1,i.2)) else (bif (c==11) then ((KB m a b).bind fun j=>(EC j.1 j.2).bind fun k=>some (k.1,k.2)) else (bif (c==12) then (some ((AF.mk 2 ((0,0):Nat×Nat) (ceq a b) []),0)) else ((I5 a b).bind fun l=>some ((AF.mk 2 ((0,0):Nat×Nat) l.1 []),l.2))))))
def Ii(a:Int)(b:(Int→Option (AF×Int)))(c:Bool):Option (AF×Int):=
 bif c then (some ((AF.mk 0 ((0,0):Nat×Nat) false []),3)) else (b (i64.wrap (a+1)))
def Cs(e:Nat)(a:Int)(c:(List AF))(m:(Int×Int))(f:Int→Option (AF×Int))(d:Int):Option (AF×Int):=
 bif (decide (d< (c.length:Int))) then ((idx c d).bind fun g=>bif (g.type_ != m.2) then (Ii d f true) else ((Cr e g).bind fun n=>Ii d f (n != 0))) else ((idx c (0:Int)).bind fun b=>bif (a==14) then (some ((AF.mk 2 ((0,0):Nat×Nat) (!b.bool) []),0)) else (bif (a==15) then ((EC (b.num.1,0) (0:Int)).bind fun h=>some (h.1,h.2)) else (bif (a==16) then ((EC (b.num.2,0) (0:Int)).bind fun i=>some (i.1,i.2)) else (bif (a==17) then ((II b.num).bind fun j=>(EC j.1 j.2).bind fun k=>some (k.1,k.2)) else ((idx c (1:Int)).bind fun o=>(KU e a b.num o.num).bind fun l=>some (l.1,l.2))))))
def Dh(a:Nat)(b:Int)(c:(List AF))(d:(Int×Int)):Nat→Int→Option (AF×Int)
 |0=>fun _=>none
 |k+1=>Cs a b c d (Dh a b c d k)
def MZ(a:Nat)(b:Int)(c:(List AF))(d:(Int×Int))(e:Bool):Option (AF×Int):=
 bif e then (some ((AF.mk 0 ((0,0):Nat×Nat) false []),3)) else (Dh a b c d a 0)
def EQ(d:Nat)(b:Int)(c:(List AF)):Option (AF×Int):=
 (IH b).bind fun a=>bif (a.1==0) then (MZ d b c a true) else (MZ d b c a ((c.length:Int) != a.1))
structure Ac where
 mean_run_look:(List AO)→Int→Int→Aq→AE→Nm→Option ((Except Int Aw)×(List AO)×Int×Int)
 mean_later_1:(List AO)→Int→Int→Aq→AE→Nm→Option ((Except Int Aw)×(List AO)×Int×Int)
 mean_callth:(List AO)→Int→Int→Aq→Th→Option ((Except Int Aw)×(List AO)×Int×Int)
 mean_run_parts:(List AO)→Int→Int→Aq→AE→Nm→Option ((Except Int Aw)×(List AO)×Int×Int)
def LI(b:Ac)(c:(List AO))(d e:Int)(f:Aq)(g:AE)(h:Nm):Option ((Except Int Aw)×(List AO)×Int×Int):=
 (b.mean_run_parts c (i64.wrap (d+1)) e f g h).bind fun a=>Jt a.1 (fun i=>some ((Except.error i:Except Int Aw),a.2.1,a.2.2.1,a.2.2.2)) fun j=>some ((Except.ok j:Except Int Aw),a.2.1,a.2.2.1,a.2.2.2)
def Jb(e:Ac)(f:(List AO))(g h:Int)(i:Aq)(j:AE)(k:Nm)(a:AO)(l:Nm→Int→Option ((Except Int Aw)×(List AO)×Int×Int))(d:Nm)(c:Int):Option ((Except Int Aw)×(List AO)×Int×Int):=
 bif (decide (c< (a.params.length:Int))) then ((idx a.params c).bind fun m=>(idx j.args c).bind fun n=>(Jk n).bind fun o=>l (Nm.bind m.name (Th.later o k) d) (i64.wrap (c+1))) else ((e.mean_run_look f (i64.wrap (g+1)) h i (AE.mk a.body.op a.body.name a.body.tail a.body.type_ a.body.num a.body.args a.body.at_) d).bind fun b=>Jt b.1 (fun p=>some ((Except.error p:Except Int Aw),b.2.1,b.2.2.1,b.2.2.2)) fun q=>some ((Except.ok q:Except Int Aw),b.2.1,b.2.2.1,b.2.2.2))
def GU(a:Ac)(b:(List AO))(c d:Int)(e:Aq)(f:AE)(g:Nm)(h:AO):Nat→Nm→Int→Option ((Except Int Aw)×(List AO)×Int×Int)
 |0=>fun _ _=>none
 |k+1=>Jb a b c d e f g h (GU a b c d e f g h k)
def Cd(h:Ac)(i:Nat)(b:(List AO))(c d:Int)(g:Aq)(a:AE)(f:Nm):Option ((Except Int Aw)×(List AO)×Int×Int):=
 bif (a.op==1) then (some ((Except.ok (Aw.mk (AF.mk 1 a.num false []) Th.nil Th.nil):Except Int Aw),b,(i64.wrap (c+1)),d)) else (bif (a.op==2) then (some ((Except.ok (Aw.mk (AF.mk 2 ((0,0):Nat×Nat) true []) Th.nil Th.nil):Except Int Aw),b,(i64.wrap (c+1)),d)) else (bif (a.op==3) then (some ((Except.ok (Aw.mk (AF.mk 2 ((0,0):Nat×Nat) false []) Th.nil Th.nil):Except Int Aw),b,(i64.wrap (c+1)),d)) else (bif (a.op==4) then (some ((Except.ok (Aw.mk (AF.mk 3 ((0,0):Nat×Nat) false []) Th.nil Th.nil):Except Int Aw),b,(i64.wrap (c+1)),d)) else (bif (a.op==5) then (some ((Except.error 52:Except Int Aw),b,(i64.wrap (c+1)),d)) else (bif (a.op==6) then ((Dl i f a.name).bind fun j=>(h.mean_callth b (i64.wrap (c+1)) d g j).bind fun e=>Jt e.1 (fun k=>some ((Except.error k:Except Int Aw),e.2.1,e.2.2.1,e.2.2.2)) fun l=>some ((Except.ok l:Except Int Aw),e.2.1,e.2.2.1,e.2.2.2)) else (bif (a.op==7) then ((idx b (Cu g a.name)).bind fun m=>GU h b c d g a f m i Nm.nil 0) else (bif (a.op==18) then ((idx a.args (0:Int)).bind fun n=>(idx a.args (1:Int)).bind fun o=>(Jk n).bind fun p=>(Jk o).bind fun q=>some ((Except.ok (Aw.mk (AF.mk 0 ((0,0):Nat×Nat) false []) (Th.later p f) (Th.later q f)):Except Int Aw),b,(i64.wrap (c+1)),d)) else (LI h b c d g a f))))))))
def BI(d:Ac)(e:Nat)(c:(List AO))(a b:Int)(f:Aq)(g:AE)(h:Nm):Option ((Except Int Aw)×(List AO)×Int×Int):=
 bif (decide (a≥b)) then (some ((Except.error 60:Except Int Aw),c,a,b)) else (Cd d e c a b f g h)
def L6(b:Ac)(_N:Nat)(c:(List AO))(d e:Int)(f:Aq)(g:AE)(h:Nm):Option ((Except Int Aw)×(List AO)×Int×Int):=
 (b.mean_run_look c d e f g h).bind fun a=>Jt a.1 (fun i=>some ((Except.error i:Except Int Aw),a.2.1,a.2.2.1,a.2.2.2)) fun j=>some ((Except.ok j:Except Int Aw),a.2.1,a.2.2.1,a.2.2.2)
def LZ(d:Ac)(_N:Nat)(a:(List AO))(b c:Int)(e:Aq)(f:Th):Option ((Except Int Aw)×(List AO)×Int×Int):=
 match f with
 | .nil=>none
 | .done p h t=>(Ja ⟨p,h,t⟩).bind fun r=>some ((Except.ok r:Except Int Aw),a,b,c)
 | .later g env=>d.mean_later_1 a b c e g env
def L7(a:(List AO))(b c:Int)(d:(AF×Int)):Option ((Except Int Aw)×(List AO)×Int×Int):=
 some ((Except.ok (Aw.mk d.1 Th.nil Th.nil):Except Int Aw),a,b,c)
def BX(j:Ac)(k:Nat)(l:Aq)(c:AE)(m:Nm)(n:(List AF)→Int→(List AO)→Int→Int→Option ((Except Int Aw)×(List AO)×Int×Int))(d:(List AF))(e:Int)(f:(List AO))(g h:Int):Option ((Except Int Aw)×(List AO)×Int×Int):=
 bif (decide (e< (c.args.length:Int))) then ((idx c.args e).bind fun o=>(j.mean_run_look f g h l o m).bind fun b=>Jt b.1 (fun p=>some ((Except.error p:Except Int Aw),b.2.1,b.2.2.1,b.2.2.2)) fun a=>(HB 56 d ([(AF.mk a.plain.type_ a.plain.num a.plain.bool a.plain.list)]:List AF)).bind fun _=>n (d++([(AF.mk a.plain.type_ a.plain.num a.plain.bool a.plain.list)]:List AF)) (i64.wrap (e+1)) b.2.1 b.2.2.1 b.2.2.2) else ((EQ k c.op d).bind fun i=>bif (i.2 != 0) then (some ((Except.error i.2:Except Int Aw),f,g,h)) else (L7 f g h i))
def DU(a:Ac)(b:Nat)(c:Aq)(d:AE)(e:Nm):Nat→(List AF)→Int→(List AO)→Int→Int→Option ((Except Int Aw)×(List AO)×Int×Int)
 |0=>fun _ _ _ _ _=>none
 |k+1=>BX a b c d e (DU a b c d e k)
def A7(b:Ac)(r:Nat)(n:(List AO))(o p:Int)(c:Aq)(a:AE)(d:Nm):Option ((Except Int Aw)×(List AO)×Int×Int):=
 bif (a.op==19) then ((idx a.args (0:Int)).bind fun s=>(b.mean_run_look n o p c s d).bind fun e=>Jt e.1 (fun t=>some ((Except.error t:Except Int Aw),e.2.1,e.2.2.1,e.2.2.2)) fun u=>bif u.plain.bool then ((idx a.args (1:Int)).bind fun v=>(b.mean_run_look e.2.1 e.2.2.1 e.2.2.2 c v d).bind fun g=>Jt g.1 (fun w=>some ((Except.error w:Except Int Aw),g.2.1,g.2.2.1,g.2.2.2)) fun x=>some ((Except.ok x:Except Int Aw),g.2.1,g.2.2.1,g.2.2.2)) else ((idx a.args (2:Int)).bind fun y=>(b.mean_run_look e.2.1 e.2.2.1 e.2.2.2 c y d).bind fun h=>Jt h.1 (fun z=>some ((Except.error z:Except Int Aw),h.2.1,h.2.2.1,h.2.2.2)) fun aa=>some ((Except.ok aa:Except Int Aw),h.2.1,h.2.2.1,h.2.2.2))) else (bif (a.op==20) then ((idx a.args (0:Int)).bind fun ab=>(b.mean_run_look n o p c ab d).bind fun f=>Jt f.1 (fun ac=>some ((Except.error ac:Except Int Aw),f.2.1,f.2.2.1,f.2.2.2)) fun q=>bif (Th.isNil q.head) then ((idx a.args (1:Int)).bind fun ad=>(b.mean_run_look f.2.1 f.2.2.1 f.2.2.2 c ad d).bind fun i=>Jt i.1 (fun ae=>some ((Except.error ae:Except Int Aw),i.2.1,i.2.2.1,i.2.2.2)) fun af=>some ((Except.ok af:Except Int Aw),i.2.1,i.2.2.1,i.2.2.2)) else ((idx a.args (2:Int)).bind fun ag=>(b.mean_run_look f.2.1 f.2.2.1 f.2.2.2 c ag (Nm.bind a.tail q.tail (Nm.bind a.name q.head d))).bind fun j=>Jt j.1 (fun ah=>some ((Except.error ah:Except Int Aw),j.2.1,j.2.2.1,j.2.2.2)) fun ai=>some ((Except.ok ai:Except Int Aw),j.2.1,j.2.2.1,j.2.2.2))) else (bif (a.op==21) then ((idx a.args (0:Int)).bind fun aj=>(Jk aj).bind fun ak=>(idx a.args (1:Int)).bind fun al=>(b.mean_run_look n o p c al (Nm.letrec a.name ak d)).bind fun k=>Jt k.1 (fun am=>some ((Except.error am:Except Int Aw),k.2.1,k.2.2.1,k.2.2.2)) fun an=>some ((Except.ok an:Except Int Aw),k.2.1,k.2.2.1,k.2.2.2)) else (bif (a.op==22) then ((idx a.args (0:Int)).bind fun ao=>(b.mean_run_look n o p c ao d).bind fun l=>Jt l.1 (fun ap=>some ((Except.error ap:Except Int Aw),l.2.1,l.2.2.1,l.2.2.2)) fun aq=>(idx a.args (1:Int)).bind fun ar=>(Ip aq).bind fun au=>(b.mean_run_look l.2.1 l.2.2.1 l.2.2.2 c ar (Nm.bind a.name au d)).bind fun m=>Jt m.1 (fun av=>some ((Except.error av:Except Int Aw),m.2.1,m.2.2.1,m.2.2.2)) fun aw=>some ((Except.ok aw:Except Int Aw),m.2.1,m.2.2.1,m.2.2.2)) else (DU b r c a d r ([]:List AF) 0 n o p))))
def Ac.at:Nat→Ac
 |0=>⟨fun _ _ _ _ _ _=>none,fun _ _ _ _ _ _=>none,fun _ _ _ _ _=>none,fun _ _ _ _ _ _=>none⟩
 |n+1=>⟨BI (Ac.at n) n,L6 (Ac.at n) n,LZ (Ac.at n) n,A7 (Ac.at n) n⟩
def mean_run_look(a:Nat):(List AO)→Int→Int→Aq→AE→Nm→Option ((Except Int Aw)×(List AO)×Int×Int):=(Ac.at a).mean_run_look
def mean_later_1(a:Nat):(List AO)→Int→Int→Aq→AE→Nm→Option ((Except Int Aw)×(List AO)×Int×Int):=(Ac.at a).mean_later_1
def mean_callth(a:Nat):(List AO)→Int→Int→Aq→Th→Option ((Except Int Aw)×(List AO)×Int×Int):=(Ac.at a).mean_callth
def mean_run_parts(a:Nat):(List AO)→Int→Int→Aq→AE→Nm→Option ((Except Int Aw)×(List AO)×Int×Int):=(Ac.at a).mean_run_parts
def Ce(e:Nat)(f:Aq)(l:(List AO)→Int→Int→Int→(Nat×Nat)→Bool→(List (Nat×Nat))→Th→Th→(List (Nat×Nat))→Option ((Except Int AF)×(List AO)×Int×Int))(g:(List AO))(h i _x289:Int)(_x290:(Nat×Nat))(_x291:Bool)(_x292:(List (Nat×Nat)))(j m:Th)(d:(List (Nat×Nat))):Option ((Except Int AF)×(List AO)×Int×Int):=
 bif (!(Th.isNil j)) then ((mean_callth e g h i f j).bind fun a=>Jt a.1 (fun n=>some ((Except.error n:Except Int AF),a.2.1,a.2.2.1,a.2.2.2)) fun k=>(HB 16 d ([k.plain.num]:List (Nat×Nat))).bind fun _=>(mean_callth e a.2.1 a.2.2.1 a.2.2.2 f m).bind fun b=>Jt b.1 (fun o=>some ((Except.error o:Except Int AF),b.2.1,b.2.2.1,b.2.2.2)) fun c=>l b.2.1 b.2.2.1 b.2.2.2 c.plain.type_ c.plain.num c.plain.bool c.plain.list c.head c.tail (d++([k.plain.num]:List (Nat×Nat)))) else (some ((Except.ok (AF.mk 3 ((0,0):Nat×Nat) false d):Except Int AF),g,h,i))
def D0(a:Nat)(b:Aq):Nat→(List AO)→Int→Int→Int→(Nat×Nat)→Bool→(List (Nat×Nat))→Th→Th→(List (Nat×Nat))→Option ((Except Int AF)×(List AO)×Int×Int)
 |0=>fun _ _ _ _ _ _ _ _ _ _=>none
 |k+1=>Ce a b (D0 a b k)
def ER(b:Nat)(c:(List AO))(d e:Int)(f:Aq)(a:Aw):Option ((Except Int AF)×(List AO)×Int×Int):=
 bif (Th.isNil a.head) then (some ((Except.ok (AF.mk a.plain.type_ a.plain.num a.plain.bool a.plain.list):Except Int AF),c,d,e)) else (D0 b f b c d e a.plain.type_ a.plain.num a.plain.bool a.plain.list a.head a.tail ([]:List (Nat×Nat)))
def L8(b:Nat)(c:AO)(d:Nm)(a:Int)(e:(Nm→Int→Option BE))(f:AF)(g:Bool):Option BE:=
 bif g then (some (BE.mk 40 (AF.mk 0 ((0,0):Nat×Nat) false []) 0 0 0 0)) else ((idx c.params a).bind fun h=>(I3 b f).bind fun i=>e (Nm.bind h.name i d) (i64.wrap (a+1)))
def F5(b:Nat)(l:AM)(i:(List AF))(e:Int)(j:Aq)(a:AO)(k:Nm→Int→Option BE)(g:Nm)(c:Int):Option BE:=
 bif (decide (c< (i.length:Int))) then ((idx i c).bind fun f=>(idx a.params c).bind fun m=>bif (f.type_ != m.type_) then (L8 b a g c k f true) else ((Cr b f).bind fun n=>L8 b a g c k f (n != 0))) else ((mean_run_look b l.funcs 0 (if 16384< (if e<0 then 0 else e) then 16384 else (if e<0 then 0 else e)) j (AE.mk a.body.op a.body.name a.body.tail a.body.type_ a.body.num a.body.args a.body.at_) g).bind fun d=>Jt d.1 (fun o=>some (BE.mk o (AF.mk 0 ((0,0):Nat×Nat) false []) d.2.2.1 0 0 0)) fun p=>(ER b d.2.1 d.2.2.1 d.2.2.2 j p).bind fun h=>Jt h.1 (fun q=>some (BE.mk q (AF.mk 0 ((0,0):Nat×Nat) false []) h.2.2.1 0 0 0)) fun r=>some (BE.mk 0 r h.2.2.1 0 0 0))
def E4(a:Nat)(b:AM)(c:(List AF))(d:Int)(e:Aq)(f:AO):Nat→Nm→Int→Option BE
 |0=>fun _ _=>none
 |k+1=>F5 a b c d e f (E4 a b c d e f k)
def Jn(d:Nat)(a:AM)(e:Bts)(f:(List AF))(h:Int)(i:Int→Aq→Option BE)(b:Int)(c:Aq):Option BE:=
 bif (decide (b< (a.funcs.length:Int))) then ((idx a.funcs b).bind fun j=>i (i64.wrap (b+1)) (MM j.name b c)) else (bif (!(OV c e)) then (some (BE.mk 32 (AF.mk 0 ((0,0):Nat×Nat) false []) 0 0 0 0)) else ((idx a.funcs (Cu c e)).bind fun g=>bif ((f.length:Int) != (g.params.length:Int)) then (some (BE.mk 40 (AF.mk 0 ((0,0):Nat×Nat) false []) 0 0 0 0)) else (E4 d a f h c g d Nm.nil 0)))
def Jc(a:Nat)(b:AM)(c:Bts)(d:(List AF))(e:Int):Nat→Int→Aq→Option BE
 |0=>fun _ _=>none
 |k+1=>Jn a b c d e (Jc a b c d e k)
def GW(a:Nat)(b:AM)(c:Bts)(d:(List AF))(e:Int):Option BE:=
 (HE a b).bind fun f=>bif (f.why != 0) then (some (BE.mk 3 (AF.mk 0 ((0,0):Nat×Nat) false []) 0 0 0 0)) else (Jc a b c d e a 0 ([]:Aq))
def Gy(a:Bool):Option Bool:=
 some a
def H0(c:Nat):Option Bool:=
 (Cq c (Ft.mk ([(102:UInt8),(40:UInt8),(120:UInt8),(32:UInt8),(78:UInt8),(41:UInt8),(58:UInt8),(78:UInt8),(61:UInt8),(120:UInt8),(43:UInt8),(120:UInt8),(59:UInt8),(103:UInt8),(40:UInt8),(41:UInt8),(58:UInt8),(78:UInt8),(61:UInt8),(102:UInt8),(40:UInt8),(49:UInt8),(43:UInt8),(50:UInt8),(41:UInt8),(59:UInt8)]:List UInt8) ([103]:List UInt8) ([]:List UInt8))).bind fun a=>(GW c a.1 ([103]:List UInt8) a.2.1 (99:Int)).bind fun b=>(GW c a.1 ([103]:List UInt8) a.2.1 (9:Int)).bind fun d=>bif a.2.2 then (bif (b.why==0) then (bif (b.value.type_==1) then (bif (ceq b.value.num ((4618441417868443648,0):Nat×Nat)) then (bif (b.moves==10) then (bif (d.why==60) then (Gy (d.moves==9)) else (Gy false)) else (Gy false)) else (Gy false)) else (Gy false)) else (Gy false)) else (Gy false)
def KV(b:AM)(c:Bts)(d:Int→Option Int)(a:Int):Option Int:=
 bif (decide (a< (b.funcs.length:Int))) then ((idx b.funcs a).bind fun e=>bif (e.name==c) then (some a) else (d (i64.wrap (a+1)))) else (some (-1))
def I6(a:AM)(b:Bts):Nat→Int→Option Int
 |0=>fun _=>none
 |k+1=>KV a b (I6 a b k)
def HF(a:Nat)(b:AM)(c:Bts):Option Int:=
 I6 b c a 0
def La(b:(List Bts))(c:Bts)(d:Int→Option Bool)(a:Int):Option Bool:=
 bif (decide (a< (b.length:Int))) then ((idx b a).bind fun e=>bif (e==c) then (some true) else (d (i64.wrap (a+1)))) else (some false)
def KO(a:(List Bts))(b:Bts):Nat→Int→Option Bool
 |0=>fun _=>none
 |k+1=>La a b (KO a b k)
def JL(a:Nat)(b:(List Bts))(c:Bts):Option Bool:=
 KO b c a 0
def L9(a:AE)(b:Bool):Option ((List Bts)):=
 bif b then (some ([a.name,a.tail]:List Bts)) else (some [])
def Ky(a:AE)(b:Int)(c:Bool):Option ((List Bts)):=
 bif c then (some ([a.name]:List Bts)) else (bif (a.op==20) then (L9 a (b==2)) else (L9 a false))
def Ij(a:AE)(b:Int):Option ((List Bts)):=
 bif (a.op==21) then (Ky a b (a.op==21)) else (bif (a.op==22) then (Ky a b (b==1)) else (Ky a b false))
def I7(a:(List Bts))(b:(List Bts)):Option ((List Bts)):=
 (HB 16 ([]:List Bts) a).bind fun _=>(HB 16 (([]:List Bts)++a) b).bind fun _=>some ((([]:List Bts)++a)++b)
structure Be where
 ref06_seen:AE→(List Bts)→Option ((List BG))
def I8(e:Be)(b:AE)(f:(List Bts))(g:(List BG)→Int→Option ((List BG)))(c:(List BG))(a:Int):Option ((List BG)):=
 bif (decide (a< (b.args.length:Int))) then ((Ij b a).bind fun h=>(I7 f h).bind fun i=>(idx b.args a).bind fun j=>(e.ref06_seen j i).bind fun d=>(HB 104 c d).bind fun _=>g (c++d) (i64.wrap (a+1))) else (some c)
def Ik(a:Be)(b:AE)(c:(List Bts)):Nat→(List BG)→Int→Option ((List BG))
 |0=>fun _ _=>none
 |k+1=>I8 a b c (Ik a b c k)
def Jo(a:Be)(b:Nat)(c:AE)(d:(List Bts))(e:(List BG)):Option ((List BG)):=
 Ik a c d b e 0
def Lb(d:Be)(b:Nat)(a:AE)(c:(List Bts))(f:Bool):Option ((List BG)):=
 bif f then (bif (a.op==6) then ((JL b c a.name).bind fun e=>(HB 104 ([]:List BG) ([(BG.mk a (!e))]:List BG)).bind fun _=>Jo d b a c (([]:List BG)++([(BG.mk a (!e))]:List BG))) else ((HB 104 ([]:List BG) ([(BG.mk a false)]:List BG)).bind fun _=>Jo d b a c (([]:List BG)++([(BG.mk a false)]:List BG)))) else (Jo d b a c ([]:List BG))
def LJ(b:Be)(c:Nat)(a:AE)(d:(List Bts)):Option ((List BG)):=
 bif (a.op==6) then (Lb b c a d true) else (Lb b c a d (a.op==7))
def Be.at:Nat→Be
 |0=>⟨fun _ _=>none⟩
 |n+1=>⟨LJ (Be.at n) n⟩
def ref06_seen(a:Nat):AE→(List Bts)→Option ((List BG)):=(Be.at a).ref06_seen
def JM(d:AO)(a:(List Bts))(b:Int)(e:((List AD)→(List Bts)→Int→Option ((List AD))))(f:(List AD)):Option ((List AD)):=
 (idx d.params b).bind fun c=>(HB 16 a ([c.name]:List Bts)).bind fun _=>e f (a++([c.name]:List Bts)) (i64.wrap (b+1))
def F9(a:Int)(b:((List AD)→Int→Option ((List AD))))(c:(List AD)):Option ((List AD)):=
 b c (i64.wrap (a+1))
def GB(g:Nat)(e:AM)(c:Int)(d:((List AD)→Int→Option ((List AD))))(a:BG)(b:(List AD)):Option ((List AD)):=
 bif (a.e.op != 7) then (F9 c d b) else ((HF g e a.e.name).bind fun f=>bif (decide (f<0)) then ((HB 16 b ([(AD.mk 32 a.e.at_)]:List AD)).bind fun _=>F9 c d (b++([(AD.mk 32 a.e.at_)]:List AD))) else ((idx e.funcs f).bind fun h=>bif ((h.params.length:Int) != (a.e.args.length:Int)) then ((HB 16 b ([(AD.mk 33 a.e.at_)]:List AD)).bind fun _=>F9 c d (b++([(AD.mk 33 a.e.at_)]:List AD))) else (F9 c d b)))
def Fh(d:Nat)(e:AM)(h:Int)(i:((List AD)→Int→Option ((List AD))))(f:(List BG))(g:(List AD)→Int→Option ((List AD)))(b:(List AD))(c:Int):Option ((List AD)):=
 bif (decide (c< (f.length:Int))) then ((idx f c).bind fun a=>bif a.free then ((HB 16 b ([(AD.mk 31 a.e.at_)]:List AD)).bind fun _=>GB d e c g a (b++([(AD.mk 31 a.e.at_)]:List AD))) else (GB d e c g a b)) else (i b (i64.wrap (h+1)))
def EM(a:Nat)(b:AM)(c:Int)(d:((List AD)→Int→Option ((List AD))))(e:(List BG)):Nat→(List AD)→Int→Option ((List AD))
 |0=>fun _ _=>none
 |k+1=>Fh a b c d e (EM a b c d e k)
def Fi(b:Nat)(h:AM)(i:Int)(j:((List AD)→Int→Option ((List AD))))(a:AO)(g:(List AD)→(List Bts)→Int→Option ((List AD)))(c:(List AD))(d:(List Bts))(e:Int):Option ((List AD)):=
 bif (decide (e< (a.params.length:Int))) then ((idx a.params e).bind fun f=>(JL b d f.name).bind fun k=>bif k then ((HB 16 c ([(AD.mk 30 f.at_)]:List AD)).bind fun _=>JM a d e g (c++([(AD.mk 30 f.at_)]:List AD))) else (JM a d e g c)) else ((ref06_seen b (AE.mk a.body.op a.body.name a.body.tail a.body.type_ a.body.num a.body.args a.body.at_) d).bind fun l=>EM b h i j l b c 0)
def Ek(a:Nat)(b:AM)(c:Int)(d:((List AD)→Int→Option ((List AD))))(e:AO):Nat→(List AD)→(List Bts)→Int→Option ((List AD))
 |0=>fun _ _ _=>none
 |k+1=>Fi a b c d e (Ek a b c d e k)
def JN(a:Nat)(b:AM)(c:Int)(d:((List AD)→Int→Option ((List AD))))(e:AO)(f:(List AD)):Option ((List AD)):=
 Ek a b c d e a f ([]:List Bts) 0
def HZ(e:Nat)(a:AM)(f:(List AD)→Int→Option ((List AD)))(d:(List AD))(b:Int):Option ((List AD)):=
 bif (decide (b< (a.funcs.length:Int))) then ((idx a.funcs b).bind fun c=>(HF e a c.name).bind fun g=>bif (decide (g<b)) then ((HB 16 d ([(AD.mk 30 c.at_)]:List AD)).bind fun _=>JN e a b f c (d++([(AD.mk 30 c.at_)]:List AD))) else (JN e a b f c d)) else (some d)
def El(a:Nat)(b:AM):Nat→(List AD)→Int→Option ((List AD))
 |0=>fun _ _=>none
 |k+1=>HZ a b (El a b k)
def Hf(a:Nat)(b:AM):Option ((List AD)):=
 El a b a ([]:List AD) 0
def Kz(a:Int)(b:(Int→Int→Int→Option AD))(c d:Int):Option AD:=
 b (i64.wrap (a+1)) c d
def K0(d:(List AD))(a e f:Int)(b:(Int→Int→Int→Option AD))(g:Bool):Option AD:=
 bif g then ((idx d a).bind fun c=>Kz a b c.why c.at_) else (Kz a b e f)
def IK(a:(List AD))(e:Int→Int→Int→Option AD)(b c d:Int):Option AD:=
 bif (decide (b< (a.length:Int))) then (bif (c==0) then (K0 a b c d e true) else ((idx a b).bind fun f=>K0 a b c d e (decide (f.at_<d)))) else (some (AD.mk c d))
def H1(a:(List AD)):Nat→Int→Int→Int→Option AD
 |0=>fun _ _ _=>none
 |k+1=>IK a (H1 a k)
def H2(a:Nat)(b:AM):Option AD:=
 (Hf a b).bind fun c=>H1 c a 0 0 0
def K1(b:AM)(d:Bts)(e:Int→Option (AO×Bool))(a:Int):Option (AO×Bool):=
 bif (decide (a< (b.funcs.length:Int))) then ((idx b.funcs a).bind fun c=>bif (c.name==d) then (some (c,true)) else (e (i64.wrap (a+1)))) else (some ((AO.mk ([]:List UInt8) [] 0 (AE.mk 0 ([]:List UInt8) ([]:List UInt8) 0 ((0,0):Nat×Nat) [] 0) 0),false))
def Jp(a:AM)(b:Bts):Nat→Int→Option (AO×Bool)
 |0=>fun _=>none
 |k+1=>K1 a b (Jp a b k)
def Gz(a:Nat)(b:AM)(c:Bts):Option (AO×Bool):=
 Jp b c a 0
def Lc(c:(List AJ))(d:AE)(e:Int→Option Int)(a:Int):Option Int:=
 bif (decide (a≥0)) then ((idx c a).bind fun b=>bif (b.name==d.name) then (some b.type_) else (e (i64.wrap (a - 1)))) else (some (-1))
def KP(a:(List AJ))(b:AE):Nat→Int→Option Int
 |0=>fun _=>none
 |k+1=>Lc a b (KP a b k)
def MA(a:(AO×Bool))(b:Bool):Option Int:=
 bif b then (some (-1)) else (some a.1.type_)
def LK(c:Nat)(e:AM)(d:(List AJ))(a:AE)(f:Bool):Option Int:=
 bif f then (some 3) else (bif (a.op==5) then (some a.type_) else (bif (a.op==6) then (KP d a c (i64.wrap ((d.length:Int) - 1))) else (bif (a.op==7) then ((Gz c e a.name).bind fun b=>bif (!b.2) then (MA b true) else (MA b ((b.1.params.length:Int) != (a.args.length:Int)))) else (some 0))))
def IZ(b:Nat)(c:AM)(d:(List AJ))(a:AE)(e:Bool):Option Int:=
 bif e then (some 2) else (bif (a.op==4) then (LK b c d a (a.op==4)) else (LK b c d a (a.op==18)))
def Fj(b:Nat)(c:AM)(d:(List AJ))(a:AE)(e:Bool):Option Int:=
 bif e then (some 1) else (bif (a.op==2) then (IZ b c d a (a.op==2)) else (bif (a.op==3) then (IZ b c d a (a.op==3)) else (bif (a.op==12) then (IZ b c d a (a.op==12)) else (bif (a.op==13) then (IZ b c d a (a.op==13)) else (IZ b c d a (a.op==14))))))
def KC(b:Nat)(c:AM)(d:(List AJ))(a:AE):Option Int:=
 bif (a.op==1) then (Fj b c d a (a.op==1)) else (bif (a.op==8) then (Fj b c d a (a.op==8)) else (bif (a.op==9) then (Fj b c d a (a.op==9)) else (bif (a.op==10) then (Fj b c d a (a.op==10)) else (bif (a.op==11) then (Fj b c d a (a.op==11)) else (bif (a.op==15) then (Fj b c d a (a.op==15)) else (bif (a.op==16) then (Fj b c d a (a.op==16)) else (Fj b c d a (a.op==17))))))))
def Ha(a:(List AJ))(b:Bts)(c:Int):Option ((List AJ)):=
 (HB 32 ([]:List AJ) a).bind fun _=>(HB 32 (([]:List AJ)++a) ([(AJ.mk b c 0)]:List AJ)).bind fun _=>some ((([]:List AJ)++a)++([(AJ.mk b c 0)]:List AJ))
def KW(a:(List AJ))(b:AE)(c:Bool):Option ((List AJ)):=
 bif c then ((Ha a b.name (1:Int)).bind fun d=>(Ha d b.tail (3:Int)).bind fun e=>some e) else (some a)
def JO(b:(List AJ))(a:AE)(c:Int)(d:Bool):Option ((List AJ)):=
 bif d then ((Ha b a.name a.type_).bind fun e=>some e) else (bif (a.op==20) then (KW b a (c==2)) else (KW b a false))
def G0(c:(List AJ))(a:AE)(b:Int):Option ((List AJ)):=
 bif (a.op==21) then (JO c a b (a.op==21)) else (bif (a.op==22) then (JO c a b (b==1)) else (JO c a b false))
def JP:Option Int:=
 some 1
def KX(a:Int)(b:(AO×Bool))(c:Bool):Option Int:=
 bif c then ((idx b.1.params a).bind fun d=>some d.type_) else (JP)
def KY(a:AE)(b c:Int)(d:Bool):Option Int:=
 bif d then (bif (b==0) then (some a.type_) else (some c)) else (JP)
def G3(e:Nat)(f:AM)(a:AE)(b c:Int):Option Int:=
 bif (a.op==14) then (some 2) else (bif (a.op==18) then (bif (b==1) then (some 3) else (JP)) else (bif (a.op==7) then ((Gz e f a.name).bind fun d=>bif d.2 then (KX b d (decide (b< (d.1.params.length:Int)))) else (KX b d false)) else (bif (a.op==19) then (bif (b==0) then (some 2) else (some c)) else (bif (a.op==20) then (bif (b==0) then (some 3) else (some c)) else (bif (a.op==21) then (KY a b c (a.op==21)) else (KY a b c (a.op==22)))))))
structure BT where
 ref07_wrong:AM→(List AJ)→AE→Int→Option ((List Int))
def IL(f:BT)(g:Nat)(d:AM)(h:(List AJ))(b:AE)(i:Int)(j:(List Int)→Int→Option ((List Int)))(c:(List Int))(a:Int):Option ((List Int)):=
 bif (decide (a< (b.args.length:Int))) then ((idx b.args a).bind fun k=>(G0 h b a).bind fun l=>(G3 g d b a i).bind fun m=>(f.ref07_wrong d l k m).bind fun e=>(HB 8 c e).bind fun _=>j (c++e) (i64.wrap (a+1))) else (some c)
def H3(a:BT)(b:Nat)(c:AM)(d:(List AJ))(e:AE)(f:Int):Nat→(List Int)→Int→Option ((List Int))
 |0=>fun _ _=>none
 |k+1=>IL a b c d e f (H3 a b c d e f k)
def KD(b:BT)(a:Nat)(c:AM)(d:(List AJ))(e:AE)(f:Int)(g:(List Int)):Option ((List Int)):=
 H3 b a c d e f a g 0
def K5(b:BT)(c:Nat)(d:AM)(e:(List AJ))(a:AE)(f:Int)(g:Bool):Option ((List Int)):=
 bif g then ((HB 8 ([]:List Int) ([a.at_]:List Int)).bind fun _=>KD b c d e a f (([]:List Int)++([a.at_]:List Int))) else (KD b c d e a f ([]:List Int))
def Kh(f:BT)(a:Nat)(b:AM)(c:(List AJ))(d:AE)(e:Int):Option ((List Int)):=
 (KC a b c d).bind fun g=>bif (g != 0) then (K5 f a b c d e (g != e)) else (K5 f a b c d e false)
def BT.at:Nat→BT
 |0=>⟨fun _ _ _ _=>none⟩
 |n+1=>⟨Kh (BT.at n) n⟩
def ref07_wrong(a:Nat):AM→(List AJ)→AE→Int→Option ((List Int)):=(BT.at a).ref07_wrong
def I9(a:Int)(b:(Int→Int→Int→Option AD))(c d:Int):Option AD:=
 b (i64.wrap (a+1)) c d
def JA(c:(List Int))(a d e:Int)(b:(Int→Int→Int→Option AD))(f:Bool):Option AD:=
 bif f then ((idx c a).bind fun g=>I9 a b 34 g) else (I9 a b d e)
def Em(f:Int)(g:(Int→Int→Int→Option AD))(a:(List Int))(e:Int→Int→Int→Option AD)(b c d:Int):Option AD:=
 bif (decide (b< (a.length:Int))) then (bif (c==0) then (JA a b c d e true) else ((idx a b).bind fun h=>JA a b c d e (decide (h<d)))) else (g (i64.wrap (f+1)) c d)
def FK(a:Int)(b:(Int→Int→Int→Option AD))(c:(List Int)):Nat→Int→Int→Int→Option AD
 |0=>fun _ _ _=>none
 |k+1=>Em a b c (FK a b c k)
def IM(d:Nat)(b:AM)(g:Int→Int→Int→Option AD)(c e f:Int):Option AD:=
 bif (decide (c< (b.funcs.length:Int))) then ((idx b.funcs c).bind fun a=>(ref07_wrong d b a.params (AE.mk a.body.op a.body.name a.body.tail a.body.type_ a.body.num a.body.args a.body.at_) a.type_).bind fun h=>FK c g h d 0 e f) else (some (AD.mk e f))
def CF(a:Nat)(b:AM):Nat→Int→Int→Int→Option AD
 |0=>fun _ _ _=>none
 |k+1=>IM a b (CF a b k)
def HG(b:Nat)(c:AM):Option AD:=
 (H2 b c).bind fun a=>bif (a.why != 0) then (some a) else (CF b c b 0 a.why a.at_)
def Lf(a:Int)(b:(Int→Option Bool))(c:Bool):Option Bool:=
 bif c then (some false) else (b (i64.wrap (a+1)))
def JB(e:Nat)(f:AO)(b:(List AF))(c:Int→Option Bool)(a:Int):Option Bool:=
 bif (decide (a< (b.length:Int))) then ((idx b a).bind fun d=>(idx f.params a).bind fun g=>bif (d.type_ != g.type_) then (Lf a c true) else ((B8 e d).bind fun h=>Lf a c (!h))) else (some true)
def Il(a:Nat)(b:AO)(c:(List AF)):Nat→Int→Option Bool
 |0=>fun _=>none
 |k+1=>JB a b c (Il a b c k)
def G4(a:Nat)(b:AO)(c:(List AF)):Option Bool:=
 bif ((c.length:Int) != (b.params.length:Int)) then (some false) else (Il a b c a 0)
def KZ(c:AF)(d:Th→Int→Option Th)(b:Th)(a:Int):Option Th:=
 bif (decide (a≥0)) then ((idx c.list a).bind fun e=>d (Th.done (AF.mk 0 ((0,0):Nat×Nat) false []) (Th.done (AF.mk 1 e false []) Th.nil Th.nil) b) (i64.wrap (a - 1))) else (some b)
def JC(a:AF):Nat→Th→Int→Option Th
 |0=>fun _ _=>none
 |k+1=>KZ a (JC a k)
def H4(b:Nat)(a:AF):Option Th:=
 bif (a.type_ != 3) then (some (Th.done a Th.nil Th.nil)) else (JC a b (Th.done (AF.mk 3 ((0,0):Nat×Nat) false []) Th.nil Th.nil) (i64.wrap ((a.list.length:Int) - 1)))
def JF(a:AU)(b:Int):Option (Th×AU):=
 some ((Th.later (AE.mk 0 ([]:List UInt8) ([]:List UInt8) 0 ((0,0):Nat×Nat) [] 0) Nm.nil),(AU.mk (AM.mk a.p.funcs) a.most a.cost b))
def DY(a:AU)(b:Int):Option (Th×AU):=
 bif (a.why==0) then (JF a b) else (JF a a.why)
def Mq(b:Bts)(c:Nm→Option Th)(d:Nm):Option Th:=
 (d.view).bind fun a=>bif (!(a.1==b)) then (c a.2.2) else (some a.2.1)
def G5(a:Bts):Nat→Nm→Option Th
 |0=>fun _=>none
 |k+1=>Mq a (G5 a k)
def GX(a:Nat)(b:Nm)(c:Bts):Option Th:=
 G5 c a b
def K6(a:Bool):Option (Int×Int):=
 bif a then (some (1,1)) else (some (0,0))
def H5(a:Int)(b:Bool):Option (Int×Int):=
 bif b then (some (2,1)) else (bif (a==14) then (some (1,2)) else (bif (a==15) then (K6 (a==15)) else (bif (a==16) then (K6 (a==16)) else (K6 (a==17)))))
def HH(a:Int):Option (Int×Int):=
 bif (a==8) then (H5 a (a==8)) else (bif (a==9) then (H5 a (a==9)) else (bif (a==10) then (H5 a (a==10)) else (bif (a==11) then (H5 a (a==11)) else (bif (a==12) then (H5 a (a==12)) else (H5 a (a==13))))))
def JQ(a b:Ad):Option (Ad×Int):=
 (Hn (Ad.mk (i64.wrap (a.re+b.re)) (i64.wrap (a.im+b.im)))).bind fun c=>some (c.1,c.2)
def CY(b:Ad)(a:Int):Option (AF×Int):=
 bif (a != 0) then (some ((AF.mk 0 ((0,0):Nat×Nat) false []),a)) else ((GJ b).bind fun c=>some ((AF.mk 1 c false []),0))
def JR(a b:Ad):Option (Ad×Int):=
 (Hn (Ad.mk (i64.wrap (a.re - b.re)) (i64.wrap (a.im - b.im)))).bind fun c=>some (c.1,c.2)
def JS(a b:Ad):Option (Ad×Int):=
 (Hn (Ad.mk (i64.wrap ((i64.wrap (a.re*b.re)) - (i64.wrap (a.im*b.im)))) (i64.wrap ((i64.wrap (a.re*b.im))+(i64.wrap (a.im*b.re)))))).bind fun c=>some (c.1,c.2)
def LL(b a:Ad)(d:Bool):Option (Ad×Int):=
 bif d then (some ((Ad.mk 0 0),51)) else ((nz (i64.wrap ((i64.wrap (a.re*a.re))+(i64.wrap (a.im*a.im))))).bind fun _=>(nz (i64.wrap ((i64.wrap (a.re*a.re))+(i64.wrap (a.im*a.im))))).bind fun _=>(Hn (Ad.mk (i64.wrap ((i64.wrap ((i64.wrap (b.re*a.re))+(i64.wrap (b.im*a.im)))).tdiv (i64.wrap ((i64.wrap (a.re*a.re))+(i64.wrap (a.im*a.im)))))) (i64.wrap ((i64.wrap ((i64.wrap (b.im*a.re)) - (i64.wrap (b.re*a.im)))).tdiv (i64.wrap ((i64.wrap (a.re*a.re))+(i64.wrap (a.im*a.im)))))))).bind fun c=>some (c.1,c.2))
def JT(b a:Ad):Option (Ad×Int):=
 bif ((i64.wrap ((i64.wrap (a.re*a.re))+(i64.wrap (a.im*a.im))))==0) then (LL b a true) else ((nz (i64.wrap ((i64.wrap (a.re*a.re))+(i64.wrap (a.im*a.im))))).bind fun _=>bif (((i64.wrap ((i64.wrap (b.re*a.re))+(i64.wrap (b.im*a.im)))).tmod (i64.wrap ((i64.wrap (a.re*a.re))+(i64.wrap (a.im*a.im))))) != 0) then (LL b a true) else ((nz (i64.wrap ((i64.wrap (a.re*a.re))+(i64.wrap (a.im*a.im))))).bind fun _=>LL b a (((i64.wrap ((i64.wrap (b.im*a.re)) - (i64.wrap (b.re*a.im)))).tmod (i64.wrap ((i64.wrap (a.re*a.re))+(i64.wrap (a.im*a.im))))) != 0)))
def HI(a:Bool):Option (AF×Int):=
 some ((AF.mk 2 ((0,0):Nat×Nat) a []),0)
def Ki(a:Bool):Option Bool:=
 some a
def IN(a b:Ad):Option Bool:=
 bif (decide (a.re<b.re)) then (Ki true) else (bif (a.re==b.re) then (Ki (decide (a.im<b.im))) else (Ki false))
def En(d:(List AF))(a:(List Ad))(b:Int)(e:(Bool→(List Ad)→Int→Option (AF×Int)))(f:Bool):Option (AF×Int):=
 (idx d b).bind fun g=>(EW g.num).bind fun c=>(HB 16 a ([c.1]:List Ad)).bind fun _=>e f (a++([c.1]:List Ad)) (i64.wrap (b+1))
def K7(w:Nat)(b:Int)(c:(List AF))(x:(Int×Int))(y:Bool)(a:(List Ad))(d:Int)(e:(Bool→(List Ad)→Int→Option (AF×Int)))(z:Bool):Option (AF×Int):=
 bif z then ((idx c d).bind fun f=>(B8 w f).bind fun aa=>bif aa then (En c a d e (f.type_==x.2)) else (En c a d e false)) else (bif (!y) then (some ((AF.mk 0 ((0,0):Nat×Nat) false []),3)) else (bif (b==8) then ((idx a (0:Int)).bind fun ab=>(idx a (1:Int)).bind fun ac=>(JQ ab ac).bind fun g=>(CY g.1 g.2).bind fun h=>some (h.1,h.2)) else (bif (b==9) then ((idx a (0:Int)).bind fun ad=>(idx a (1:Int)).bind fun ae=>(JR ad ae).bind fun i=>(CY i.1 i.2).bind fun j=>some (j.1,j.2)) else (bif (b==10) then ((idx a (0:Int)).bind fun af=>(idx a (1:Int)).bind fun ag=>(JS af ag).bind fun k=>(CY k.1 k.2).bind fun l=>some (l.1,l.2)) else (bif (b==11) then ((idx a (0:Int)).bind fun ah=>(idx a (1:Int)).bind fun ai=>(JT ah ai).bind fun m=>(CY m.1 m.2).bind fun n=>some (n.1,n.2)) else (bif (b==12) then ((idx a (0:Int)).bind fun o=>(idx a (1:Int)).bind fun p=>(HI (o.re==p.re&&o.im==p.im)).bind fun q=>some (q.1,q.2)) else (bif (b==13) then ((idx a (0:Int)).bind fun aj=>(idx a (1:Int)).bind fun ak=>(IN aj ak).bind fun al=>(HI al).bind fun r=>some (r.1,r.2)) else (bif (b==14) then ((idx c (0:Int)).bind fun am=>(HI (!am.bool)).bind fun s=>some (s.1,s.2)) else (bif (b==15) then ((idx a (0:Int)).bind fun an=>(CY (Ad.mk an.re 0) (0:Int)).bind fun t=>some (t.1,t.2)) else (bif (b==16) then ((idx a (0:Int)).bind fun ao=>(CY (Ad.mk ao.im 0) (0:Int)).bind fun u=>some (u.1,u.2)) else ((idx a (0:Int)).bind fun ap=>(idx a (0:Int)).bind fun aq=>(CY (Ad.mk ap.re (i64.wrap (0 - aq.im))) (0:Int)).bind fun v=>some (v.1,v.2))))))))))))
def CV(d:Nat)(e:Int)(f:(List AF))(a:(Int×Int))(g:Bool→(List Ad)→Int→Option (AF×Int))(b:Bool)(h:(List Ad))(c:Int):Option (AF×Int):=
 bif b then (K7 d e f a b h c g (decide (c<a.1))) else (K7 d e f a b h c g false)
def Bm(a:Nat)(b:Int)(c:(List AF))(d:(Int×Int)):Nat→Bool→(List Ad)→Int→Option (AF×Int)
 |0=>fun _ _ _=>none
 |k+1=>CV a b c d (Bm a b c d k)
def MB(a:Nat)(b:Int)(c:(List AF))(d:(Int×Int))(e:Bool):Option (AF×Int):=
 Bm a b c d a e ([]:List Ad) 0
def Dc(d:Nat)(b:Int)(c:(List AF)):Option (AF×Int):=
 (HH b).bind fun a=>bif (decide (a.1>0)) then (MB d b c a ((c.length:Int)==a.1)) else (MB d b c a false)
structure AP where
 ref11_Machine_look:AU→AE→Nm→Option (Th×AU)
 ref11_Machine_of:AU→Th→Option (Th×AU)
 ref11_Machine_inside:AU→AE→Nm→Option (Th×AU)
def G6(f:AP)(a:AU)(c:AE)(g:Nm)(h:(List AJ))(i:Int)(j k:Bts)(l:Int)(m:(Nat×Nat))(n:(List AE))(o:Int)(p:Nm→Int→Option (Th×AU))(d:Nm)(b:Int):Option (Th×AU):=
 bif (decide (b< (c.args.length:Int))) then ((idx h b).bind fun q=>(idx c.args b).bind fun r=>p (Nm.bind q.name (Th.later r g) d) (i64.wrap (b+1))) else ((f.ref11_Machine_look (AU.mk (AM.mk a.p.funcs) a.most (i64.wrap (a.cost+1)) a.why) (AE.mk i j k l m n o) d).bind fun e=>some (e.1,e.2))
def Ex(a:AP)(b:AU)(c:AE)(d:Nm)(e:(List AJ))(f:Int)(g h:Bts)(i:Int)(j:(Nat×Nat))(l:(List AE))(m:Int):Nat→Nm→Int→Option (Th×AU)
 |0=>fun _ _=>none
 |k+1=>G6 a b c d e f g h i j l m (Ex a b c d e f g h i j l m k)
def JG(a:AP)(b:Nat)(c:AU)(d:AE)(e:Nm)(f:(List AJ))(g:Int)(h i:Bts)(j:Int)(k:(Nat×Nat))(l:(List AE))(m:Int):Option (Th×AU):=
 Ex a c d e f g h i j k l m b Nm.nil 0
def JH(a:AU)(b:Th):Option (Th×AU):=
 some (b,(AU.mk (AM.mk a.p.funcs) a.most (i64.wrap (a.cost+1)) a.why))
def Bz(e:AP)(f:Nat)(a:AU)(b:AE)(d:Nm)(j:Bool):Option (Th×AU):=
 bif j then (some ((Th.done (AF.mk 2 ((0,0):Nat×Nat) (b.op==2) []) Th.nil Th.nil),(AU.mk (AM.mk a.p.funcs) a.most (i64.wrap (a.cost+1)) a.why))) else (bif (b.op==4) then (some ((Th.done (AF.mk 3 ((0,0):Nat×Nat) false []) Th.nil Th.nil),(AU.mk (AM.mk a.p.funcs) a.most (i64.wrap (a.cost+1)) a.why))) else (bif (b.op==5) then ((DY (AU.mk (AM.mk a.p.funcs) a.most (i64.wrap (a.cost+1)) a.why) (52:Int)).bind fun g=>some (g.1,g.2)) else (bif (b.op==6) then ((GX f d b.name).bind fun k=>(e.ref11_Machine_of (AU.mk (AM.mk a.p.funcs) a.most (i64.wrap (a.cost+1)) a.why) k).bind fun h=>some (h.1,h.2)) else (bif (b.op==7) then ((Gz f (AM.mk a.p.funcs) b.name).bind fun c=>JG e f a b d c.1.params c.1.body.op c.1.body.name c.1.body.tail c.1.body.type_ c.1.body.num c.1.body.args c.1.body.at_) else (bif (b.op==18) then ((idx b.args (0:Int)).bind fun l=>(idx b.args (1:Int)).bind fun m=>JH a (Th.done (AF.mk 0 ((0,0):Nat×Nat) false []) (Th.later l d) (Th.later m d))) else ((e.ref11_Machine_inside (AU.mk (AM.mk a.p.funcs) a.most (i64.wrap (a.cost+1)) a.why) b d).bind fun i=>some (i.1,i.2)))))))
def BJ(c:AP)(d:Nat)(a:AU)(b:AE)(e:Nm):Option (Th×AU):=
 bif (a.why != 0) then (some ((Th.later (AE.mk 0 ([]:List UInt8) ([]:List UInt8) 0 ((0,0):Nat×Nat) [] 0) Nm.nil),a)) else (bif (decide (a.cost≥a.most)) then ((DY a (60:Int)).bind fun f=>some (f.1,f.2)) else (bif (b.op==1) then (some ((Th.done (AF.mk 1 b.num false []) Th.nil Th.nil),(AU.mk (AM.mk a.p.funcs) a.most (i64.wrap (a.cost+1)) a.why))) else (bif (b.op==2) then (Bz c d a b e (b.op==2)) else (Bz c d a b e (b.op==3)))))
def Jx(e:AP)(a:AU)(b:Th)(f:Bool):Option (Th×AU):=
 bif f then (some (b,a)) else ((b.view).bind fun c=>(e.ref11_Machine_look a c.e c.names).bind fun d=>some (d.1,d.2))
def Hb(c:AP)(_N:Nat)(a:AU)(b:Th):Option (Th×AU):=
 bif (a.why != 0) then (Jx c a b true) else ((b.view).bind fun d=>Jx c a b d.known)
def CX(c:AP)(a:AE)(d:Nm)(b:(Th×AU))(h:Bool):Option (Th×AU):=
 bif h then ((idx a.args (1:Int)).bind fun i=>(c.ref11_Machine_look b.2 i d).bind fun e=>some (e.1,e.2)) else ((idx a.args (2:Int)).bind fun j=>(b.1.view).bind fun f=>(c.ref11_Machine_look b.2 j (Nm.bind a.tail f.tail (Nm.bind a.name f.head d))).bind fun g=>some (g.1,g.2))
def Au(l:AP)(m:Nat)(f:AE)(n:Nm)(o:(List AF)→Int→(List AO)→Int→Int→Int→Option (Th×AU))(g:(List AF))(h:Int)(c:(List AO))(d e a:Int):Option (Th×AU):=
 bif (decide (h< (f.args.length:Int))) then ((idx f.args h).bind fun p=>(l.ref11_Machine_look (AU.mk (AM.mk c) d e a) p n).bind fun b=>(b.1.view).bind fun j=>(HB 56 g ([j.value]:List AF)).bind fun _=>o (g++([j.value]:List AF)) (i64.wrap (h+1)) b.2.p.funcs b.2.most b.2.cost b.2.why) else (bif (a != 0) then (some ((Th.later (AE.mk 0 ([]:List UInt8) ([]:List UInt8) 0 ((0,0):Nat×Nat) [] 0) Nm.nil),(AU.mk (AM.mk c) d e a))) else ((Dc m f.op g).bind fun i=>bif (i.2 != 0) then ((DY (AU.mk (AM.mk c) d e a) i.2).bind fun k=>some (k.1,k.2)) else (some ((Th.done i.1 Th.nil Th.nil),(AU.mk (AM.mk c) d e a)))))
def BN(a:AP)(b:Nat)(c:AE)(d:Nm):Nat→(List AF)→Int→(List AO)→Int→Int→Int→Option (Th×AU)
 |0=>fun _ _ _ _ _ _=>none
 |k+1=>Au a b c d (BN a b c d k)
def BL(b:AP)(g:Nat)(d:AU)(a:AE)(c:Nm):Option (Th×AU):=
 bif (a.op==19) then ((idx a.args (0:Int)).bind fun m=>(b.ref11_Machine_look d m c).bind fun f=>(f.1.view).bind fun n=>bif n.value.bool then ((idx a.args (1:Int)).bind fun o=>(b.ref11_Machine_look f.2 o c).bind fun h=>some (h.1,h.2)) else ((idx a.args (2:Int)).bind fun p=>(b.ref11_Machine_look f.2 p c).bind fun i=>some (i.1,i.2))) else (bif (a.op==20) then ((idx a.args (0:Int)).bind fun q=>(b.ref11_Machine_look d q c).bind fun e=>bif (e.2.why != 0) then (CX b a c e true) else ((e.1.view).bind fun r=>CX b a c e (!r.pair))) else (bif (a.op==21) then ((idx a.args (0:Int)).bind fun s=>(idx a.args (1:Int)).bind fun t=>(b.ref11_Machine_look d t (Nm.letrec a.name s c)).bind fun j=>some (j.1,j.2)) else (bif (a.op==22) then ((idx a.args (0:Int)).bind fun u=>(b.ref11_Machine_look d u c).bind fun k=>(idx a.args (1:Int)).bind fun v=>(b.ref11_Machine_look k.2 v (Nm.bind a.name k.1 c)).bind fun l=>some (l.1,l.2)) else (BN b g a c g ([]:List AF) 0 d.p.funcs d.most d.cost d.why))))
def AP.at:Nat→AP
 |0=>⟨fun _ _ _=>none,fun _ _=>none,fun _ _ _=>none⟩
 |n+1=>⟨BJ (AP.at n) n,Hb (AP.at n) n,BL (AP.at n) n⟩
def ref11_Machine_look(a:Nat):AU→AE→Nm→Option (Th×AU):=(AP.at a).ref11_Machine_look
def ref11_Machine_of(a:Nat):AU→Th→Option (Th×AU):=(AP.at a).ref11_Machine_of
def ref11_Machine_inside(a:Nat):AU→AE→Nm→Option (Th×AU):=(AP.at a).ref11_Machine_inside
def Bn(c:Nat)(k:Th)(d:(List AO))(e f g:Int)(b:(List (Nat×Nat)))(l:(Th→(List AO)→Int→Int→Int→(List (Nat×Nat))→Option (AF×AU)))(m:Bool):Option (AF×AU):=
 bif m then ((k.view).bind fun h=>(ref11_Machine_of c (AU.mk (AM.mk d) e f g) h.head).bind fun i=>(i.1.view).bind fun j=>(HB 16 b ([j.value.num]:List (Nat×Nat))).bind fun _=>(ref11_Machine_of c i.2 h.tail).bind fun a=>l a.1 a.2.p.funcs a.2.most a.2.cost a.2.why (b++([j.value.num]:List (Nat×Nat)))) else (some ((AF.mk 3 ((0,0):Nat×Nat) false b),(AU.mk (AM.mk d) e f g)))
def C7(c:Nat)(d:Th→(List AO)→Int→Int→Int→(List (Nat×Nat))→Option (AF×AU))(a:Th)(e:(List AO))(f g b:Int)(h:(List (Nat×Nat))):Option (AF×AU):=
 bif (b==0) then ((a.view).bind fun i=>Bn c a e f g b h d i.pair) else (Bn c a e f g b h d false)
def Bq(a:Nat):Nat→Th→(List AO)→Int→Int→Int→(List (Nat×Nat))→Option (AF×AU)
 |0=>fun _ _ _ _ _ _=>none
 |k+1=>C7 a (Bq a k)
def Ec(b:Nat)(a:AU)(c:Th)(d:Bool):Option (AF×AU):=
 bif d then ((c.view).bind fun e=>some (e.value,a)) else (Bq b b c a.p.funcs a.most a.cost a.why ([]:List (Nat×Nat)))
def CQ(c:Nat)(a:AU)(b:Th):Option (AF×AU):=
 bif (a.why==0) then ((b.view).bind fun d=>Ec c a b (!d.pair)) else (Ec c a b false)
def FL(e:Nat)(i:AM)(f:(List AF))(c:Int)(a:(AO×Bool))(j:Nm→Int→Option BE)(g:Nm)(d:Int):Option BE:=
 bif (decide (d< (f.length:Int))) then ((idx a.1.params d).bind fun k=>(idx f d).bind fun l=>(H4 e l).bind fun m=>j (Nm.bind k.name m g) (i64.wrap (d+1))) else ((ref11_Machine_look e (AU.mk i (if 16384< (if c<0 then 0 else c) then 16384 else (if c<0 then 0 else c)) 0 0) (AE.mk a.1.body.op a.1.body.name a.1.body.tail a.1.body.type_ a.1.body.num a.1.body.args a.1.body.at_) g).bind fun h=>(CQ e h.2 h.1).bind fun b=>bif (b.2.why != 0) then (some (BE.mk b.2.why (AF.mk 0 ((0,0):Nat×Nat) false []) b.2.cost 0 0 0)) else (some (BE.mk 0 b.1 b.2.cost 0 0 0)))
def Gi(a:Nat)(b:AM)(c:(List AF))(d:Int)(e:(AO×Bool)):Nat→Nm→Int→Option BE
 |0=>fun _ _=>none
 |k+1=>FL a b c d e (Gi a b c d e k)
def GH(a:Nat)(b:AM)(e:Bts)(d:(List AF))(f:Int):Option BE:=
 (HG a b).bind fun g=>bif (g.why != 0) then (some (BE.mk 3 (AF.mk 0 ((0,0):Nat×Nat) false []) 0 0 0 0)) else ((Gz a b e).bind fun c=>bif (!c.2) then (some (BE.mk 32 (AF.mk 0 ((0,0):Nat×Nat) false []) 0 0 0 0)) else ((G4 a c.1 d).bind fun h=>bif (!h) then (some (BE.mk 40 (AF.mk 0 ((0,0):Nat×Nat) false []) 0 0 0 0)) else (Gi a b d f c a Nm.nil 0)))
def K8(b c:AF)(d:Int→Option Bool)(a:Int):Option Bool:=
 bif (decide (a< (b.list.length:Int))) then ((idx b.list a).bind fun e=>(idx c.list a).bind fun f=>bif (cne e f) then (some false) else (d (i64.wrap (a+1)))) else (some true)
def Jq(a b:AF):Nat→Int→Option Bool
 |0=>fun _=>none
 |k+1=>K8 a b (Jq a b k)
def Hg(a:Nat)(b c:AF)(d:Bool):Option Bool:=
 bif d then (some false) else (Jq b c a 0)
def Jr(c:Nat)(a b:AF):Option Bool:=
 (B8 c a).bind fun d=>bif (!d) then (Hg c a b true) else ((B8 c b).bind fun e=>bif (!e) then (Hg c a b true) else (bif (a.type_ != b.type_) then (Hg c a b true) else (bif (cne a.num b.num) then (Hg c a b true) else (bif (!(a.bool==b.bool)) then (Hg c a b true) else (Hg c a b ((a.list.length:Int) != (b.list.length:Int)))))))
def H6(a:Bool):Option Bool:=
 some a
def KE(c:Nat)(a b:AF)(d:Bool):Option Bool:=
 bif d then (bif (ceq a.num ((0,0):Nat×Nat)) then (bif (ceq b.num ((0,0):Nat×Nat)) then (bif (!a.bool) then (bif (!b.bool) then (bif ((a.list.length:Int)==0) then (H6 ((b.list.length:Int)==0)) else (H6 false)) else (H6 false)) else (H6 false)) else (H6 false)) else (H6 false)) else ((Jr c a b).bind fun e=>some e)
def GY(c:Nat)(a b:AF):Option Bool:=
 bif (a.type_==0) then (KE c a b (b.type_==0)) else (KE c a b false)
def Hh(a:Bool):Option Bool:=
 some a
def JD(c:Nat)(a b:BE):Option Bool:=
 bif (a.why==b.why) then ((GY c (AF.mk a.value.type_ a.value.num a.value.bool a.value.list) (AF.mk b.value.type_ b.value.num b.value.bool b.value.list)).bind fun d=>bif d then (bif (a.moves==b.moves) then (bif (a.thunks==b.thunks) then (bif (a.updates==b.updates) then (Hh (a.calls==b.calls)) else (Hh false)) else (Hh false)) else (Hh false)) else (Hh false)) else (Hh false)
def GZ(a:HP):Option ((Nat×Nat)):=
 bif a.raw then (some (((IntKind.u64.wrap (a.re))).toNat,((IntKind.u64.wrap (a.im))).toNat)) else (some ((FloatKind.f64.nearest a.re),(FloatKind.f64.nearest a.im)))
def IP(c:FA)(e:Int)(f:(Nat×Nat))(g:Bool)(h:Int→(List (Nat×Nat))→Option AF)(a:Int)(b:(List (Nat×Nat))):Option AF:=
 bif (decide (a< (c.list.length:Int))) then ((idx c.list a).bind fun i=>(GZ i).bind fun d=>(HB 16 b ([d]:List (Nat×Nat))).bind fun _=>h (i64.wrap (a+1)) (b++([d]:List (Nat×Nat)))) else (some (AF.mk e f g b))
def H7(a:FA)(b:Int)(c:(Nat×Nat))(d:Bool):Nat→Int→(List (Nat×Nat))→Option AF
 |0=>fun _ _=>none
 |k+1=>IP a b c d (H7 a b c d k)
def MC(a:Nat)(b:FA)(c:Int)(d:(Nat×Nat))(e:Bool):Option AF:=
 H7 b c d e a 0 ([]:List (Nat×Nat))
def HJ(b:Nat)(a:FA):Option AF:=
 (GZ (HP.mk a.num.re a.num.im a.num.raw)).bind fun c=>MC b a a.type_ c a.bool
def LM(a:Bool):Option Bool:=
 some a
def G7(a:Nat)(e:Ft)(f:(List FA))(g:Int)(c:(AM×(List AF)×Bool))(i:(List AF)→Int→Option Bool)(b:(List AF))(d:Int):Option Bool:=
 bif (decide (d< (f.length:Int))) then ((idx f d).bind fun j=>(HJ a j).bind fun h=>(HB 56 b ([h]:List AF)).bind fun _=>i (b++([h]:List AF)) (i64.wrap (d+1))) else (bif (!c.2.2) then (LM true) else ((GW a c.1 e.name b g).bind fun k=>(GH a c.1 e.name b g).bind fun l=>(JD a k l).bind fun m=>LM m))
def Ga(a:Nat)(b:Ft)(c:(List FA))(d:Int)(e:(AM×(List AF)×Bool)):Nat→(List AF)→Int→Option Bool
 |0=>fun _ _=>none
 |k+1=>G7 a b c d e (Ga a b c d e k)
def F6(a:Nat)(b:Ft)(d:(List FA))(e:Int):Option Bool:=
 (H0 a).bind fun f=>bif (!f) then (some false) else ((Cq a b).bind fun c=>Ga a b d e c a c.2.1 0)
end Fth
namespace Fth
open Go Go.Proofs Sh
set_option maxRecDepth 100000
set_option maxHeartbeats 8000000
noncomputable abbrev PG:Program:=Tryz.prog
def HS:Kd Aw:=Xb 89 90
theorem Ct{F:Nat→Prop}{a:World}{c hv tv:Value}{x:Aw}(d:Slc Kd.cpx F a c x.plain.list)(e:MTh 89 90 F a hv x.head)(f:MTh 89 90 F a tv x.tail):HS.rep F a [I x.plain.type_,Cx x.plain.num,.bool x.plain.bool,c,hv,tv] x:=⟨_,_,_,rfl,d,e,f⟩
theorem Dd{F:Nat→Prop}{a:World}{cs:List Value}{x:Aw}(h:HS.rep F a cs x):∃c hv tv,cs=[I x.plain.type_,Cx x.plain.num,.bool x.plain.bool,c,hv,tv]∧Slc Kd.cpx F a c x.plain.list∧MTh 89 90 F a hv x.head∧MTh 89 90 F a tv x.tail:=h
abbrev Cv:=kt (PG.follows .mixedOrders)
abbrev D7:=kt (My PG 111 2)
abbrev Ia:=kt (My PG 159 4)
abbrev ABb:=kt (My PG 24 3)
abbrev Gd:=kt (My PG 28 1)
abbrev B0:=kt (My PG 38 4)
abbrev Mr:=kt (My PG 40 9)
abbrev Y7:=kt (My PG 45 3)
abbrev ABc:=kt (My PG 48 6)
abbrev A9:=kt (My PG 56 7)
abbrev MD:=kt (My PG 58 11)
abbrev K9:=kt (My PG 63 2)
abbrev Y8:=kt (My PG 76 4)
abbrev Xd:=kt (My PG 87 3)
abbrev KF:=kt (My PG 96 6)
theorem Pd:PG.underlying 22=some (.slice 5)∧PG.underlying 5=some (.int .u8)∧PG.underlying 9=some .string:=by exact ⟨by kernel_rfl,by kernel_rfl,by kernel_rfl⟩
theorem Xe:PG.underlying 145=some (.float .f64)∧PG.underlying 3=some (.int .i64):=by exact ⟨by kernel_rfl,by kernel_rfl⟩
theorem ABd{ρ:Env}{a:World}{d:Option Nat}{ty:Nat}{pos:String}{af:Array Edge}{g:Option (Nat×Bool)}{x:Operand}{xs:List Operand}{vs caps:List Value}{ts:Array Nat}(hx:ev ρ x=.func (.func 52) #[] caps.toArray)(hv:xs.map (ev ρ)=vs):
 (execOp (ev ρ) ⟨d,.call {callee:=.value x,args:=xs.toArray,argTypes:=ts},ty,pos,af,g⟩).run PG a=.ok (.enter 52 (vs++caps).toArray) a:=Run.enterV Tryz.func52 rfl dcd hx hv
theorem Sz{ρ:Env}{a:World}{d:Option Nat}{ty:Nat}{pos:String}{af:Array Edge}{g:Option (Nat×Bool)}{x:Operand}{xs:List Operand}{vs caps:List Value}{ts:Array Nat}(hx:ev ρ x=.func (.func 79) #[] caps.toArray)(hv:xs.map (ev ρ)=vs):
 (execOp (ev ρ) ⟨d,.call {callee:=.value x,args:=xs.toArray,argTypes:=ts},ty,pos,af,g⟩).run PG a=.ok (.enter 79 (vs++caps).toArray) a:=Run.enterV Tryz.func79 rfl dcd hx hv
theorem ABe{ρ:Env}{a:World}{d:Option Nat}{ty:Nat}{pos:String}{af:Array Edge}{g:Option (Nat×Bool)}{x:Operand}{xs:List Operand}{vs caps:List Value}{ts:Array Nat}(hx:ev ρ x=.func (.func 81) #[] caps.toArray)(hv:xs.map (ev ρ)=vs):
 (execOp (ev ρ) ⟨d,.call {callee:=.value x,args:=xs.toArray,argTypes:=ts},ty,pos,af,g⟩).run PG a=.ok (.enter 81 (vs++caps).toArray) a:=Run.enterV Tryz.func81 rfl dcd hx hv
theorem ABf{ρ:Env}{a:World}{d:Option Nat}{ty:Nat}{pos:String}{af:Array Edge}{g:Option (Nat×Bool)}{x:Operand}{xs:List Operand}{vs caps:List Value}{ts:Array Nat}(hx:ev ρ x=.func (.func 84) #[] caps.toArray)(hv:xs.map (ev ρ)=vs):
 (execOp (ev ρ) ⟨d,.call {callee:=.value x,args:=xs.toArray,argTypes:=ts},ty,pos,af,g⟩).run PG a=.ok (.enter 84 (vs++caps).toArray) a:=Run.enterV Tryz.func84 rfl dcd hx hv
theorem ABg{ρ:Env}{a:World}{d:Option Nat}{ty:Nat}{pos:String}{af:Array Edge}{g:Option (Nat×Bool)}{x:Operand}{xs:List Operand}{vs caps:List Value}{ts:Array Nat}(hx:ev ρ x=.func (.func 85) #[] caps.toArray)(hv:xs.map (ev ρ)=vs):
 (execOp (ev ρ) ⟨d,.call {callee:=.value x,args:=xs.toArray,argTypes:=ts},ty,pos,af,g⟩).run PG a=.ok (.enter 85 (vs++caps).toArray) a:=Run.enterV Tryz.func85 rfl dcd hx hv
theorem ABh{ρ:Env}{a:World}{d:Option Nat}{ty:Nat}{pos:String}{af:Array Edge}{g:Option (Nat×Bool)}{x:Operand}{xs:List Operand}{vs caps:List Value}{ts:Array Nat}(hx:ev ρ x=.func (.func 86) #[] caps.toArray)(hv:xs.map (ev ρ)=vs):
 (execOp (ev ρ) ⟨d,.call {callee:=.value x,args:=xs.toArray,argTypes:=ts},ty,pos,af,g⟩).run PG a=.ok (.enter 86 (vs++caps).toArray) a:=Run.enterV Tryz.func86 rfl dcd hx hv
theorem ABi{ρ:Env}{a:World}{d:Option Nat}{ty:Nat}{pos:String}{af:Array Edge}{g:Option (Nat×Bool)}{x:Operand}{xs:List Operand}{vs caps:List Value}{ts:Array Nat}(hx:ev ρ x=.func (.func 89) #[] caps.toArray)(hv:xs.map (ev ρ)=vs):
 (execOp (ev ρ) ⟨d,.call {callee:=.value x,args:=xs.toArray,argTypes:=ts},ty,pos,af,g⟩).run PG a=.ok (.enter 89 (vs++caps).toArray) a:=Run.enterV Tryz.func89 rfl dcd hx hv
theorem ABj{ρ:Env}{a:World}{d:Option Nat}{ty:Nat}{pos:String}{af:Array Edge}{g:Option (Nat×Bool)}{x:Operand}{xs:List Operand}{vs caps:List Value}{ts:Array Nat}(hx:ev ρ x=.func (.func 90) #[] caps.toArray)(hv:xs.map (ev ρ)=vs):
 (execOp (ev ρ) ⟨d,.call {callee:=.value x,args:=xs.toArray,argTypes:=ts},ty,pos,af,g⟩).run PG a=.ok (.enter 90 (vs++caps).toArray) a:=Run.enterV Tryz.func90 rfl dcd hx hv
theorem Xw:Elt PG (Kd.int .i64) 114 3 8:=⟨by kernel_rfl,by kernel_rfl,⟨I 0,by kernel_rfl,by kernel_rfl⟩,by decide⟩
theorem Xx:Elt PG Ah 121 159 48:=⟨by kernel_rfl,by kernel_rfl,⟨.agg #[I 0,.string ⟨#[]⟩,.complex .f64 0 0,I 0],by kernel_rfl,by kernel_rfl⟩,by decide⟩
theorem QS:Elt PG An 149 63 16:=⟨by kernel_rfl,by kernel_rfl,⟨.agg #[I 0,I 0],by kernel_rfl,by kernel_rfl⟩,by decide⟩
theorem VY:Elt PG GE 181 184 104:=⟨by kernel_rfl,by kernel_rfl,⟨.agg #[I 0,.string ⟨#[]⟩,.string ⟨#[]⟩,I 0,.complex .f64 0 0,.slice none 0 0,I 0,.bool false],by kernel_rfl,by kernel_rfl⟩,by decide⟩
theorem AAY:Elt PG Bh 204 111 16:=⟨by kernel_rfl,by kernel_rfl,⟨.agg #[I 0,I 0],by kernel_rfl,by kernel_rfl⟩,by decide⟩
theorem Y9:Elt PG Kd.u8 22 5 1:=⟨by kernel_rfl,by kernel_rfl,⟨.int .u8 0,by kernel_rfl,by kernel_rfl⟩,by decide⟩
theorem ABk:Elt PG AI 26 58 152:=⟨by kernel_rfl,by kernel_rfl,⟨.agg #[.string ⟨#[]⟩,.slice none 0 0,I 0,I 0,.string ⟨#[]⟩,.string ⟨#[]⟩,I 0,.complex .f64 0 0,.slice none 0 0,I 0,I 0],by kernel_rfl,by kernel_rfl⟩,by decide⟩
theorem VZ:Elt PG Ao 29 38 56:=⟨by kernel_rfl,by kernel_rfl,⟨.agg #[I 0,.complex .f64 0 0,.bool false,.slice none 0 0],by kernel_rfl,by kernel_rfl⟩,by decide⟩
theorem Vb:Elt PG Kd.cpx 36 35 16:=⟨by kernel_rfl,by kernel_rfl,⟨.complex .f64 0 0,by kernel_rfl,by kernel_rfl⟩,by decide⟩
theorem P7:Elt PG Ab 52 87 32:=⟨by kernel_rfl,by kernel_rfl,⟨.agg #[.string ⟨#[]⟩,I 0,I 0],by kernel_rfl,by kernel_rfl⟩,by decide⟩
theorem ZA:Elt PG AH 54 56 96:=⟨by kernel_rfl,by kernel_rfl,⟨.agg #[I 0,.string ⟨#[]⟩,.string ⟨#[]⟩,I 0,.complex .f64 0 0,.slice none 0 0,I 0],by kernel_rfl,by kernel_rfl⟩,by decide⟩
theorem Vc:Elt PG DV 68 9 16:=⟨by kernel_rfl,by kernel_rfl,⟨.string ⟨#[]⟩,by kernel_rfl,by kernel_rfl⟩,by decide⟩
abbrev YS:=kt (D2 PG 101 0 0)
abbrev YT:=kt (D2 PG 101 1 1)
abbrev Nu:=kt (D2 PG 101 2 2)
abbrev Kj:=kt (D2 PG 101 3 3)
abbrev YU:=kt (D2 PG 106 0 0)
abbrev U3:=kt (D2 PG 106 1 1)
abbrev YV:=kt (D2 PG 106 2 2)
abbrev DS:=kt (D2 PG 111 0 0)
abbrev DT:=kt (D2 PG 111 1 1)
abbrev YW:=kt (D2 PG 126 0 0)
abbrev Gb:=kt (D2 PG 126 1 1)
abbrev JU:=kt (D2 PG 126 2 2)
abbrev U4:=kt (D2 PG 126 3 3)
abbrev Qy:=kt (D2 PG 126 4 4)
abbrev Nv:=kt (D2 PG 126 5 8)
abbrev U5:=kt (D2 PG 134 0 0)
abbrev Qz:=kt (D2 PG 134 1 1)
abbrev Fk:=kt (D2 PG 134 2 2)
abbrev YX:=kt (D2 PG 134 3 3)
abbrev YY:=kt (D2 PG 141 0 0)
abbrev Q0:=kt (D2 PG 141 1 1)
abbrev Pe:=kt (D2 PG 141 2 2)
abbrev U6:=kt (D2 PG 141 3 6)
abbrev U7:=kt (D2 PG 141 4 7)
abbrev YZ:=kt (D2 PG 141 5 8)
abbrev U9:=kt (D2 PG 141 6 15)
abbrev LN:=kt (D2 PG 159 0 0)
abbrev Fm:=kt (D2 PG 159 1 1)
abbrev VA:=kt (D2 PG 159 2 2)
abbrev Ls:=kt (D2 PG 159 3 3)
abbrev Ya:=kt (D2 PG 184 0 0)
abbrev Yb:=kt (D2 PG 184 1 7)
abbrev ZB:=kt (D2 PG 24 0 0)
abbrev Wq:=kt (D2 PG 24 1 1)
abbrev ZC:=kt (D2 PG 24 2 2)
abbrev EX:=kt (D2 PG 28 0 0)
abbrev Jd:=kt (D2 PG 38 0 0)
abbrev HT:=kt (D2 PG 38 1 1)
abbrev Ka:=kt (D2 PG 38 2 2)
abbrev D8:=kt (D2 PG 38 3 3)
abbrev QT:=kt (D2 PG 40 0 0)
abbrev QU:=kt (D2 PG 40 1 1)
abbrev QV:=kt (D2 PG 40 2 5)
abbrev Ws:=kt (D2 PG 40 3 6)
abbrev Wt:=kt (D2 PG 40 4 7)
abbrev Wu:=kt (D2 PG 40 5 8)
abbrev Wv:=kt (D2 PG 45 0 0)
abbrev Ww:=kt (D2 PG 45 1 1)
abbrev ZD:=kt (D2 PG 45 2 2)
abbrev ZE:=kt (D2 PG 48 0 0)
abbrev ZF:=kt (D2 PG 48 1 1)
abbrev ZG:=kt (D2 PG 48 2 4)
abbrev Wx:=kt (D2 PG 48 3 5)
abbrev C8:=kt (D2 PG 56 0 0)
abbrev Di:=kt (D2 PG 56 1 1)
abbrev NB:=kt (D2 PG 56 2 2)
abbrev Lg:=kt (D2 PG 56 3 3)
abbrev Wy:=kt (D2 PG 56 4 4)
abbrev BS:=kt (D2 PG 56 5 5)
abbrev Mi:=kt (D2 PG 56 6 6)
abbrev NC:=kt (D2 PG 58 0 0)
abbrev EY:=kt (D2 PG 58 1 1)
abbrev O0:=kt (D2 PG 58 2 2)
abbrev ME:=kt (D2 PG 58 3 3)
abbrev W0:=kt (D2 PG 58 4 10)
abbrev ND:=kt (D2 PG 63 0 0)
abbrev O3:=kt (D2 PG 63 1 1)
abbrev QW:=kt (D2 PG 76 0 0)
abbrev ZH:=kt (D2 PG 76 1 1)
abbrev ZI:=kt (D2 PG 76 2 2)
abbrev ZJ:=kt (D2 PG 76 3 3)
abbrev S0:=kt (D2 PG 83 0 0)
abbrev ZK:=kt (D2 PG 83 1 1)
abbrev O4:=kt (D2 PG 83 2 2)
abbrev ZL:=kt (D2 PG 83 3 3)
abbrev Lh:=kt (D2 PG 87 0 0)
abbrev Nw:=kt (D2 PG 87 1 1)
abbrev W1:=kt (D2 PG 87 2 2)
abbrev ZM:=kt (D2 PG 93 0 0)
abbrev W2:=kt (D2 PG 93 1 1)
abbrev ZN:=kt (D2 PG 93 2 2)
abbrev ZO:=kt (D2 PG 96 0 0)
abbrev O5:=kt (D2 PG 96 1 4)
abbrev W3:=kt (D2 PG 96 2 5)
abbrev Vd:=kt (Wj PG 90)
abbrev Q1:=kt (RR PG 159 0 0)
abbrev Yc:=kt (RR PG 159 3 3)
abbrev ZP:=kt (RR PG 38 1 1)
abbrev ZQ:=kt (RR PG 38 2 2)
abbrev W4:=kt (RR PG 63 0 0)
abbrev S5:=kt (Xt PG 96 0 0 4)
theorem AAZ:(PG.info? 33).map (·.zero)=some (some (I 0)):=by kernel_rfl
abbrev LQ:=kt (Xa PG 81 3)
theorem AAa:PG.underlying 22=some (.slice 5)∧PG.underlying 5=some (.int .u8):=by exact ⟨by kernel_rfl,by kernel_rfl⟩
theorem AAb:(PG.info? 102).map (·.size)=some 1:=by kernel_rfl
theorem HM:(PG.info? 111).map (·.size)=some 2:=by kernel_rfl
theorem Ve:(PG.info? 157).map (·.size)=some 1:=by kernel_rfl
theorem HN:(PG.info? 159).map (·.size)=some 4:=by kernel_rfl
theorem AAc:(PG.info? 169).map (·.size)=some 1:=by kernel_rfl
theorem ABl:(PG.info? 26).map (·.size)=some 1:=by kernel_rfl
theorem JJ:(PG.info? 28).map (·.size)=some 1:=by kernel_rfl
theorem Mj:(PG.info? 3).map (·.size)=some 1:=by kernel_rfl
theorem Xf:(PG.info? 34).map (·.size)=some 1:=by kernel_rfl
theorem ABm:(PG.info? 35).map (·.size)=some 1:=by kernel_rfl
theorem Vf:(PG.info? 36).map (·.size)=some 1:=by kernel_rfl
theorem Cw:(PG.info? 38).map (·.size)=some 4:=by kernel_rfl
theorem MU:(PG.info? 40).map (·.size)=some 9:=by kernel_rfl
theorem O6:(PG.info? 52).map (·.size)=some 1:=by kernel_rfl
theorem Vg:(PG.info? 53).map (·.size)=some 1:=by kernel_rfl
theorem S6:(PG.info? 54).map (·.size)=some 1:=by kernel_rfl
theorem D1:(PG.info? 56).map (·.size)=some 7:=by kernel_rfl
theorem LB:(PG.info? 58).map (·.size)=some 11:=by kernel_rfl
theorem HK:(PG.info? 63).map (·.size)=some 2:=by kernel_rfl
theorem ABn:(PG.info? 76).map (·.size)=some 4:=by kernel_rfl
theorem ABo:(PG.info? 80).map (·.size)=some 1:=by kernel_rfl
theorem ABp:(PG.info? 81).map (·.size)=some 1:=by kernel_rfl
theorem Xg:(PG.info? 87).map (·.size)=some 3:=by kernel_rfl
theorem Xy:(PG.info? 9).map (·.size)=some 1:=by kernel_rfl
theorem ABq:(PG.info? 90).map (·.size)=some 1:=by kernel_rfl
theorem Js:(PG.info? 96).map (·.size)=some 6:=by kernel_rfl
abbrev Xz:=kt (Kq PG 102)
abbrev Pf:=kt (Kq PG 103)
abbrev AAd:=kt (Kq PG 121)
abbrev Ko:=kt (Kq PG 130)
abbrev AAe:=kt (Kq PG 132)
abbrev Ph:=kt (Kq PG 157)
abbrev QX:=kt (Kq PG 169)
abbrev ABr:=kt (Kq PG 22)
abbrev G8:=kt (Kq PG 26)
abbrev BC:=kt (Kq PG 3)
abbrev NE:=kt (Kq PG 33)
abbrev Ed:=kt (Kq PG 34)
abbrev HL:=kt (Kq PG 35)
abbrev Ib:=kt (Kq PG 36)
abbrev MF:=kt (Kq PG 4)
abbrev ZR:=kt (Kq PG 46)
abbrev NF:=kt (Kq PG 5)
abbrev Ey:=kt (Kq PG 52)
abbrev Ge:=kt (Kq PG 53)
abbrev Cf:=kt (Kq PG 54)
abbrev Q2:=kt (Kq PG 80)
abbrev O7:=kt (Kq PG 81)
abbrev ZS:=kt (Kq PG 85)
abbrev CG:=kt (Kq PG 9)
abbrev O8:=kt (Kq PG 90)
theorem AAf:plc PG 101=some [(0,1),(1,1),(2,1),(3,1)]:=by kernel_rfl
theorem Pi:plc PG 106=some [(0,1),(1,1),(2,1)]:=by kernel_rfl
theorem KQ:plc PG 111=some [(0,1),(1,1)]:=by kernel_rfl
theorem AAg:plc PG 126=some [(0,1),(1,1),(2,1),(3,1),(4,4),(8,1)]:=by kernel_rfl
theorem AAh:plc PG 134=some [(0,1),(1,1),(2,1),(3,1)]:=by kernel_rfl
theorem Je:plc PG 141=some [(0,1),(1,1),(2,4),(6,1),(7,1),(8,7),(15,1)]:=by kernel_rfl
theorem Vh:plc PG 159=some [(0,1),(1,1),(2,1),(3,1)]:=by kernel_rfl
theorem X0:plc PG 184=some [(0,7),(7,1)]:=by kernel_rfl
theorem Tb.p24:plc PG 24=some [(0,1),(1,1),(2,1)]:=by kernel_rfl
theorem Xh:plc PG 28=some [(0,1)]:=by kernel_rfl
theorem F7:plc PG 38=some [(0,1),(1,1),(2,1),(3,1)]:=by kernel_rfl
theorem NG:plc PG 40=some [(0,1),(1,4),(5,1),(6,1),(7,1),(8,1)]:=by kernel_rfl
theorem Na:plc PG 56=some [(0,1),(1,1),(2,1),(3,1),(4,1),(5,1),(6,1)]:=by kernel_rfl
theorem ZT:plc PG 58=some [(0,1),(1,1),(2,1),(3,7),(10,1)]:=by kernel_rfl
theorem Mu:plc PG 63=some [(0,1),(1,1)]:=by kernel_rfl
theorem ABs:plc PG 76=some [(0,1),(1,1),(2,1),(3,1)]:=by kernel_rfl
theorem ABt:plc PG 83=some [(0,1),(1,1),(2,1),(3,1)]:=by kernel_rfl
theorem Q3:plc PG 87=some [(0,1),(1,1),(2,1)]:=by kernel_rfl
theorem Q4:plc PG 93=some [(0,1),(1,1),(2,1)]:=by kernel_rfl
theorem Nb:plc PG 96=some [(0,4),(4,1),(5,1)]:=by kernel_rfl
abbrev AAi:=kt (Wc PG 111)
abbrev SW:=kt (M6 PG 114 3 1)
abbrev Vi:=kt (M6 PG 121 159 4)
abbrev NU:=kt (M6 PG 149 63 2)
abbrev QY:=kt (M6 PG 181 184 8)
abbrev Jf:=kt (M6 PG 204 111 2)
abbrev H8:=kt (M6 PG 22 5 1)
abbrev GI:=kt (M6 PG 26 58 11)
abbrev Ic:=kt (M6 PG 29 38 4)
abbrev IQ:=kt (M6 PG 36 35 1)
abbrev ZU:=kt (M6 PG 43 48 6)
abbrev ZV:=kt (M6 PG 46 45 3)
abbrev D9:=kt (M6 PG 52 87 3)
abbrev CH:=kt (M6 PG 54 56 7)
abbrev IR:=kt (M6 PG 68 9 1)
theorem ZW:PG.underlying 33=some (.int .i64):=by kernel_rfl
theorem Ju:PG.underlying 9=some .string:=by kernel_rfl
theorem ABu:PG.underlying 4=some .bool:=by kernel_rfl
theorem AAj{ρ:Env}{a:World}{d:Option Nat}{ty:Nat}{pos:String}{af:Array Edge}{g:Option (Nat×Bool)}{xs:List Operand}{vs:List Value}{v:Value}{ts:Array Nat}(hv:xs.map (ev ρ)=vs)(hr:((Extern.MathFloor.toIntegral "math.archTrunc" .zero) vs.toArray).run PG a= .ok v a):
 (execOp (ev ρ) ⟨d,.call {callee:= .value (.func 135),args:=xs.toArray,argTypes:=ts},ty,pos,af,g⟩).run PG a= .ok (.value v) a:=Run.ext Tryz.func135 (by kernel_rfl) dcd (by kernel_rfl) (show Extern.find Tryz.f135=some (Extern.MathFloor.toIntegral "math.archTrunc" .zero) by kernel_rfl) hv hr
theorem O9{ρ:Env}{a:World}{d:Option Nat}{ty:Nat}{pos:String}{af:Array Edge}{g:Option (Nat×Bool)}{xs:List Operand}{vs:List Value}{v:Value}{ts:Array Nat}(hv:xs.map (ev ρ)=vs)(hr:(Extern.MathFloatBits.float64frombits vs.toArray).run PG a=.ok v a):
 (execOp (ev ρ) ⟨d,.call {callee:=.value (.func 63),args:=xs.toArray,argTypes:=ts},ty,pos,af,g⟩).run PG a=.ok (.value v) a:=Run.ext Tryz.func63 (by kernel_rfl) dcd (by kernel_rfl) (show Extern.find Tryz.f63=some Extern.MathFloatBits.float64frombits by kernel_rfl) hv hr
theorem PA{ρ:Env}{a:World}{d:Option Nat}{ty:Nat}{pos:String}{af:Array Edge}{g:Option (Nat×Bool)}{xs:List Operand}{vs:List Value}{v:Value}{ts:Array Nat}(hv:xs.map (ev ρ)=vs)(hr:(Extern.MathFloatBits.float64bits vs.toArray).run PG a=.ok v a):
 (execOp (ev ρ) ⟨d,.call {callee:=.value (.func 93),args:=xs.toArray,argTypes:=ts},ty,pos,af,g⟩).run PG a=.ok (.value v) a:=Run.ext Tryz.func93 (by kernel_rfl) dcd (by kernel_rfl) (show Extern.find Tryz.f93=some Extern.MathFloatBits.float64bits by kernel_rfl) hv hr
theorem AAk:(PG.info? 101).map (·.zero)=some (some (.agg #[.slice none 0 0,I 0,I 0,I 0])):=by kernel_rfl
theorem Pj:(PG.info? 106).map (·.zero)=some (some (.agg #[.string ⟨#[]⟩,.pointer none,.pointer none])):=by kernel_rfl
theorem Ee:(PG.info? 111).map (·.zero)=some (some (.agg #[I 0,I 0])):=by kernel_rfl
theorem AAl:(PG.info? 126).map (·.zero)=some (some (.agg #[.slice none 0 0,I 0,I 0,I 0,I 0,I 0,I 0,I 0,I 0])):=by kernel_rfl
theorem AAm:(PG.info? 134).map (·.zero)=some (some (.agg #[.map none,.slice none 0 0,.slice none 0 0,.nilFunc])):=by kernel_rfl
theorem Jg:(PG.info? 141).map (·.zero)=some (some (.agg #[.bool false,.bool false,I 0,.complex .f64 0 0,.bool false,.slice none 0 0,.pointer none,.pointer none,I 0,.string ⟨#[]⟩,.string ⟨#[]⟩,I 0,.complex .f64 0 0,.slice none 0 0,I 0,.pointer none])):=by kernel_rfl
theorem G9:(PG.info? 159).map (·.zero)=some (some (.agg #[I 0,.string ⟨#[]⟩,.complex .f64 0 0,I 0])):=by kernel_rfl
theorem AAn:(PG.info? 169).map (·.zero)=some (some .nilFunc):=by kernel_rfl
theorem SX:(PG.info? 184).map (·.zero)=some (some (.agg #[I 0,.string ⟨#[]⟩,.string ⟨#[]⟩,I 0,.complex .f64 0 0,.slice none 0 0,I 0,.bool false])):=by kernel_rfl
theorem ABv:(PG.info? 24).map (·.zero)=some (some (.agg #[.slice none 0 0,.string ⟨#[]⟩,.string ⟨#[]⟩])):=by kernel_rfl
theorem KR:(PG.info? 28).map (·.zero)=some (some (.agg #[.slice none 0 0])):=by kernel_rfl
theorem ACa:(PG.info? 3).map (·.zero)=some (some (I 0)):=by kernel_rfl
theorem Vj:(PG.info? 35).map (·.zero)=some (some (.complex .f64 0 0)):=by kernel_rfl
theorem CS:(PG.info? 38).map (·.zero)=some (some (.agg #[I 0,.complex .f64 0 0,.bool false,.slice none 0 0])):=by kernel_rfl
theorem Lp:(PG.info? 40).map (·.zero)=some (some (.agg #[I 0,I 0,.complex .f64 0 0,.bool false,.slice none 0 0,I 0,I 0,I 0,I 0])):=by kernel_rfl
theorem ZX:(PG.info? 5).map (·.zero)=some (some (.int .u8 0)):=by kernel_rfl
theorem De:(PG.info? 56).map (·.zero)=some (some (.agg #[I 0,.string ⟨#[]⟩,.string ⟨#[]⟩,I 0,.complex .f64 0 0,.slice none 0 0,I 0])):=by kernel_rfl
theorem KS:(PG.info? 58).map (·.zero)=some (some (.agg #[.string ⟨#[]⟩,.slice none 0 0,I 0,I 0,.string ⟨#[]⟩,.string ⟨#[]⟩,I 0,.complex .f64 0 0,.slice none 0 0,I 0,I 0])):=by kernel_rfl
theorem FM:(PG.info? 63).map (·.zero)=some (some (.agg #[I 0,I 0])):=by kernel_rfl
theorem ZY:(PG.info? 76).map (·.zero)=some (some (.agg #[I 0,I 0,I 0,I 0])):=by kernel_rfl
theorem ABw:(PG.info? 80).map (·.zero)=some (some (.pointer none)):=by kernel_rfl
theorem ABx:(PG.info? 81).map (·.zero)=some (some (.map none)):=by kernel_rfl
theorem ABy:(PG.info? 83).map (·.zero)=some (some (.agg #[.map none,.slice none 0 0,I 0,I 0])):=by kernel_rfl
theorem MG:(PG.info? 87).map (·.zero)=some (some (.agg #[.string ⟨#[]⟩,I 0,I 0])):=by kernel_rfl
theorem Pz:(PG.info? 9).map (·.zero)=some (some (.string ⟨#[]⟩)):=by kernel_rfl
theorem Q5:(PG.info? 93).map (·.zero)=some (some (.agg #[.string ⟨#[]⟩,.nilFunc,.pointer none])):=by kernel_rfl
theorem LC:(PG.info? 96).map (·.zero)=some (some (.agg #[I 0,.complex .f64 0 0,.bool false,.slice none 0 0,.nilFunc,.nilFunc])):=by kernel_rfl
theorem ABz:(PG.info? 5).map (·.zero)=some (some (.int .u8 0)):=by kernel_rfl
theorem Yd(e f:Value)(d:World):
  CallsD PG 32 [e,f].toArray .returning d fun g u' l=>(∃v,g=.returned v)∧u'=.returning∧l=d:=by
 refine Oy (rv:=.nilIface) (u1:=.returning) Tryz.func32 Z Tryz.ntmps32 Z (fun c cs h=>.inr ⟨UM c cs h,Z,Z⟩) fun c cs K hu hK m n=>LS.recover (v:=.nilIface) (cs':=m) Z (.none Z) Z Z RY n<|LS.val Z (.none Z) Z Z (UK ZW AAZ Z)<|LS.val Z (.none Z) Z Z (v:=.tuple #[I 0,.bool false]) (Mv Z)<|LS.val Z (.none Z) Z Z (v:=I 0) Z<|LS.val Z (.none Z) Z Z (v:=.bool false) Z<|LS.val Z (.none Z) Z Z (v:=I 0) (Run.assign Z)<|LS.val Z (.none Z) Z Z (v:=.bool false) (Run.assign Z)<|LS.nil fun a ha=>⟨Z,_,ha,hK _ _ ?_⟩
 refine Sr<|Vm<|AA<|WC.cond (t:=false) Z (fun h=>by cases h) fun h=>WC.skip<|⟨.tuple #[],fun tmps _=>by rw [MQ,show Tryz.f32.results=#[] from Z];simp,⟨_,Z⟩,Z,Z⟩
theorem RZ(d:Col)(e:World)(l f:Nat)(o p:Int)(q:(Nat×Nat))(r:Bool)(s:Value)(u w z aa:Int)(m:Nat)(ab ac:Value)(g ad y:Int)(ae:Bk d e 24 l [Pt m 0] 80)(af:Bk d e 21 f [I o,I p,Cx q,.bool r,s,I u,I w,I z,I aa] 40)(ag:Bk d e 23 m [ab,ac,I g,I ad] 83):
  CallsD PG 32 [Pt l 0,Pt f 0].toArray (.panicking [{v:=.iface 33 (I y),recovered:=false}]) e fun ah u' n=>(∃v,ah=.returned v)∧u'=.panicking [{v:=.iface 33 (I y),recovered:=true}]∧Bk d n 21 f [I y,I 0,Cx (((0,0):Nat×Nat)),.bool false,.slice none 0 0,I g,I 0,I 0,I 0] 40∧AS [21] d e d n:=by
 refine Oy (rv:=(.iface 33 (I y))) (u1:=.panicking [{v:=.iface 33 (I y),recovered:=true}]) Tryz.func32 Z Tryz.ntmps32 Z (fun c cs h=>.inl (VW c cs h)) fun c cs K hu hK ai aj=>LS.recover (v:=(.iface 33 (I y))) (cs':=ai) Z (.none Z) Z Z RY aj<|LS.val Z (.none Z) Z Z (UL ZW Z)<|LS.val Z (.none Z) Z Z (v:=.tuple #[I y,.bool true]) (Mv Z)<|LS.val Z (.none Z) Z Z (v:=I y) Z<|LS.val Z (.none Z) Z Z (v:=.bool true) Z<|LS.val Z (.none Z) Z Z (v:=I y) (Run.assign Z)<|LS.val Z (.none Z) Z Z (v:=.bool true) (Run.assign Z)<|LS.nil fun a ha=>⟨Z,_,ha,hK _ _ ?_⟩
 refine Sr<|Vm<|AA<|WC.cond (t:=true) Z (fun h=>?_) (fun h=>by cases h)
 refine AL<|Vm<|Vx (Ld Q2 Z (Bc ae Z))<|Vx (Nc Z)<|Vx (Fd O4 Z)<|Vx (Ld BC Z (Bc ag Z))<|Vx (v:=Ag [I y,I 0,Cx (((0,0):Nat×Nat)),.bool false,.slice none 0 0,I g,I 0,I 0,I 0]) (Bp Lp NG Z (.cons Z Z Z (.cons Z Z Z .nil)))<|Eu<|St MU af Z Z Z Z fun am ak al=>AA<|⟨.tuple #[],fun tmps _=>by rw [MQ,show Tryz.f32.results=#[] from Z];simp,⟨_,Z⟩,Z,ak,(Mo [21] al)⟩
def KN.At(h:Col)(a:World)(f:Option Ai):Prop:=
 ∀{c},f=some c→
  Calls PG 27 #[] a fun l d=>∃e g,l=.returned (Ag g)∧AS [] h a e d∧N3.rep e.F d g c
def KN.Spec(f:Option Ai):Prop:=
 ∀a c,KN.At a c f
theorem S7(a:Col)(d:World)(e:∀b,a b<10):KN.At a d KN:=by
 intro o c
 rw [KN] at c
 refine Ay Tryz.func27 Z Tryz.ntmps27 Z fun B f p=>Sr<|Ef<|AY a 20 ZY Z fun g q r h l=>AA<|Sr<|Vx (v:=Ag [I 32768,I 32768,I 32768,I 32768]) (Bp ZY ABs Z (.cons Z Z Z (.cons Z Z Z (.cons Z Z Z (.cons Z Z Z .nil)))))<|Eu<|St ABn h Z Z Z Z fun s m n=>AA<|AQ ?_
 obtain rfl:=AK c
 refine O1 B f Z (.agg Y8 Z Z (Bw m))<|⟨g,[I 32768,I 32768,I 32768,I 32768],Z,Ho (Tn (Mo [20] l) n) e,(FR (x:=(Ai.mk 32768 32768 32768 32768)))⟩
theorem Li:KN.Spec KN:=lk0 (S7)
def Hl.At(e:Col)(a:World)(f:UInt8→Option Bool):Prop:=
 ∀{c d},f c=some d→
  Calls PG 71 #[U8 c] a fun g h=>∃l,g=.returned (.bool d)∧AS [] e a l h
def Hl.Spec(f:UInt8→Option Bool):Prop:=
 ∀a c,Hl.At a c f
theorem Rk(c:Col)(m:World)(p:∀b,c b<10):Hl.At c m Hl:=by
 intro g q a
 rw [Hl] at a
 refine Ay Tryz.func71 Z Tryz.ntmps71 Z fun B r w=>Sr<|Va (.bool false)<|AA<|Am (fun s n=>∃o h l,s=Env.puts o [(2,.bool l)]∧Ir l=some q∧AS [] c m h n) ?_ ?_
 refine AL<|Vm<|Vr (.bool ((g.toNat:Int)==((9:UInt8).toNat:Int)))<|Vm<|Bo a (fun d a=>?_) fun d a=>?_
 refine Pg d<|Pg d<|Vp d<|Vm<|Pg Z<|Pg Z<|Vr (.bool true)<|Vm<|Pg Z<|Pg Z<|Vr (.bool true)<|Va (.bool true)<|AA<|⟨_,c,true,Pu,a,Rf⟩
 refine Gm d<|Gr d (.bool ((g.toNat:Int)==((10:UInt8).toNat:Int)))<|Vp d<|Vm<|Bo a (fun e a=>?_) fun e a=>?_
 refine Pg e<|Pg e<|Vp e<|Vm<|Pg Z<|Pg Z<|Vr (.bool true)<|Va (.bool true)<|AA<|⟨_,c,true,Pu,a,Rf⟩
 refine Gm e<|Gr e (.bool ((g.toNat:Int)==((13:UInt8).toNat:Int)))<|Vp e<|Vm<|Bo a (fun f a=>?_) fun f a=>?_
 refine Pg f<|Pg f<|Vp f<|Va (.bool true)<|AA<|⟨_,c,true,Pu,a,Rf⟩
 refine Gm f<|Gr f (.bool ((g.toNat:Int)==((32:UInt8).toNat:Int)))<|Vp f<|Va (.bool ((g.toNat:Int)==((32:UInt8).toNat:Int)))<|AA<|⟨_,c,((g.toNat:Int)==((32:UInt8).toNat:Int)),Pu,a,Rf⟩
 rintro _ n ⟨o,h,l,rfl,a,u⟩
 rw [Ir] at a
 refine AQ ?_
 obtain rfl:=AK a
 refine O1 B r Z (.tmp Z)<|⟨h,Z,Ho (Mo [] u) p⟩
theorem S8:Hl.Spec Hl:=lk0 (Rk)
def Gk.At(e:Col)(a:World)(f:UInt8→Option Bool):Prop:=
 ∀{c d},f c=some d→
  Calls PG 128 #[U8 c] a fun g h=>∃l,g=.returned (.bool d)∧AS [] e a l h
def Gk.Spec(f:UInt8→Option Bool):Prop:=
 ∀a c,Gk.At a c f
theorem Q6(e:Col)(n:World)(q:∀b,e b<10):Gk.At e n Gk:=by
 intro d r a
 rw [Gk] at a
 refine Ay Tryz.func128 Z Tryz.ntmps128 Z fun B s y=>Sr<|Va (.bool false)<|AA<|Am (fun u o=>∃p l m,u=Env.puts p [(2,.bool m)]∧HC m=some r∧AS [] e n l o) ?_ ?_
 refine AL<|Vm<|Vr (.bool (decide ((d.toNat:Int)≥((65:UInt8).toNat:Int))))<|Vm<|Bo a (fun f a=>?_) fun f a=>?_
 refine Gm f<|Gr f (.bool (decide ((d.toNat:Int)≤((90:UInt8).toNat:Int))))<|Vp f<|Vm<|Bo a (fun c a=>?_) fun c a=>?_
 refine Pg c<|Pg c<|Pg c<|Po<|Po<|Pg c<|Vp c<|Va (.bool true)<|AA<|⟨_,e,true,Pu,a,Rf⟩
 refine Gm c<|Gr c (.bool (decide ((d.toNat:Int)≥((97:UInt8).toNat:Int))))<|Gm c<|Bo a (fun g a=>?_) fun g a=>?_
 refine Gm g<|Gr g (.bool (decide ((d.toNat:Int)≤((122:UInt8).toNat:Int))))<|Gp c g<|Vp c<|Va (.bool (decide ((d.toNat:Int)≤((122:UInt8).toNat:Int))))<|AA<|⟨_,e,(decide ((d.toNat:Int)≤((122:UInt8).toNat:Int))),Pu,a,Rf⟩
 refine Pg g<|Pg g<|Gp c g<|Vp c<|Va (.bool false)<|AA<|⟨_,e,false,Pu,a,Rf⟩
 refine Pg f<|Pg f<|Vp f<|Vm<|Gm Z<|Gr Z (.bool (decide ((d.toNat:Int)≥((97:UInt8).toNat:Int))))<|Gm Z<|Bo a (fun h a=>?_) fun h a=>?_
 refine Gm h<|Gr h (.bool (decide ((d.toNat:Int)≤((122:UInt8).toNat:Int))))<|Gp Z h<|Vr (.bool (decide ((d.toNat:Int)≤((122:UInt8).toNat:Int))))<|Va (.bool (decide ((d.toNat:Int)≤((122:UInt8).toNat:Int))))<|AA<|⟨_,e,(decide ((d.toNat:Int)≤((122:UInt8).toNat:Int))),Pu,a,Rf⟩
 refine Pg h<|Pg h<|Gp Z h<|Vr (.bool false)<|Va (.bool false)<|AA<|⟨_,e,false,Pu,a,Rf⟩
 rintro _ o ⟨p,l,m,rfl,a,w⟩
 rw [HC] at a
 refine AQ ?_
 obtain rfl:=AK a
 refine O1 B s Z (.tmp Z)<|⟨l,Z,Ho (Mo [] w) q⟩
theorem Rl:Gk.Spec Gk:=lk0 (Q6)
def HD.At(e:Col)(a:World)(f:UInt8→Option Bool):Prop:=
 ∀{c d},f c=some d→
  Calls PG 98 #[U8 c] a fun g h=>∃l,g=.returned (.bool d)∧AS [] e a l h
def HD.Spec(f:UInt8→Option Bool):Prop:=
 ∀a c,HD.At a c f
theorem Rm(d:Col)(h:World)(n:∀b,d b<10):HD.At d h HD:=by
 intro e o a
 rw [HD] at a
 refine Ay Tryz.func98 Z Tryz.ntmps98 Z fun B p s=>Sr<|Va (.bool false)<|AA<|Am (fun q l=>∃m f g,q=Env.puts m [(2,.bool g)]∧Ks g=some o∧AS [] d h f l) ?_ ?_
 refine AL<|Vm<|Vr (.bool (decide ((e.toNat:Int)≥((48:UInt8).toNat:Int))))<|Vm<|Bo a (fun c a=>?_) fun c a=>?_
 refine Gm c<|Gr c (.bool (decide ((e.toNat:Int)≤((57:UInt8).toNat:Int))))<|Vp c<|Va (.bool (decide ((e.toNat:Int)≤((57:UInt8).toNat:Int))))<|AA<|⟨_,d,(decide ((e.toNat:Int)≤((57:UInt8).toNat:Int))),Pu,a,Rf⟩
 refine Pg c<|Pg c<|Vp c<|Va (.bool false)<|AA<|⟨_,d,false,Pu,a,Rf⟩
 rintro _ l ⟨m,f,g,rfl,a,r⟩
 rw [Ks] at a
 refine AQ ?_
 obtain rfl:=AK a
 refine O1 B p Z (.tmp Z)<|⟨f,Z,Ho (Mo [] r) n⟩
theorem PB:HD.Spec HD:=lk0 (Rm)
def Io.At(c:Col)(a:World)(f:Bts→Int→Option Int):Prop:=
 ∀{d v0 e g},f d e=some g→Slc Kd.u8 c.F a v0 d→
  Calls PG 97 #[v0,I e] a fun h l=>∃m,h=.returned (I g)∧AS [] c a m l
def Io.Spec(f:Bts→Int→Option Int):Prop:=
 ∀a c,Io.At a c f
theorem UN(ag:Nat)(q:Col)(ah:World)(av:∀b,q b<10):Io.At q ah (Io ag):=by
 intro h v0 g y a ai
 rw [Io] at a
 obtain ⟨aj,ak,rfl⟩:=AT ai
 refine Ay Tryz.func97 Z Tryz.ntmps97 Z fun B aw a8=>Sr<|Va (I 0)<|AA<|Sr<|Va (I 0)<|AA<|AR<|Af<|Bg (fun l z n=>∃o m f,z=Env.puts o [(0,Sl aj h ak),(1,I g),(5,I f)]∧E3 h g l f=some y∧AS [] q ah m n) ag ?_ ?_
 exact ⟨_,q,0,Pu,a,Rf⟩
 rintro l _ n ⟨o,m,f,rfl,a,aa⟩
 rcases l with _|l
 exact A5 a
 refine have a:Gh h g (E3 h g l) f=some y:=a; ?_
 obtain ⟨ax,al⟩:∃s,s=E3 h g l:=⟨_,rfl⟩
 rw [←al,Gh] at a
 refine AR<|Am (fun z am=>∃o r ab,z=Env.puts o [(0,Sl aj h ak),(1,I g),(5,I f),(38,.bool ab)]∧Gl f ax ab=some y∧AS [] m n r am) ?_ ?_
 refine AL<|Vm<|Vm<|Vr (I (Wr (g+f)))<|Vm<|have an:=Ss Kd.u8 ai aa; ?_
 obtain ⟨a9,ba,ay⟩:=AT an
 refine Vx (v:=I (h.length:Int)) (Ll H8 ay)<|Vr (.bool (decide ((Wr (g+f))< (h.length:Int))))<|Vm<|Bo a (fun c a=>?_) fun c a=>?_
 refine Gm c<|Gm c<|Gm c<|Gr c (I (Wr (g+f)))<|Bi a fun p az a=>?_
 obtain ⟨a0,a1,bb,ao,ac,ad,ae,a2,u⟩:=A8 (κ:=Kd.u8) an az
 replace u:Ax m n a0 (a1+((Wr (g+f))).toNat*1) ao:=u
 obtain rfl:=(show ao=[U8 p] from a2)
 refine Gx c (Ix H8 ac Z ad ae)<|Gx c (Ld NF Z (Ax.cell0 u Z))<|Bi a fun bc a3 a=>CT (.guard (t:=true) (b:=true) Z Z Z Z (Cb c)) Z Z (Cg [U8 p] Z)<|Calls.mono (Rl m n a3) ?_
 rintro _ a4 ⟨ap,rfl,w⟩
 refine ⟨_,Z,?_⟩
 refine Gm c<|Bo a (fun d a=>?_) fun d a=>?_
 refine Pg d<|Pg d<|Pg d<|Pg d<|Pg d<|Pg d<|Pg d<|Gp c d<|Gm c<|Pg Z<|Pg Z<|Pg Z<|Pg Z<|Pg Z<|Pg Z<|Pg Z<|Gr c (.bool true)<|Vp c<|AA<|⟨_,ap,true,Pu,a,(Mo [] w)⟩
 refine Gm d<|Gm d<|Gm d<|Gr d (I (Wr (g+f)))<|Gx d (Ix H8 ac Z ad ae)<|have aq:=Es u w;Gx d (Ld NF Z (Ax.cell0 aq Z))<|Bi a fun bd a5 a=>CT (.guard (t:=false) (b:=false) Z Z Z Z (Cb d)) Z Z (Cg [U8 p] Z)<|Calls.mono (PB ap a4 a5) ?_
 rintro _ be ⟨ar,rfl,af⟩
 refine ⟨_,Z,?_⟩
 refine Gp c d<|Gm c<|Bo a (fun e a=>?_) fun e a=>?_
 refine Pg e<|Pg e<|Pg e<|Pg e<|Pg e<|Pg e<|Pg e<|Gp c e<|Vp c<|AA<|⟨_,ar,true,Pu,a,(Tn (Mo [] w) af)⟩
 refine Gm e<|Gm e<|Gm e<|Gr e (I (Wr (g+f)))<|Gx e (Ix H8 ac Z ad ae)<|have a6:=Es aq af;Gx e (Ld NF Z (Ax.cell0 a6 Z))<|Gr e (.bool ((p.toNat:Int)==((95:UInt8).toNat:Int)))<|Gp c e<|Vp c<|AA<|⟨_,ar,((p.toNat:Int)==((95:UInt8).toNat:Int)),Pu,a,(Tn (Mo [] w) af)⟩
 refine Pg c<|Pg c<|Pg c<|Pg c<|Pg c<|Pg c<|Pg c<|Pg c<|Po<|Po<|Po<|Po<|Po<|Po<|Po<|Pg c<|Pg c<|Po<|Po<|Po<|Po<|Po<|Po<|Po<|Pg c<|Vp c<|AA<|⟨_,m,false,Pu,a,Rf⟩
 rintro _ am ⟨o,r,ab,rfl,a,au⟩
 rw [Gl] at a
 refine Cn a (fun a7 a=>?_) fun a7 a=>?_
 refine WC.skip<|Af<|AL<|Vm<|Vr (I (Wr (f+1)))<|Va (I (Wr (f+1)))<|AA<|⟨l,Nat.lt_succ_self l,_,r,(Wr (f+1)),Pu,(al▸a),(Tn (Mo [] aa) au)⟩
 refine Ba<|Sr<|Vm<|Va (I f)<|AA<|AQ ?_
 obtain rfl:=AK a
 refine O1 B aw Z (.tmp Z)<|⟨r,Z,Ho (Tn (Mo [] aa) au) av⟩
theorem Vk(c:Nat):Io.Spec (Io c):=lk0 (UN c)
def FC.At(e:Col)(c:World)(f:Bts→Option (Int×Int)):Prop:=
 ∀{d a},f d=some a→
  Calls PG 107 #[Sb d] c fun g h=>∃l,g=.returned (.tuple #[I a.1,I a.2])∧AS [] e c l h
def FC.Spec(f:Bts→Option (Int×Int)):Prop:=
 ∀a c,FC.At a c f
theorem Ro(y:Nat)(r:Col)(ac:World)(an:∀b,r b<10):FC.At r ac (FC y):=by
 intro d u a
 rw [FC] at a
 refine Ay Tryz.func107 Z Tryz.ntmps107 Z fun B ao a7=>Sr<|Va (I 0)<|Va (I 0)<|AA<|Sr<|Va (I 0)<|AA<|Am (fun n ad=>∃e z f,n=Env.puts e [(0,Sb d),(4,I f)]∧Is y d f=some u∧AS [] r ac z ad) ?_ ?_
 refine Am (fun n ap=>∃e aa ae,n=Env.puts e [(0,Sb d),(4,I 0),(14,.bool ae)]∧Hm y d ae=some u∧AS [] r ac aa ap) ?_ ?_
 refine AL<|Vm<|Vx (v:=I (d.length:Int)) (Run.lenStr Ju Z)<|Vr (.bool (decide ((d.length:Int)>0)))<|Vm<|Bo a (fun o a=>?_) fun o a=>?_
 refine Gm o<|Bi a fun af ax a=>Gx o (v:=U8 af) (Run.indexBs Ju Z Z ax)<|Gr o (.bool ((af.toNat:Int)==((45:UInt8).toNat:Int)))<|Vp o<|AA<|⟨_,r,((af.toNat:Int)==((45:UInt8).toNat:Int)),Pu,a,Rf⟩
 refine Pg o<|Pg o<|Pg o<|Vp o<|AA<|⟨_,r,false,Pu,a,Rf⟩
 rintro _ ap ⟨e,aa,ae,rfl,a,aq⟩
 rw [Hm] at a
 refine Cn a (fun ay a=>?_) fun ay a=>?_
 refine AL<|Va (I 1)<|AA<|⟨_,aa,1,Pu,a,(Mo [] aq)⟩
 refine WC.skip<|⟨_,aa,0,Pu,a,(Mo [] aq)⟩
 rintro _ ad ⟨e,z,f,rfl,a,ar⟩
 rw [Is] at a
 refine Sr<|Va (I 0)<|AA<|Sr<|Vm<|Va (I f)<|AA<|AR<|Af<|Bg (fun p n ag=>∃e w c g,n=Env.puts e [(0,Sb d),(4,I f),(5,I c),(6,I g)]∧Eg d f p c g=some u∧AS [] z ad w ag) y ?_ ?_
 exact ⟨_,z,0,f,Pu,a,Rf⟩
 rintro p _ ag ⟨e,w,c,g,rfl,a,ah⟩
 rcases p with _|p
 exact A5 a
 refine have a:FS d f (Eg d f p) c g=some u:=a; ?_
 obtain ⟨az,au⟩:∃s,s=Eg d f p:=⟨_,rfl⟩
 rw [←au,FS] at a
 refine AR<|Am (fun n ai=>∃e q aj,n=Env.puts e [(0,Sb d),(4,I f),(5,I c),(6,I g),(31,.bool aj)]∧FB d f c g az aj=some u∧AS [] w ag q ai) ?_ ?_
 refine AL<|Vm<|Vm<|Vx (v:=I (d.length:Int)) (Run.lenStr Ju Z)<|Vr (.bool (decide (g< (d.length:Int))))<|Vm<|Bo a (fun h a=>?_) fun h a=>?_
 refine Gm h<|Gm h<|Bi a fun av a0 a=>Gx h (v:=U8 av) (Run.indexBs Ju Z Z a0)<|Gr h (.bool (decide ((av.toNat:Int)≥((48:UInt8).toNat:Int))))<|Vp h<|Vm<|Bo a (fun l a=>?_) fun l a=>?_
 refine Gm l<|Gm l<|Bi a fun ak a1 a=>Gx l (v:=U8 ak) (Run.indexBs Ju Z Z a1)<|Gr l (.bool (decide ((ak.toNat:Int)≤((57:UInt8).toNat:Int))))<|Vp l<|AA<|⟨_,w,(decide ((ak.toNat:Int)≤((57:UInt8).toNat:Int))),Pu,a,Rf⟩
 refine Pg l<|Pg l<|Pg l<|Pg l<|Vp l<|AA<|⟨_,w,false,Pu,a,Rf⟩
 refine Pg h<|Pg h<|Pg h<|Pg h<|Vp h<|Vm<|Pg Z<|Pg Z<|Pg Z<|Pg Z<|Vr (.bool false)<|AA<|⟨_,w,false,Pu,a,Rf⟩
 rintro _ ai ⟨e,q,aj,rfl,a,al⟩
 rw [FB] at a
 refine Cn a (fun a2 a=>?_) fun a2 a=>?_
 refine WC.skip<|Af<|Sr<|Vm<|Vr (I (Wr (10*c)))<|Vm<|Vm<|Bi a fun m a3 a=>Vx (v:=U8 m) (Run.indexBs Ju Z Z a3)<|Vx (v:=.int .u8 (((u8c ((m.toNat:Int) - ((48:UInt8).toNat:Int)))).toNat:Int)) (ABT Z)<|Vr (I (Wr (((u8c ((m.toNat:Int) - ((48:UInt8).toNat:Int)))).toNat:Int)))<|Vr (I (Wr ((Wr (10*c))+(Wr (((u8c ((m.toNat:Int) - ((48:UInt8).toNat:Int)))).toNat:Int)))))<|Vx (v:=I (if 16777217< (Wr ((Wr (10*c))+(Wr (((u8c ((m.toNat:Int) - ((48:UInt8).toNat:Int)))).toNat:Int)))) then 16777217 else (Wr ((Wr (10*c))+(Wr (((u8c ((m.toNat:Int) - ((48:UInt8).toNat:Int)))).toNat:Int)))))) (Run.min Z Z)<|Va (I (if 16777217< (Wr ((Wr (10*c))+(Wr (((u8c ((m.toNat:Int) - ((48:UInt8).toNat:Int)))).toNat:Int)))) then 16777217 else (Wr ((Wr (10*c))+(Wr (((u8c ((m.toNat:Int) - ((48:UInt8).toNat:Int)))).toNat:Int))))))<|AA<|AL<|Vm<|Vr (I (Wr (g+1)))<|Va (I (Wr (g+1)))<|AA<|⟨p,Nat.lt_succ_self p,_,q,(if 16777217< (Wr ((Wr (10*c))+(Wr (((u8c ((m.toNat:Int) - ((48:UInt8).toNat:Int)))).toNat:Int)))) then 16777217 else (Wr ((Wr (10*c))+(Wr (((u8c ((m.toNat:Int) - ((48:UInt8).toNat:Int)))).toNat:Int))))),(Wr (g+1)),Pu,(au▸a),(Tn (Mo [] ah) al)⟩
 refine Ba<|AR<|Sr<|Vm<|Vm<|Vr (.bool (g==f))<|AA<|Cn a (fun a4 a=>?_) fun a4 a=>?_
 refine Sr<|Va (I 0)<|Va (I 0)<|AA<|AQ ?_
 obtain rfl:=AK a
 refine O2 B ao Z (.tmp Z) (.tmp Z)<|⟨q,Z,Ho (T2 (Mo [] ar) ah al) an⟩
 refine WC.skip<|Am (fun n aw=>∃e am ab,n=Env.puts e [(5,I ab),(6,I g)]∧Lw g ab=some u∧AS [] q ai am aw) ?_ ?_
 refine Sr<|Vm<|Vr (.bool (f==1))<|AA<|Cn a (fun a5 a=>?_) fun a5 a=>?_
 refine AL<|Vm<|Vr (I (Wr (0 - c)))<|Va (I (Wr (0 - c)))<|AA<|⟨_,q,(Wr (0 - c)),Pu,a,Rf⟩
 refine WC.skip<|⟨_,q,c,Pu,a,Rf⟩
 rintro _ aw ⟨e,am,ab,rfl,a,a6⟩
 rw [Lw] at a
 refine Sr<|Vm<|Vm<|Va (I ab)<|Va (I g)<|AA<|AQ ?_
 obtain rfl:=AK a
 refine O2 B ao Z (.tmp Z) (.tmp Z)<|⟨am,Z,Ho (T3 (Mo [] ar) ah al a6) an⟩
theorem PC(c:Nat):FC.Spec (FC c):=lk0 (Ro c)
def Hn.At(d:Col)(a:World)(f:Ad→Option (Ad×Int)):Prop:=
 ∀{e g c},f e=some c→Bh.rep d.F a g e→
  Calls PG 108 #[Ag g] a fun n h=>∃l m,n=.returned (.tuple #[Ag m,I c.2])∧AS [] d a l h∧Bh.rep l.F h m c.1
def Hn.Spec(f:Ad→Option (Ad×Int)):Prop:=
 ∀a c,Hn.At a c f
theorem Vl(o:Col)(aa:World)(q:∀b,o b<10):Hn.At o aa Hn:=by
 intro c aq ab a ac
 rw [Hn] at a
 obtain rfl:=A6 ac
 refine Ay Tryz.func108 Z Tryz.ntmps108 Z fun B r ar=>Sr<|Ef<|A0 o 20 Z Z fun ad au ae s u=>Ef<|AY ad 21 Ee Z fun g af ag w l=>Va (I 0)<|AA<|AR<|Am (fun ah y=>∃z m p,ah=Env.puts z [(1,Pt ae 0),(2,Pt ag 0),(21,.bool p)]∧KI c p=some ab∧AS [] g af m y) ?_ ?_
 refine AL<|Vx (Fz DS Z)<|have n:=Bs s l;Vx (Ld BC Z (Bc n Z))<|Vr (.bool (decide (c.re< (-16777216:Int))))<|Vm<|Bo a (fun d a=>?_) fun d a=>?_
 refine Pg d<|Pg d<|Pg d<|Vp d<|Vm<|Pg Z<|Pg Z<|Pg Z<|Vr (.bool true)<|Vm<|Pg Z<|Pg Z<|Pg Z<|Vr (.bool true)<|AA<|⟨_,g,true,Pu,a,Rf⟩
 refine Gx d (Fz DS Z)<|Gx d (Ld BC Z (Bc n Z))<|Gr d (.bool (decide (c.re>16777216)))<|Vp d<|Vm<|Bo a (fun e a=>?_) fun e a=>?_
 refine Pg e<|Pg e<|Pg e<|Vp e<|Vm<|Pg Z<|Pg Z<|Pg Z<|Vr (.bool true)<|AA<|⟨_,g,true,Pu,a,Rf⟩
 refine Gx e (Fd DT Z)<|Gx e (Ld BC Z (Bc n Z))<|Gr e (.bool (decide (c.im< (-16777216:Int))))<|Vp e<|Vm<|Bo a (fun f a=>?_) fun f a=>?_
 refine Pg f<|Pg f<|Pg f<|Vp f<|AA<|⟨_,g,true,Pu,a,Rf⟩
 refine Gx f (Fd DT Z)<|Gx f (Ld BC Z (Bc n Z))<|Gr f (.bool (decide (c.im>16777216)))<|Vp f<|AA<|⟨_,g,(decide (c.im>16777216)),Pu,a,Rf⟩
 rintro _ y ⟨z,m,p,rfl,a,h⟩
 rw [KI] at a
 refine Cn a (fun ai a=>?_) fun ai a=>?_
 refine Sr<|Vx (v:=Ag [I 0,I 0]) (Bp Ee KQ Z .nil)<|have aj:=Bs w h;Eu<|St HM aj Z Z Z Z fun av ak al=>Va (I 50)<|AA<|AQ ?_
 obtain rfl:=AK a
 refine O2 B r Z (.agg D7 Z Z (Bw ak)) (.tmp Z)<|⟨m,[I 0,I 0],Z,Ho (T3 (Mo [21] u) l h al) q,(BF (x:=(Ad.mk 0 0)))⟩
 refine WC.skip<|Sr<|have am:=Y2 s l h;Vx (Lx D7 Z Z (Bw am))<|have an:=Bs w h;Eu<|St HM an Z Z Z Z fun aw ao ap=>Va (I 0)<|AA<|AQ ?_
 obtain rfl:=AK a
 refine O2 B r Z (.agg D7 Z Z (Bw ao)) (.tmp Z)<|⟨m,[I c.re,I c.im],Z,Ho (T3 (Mo [21] u) l h ap) q,(BF (x:=c))⟩
theorem Mk:Hn.Spec Hn:=lk0 (Vl)
def ref01_digits.At(e:Col)(a:World)(f:Int→Option Bts):Prop:=
 ∀{c d},f c=some d→
  Calls PG 134 #[I c] a fun g h=>∃l,g=.returned (Sb d)∧AS [] e a l h
def ref01_digits.Spec(f:Int→Option Bts):Prop:=
 ∀a c,ref01_digits.At a c f
structure BH.Good(a:BH):Prop where
 ref01_digits:ref01_digits.Spec a.ref01_digits
theorem Q7(m:BH)(w:Nat)(n:BH.Good m)(d:Col)(o:World)(p:∀b,d b<10):ref01_digits.At d o (DW m w):=by
 intro c y a
 rw [DW] at a
 refine Ay Tryz.func134 Z Tryz.ntmps134 Z fun B q aw=>Sr<|Va (Sb ([]:Bts))<|AA<|AR<|Sr<|Vm<|Vr (.bool (decide (c<0)))<|AA<|Cn a (fun z a=>?_) fun z a=>?_
 refine Sr<|Vm<|Vr (I (Wr (0 - c)))<|Bi a fun ax aa a=>Ca (Cg [I (Wr (0 - c))] Z) (n.ref01_digits d o aa) ?_
 rintro _ ay ⟨ab,rfl,ac⟩
 refine Bi a fun r ad a=>Vx (v:=Sb r) (Run.strAdd Z Z ad)<|Va (Sb r)<|AA<|AQ ?_
 obtain rfl:=AK a
 refine O1 B q Z (.tmp Z)<|⟨ab,Z,Ho (Mo [] ac) p⟩
 refine WC.skip<|Sr<|Vm<|Bi a fun az ae a=>Vx (v:=I (c.tmod 10)) (Run.rem Z Z (Pb ae))<|Vr (I (Wr (48+(c.tmod 10))))<|Vx (v:=.int .u8 (((u8c (Wr (48+(c.tmod 10))))).toNat:Int)) (ABT Z)<|Ef<|Ch (cs:=[.int .u8 (((u8c (Wr (48+(c.tmod 10))))).toNat:Int)]) d 20 [[.int .u8 (((u8c (Wr (48+(c.tmod 10))))).toNat:Int)]] H8 ZX Z Z (.cons Z Z Z .nil) Z fun af f ag ah ai=>have aj:Own Kd.u8 5 af f 20 (.slice (some ⟨ag,0,none⟩) 1 1) ([(u8c (Wr (48+(c.tmod 10))))]:Bts):=Own.lit (css:=[[.int .u8 (((u8c (Wr (48+(c.tmod 10))))).toNat:Int)]]) ah Z Z Z (Aa Z BA) (A4 Z D3) Z; ?_
 obtain ⟨g,ak,al⟩:=Own.freeze (S:=[20]) aj dcd dcd
 refine Vx (v:=Sb ([(u8c (Wr (48+(c.tmod 10))))]:Bts)) (Run.bytesStr Pd Z al)<|Va (Sb ([(u8c (Wr (48+(c.tmod 10))))]:Bts))<|AA<|Am (fun am s=>∃u h e,am=Env.puts u [(3,Sb e)]∧Lm e=some y∧AS [] g f h s) ?_ ?_
 refine Sr<|Vm<|Vr (.bool (decide (c≥10)))<|AA<|Cn a (fun an a=>?_) fun an a=>?_
 refine AL<|Vm<|Bi a fun a0 ao a=>Vx (v:=I (Wr (c.tdiv 10))) (Run.quo Z Z (Pb ao))<|Bi a fun a1 ap a=>Ca (Cg [I (Wr (c.tdiv 10))] Z) (n.ref01_digits g f ap) ?_
 rintro _ a2 ⟨aq,rfl,ar⟩
 refine Vm<|Bi a fun l au a=>Vx (v:=Sb l) (Run.strAdd Z Z au)<|Va (Sb l)<|AA<|⟨_,aq,l,Pu,a,(Mo [] ar)⟩
 refine WC.skip<|⟨_,g,([(u8c (Wr (48+(c.tmod 10))))]:Bts),Pu,a,Rf⟩
 rintro _ s ⟨u,h,e,rfl,a,av⟩
 rw [Lm] at a
 refine Sr<|Vm<|Va (Sb e)<|AA<|AQ ?_
 obtain rfl:=AK a
 refine O1 B q Z (.tmp Z)<|⟨h,Z,Ho (T2 (Mo [20] ai) ak av) p⟩
theorem Q8(a:BH)(d:Nat)(f:BH.Good a):ref01_digits.Spec (DW a d):=lk0 (Q7 a d f)
theorem BH.good:∀a,BH.Good (BH.at a)
 |0=>⟨by intro c d;intros;(try intro _);intros;exact A5 (by assumption)⟩
 |n+1=>⟨Q8 _ n (BH.good n)⟩
theorem JV(a:Nat):ref01_digits.Spec (ref01_digits a):=(BH.good a).ref01_digits
def GG.At(c:Col)(a:World)(f:Ad→Option Bts):Prop:=
 ∀{d e g},f d=some g→Bh.rep c.F a e d→
  Calls PG 109 #[Ag e] a fun h l=>∃m,h=.returned (Sb g)∧AS [] c a m l
def GG.Spec(f:Ad→Option Bts):Prop:=
 ∀a c,GG.At a c f
theorem S9(f:Nat)(o:Col)(ae:World)(l:∀b,o b<10):GG.At o ae (GG f):=by
 intro e bd be a af
 rw [GG] at a
 obtain rfl:=A6 af
 refine Ay Tryz.func109 Z Tryz.ntmps109 Z fun B m d=>Sr<|Ef<|A0 o 20 Z Z fun h r bf g n=>Va (Sb ([]:Bts))<|AA<|AR<|Af<|Sr<|Vx (Fd DT Z)<|Vx (Ld BC Z (Bc g Z))<|Vr (.bool (e.im==0))<|Va (.bool (e.im==0))<|AA<|Cn a (fun ag a=>?_) fun ag a=>?_
 refine Sr<|Vx (Fz DS Z)<|Vx (Ld BC Z (Bc g Z))<|Bi a fun ah ai a=>Ca (Cg [I e.re] Z) (JV f h r ai) ?_
 rintro _ bg ⟨aj,rfl,ak⟩
 refine Va (Sb ah)<|AA<|AQ ?_
 obtain rfl:=AK a
 refine O1 B m Z (.tmp Z)<|⟨aj,Z,Ho (Tn (Mo [] n) ak) l⟩
 refine Sr<|Vx (Fz DS Z)<|Vx (Ld BC Z (Bc g Z))<|Vr (.bool (e.re==0))<|Va (.bool (e.re==0))<|AA<|Cn a (fun al a=>?_) fun al a=>?_
 refine Sr<|Vx (Fd DT Z)<|Vx (Ld BC Z (Bc g Z))<|Bi a fun bh am a=>Ca (Cg [I e.im] Z) (JV f h r am) ?_
 rintro _ bi ⟨an,rfl,ao⟩
 refine Bi a fun s ap a=>Vx (v:=Sb s) (Run.strAdd Z Z ap)<|Va (Sb s)<|AA<|AQ ?_
 obtain rfl:=AK a
 refine O1 B m Z (.tmp Z)<|⟨an,Z,Ho (Tn (Mo [] n) ao) l⟩
 refine Sr<|Vx (Fd DT Z)<|Vx (Ld BC Z (Bc g Z))<|Vr (.bool (decide (e.im>0)))<|Va (.bool (decide (e.im>0)))<|AA<|Cn a (fun aq a=>?_) fun aq a=>?_
 refine AR<|BW Cv (.q 0 (.q 1 (.q 4 (.q 5 (.one 2 (.q 3 (.one 6 (qs 7 3 .nil)))))))) [] [] h (by kernel_rfl) fun ar u=>Qx d Z (fun _ _=>Fz DS Z)<|have w:=Bs g u;Qx d Z (fun _ ⟨_,c⟩=>Ld BC Z (Bc (Bs w c) Z))<|Qx d Z (fun _ _=>Fd DT Z)<|Qx d Z (fun _ ⟨_,c⟩=>Ld BC Z (Bc (Bs w c) Z))<|A1 Z<|Bi a fun bj au a=>A3 Z (.none Z) Z Z (Cg [I e.re] Z)<|Calls.mono (JV f h ar au) ?_
 rintro _ av ⟨aw,rfl,p⟩
 refine ⟨_,Z,⟨_,(Mo [] p)⟩,?_⟩
 refine Bi a fun ax ay a=>Qx d Z (v:=Sb ax) (fun _ _=>Run.strAdd Z Z ay)<|A1 Z<|Bi a fun bk az a=>A3 Z (.none Z) Z Z (Cg [I e.im] Z)<|Calls.mono (JV f aw av az) ?_
 rintro _ bl ⟨a0,rfl,y⟩
 refine ⟨_,Z,⟨_,(Tn (Mo [] p) y)⟩,?_⟩
 refine Bi a fun a1 a2 a=>Qx d Z (v:=Sb a1) (fun _ _=>Run.strAdd Z Z a2)<|Bi a fun z a3 a=>Qx d Z (v:=Sb z) (fun _ _=>Run.strAdd Z Z a3)<|Qx d Z (v:=Sb z) (fun _ _=>Run.assign Z)<|B9<|AQ ?_
 obtain rfl:=AK a
 refine O1 B m Z (.tmp Z)<|⟨a0,Z,Ho (T3 (Mo [] n) u p y) l⟩
 refine WC.skip<|AR<|BW Cv (.q 0 (.q 1 (.q 3 (.q 4 (.one 2 (.one 5 (qs 6 3 .nil))))))) [] [] h (by kernel_rfl) fun a4 aa=>Qx d Z (fun _ _=>Fz DS Z)<|have ab:=Bs g aa;Qx d Z (fun _ ⟨_,c⟩=>Ld BC Z (Bc (Bs ab c) Z))<|Qx d Z (fun _ _=>Fd DT Z)<|Qx d Z (fun _ ⟨_,c⟩=>Ld BC Z (Bc (Bs ab c) Z))<|A1 Z<|Bi a fun bm a5 a=>A3 Z (.none Z) Z Z (Cg [I e.re] Z)<|Calls.mono (JV f h a4 a5) ?_
 rintro _ a6 ⟨a7,rfl,q⟩
 refine ⟨_,Z,⟨_,(Mo [] q)⟩,?_⟩
 refine A1 Z<|Bi a fun bn a8 a=>A3 Z (.none Z) Z Z (Cg [I e.im] Z)<|Calls.mono (JV f a7 a6 a8) ?_
 rintro _ bo ⟨a9,rfl,ac⟩
 refine ⟨_,Z,⟨_,(Tn (Mo [] q) ac)⟩,?_⟩
 refine Bi a fun ba bb a=>Qx d Z (v:=Sb ba) (fun _ _=>Run.strAdd Z Z bb)<|Bi a fun ad bc a=>Qx d Z (v:=Sb ad) (fun _ _=>Run.strAdd Z Z bc)<|Qx d Z (v:=Sb ad) (fun _ _=>Run.assign Z)<|B9<|AQ ?_
 obtain rfl:=AK a
 refine O1 B m Z (.tmp Z)<|⟨a9,Z,Ho (T3 (Mo [] n) aa q ac) l⟩
theorem P0(c:Nat):GG.Spec (GG c):=lk0 (S9 c)
def Ep.At(l:Col)(c:World)(f:Bts→Option (Ad×Int)):Prop:=
 ∀{d a},f d=some a→
  Calls PG 75 #[Sb d] c fun m e=>∃g h,m=.returned (.tuple #[Ag h,I a.2])∧AS [] l c g e∧Bh.rep g.F e h a.1
def Ep.Spec(f:Bts→Option (Ad×Int)):Prop:=
 ∀a c,Ep.At a c f
theorem Rp(l:Nat)(ah:Col)(a5:World)(ai:∀b,ah b<10):Ep.At ah a5 (Ep l):=by
 intro h aj a
 rw [Ep] at a
 refine Ay Tryz.func75 Z Tryz.ntmps75 Z fun B ak b9=>Sr<|Ef<|AY ah 20 Ee Z fun a6 a7 al am an=>Va (I 0)<|AA<|Sr<|Vm<|Bi a fun e a8 a=>Ca (Cg [Sb h] Z) (PC l a6 a7 a8) ?_
 rintro _ ca ⟨ax,rfl,m⟩
 refine Vm<|Vr (I e.1)<|Vr (I e.2)<|Va (I e.1)<|Va (I e.2)<|AA<|AR<|Sr<|Vm<|Vr (.bool (e.2==0))<|AA<|Cn a (fun a9 a=>?_) fun a9 a=>?_
 refine Sr<|Vx (v:=Ag [I 0,I 0]) (Bp Ee KQ Z .nil)<|have ba:=Bs am m;Eu<|St HM ba Z Z Z Z fun cb bb bc=>Va (I 10)<|AA<|AQ ?_
 obtain rfl:=AK a
 refine O2 B ak Z (.agg D7 Z Z (Bw bb)) (.tmp Z)<|⟨ax,[I 0,I 0],Z,Ho (T2 (Mo [20] an) m bc) ai,(BF (x:=(Ad.mk 0 0)))⟩
 refine WC.skip<|Sr<|Vm<|Vx (v:=Ag [I e.1,I 0]) (Bp Ee KQ Z (.cons Z Z Z .nil))<|Ef<|AY ax 21 Ee Z fun n cc z bd aa=>Eu<|St HM bd Z Z Z Z fun ay ao ab=>AA<|Sr<|Vm<|Vm<|Bi a fun r be a=>Vx (v:=Sb r) (Run.sliceStr Ju Z ⟨_,Z⟩ Z be)<|Va (Sb r)<|AA<|Am (fun s ac=>∃g ad c d,s=Env.puts g [(0,Sb h),(2,Pt al 0),(6,Pt z 0)]∧Fv l h c d=some aj∧AS [21] n ay ad ac∧Bk ad ac 21 z [I c,I d] 111) ?_ ?_
 refine Sr<|Vm<|Vx (v:=.bool (r==([105]:Bts))) (Run.strEq Z Z)<|AA<|Cn a (fun bf a=>?_) fun bf a=>?_
 refine AL<|Vm<|Vx (v:=Ag [I 0,I e.1]) (Bp Ee KQ Z (.cons Z Z Z .nil))<|Eu<|St HM ao Z Z Z Z fun cd bg bh=>AA<|⟨_,n,0,e.1,Pu,a,(Mo [21] bh),bg⟩
 refine Sr<|Vm<|Vx (v:=.bool (!(r==([]:Bts)))) (Run.strNe Z Z)<|AA<|Cn a (fun bi a=>?_) fun bi a=>?_
 refine Am (fun s ap=>∃g aq ae,s=Env.puts g [(0,Sb h),(2,Pt al 0),(6,Pt z 0),(7,Sb ae)]∧Hp l h e ae=some aj∧AS [] n ay aq ap) ?_ ?_
 refine Sr<|Vm<|Bi a fun az bj a=>Vx (v:=U8 az) (Run.indexBs Ju Z Z bj)<|Vr (.bool ((az.toNat:Int)==((43:UInt8).toNat:Int)))<|AA<|Cn a (fun bk a=>?_) fun bk a=>?_
 refine AL<|Vm<|Bi a fun ar bl a=>Vx (v:=Sb ar) (Run.sliceStr Ju Z ⟨_,Z⟩ Z bl)<|Va (Sb ar)<|AA<|⟨_,n,ar,Pu,a,Rf⟩
 refine WC.skip<|⟨_,n,r,Pu,a,Rf⟩
 rintro _ ap ⟨g,aq,ae,rfl,a,a0⟩
 rw [Hp] at a
 refine Sr<|Vm<|Bi a fun u bm a=>Ca (Cg [Sb ae] Z) (PC l aq ap bm) ?_
 rintro _ cf ⟨bn,rfl,a1⟩
 refine Vm<|Vr (I u.1)<|Vr (I u.2)<|Va (I u.1)<|Va (I u.2)<|AA<|AL<|Vm<|Vx (Fd DT Z)<|have bo:=Y2 ao a0 a1;Eu<|St Mj bo Z Z Z Z fun cg bp bq=>AA<|⟨_,bn,e.1,u.1,Pu,a,(T2 (Mo [21] a0) a1 bq),bp⟩
 refine WC.skip<|⟨_,n,e.1,0,Pu,a,(AS.refl [21] _ _),ao⟩
 rintro _ ac ⟨g,ad,c,d,rfl,a,af,au⟩
 rw [Fv] at a
 refine Sr<|Vx (Lx D7 Z Z (Bw au))<|Bi a fun w br a=>Ca (Cg [Ag [I c,I d]] Z) (Mk ad ac br (BF (x:=(Ad.mk c d)))) ?_
 rintro _ ch ⟨bt,ci,rfl,o,bu⟩
 obtain rfl:=A6 bu
 refine Vm<|Vr (Ag [I w.1.re,I w.1.im])<|Vr (I w.2)<|Ef<|AY bt 22 Ee Z fun av cj ck bv p=>Eu<|St HM bv Z Z Z Z fun a2 cl q=>Va (I w.2)<|AA<|AR<|Am (fun s a3=>∃g ag aw,s=Env.puts g [(2,Pt al 0),(6,Pt z 0),(55,.bool aw)]∧Ly c d aw=some aj∧AS [] av a2 ag a3) ?_ ?_
 refine AL<|Vm<|Vr (.bool (w.2 != 0))<|Vm<|Bo a (fun f a=>?_) fun f a=>?_
 refine Pg f<|Pg f<|Pg f<|Pg f<|Vp f<|AA<|⟨_,av,true,Pu,a,Rf⟩
 refine have bw:=Y3 au o p q;Gx f (Lx D7 Z Z (Bw bw))<|Bi a fun a4 bx a=>CT (.guard (t:=false) (b:=false) Z Z Z Z (Cb f)) Z Z (Cg [Ag [I c,I d]] Z)<|Calls.mono (P0 l av a2 bx (BF (x:=(Ad.mk c d)))) ?_
 rintro _ cm ⟨bz,rfl,b0⟩
 refine ⟨_,Z,?_⟩
 refine Gm f<|Gx f (v:=.bool (!(a4==h))) (Run.strNe Z Z)<|Vp f<|AA<|⟨_,bz,(!(a4==h)),Pu,a,(Mo [] b0)⟩
 rintro _ a3 ⟨g,ag,aw,rfl,a,y⟩
 rw [Ly] at a
 refine Cn a (fun b1 a=>?_) fun b1 a=>?_
 refine Sr<|Vx (v:=Ag [I 0,I 0]) (Bp Ee KQ Z .nil)<|have b2:=Y4 (Y4 am m aa ab af) o p q y;Eu<|St HM b2 Z Z Z Z fun cn b3 b4=>Va (I 10)<|AA<|AQ ?_
 obtain rfl:=AK a
 refine O2 B ak Z (.agg D7 Z Z (Bw b3)) (.tmp Z)<|⟨ag,[I 0,I 0],Z,Ho (Tn (T4 (T4 (Mo [20,21,22] an) m aa ab af) o p q y) b4) ai,(BF (x:=(Ad.mk 0 0)))⟩
 refine WC.skip<|Sr<|have b5:=Y4 au o p q y;Vx (Lx D7 Z Z (Bw b5))<|have b6:=Y4 (Y4 am m aa ab af) o p q y;Eu<|St HM b6 Z Z Z Z fun co b7 b8=>Va (I 0)<|AA<|AQ ?_
 obtain rfl:=AK a
 refine O2 B ak Z (.agg D7 Z Z (Bw b7)) (.tmp Z)<|⟨ag,[I c,I d],Z,Ho (Tn (T4 (T4 (Mo [20,21,22] an) m aa ab af) o p q y) b8) ai,(BF (x:=(Ad.mk c d)))⟩
theorem NH(c:Nat):Ep.Spec (Ep c):=lk0 (Rp c)
def GJ.At(c:Col)(a:World)(f:Ad→Option (Nat×Nat)):Prop:=
 ∀{d e g},f d=some g→Bh.rep c.F a e d→
  Calls PG 76 #[Ag e] a fun h l=>∃m,h=.returned (Cx g)∧AS [] c a m l
def GJ.Spec(f:Ad→Option (Nat×Nat)):Prop:=
 ∀a c,GJ.At a c f
theorem Rq(c:Col)(f:World)(g:∀b,c b<10):GJ.At c f GJ:=by
 intro a o p d h
 rw [GJ] at d
 obtain rfl:=A6 h
 refine Ay Tryz.func76 Z Tryz.ntmps76 Z fun B l q=>Sr<|Ef<|A0 c 20 Z Z fun m r s e n=>Va (Cx (((0,0):Nat×Nat)))<|AA<|Sr<|Vx (Fz DS Z)<|Vx (Ld BC Z (Bc e Z))<|Vr (Fl (FloatKind.f64.nearest a.re))<|Vx (Fd DT Z)<|Vx (Ld BC Z (Bc e Z))<|Vr (Fl (FloatKind.f64.nearest a.im))<|Vx (v:=Cx (((FloatKind.f64.nearest a.re),(FloatKind.f64.nearest a.im)))) (Run.complex Z Z)<|Va (Cx (((FloatKind.f64.nearest a.re),(FloatKind.f64.nearest a.im))))<|AA<|AQ ?_
 obtain rfl:=AK d
 refine O1 B l Z (.tmp Z)<|⟨m,Z,Ho (Mo [] n) g⟩
theorem MH:GJ.Spec GJ:=lk0 (Rq)
def JY.At(h:Col)(a:World)(f:Option (List Bts)):Prop:=
 ∀{c},f=some c→
  Calls PG 129 #[] a fun l d=>∃e g,l=.returned g∧AS [] h a e d∧Slc DV e.F d g c
def JY.Spec(f:Option (List Bts)):Prop:=
 ∀a c,JY.At a c f
theorem Rr(a:Col)(e:World)(f:∀b,a b<10):JY.At a e JY:=by
 intro s d
 rw [JY] at d
 refine Ay Tryz.func129 Z Tryz.ntmps129 Z fun B g u=>Sr<|Va (.slice none 0 0)<|AA<|Sr<|Ef<|Ch (cs:=[Sb ([66]:Bts),Sb ([76]:Bts),Sb ([78]:Bts),Sb ([99,97,115,101]:Bts),Sb ([99,111,110,106]:Bts),Sb ([101,108,115,101]:Bts),Sb ([102,97,105,108]:Bts),Sb ([102,97,108,115,101]:Bts),Sb ([105,102]:Bts),Sb ([105,109]:Bts),Sb ([105,110]:Bts),Sb ([108,101,116]:Bts),Sb ([110,105,108]:Bts),Sb ([110,111,116]:Bts),Sb ([111,102]:Bts),Sb ([114,101]:Bts),Sb ([115,116,114,105,99,116]:Bts),Sb ([116,104,101,110]:Bts),Sb ([116,114,117,101]:Bts)]) a 20 [[Sb ([66]:Bts)],[Sb ([76]:Bts)],[Sb ([78]:Bts)],[Sb ([99,97,115,101]:Bts)],[Sb ([99,111,110,106]:Bts)],[Sb ([101,108,115,101]:Bts)],[Sb ([102,97,105,108]:Bts)],[Sb ([102,97,108,115,101]:Bts)],[Sb ([105,102]:Bts)],[Sb ([105,109]:Bts)],[Sb ([105,110]:Bts)],[Sb ([108,101,116]:Bts)],[Sb ([110,105,108]:Bts)],[Sb ([110,111,116]:Bts)],[Sb ([111,102]:Bts)],[Sb ([114,101]:Bts)],[Sb ([115,116,114,105,99,116]:Bts)],[Sb ([116,104,101,110]:Bts)],[Sb ([116,114,117,101]:Bts)]] IR Pz Z Z (.cons Z Z Z (.cons Z Z Z (.cons Z Z Z (.cons Z Z Z (.cons Z Z Z (.cons Z Z Z (.cons Z Z Z (.cons Z Z Z (.cons Z Z Z (.cons Z Z Z (.cons Z Z Z (.cons Z Z Z (.cons Z Z Z (.cons Z Z Z (.cons Z Z Z (.cons Z Z Z (.cons Z Z Z (.cons Z Z Z (.cons Z Z Z .nil))))))))))))))))))) Z fun h l c m n=>have o:Own DV 9 h l 20 (.slice (some ⟨c,0,none⟩) 19 19) ([([66]:Bts),([76]:Bts),([78]:Bts),([99,97,115,101]:Bts),([99,111,110,106]:Bts),([101,108,115,101]:Bts),([102,97,105,108]:Bts),([102,97,108,115,101]:Bts),([105,102]:Bts),([105,109]:Bts),([105,110]:Bts),([108,101,116]:Bts),([110,105,108]:Bts),([110,111,116]:Bts),([111,102]:Bts),([114,101]:Bts),([115,116,114,105,99,116]:Bts),([116,104,101,110]:Bts),([116,114,117,101]:Bts)]:List Bts):=Own.lit (css:=[[Sb ([66]:Bts)],[Sb ([76]:Bts)],[Sb ([78]:Bts)],[Sb ([99,97,115,101]:Bts)],[Sb ([99,111,110,106]:Bts)],[Sb ([101,108,115,101]:Bts)],[Sb ([102,97,105,108]:Bts)],[Sb ([102,97,108,115,101]:Bts)],[Sb ([105,102]:Bts)],[Sb ([105,109]:Bts)],[Sb ([105,110]:Bts)],[Sb ([108,101,116]:Bts)],[Sb ([110,105,108]:Bts)],[Sb ([110,111,116]:Bts)],[Sb ([111,102]:Bts)],[Sb ([114,101]:Bts)],[Sb ([115,116,114,105,99,116]:Bts)],[Sb ([116,104,101,110]:Bts)],[Sb ([116,114,117,101]:Bts)]]) m Z Z Z (Aa Z (Aa Z (Aa Z (Aa Z (Aa Z (Aa Z (Aa Z (Aa Z (Aa Z (Aa Z (Aa Z (Aa Z (Aa Z (Aa Z (Aa Z (Aa Z (Aa Z (Aa Z (Aa Z BA))))))))))))))))))) (A4 Z (A4 Z (A4 Z (A4 Z (A4 Z (A4 Z (A4 Z (A4 Z (A4 Z (A4 Z (A4 Z (A4 Z (A4 Z (A4 Z (A4 Z (A4 Z (A4 Z (A4 Z (A4 Z D3))))))))))))))))))) Z;Va (Sl (some ⟨c,0,none⟩) (([([66]:Bts),([76]:Bts),([78]:Bts),([99,97,115,101]:Bts),([99,111,110,106]:Bts),([101,108,115,101]:Bts),([102,97,105,108]:Bts),([102,97,108,115,101]:Bts),([105,102]:Bts),([105,109]:Bts),([105,110]:Bts),([108,101,116]:Bts),([110,105,108]:Bts),([110,111,116]:Bts),([111,102]:Bts),([114,101]:Bts),([115,116,114,105,99,116]:Bts),([116,104,101,110]:Bts),([116,114,117,101]:Bts)]:List Bts)) 19)<|AA<|AQ ?_
 obtain ⟨p,q,r⟩:=Own.freeze (S:=[20]) o dcd dcd
 obtain rfl:=AK d
 refine O1 B g Z (.tmp Z)<|⟨p,Sl (some ⟨c,0,none⟩) (([([66]:Bts),([76]:Bts),([78]:Bts),([99,97,115,101]:Bts),([99,111,110,106]:Bts),([101,108,115,101]:Bts),([102,97,105,108]:Bts),([102,97,108,115,101]:Bts),([105,102]:Bts),([105,109]:Bts),([105,110]:Bts),([108,101,116]:Bts),([110,105,108]:Bts),([110,111,116]:Bts),([111,102]:Bts),([114,101]:Bts),([115,116,114,105,99,116]:Bts),([116,104,101,110]:Bts),([116,114,117,101]:Bts)]:List Bts)) 19,Z,Ho (Tn (Mo [20] n) q) f,r⟩
theorem TA:JY.Spec JY:=lk0 (Rr)
def Do.At(e:Col)(a:World)(f:Bts→Option Bool):Prop:=
 ∀{c d},f c=some d→
  Calls PG 99 #[Sb c] a fun g h=>∃l,g=.returned (.bool d)∧AS [] e a l h
def Do.Spec(f:Bts→Option Bool):Prop:=
 ∀a c,Do.At a c f
theorem P8(o:Nat)(l:Col)(p:World)(q:∀b,l b<10):Do.At l p (Do o):=by
 intro f r a
 rw [Do] at a
 refine Ay Tryz.func99 Z Tryz.ntmps99 Z fun B u aw=>Sr<|Va (.bool false)<|AA<|Sr<|Bi a fun d ah a=>Ca (Cg [] Z) (TA l p ah) ?_
 rintro _ ai ⟨w,ax,rfl,y,z⟩
 obtain ⟨aa,ab,rfl⟩:=AT z
 refine Va (Sl aa d ab)<|AA<|AR<|Sr<|Va (I 0)<|AA<|Af<|Bg (fun e aj m=>∃ac g c,aj=Env.puts ac [(0,Sb f),(3,Sl aa d ab),(4,I c)]∧Dn f d e c=some r∧AS [] w ai g m) o ?_ ?_
 exact ⟨_,w,0,Pu,a,Rf⟩
 rintro e _ m ⟨ac,g,c,rfl,a,h⟩
 rcases e with _|e
 exact A5 a
 refine have a:D4 f d (Dn f d e) c=some r:=a; ?_
 obtain ⟨ay,ad⟩:∃s,s=Dn f d e:=⟨_,rfl⟩
 rw [←ad,D4] at a
 refine AR<|Sr<|Vm<|Vm<|have ae:=Ss DV z h; ?_
 obtain ⟨az,a0,ak⟩:=AT ae
 refine Vx (v:=I (d.length:Int)) (Ll IR ak)<|Vr (.bool (decide (c< (d.length:Int))))<|AA<|Cn a (fun al a=>?_) fun al a=>?_
 refine WC.skip<|AR<|Af<|Sr<|Vm<|Vm<|Bi a fun af am a=>?_
 obtain ⟨an,ao,a1,ag,ap,aq,ar,au,n⟩:=A8 (κ:=DV) ae am
 replace n:Ax g m an (ao+c.toNat*1) ag:=n
 obtain rfl:=(show ag=[Sb af] from au)
 refine Vx (Ix IR ap Z aq ar)<|Vx (Ld CG Z (Ax.cell0 n Z))<|Vm<|Vx (v:=.bool (af==f)) (Run.strEq Z Z)<|AA<|Cn a (fun av a=>?_) fun av a=>?_
 refine Sr<|Va (.bool true)<|AA<|AQ ?_
 obtain rfl:=AK a
 refine O1 B u Z (.tmp Z)<|⟨g,Z,Ho (Tn (Mo [] y) h) q⟩
 refine WC.skip<|AL<|Vm<|Vr (I (Wr (c+1)))<|Va (I (Wr (c+1)))<|AA<|⟨e,Nat.lt_succ_self e,_,g,(Wr (c+1)),Pu,(ad▸a),(Mo [] h)⟩
 refine Ba<|Sr<|Va (.bool false)<|AA<|AQ ?_
 obtain rfl:=AK a
 refine O1 B u Z (.tmp Z)<|⟨g,Z,Ho (Tn (Mo [] y) h) q⟩
theorem QZ(c:Nat):Do.Spec (Do c):=lk0 (P8 c)
def It.At(c:Col)(a:World)(f:Bts→Int→Option Int):Prop:=
 ∀{d v0 e g},f d e=some g→Slc Kd.u8 c.F a v0 d→
  Calls PG 100 #[v0,I e] a fun h l=>∃m,h=.returned (I g)∧AS [] c a m l
def It.Spec(f:Bts→Int→Option Int):Prop:=
 ∀a c,It.At a c f
theorem TB(m:Col)(p:World)(ad:∀b,m b<10):It.At m p It:=by
 intro s v0 n an a o
 rw [It] at a
 obtain ⟨az,a0,rfl⟩:=AT o
 refine Ay Tryz.func100 Z Tryz.ntmps100 Z fun B ae b4=>Sr<|Va (I 0)<|AA<|AR<|Am (fun af u=>∃q f ag,af=Env.puts q [(0,Sl az s a0),(1,I n),(39,.bool ag)]∧Fw s n ag=some an∧AS [] m p f u) ?_ ?_
 refine AL<|Vm<|Vr (I (Wr (n+1)))<|Vm ?_
 obtain ⟨b5,b6,a1⟩:=AT o
 refine Vx (v:=I (s.length:Int)) (Ll H8 a1)<|Vr (.bool (decide ((Wr (n+1))< (s.length:Int))))<|Vm<|Bo a (fun d a=>?_) fun d a=>?_
 refine Gm d<|Gm d<|Bi a fun w a2 a=>?_
 obtain ⟨a3,a4,b7,ao,ah,ai,aj,a5,r⟩:=A8 (κ:=Kd.u8) o a2
 replace r:Ax m p a3 (a4+n.toNat*1) ao:=r
 obtain rfl:=(show ao=[U8 w] from a5)
 refine Gx d (Ix H8 ah Z ai aj)<|Gx d (Ld NF Z (Ax.cell0 r Z))<|Gr d (.bool ((w.toNat:Int)==((45:UInt8).toNat:Int)))<|Gm d<|Bo a (fun g a=>?_) fun g a=>?_
 refine Gm g<|Gm g<|Gr g (I (Wr (n+1)))<|Bi a fun y a6 a=>?_
 obtain ⟨a7,a8,b8,ap,aq,ar,au,a9,z⟩:=A8 (κ:=Kd.u8) o a6
 replace z:Ax m p a7 (a8+((Wr (n+1))).toNat*1) ap:=z
 obtain rfl:=(show ap=[U8 y] from a9)
 refine Gx g (Ix H8 aq Z ar au)<|Gx g (Ld NF Z (Ax.cell0 z Z))<|Gr g (.bool ((y.toNat:Int)==((62:UInt8).toNat:Int)))<|Gp d g<|Gm d<|Bo a (fun e a=>?_) fun e a=>?_
 refine Pg e<|Pg e<|Pg e<|Pg e<|Pg e<|Pg e<|Po<|Po<|Po<|Po<|Po<|Po<|Pg e<|Gp d e<|Vp d<|AA<|⟨_,m,true,Pu,a,Rf⟩
 refine Gm e<|Gm e<|Gx e (Ix H8 ah Z ai aj)<|Gx e (Ld NF Z (Ax.cell0 r Z))<|Gr e (.bool ((w.toNat:Int)==((61:UInt8).toNat:Int)))<|Gm e<|Bo a (fun h a=>?_) fun h a=>?_
 refine Gm h<|Gm h<|Gr h (I (Wr (n+1)))<|Gx h (Ix H8 aq Z ar au)<|Gx h (Ld NF Z (Ax.cell0 z Z))<|Gr h (.bool ((y.toNat:Int)==((61:UInt8).toNat:Int)))<|Gp e h<|Gp d e<|Vp d<|AA<|⟨_,m,((y.toNat:Int)==((61:UInt8).toNat:Int)),Pu,a,Rf⟩
 refine Pg h<|Pg h<|Pg h<|Pg h<|Pg h<|Pg h<|Gp e h<|Gp d e<|Vp d<|AA<|⟨_,m,false,Pu,a,Rf⟩
 refine Pg g<|Pg g<|Pg g<|Pg g<|Pg g<|Pg g<|Gp d g<|Gm d<|Gm Z<|Gm Z<|Gx Z (Ix H8 ah Z ai aj)<|Gx Z (Ld NF Z (Ax.cell0 r Z))<|Gr Z (.bool ((w.toNat:Int)==((61:UInt8).toNat:Int)))<|Gm Z<|Bo a (fun l a=>?_) fun l a=>?_
 refine Gm l<|Gm l<|Gr l (I (Wr (n+1)))<|Bi a fun aa ba a=>?_
 obtain ⟨bb,bc,b9,av,bd,be,bf,bg,ak⟩:=A8 (κ:=Kd.u8) o ba
 replace ak:Ax m p bb (bc+((Wr (n+1))).toNat*1) av:=ak
 obtain rfl:=(show av=[U8 aa] from bg)
 refine Gx l (Ix H8 bd Z be bf)<|Gx l (Ld NF Z (Ax.cell0 ak Z))<|Gr l (.bool ((aa.toNat:Int)==((61:UInt8).toNat:Int)))<|Gp Z l<|Gr d (.bool ((aa.toNat:Int)==((61:UInt8).toNat:Int)))<|Vp d<|AA<|⟨_,m,((aa.toNat:Int)==((61:UInt8).toNat:Int)),Pu,a,Rf⟩
 refine Pg l<|Pg l<|Pg l<|Pg l<|Pg l<|Pg l<|Gp Z l<|Gr d (.bool false)<|Vp d<|AA<|⟨_,m,false,Pu,a,Rf⟩
 refine Pg d<|Pg d<|Pg d<|Pg d<|Pg d<|Pg d<|Po<|Po<|Po<|Po<|Po<|Po<|Pg d<|Pg d<|Po<|Po<|Po<|Po<|Po<|Po<|Po<|Po<|Po<|Po<|Po<|Po<|Po<|Pg d<|Vp d<|AA<|⟨_,m,false,Pu,a,Rf⟩
 rintro _ u ⟨q,f,ag,rfl,a,ab⟩
 rw [Fw] at a
 refine Cn a (fun bh a=>?_) fun bh a=>?_
 refine Sr<|Va (I 2)<|AA<|AQ ?_
 obtain rfl:=AK a
 refine O1 B ae Z (.tmp Z)<|⟨f,Z,Ho (Mo [] ab) ad⟩
 refine WC.skip<|AR<|Sr<|Vm<|Vm<|Bi a fun c bi a=>have bj:=Ss Kd.u8 o ab; ?_
 obtain ⟨bk,bl,ca,aw,bm,bn,bo,bp,al⟩:=A8 (κ:=Kd.u8) bj bi
 replace al:Ax f u bk (bl+n.toNat*1) aw:=al
 obtain rfl:=(show aw=[U8 c] from bp)
 refine Vx (Ix H8 bm Z bn bo)<|Vx (Ld NF Z (Ax.cell0 al Z))<|AA<|Af<|Am (fun af ax=>∃q ac am,af=Env.puts q [(44,.bool am)]∧D5 am=some an∧AS [] f u ac ax) ?_ ?_
 refine Sr<|Vr (.bool ((c.toNat:Int)==((40:UInt8).toNat:Int)))<|Va (.bool ((c.toNat:Int)==((40:UInt8).toNat:Int)))<|AA<|Cn a (fun bq a=>?_) fun bq a=>?_
 refine WC.skip<|⟨_,f,((c.toNat:Int)==((40:UInt8).toNat:Int)),Pu,a,Rf⟩
 refine Sr<|Vr (.bool ((c.toNat:Int)==((41:UInt8).toNat:Int)))<|Va (.bool ((c.toNat:Int)==((41:UInt8).toNat:Int)))<|AA<|Cn a (fun br a=>?_) fun br a=>?_
 refine WC.skip<|⟨_,f,((c.toNat:Int)==((41:UInt8).toNat:Int)),Pu,a,Rf⟩
 refine Sr<|Vr (.bool ((c.toNat:Int)==((44:UInt8).toNat:Int)))<|Va (.bool ((c.toNat:Int)==((44:UInt8).toNat:Int)))<|AA<|Cn a (fun bt a=>?_) fun bt a=>?_
 refine WC.skip<|⟨_,f,((c.toNat:Int)==((44:UInt8).toNat:Int)),Pu,a,Rf⟩
 refine Sr<|Vr (.bool ((c.toNat:Int)==((58:UInt8).toNat:Int)))<|Va (.bool ((c.toNat:Int)==((58:UInt8).toNat:Int)))<|AA<|Cn a (fun bu a=>?_) fun bu a=>?_
 refine WC.skip<|⟨_,f,((c.toNat:Int)==((58:UInt8).toNat:Int)),Pu,a,Rf⟩
 refine Sr<|Vr (.bool ((c.toNat:Int)==((59:UInt8).toNat:Int)))<|Va (.bool ((c.toNat:Int)==((59:UInt8).toNat:Int)))<|AA<|Cn a (fun bv a=>?_) fun bv a=>?_
 refine WC.skip<|⟨_,f,((c.toNat:Int)==((59:UInt8).toNat:Int)),Pu,a,Rf⟩
 refine Sr<|Vr (.bool ((c.toNat:Int)==((61:UInt8).toNat:Int)))<|Va (.bool ((c.toNat:Int)==((61:UInt8).toNat:Int)))<|AA<|Cn a (fun bw a=>?_) fun bw a=>?_
 refine WC.skip<|⟨_,f,((c.toNat:Int)==((61:UInt8).toNat:Int)),Pu,a,Rf⟩
 refine Sr<|Vr (.bool ((c.toNat:Int)==((43:UInt8).toNat:Int)))<|Va (.bool ((c.toNat:Int)==((43:UInt8).toNat:Int)))<|AA<|Cn a (fun bx a=>?_) fun bx a=>?_
 refine WC.skip<|⟨_,f,((c.toNat:Int)==((43:UInt8).toNat:Int)),Pu,a,Rf⟩
 refine Sr<|Vr (.bool ((c.toNat:Int)==((45:UInt8).toNat:Int)))<|Va (.bool ((c.toNat:Int)==((45:UInt8).toNat:Int)))<|AA<|Cn a (fun bz a=>?_) fun bz a=>?_
 refine WC.skip<|⟨_,f,((c.toNat:Int)==((45:UInt8).toNat:Int)),Pu,a,Rf⟩
 refine Sr<|Vr (.bool ((c.toNat:Int)==((42:UInt8).toNat:Int)))<|Va (.bool ((c.toNat:Int)==((42:UInt8).toNat:Int)))<|AA<|Cn a (fun b0 a=>?_) fun b0 a=>?_
 refine WC.skip<|⟨_,f,((c.toNat:Int)==((42:UInt8).toNat:Int)),Pu,a,Rf⟩
 refine Sr<|Vr (.bool ((c.toNat:Int)==((47:UInt8).toNat:Int)))<|Va (.bool ((c.toNat:Int)==((47:UInt8).toNat:Int)))<|AA<|Cn a (fun b1 a=>?_) fun b1 a=>?_
 refine WC.skip<|⟨_,f,((c.toNat:Int)==((47:UInt8).toNat:Int)),Pu,a,Rf⟩
 refine Sr<|Vr (.bool ((c.toNat:Int)==((60:UInt8).toNat:Int)))<|Va (.bool ((c.toNat:Int)==((60:UInt8).toNat:Int)))<|AA<|Cn a (fun b2 a=>?_) fun b2 a=>?_
 refine WC.skip<|⟨_,f,((c.toNat:Int)==((60:UInt8).toNat:Int)),Pu,a,Rf⟩
 refine AL<|Vr (.bool ((c.toNat:Int)==((124:UInt8).toNat:Int)))<|Va (.bool ((c.toNat:Int)==((124:UInt8).toNat:Int)))<|AA<|⟨_,f,((c.toNat:Int)==((124:UInt8).toNat:Int)),Pu,a,Rf⟩
 rintro _ ax ⟨q,ac,am,rfl,a,ay⟩
 rw [D5] at a
 refine Cn a (fun b3 a=>?_) fun b3 a=>?_
 refine Sr<|Va (I 1)<|AA<|AQ ?_
 obtain rfl:=AK a
 refine O1 B ae Z (.tmp Z)<|⟨ac,Z,Ho (Tn (Mo [] ab) ay) ad⟩
 refine WC.skip<|Sr<|Va (I 0)<|AA<|AQ ?_
 obtain rfl:=AK a
 refine O1 B ae Z (.tmp Z)<|⟨ac,Z,Ho (Tn (Mo [] ab) ay) ad⟩
theorem UO:It.Spec It:=lk0 (TB)
def IA.At(d:Col)(a:World)(f:Bts→Int→Option (Aj×Bool)):Prop:=
 ∀{e v0 g c},f e g=some c→Slc Kd.u8 d.F a v0 e→
  Calls PG 72 #[v0,I g] a fun n h=>∃l m,n=.returned (.tuple #[Ag m,.bool c.2])∧AS [] d a l h∧Ah.rep l.F h m c.1
def IA.Spec(f:Bts→Int→Option (Aj×Bool)):Prop:=
 ∀a c,IA.At a c f
theorem UP(w:Nat)(aw:Col)(bz:World)(ag:∀b,aw b<10):IA.At aw bz (IA w):=by
 intro y v0 c ax a bd
 rw [IA] at a
 obtain ⟨ah,ai,rfl⟩:=AT bd
 refine Ay Tryz.func72 Z Tryz.ntmps72 Z fun B aj ee=>Sr<|Ef<|AY aw 20 G9 Z fun b0 b1 ay ak ab=>Va (.bool false)<|AA<|Sr<|Vm<|Vm<|have be:=Ss Kd.u8 bd ab;Bi a fun h b2 a=>Ca (Cg [Sl ah y ai,I c] Z) (Vk w b0 b1 b2 be) ?_
 rintro _ ef ⟨b3,rfl,p⟩
 refine Va (I h)<|AA<|Sr<|Vm<|Vm<|Vm<|Vm<|Vr (I (Wr (c+h)))<|Bi a fun d bf a=>have al:=Ss Kd.u8 be p; ?_
 obtain ⟨bg,bh,b4,b5,az⟩:=VL al bf
 obtain ⟨eg,bi⟩:∃s,s=Value.slice (if bh=c.toNat then bg else bg.map (·.add (c.toNat*Kd.u8.size))) (((Wr (c+h))).toNat - c.toNat) (bh - c.toNat):=⟨_,rfl⟩
 rw [←bi] at az
 obtain ⟨b6,b7,b8,_⟩:=Lu bf
 obtain ⟨b9,ca,rfl⟩:=AT az
 refine Vx (v:=.slice b9 d.length ca) (by rw [bi];exact Run.sliceSlc H8 b4 ⟨_,Z⟩ ⟨_,Z⟩ b6 b7 b8 b5)<|Vx (v:=Sb d) (Run.bytesStr Pd Z az)<|Vm<|Vx (v:=Ag [I 0,Sb d,Cx (((0,0):Nat×Nat)),I c]) (Bp G9 Vh Z (.cons Z Z Z (.cons Z Z Z .nil)))<|Ef<|AY b3 21 G9 Z fun am eh an cb l=>Eu<|St HN cb Z Z Z Z fun a0 ao m=>AA<|AR<|Af<|Am (fun ac ad=>∃q r x63,ac=Env.puts q [(0,Sl ah y ai),(1,I c),(4,Pt ay 0),(6,I h),(7,Pt an 0),(22,.bool x63)]∧IX w y c h d x63=some ax∧AS [] am a0 r ad) ?_ ?_
 refine AL<|Vm<|Vr (.bool (decide (h>0)))<|Vm<|Bo a (fun f a=>?_) fun f a=>?_
 refine Gm f<|Gm f<|Bi a fun bj cc a=>have cd:=K2 Kd.u8 al l m; ?_
 obtain ⟨cf,cg,ei,bk,ch,ci,cj,ck,a1⟩:=A8 (κ:=Kd.u8) cd cc
 replace a1:Ax am a0 cf (cg+c.toNat*1) bk:=a1
 obtain rfl:=(show bk=[U8 bj] from ck)
 refine Gx f (Ix H8 ch Z ci cj)<|Gx f (Ld NF Z (Ax.cell0 a1 Z))<|Bi a fun bl cl a=>CT (.guard (t:=true) (b:=true) Z Z Z Z (Cb f)) Z Z (Cg [U8 bj] Z)<|Calls.mono (PB am a0 cl) ?_
 rintro _ ej ⟨cm,rfl,cn⟩
 refine ⟨_,Z,?_⟩
 refine Vp f<|Va (.bool bl)<|AA<|⟨_,cm,bl,Pu,a,(Mo [] cn)⟩
 refine Pg f<|Pg f<|Pg f<|Pg f<|Pg f<|Vp f<|Va (.bool false)<|AA<|⟨_,am,false,Pu,a,Rf⟩
 rintro _ ad ⟨q,r,x63,rfl,a,e⟩
 rw [IX] at a
 refine Cn a (fun co a=>?_) fun co a=>?_
 refine Sr<|Vx (Fd Fm Z)<|have bm:=Bs ao e;Vx (Ld CG Z (Bc bm Z))<|Bi a fun n cq a=>Ca (Cg [Sb d] Z) (NH w r ad cq) ?_
 rintro _ ek ⟨cr,el,rfl,a2,ct⟩
 obtain rfl:=A6 ct
 refine Vm<|Vr (Ag [I n.1.re,I n.1.im])<|Vr (I n.2)<|Ef<|AY cr 22 Ee Z fun cu em en cv a3=>Eu<|St HM cv Z Z Z Z fun eo cw a4=>Va (I n.2)<|AA<|Sr<|Vx (Fz LN Z)<|have cx:=Y3 bm a2 a3 a4;Eu<|St Ve cx Z Z Z Z fun cy cz a5=>AA<|Sr<|have c0:=Bs cw a5;Vx (Lx D7 Z Z (Bw c0))<|Bi a fun ap c1 a=>Ca (Cg [Ag [I n.1.re,I n.1.im]] Z) (MH cu cy c1 (BF (x:=n.1))) ?_
 rintro _ ep ⟨c2,rfl,a6⟩
 refine Vx (Fd VA Z)<|have c3:=Bs cz a6;Eu<|St ABm c3 Z Z Z Z fun eq c4 bn=>AA<|Sr<|Vx (Lx Ia Z Z (Bw c4))<|Vm<|Vr (.bool (n.2==0))<|have c5:=Y2 (Y4 (Y4 ak p l m e) a2 a3 a4 a5) a6 bn;Eu<|St HN c5 Z Z Z Z fun er c6 c7=>Va (.bool (n.2==0))<|AA<|AQ ?_
 obtain rfl:=AK a
 refine O2 B aj Z (.agg Ia Z Z (Bw c6)) (.tmp Z)<|⟨c2,[I 2,Sb d,Cx ap,I c],Z,Ho (T3 (T4 (T4 (Mo [20,21,22] ab) p l m e) a2 a3 a4 a5) a6 bn c7) ag,(Fo (x:=(Aj.mk 2 d ap c)))⟩
 refine Am (fun ac ae=>∃q z a7,ac=Env.puts q [(0,Sl ah y ai),(1,I c),(4,Pt ay 0),(6,I h),(7,Pt an 0),(45,.bool a7)]∧IW w y c h d a7=some ax∧AS [] r ad z ae) ?_ ?_
 refine AL<|Vm<|Vr (.bool (decide (h>0)))<|Vm<|Bo a (fun g a=>?_) fun g a=>?_
 refine Gm g<|Gm g<|Bi a fun aq c8 a=>have c9:=K3 Kd.u8 al l m e; ?_
 obtain ⟨da,db,es,bo,dc,de,df,dg,a8⟩:=A8 (κ:=Kd.u8) c9 c8
 replace a8:Ax r ad da (db+c.toNat*1) bo:=a8
 obtain rfl:=(show bo=[U8 aq] from dg)
 refine Gx g (Ix H8 dc Z de df)<|Gx g (Ld NF Z (Ax.cell0 a8 Z))<|Gr g (.bool ((aq.toNat:Int)==((95:UInt8).toNat:Int)))<|Vp g<|Va (.bool ((aq.toNat:Int)==((95:UInt8).toNat:Int)))<|AA<|⟨_,r,((aq.toNat:Int)==((95:UInt8).toNat:Int)),Pu,a,Rf⟩
 refine Pg g<|Pg g<|Pg g<|Pg g<|Pg g<|Vp g<|Va (.bool false)<|AA<|⟨_,r,false,Pu,a,Rf⟩
 rintro _ ae ⟨q,z,a7,rfl,a,o⟩
 rw [IW] at a
 refine Cn a (fun dh a=>?_) fun dh a=>?_
 refine Sr<|have di:=Y2 ao e o;Vx (Lx Ia Z Z (Bw di))<|have dj:=Bs (Y4 ak p l m e) o;Eu<|St HN dj Z Z Z Z fun et dk dl=>Va (.bool false)<|AA<|AQ ?_
 obtain rfl:=AK a
 refine O2 B aj Z (.agg Ia Z Z (Bw dk)) (.tmp Z)<|⟨z,[I 0,Sb d,Cx (((0,0):Nat×Nat)),I c],Z,Ho (T2 (T4 (Mo [20,21] ab) p l m e) o dl) ag,(Fo (x:=(Aj.mk 0 d ((0,0):Nat×Nat) c)))⟩
 refine Sr<|Vm<|Vr (.bool (decide (h>0)))<|Va (.bool (decide (h>0)))<|AA<|Cn a (fun dm a=>?_) fun dm a=>?_
 refine Am (fun ac a9=>∃q ar u,ac=Env.puts q [(4,Pt ay 0),(7,Pt an 0)]∧M0 c d u=some ax∧AS [21] z ae ar a9∧Bk ar a9 21 an [I u,Sb d,Cx (((0,0):Nat×Nat)),I c] 159) ?_ ?_
 refine Sr<|Vx (Fd Fm Z)<|have ba:=Y2 ao e o;Vx (Ld CG Z (Bc ba Z))<|Bi a fun eu dn a=>Ca (Cg [Sb d] Z) (QZ w z ae dn) ?_
 rintro _ ew ⟨bp,rfl,au⟩
 refine AA<|Cn a (fun dp a=>?_) fun dp a=>?_
 refine AL<|Vx (Fz LN Z)<|have dq:=Bs ba au;Eu<|St Ve dq Z Z Z Z fun ex dr ds=>AA<|⟨_,bp,1,Pu,a,(Tn (Mo [21] au) ds),dr⟩
 refine WC.skip<|have dt:=Bs ba au;⟨_,bp,0,Pu,a,(Mo [21] au),dt⟩
 rintro _ a9 ⟨q,ar,u,rfl,a,bq,du⟩
 rw [M0] at a
 refine Sr<|Vx (Lx Ia Z Z (Bw du))<|have dv:=Y2 (Y4 ak p l m e) o bq;Eu<|St HN dv Z Z Z Z fun ey dw dx=>Va (.bool true)<|AA<|AQ ?_
 obtain rfl:=AK a
 refine O2 B aj Z (.agg Ia Z Z (Bw dw)) (.tmp Z)<|⟨ar,[I u,Sb d,Cx (((0,0):Nat×Nat)),I c],Z,Ho (T3 (T4 (Mo [20,21] ab) p l m e) o bq dx) ag,(Fo (x:=(Aj.mk u d ((0,0):Nat×Nat) c)))⟩
 refine WC.skip<|Sr<|Vm<|Vm<|have br:=K4 Kd.u8 al l m e o;Bi a fun af dy a=>Ca (Cg [Sl ah y ai,I c] Z) (UO z ae dy br) ?_
 rintro _ ez ⟨dz,rfl,av⟩
 refine Va (I af)<|AA<|Sr<|Vx (Fz LN Z)<|have d0:=Y3 ao e o av;Eu<|St Ve d0 Z Z Z Z fun e0 d1 bb=>AA<|Sr<|Vm<|Vm<|Vm<|Vm<|Vr (I (Wr (c+af)))<|Bi a fun aa bt a=>have d2:=K2 Kd.u8 br av bb; ?_
 obtain ⟨bu,bv,d3,d4,bc⟩:=VL d2 bt
 obtain ⟨e1,bw⟩:∃s,s=Value.slice (if bv=c.toNat then bu else bu.map (·.add (c.toNat*Kd.u8.size))) (((Wr (c+af))).toNat - c.toNat) (bv - c.toNat):=⟨_,rfl⟩
 rw [←bw] at bc
 obtain ⟨d5,d6,d7,_⟩:=Lu bt
 obtain ⟨d8,d9,rfl⟩:=AT bc
 refine Vx (v:=.slice d8 aa.length d9) (by rw [bw];exact Run.sliceSlc H8 d3 ⟨_,Z⟩ ⟨_,Z⟩ d5 d6 d7 d4)<|Vx (v:=Sb aa) (Run.bytesStr Pd Z bc)<|Vx (Fd Fm Z)<|Eu<|St Xy d1 Z Z Z Z fun e2 ea bx=>AA<|Sr<|Vx (Lx Ia Z Z (Bw ea))<|Vm<|Vr (.bool (decide (af>0)))<|have eb:=Y4 (Y4 ak p l m e) o av bb bx;Eu<|St HN eb Z Z Z Z fun e3 ec ed=>Va (.bool (decide (af>0)))<|AA<|AQ ?_
 obtain rfl:=AK a
 refine O2 B aj Z (.agg Ia Z Z (Bw ec)) (.tmp Z)<|⟨dz,[I 3,Sb aa,Cx (((0,0):Nat×Nat)),I c],Z,Ho (Tn (T4 (T4 (Mo [20,21] ab) p l m e) o av bb bx) ed) ag,(Fo (x:=(Aj.mk 3 aa ((0,0):Nat×Nat) c)))⟩
theorem Vn(c:Nat):IA.Spec (IA c):=lk0 (UP c)
def GK.At(d:Col)(a:World)(f:Bts→Option ((List Aj)×Int)):Prop:=
 ∀{e v0 c},f e=some c→Slc Kd.u8 d.F a v0 e→
  Calls PG 47 #[v0] a fun m g=>∃h l,m=.returned (.tuple #[l,I c.2])∧AS [] d a h g∧Slc Ah h.F g l c.1
def GK.Spec(f:Bts→Option ((List Aj)×Int)):Prop:=
 ∀a c,GK.At a c f
theorem Ru(n:Nat)(ae:Col)(az:World)(a0:∀b,ae b<10):GK.At ae az (GK n):=by
 intro d v0 z a a1
 rw [GK] at a
 obtain ⟨af,ag,rfl⟩:=AT a1
 refine Ay Tryz.func47 Z Tryz.ntmps47 Z fun B a2 c4=>Sr<|Va (.slice none 0 0)<|Va (I 0)<|AA<|Sr<|Va (.slice none 0 0)<|AA<|Sr<|Va (I 0)<|AA<|AR<|Af<|Bg (fun h aa ab=>∃o u e q r f,aa=Env.puts o [(0,Sl af d ag),(4,Sl q e r),(5,I f)]∧Dp n d h e f=some z∧AS [20,22] ae az u ab∧Own Ah 159 u ab 22 (Sl q e r) e) n ?_ ?_
 exact ⟨_,ae,([]:List Aj),none,0,0,Pu,a,(AS.refl [20,22] _ _),Own.nil⟩
 rintro h _ ab ⟨o,u,e,q,r,f,rfl,a,w,ah⟩
 rcases h with _|h
 exact A5 a
 refine have a:FU n d (Dp n d h) e f=some z:=a; ?_
 obtain ⟨ac,ai⟩:∃s,s=Dp n d h:=⟨_,rfl⟩
 rw [←ai,FU] at a
 refine AR<|Sr<|Vm<|Vm<|have ad:=Ss Kd.u8 a1 w; ?_
 obtain ⟨c5,c6,bo⟩:=AT ad
 refine Vx (v:=I (d.length:Int)) (Ll H8 bo)<|Vr (.bool (decide (f< (d.length:Int))))<|AA<|Cn a (fun bp a=>?_) fun bp a=>?_
 refine WC.skip<|Af<|AR<|Sr<|Vm<|Vm<|Bi a fun ao bq a=>?_
 obtain ⟨br,bt,c7,a3,a4,a5,a6,bu,aj⟩:=A8 (κ:=Kd.u8) ad bq
 replace aj:Ax u ab br (bt+f.toNat*1) a3:=aj
 obtain rfl:=(show a3=[U8 ao] from bu)
 refine Vx (Ix H8 a4 Z a5 a6)<|Vx (Ld NF Z (Ax.cell0 aj Z))<|Bi a fun c8 bv a=>Ca (Cg [U8 ao] Z) (S8 u ab bv) ?_
 rintro _ a7 ⟨ak,rfl,m⟩
 refine AA<|Cn a (fun bw a=>?_) fun bw a=>?_
 refine Sr<|Vm<|Vr (I (Wr (f+1)))<|Va (I (Wr (f+1)))<|AA<|Ba<|have bx:=Os ah m;⟨h,Nat.lt_succ_self h,_,ak,e,q,r,(Wr (f+1)),Pu,(ai▸a),(Tn (Mo [20,22] w) m),bx⟩
 refine WC.skip<|AR<|Sr<|Vm<|Vm<|Vx (Ix H8 a4 Z a5 a6)<|have bz:=Es aj m;Vx (Ld NF Z (Ax.cell0 bz Z))<|Vr (.bool ((ao.toNat:Int)==((35:UInt8).toNat:Int)))<|AA<|Cn a (fun b0 a=>?_) fun b0 a=>?_
 refine AR<|Af<|Bg (fun p aa al=>∃o y l,aa=Env.puts o [(0,Sl af d ag),(4,Sl q e r),(5,I l)]∧FD d e ac p l=some z∧AS [] ak a7 y al) n ?_ ?_
 exact ⟨_,ak,f,Pu,a,Rf⟩
 rintro p _ al ⟨o,y,l,rfl,a,am⟩
 rcases p with _|p
 exact A5 a
 refine have a:FT d e ac (FD d e ac p) l=some z:=a; ?_
 obtain ⟨b1,a8⟩:∃s,s=FD d e ac p:=⟨_,rfl⟩
 rw [←a8,FT] at a
 refine AR<|Am (fun aa a9=>∃o an ap,aa=Env.puts o [(0,Sl af d ag),(4,Sl q e r),(5,I l),(34,.bool ap)]∧Hq e ac l b1 ap=some z∧AS [] y al an a9) ?_ ?_
 refine AL<|Vm<|Vm<|have ba:=K2 Kd.u8 ad m am; ?_
 obtain ⟨c9,da,b2⟩:=AT ba
 refine Vx (v:=I (d.length:Int)) (Ll H8 b2)<|Vr (.bool (decide (l< (d.length:Int))))<|Vm<|Bo a (fun g a=>?_) fun g a=>?_
 refine Gm g<|Gm g<|Bi a fun aq b3 a=>?_
 obtain ⟨b4,b5,db,bb,b6,b7,b8,b9,ar⟩:=A8 (κ:=Kd.u8) ba b3
 replace ar:Ax y al b4 (b5+l.toNat*1) bb:=ar
 obtain rfl:=(show bb=[U8 aq] from b9)
 refine Gx g (Ix H8 b6 Z b7 b8)<|Gx g (Ld NF Z (Ax.cell0 ar Z))<|Gr g (.bool ((aq.toNat:Int) != ((10:UInt8).toNat:Int)))<|Vp g<|AA<|⟨_,y,((aq.toNat:Int) != ((10:UInt8).toNat:Int)),Pu,a,Rf⟩
 refine Pg g<|Pg g<|Pg g<|Pg g<|Pg g<|Vp g<|AA<|⟨_,y,false,Pu,a,Rf⟩
 rintro _ a9 ⟨o,an,ap,rfl,a,au⟩
 rw [Hq] at a
 refine Cn a (fun ca a=>?_) fun ca a=>?_
 refine WC.skip<|Af<|AL<|Vm<|Vr (I (Wr (l+1)))<|Va (I (Wr (l+1)))<|AA<|⟨p,Nat.lt_succ_self p,_,an,(Wr (l+1)),Pu,(a8▸a),(Tn (Mo [] am) au)⟩
 refine Ba<|Ba<|have cb:=Os (Os (Os ah m) am) au;⟨h,Nat.lt_succ_self h,_,an,e,q,r,l,Pu,(ai▸a),(T3 (Mo [20,22] w) m am au),cb⟩
 refine WC.skip<|Sr<|Vm<|Vm<|have cc:=Ss Kd.u8 ad m;Bi a fun c cd a=>Ca (Cg [Sl af d ag,I f] Z) (Vn n ak a7 cd cc) ?_
 rintro _ dc ⟨cf,de,rfl,av,cg⟩
 obtain rfl:=DM cg
 refine Vm<|Vr (Ag [I c.1.kind,Sb c.1.text,Cx c.1.num,I c.1.at_])<|Vr (.bool c.2)<|Ef<|AY cf 20 G9 Z fun bc df dg ch aw=>Eu<|St HN ch Z Z Z Z fun dh bd ax=>Va (.bool c.2)<|AA<|AR<|Sr<|Vm<|Vr (.bool (!c.2))<|AA<|Cn a (fun ci a=>?_) fun ci a=>?_
 refine Sr<|Vm<|Va (.slice none 0 0)<|Va (I f)<|AA<|AQ ?_
 obtain rfl:=AK a
 refine O2 B a2 Z (.tmp Z) (.tmp Z)<|⟨bc,.slice none 0 0,Z,Ho (T4 (Mo [20,22] w) m av aw ax) a0,BK⟩
 refine WC.skip<|Sr<|Vm<|Vx (Lx Ia Z Z (Bw bd))<|Ef<|Ch (cs:=[I c.1.kind,Sb c.1.text,Cx c.1.num,I c.1.at_]) bc 21 [[I c.1.kind,Sb c.1.text,Cx c.1.num,I c.1.at_]] Vi G9 Z Z (.cons Z Z Z .nil) Z fun cj ck cl cm ay=>have cn:Own Ah 159 cj ck 21 (.slice (some ⟨cl,0,none⟩) 1 1) ([c.1]:List Aj):=Own.lit (css:=[[I c.1.kind,Sb c.1.text,Cx c.1.num,I c.1.at_]]) cm Z Z Z (Aa (Fo (x:=c.1)) BA) (A4 Z D3) Z;have co:=Os (Os (Os (Os (Os ah m) av) aw) ax) ay;Bi a fun di be a=>Ef<|Bu (κ:=Ah) Z Z co dcd Xx (CC cn) (Et be) (E6 be) fun dj cq dk bf bg=>?_
 obtain ⟨bh,bi,rfl⟩:=Own.len bf
 refine Va (Sl bh ((e++([c.1]:List Aj))) bi)<|AA<|AL<|Vm<|Vx (Fd Fm Z)<|have cr:=Y2 bd ay bg;Vx (Ld CG Z (Bc cr Z))<|Vx (v:=I (c.1.text.length:Int)) (Run.lenStr Ju Z)<|Vr (I (Wr (f+(c.1.text.length:Int))))<|Va (I (Wr (f+(c.1.text.length:Int))))<|AA<|⟨h,Nat.lt_succ_self h,_,cq,(e++([c.1]:List Aj)),bh,bi,(Wr (f+(c.1.text.length:Int))),Pu,(ai▸a),(T2 (T4 (Mo [20,22] w) m av aw ax) ay bg),bf⟩
 refine Ba<|Sr<|Vm<|Vm ?_
 obtain ⟨dl,dm,ct⟩:=AT ad
 refine Vx (v:=I (d.length:Int)) (Ll H8 ct)<|Vx (v:=Ag [I 4,Sb ([]:Bts),Cx (((0,0):Nat×Nat)),I (d.length:Int)]) (Bp G9 Vh Z (.cons Z Z Z (.cons Z Z Z .nil)))<|Ef<|Ch (cs:=[I 4,Sb ([]:Bts),Cx (((0,0):Nat×Nat)),I (d.length:Int)]) u 23 [[I 4,Sb ([]:Bts),Cx (((0,0):Nat×Nat)),I (d.length:Int)]] Vi G9 Z Z (.cons Z Z Z .nil) Z fun cu cv cw cx bj=>have cy:Own Ah 159 cu cv 23 (.slice (some ⟨cw,0,none⟩) 1 1) ([(Aj.mk 4 ([]:Bts) ((0,0):Nat×Nat) (d.length:Int))]:List Aj):=Own.lit (css:=[[I 4,Sb ([]:Bts),Cx (((0,0):Nat×Nat)),I (d.length:Int)]]) cx Z Z Z (Aa (Fo (x:=(Aj.mk 4 ([]:Bts) ((0,0):Nat×Nat) (d.length:Int)))) BA) (A4 Z D3) Z;have cz:=Os ah bj;Bi a fun dn bk a=>Ef<|Bu (κ:=Ah) Z Z cz dcd Xx (CC cy) (Et bk) (E6 bk) fun dp dq dr bl c0=>?_
 obtain ⟨bm,bn,rfl⟩:=Own.len bl
 refine Va (Sl bm ((e++([(Aj.mk 4 ([]:Bts) ((0,0):Nat×Nat) (d.length:Int))]:List Aj))) bn)<|Va (I (-1:Int))<|AA<|AQ ?_
 obtain ⟨c1,c2,c3⟩:=Own.freeze (S:=[22]) bl dcd dcd
 obtain rfl:=AK a
 refine O2 B a2 Z (.tmp Z) (.tmp Z)<|⟨c1,Sl bm ((e++([(Aj.mk 4 ([]:Bts) ((0,0):Nat×Nat) (d.length:Int))]:List Aj))) bn,Z,Ho (T3 (Mo [20,22] w) bj c0 c2) a0,c3⟩
theorem TC(c:Nat):GK.Spec (GK c):=lk0 (Ru c)
def Bf.At(G1 G2:Prop)(c:Col)(a:World)(f:AC→Option Aj)(o:Nat):Prop:=
 ∀{d e g h},f e=some h→G1→G2→Bk c a o d g 126→BR.rep c.F a g e→
  Calls PG 73 #[Pt d 0] a fun p l=>∃m n,p=.returned (Ag n)∧AS [] c a m l∧Ah.rep m.F l n h
def Bf.Spec(f:AC→Option Aj):Prop:=
 ∀c d {a},Bf.At ([a].Nodup) (0∉[a]) c d f a
theorem OW(g:Col)(q:World)(r:∀b,g b<10):Bf.At True True g q Bf 1:=by
 intro n s an ao e _ _ u w
 rw [Bf] at e
 obtain ⟨aq,ar,rfl,o⟩:=E1 (AZ w)
 refine Ay Tryz.func73 Z Tryz.ntmps73 Z fun B y d=>Sr<|Ef<|AY g 20 G9 Z fun h au av z l=>AA<|AR<|BW Cv (qs 0 10 (.one 10 .nil)) [10] [] h (by kernel_rfl) fun aa f=>Qx d Z (v:=Pt n 0) (fun _ _=>Mv Z)<|Qx d Z (fun _ _=>Nc Z)<|Qx d Z (fun _ _=>Fz YW Z)<|have p:=Y2 u l f;Qx d Z (fun _ ⟨_,c⟩=>Ld AAd Z (Bc (Bs p c) Z))<|Qx d Z (v:=Pt n 0) (fun _ _=>Mv Z)<|Qx d Z (fun _ _=>Nc Z)<|Qx d Z (fun _ _=>Fd Gb Z)<|Qx d Z (fun _ ⟨_,c⟩=>Ld BC Z (Bc (Bs p c) Z))<|Bi e fun a ab e=>have ac:=K2 Ah o l f; ?_
 obtain ⟨ad,ae,aw,af,ag,ah,ai,aj,m⟩:=A8 (κ:=Ah) ac ab
 replace m:Ax h aa ad (ae+s.at_.toNat*4) af:=m
 obtain rfl:=DM aj
 refine Qx d Z (fun _ _=>Ix Vi ag Z ah ai)<|Qx d Z (fun _ ⟨_,c⟩=>Lx Ia Z Z (Ax.part0 (Es m c) [I a.kind,Sb a.text,Cx a.num,I a.at_] Z))<|ES dcd<|WY.one<|have ak:=Bs z f;BM Z (.none Z) Z<|St HN ak Z Z Z Z fun ax al am=>WY.nil<|AQ ?_
 obtain rfl:=AK e
 refine O1 B y Z (.agg Ia Z Z (Bw al))<|⟨h,[I a.kind,Sb a.text,Cx a.num,I a.at_],Z,Ho (T2 (Mo [20] l) f am) r,(Fo (x:=a))⟩
theorem CW:Bf.Spec Bf:=lk1 (OW)
def B5.At(G1 G2:Prop)(c:Col)(a:World)(f:AC→Int→Option AC)(d:Nat):Prop:=
 ∀{e l m n o},f l n=some o→G1→G2→Bk c a d e m 126→BR.rep c.F a m l→
  Calls PG 101 #[Pt e 0,I n] a fun q g=>∃h p,q=.returned (.tuple #[])∧AS [d] c a h g∧Bk h g d e p 126∧BR.rep h.F g p o
def B5.Spec(f:AC→Int→Option AC):Prop:=
 ∀c d {a},B5.At ([a].Nodup) (0∉[a]) c d f a
theorem OX(e:Col)(w:World)(m:∀b,e b<10):B5.At True True e w B5 1:=by
 intro y a ai f aj c _ _ g z
 rw [B5] at c
 obtain ⟨n,o,rfl,h⟩:=E1 (AZ z)
 refine Ay Tryz.func101 Z Tryz.ntmps101 Z fun B p al=>Sr<|Vm<|Vx (Nc Z)<|Vx (Fd JU Z)<|Vx (Ld BC Z (Bc g Z))<|Vr (.bool (a.why==0))<|AA<|Cn c (fun aa c=>?_) fun aa c=>?_
 refine Sr<|Vm<|Vm<|Vx (Nc Z)<|Vx (Fd JU Z)<|Eu<|St Mj g Z Z Z Z fun ab q r=>AA<|AL<|Vm<|Vm<|have s:=Ss Ah h r;Bi c fun d ac c=>Ca (Cg [Pt y 0] Z) (CW e ab ac dcd dcd q (AN (x:=(AC.mk a.marks a.at_ f a.where_ (Ai.mk a.l.text a.l.funcs a.l.arity a.l.nest) a.nest)) s)) ?_
 rintro _ am ⟨ad,an,rfl,l,ae⟩
 obtain rfl:=DM ae
 refine Vx (v:=I d.at_) (Kr (cs:=[I d.kind,Sb d.text,Cx d.num,I d.at_]) Yc Z Z)<|Vx (Nc Z)<|Vx (Fd U4 Z)<|have af:=Bs q l;Eu<|St Mj af Z Z Z Z fun ao ag u=>AA ?_
 obtain rfl:=AK c
 refine M9 (B:=B) p<|M8 Z<|have ah:=K2 Ah s l u;⟨ad,[Sl n a.marks o,I a.at_,I f,I d.at_,I a.l.text,I a.l.funcs,I a.l.arity,I a.l.nest,I a.nest],Z,Ho (T2 (Mo [1] r) l u) m,ag,(AN (x:=(AC.mk a.marks a.at_ f d.at_ (Ai.mk a.l.text a.l.funcs a.l.arity a.l.nest) a.nest)) ah)⟩
 refine WC.skip ?_
 obtain rfl:=AK c
 refine M9 (B:=B) p<|M8 Z<|⟨e,[Sl n a.marks o,I a.at_,I a.why,I a.where_,I a.l.text,I a.l.funcs,I a.l.arity,I a.l.nest,I a.nest],Z,Ho Rf m,g,(AN (x:=a) h)⟩
theorem FO:B5.Spec B5:=lk1 (OX)
def CM.At(G1 G2:Prop)(e:Col)(a:World)(f:AC→Option (Aj×AC))(g:Nat):Prop:=
 ∀{h m n l},f m=some l→G1→G2→Bk e a g h n 126→BR.rep e.F a n m→
  Calls PG 102 #[Pt h 0] a fun q c=>∃d o p,q=.returned (Ag o)∧AS [g] e a d c∧Ah.rep d.F c o l.1∧Bk d c g h p 126∧BR.rep d.F c p l.2
def CM.Spec(f:AC→Option (Aj×AC)):Prop:=
 ∀c d {a},CM.At ([a].Nodup) (0∉[a]) c d f a
theorem OY(r:Col)(al:World)(ac:∀b,r b<10):CM.At True True r al CM 1:=by
 intro s a bn am c _ _ an ao
 rw [CM] at c
 obtain ⟨ap,aq,rfl,ad⟩:=E1 (AZ ao)
 refine Ay Tryz.func102 Z Tryz.ntmps102 Z fun B ae bp=>Sr<|Ef<|AY r 20 G9 Z fun ar au av af n=>AA<|Sr<|Vm<|have o:=Bs an n;have u:=Ss Ah ad n;Bi c fun d aw c=>Ca (Cg [Pt s 0] Z) (CW ar au aw dcd dcd o (AN (x:=a) u)) ?_
 rintro _ bq ⟨ax,br,rfl,f,ay⟩
 obtain rfl:=DM ay
 refine Ef<|AY ax 21 G9 Z fun w bt az a0 g=>Eu<|St HN a0 Z Z Z Z fun a1 ag h=>AA<|AR<|Am (fun a2 y=>∃ah p z,a2=Env.puts ah [(0,Pt s 0),(2,Pt av 0),(3,Pt az 0),(15,.bool z)]∧GL a d z=some am∧AS [] w a1 p y) ?_ ?_
 refine AL<|Vm<|Vx (Nc Z)<|Vx (Fd JU Z)<|have a3:=Y3 o f g h;Vx (Ld BC Z (Bc a3 Z))<|Vr (.bool (a.why != 0))<|Vm<|Bo c (fun l c=>?_) fun l c=>?_
 refine Pg l<|Pg l<|Pg l<|Vp l<|AA<|⟨_,w,true,Pu,c,Rf⟩
 refine Gx l (Fz LN Z)<|Gx l (Ld Ph Z (Bc ag Z))<|Gr l (.bool (d.kind != 0))<|Vp l<|AA<|⟨_,w,(d.kind != 0),Pu,c,Rf⟩
 rintro _ y ⟨ah,p,z,rfl,c,m⟩
 rw [GL] at c
 refine Cn c (fun a4 c=>?_) fun a4 c=>?_
 refine Sr<|Vm<|have a5:=Y4 o f g h m;have a6:=K4 Ah u f g h m;Bi c fun e a7 c=>Ca (Cg [Pt s 0,I 21] Z) (FO p y a7 dcd dcd a5 (AN (x:=a) a6)) ?_
 rintro _ bu ⟨a8,bv,rfl,ai,a9,ba⟩
 obtain ⟨bb,bc,rfl,aj⟩:=E1 (AZ ba)
 refine AA<|Sr<|Vx (v:=Ag [I 0,Sb ([]:Bts),Cx (((0,0):Nat×Nat)),I 0]) (Bp G9 Vh Z .nil)<|have bd:=Bs (Y4 af f g h m) ai;Eu<|St HN bd Z Z Z Z fun bx be aa=>AA<|AQ ?_
 obtain rfl:=AK c
 refine O1 B ae Z (.agg Ia Z Z (Bw be))<|have bf:=Bs a9 aa;have bg:=Ss Ah aj aa;⟨a8,[I 0,Sb ([]:Bts),Cx (((0,0):Nat×Nat)),I 0],[Sl bb e.marks bc,I e.at_,I e.why,I e.where_,I e.l.text,I e.l.funcs,I e.l.arity,I e.l.nest,I e.nest],Z,Ho (T2 (T4 (Mo [1,20,21] n) f g h m) ai aa) ac,(Fo (x:=(Aj.mk 0 ([]:Bts) ((0,0):Nat×Nat) 0))),bf,(AN (x:=e) bg)⟩
 refine WC.skip<|Sr<|Vm<|Vx (Nc Z)<|Vx (Fd Gb Z)<|have ak:=Y4 o f g h m;Vx (Ld BC Z (Bc ak Z))<|Vr (I (Wr (a.at_+1)))<|Vx (Nc Z)<|Vx (Fd Gb Z)<|Eu<|St Mj ak Z Z Z Z fun bz bh q=>AA<|Sr<|have bi:=Y2 ag m q;Vx (Lx Ia Z Z (Bw bi))<|have bj:=Bs (Y4 af f g h m) q;Eu<|St HN bj Z Z Z Z fun b0 bk ab=>AA<|AQ ?_
 obtain rfl:=AK c
 refine O1 B ae Z (.agg Ia Z Z (Bw bk))<|have bl:=Bs bh ab;have bm:=K2 Ah (K4 Ah u f g h m) q ab;⟨p,[I d.kind,Sb d.text,Cx d.num,I d.at_],[Sl ap a.marks aq,I (Wr (a.at_+1)),I a.why,I a.where_,I a.l.text,I a.l.funcs,I a.l.arity,I a.l.nest,I a.nest],Z,Ho (T2 (T4 (Mo [1,20,21] n) f g h m) q ab) ac,(Fo (x:=d)),bl,(AN (x:=(AC.mk a.marks (Wr (a.at_+1)) a.why a.where_ (Ai.mk a.l.text a.l.funcs a.l.arity a.l.nest) a.nest)) bm)⟩
theorem H9:CM.Spec CM:=lk1 (OY)
def Br.At(G1 G2:Prop)(c:Col)(a:World)(f:AC→Bts→Option Bool)(m:Nat):Prop:=
 ∀{d e g h l},f e h=some l→G1→G2→Bk c a m d g 126→BR.rep c.F a g e→
  Calls PG 104 #[Pt d 0,Sb h] a fun n o=>∃p,n=.returned (.bool l)∧AS [] c a p o
def Br.Spec(f:AC→Bts→Option Bool):Prop:=
 ∀c d {a},Br.At ([a].Nodup) (0∉[a]) c d f a
theorem Pn(m:Col)(p:World)(ab:∀b,m b<10):Br.At True True m p Br 1:=by
 intro ac q ao g ad a _ _ r ae
 rw [Br] at a
 obtain ⟨aq,ar,rfl,s⟩:=E1 (AZ ae)
 refine Ay Tryz.func104 Z Tryz.ntmps104 Z fun B af au=>Sr<|Va (.bool false)<|AA<|Sr<|Vm<|Bi a fun e ag a=>Ca (Cg [Pt ac 0] Z) (CW m p ag dcd dcd r (AN (x:=q) s)) ?_
 rintro _ av ⟨ah,aw,rfl,u,ai⟩
 obtain rfl:=DM ai
 refine Ef<|AY ah 20 G9 Z fun h ax ay aj w=>Eu<|St HN aj Z Z Z Z fun ak l y=>AA<|Am (fun al z=>∃aa n o,al=Env.puts aa [(4,.bool o)]∧HU o=some ad∧AS [] h ak n z) ?_ ?_
 refine AL<|Vm<|Vx (Nc Z)<|Vx (Fd JU Z)<|have am:=Y3 r u w y;Vx (Ld BC Z (Bc am Z))<|Vr (.bool (q.why==0))<|Vm<|Bo a (fun c a=>?_) fun c a=>?_
 refine Gx c (Fz LN Z)<|Gx c (Ld Ph Z (Bc l Z))<|Gr c (.bool (e.kind==1))<|Gm c<|Bo a (fun f a=>?_) fun f a=>?_
 refine Pg f<|Pg f<|Pg f<|Gp c f<|Vp c<|Vm<|Gx Z (Fd Fm Z)<|Gx Z (Ld CG Z (Bc l Z))<|Gm Z<|Gx Z (v:=.bool (e.text==g)) (Run.strEq Z Z)<|Vr (.bool (e.text==g))<|Va (.bool (e.text==g))<|AA<|⟨_,h,(e.text==g),Pu,a,Rf⟩
 refine Gx f (Fz LN Z)<|Gx f (Ld Ph Z (Bc l Z))<|Gr f (.bool (e.kind==3))<|Gp c f<|Vp c<|Vm<|Bo a (fun d a=>?_) fun d a=>?_
 refine Gx d (Fd Fm Z)<|Gx d (Ld CG Z (Bc l Z))<|Gm d<|Gx d (v:=.bool (e.text==g)) (Run.strEq Z Z)<|Vp d<|Va (.bool (e.text==g))<|AA<|⟨_,h,(e.text==g),Pu,a,Rf⟩
 refine Pg d<|Pg d<|Pg d<|Pg d<|Vp d<|Va (.bool false)<|AA<|⟨_,h,false,Pu,a,Rf⟩
 refine Pg c<|Pg c<|Pg c<|Pg c<|Po<|Po<|Po<|Pg c<|Vp c<|Vm<|Pg Z<|Pg Z<|Pg Z<|Pg Z<|Vr (.bool false)<|Va (.bool false)<|AA<|⟨_,h,false,Pu,a,Rf⟩
 rintro _ z ⟨aa,n,o,rfl,a,an⟩
 rw [HU] at a
 refine AQ ?_
 obtain rfl:=AK a
 refine O1 B af Z (.tmp Z)<|⟨n,Z,Ho (T3 (Mo [20] u) w y an) ab⟩
theorem DA:Br.Spec Br:=lk1 (Pn)
def B6.At(G1 G2:Prop)(c:Col)(a:World)(f:AC→Bts→Option (Bool×AC))(d:Nat):Prop:=
 ∀{e m n o g},f m o=some g→G1→G2→Bk c a d e n 126→BR.rep c.F a n m→
  Calls PG 130 #[Pt e 0,Sb o] a fun q h=>∃l p,q=.returned (.bool g.1)∧AS [d] c a l h∧Bk l h d e p 126∧BR.rep l.F h p g.2
def B6.Spec(f:AC→Bts→Option (Bool×AC)):Prop:=
 ∀c d {a},B6.At ([a].Nodup) (0∉[a]) c d f a
theorem OZ(f:Col)(h:World)(l:∀b,f b<10):B6.At True True f h B6 1:=by
 intro s a af u ag c _ _ g w
 rw [B6] at c
 obtain ⟨m,n,rfl,e⟩:=E1 (AZ w)
 refine Ay Tryz.func130 Z Tryz.ntmps130 Z fun B o ai=>Sr<|Va (.bool false)<|AA<|AR<|Sr<|Vm<|Vm<|Bi c fun y z c=>Ca (Cg [Pt s 0,Sb u] Z) (DA f h z dcd dcd g (AN (x:=a) e)) ?_
 rintro _ aj ⟨p,rfl,d⟩
 refine Vr (.bool (!y))<|AA<|Cn c (fun aa c=>?_) fun aa c=>?_
 refine Sr<|Va (.bool false)<|AA<|AQ ?_
 obtain rfl:=AK c
 refine O1 B o Z (.tmp Z)<|have ab:=Bs g d;have ac:=Ss Ah e d;⟨p,[Sl m a.marks n,I a.at_,I a.why,I a.where_,I a.l.text,I a.l.funcs,I a.l.arity,I a.l.nest,I a.nest],Z,Ho (Mo [] d) l,ab,(AN (x:=a) ac)⟩
 refine WC.skip<|Sr<|Vm<|Vx (Nc Z)<|Vx (Fd Gb Z)<|have q:=Bs g d;Vx (Ld BC Z (Bc q Z))<|Vr (I (Wr (a.at_+1)))<|Vx (Nc Z)<|Vx (Fd Gb Z)<|Eu<|St Mj q Z Z Z Z fun ak ad r=>AA<|Sr<|Va (.bool true)<|AA<|AQ ?_
 obtain rfl:=AK c
 refine O1 B o Z (.tmp Z)<|have ae:=K2 Ah e d r;⟨p,[Sl m a.marks n,I (Wr (a.at_+1)),I a.why,I a.where_,I a.l.text,I a.l.funcs,I a.l.arity,I a.l.nest,I a.nest],Z,Ho (Tn (Mo [1] d) r) l,ad,(AN (x:=(AC.mk a.marks (Wr (a.at_+1)) a.why a.where_ (Ai.mk a.l.text a.l.funcs a.l.arity a.l.nest) a.nest)) ae)⟩
theorem FP:B6.Spec B6:=lk1 (OZ)
def BB.At(G1 G2:Prop)(c:Col)(a:World)(f:AC→Bts→Option AC)(d:Nat):Prop:=
 ∀{e l m n o},f l n=some o→G1→G2→Bk c a d e m 126→BR.rep c.F a m l→
  Calls PG 103 #[Pt e 0,Sb n] a fun q g=>∃h p,q=.returned (.tuple #[])∧AS [d] c a h g∧Bk h g d e p 126∧BR.rep h.F g p o
def BB.Spec(f:AC→Bts→Option AC):Prop:=
 ∀c d {a},BB.At ([a].Nodup) (0∉[a]) c d f a
theorem Oa(e:Col)(g:World)(h:∀b,e b<10):BB.At True True e g BB 1:=by
 intro l s am u an c _ _ w y
 rw [BB] at c
 obtain ⟨ap,aq,rfl,m⟩:=E1 (AZ y)
 refine Ay Tryz.func103 Z Tryz.ntmps103 Z fun B n ar=>Sr<|Vm<|Vm<|Bi c fun a z c=>Ca (Cg [Pt l 0,Sb u] Z) (FP e g z dcd dcd w (AN (x:=s) m)) ?_
 rintro _ aa ⟨o,au,rfl,p,q,ab⟩
 obtain ⟨ac,ad,rfl,f⟩:=E1 (AZ ab)
 refine Vr (.bool (!a.1))<|AA<|Cn c (fun ae c=>?_) fun ae c=>?_
 refine AL<|Vm<|Bi c fun d af c=>Ca (Cg [Pt l 0,I 21] Z) (FO o aa af dcd dcd q (AN (x:=a.2) f)) ?_
 rintro _ aw ⟨ag,ax,rfl,ah,ai,aj⟩
 obtain ⟨ak,al,rfl,r⟩:=E1 (AZ aj)
 refine AA ?_
 obtain rfl:=AK c
 refine M9 (B:=B) n<|M8 Z<|⟨ag,[Sl ak d.marks al,I d.at_,I d.why,I d.where_,I d.l.text,I d.l.funcs,I d.l.arity,I d.l.nest,I d.nest],Z,Ho (Tn (Mo [1] p) ah) h,ai,(AN (x:=d) r)⟩
 refine WC.skip ?_
 obtain rfl:=AK c
 refine M9 (B:=B) n<|M8 Z<|⟨o,[Sl ac a.2.marks ad,I a.2.at_,I a.2.why,I a.2.where_,I a.2.l.text,I a.2.l.funcs,I a.2.l.arity,I a.2.l.nest,I a.2.nest],Z,Ho (Mo [1] p) h,q,(AN (x:=a.2) f)⟩
theorem BZ:BB.Spec BB:=lk1 (Oa)
def CP.At(G1 G2:Prop)(c:Col)(a:World)(f:AC→Option (Int×AC))(d:Nat):Prop:=
 ∀{e m n g},f m=some g→G1→G2→Bk c a d e n 126→BR.rep c.F a n m→
  Calls PG 105 #[Pt e 0] a fun p h=>∃l o,p=.returned (I g.1)∧AS [d] c a l h∧Bk l h d e o 126∧BR.rep l.F h o g.2
def CP.Spec(f:AC→Option (Int×AC)):Prop:=
 ∀c d {a},CP.At ([a].Nodup) (0∉[a]) c d f a
theorem PD(aj:Nat)(ac:Col)(a4:World)(ak:∀b,ac b<10):CP.At True True ac a4 (CP aj) 1:=by
 intro z f bx al a _ _ a5 a6
 rw [CP] at a
 obtain ⟨a7,a8,rfl,am⟩:=E1 (AZ a6)
 refine Ay Tryz.func105 Z Tryz.ntmps105 Z fun B an b0=>Sr<|Va (I 0)<|AA<|Sr<|Ef<|Ch (cs:=[Sb ([78]:Bts),Sb ([66]:Bts),Sb ([76]:Bts)]) ac 20 [[Sb ([78]:Bts)],[Sb ([66]:Bts)],[Sb ([76]:Bts)]] IR Pz Z Z (.cons Z Z Z (.cons Z Z Z (.cons Z Z Z .nil))) Z fun ad ao ae a9 aa=>have ba:Own DV 9 ad ao 20 (.slice (some ⟨ae,0,none⟩) 3 3) ([([78]:Bts),([66]:Bts),([76]:Bts)]:List Bts):=Own.lit (css:=[[Sb ([78]:Bts)],[Sb ([66]:Bts)],[Sb ([76]:Bts)]]) a9 Z Z Z (Aa Z (Aa Z (Aa Z BA))) (A4 Z (A4 Z (A4 Z D3))) Z;Va (Sl (some ⟨ae,0,none⟩) (([([78]:Bts),([66]:Bts),([76]:Bts)]:List Bts)) 3)<|AA<|AR<|Sr<|Va (I 0)<|AA<|Af<|Bg (fun g bb l=>∃ap m d h af ag n o p q r u w y,bb=Env.puts ap [(0,Pt z 0),(3,Sl (some ⟨ae,0,none⟩) (([([78]:Bts),([66]:Bts),([76]:Bts)]:List Bts)) 3),(4,I d)]∧CO g d h n o p q r u w y=some al∧AS [1] ad ao m l∧Slc Ah m.F l (Sl af h ag) h∧Bk m l 1 z [Sl af h ag,I n,I o,I p,I q,I r,I u,I w,I y] 126) aj ?_ ?_
 refine have bc:=Ss Ah am aa;have bd:=Bs a5 aa;⟨_,ad,0,f.marks,a7,a8,f.at_,f.why,f.where_,f.l.text,f.l.funcs,f.l.arity,f.l.nest,f.nest,Pu,a,(AS.refl [1] _ _),bc,bd⟩
 rintro g _ l ⟨ap,m,d,h,af,ag,n,o,p,q,r,u,w,y,rfl,a,ab,aq,ar⟩
 rcases g with _|g
 exact A5 a
 refine have a:DN (CO g) d h n o p q r u w y=some al:=a; ?_
 obtain ⟨b1,au⟩:∃s,s=CO g:=⟨_,rfl⟩
 rw [←au,DN] at a
 refine AR<|Sr<|Vm<|Vm<|have av:=Os ba ab; ?_
 obtain ⟨b2,b3,be⟩:=Own.len av
 refine Vx (v:=I (([([78]:Bts),([66]:Bts),([76]:Bts)]:List Bts).length:Int)) (Ll IR be)<|Vr (.bool (decide (d< (([([78]:Bts),([66]:Bts),([76]:Bts)]:List Bts).length:Int))))<|AA<|Cn a (fun bf a=>?_) fun bf a=>?_
 refine WC.skip<|AR<|Af<|Sr<|Vm<|Vm<|Vm<|Bi a fun aw bg a=>?_
 obtain ⟨bh,b4,ax,bi,bj,bk,bl,ah⟩:=KL (κ:=DV) av bg
 replace ah:GD 20 m l bh (0+d.toNat*1) ax:=ah
 obtain rfl:=(show ax=[Sb aw] from bl)
 refine Vx (Ix IR bi Z bj bk)<|Vx (Ld CG Z (GD.cell0 ah Z))<|Bi a fun c bm a=>Ca (Cg [Pt z 0,Sb aw] Z) (FP m l bm dcd dcd ar (AN (x:=(AC.mk h n o p (Ai.mk q r u w) y)) aq)) ?_
 rintro _ b5 ⟨ay,b6,rfl,az,a0,bn⟩
 obtain ⟨a1,a2,rfl,ai⟩:=E1 (AZ bn)
 refine AA<|Cn a (fun bo a=>?_) fun bo a=>?_
 refine Sr<|Vm<|Vr (I (Wr (d+1)))<|Va (I (Wr (d+1)))<|AA<|AQ ?_
 obtain rfl:=AK a
 refine O1 B an Z (.tmp Z)<|⟨ay,[Sl a1 c.2.marks a2,I c.2.at_,I c.2.why,I c.2.where_,I c.2.l.text,I c.2.l.funcs,I c.2.l.arity,I c.2.l.nest,I c.2.nest],Z,Ho (T2 (Mo [1] aa) ab az) ak,a0,(AN (x:=c.2) ai)⟩
 refine WC.skip<|AL<|Vm<|Vr (I (Wr (d+1)))<|Va (I (Wr (d+1)))<|AA<|⟨g,Nat.lt_succ_self g,_,ay,(Wr (d+1)),c.2.marks,a1,a2,c.2.at_,c.2.why,c.2.where_,c.2.l.text,c.2.l.funcs,c.2.l.arity,c.2.l.nest,c.2.nest,Pu,(au▸a),(Tn (Mo [1] ab) az),ai,a0⟩
 refine Ba<|Sr<|Vm<|Bi a fun e bp a=>Ca (Cg [Pt z 0,I 21] Z) (FO m l bp dcd dcd ar (AN (x:=(AC.mk h n o p (Ai.mk q r u w) y)) aq)) ?_
 rintro _ b8 ⟨bq,b9,rfl,br,bt,bu⟩
 obtain ⟨bv,bw,rfl,a3⟩:=E1 (AZ bu)
 refine AA<|Sr<|Va (I 0)<|AA<|AQ ?_
 obtain rfl:=AK a
 refine O1 B an Z (.tmp Z)<|⟨bq,[Sl bv e.marks bw,I e.at_,I e.why,I e.where_,I e.l.text,I e.l.funcs,I e.l.arity,I e.l.nest,I e.nest],Z,Ho (T2 (Mo [1] aa) ab br) ak,bt,(AN (x:=e) a3)⟩
theorem Jy(d:Nat):CP.Spec (CP d):=lk1 (PD d)
def JK.At(c:Col)(a:World)(f:Int→AE→AE→Aj→Option AE):Prop:=
 ∀{d e g h l m n o},f d e h m=some o→AH.rep c.F a g e→AH.rep c.F a l h→Ah.rep c.F a n m→
  Calls PG 144 #[I d,Ag g,Ag l,Ag n] a fun s p=>∃q r,s=.returned (Ag r)∧AS [] c a q p∧AH.rep q.F p r o
def JK.Spec(f:Int→AE→AE→Aj→Option AE):Prop:=
 ∀a c,JK.At a c f
theorem UQ(r:Col)(ac:World)(ad:∀b,r b<10):JK.At r ac JK:=by
 intro d a a6 c a7 e a8 a9 u ae af ag
 rw [JK] at u
 obtain ⟨m,n,rfl,w⟩:=E1 (Ae ae)
 obtain ⟨o,p,rfl,y⟩:=E1 (Ae af)
 obtain rfl:=DM ag
 refine Ay Tryz.func144 Z Tryz.ntmps144 Z fun B ah bc=>Sr<|Ef<|A0 r 20 Z Z fun ai bd be aj s=>Ef<|A0 ai 21 Z Z fun ak bf bg al q=>Ef<|A0 ak 22 Z Z fun am bh bi an h=>Ef<|AY am 23 De Z fun ao bj bk ap f=>AA<|Sr<|Vm<|have aq:=Y3 aj q h f;Vx (Lx A9 Z Z (Bw aq))<|have ar:=Y2 al h f;Vx (Lx A9 Z Z (Bw ar))<|Ef<|Ch (cs:=[I a.op,Sb a.name,Sb a.tail,I a.type_,Cx a.num,Sl m a.args n,I a.at_,I c.op,Sb c.name,Sb c.tail,I c.type_,Cx c.num,Sl o c.args p,I c.at_]) ao 24 [[I a.op,Sb a.name,Sb a.tail,I a.type_,Cx a.num,Sl m a.args n,I a.at_],[I c.op,Sb c.name,Sb c.tail,I c.type_,Cx c.num,Sl o c.args p,I c.at_]] CH De Z Z (.cons Z Z Z (.cons Z Z Z .nil)) Z fun au av g aw l=>have ax:=Ss AH (K4 AH y s q h f) l;have ay:=Ss AH (K4 AH w s q h f) l;have z:Own AH 56 au av 24 (.slice (some ⟨g,0,none⟩) 2 2) ([a,c]:List AE):=Own.lit (css:=[[I a.op,Sb a.name,Sb a.tail,I a.type_,Cx a.num,Sl m a.args n,I a.at_],[I c.op,Sb c.name,Sb c.tail,I c.type_,Cx c.num,Sl o c.args p,I c.at_]]) aw Z Z Z (Aa (AW (x:=a) ay) (Aa (AW (x:=c) ax) BA)) (A4 Z (A4 Z D3)) Z;Vx (Fd Ls Z)<|have az:=Y2 an f l;Vx (Ld BC Z (Bc az Z))<|Vx (v:=Ag [I d,Sb ([]:Bts),Sb ([]:Bts),I 0,Cx (((0,0):Nat×Nat)),Sl (some ⟨g,0,none⟩) (([a,c]:List AE)) 2,I e.at_]) (Bp De Na Z (.cons Z Z Z (.cons Z Z Z (.cons Z Z Z .nil))))<|have a0:=Bs ap l;Eu<|Bv (vs:=[I d,Sb ([]:Bts),Sb ([]:Bts),I 0,Cx (((0,0):Nat×Nat)),Sl (some ⟨g,0,none⟩) (([a,c]:List AE)) 2,I e.at_]) (cs':=[I d,Sb ([]:Bts),Sb ([]:Bts),I 0,Cx (((0,0):Nat×Nat)),Sl (some ⟨g,0,none⟩) (([a,c]:List AE)) 2,I e.at_]) D1 Z Z Z Z (AX Z (AX Z (AX Z (AX Z (AX Z (AX (Own.one z) (AX Z CJ))))))) a0 dcd Z Z fun bl a1 aa=>AA<|AQ<|have a2:=Os z aa; ?_
 obtain ⟨a3,ab,a4⟩:=Own.freeze (S:=[24]) a2 dcd dcd
 obtain rfl:=AK u
 refine have a5:=Bs a1 ab;O1 B ah Z (.agg A9 Z Z (Bw a5))<|⟨a3,[I d,Sb ([]:Bts),Sb ([]:Bts),I 0,Cx (((0,0):Nat×Nat)),Sl (some ⟨g,0,none⟩) (([a,c]:List AE)) 2,I e.at_],Z,Ho (T2 (T4 (Mo [23,24] s) q h f l) aa ab) ad,(AW (x:=(AE.mk d ([]:Bts) ([]:Bts) 0 ((0,0):Nat×Nat) ([a,c]:List AE) e.at_)) a4)⟩
theorem M1:JK.Spec JK:=lk0 (UQ)
def IB.At(e:Col)(a:World)(f:Bts→Option Int):Prop:=
 ∀{c d},f c=some d→
  Calls PG 163 #[Sb c] a fun g h=>∃l,g=.returned (I d)∧AS [] e a l h
def IB.Spec(f:Bts→Option Int):Prop:=
 ∀a c,IB.At a c f
theorem TD(d:Col)(g:World)(e:∀b,d b<10):IB.At d g IB:=by
 intro c s a
 rw [IB] at a
 refine Ay Tryz.func163 Z Tryz.ntmps163 Z fun B f u=>Sr<|Va (I 0)<|AA<|AR<|Sr<|Vm<|AA<|Af<|Sr<|Vx (v:=.bool (c==([116,114,117,101]:Bts))) (Run.strEq Z Z)<|Va (.bool (c==([116,114,117,101]:Bts)))<|AA<|Cn a (fun h a=>?_) fun h a=>?_
 refine Sr<|Va (I 2)<|AA<|AQ ?_
 obtain rfl:=AK a
 refine O1 B f Z (.tmp Z)<|⟨d,Z,Ho Rf e⟩
 refine Sr<|Vx (v:=.bool (c==([102,97,108,115,101]:Bts))) (Run.strEq Z Z)<|Va (.bool (c==([102,97,108,115,101]:Bts)))<|AA<|Cn a (fun l a=>?_) fun l a=>?_
 refine Sr<|Va (I 3)<|AA<|AQ ?_
 obtain rfl:=AK a
 refine O1 B f Z (.tmp Z)<|⟨d,Z,Ho Rf e⟩
 refine Sr<|Vx (v:=.bool (c==([110,105,108]:Bts))) (Run.strEq Z Z)<|Va (.bool (c==([110,105,108]:Bts)))<|AA<|Cn a (fun m a=>?_) fun m a=>?_
 refine Sr<|Va (I 4)<|AA<|AQ ?_
 obtain rfl:=AK a
 refine O1 B f Z (.tmp Z)<|⟨d,Z,Ho Rf e⟩
 refine Sr<|Vx (v:=.bool (c==([102,97,105,108]:Bts))) (Run.strEq Z Z)<|Va (.bool (c==([102,97,105,108]:Bts)))<|AA<|Cn a (fun n a=>?_) fun n a=>?_
 refine Sr<|Va (I 5)<|AA<|AQ ?_
 obtain rfl:=AK a
 refine O1 B f Z (.tmp Z)<|⟨d,Z,Ho Rf e⟩
 refine Sr<|Vx (v:=.bool (c==([110,111,116]:Bts))) (Run.strEq Z Z)<|Va (.bool (c==([110,111,116]:Bts)))<|AA<|Cn a (fun o a=>?_) fun o a=>?_
 refine Sr<|Va (I 14)<|AA<|AQ ?_
 obtain rfl:=AK a
 refine O1 B f Z (.tmp Z)<|⟨d,Z,Ho Rf e⟩
 refine Sr<|Vx (v:=.bool (c==([114,101]:Bts))) (Run.strEq Z Z)<|Va (.bool (c==([114,101]:Bts)))<|AA<|Cn a (fun p a=>?_) fun p a=>?_
 refine Sr<|Va (I 15)<|AA<|AQ ?_
 obtain rfl:=AK a
 refine O1 B f Z (.tmp Z)<|⟨d,Z,Ho Rf e⟩
 refine Sr<|Vx (v:=.bool (c==([105,109]:Bts))) (Run.strEq Z Z)<|Va (.bool (c==([105,109]:Bts)))<|AA<|Cn a (fun q a=>?_) fun q a=>?_
 refine Sr<|Va (I 16)<|AA<|AQ ?_
 obtain rfl:=AK a
 refine O1 B f Z (.tmp Z)<|⟨d,Z,Ho Rf e⟩
 refine Sr<|Vx (v:=.bool (c==([99,111,110,106]:Bts))) (Run.strEq Z Z)<|Va (.bool (c==([99,111,110,106]:Bts)))<|AA<|Cn a (fun r a=>?_) fun r a=>?_
 refine Sr<|Va (I 17)<|AA<|AQ ?_
 obtain rfl:=AK a
 refine O1 B f Z (.tmp Z)<|⟨d,Z,Ho Rf e⟩
 refine WC.skip<|Sr<|Va (I 0)<|AA<|AQ ?_
 obtain rfl:=AK a
 refine O1 B f Z (.tmp Z)<|⟨d,Z,Ho Rf e⟩
theorem Nd:IB.Spec IB:=lk0 (TD)
def ref04_reader_expr.At(G1 G2:Prop)(e:Col)(a:World)(f:AC→Option (AE×AC))(g:Nat):Prop:=
 ∀{h m n l},f m=some l→G1→G2→Bk e a g h n 126→BR.rep e.F a n m→
  Calls PG 106 #[Pt h 0] a fun q c=>∃d o p,q=.returned (Ag o)∧AS [g] e a d c∧AH.rep d.F c o l.1∧Bk d c g h p 126∧BR.rep d.F c p l.2
def ref04_reader_expr.Spec(f:AC→Option (AE×AC)):Prop:=
 ∀c d {a},ref04_reader_expr.At ([a].Nodup) (0∉[a]) c d f a
def ref04_reader_cons.At(G1 G2:Prop)(e:Col)(a:World)(f:AC→Option (AE×AC))(g:Nat):Prop:=
 ∀{h m n l},f m=some l→G1→G2→Bk e a g h n 126→BR.rep e.F a n m→
  Calls PG 131 #[Pt h 0] a fun q c=>∃d o p,q=.returned (Ag o)∧AS [g] e a d c∧AH.rep d.F c o l.1∧Bk d c g h p 126∧BR.rep d.F c p l.2
def ref04_reader_cons.Spec(f:AC→Option (AE×AC)):Prop:=
 ∀c d {a},ref04_reader_cons.At ([a].Nodup) (0∉[a]) c d f a
def ref04_reader_parts.At(G1 G2:Prop)(c:Col)(a:World)(f:AC→(List Bts)→Option ((List AE)×AC))(g:Nat):Prop:=
 ∀{h m n o p l},f m o=some l→G1→G2→Bk c a g h n 126→BR.rep c.F a n m→Slc DV c.F a p o→
  Calls PG 132 #[Pt h 0,p] a fun s d=>∃e q r,s=.returned q∧AS [g] c a e d∧Slc AH e.F d q l.1∧Bk e d g h r 126∧BR.rep e.F d r l.2
def ref04_reader_parts.Spec(f:AC→(List Bts)→Option ((List AE)×AC)):Prop:=
 ∀c d {a},ref04_reader_parts.At ([a].Nodup) (0∉[a]) c d f a
def ref04_reader_branches.At(G1 G2:Prop)(c:Col)(a:World)(f:AC→AE→Option (AC×AE))(g h:Nat):Prop:=
 ∀{l o p m q r n},f o q=some n→G1→G2→Bk c a g l p 126→BR.rep c.F a p o→Bk c a h m r 56→AH.rep c.F a r q→
  Calls PG 133 #[Pt l 0,Pt m 0] a fun w d=>∃e s u,w=.returned (.tuple #[])∧AS [g,h] c a e d∧Bk e d g l s 126∧BR.rep e.F d s n.1∧Bk e d h m u 56∧AH.rep e.F d u n.2
def ref04_reader_branches.Spec(f:AC→AE→Option (AC×AE)):Prop:=
 ∀d e {a c},ref04_reader_branches.At ([a,c].Nodup) (0∉[a,c]) d e f a c
def ref04_reader_comp.At(G1 G2:Prop)(e:Col)(a:World)(f:AC→Option (AE×AC))(g:Nat):Prop:=
 ∀{h m n l},f m=some l→G1→G2→Bk e a g h n 126→BR.rep e.F a n m→
  Calls PG 143 #[Pt h 0] a fun q c=>∃d o p,q=.returned (Ag o)∧AS [g] e a d c∧AH.rep d.F c o l.1∧Bk d c g h p 126∧BR.rep d.F c p l.2
def ref04_reader_comp.Spec(f:AC→Option (AE×AC)):Prop:=
 ∀c d {a},ref04_reader_comp.At ([a].Nodup) (0∉[a]) c d f a
def ref04_reader_sum.At(G1 G2:Prop)(e:Col)(a:World)(f:AC→Option (AE×AC))(g:Nat):Prop:=
 ∀{h m n l},f m=some l→G1→G2→Bk e a g h n 126→BR.rep e.F a n m→
  Calls PG 148 #[Pt h 0] a fun q c=>∃d o p,q=.returned (Ag o)∧AS [g] e a d c∧AH.rep d.F c o l.1∧Bk d c g h p 126∧BR.rep d.F c p l.2
def ref04_reader_sum.Spec(f:AC→Option (AE×AC)):Prop:=
 ∀c d {a},ref04_reader_sum.At ([a].Nodup) (0∉[a]) c d f a
def ref04_reader_term.At(G1 G2:Prop)(e:Col)(a:World)(f:AC→Option (AE×AC))(g:Nat):Prop:=
 ∀{h m n l},f m=some l→G1→G2→Bk e a g h n 126→BR.rep e.F a n m→
  Calls PG 151 #[Pt h 0] a fun q c=>∃d o p,q=.returned (Ag o)∧AS [g] e a d c∧AH.rep d.F c o l.1∧Bk d c g h p 126∧BR.rep d.F c p l.2
def ref04_reader_term.Spec(f:AC→Option (AE×AC)):Prop:=
 ∀c d {a},ref04_reader_term.At ([a].Nodup) (0∉[a]) c d f a
def ref04_reader_unit.At(G1 G2:Prop)(e:Col)(a:World)(f:AC→Option (AE×AC))(g:Nat):Prop:=
 ∀{h m n l},f m=some l→G1→G2→Bk e a g h n 126→BR.rep e.F a n m→
  Calls PG 157 #[Pt h 0] a fun q c=>∃d o p,q=.returned (Ag o)∧AS [g] e a d c∧AH.rep d.F c o l.1∧Bk d c g h p 126∧BR.rep d.F c p l.2
def ref04_reader_unit.Spec(f:AC→Option (AE×AC)):Prop:=
 ∀c d {a},ref04_reader_unit.At ([a].Nodup) (0∉[a]) c d f a
def ref04_reader_named.At(G1 G2:Prop)(c:Col)(a:World)(f:AC→Aj→Option (AE×AC))(g:Nat):Prop:=
 ∀{h m n o p l},f m o=some l→G1→G2→Bk c a g h n 126→BR.rep c.F a n m→Ah.rep c.F a p o→
  Calls PG 162 #[Pt h 0,Ag p] a fun s d=>∃e q r,s=.returned (Ag q)∧AS [g] c a e d∧AH.rep e.F d q l.1∧Bk e d g h r 126∧BR.rep e.F d r l.2
def ref04_reader_named.Spec(f:AC→Aj→Option (AE×AC)):Prop:=
 ∀c d {a},ref04_reader_named.At ([a].Nodup) (0∉[a]) c d f a
structure AB.Good(a:AB):Prop where
 ref04_reader_expr:ref04_reader_expr.Spec a.ref04_reader_expr
 ref04_reader_cons:ref04_reader_cons.Spec a.ref04_reader_cons
 ref04_reader_parts:ref04_reader_parts.Spec a.ref04_reader_parts
 ref04_reader_branches:ref04_reader_branches.Spec a.ref04_reader_branches
 ref04_reader_comp:ref04_reader_comp.Spec a.ref04_reader_comp
 ref04_reader_sum:ref04_reader_sum.Spec a.ref04_reader_sum
 ref04_reader_term:ref04_reader_term.Spec a.ref04_reader_term
 ref04_reader_unit:ref04_reader_unit.Spec a.ref04_reader_unit
 ref04_reader_named:ref04_reader_named.Spec a.ref04_reader_named
theorem Ob(aq:AB)(ar:Nat)(b4:AB.Good aq)(ct:Col)(ek:World)(cu:∀b,ct b<10):ref04_reader_expr.At True True ct ek (DC aq ar) 1:=by
 intro c h i3 au a _ _ el em
 rw [DC] at a
 obtain ⟨en,eo,rfl,db⟩:=E1 (AZ em)
 refine Ay Tryz.func106 Z Tryz.ntmps106 Z fun B cv e=>Sr<|Ef<|AY ct 20 De Z fun ep eq av cw bt=>AA<|Sr<|Vm<|have bu:=Bs el bt;have b5:=Ss Ah db bt;Bi a fun m er a=>Ca (Cg [Pt c 0] Z) (CW ep eq er dcd dcd bu (AN (x:=h) b5)) ?_
 rintro _ i5 ⟨es,i6,rfl,ab,et⟩
 obtain rfl:=DM et
 refine Ef<|AY es 21 G9 Z fun dc i7 bv eu ac=>Eu<|St HN eu Z Z Z Z fun de ew ad=>AA<|Am (fun p b6=>∃f a3 l,p=Env.puts f [(0,Pt c 0),(2,Pt av 0),(3,Pt bv 0),(4,.bool l)]∧DO aq ar h m l=some au∧AS [] dc de a3 b6) ?_ ?_
 refine AL<|Vm<|have df:=Y3 bu ab ac ad;have dg:=K3 Ah b5 ab ac ad;Bi a fun i8 ex a=>Ca (Cg [Pt c 0,Sb ([108,101,116]:Bts)] Z) (DA dc de ex dcd dcd df (AN (x:=h) dg)) ?_
 rintro _ ey ⟨dh,rfl,bw⟩
 refine Vm<|Bo a (fun a4 a=>?_) fun a4 a=>?_
 refine Pg a4<|Pg a4<|Vp a4<|Vm<|Pg Z<|Pg Z<|Vr (.bool true)<|Va (.bool true)<|AA<|⟨_,dh,true,Pu,a,(Mo [] bw)⟩
 refine Gm a4<|have di:=Bs df bw;have dj:=Ss Ah dg bw;Bi a fun i9 ez a=>CT (.guard (t:=false) (b:=false) Z Z Z Z (Cb a4)) Z Z (Cg [Pt c 0,Sb ([115,116,114,105,99,116]:Bts)] Z)<|Calls.mono (DA dh ey ez dcd dcd di (AN (x:=h) dj)) ?_
 rintro _ e0 ⟨dk,rfl,b7⟩
 refine ⟨_,Z,?_⟩
 refine Vp a4<|Vm<|Bo a (fun a5 a=>?_) fun a5 a=>?_
 refine Pg a5<|Pg a5<|Vp a5<|Va (.bool true)<|AA<|⟨_,dk,true,Pu,a,(Tn (Mo [] bw) b7)⟩
 refine Gm a5<|have e1:=Bs di b7;have e2:=Ss Ah dj b7;Bi a fun dl e3 a=>CT (.guard (t:=false) (b:=false) Z Z Z Z (Cb a5)) Z Z (Cg [Pt c 0,Sb ([99,97,115,101]:Bts)] Z)<|Calls.mono (DA dk e0 e3 dcd dcd e1 (AN (x:=h) e2)) ?_
 rintro _ ja ⟨e4,rfl,e5⟩
 refine ⟨_,Z,?_⟩
 refine Vp a5<|Va (.bool dl)<|AA<|⟨_,e4,dl,Pu,a,(T2 (Mo [] bw) b7 e5)⟩
 rintro _ b6 ⟨f,a3,l,rfl,a,ae⟩
 rw [DO] at a
 refine Am (fun p bg=>∃f aw n bx bz q r u w y z aa ag,p=Env.puts f [(0,Pt c 0),(2,Pt av 0),(3,Pt bv 0),(4,.bool l)]∧Dt aq ar m l n q r u w y z aa ag=some au∧AS [1] a3 b6 aw bg∧Slc Ah aw.F bg (Sl bx n bz) n∧Bk aw bg 1 c [Sl bx n bz,I q,I r,I u,I w,I y,I z,I aa,I ag] 126) ?_ ?_
 refine Am (fun p cx=>∃f b8 cy,p=Env.puts f [(0,Pt c 0),(2,Pt av 0),(3,Pt bv 0),(4,.bool l),(31,.bool cy)]∧Du aq ar h m l cy=some au∧AS [] a3 b6 b8 cx) ?_ ?_
 refine BW Cv (qs 0 13 .nil) [] [] a3 (by kernel_rfl) fun jb cz=>Qx e Z (v:=.bool l) (fun _ _=>Mv Z)<|Qx e Z (v:=.bool l) (fun _ _=>Mv Z)<|Bo a (fun g a=>?_) fun g a=>?_
 refine Qg e Z g (v:=Pt c 0) (fun _ _=>Mv Z)<|Qg e Z g (fun _ _=>Nc Z)<|Qg e Z g (fun _ _=>Fd Nv Z)<|have dm:=Bs (Y4 bu ab ac ad ae) cz;Qg e Z g (fun _ ⟨_,s⟩=>Ld BC Z (Bc (Bs dm s) Z))<|Qg e Z g (v:=Pt c 0) (fun _ _=>Mv Z)<|Qg e Z g (fun _ _=>Nc Z)<|Qg e Z g (fun _ _=>Fd Qy Z)<|Qg e Z g (fun _ _=>Fd ZJ Z)<|Qg e Z g (fun _ ⟨_,s⟩=>Ld BC Z (Bc (Bs dm s) Z))<|Qg e Z g (v:=.bool (decide (h.nest≥h.l.nest))) (fun _ _=>Z)<|Qx e Z (v:=.bool (decide (h.nest≥h.l.nest))) (fun _ _=>(Pk g))<|B9<|⟨_,a3,(decide (h.nest≥h.l.nest)),Pu,a,(Mo [] cz)⟩
 refine Qp e Z g<|Qp e Z g<|Qp e Z g<|Qp e Z g<|Qp e Z g<|Qp e Z g<|Qp e Z g<|Qp e Z g<|Qp e Z g<|Qp e Z g<|Qx e Z (v:=.bool false) (fun _ _=>(Pk g))<|B9<|⟨_,a3,false,Pu,a,(Mo [] cz)⟩
 rintro _ cx ⟨f,b8,cy,rfl,a,bh⟩
 rw [Du] at a
 refine Cn a (fun e6 a=>?_) fun e6 a=>?_
 refine AL<|Vm<|have e7:=Bs (Y4 bu ab ac ad ae) bh;have e8:=Ss Ah (K4 Ah b5 ab ac ad ae) bh;Bi a fun ak e9 a=>Ca (Cg [Pt c 0,I 23] Z) (FO b8 cx e9 dcd dcd e7 (AN (x:=h) e8)) ?_
 rintro _ jc ⟨fa,jd,rfl,fb,fc,fd⟩
 obtain ⟨fe,ff,rfl,dn⟩:=E1 (AZ fd)
 refine AA<|⟨_,fa,ak.marks,fe,ff,ak.at_,ak.why,ak.where_,ak.l.text,ak.l.funcs,ak.l.arity,ak.l.nest,ak.nest,Pu,a,(Tn (Mo [1] bh) fb),dn,fc⟩
 refine WC.skip<|have fg:=Ss Ah (K4 Ah b5 ab ac ad ae) bh;have fh:=Bs (Y4 bu ab ac ad ae) bh;⟨_,b8,h.marks,en,eo,h.at_,h.why,h.where_,h.l.text,h.l.funcs,h.l.arity,h.l.nest,h.nest,Pu,a,(Mo [1] bh),fg,fh⟩
 rintro _ bg ⟨f,aw,n,bx,bz,q,r,u,w,y,z,aa,ag,rfl,a,a6,bi,bj⟩
 rw [Dt] at a
 refine AR<|Sr<|Vm<|Vx (Nc Z)<|Vx (Fd JU Z)<|Vx (Ld BC Z (Bc bj Z))<|Vr (.bool (r != 0))<|AA<|Cn a (fun fi a=>?_) fun fi a=>?_
 refine Sr<|Vx (v:=Ag [I 0,Sb ([]:Bts),Sb ([]:Bts),I 0,Cx (((0,0):Nat×Nat)),.slice none 0 0,I 0]) (Bp De Na Z .nil)<|have fj:=Bs (Y4 cw ab ac ad ae) a6;Eu<|St D1 fj Z Z Z Z fun jf fk c0=>AA<|AQ ?_
 obtain rfl:=AK a
 refine O1 B cv Z (.agg A9 Z Z (Bw fk))<|have fl:=Bs bj c0;have fm:=Ss Ah bi c0;⟨aw,[I 0,Sb ([]:Bts),Sb ([]:Bts),I 0,Cx (((0,0):Nat×Nat)),.slice none 0 0,I 0],[Sl bx n bz,I q,I r,I u,I w,I y,I z,I aa,I ag],Z,Ho (T2 (T4 (Mo [1,20,21] bt) ab ac ad ae) a6 c0) cu,(AW (x:=(AE.mk 0 ([]:Bts) ([]:Bts) 0 ((0,0):Nat×Nat) [] 0)) BK),fl,(AN (x:=(AC.mk n q r u (Ai.mk w y z aa) ag)) fm)⟩
 refine WC.skip<|AR<|Am (fun p b9=>∃f bk c1,p=Env.puts f [(0,Pt c 0),(2,Pt av 0),(3,Pt bv 0),(4,.bool l),(46,.bool c1)]∧Ds aq ar m l n q r u w y z aa ag c1=some au∧AS [] aw bg bk b9) ?_ ?_
 refine AL<|Vm<|Vr (.bool (!l))<|Vm<|Bo a (fun al a=>?_) fun al a=>?_
 refine Gm al<|Bi a fun dp fn a=>CT (.guard (t:=true) (b:=true) Z Z Z Z (Cb al)) Z Z (Cg [Pt c 0,Sb ([105,102]:Bts)] Z)<|Calls.mono (DA aw bg fn dcd dcd bj (AN (x:=(AC.mk n q r u (Ai.mk w y z aa) ag)) bi)) ?_
 rintro _ jg ⟨fo,rfl,fp⟩
 refine ⟨_,Z,?_⟩
 refine Gr al (.bool (!dp))<|Vp al<|AA<|⟨_,fo,(!dp),Pu,a,(Mo [] fp)⟩
 refine Pg al<|Pg al<|Pg al<|Vp al<|AA<|⟨_,aw,false,Pu,a,Rf⟩
 rintro _ b9 ⟨f,bk,c1,rfl,a,af⟩
 rw [Ds] at a
 refine Cn a (fun fq a=>?_) fun fq a=>?_
 refine Sr<|Vm<|have fr:=Bs bj af;have fs:=Ss Ah bi af;Bi a fun d ft a=>Ca (Cg [Pt c 0] Z) (b4.ref04_reader_cons bk b9 ft dcd dcd fr (AN (x:=(AC.mk n q r u (Ai.mk w y z aa) ag)) fs)) ?_
 rintro _ jh ⟨fu,ji,jj,rfl,dq,fv,fw,fx⟩
 obtain ⟨ds,dt,rfl,dr⟩:=E1 (Ae fv)
 obtain ⟨fy,fz,rfl,du⟩:=E1 (AZ fx)
 refine have f0:=Y3 (Y4 cw ab ac ad ae) a6 af dq;Eu<|St D1 f0 Z Z Z Z fun jm f1 ca=>AA<|AQ ?_
 obtain rfl:=AK a
 refine O1 B cv Z (.agg A9 Z Z (Bw f1))<|have f2:=Ss AH dr ca;have f3:=Bs fw ca;have f4:=Ss Ah du ca;⟨fu,[I d.1.op,Sb d.1.name,Sb d.1.tail,I d.1.type_,Cx d.1.num,Sl ds d.1.args dt,I d.1.at_],[Sl fy d.2.marks fz,I d.2.at_,I d.2.why,I d.2.where_,I d.2.l.text,I d.2.l.funcs,I d.2.l.arity,I d.2.l.nest,I d.2.nest],Z,Ho (T4 (T4 (Mo [1,20,21] bt) ab ac ad ae) a6 af dq ca) cu,(AW (x:=d.1) f2),f3,(AN (x:=d.2) f4)⟩
 refine WC.skip<|Am (fun p c2=>∃f cb a7,p=Env.puts f [(0,Pt c 0),(2,Pt av 0),(3,Pt bv 0),(4,.bool l)]∧Dr aq ar m l n q r u w y z aa a7=some au∧AS [1] bk b9 cb c2∧Bk cb c2 1 c [Sl bx n bz,I q,I r,I u,I w,I y,I z,I aa,I a7] 126) ?_ ?_
 refine Sr<|Vm<|AA<|Cn a (fun f5 a=>?_) fun f5 a=>?_
 refine AL<|Vm<|Vx (Nc Z)<|Vx (Fd Nv Z)<|have dv:=Bs bj af;Vx (Ld BC Z (Bc dv Z))<|Vr (I (Wr (ag+1)))<|Vx (Nc Z)<|Vx (Fd Nv Z)<|Eu<|St Mj dv Z Z Z Z fun jn f6 f7=>AA<|⟨_,bk,(Wr (ag+1)),Pu,a,(Mo [1] f7),f6⟩
 refine WC.skip<|have f8:=Bs bj af;⟨_,bk,ag,Pu,a,(AS.refl [1] _ _),f8⟩
 rintro _ c2 ⟨f,cb,a7,rfl,a,bl,dw⟩
 rw [Dr] at a
 refine Sr<|Vm<|Vx (Nc Z)<|Vx (Fd Gb Z)<|Vx (Ld BC Z (Bc dw Z))<|Vr (I (Wr (q+1)))<|Vx (Nc Z)<|Vx (Fd Gb Z)<|Eu<|St Mj dw Z Z Z Z fun jo c3 bm=>AA<|Sr<|Vx (Fd Ls Z)<|have dx:=Bs (Y4 ew ae a6 af bl) bm;Vx (Ld BC Z (Bc dx Z))<|Vx (v:=Ag [I 0,Sb ([]:Bts),Sb ([]:Bts),I 0,Cx (((0,0):Nat×Nat)),.slice none 0 0,I m.at_]) (Bp De Na Z (.cons Z Z Z .nil))<|Ef<|AY cb 22 De Z fun bn jp bo f9 am=>Eu<|St D1 f9 Z Z Z Z fun dy c4 an=>AA<|Am (fun p a8=>∃f ao ap b0 b1 a9 ba bb bc bd be bf bp ax ay az a0 a1 ah bq br a2,p=Env.puts f [(0,Pt c 0),(2,Pt av 0),(4,.bool l),(5,Pt bo 0)]∧FE l ap a9 ba bb bc bd be bf bp ax ay az a0 a1 ah a2=some au∧AS [1,22,23,24,25] bn dy ao a8∧Slc Ah ao.F a8 (Sl b0 ap b1) ap∧Slc AH ao.F a8 (Sl bq ah br) ah∧Bk ao a8 1 c [Sl b0 ap b1,I a9,I ba,I bb,I bc,I bd,I be,I bf,I bp] 126∧Bk ao a8 22 bo [I ax,Sb ay,Sb az,I a0,Cx a1,Sl bq ah br,I a2] 56) ?_ ?_
 refine Sr<|Vx (Fd Fm Z)<|have dz:=Y2 dx am an;Vx (Ld CG Z (Bc dz Z))<|AA<|Af<|Sr<|Vx (v:=.bool (m.text==([105,102]:Bts))) (Run.strEq Z Z)<|Va (.bool (m.text==([105,102]:Bts)))<|AA<|Cn a (fun ga a=>?_) fun ga a=>?_
 refine Sr<|Vx (Fz C8 Z)<|Eu<|St Vg c4 Z Z Z Z fun jq gb c5=>AA<|AL<|Vm<|Ef<|Ch (cs:=[Sb ([]:Bts),Sb ([116,104,101,110]:Bts),Sb ([101,108,115,101]:Bts)]) bn 23 [[Sb ([]:Bts)],[Sb ([116,104,101,110]:Bts)],[Sb ([101,108,115,101]:Bts)]] IR Pz Z Z (.cons Z Z Z (.cons Z Z Z (.cons Z Z Z .nil))) Z fun gc d0 d1 gd cc=>have ge:Own DV 9 gc d0 23 (.slice (some ⟨d1,0,none⟩) 3 3) ([([]:Bts),([116,104,101,110]:Bts),([101,108,115,101]:Bts)]:List Bts):=Own.lit (css:=[[Sb ([]:Bts)],[Sb ([116,104,101,110]:Bts)],[Sb ([101,108,115,101]:Bts)]]) gd Z Z Z (Aa Z (Aa Z (Aa Z BA))) (A4 Z (A4 Z (A4 Z D3))) Z; ?_
 obtain ⟨gf,cd,gg⟩:=Own.freeze (S:=[23]) ge dcd dcd
 refine have gh:=Bs (Y4 c3 am an c5 cc) cd;have gi:=K4 Ah (K4 Ah bi af bl bm am) an c5 cc cd;Bi a fun ai gj a=>Ca (Cg [Pt c 0,Sl (some ⟨d1,0,none⟩) (([([]:Bts),([116,104,101,110]:Bts),([101,108,115,101]:Bts)]:List Bts)) 3] Z) (b4.ref04_reader_parts gf d0 gj dcd dcd gh (AN (x:=(AC.mk n (Wr (q+1)) r u (Ai.mk w y z aa) a7)) gi) gg) ?_
 rintro _ jr ⟨gk,js,jt,rfl,d2,d3,gl,gm⟩
 obtain ⟨gn,go,rfl⟩:=AT d3
 obtain ⟨gp,gq,rfl,d4⟩:=E1 (AZ gm)
 refine Vx (Fd BS Z)<|have gr:=Y3 gb cc cd d2;Eu<|St S6 gr Z Z Z Z fun jv gs cf=>AA<|have gt:=Ss Ah d4 cf;have gu:=Ss AH d3 cf;have gv:=Bs gl cf;⟨_,gk,ai.2.marks,gp,gq,ai.2.at_,ai.2.why,ai.2.where_,ai.2.l.text,ai.2.l.funcs,ai.2.l.arity,ai.2.l.nest,ai.2.nest,19,([]:Bts),([]:Bts),0,((0,0):Nat×Nat),ai.1,gn,go,m.at_,Pu,a,(T4 (Mo [1,22,23,24,25] c5) cc cd d2 cf),gt,gu,gv,gs⟩
 refine Sr<|Vx (v:=.bool (m.text==([99,97,115,101]:Bts))) (Run.strEq Z Z)<|Va (.bool (m.text==([99,97,115,101]:Bts)))<|AA<|Cn a (fun gw a=>?_) fun gw a=>?_
 refine AL<|Vm<|have gx:=Y2 c3 am an;have gy:=Ss Ah (K4 Ah bi af bl bm am) an;Bi a fun o gz a=>Ca (Cg [Pt c 0,Pt bo 0] Z) (b4.ref04_reader_branches bn dy gz dcd dcd gx (AN (x:=(AC.mk n (Wr (q+1)) r u (Ai.mk w y z aa) a7)) gy) c4 (AW (x:=(AE.mk 0 ([]:Bts) ([]:Bts) 0 ((0,0):Nat×Nat) [] m.at_)) BK)) ?_
 rintro _ jw ⟨g0,jx,jy,rfl,g1,g2,g3,g4,g5⟩
 obtain ⟨g6,g7,rfl,d5⟩:=E1 (AZ g3)
 obtain ⟨g8,g9,rfl,d6⟩:=E1 (Ae g5)
 refine AA<|⟨_,g0,o.1.marks,g6,g7,o.1.at_,o.1.why,o.1.where_,o.1.l.text,o.1.l.funcs,o.1.l.arity,o.1.l.nest,o.1.nest,o.2.op,o.2.name,o.2.tail,o.2.type_,o.2.num,o.2.args,g8,g9,o.2.at_,Pu,a,(Mo [1,22,23,24,25] g1),d5,d6,g2,g4⟩
 refine Sr<|Vx (Fz C8 Z)<|Eu<|St Vg c4 Z Z Z Z fun ha d7 cg=>AA<|Am (fun p ch=>∃f ci cj,p=Env.puts f [(0,Pt c 0),(2,Pt av 0),(4,.bool l),(5,Pt bo 0)]∧Dq aq ar m l n q r u w y z aa a7 cj=some au∧AS [22] bn ha ci ch∧Bk ci ch 22 bo [I cj,Sb ([]:Bts),Sb ([]:Bts),I 0,Cx (((0,0):Nat×Nat)),.slice none 0 0,I m.at_] 56) ?_ ?_
 refine Sr<|Vx (Fd Fm Z)<|have hb:=Bs dz cg;Vx (Ld CG Z (Bc hb Z))<|Vx (v:=.bool (m.text==([115,116,114,105,99,116]:Bts))) (Run.strEq Z Z)<|AA<|Cn a (fun hc a=>?_) fun hc a=>?_
 refine AL<|Vx (Fz C8 Z)<|Eu<|St Vg d7 Z Z Z Z fun j1 hd he=>AA<|⟨_,bn,22,Pu,a,(Mo [22] he),hd⟩
 refine WC.skip<|⟨_,bn,21,Pu,a,(AS.refl [22] _ _),d7⟩
 rintro _ ch ⟨f,ci,cj,rfl,a,c6,hf⟩
 rw [Dq] at a
 refine Sr<|Vm<|have hg:=Y4 c3 am an cg c6;have hh:=K3 Ah (K4 Ah bi af bl bm am) an cg c6;Bi a fun d8 hi a=>Ca (Cg [Pt c 0] Z) (H9 ci ch hi dcd dcd hg (AN (x:=(AC.mk n (Wr (q+1)) r u (Ai.mk w y z aa) a7)) hh)) ?_
 rintro _ j2 ⟨hj,j3,j4,rfl,d9,hk,hl,hm⟩
 obtain rfl:=DM hk
 obtain ⟨j6,j7,rfl,ea⟩:=E1 (AZ hm)
 refine Ef<|AY hj 24 G9 Z fun hn j8 j9 ho ck=>Eu<|St HN ho Z Z Z Z fun ka hp cl=>AA<|Sr<|Vx (Fd Fm Z)<|Vx (Ld CG Z (Bc hp Z))<|Vx (Fd Di Z)<|have hq:=Y3 hf d9 ck cl;Eu<|St Xy hq Z Z Z Z fun hr hs c7=>AA<|Sr<|Vm<|have ht:=Y3 hl ck cl c7;have hu:=K3 Ah ea ck cl c7;Bi a fun eb hw a=>Ca (Cg [Pt c 0] Z) (Jy ar hn hr hw dcd dcd ht (AN (x:=d8.2) hu)) ?_
 rintro _ kb ⟨hx,kc,rfl,ec,hy,hz⟩
 obtain ⟨ke,kf,rfl,ed⟩:=E1 (AZ hz)
 refine Vx (Fd Lg Z)<|have h0:=Bs hs ec;Eu<|St Xf h0 Z Z Z Z fun kg h1 c8=>AA<|AL<|Vm<|Ef<|Ch (cs:=[Sb ([61]:Bts),Sb ([105,110]:Bts)]) hx 25 [[Sb ([61]:Bts)],[Sb ([105,110]:Bts)]] IR Pz Z Z (.cons Z Z Z (.cons Z Z Z .nil)) Z fun h2 ee ef h3 cm=>have h4:Own DV 9 h2 ee 25 (.slice (some ⟨ef,0,none⟩) 2 2) ([([61]:Bts),([105,110]:Bts)]:List Bts):=Own.lit (css:=[[Sb ([61]:Bts)],[Sb ([105,110]:Bts)]]) h3 Z Z Z (Aa Z (Aa Z BA)) (A4 Z (A4 Z D3)) Z; ?_
 obtain ⟨h5,cn,h6⟩:=Own.freeze (S:=[25]) h4 dcd dcd
 refine have h7:=Y3 hy c8 cm cn;have h8:=K3 Ah ed c8 cm cn;Bi a fun aj h9 a=>Ca (Cg [Pt c 0,Sl (some ⟨ef,0,none⟩) (([([61]:Bts),([105,110]:Bts)]:List Bts)) 2] Z) (b4.ref04_reader_parts h5 ee h9 dcd dcd h7 (AN (x:=eb.2) h8) h6) ?_
 rintro _ kh ⟨ia,ki,kj,rfl,eg,eh,ib,ic⟩
 obtain ⟨id,ie,rfl⟩:=AT eh
 obtain ⟨ig,ih,rfl,ei⟩:=E1 (AZ ic)
 refine Vx (Fd BS Z)<|have ii:=Y3 h1 cm cn eg;Eu<|St S6 ii Z Z Z Z fun kl ij co=>AA<|have ik:=Ss Ah ei co;have il:=Ss AH eh co;have im:=Bs ib co;⟨_,ia,aj.2.marks,ig,ih,aj.2.at_,aj.2.why,aj.2.where_,aj.2.l.text,aj.2.l.funcs,aj.2.l.arity,aj.2.l.nest,aj.2.nest,cj,d8.1.text,([]:Bts),eb.1,((0,0):Nat×Nat),aj.1,id,ie,m.at_,Pu,a,(T3 (T4 (T4 (Mo [1,22,23,24,25] cg) c6 d9 ck cl) c7 ec c8 cm) cn eg co),ik,il,im,ij⟩
 rintro _ a8 ⟨f,ao,ap,b0,b1,a9,ba,bb,bc,bd,be,bf,bp,ax,ay,az,a0,a1,ah,bq,br,a2,rfl,a,ej,io,ip,c9,iq⟩
 rw [FE] at a
 refine Am (fun p da=>∃f cq b2,p=Env.puts f [(2,Pt av 0),(5,Pt bo 0)]∧Hr ap a9 ba bb bc bd be bf ax ay az a0 a1 ah a2 b2=some au∧AS [1] ao a8 cq da∧Bk cq da 1 c [Sl b0 ap b1,I a9,I ba,I bb,I bc,I bd,I be,I bf,I b2] 126) ?_ ?_
 refine Sr<|Vm<|AA<|Cn a (fun ir a=>?_) fun ir a=>?_
 refine AL<|Vm<|Vx (Nc Z)<|Vx (Fd Nv Z)<|Vx (Ld BC Z (Bc c9 Z))<|Vr (I (Wr (bp - 1)))<|Vx (Nc Z)<|Vx (Fd Nv Z)<|Eu<|St Mj c9 Z Z Z Z fun km it iu=>AA<|⟨_,ao,(Wr (bp - 1)),Pu,a,(Mo [1] iu),it⟩
 refine WC.skip<|⟨_,ao,bp,Pu,a,(AS.refl [1] _ _),c9⟩
 rintro _ da ⟨f,cq,b2,rfl,a,b3,iv⟩
 rw [Hr] at a
 refine Sr<|have iw:=Bs iq b3;Vx (Lx A9 Z Z (Bw iw))<|have ix:=Y4 (Y4 (Y4 cw ab ac ad ae) a6 af bl bm) am an ej b3;have iy:=Ss AH ip b3;Eu<|St D1 ix Z Z Z Z fun kn iz cr=>AA<|AQ ?_
 obtain rfl:=AK a
 refine O1 B cv Z (.agg A9 Z Z (Bw iz))<|have i0:=Ss AH iy cr;have i1:=Bs iv cr;have i2:=K2 Ah io b3 cr;⟨cq,[I ax,Sb ay,Sb az,I a0,Cx a1,Sl bq ah br,I a2],[Sl b0 ap b1,I a9,I ba,I bb,I bc,I bd,I be,I bf,I b2],Z,Ho (Tn (T4 (T4 (T4 (Mo [1,20,21,22,23,24,25] bt) ab ac ad ae) a6 af bl bm) am an ej b3) cr) cu,(AW (x:=(AE.mk ax ay az a0 a1 ah a2)) i0),i1,(AN (x:=(AC.mk ap a9 ba bb (Ai.mk bc bd be bf) b2)) i2)⟩
theorem Oc(c:AB)(e:Nat)(h:AB.Good c):ref04_reader_expr.Spec (DC c e):=lk1 (Ob c e h)
theorem Od(af:AB)(a2:Nat)(ag:AB.Good af)(ad:Col)(a3:World)(ah:∀b,ad b<10):ref04_reader_cons.At True True ad a3 (DD af a2) 1:=by
 intro w a4 cy cz d _ _ a5 a6
 rw [DD] at d
 obtain ⟨c1,c2,rfl,ai⟩:=E1 (AZ a6)
 refine Ay Tryz.func131 Z Tryz.ntmps131 Z fun B aj c3=>Sr<|Ef<|AY ad 20 De Z fun a7 a8 c4 ak y=>AA<|Sr<|Vm<|have a9:=Bs a5 y;have ba:=Ss Ah ai y;Bi d fun a bb d=>Ca (Cg [Pt w 0] Z) (ag.ref04_reader_comp a7 a8 bb dcd dcd a9 (AN (x:=a4) ba)) ?_
 rintro _ c5 ⟨bc,c6,c7,rfl,z,bd,be,bf⟩
 obtain ⟨r,s,rfl,al⟩:=E1 (Ae bd)
 obtain ⟨c9,da,rfl,am⟩:=E1 (AZ bf)
 refine Ef<|AY bc 21 De Z fun bg db dc bh q=>have an:=Ss AH al q;Eu<|St D1 bh Z Z Z Z fun bi ao n=>AA<|Sr<|Vm<|have ap:=Y2 be q n;have aq:=K2 Ah am q n;Bi d fun l bj d=>Ca (Cg [Pt w 0] Z) (CW bg bi bj dcd dcd ap (AN (x:=a.2) aq)) ?_
 rintro _ de ⟨bk,df,rfl,f,bl⟩
 obtain rfl:=DM bl
 refine Ef<|AY bk 22 G9 Z fun bm dg dh bn g=>Eu<|St HN bn Z Z Z Z fun bo bp h=>AA<|AR<|Sr<|Vm<|have bq:=Y3 ap f g h;have br:=K3 Ah aq f g h;Bi d fun e bt d=>Ca (Cg [Pt w 0,Sb ([58]:Bts)] Z) (FP bm bo bt dcd dcd bq (AN (x:=a.2) br)) ?_
 rintro _ bu ⟨ar,di,rfl,m,au,bv⟩
 obtain ⟨bw,bx,rfl,ae⟩:=E1 (AZ bv)
 refine Vr (.bool (!e.1))<|AA<|Cn d (fun bz d=>?_) fun bz d=>?_
 refine Sr<|have b0:=Y4 ao f g h m;Vx (Lx A9 Z Z (Bw b0))<|have b1:=Y3 (Y4 ak z q n f) g h m;have b2:=Ss AH (K4 AH an n f g h) m;Eu<|St D1 b1 Z Z Z Z fun dk b3 aa=>AA<|AQ ?_
 obtain rfl:=AK d
 refine O1 B aj Z (.agg A9 Z Z (Bw b3))<|have b4:=Ss AH b2 aa;have b5:=Bs au aa;have b6:=Ss Ah ae aa;⟨ar,[I a.1.op,Sb a.1.name,Sb a.1.tail,I a.1.type_,Cx a.1.num,Sl r a.1.args s,I a.1.at_],[Sl bw e.2.marks bx,I e.2.at_,I e.2.why,I e.2.where_,I e.2.l.text,I e.2.l.funcs,I e.2.l.arity,I e.2.l.nest,I e.2.nest],Z,Ho (T4 (T4 (Mo [1,20,21,22] y) z q n f) g h m aa) ah,(AW (x:=a.1) b4),b5,(AN (x:=e.2) b6)⟩
 refine WC.skip<|Sr<|Vm<|Bi d fun c b7 d=>Ca (Cg [Pt w 0] Z) (ag.ref04_reader_cons ar bu b7 dcd dcd au (AN (x:=e.2) ae)) ?_
 rintro _ dl ⟨b8,dm,dn,rfl,u,b9,ca,cb⟩
 obtain ⟨aw,ax,rfl,av⟩:=E1 (Ae b9)
 obtain ⟨cc,cd,rfl,ay⟩:=E1 (AZ cb)
 refine Ef<|AY b8 23 De Z fun cf dr ds cg o=>have ch:=Ss AH av o;Eu<|St D1 cg Z Z Z Z fun ci cj p=>AA<|Sr<|have ck:=Y3 (Y4 ao f g h m) u o p;Vx (Lx A9 Z Z (Bw ck))<|Vx (Lx A9 Z Z (Bw cj))<|have cl:=Y4 bp m u o p;Vx (Lx Ia Z Z (Bw cl))<|have cm:=K4 AH (K4 AH an n f g h) m u o p;have cn:=Ss AH ch p;Bi d fun x135 co d=>Ca (Cg [I 18,Ag [I a.1.op,Sb a.1.name,Sb a.1.tail,I a.1.type_,Cx a.1.num,Sl r a.1.args s,I a.1.at_],Ag [I c.1.op,Sb c.1.name,Sb c.1.tail,I c.1.type_,Cx c.1.num,Sl aw c.1.args ax,I c.1.at_],Ag [I l.kind,Sb l.text,Cx l.num,I l.at_]] Z) (M1 cf ci co (AW (x:=a.1) cm) (AW (x:=c.1) cn) (Fo (x:=l))) ?_
 rintro _ dt ⟨cq,du,rfl,ab,cr⟩
 obtain ⟨a0,a1,rfl,az⟩:=E1 (Ae cr)
 refine have ct:=Y3 (Y4 (Y4 ak z q n f) g h m u) o p ab;Eu<|St D1 ct Z Z Z Z fun dw cu ac=>AA<|AQ ?_
 obtain rfl:=AK d
 refine O1 B aj Z (.agg A9 Z Z (Bw cu))<|have cv:=Ss AH az ac;have cw:=Y4 ca o p ab ac;have cx:=K4 Ah ay o p ab ac;⟨cq,[I x135.op,Sb x135.name,Sb x135.tail,I x135.type_,Cx x135.num,Sl a0 x135.args a1,I x135.at_],[Sl cc c.2.marks cd,I c.2.at_,I c.2.why,I c.2.where_,I c.2.l.text,I c.2.l.funcs,I c.2.l.arity,I c.2.l.nest,I c.2.nest],Z,Ho (T4 (T4 (T4 (Mo [1,20,21,22,23] y) z q n f) g h m u) o p ab ac) ah,(AW (x:=x135) cv),cw,(AN (x:=c.2) cx)⟩
theorem Oe(c:AB)(e:Nat)(h:AB.Good c):ref04_reader_cons.Spec (DD c e):=lk1 (Od c e h)
theorem N5(ab:AB)(bc:Nat)(b0:AB.Good ab)(ao:Col)(bd:World)(b1:∀b,ao b<10):ref04_reader_parts.At True True ao bd (Cm ab bc) 1:=by
 intro ac g dh m di a2 c _ _ b2 b3 be
 rw [Cm] at c
 obtain ⟨b4,b5,rfl,bf⟩:=E1 (AZ b3)
 obtain ⟨bg,bh,rfl⟩:=AT be
 refine Ay Tryz.func132 Z Tryz.ntmps132 Z fun B b6 dk=>Sr<|Va (.slice none 0 0)<|AA<|Sr<|Va (.slice none 0 0)<|AA<|AR<|Sr<|Va (I 0)<|AA<|Af<|Bg (fun n a3 o=>∃ag h d ad ae e f ah ai p q r u w y z aa,a3=Env.puts ag [(0,Pt ac 0),(1,Sl bg m bh),(5,Sl ad d ae),(6,I e)]∧By ab m n d e f p q r u w y z aa=some a2∧AS [1,20,22] ao bd h o∧Own AH 56 h o 22 (Sl ad d ae) d∧Slc Ah h.F o (Sl ah f ai) f∧Bk h o 1 ac [Sl ah f ai,I p,I q,I r,I u,I w,I y,I z,I aa] 126) bc ?_ ?_
 exact ⟨_,ao,([]:List AE),none,0,0,g.marks,b4,b5,g.at_,g.why,g.where_,g.l.text,g.l.funcs,g.l.arity,g.l.nest,g.nest,Pu,c,(AS.refl [1,20,22] _ _),Own.nil,bf,b2⟩
 rintro n _ o ⟨ag,h,d,ad,ae,e,f,ah,ai,p,q,r,u,w,y,z,aa,rfl,c,a4,bi,a5,a6⟩
 rcases n with _|n
 exact A5 c
 refine have c:Ci ab m (By ab m n) d e f p q r u w y z aa=some a2:=c; ?_
 obtain ⟨b7,bj⟩:∃s,s=By ab m n:=⟨_,rfl⟩
 rw [←bj,Ci] at c
 refine AR<|Sr<|Vm<|Vm<|have bk:=Ss DV be a4; ?_
 obtain ⟨dl,dm,b8⟩:=AT bk
 refine Vx (v:=I (m.length:Int)) (Ll IR b8)<|Vr (.bool (decide (e< (m.length:Int))))<|AA<|Cn c (fun b9 c=>?_) fun b9 c=>?_
 refine WC.skip<|AR<|Af<|Am (fun a3 aj=>∃ag ak af a7 a8 ap aq ar au av aw ax ay,a3=Env.puts ag [(0,Pt ac 0),(1,Sl bg m bh),(5,Sl ad d ae),(6,I e)]∧DZ ab d e b7 af ap aq ar au av aw ax ay=some a2∧AS [1] h o ak aj∧Slc Ah ak.F aj (Sl a7 af a8) af∧Bk ak aj 1 ac [Sl a7 af a8,I ap,I aq,I ar,I au,I av,I aw,I ax,I ay] 126) ?_ ?_
 refine Sr<|Vm<|Vm<|Bi c fun a9 ca c=>?_
 obtain ⟨cb,cc,dn,bl,bm,bn,bo,cd,az⟩:=A8 (κ:=DV) bk ca
 replace az:Ax h o cb (cc+e.toNat*1) bl:=az
 obtain rfl:=(show bl=[Sb a9] from cd)
 refine Vx (Ix IR bm Z bn bo)<|Vx (Ld CG Z (Ax.cell0 az Z))<|Vx (v:=.bool (!(a9==([]:Bts)))) (Run.strNe Z Z)<|AA<|Cn c (fun cf c=>?_) fun cf c=>?_
 refine AL<|Vm<|Vm<|Vm<|Vx (Ix IR bm Z bn bo)<|Vx (Ld CG Z (Ax.cell0 az Z))<|Bi c fun l cg c=>Ca (Cg [Pt ac 0,Sb a9] Z) (BZ h o cg dcd dcd a6 (AN (x:=(AC.mk f p q r (Ai.mk u w y z) aa)) a5)) ?_
 rintro _ dp ⟨ch,dq,rfl,ci,cj,ck⟩
 obtain ⟨cl,cm,rfl,bp⟩:=E1 (AZ ck)
 refine AA<|⟨_,ch,l.marks,cl,cm,l.at_,l.why,l.where_,l.l.text,l.l.funcs,l.l.arity,l.l.nest,l.nest,Pu,c,(Mo [1] ci),bp,cj⟩
 refine WC.skip<|⟨_,h,f,ah,ai,p,q,r,u,w,y,z,aa,Pu,c,(AS.refl [1] _ _),a5,a6⟩
 rintro _ aj ⟨ag,ak,af,a7,a8,ap,aq,ar,au,av,aw,ax,ay,rfl,c,bq,cn,co⟩
 rw [DZ] at c
 refine Sr<|Vm<|Bi c fun a cq c=>Ca (Cg [Pt ac 0] Z) (b0.ref04_reader_expr ak aj cq dcd dcd co (AN (x:=(AC.mk af ap aq ar (Ai.mk au av aw ax) ay)) cn)) ?_
 rintro _ ds ⟨cr,dt,du,rfl,br,ct,cu,cv⟩
 obtain ⟨a0,a1,rfl,bt⟩:=E1 (Ae ct)
 obtain ⟨cw,cx,rfl,bu⟩:=E1 (AZ cv)
 refine Ef<|AY cr 20 De Z fun cy dx dy cz al=>have c0:=Ss AH bt al;Eu<|St D1 cz Z Z Z Z fun dz c1 am=>AA<|AL<|Vm<|Vx (Lx A9 Z Z (Bw c1))<|Ef<|Ch (cs:=[I a.1.op,Sb a.1.name,Sb a.1.tail,I a.1.type_,Cx a.1.num,Sl a0 a.1.args a1,I a.1.at_]) cy 21 [[I a.1.op,Sb a.1.name,Sb a.1.tail,I a.1.type_,Cx a.1.num,Sl a0 a.1.args a1,I a.1.at_]] CH De Z Z (.cons Z Z Z .nil) Z fun c2 c3 c4 c5 an=>have c6:=K2 AH c0 am an;have c7:Own AH 56 c2 c3 21 (.slice (some ⟨c4,0,none⟩) 1 1) ([a.1]:List AE):=Own.lit (css:=[[I a.1.op,Sb a.1.name,Sb a.1.tail,I a.1.type_,Cx a.1.num,Sl a0 a.1.args a1,I a.1.at_]]) c5 Z Z Z (Aa (AW (x:=a.1) c6) BA) (A4 Z D3) Z;have c8:=Os (Os (Os (Os (Os bi bq) br) al) am) an;Bi c fun d0 bv c=>Ef<|Bu (κ:=AH) Z Z c8 dcd ZA (CC c7) (Et bv) (E6 bv) fun d1 c9 d2 bw ba=>?_
 obtain ⟨bx,bz,rfl⟩:=Own.len bw
 refine Va (Sl bx ((d++([a.1]:List AE))) bz)<|AA<|AL<|Vm<|Vr (I (Wr (e+1)))<|Va (I (Wr (e+1)))<|AA<|have da:=K4 Ah bu al am an ba;have db:=Y4 cu al am an ba;⟨n,Nat.lt_succ_self n,_,c9,(d++([a.1]:List AE)),bx,bz,(Wr (e+1)),a.2.marks,cw,cx,a.2.at_,a.2.why,a.2.where_,a.2.l.text,a.2.l.funcs,a.2.l.arity,a.2.l.nest,a.2.nest,Pu,(bj▸c),(T2 (T4 (Mo [1,20,22] a4) bq br al am) an ba),bw,da,db⟩
 refine Ba<|Sr<|Vm<|Va (Sl ad d ae)<|AA<|AQ ?_
 obtain ⟨dc,bb,de⟩:=Own.freeze (S:=[22]) bi dcd dcd
 obtain rfl:=AK c
 refine O1 B b6 Z (.tmp Z)<|have df:=Bs a6 bb;have dg:=Ss Ah a5 bb;⟨dc,Sl ad d ae,[Sl ah f ai,I p,I q,I r,I u,I w,I y,I z,I aa],Z,Ho (Tn (Mo [1,20,22] a4) bb) b1,de,df,(AN (x:=(AC.mk f p q r (Ai.mk u w y z) aa)) dg)⟩
theorem N6(c:AB)(e:Nat)(h:AB.Good c):ref04_reader_parts.Spec (Cm c e):=lk1 (N5 c e h)
theorem NN(a0:AB)(bi:Nat)(ax:AB.Good a0)(ay:Col)(bj:World)(bk:∀b,ay b<10):ref04_reader_branches.At True True ay bj (CD a0 bi) 1 2:=by
 intro f bl fb fc m fd fe e _ _ bm bn bo bp
 rw [CD] at e
 obtain ⟨fg,fh,rfl,a1⟩:=E1 (AZ bn)
 obtain ⟨fj,fk,rfl,bq⟩:=E1 (Ae bp)
 refine Ay Tryz.func133 Z Tryz.ntmps133 Z fun B br fl=>Sr<|Vm<|Vx (Nc Z)<|Vx (Fz C8 Z)<|Eu<|St Vg bo Z Z Z Z fun bt bu az=>AA<|Sr<|Vm<|have bv:=Bs bm az;have bw:=Ss Ah a1 az;Bi e fun c bx e=>Ca (Cg [Pt f 0] Z) (ax.ref04_reader_expr ay bt bx dcd dcd bv (AN (x:=bl) bw)) ?_
 rintro _ fm ⟨bz,fn,fo,rfl,a2,b0,b1,b2⟩
 obtain ⟨ag,ah,rfl,a3⟩:=E1 (Ae b0)
 obtain ⟨fr,fs,rfl,a4⟩:=E1 (AZ b2)
 refine Ef<|AY bz 20 De Z fun b3 ft fu b4 ae=>have b5:=Ss AH a3 ae;Eu<|St D1 b4 Z Z Z Z fun b6 b7 af=>AA<|Sr<|Vm<|have b8:=Y2 b1 ae af;have b9:=K2 Ah a4 ae af;Bi e fun ca cb e=>Ca (Cg [Pt f 0,Sb ([111,102]:Bts)] Z) (BZ b3 b6 cb dcd dcd b8 (AN (x:=c.2) b9)) ?_
 rintro _ cc ⟨cd,fv,rfl,ai,cf,cg⟩
 obtain ⟨fx,fy,rfl,a5⟩:=E1 (AZ cg)
 refine AA<|Sr<|Vm<|Bi e fun ch ci e=>Ca (Cg [Pt f 0,Sb ([110,105,108]:Bts)] Z) (BZ cd cc ci dcd dcd cf (AN (x:=ca) a5)) ?_
 rintro _ cj ⟨ck,fz,rfl,aj,cl,cm⟩
 obtain ⟨f1,f2,rfl,a6⟩:=E1 (AZ cm)
 refine AA<|Sr<|Vm<|Bi e fun cn co e=>Ca (Cg [Pt f 0,Sb ([45,62]:Bts)] Z) (BZ ck cj co dcd dcd cl (AN (x:=ch) a6)) ?_
 rintro _ cq ⟨cr,f3,rfl,ak,ct,cu⟩
 obtain ⟨f5,f6,rfl,a7⟩:=E1 (AZ cu)
 refine AA<|Sr<|Vm<|Bi e fun d cv e=>Ca (Cg [Pt f 0] Z) (ax.ref04_reader_expr cr cq cv dcd dcd ct (AN (x:=cn) a7)) ?_
 rintro _ f7 ⟨cw,f8,f9,rfl,al,cx,cy,cz⟩
 obtain ⟨am,an,rfl,a8⟩:=E1 (Ae cx)
 obtain ⟨gc,gd,rfl,a9⟩:=E1 (AZ cz)
 refine Ef<|AY cw 21 De Z fun c0 ge gf c1 w=>have c2:=Ss AH a8 w;Eu<|St D1 c1 Z Z Z Z fun c3 c4 y=>AA<|Sr<|Vm<|have c5:=Y2 cy w y;have c6:=K2 Ah a9 w y;Bi e fun c7 c8 e=>Ca (Cg [Pt f 0,Sb ([124]:Bts)] Z) (BZ c0 c3 c8 dcd dcd c5 (AN (x:=d.2) c6)) ?_
 rintro _ c9 ⟨da,gg,rfl,ac,db,dc⟩
 obtain ⟨gi,gj,rfl,ba⟩:=E1 (AZ dc)
 refine AA<|Sr<|Vm<|Bi e fun ao de e=>Ca (Cg [Pt f 0] Z) (H9 da c9 de dcd dcd db (AN (x:=c7) ba)) ?_
 rintro _ gk ⟨df,gl,gm,rfl,ad,dg,dh,di⟩
 obtain rfl:=DM dg
 obtain ⟨go,gp,rfl,bb⟩:=E1 (AZ di)
 refine Ef<|AY df 22 G9 Z fun dj gq gr dk q=>Eu<|St HN dk Z Z Z Z fun dl dm r=>AA<|Sr<|Vm<|have dn:=Y2 dh q r;have dp:=K2 Ah bb q r;Bi e fun dq dr e=>Ca (Cg [Pt f 0,Sb ([58]:Bts)] Z) (BZ dj dl dr dcd dcd dn (AN (x:=ao.2) dp)) ?_
 rintro _ ds ⟨dt,gs,rfl,z,du,dv⟩
 obtain ⟨gu,gv,rfl,bc⟩:=E1 (AZ dv)
 refine AA<|Sr<|Vm<|Bi e fun ap dw e=>Ca (Cg [Pt f 0] Z) (H9 dt ds dw dcd dcd du (AN (x:=dq) bc)) ?_
 rintro _ gw ⟨dx,gx,gy,rfl,aa,dy,dz,d0⟩
 obtain rfl:=DM dy
 obtain ⟨g0,g1,rfl,bd⟩:=E1 (AZ d0)
 refine Ef<|AY dx 23 G9 Z fun d1 g2 g3 d2 n=>Eu<|St HN d2 Z Z Z Z fun d3 d4 o=>AA<|Sr<|Vm<|have d5:=Y2 dz n o;have d6:=K2 Ah bd n o;Bi e fun d7 d8 e=>Ca (Cg [Pt f 0,Sb ([45,62]:Bts)] Z) (BZ d1 d3 d8 dcd dcd d5 (AN (x:=ap.2) d6)) ?_
 rintro _ d9 ⟨ea,g4,rfl,s,eb,ec⟩
 obtain ⟨g6,g7,rfl,be⟩:=E1 (AZ ec)
 refine AA<|Sr<|Vm<|Bi e fun a ed e=>Ca (Cg [Pt f 0] Z) (ax.ref04_reader_expr ea d9 ed dcd dcd eb (AN (x:=d7) be)) ?_
 rintro _ g8 ⟨ee,g9,ha,rfl,u,ef,eg,eh⟩
 obtain ⟨aq,ar,rfl,bf⟩:=E1 (Ae ef)
 obtain ⟨ei,ej,rfl,bg⟩:=E1 (AZ eh)
 refine Ef<|AY ee 24 De Z fun ek hd he el g=>have em:=Ss AH bf g;Eu<|St D1 el Z Z Z Z fun hf en h=>AA<|Sr<|Vm<|Vx (Fd Fm Z)<|have eo:=Y4 (Y4 dm z aa n o) s u g h;Vx (Ld CG Z (Bc eo Z))<|Vx (Nc Z)<|Vx (Fd Di Z)<|have ep:=Bs (Y4 (Y4 (Y4 (Y4 (Y4 bu a2 ae af ai) aj ak al w) y ac ad q) r z aa n) o s u g) h;Eu<|St Xy ep Z Z Z Z fun hg eq l=>AA<|Sr<|Vm<|Vx (Fd Fm Z)<|have er:=Bs (Y4 d4 s u g h) l;Vx (Ld CG Z (Bc er Z))<|Vx (Nc Z)<|Vx (Fd NB Z)<|Eu<|St Xy eq Z Z Z Z fun hh es p=>AA<|AL<|Vm<|have et:=Y4 (Y4 (Y4 (Y4 (Y4 b7 ai aj ak al) w y ac ad) q r z aa) n o s u) g h l p;Vx (Lx A9 Z Z (Bw et))<|have eu:=Y2 (Y4 (Y4 (Y4 c4 ac ad q r) z aa n o) s u g h) l p;Vx (Lx A9 Z Z (Bw eu))<|have ew:=Y2 en l p;Vx (Lx A9 Z Z (Bw ew))<|Ef<|Ch (cs:=[I c.1.op,Sb c.1.name,Sb c.1.tail,I c.1.type_,Cx c.1.num,Sl ag c.1.args ah,I c.1.at_,I d.1.op,Sb d.1.name,Sb d.1.tail,I d.1.type_,Cx d.1.num,Sl am d.1.args an,I d.1.at_,I a.1.op,Sb a.1.name,Sb a.1.tail,I a.1.type_,Cx a.1.num,Sl aq a.1.args ar,I a.1.at_]) ek 25 [[I c.1.op,Sb c.1.name,Sb c.1.tail,I c.1.type_,Cx c.1.num,Sl ag c.1.args ah,I c.1.at_],[I d.1.op,Sb d.1.name,Sb d.1.tail,I d.1.type_,Cx d.1.num,Sl am d.1.args an,I d.1.at_],[I a.1.op,Sb a.1.name,Sb a.1.tail,I a.1.type_,Cx a.1.num,Sl aq a.1.args ar,I a.1.at_]] CH De Z Z (.cons Z Z Z (.cons Z Z Z (.cons Z Z Z .nil))) Z fun ex ey au ez ab=>have e0:=K4 AH em h l p ab;have e1:=K4 AH (K4 AH (K4 AH (K4 AH c2 y ac ad q) r z aa n) o s u g) h l p ab;have e2:=K2 AH (K4 AH (K4 AH (K4 AH (K4 AH (K4 AH b5 af ai aj ak) al w y ac) ad q r z) aa n o s) u g h l) p ab;have bh:Own AH 56 ex ey 25 (.slice (some ⟨au,0,none⟩) 3 3) ([c.1,d.1,a.1]:List AE):=Own.lit (css:=[[I c.1.op,Sb c.1.name,Sb c.1.tail,I c.1.type_,Cx c.1.num,Sl ag c.1.args ah,I c.1.at_],[I d.1.op,Sb d.1.name,Sb d.1.tail,I d.1.type_,Cx d.1.num,Sl am d.1.args an,I d.1.at_],[I a.1.op,Sb a.1.name,Sb a.1.tail,I a.1.type_,Cx a.1.num,Sl aq a.1.args ar,I a.1.at_]]) ez Z Z Z (Aa (AW (x:=c.1) e2) (Aa (AW (x:=d.1) e1) (Aa (AW (x:=a.1) e0) BA))) (A4 Z (A4 Z (A4 Z D3))) Z;Vx (Nc Z)<|Vx (Fd BS Z)<|have e3:=Bs es ab;Eu<|Bv (vs:=[Sl (some ⟨au,0,none⟩) (([c.1,d.1,a.1]:List AE)) 3]) (cs':=[I 20,Sb ao.1.text,Sb ap.1.text,I m.type_,Cx m.num,Sl (some ⟨au,0,none⟩) (([c.1,d.1,a.1]:List AE)) 3,I m.at_]) S6 Z Z Z Z (AX (Own.one bh) CJ) e3 dcd Z Z fun hi e4 av=>?_
 refine AA<|have e5:=Os bh av; ?_
 obtain ⟨e6,aw,e7⟩:=Own.freeze (S:=[25]) e5 dcd dcd
 obtain rfl:=AK e
 refine M9 (B:=B) br<|M8 Z<|have e8:=Y3 (Y4 eg g h l p) ab av aw;have e9:=K3 Ah (K4 Ah bg g h l p) ab av aw;have fa:=Bs e4 aw;⟨e6,[Sl ei a.2.marks ej,I a.2.at_,I a.2.why,I a.2.where_,I a.2.l.text,I a.2.l.funcs,I a.2.l.arity,I a.2.l.nest,I a.2.nest],[I 20,Sb ao.1.text,Sb ap.1.text,I m.type_,Cx m.num,Sl (some ⟨au,0,none⟩) (([c.1,d.1,a.1]:List AE)) 3,I m.at_],Z,Ho (T2 (T4 (T4 (T4 (T4 (T4 (T4 (Mo [1,2,20,21,22,23,24,25] az) a2 ae af ai) aj ak al w) y ac ad q) r z aa n) o s u g) h l p ab) av aw) bk,e8,(AN (x:=a.2) e9),fa,(AW (x:=(AE.mk 20 ao.1.text ap.1.text m.type_ m.num ([c.1,d.1,a.1]:List AE) m.at_)) e7)⟩
theorem NO(d:AB)(f:Nat)(m:AB.Good d):ref04_reader_branches.Spec (CD d f):=lk2 (NN d f m)
theorem Of(ap:AB)(b3:Nat)(a7:AB.Good ap)(a1:Col)(b4:World)(a8:∀b,a1 b<10):ref04_reader_comp.At True True a1 b4 (DE ap b3) 1:=by
 intro p b5 d8 a9 c _ _ b6 b7
 rw [DE] at c
 obtain ⟨ea,eb,rfl,ba⟩:=E1 (AZ b7)
 refine Ay Tryz.func143 Z Tryz.ntmps143 Z fun B bb ec=>Sr<|Ef<|AY a1 20 De Z fun b8 b9 bc bd aq=>AA<|Sr<|Vm<|have ca:=Bs b6 aq;have cb:=Ss Ah ba aq;Bi c fun a cc c=>Ca (Cg [Pt p 0] Z) (a7.ref04_reader_sum b8 b9 cc dcd dcd ca (AN (x:=b5) cb)) ?_
 rintro _ ed ⟨cd,ee,ef,rfl,ar,cf,cg,ch⟩
 obtain ⟨ak,al,rfl,be⟩:=E1 (Ae cf)
 obtain ⟨eh,ei,rfl,bf⟩:=E1 (AZ ch)
 refine Ef<|AY cd 21 De Z fun ci ej bg cj z=>have bh:=Ss AH be z;Eu<|St D1 cj Z Z Z Z fun ck bi s=>AA<|Sr<|Vm<|have a2:=Y2 cg z s;have a3:=K2 Ah bf z s;Bi c fun l cl c=>Ca (Cg [Pt p 0] Z) (CW ci ck cl dcd dcd a2 (AN (x:=a.2) a3)) ?_
 rintro _ ek ⟨cm,el,rfl,f,cn⟩
 obtain rfl:=DM cn
 refine Ef<|AY cm 22 G9 Z fun bj em bk co g=>Eu<|St HN co Z Z Z Z fun bl cq h=>AA<|Sr<|Va (I 12)<|AA<|Am (fun a4 au=>∃am av aa,a4=Env.puts am [(0,Pt p 0),(2,Pt bc 0),(3,Pt bg 0),(4,Pt bk 0),(5,I aa)]∧Dv ap a l aa=some a9∧AS [] bj bl av au) ?_ ?_
 refine Sr<|Vm<|have cr:=Y3 a2 f g h;have ct:=K3 Ah a3 f g h;Bi c fun en cu c=>Ca (Cg [Pt p 0,Sb ([60]:Bts)] Z) (DA bj bl cu dcd dcd cr (AN (x:=a.2) ct)) ?_
 rintro _ eo ⟨bm,rfl,bn⟩
 refine AA<|Cn c (fun cv c=>?_) fun cv c=>?_
 refine AL<|Va (I 13)<|AA<|⟨_,bm,13,Pu,c,(Mo [] bn)⟩
 refine WC.skip<|⟨_,bm,12,Pu,c,(Mo [] bn)⟩
 rintro _ au ⟨am,av,aa,rfl,c,m⟩
 rw [Dv] at c
 refine AR<|Am (fun a4 an=>∃am ab a5 u aw ax ac ad ae af ag ah ai aj,a4=Env.puts am [(0,Pt p 0),(2,Pt bc 0),(3,Pt bg 0),(4,Pt bk 0),(5,I aa),(20,.bool a5)]∧EV ap a l aa a5 u ac ad ae af ag ah ai aj=some a9∧AS [1] av au ab an∧Slc Ah ab.F an (Sl aw u ax) u∧Bk ab an 1 p [Sl aw u ax,I ac,I ad,I ae,I af,I ag,I ah,I ai,I aj] 126) ?_ ?_
 refine AL<|Vm<|have cw:=Y4 a2 f g h m;have cx:=K4 Ah a3 f g h m;Bi c fun n cy c=>Ca (Cg [Pt p 0,Sb ([61,61]:Bts)] Z) (FP av au cy dcd dcd cw (AN (x:=a.2) cx)) ?_
 rintro _ cz ⟨bo,ep,rfl,bp,bq,c0⟩
 obtain ⟨c1,c2,rfl,a6⟩:=E1 (AZ c0)
 refine Vr (.bool (!n.1))<|Vm<|Bo c (fun q c=>?_) fun q c=>?_
 refine Gm q<|Bi c fun o c3 c=>CT (.guard (t:=true) (b:=true) Z Z Z Z (Cb q)) Z Z (Cg [Pt p 0,Sb ([60]:Bts)] Z)<|Calls.mono (FP bo cz c3 dcd dcd bq (AN (x:=n.2) a6)) ?_
 rintro _ er ⟨c4,es,rfl,c5,c6,c7⟩
 obtain ⟨c8,c9,rfl,br⟩:=E1 (AZ c7)
 refine ⟨_,Z,?_⟩
 refine Gr q (.bool (!o.1))<|Vp q<|AA<|⟨_,c4,(!o.1),o.2.marks,c8,c9,o.2.at_,o.2.why,o.2.where_,o.2.l.text,o.2.l.funcs,o.2.l.arity,o.2.l.nest,o.2.nest,Pu,c,(Tn (Mo [1] bp) c5),br,c6⟩
 refine Pg q<|Pg q<|Pg q<|Vp q<|AA<|⟨_,bo,false,n.2.marks,c1,c2,n.2.at_,n.2.why,n.2.where_,n.2.l.text,n.2.l.funcs,n.2.l.arity,n.2.l.nest,n.2.nest,Pu,c,(Mo [1] bp),a6,bq⟩
 rintro _ an ⟨am,ab,a5,u,aw,ax,ac,ad,ae,af,ag,ah,ai,aj,rfl,c,r,bt,bu⟩
 rw [EV] at c
 refine Cn c (fun da c=>?_) fun da c=>?_
 refine Sr<|have db:=Bs (Y4 bi f g h m) r;Vx (Lx A9 Z Z (Bw db))<|have dc:=Y4 (Y4 bd ar z s f) g h m r;have de:=K2 AH (K4 AH bh s f g h) m r;Eu<|St D1 dc Z Z Z Z fun eu df ay=>AA<|AQ ?_
 obtain rfl:=AK c
 refine O1 B bb Z (.agg A9 Z Z (Bw df))<|have dg:=Ss AH de ay;have dh:=Bs bu ay;have di:=Ss Ah bt ay;⟨ab,[I a.1.op,Sb a.1.name,Sb a.1.tail,I a.1.type_,Cx a.1.num,Sl ak a.1.args al,I a.1.at_],[Sl aw u ax,I ac,I ad,I ae,I af,I ag,I ah,I ai,I aj],Z,Ho (Tn (T4 (T4 (Mo [1,20,21,22] aq) ar z s f) g h m r) ay) a8,(AW (x:=a.1) dg),dh,(AN (x:=(AC.mk u ac ad ae (Ai.mk af ag ah ai) aj)) di)⟩
 refine WC.skip<|Sr<|Vm<|Bi c fun d dj c=>Ca (Cg [Pt p 0] Z) (a7.ref04_reader_sum ab an dj dcd dcd bu (AN (x:=(AC.mk u ac ad ae (Ai.mk af ag ah ai) aj)) bt)) ?_
 rintro _ ew ⟨dk,ex,ey,rfl,ao,dl,dm,dn⟩
 obtain ⟨bw,bx,rfl,bv⟩:=E1 (Ae dl)
 obtain ⟨dp,dq,rfl,bz⟩:=E1 (AZ dn)
 refine Ef<|AY dk 23 De Z fun dr e1 e2 ds w=>have dt:=Ss AH bv w;Eu<|St D1 ds Z Z Z Z fun du dv y=>AA<|Sr<|Vm<|have dw:=Y4 (Y4 bi f g h m) r ao w y;Vx (Lx A9 Z Z (Bw dw))<|Vx (Lx A9 Z Z (Bw dv))<|have dx:=Bs (Y4 cq m r ao w) y;Vx (Lx Ia Z Z (Bw dx))<|have dy:=Ss AH (K4 AH (K4 AH bh s f g h) m r ao w) y;have dz:=Ss AH dt y;Bi c fun e d0 c=>Ca (Cg [I aa,Ag [I a.1.op,Sb a.1.name,Sb a.1.tail,I a.1.type_,Cx a.1.num,Sl ak a.1.args al,I a.1.at_],Ag [I d.1.op,Sb d.1.name,Sb d.1.tail,I d.1.type_,Cx d.1.num,Sl bw d.1.args bx,I d.1.at_],Ag [I l.kind,Sb l.text,Cx l.num,I l.at_]] Z) (M1 dr du d0 (AW (x:=a.1) dy) (AW (x:=d.1) dz) (Fo (x:=l))) ?_
 rintro _ e3 ⟨d1,e4,rfl,az,d2⟩
 obtain ⟨b1,b2,rfl,b0⟩:=E1 (Ae d2)
 refine have d3:=Y4 (Y4 (Y4 bd ar z s f) g h m r) ao w y az;Eu<|St D1 d3 Z Z Z Z fun e6 d4 a0=>AA<|AQ ?_
 obtain rfl:=AK c
 refine O1 B bb Z (.agg A9 Z Z (Bw d4))<|have d5:=Ss AH b0 a0;have d6:=Y4 dm w y az a0;have d7:=K4 Ah bz w y az a0;⟨d1,[I e.op,Sb e.name,Sb e.tail,I e.type_,Cx e.num,Sl b1 e.args b2,I e.at_],[Sl dp d.2.marks dq,I d.2.at_,I d.2.why,I d.2.where_,I d.2.l.text,I d.2.l.funcs,I d.2.l.arity,I d.2.l.nest,I d.2.nest],Z,Ho (Tn (T4 (T4 (T4 (Mo [1,20,21,22,23] aq) ar z s f) g h m r) ao w y az) a0) a8,(AW (x:=e) d5),d6,(AN (x:=d.2) d7)⟩
theorem Og(c:AB)(e:Nat)(h:AB.Good c):ref04_reader_comp.Spec (DE c e):=lk1 (Of c e h)
theorem PE(an:AB)(bl:Nat)(bm:AB.Good an)(bc:Col)(b9:World)(ca:∀b,bc b<10):ref04_reader_sum.At True True bc b9 (DX an bl) 1:=by
 intro ad cb em a0 a _ _ cc cd
 rw [DX] at a
 obtain ⟨eo,ep,rfl,bn⟩:=E1 (AZ cd)
 refine Ay Tryz.func148 Z Tryz.ntmps148 Z fun B cf eq=>Sr<|Ef<|AY bc 20 De Z fun cg ch bd ci be=>AA<|Sr<|Vm<|have cj:=Bs cc be;have ck:=Ss Ah bn be;Bi a fun d cl a=>Ca (Cg [Pt ad 0] Z) (bm.ref04_reader_term cg ch cl dcd dcd cj (AN (x:=cb) ck)) ?_
 rintro _ er ⟨cm,es,et,rfl,bo,cn,co,cq⟩
 obtain ⟨cr,ct,rfl,bp⟩:=E1 (Ae cn)
 obtain ⟨cu,cv,rfl,bq⟩:=E1 (AZ cq)
 refine Ef<|AY cm 21 De Z fun br ew a1 cw ar=>have cx:=Ss AH bp ar;Eu<|St D1 cw Z Z Z Z fun cy cz au=>AA<|AR<|Af<|Bg (fun ae av af=>∃ag ah f a2 a3 p q r u w y z aa g h l m n e ai aj o,av=Env.puts ag [(0,Pt ad 0),(2,Pt bd 0),(3,Pt a1 0)]∧B4 an ae f p q r u w y z aa g h l m n e o=some a0∧AS [1,21,22,23] br cy ah af∧Slc Ah ah.F af (Sl a2 f a3) f∧Slc AH ah.F af (Sl ai e aj) e∧Bk ah af 1 ad [Sl a2 f a3,I p,I q,I r,I u,I w,I y,I z,I aa] 126∧Bk ah af 21 a1 [I g,Sb h,Sb l,I m,Cx n,Sl ai e aj,I o] 56) bl ?_ ?_
 refine have c0:=K2 Ah bq ar au;have c1:=Ss AH cx au;have c2:=Y2 co ar au;⟨_,br,d.2.marks,cu,cv,d.2.at_,d.2.why,d.2.where_,d.2.l.text,d.2.l.funcs,d.2.l.arity,d.2.l.nest,d.2.nest,d.1.op,d.1.name,d.1.tail,d.1.type_,d.1.num,d.1.args,cr,ct,d.1.at_,Pu,a,(AS.refl [1,21,22,23] _ _),c0,c1,c2,cz⟩
 rintro ae _ af ⟨ag,ah,f,a2,a3,p,q,r,u,w,y,z,aa,g,h,l,m,n,e,ai,aj,o,rfl,a,bf,a4,bt,a5,bu⟩
 rcases ae with _|ae
 exact A5 a
 refine have a:DP an (B4 an ae) f p q r u w y z aa g h l m n e o=some a0:=a; ?_
 obtain ⟨bv,bw⟩:∃s,s=B4 an ae:=⟨_,rfl⟩
 rw [←bw,DP] at a
 refine AR<|Am (fun av bg=>∃ag a6 bh,av=Env.puts ag [(0,Pt ad 0),(2,Pt bd 0),(3,Pt a1 0),(14,.bool bh)]∧EF an f p q r u w y z aa g h l m n e o bv bh=some a0∧AS [] ah af a6 bg) ?_ ?_
 refine AL<|Vm<|Bi a fun ex c3 a=>Ca (Cg [Pt ad 0,Sb ([43]:Bts)] Z) (DA ah af c3 dcd dcd a5 (AN (x:=(AC.mk f p q r (Ai.mk u w y z) aa)) a4)) ?_
 rintro _ c4 ⟨bx,rfl,a7⟩
 refine Vm<|Bo a (fun ao a=>?_) fun ao a=>?_
 refine Pg ao<|Pg ao<|Vp ao<|AA<|⟨_,bx,true,Pu,a,(Mo [] a7)⟩
 refine Gm ao<|have c5:=Bs a5 a7;have c6:=Ss Ah a4 a7;Bi a fun c7 c8 a=>CT (.guard (t:=false) (b:=false) Z Z Z Z (Cb ao)) Z Z (Cg [Pt ad 0,Sb ([45]:Bts)] Z)<|Calls.mono (DA bx c4 c8 dcd dcd c5 (AN (x:=(AC.mk f p q r (Ai.mk u w y z) aa)) c6)) ?_
 rintro _ ey ⟨c9,rfl,da⟩
 refine ⟨_,Z,?_⟩
 refine Vp ao<|AA<|⟨_,c9,c7,Pu,a,(Tn (Mo [] a7) da)⟩
 rintro _ bg ⟨ag,a6,bh,rfl,a,ab⟩
 rw [EF] at a
 refine Cn a (fun db a=>?_) fun db a=>?_
 refine WC.skip<|Af<|Sr<|Vm<|have bz:=Bs a5 ab;have b0:=Ss Ah a4 ab;Bi a fun ac dc a=>Ca (Cg [Pt ad 0] Z) (CW a6 bg dc dcd dcd bz (AN (x:=(AC.mk f p q r (Ai.mk u w y z) aa)) b0)) ?_
 rintro _ ez ⟨de,e0,rfl,aw,df⟩
 obtain rfl:=DM df
 refine Ef<|AY de 22 G9 Z fun dg e1 dh di ax=>Eu<|St HN di Z Z Z Z fun e2 b1 ay=>AA<|Sr<|Vm<|Vx (Nc Z)<|Vx (Fd Gb Z)<|have b2:=Y3 bz aw ax ay;Vx (Ld BC Z (Bc b2 Z))<|Vr (I (Wr (p+1)))<|Vx (Nc Z)<|Vx (Fd Gb Z)<|Eu<|St Mj b2 Z Z Z Z fun dj dk aq=>AA<|Sr<|Vm<|have dl:=K4 Ah b0 aw ax ay aq;Bi a fun c dm a=>Ca (Cg [Pt ad 0] Z) (bm.ref04_reader_term dg dj dm dcd dcd dk (AN (x:=(AC.mk f (Wr (p+1)) q r (Ai.mk u w y z) aa)) dl)) ?_
 rintro _ e3 ⟨dn,e4,e5,rfl,az,dp,dq,dr⟩
 obtain ⟨b4,b5,rfl,b3⟩:=E1 (Ae dp)
 obtain ⟨ds,dt,rfl,b6⟩:=E1 (AZ dr)
 refine Ef<|AY dn 23 De Z fun bi e8 du dv ak=>have dw:=Ss AH b3 ak;Eu<|St D1 dv Z Z Z Z fun dx dy al=>AA<|Sr<|Va (I 8)<|AA<|Am (fun av bj=>∃ag bk a8,av=Env.puts ag [(0,Pt ad 0),(2,Pt bd 0),(3,Pt a1 0),(4,Pt dh 0),(5,Pt du 0),(6,I a8)]∧EE g h l m n e o bv ac c a8=some a0∧AS [] bi dx bk bj) ?_ ?_
 refine Sr<|Vx (Fd Fm Z)<|have dz:=Y4 b1 aq az ak al;Vx (Ld CG Z (Bc dz Z))<|Vx (v:=.bool (ac.text==([45]:Bts))) (Run.strEq Z Z)<|AA<|Cn a (fun d0 a=>?_) fun d0 a=>?_
 refine AL<|Va (I 9)<|AA<|⟨_,bi,9,Pu,a,Rf⟩
 refine WC.skip<|⟨_,bi,8,Pu,a,Rf⟩
 rintro _ bj ⟨ag,bk,a8,rfl,a,am⟩
 rw [EE] at a
 refine AL<|Vm<|have b7:=Bs (Y4 (Y4 bu ab aw ax ay) aq az ak al) am;Vx (Lx A9 Z Z (Bw b7))<|have d1:=Bs dy am;Vx (Lx A9 Z Z (Bw d1))<|have d2:=Bs (Y4 b1 aq az ak al) am;Vx (Lx Ia Z Z (Bw d2))<|have d3:=Ss AH (K4 AH (K4 AH bt ab aw ax ay) aq az ak al) am;have d4:=K2 AH dw al am;Bi a fun ap d5 a=>Ca (Cg [I a8,Ag [I g,Sb h,Sb l,I m,Cx n,Sl ai e aj,I o],Ag [I c.1.op,Sb c.1.name,Sb c.1.tail,I c.1.type_,Cx c.1.num,Sl b4 c.1.args b5,I c.1.at_],Ag [I ac.kind,Sb ac.text,Cx ac.num,I ac.at_]] Z) (M1 bk bj d5 (AW (x:=(AE.mk g h l m n e o)) d3) (AW (x:=c.1) d4) (Fo (x:=ac))) ?_
 rintro _ e9 ⟨d6,fa,rfl,a9,d7⟩
 obtain ⟨d8,d9,rfl,b8⟩:=E1 (Ae d7)
 refine have ea:=Bs b7 a9;Eu<|St D1 ea Z Z Z Z fun fc eb ba=>AA<|have ec:=Ss Ah (K4 Ah b6 ak al am a9) ba;have ed:=Ss AH b8 ba;have ee:=Bs (Y4 dq ak al am a9) ba;⟨ae,Nat.lt_succ_self ae,_,d6,c.2.marks,ds,dt,c.2.at_,c.2.why,c.2.where_,c.2.l.text,c.2.l.funcs,c.2.l.arity,c.2.l.nest,c.2.nest,ap.op,ap.name,ap.tail,ap.type_,ap.num,ap.args,d8,d9,ap.at_,Pu,(bw▸a),(T3 (T4 (T4 (Mo [1,21,22,23] bf) ab aw ax ay) aq az ak al) am a9 ba),ec,ed,ee,eb⟩
 refine Ba<|Sr<|have ef:=Bs bu ab;Vx (Lx A9 Z Z (Bw ef))<|have eg:=Bs (Y4 ci bo ar au bf) ab;have eh:=Ss AH bt ab;Eu<|St D1 eg Z Z Z Z fun fd ei bb=>AA<|AQ ?_
 obtain rfl:=AK a
 refine O1 B cf Z (.agg A9 Z Z (Bw ei))<|have ej:=Ss AH eh bb;have ek:=Y2 a5 ab bb;have el:=K2 Ah a4 ab bb;⟨a6,[I g,Sb h,Sb l,I m,Cx n,Sl ai e aj,I o],[Sl a2 f a3,I p,I q,I r,I u,I w,I y,I z,I aa],Z,Ho (T2 (T4 (Mo [1,20,21,22,23] be) bo ar au bf) ab bb) ca,(AW (x:=(AE.mk g h l m n e o)) ej),ek,(AN (x:=(AC.mk f p q r (Ai.mk u w y z) aa)) el)⟩
theorem PF(c:AB)(e:Nat)(h:AB.Good c):ref04_reader_sum.Spec (DX c e):=lk1 (PE c e h)
theorem Oh(an:AB)(bl:Nat)(bm:AB.Good an)(bc:Col)(b9:World)(ca:∀b,bc b<10):ref04_reader_term.At True True bc b9 (DF an bl) 1:=by
 intro ad cb em a0 a _ _ cc cd
 rw [DF] at a
 obtain ⟨eo,ep,rfl,bn⟩:=E1 (AZ cd)
 refine Ay Tryz.func151 Z Tryz.ntmps151 Z fun B cf eq=>Sr<|Ef<|AY bc 20 De Z fun cg ch bd ci be=>AA<|Sr<|Vm<|have cj:=Bs cc be;have ck:=Ss Ah bn be;Bi a fun d cl a=>Ca (Cg [Pt ad 0] Z) (bm.ref04_reader_unit cg ch cl dcd dcd cj (AN (x:=cb) ck)) ?_
 rintro _ er ⟨cm,es,et,rfl,bo,cn,co,cq⟩
 obtain ⟨cr,ct,rfl,bp⟩:=E1 (Ae cn)
 obtain ⟨cu,cv,rfl,bq⟩:=E1 (AZ cq)
 refine Ef<|AY cm 21 De Z fun br ew a1 cw ar=>have cx:=Ss AH bp ar;Eu<|St D1 cw Z Z Z Z fun cy cz au=>AA<|AR<|Af<|Bg (fun ae av af=>∃ag ah f a2 a3 p q r u w y z aa g h l m n e ai aj o,av=Env.puts ag [(0,Pt ad 0),(2,Pt bd 0),(3,Pt a1 0)]∧Bx an ae f p q r u w y z aa g h l m n e o=some a0∧AS [1,21,22,23] br cy ah af∧Slc Ah ah.F af (Sl a2 f a3) f∧Slc AH ah.F af (Sl ai e aj) e∧Bk ah af 1 ad [Sl a2 f a3,I p,I q,I r,I u,I w,I y,I z,I aa] 126∧Bk ah af 21 a1 [I g,Sb h,Sb l,I m,Cx n,Sl ai e aj,I o] 56) bl ?_ ?_
 refine have c0:=K2 Ah bq ar au;have c1:=Ss AH cx au;have c2:=Y2 co ar au;⟨_,br,d.2.marks,cu,cv,d.2.at_,d.2.why,d.2.where_,d.2.l.text,d.2.l.funcs,d.2.l.arity,d.2.l.nest,d.2.nest,d.1.op,d.1.name,d.1.tail,d.1.type_,d.1.num,d.1.args,cr,ct,d.1.at_,Pu,a,(AS.refl [1,21,22,23] _ _),c0,c1,c2,cz⟩
 rintro ae _ af ⟨ag,ah,f,a2,a3,p,q,r,u,w,y,z,aa,g,h,l,m,n,e,ai,aj,o,rfl,a,bf,a4,bt,a5,bu⟩
 rcases ae with _|ae
 exact A5 a
 refine have a:C9 an (Bx an ae) f p q r u w y z aa g h l m n e o=some a0:=a; ?_
 obtain ⟨bv,bw⟩:∃s,s=Bx an ae:=⟨_,rfl⟩
 rw [←bw,C9] at a
 refine AR<|Am (fun av bg=>∃ag a6 bh,av=Env.puts ag [(0,Pt ad 0),(2,Pt bd 0),(3,Pt a1 0),(14,.bool bh)]∧Dx an f p q r u w y z aa g h l m n e o bv bh=some a0∧AS [] ah af a6 bg) ?_ ?_
 refine AL<|Vm<|Bi a fun ex c3 a=>Ca (Cg [Pt ad 0,Sb ([42]:Bts)] Z) (DA ah af c3 dcd dcd a5 (AN (x:=(AC.mk f p q r (Ai.mk u w y z) aa)) a4)) ?_
 rintro _ c4 ⟨bx,rfl,a7⟩
 refine Vm<|Bo a (fun ao a=>?_) fun ao a=>?_
 refine Pg ao<|Pg ao<|Vp ao<|AA<|⟨_,bx,true,Pu,a,(Mo [] a7)⟩
 refine Gm ao<|have c5:=Bs a5 a7;have c6:=Ss Ah a4 a7;Bi a fun c7 c8 a=>CT (.guard (t:=false) (b:=false) Z Z Z Z (Cb ao)) Z Z (Cg [Pt ad 0,Sb ([47]:Bts)] Z)<|Calls.mono (DA bx c4 c8 dcd dcd c5 (AN (x:=(AC.mk f p q r (Ai.mk u w y z) aa)) c6)) ?_
 rintro _ ey ⟨c9,rfl,da⟩
 refine ⟨_,Z,?_⟩
 refine Vp ao<|AA<|⟨_,c9,c7,Pu,a,(Tn (Mo [] a7) da)⟩
 rintro _ bg ⟨ag,a6,bh,rfl,a,ab⟩
 rw [Dx] at a
 refine Cn a (fun db a=>?_) fun db a=>?_
 refine WC.skip<|Af<|Sr<|Vm<|have bz:=Bs a5 ab;have b0:=Ss Ah a4 ab;Bi a fun ac dc a=>Ca (Cg [Pt ad 0] Z) (CW a6 bg dc dcd dcd bz (AN (x:=(AC.mk f p q r (Ai.mk u w y z) aa)) b0)) ?_
 rintro _ ez ⟨de,e0,rfl,aw,df⟩
 obtain rfl:=DM df
 refine Ef<|AY de 22 G9 Z fun dg e1 dh di ax=>Eu<|St HN di Z Z Z Z fun e2 b1 ay=>AA<|Sr<|Vm<|Vx (Nc Z)<|Vx (Fd Gb Z)<|have b2:=Y3 bz aw ax ay;Vx (Ld BC Z (Bc b2 Z))<|Vr (I (Wr (p+1)))<|Vx (Nc Z)<|Vx (Fd Gb Z)<|Eu<|St Mj b2 Z Z Z Z fun dj dk aq=>AA<|Sr<|Vm<|have dl:=K4 Ah b0 aw ax ay aq;Bi a fun c dm a=>Ca (Cg [Pt ad 0] Z) (bm.ref04_reader_unit dg dj dm dcd dcd dk (AN (x:=(AC.mk f (Wr (p+1)) q r (Ai.mk u w y z) aa)) dl)) ?_
 rintro _ e3 ⟨dn,e4,e5,rfl,az,dp,dq,dr⟩
 obtain ⟨b4,b5,rfl,b3⟩:=E1 (Ae dp)
 obtain ⟨ds,dt,rfl,b6⟩:=E1 (AZ dr)
 refine Ef<|AY dn 23 De Z fun bi e8 du dv ak=>have dw:=Ss AH b3 ak;Eu<|St D1 dv Z Z Z Z fun dx dy al=>AA<|Sr<|Va (I 10)<|AA<|Am (fun av bj=>∃ag bk a8,av=Env.puts ag [(0,Pt ad 0),(2,Pt bd 0),(3,Pt a1 0),(4,Pt dh 0),(5,Pt du 0),(6,I a8)]∧Dw g h l m n e o bv ac c a8=some a0∧AS [] bi dx bk bj) ?_ ?_
 refine Sr<|Vx (Fd Fm Z)<|have dz:=Y4 b1 aq az ak al;Vx (Ld CG Z (Bc dz Z))<|Vx (v:=.bool (ac.text==([47]:Bts))) (Run.strEq Z Z)<|AA<|Cn a (fun d0 a=>?_) fun d0 a=>?_
 refine AL<|Va (I 11)<|AA<|⟨_,bi,11,Pu,a,Rf⟩
 refine WC.skip<|⟨_,bi,10,Pu,a,Rf⟩
 rintro _ bj ⟨ag,bk,a8,rfl,a,am⟩
 rw [Dw] at a
 refine AL<|Vm<|have b7:=Bs (Y4 (Y4 bu ab aw ax ay) aq az ak al) am;Vx (Lx A9 Z Z (Bw b7))<|have d1:=Bs dy am;Vx (Lx A9 Z Z (Bw d1))<|have d2:=Bs (Y4 b1 aq az ak al) am;Vx (Lx Ia Z Z (Bw d2))<|have d3:=Ss AH (K4 AH (K4 AH bt ab aw ax ay) aq az ak al) am;have d4:=K2 AH dw al am;Bi a fun ap d5 a=>Ca (Cg [I a8,Ag [I g,Sb h,Sb l,I m,Cx n,Sl ai e aj,I o],Ag [I c.1.op,Sb c.1.name,Sb c.1.tail,I c.1.type_,Cx c.1.num,Sl b4 c.1.args b5,I c.1.at_],Ag [I ac.kind,Sb ac.text,Cx ac.num,I ac.at_]] Z) (M1 bk bj d5 (AW (x:=(AE.mk g h l m n e o)) d3) (AW (x:=c.1) d4) (Fo (x:=ac))) ?_
 rintro _ e9 ⟨d6,fa,rfl,a9,d7⟩
 obtain ⟨d8,d9,rfl,b8⟩:=E1 (Ae d7)
 refine have ea:=Bs b7 a9;Eu<|St D1 ea Z Z Z Z fun fc eb ba=>AA<|have ec:=Ss Ah (K4 Ah b6 ak al am a9) ba;have ed:=Ss AH b8 ba;have ee:=Bs (Y4 dq ak al am a9) ba;⟨ae,Nat.lt_succ_self ae,_,d6,c.2.marks,ds,dt,c.2.at_,c.2.why,c.2.where_,c.2.l.text,c.2.l.funcs,c.2.l.arity,c.2.l.nest,c.2.nest,ap.op,ap.name,ap.tail,ap.type_,ap.num,ap.args,d8,d9,ap.at_,Pu,(bw▸a),(T3 (T4 (T4 (Mo [1,21,22,23] bf) ab aw ax ay) aq az ak al) am a9 ba),ec,ed,ee,eb⟩
 refine Ba<|Sr<|have ef:=Bs bu ab;Vx (Lx A9 Z Z (Bw ef))<|have eg:=Bs (Y4 ci bo ar au bf) ab;have eh:=Ss AH bt ab;Eu<|St D1 eg Z Z Z Z fun fd ei bb=>AA<|AQ ?_
 obtain rfl:=AK a
 refine O1 B cf Z (.agg A9 Z Z (Bw ei))<|have ej:=Ss AH eh bb;have ek:=Y2 a5 ab bb;have el:=K2 Ah a4 ab bb;⟨a6,[I g,Sb h,Sb l,I m,Cx n,Sl ai e aj,I o],[Sl a2 f a3,I p,I q,I r,I u,I w,I y,I z,I aa],Z,Ho (T2 (T4 (Mo [1,20,21,22,23] be) bo ar au bf) ab bb) ca,(AW (x:=(AE.mk g h l m n e o)) ej),ek,(AN (x:=(AC.mk f p q r (Ai.mk u w y z) aa)) el)⟩
theorem Oi(c:AB)(e:Nat)(h:AB.Good c):ref04_reader_term.Spec (DF c e):=lk1 (Oh c e h)
theorem Oj(a6:AB)(bl:Nat)(b8:AB.Good a6)(b9:Col)(dv:World)(av:∀b,b9 b<10):ref04_reader_unit.At True True b9 dv (DG a6 bl) 1:=by
 intro p c ip bm a _ _ dw dx
 rw [DG] at a
 obtain ⟨cy,cz,rfl,cx⟩:=E1 (AZ dx)
 refine Ay Tryz.func157 Z Tryz.ntmps157 Z fun B aw ax=>Sr<|Ef<|AY b9 20 De Z fun dy dz bn ay ah=>AA<|Sr<|Vm<|have c0:=Bs dw ah;have a7:=Ss Ah cx ah;Bi a fun f d0 a=>Ca (Cg [Pt p 0] Z) (CW dy dz d0 dcd dcd c0 (AN (x:=c) a7)) ?_
 rintro _ ir ⟨d1,it,rfl,m,d2⟩
 obtain rfl:=DM d2
 refine Ef<|AY d1 21 G9 Z fun bo iu d3 d4 n=>Eu<|St HN d4 Z Z Z Z fun d5 az o=>AA<|AR<|Sr<|Vm<|Vx (Nc Z)<|Vx (Fd JU Z)<|have an:=Y3 c0 m n o;Vx (Ld BC Z (Bc an Z))<|Vr (.bool (c.why != 0))<|AA<|Cn a (fun d6 a=>?_) fun d6 a=>?_
 refine Sr<|Vx (v:=Ag [I 0,Sb ([]:Bts),Sb ([]:Bts),I 0,Cx (((0,0):Nat×Nat)),.slice none 0 0,I 0]) (Bp De Na Z .nil)<|have d7:=Y3 ay m n o;Eu<|St D1 d7 Z Z Z Z fun iv d8 ca=>AA<|AQ ?_
 obtain rfl:=AK a
 refine O1 B aw Z (.agg A9 Z Z (Bw d8))<|have d9:=Bs an ca;have ea:=K4 Ah a7 m n o ca;⟨bo,[I 0,Sb ([]:Bts),Sb ([]:Bts),I 0,Cx (((0,0):Nat×Nat)),.slice none 0 0,I 0],[Sl cy c.marks cz,I c.at_,I c.why,I c.where_,I c.l.text,I c.l.funcs,I c.l.arity,I c.l.nest,I c.nest],Z,Ho (T4 (Mo [20,21] ah) m n o ca) av,(AW (x:=(AE.mk 0 ([]:Bts) ([]:Bts) 0 ((0,0):Nat×Nat) [] 0)) BK),d9,(AN (x:=c) ea)⟩
 refine WC.skip<|AR<|Af<|Sr<|Vx (Fz LN Z)<|Vx (Ld Ph Z (Bc az Z))<|Vr (.bool (f.kind==2))<|Va (.bool (f.kind==2))<|AA<|Cn a (fun eb a=>?_) fun eb a=>?_
 refine Sr<|Vm<|Vx (Nc Z)<|Vx (Fd Gb Z)<|Vx (Ld BC Z (Bc an Z))<|Vr (I (Wr (c.at_+1)))<|Vx (Nc Z)<|Vx (Fd Gb Z)<|Eu<|St Mj an Z Z Z Z fun iw ec bp=>AA<|Sr<|Vx (Fd VA Z)<|have c1:=Bs az bp;Vx (Ld HL Z (Bc c1 Z))<|Vx (Fd Ls Z)<|Vx (Ld BC Z (Bc c1 Z))<|Vx (v:=Ag [I 1,Sb ([]:Bts),Sb ([]:Bts),I 0,Cx f.num,.slice none 0 0,I f.at_]) (Bp De Na Z (.cons Z Z Z (.cons Z Z Z (.cons Z Z Z .nil))))<|have ed:=Y4 ay m n o bp;Eu<|St D1 ed Z Z Z Z fun ix ee cb=>AA<|AQ ?_
 obtain rfl:=AK a
 refine O1 B aw Z (.agg A9 Z Z (Bw ee))<|have ef:=Bs ec cb;have eg:=Ss Ah (K4 Ah a7 m n o bp) cb;⟨bo,[I 1,Sb ([]:Bts),Sb ([]:Bts),I 0,Cx f.num,.slice none 0 0,I f.at_],[Sl cy c.marks cz,I (Wr (c.at_+1)),I c.why,I c.where_,I c.l.text,I c.l.funcs,I c.l.arity,I c.l.nest,I c.nest],Z,Ho (Tn (T4 (Mo [1,20,21] ah) m n o bp) cb) av,(AW (x:=(AE.mk 1 ([]:Bts) ([]:Bts) 0 f.num [] f.at_)) BK),ef,(AN (x:=(AC.mk c.marks (Wr (c.at_+1)) c.why c.where_ (Ai.mk c.l.text c.l.funcs c.l.arity c.l.nest) c.nest)) eg)⟩
 refine Sr<|Vx (Fz LN Z)<|Vx (Ld Ph Z (Bc az Z))<|Vr (.bool (f.kind==0))<|Va (.bool (f.kind==0))<|AA<|Cn a (fun eh a=>?_) fun eh a=>?_
 refine Sr<|Vm<|Vx (Nc Z)<|Vx (Fd Gb Z)<|Vx (Ld BC Z (Bc an Z))<|Vr (I (Wr (c.at_+1)))<|Vx (Nc Z)<|Vx (Fd Gb Z)<|Eu<|St Mj an Z Z Z Z fun ei ej bq=>AA<|Sr<|Vm<|have ek:=Bs az bq;Vx (Lx Ia Z Z (Bw ek))<|have el:=K4 Ah a7 m n o bq;Bi a fun h em a=>Ca (Cg [Pt p 0,Ag [I f.kind,Sb f.text,Cx f.num,I f.at_]] Z) (b8.ref04_reader_named bo ei em dcd dcd ej (AN (x:=(AC.mk c.marks (Wr (c.at_+1)) c.why c.where_ (Ai.mk c.l.text c.l.funcs c.l.arity c.l.nest) c.nest)) el) (Fo (x:=f))) ?_
 rintro _ iy ⟨en,iz,i0,rfl,c2,eo,ep,eq⟩
 obtain ⟨c4,c5,rfl,c3⟩:=E1 (Ae eo)
 obtain ⟨er,es,rfl,c6⟩:=E1 (AZ eq)
 refine have et:=Bs (Y4 ay m n o bq) c2;Eu<|St D1 et Z Z Z Z fun i3 eu br=>AA<|AQ ?_
 obtain rfl:=AK a
 refine O1 B aw Z (.agg A9 Z Z (Bw eu))<|have ew:=Ss AH c3 br;have ex:=Bs ep br;have ey:=Ss Ah c6 br;⟨en,[I h.1.op,Sb h.1.name,Sb h.1.tail,I h.1.type_,Cx h.1.num,Sl c4 h.1.args c5,I h.1.at_],[Sl er h.2.marks es,I h.2.at_,I h.2.why,I h.2.where_,I h.2.l.text,I h.2.l.funcs,I h.2.l.arity,I h.2.l.nest,I h.2.nest],Z,Ho (T2 (T4 (Mo [1,20,21] ah) m n o bq) c2 br) av,(AW (x:=h.1) ew),ex,(AN (x:=h.2) ey)⟩
 refine Sr<|Vm<|have ez:=K3 Ah a7 m n o;Bi a fun d e0 a=>Ca (Cg [Pt p 0,Sb ([40]:Bts)] Z) (FP bo d5 e0 dcd dcd an (AN (x:=c) ez)) ?_
 rintro _ cc ⟨bt,i4,rfl,ai,cd,e1⟩
 obtain ⟨e2,e3,rfl,a0⟩:=E1 (AZ e1)
 refine Va (.bool d.1)<|AA<|Cn a (fun e4 a=>?_) fun e4 a=>?_
 refine Sr<|Vm<|Bi a fun l e5 a=>Ca (Cg [Pt p 0] Z) (b8.ref04_reader_expr bt cc e5 dcd dcd cd (AN (x:=d.2) a0)) ?_
 rintro _ i6 ⟨e6,i7,i8,rfl,c7,e7,e8,e9⟩
 obtain ⟨cf,cg,rfl,c8⟩:=E1 (Ae e7)
 obtain ⟨jb,jc,rfl,c9⟩:=E1 (AZ e9)
 refine Ef<|AY e6 22 De Z fun fa jd je fb a8=>have fc:=Ss AH c8 a8;Eu<|St D1 fb Z Z Z Z fun fd fe a9=>AA<|Sr<|Vm<|have ff:=Y2 e8 a8 a9;have fg:=K2 Ah c9 a8 a9;Bi a fun ab fh a=>Ca (Cg [Pt p 0,Sb ([41]:Bts)] Z) (BZ fa fd fh dcd dcd ff (AN (x:=l.2) fg)) ?_
 rintro _ jf ⟨fi,jg,rfl,bu,fj,fk⟩
 obtain ⟨fl,fm,rfl,da⟩:=E1 (AZ fk)
 refine AA<|Sr<|have fn:=Bs fe bu;Vx (Lx A9 Z Z (Bw fn))<|have fo:=Y4 (Y4 ay m n o ai) c7 a8 a9 bu;have fp:=K2 AH fc a9 bu;Eu<|St D1 fo Z Z Z Z fun ji fq bv=>AA<|AQ ?_
 obtain rfl:=AK a
 refine O1 B aw Z (.agg A9 Z Z (Bw fq))<|have fr:=Ss AH fp bv;have fs:=Bs fj bv;have ft:=Ss Ah da bv;⟨fi,[I l.1.op,Sb l.1.name,Sb l.1.tail,I l.1.type_,Cx l.1.num,Sl cf l.1.args cg,I l.1.at_],[Sl fl ab.marks fm,I ab.at_,I ab.why,I ab.where_,I ab.l.text,I ab.l.funcs,I ab.l.arity,I ab.l.nest,I ab.nest],Z,Ho (Tn (T4 (T4 (Mo [1,20,21,22] ah) m n o ai) c7 a8 a9 bu) bv) av,(AW (x:=l.1) fr),fs,(AN (x:=ab) ft)⟩
 refine Am (fun ao ch=>∃w ap ci,ao=Env.puts w [(0,Pt p 0),(2,Pt bn 0),(3,Pt d3 0),(53,.bool ci)]∧DQ a6 bl f d ci=some bm∧AS [] bt cc ap ch) ?_ ?_
 refine AL<|Vx (Fz LN Z)<|have db:=Bs az ai;Vx (Ld Ph Z (Bc db Z))<|Vr (.bool (f.kind != 1))<|Vm<|Bo a (fun y a=>?_) fun y a=>?_
 refine Pg y<|Pg y<|Pg y<|Pg y<|Vp y<|Va (.bool true)<|AA<|⟨_,bt,true,Pu,a,Rf⟩
 refine Gx y (Fd Fm Z)<|Gx y (Ld CG Z (Bc db Z))<|Bi a fun cj fu a=>CT (.guard (t:=false) (b:=false) Z Z Z Z (Cb y)) Z Z (Cg [Sb f.text] Z)<|Calls.mono (Nd bt cc fu) ?_
 rintro _ jj ⟨fv,rfl,fw⟩
 refine ⟨_,Z,?_⟩
 refine Gr y (.bool (cj==0))<|Vp y<|Va (.bool (cj==0))<|AA<|⟨_,fv,(cj==0),Pu,a,(Mo [] fw)⟩
 rintro _ ch ⟨w,ap,ci,rfl,a,z⟩
 rw [DQ] at a
 refine Cn a (fun fx a=>?_) fun fx a=>?_
 refine Sr<|Vm<|have fy:=Bs cd z;have fz:=Ss Ah a0 z;Bi a fun ac f0 a=>Ca (Cg [Pt p 0,I 21] Z) (FO ap ch f0 dcd dcd fy (AN (x:=d.2) fz)) ?_
 rintro _ jk ⟨f1,jl,rfl,dc,f2,f3⟩
 obtain ⟨f4,f5,rfl,de⟩:=E1 (AZ f3)
 refine AA<|Sr<|Vx (v:=Ag [I 0,Sb ([]:Bts),Sb ([]:Bts),I 0,Cx (((0,0):Nat×Nat)),.slice none 0 0,I 0]) (Bp De Na Z .nil)<|have f6:=Y2 (Y4 ay m n o ai) z dc;Eu<|St D1 f6 Z Z Z Z fun jn f7 ck=>AA<|AQ ?_
 obtain rfl:=AK a
 refine O1 B aw Z (.agg A9 Z Z (Bw f7))<|have f8:=Bs f2 ck;have f9:=Ss Ah de ck;⟨f1,[I 0,Sb ([]:Bts),Sb ([]:Bts),I 0,Cx (((0,0):Nat×Nat)),.slice none 0 0,I 0],[Sl f4 ac.marks f5,I ac.at_,I ac.why,I ac.where_,I ac.l.text,I ac.l.funcs,I ac.l.arity,I ac.l.nest,I ac.nest],Z,Ho (T3 (T4 (Mo [1,20,21] ah) m n o ai) z dc ck) av,(AW (x:=(AE.mk 0 ([]:Bts) ([]:Bts) 0 ((0,0):Nat×Nat) [] 0)) BK),f8,(AN (x:=ac) f9)⟩
 refine WC.skip<|Sr<|Vm<|Vx (Nc Z)<|Vx (Fd Gb Z)<|have df:=Bs cd z;Vx (Ld BC Z (Bc df Z))<|Vr (I (Wr (d.2.at_+1)))<|Vx (Nc Z)<|Vx (Fd Gb Z)<|Eu<|St Mj df Z Z Z Z fun ga cl a1=>AA<|Am (fun ao a2=>∃w ad a3 g q r aq s u,ao=Env.puts w [(0,Pt p 0),(2,Pt bn 0),(5,Pt a3 0)]∧FF a6 bl d g q r aq s u=some bm∧AS [23] ap ga ad a2∧Bk ad a2 23 a3 [I g,Sb q,Sb r,I aq,Cx s,.slice none 0 0,I u] 56) ?_ ?_
 refine BW Cv (.q 0 (.q 1 (.q 3 (.q 4 (.two 2 6 (.q 5 (.one 6 (.one 7 .nil))) (.one 2 (.q 5 (.one 7 .nil)))))))) [7] [] ap (by kernel_rfl) fun gb cm=>Qx ax Z (fun _ _=>Fd Fm Z)<|have dg:=Y4 az ai z a1 cm;Qx ax Z (fun _ ⟨_,ar⟩=>Ld CG Z (Bc (Bs dg ar) Z))<|Qx ax Z (fun _ _=>Fd Ls Z)<|Qx ax Z (fun _ ⟨_,ar⟩=>Ld BC Z (Bc (Bs dg ar) Z))<|M7 Z Z ?_ ?_
 refine Bi a fun cn gc a=>A3 Z (.none Z) Z Z (Cg [Sb f.text] Z)<|Calls.mono (Nd ap gb gc) ?_
 rintro _ jo ⟨gd,rfl,co⟩
 refine ⟨_,Z,⟨_,(Mo [] co)⟩,?_⟩
 refine Qx ax Z (v:=Ag [I cn,Sb ([]:Bts),Sb ([]:Bts),I 0,Cx (((0,0):Nat×Nat)),.slice none 0 0,I f.at_]) (fun _ _=>B3 (cs:=[I cn,Sb ([]:Bts),Sb ([]:Bts),I 0,Cx (((0,0):Nat×Nat)),.slice none 0 0,I f.at_]) [I 0,Sb ([]:Bts),Sb ([]:Bts),I 0,Cx (((0,0):Nat×Nat)),.slice none 0 0,I 0] De Na Z (.cons Z Z Z (.cons Z Z Z .nil)) Z Z)<|A1 Z<|Bb Z (.none Z) Z Z<|AY gd 23 De Z fun ge jp gf gg dh=>⟨⟨_,(Tn (Mo [] co) dh)⟩,?_⟩
 refine ES dcd<|WY.one<|BM Z (.none Z) Z<|St D1 gg Z Z Z Z fun jq gh gi=>WY.nil<|⟨_,ge,gf,cn,([]:Bts),([]:Bts),0,((0,0):Nat×Nat),f.at_,Pu,a,(T3 (Mo [23] cm) co dh gi),gh⟩
 refine Bb Z (.none Z) Z Z<|AY ap 23 De Z fun gj gk gl gm cq=>⟨⟨_,(Mo [] cq)⟩,?_⟩
 refine A1 Z<|Bi a fun cr gn a=>A3 Z (.none Z) Z Z (Cg [Sb f.text] Z)<|Calls.mono (Nd gj gk gn) ?_
 rintro _ jr ⟨go,rfl,ct⟩
 refine ⟨_,Z,⟨_,(Tn (Mo [] cq) ct)⟩,?_⟩
 refine Qx ax Z (v:=Ag [I cr,Sb ([]:Bts),Sb ([]:Bts),I 0,Cx (((0,0):Nat×Nat)),.slice none 0 0,I f.at_]) (fun _ _=>B3 (cs:=[I cr,Sb ([]:Bts),Sb ([]:Bts),I 0,Cx (((0,0):Nat×Nat)),.slice none 0 0,I f.at_]) [I 0,Sb ([]:Bts),Sb ([]:Bts),I 0,Cx (((0,0):Nat×Nat)),.slice none 0 0,I 0] De Na Z (.cons Z Z Z (.cons Z Z Z .nil)) Z Z)<|ES dcd<|WY.one<|have gp:=Bs gm ct;BM Z (.none Z) Z<|St D1 gp Z Z Z Z fun js gq gr=>WY.nil<|⟨_,go,gl,cr,([]:Bts),([]:Bts),0,((0,0):Nat×Nat),f.at_,Pu,a,(T3 (Mo [23] cm) cq ct gr),gq⟩
 rintro _ a2 ⟨w,ad,a3,g,q,r,aq,s,u,rfl,a,aj,bw⟩
 rw [FF] at a
 refine Am (fun ao a4=>∃w a5 au bx bz ba bb bc bd be bf bg bh af aa ak al,ao=Env.puts w [(2,Pt bn 0),(5,Pt a3 0)]∧GN g q r s u au ba bb bc bd be bf bg bh af aa=some bm∧AS [1,23,24] ad a2 a5 a4∧Slc Ah a5.F a4 (Sl bx au bz) au∧Own AH 56 a5 a4 25 (Sl ak aa al) aa∧Bk a5 a4 1 p [Sl bx au bz,I ba,I bb,I bc,I bd,I be,I bf,I bg,I bh] 126∧Bk a5 a4 23 a3 [I g,Sb q,Sb r,I af,Cx s,Sl ak aa al,I u] 56) ?_ ?_
 refine Sr<|Vx (Fz C8 Z)<|Vx (Ld Ge Z (Bc bw Z))<|AA<|Af<|Sr<|Vr (.bool (g==5))<|Va (.bool (g==5))<|AA<|Cn a (fun gs a=>?_) fun gs a=>?_
 refine AL<|Vm<|have gt:=Bs cl aj;have gu:=K3 Ah a0 z a1 aj;Bi a fun ae gv a=>Ca (Cg [Pt p 0] Z) (Jy bl ad a2 gv dcd dcd gt (AN (x:=(AC.mk d.2.marks (Wr (d.2.at_+1)) d.2.why d.2.where_ (Ai.mk d.2.l.text d.2.l.funcs d.2.l.arity d.2.l.nest) d.2.nest)) gu)) ?_
 rintro _ jt ⟨gw,ju,rfl,di,gx,gy⟩
 obtain ⟨gz,g0,rfl,dj⟩:=E1 (AZ gy)
 refine Vx (Fd Lg Z)<|have g1:=Bs bw di;Eu<|St Xf g1 Z Z Z Z fun jw g2 cu=>AA<|have g3:=Ss Ah dj cu;have g4:=Bs gx cu;⟨_,gw,ae.2.marks,gz,g0,ae.2.at_,ae.2.why,ae.2.where_,ae.2.l.text,ae.2.l.funcs,ae.2.l.arity,ae.2.l.nest,ae.2.nest,ae.1,([]:List AE),none,0,Pu,a,(Tn (Mo [1,23,24] di) cu),g3,Own.nil,g4,g2⟩
 refine Am (fun ao cv=>∃w b0 cw,ao=Env.puts w [(0,Pt p 0),(2,Pt bn 0),(5,Pt a3 0),(86,.bool cw)]∧CU a6 d g q r aq s u cw=some bm∧AS [] ad a2 b0 cv) ?_ ?_
 refine Sr<|Vr (.bool (g==14))<|Va (.bool (g==14))<|AA<|Cn a (fun g5 a=>?_) fun g5 a=>?_
 refine WC.skip<|⟨_,ad,(g==14),Pu,a,Rf⟩
 refine Sr<|Vr (.bool (g==15))<|Va (.bool (g==15))<|AA<|Cn a (fun g6 a=>?_) fun g6 a=>?_
 refine WC.skip<|⟨_,ad,(g==15),Pu,a,Rf⟩
 refine Sr<|Vr (.bool (g==16))<|Va (.bool (g==16))<|AA<|Cn a (fun g7 a=>?_) fun g7 a=>?_
 refine WC.skip<|⟨_,ad,(g==16),Pu,a,Rf⟩
 refine AL<|Vr (.bool (g==17))<|Va (.bool (g==17))<|AA<|⟨_,ad,(g==17),Pu,a,Rf⟩
 rintro _ cv ⟨w,b0,cw,rfl,a,am⟩
 rw [CU] at a
 refine Cn a (fun g8 a=>?_) fun g8 a=>?_
 refine Sr<|Vm<|have g9:=Y2 cl aj am;have ha:=K4 Ah a0 z a1 aj am;Bi a fun hb hc a=>Ca (Cg [Pt p 0,Sb ([40]:Bts)] Z) (BZ b0 cv hc dcd dcd g9 (AN (x:=(AC.mk d.2.marks (Wr (d.2.at_+1)) d.2.why d.2.where_ (Ai.mk d.2.l.text d.2.l.funcs d.2.l.arity d.2.l.nest) d.2.nest)) ha)) ?_
 rintro _ hd ⟨he,jx,rfl,dk,hf,hg⟩
 obtain ⟨jz,j0,rfl,dl⟩:=E1 (AZ hg)
 refine AA<|Sr<|Vm<|Bi a fun e hh a=>Ca (Cg [Pt p 0] Z) (b8.ref04_reader_expr he hd hh dcd dcd hf (AN (x:=hb) dl)) ?_
 rintro _ j1 ⟨hi,j2,j3,rfl,dm,hj,hk,hl⟩
 obtain ⟨b1,b2,rfl,dn⟩:=E1 (Ae hj)
 obtain ⟨j6,j7,rfl,dp⟩:=E1 (AZ hl)
 refine Ef<|AY hi 24 De Z fun hm j8 j9 hn bi=>have ho:=Ss AH dn bi;Eu<|St D1 hn Z Z Z Z fun hp hq bj=>AA<|Sr<|Vm<|have hr:=Y2 hk bi bj;have hs:=K2 Ah dp bi bj;Bi a fun ag ht a=>Ca (Cg [Pt p 0,Sb ([41]:Bts)] Z) (BZ hm hp ht dcd dcd hr (AN (x:=e.2) hs)) ?_
 rintro _ ka ⟨hu,kb,rfl,b3,hw,hx⟩
 obtain ⟨hy,hz,rfl,dq⟩:=E1 (AZ hx)
 refine AA<|AL<|have h0:=Bs hq b3;Vx (Lx A9 Z Z (Bw h0))<|Ef<|Ch (cs:=[I e.1.op,Sb e.1.name,Sb e.1.tail,I e.1.type_,Cx e.1.num,Sl b1 e.1.args b2,I e.1.at_]) hu 25 [[I e.1.op,Sb e.1.name,Sb e.1.tail,I e.1.type_,Cx e.1.num,Sl b1 e.1.args b2,I e.1.at_]] CH De Z Z (.cons Z Z Z .nil) Z fun dr h1 b4 h2 bk=>have h3:=K3 AH ho bj b3 bk;have ds:Own AH 56 dr h1 25 (.slice (some ⟨b4,0,none⟩) 1 1) ([e.1]:List AE):=Own.lit (css:=[[I e.1.op,Sb e.1.name,Sb e.1.tail,I e.1.type_,Cx e.1.num,Sl b1 e.1.args b2,I e.1.at_]]) h2 Z Z Z (Aa (AW (x:=e.1) h3) BA) (A4 Z D3) Z;Vx (Fd BS Z)<|have h4:=Y3 (Y4 bw am dk dm bi) bj b3 bk;Eu<|Bv (vs:=[Sl (some ⟨b4,0,none⟩) (([e.1]:List AE)) 1]) (cs':=[I g,Sb q,Sb r,I aq,Cx s,Sl (some ⟨b4,0,none⟩) (([e.1]:List AE)) 1,I u]) S6 Z Z Z Z (AX (Own.one ds) CJ) h4 dcd Z Z fun kd h5 b5=>AA<|have h6:=K2 Ah dq bk b5;have h7:=Os ds b5;have h8:=Y2 hw bk b5;⟨_,dr,ag.marks,hy,hz,ag.at_,ag.why,ag.where_,ag.l.text,ag.l.funcs,ag.l.arity,ag.l.nest,ag.nest,aq,([e.1]:List AE),(some ⟨b4,0,none⟩),1,Pu,a,(T3 (T4 (Mo [1,23,24] am) dk dm bi bj) b3 bk b5),h6,h7,h8,h5⟩
 refine WC.skip<|have h9:=K4 Ah a0 z a1 aj am;have ia:=Y2 cl aj am;have ib:=Bs bw am;⟨_,b0,d.2.marks,e2,e3,(Wr (d.2.at_+1)),d.2.why,d.2.where_,d.2.l.text,d.2.l.funcs,d.2.l.arity,d.2.l.nest,d.2.nest,aq,([]:List AE),none,0,Pu,a,(Mo [1,23,24] am),h9,Own.nil,ia,ib⟩
 rintro _ a4 ⟨w,a5,au,bx,bz,ba,bb,bc,bd,be,bf,bg,bh,af,aa,ak,al,rfl,a,dt,ic,du,id,ie⟩
 rw [GN] at a
 refine Sr<|Vx (Lx A9 Z Z (Bw ie))<|have ig:=Y4 (Y4 ay m n o ai) z a1 aj dt;Eu<|Bv (vs:=[I g,Sb q,Sb r,I af,Cx s,Sl ak aa al,I u]) (cs':=[I g,Sb q,Sb r,I af,Cx s,Sl ak aa al,I u]) D1 Z Z Z Z (AX Z (AX Z (AX Z (AX Z (AX Z (AX (Own.one du) (AX Z CJ))))))) ig dcd Z Z fun ke ih b6=>AA<|AQ<|have ii:=Os du b6; ?_
 obtain ⟨ij,b7,ik⟩:=Own.freeze (S:=[25]) ii dcd dcd
 obtain rfl:=AK a
 refine have il:=Bs ih b7;O1 B aw Z (.agg A9 Z Z (Bw il))<|have im:=Y2 id b6 b7;have io:=K2 Ah ic b6 b7;⟨ij,[I g,Sb q,Sb r,I af,Cx s,Sl ak aa al,I u],[Sl bx au bz,I ba,I bb,I bc,I bd,I be,I bf,I bg,I bh],Z,Ho (T2 (T4 (T4 (Mo [1,20,21,23,24,25] ah) m n o ai) z a1 aj dt) b6 b7) av,(AW (x:=(AE.mk g q r af s aa u)) ik),im,(AN (x:=(AC.mk au ba bb bc (Ai.mk bd be bf bg) bh)) io)⟩
theorem Ok(c:AB)(e:Nat)(h:AB.Good c):ref04_reader_unit.Spec (DG c e):=lk1 (Oj c e h)
theorem N7(ac:AB)(b0:Nat)(co:AB.Good ac)(bj:Col)(cq:World)(b1:∀b,bj b<10):ref04_reader_named.At True True bj cq (Cp ac b0) 1:=by
 intro l cr e5 d e6 aw a _ _ ct cu cv
 rw [Cp] at a
 obtain ⟨e8,e9,rfl,b2⟩:=E1 (AZ cu)
 obtain rfl:=DM cv
 refine Ay Tryz.func162 Z Tryz.ntmps162 Z fun B b3 fa=>Sr<|Ef<|A0 bj 20 Z Z fun cw fb fc b4 ax=>Ef<|AY cw 21 De Z fun cx cy bk b5 ai=>AA<|AR<|Sr<|Vm<|have cz:=Y2 ct ax ai;have c0:=K2 Ah b2 ax ai;Bi a fun e c1 a=>Ca (Cg [Pt l 0,Sb ([40]:Bts)] Z) (FP cx cy c1 dcd dcd cz (AN (x:=cr) c0)) ?_
 rintro _ fd ⟨b6,fe,rfl,aj,b7,c2⟩
 obtain ⟨b8,b9,rfl,bl⟩:=E1 (AZ c2)
 refine Vr (.bool (!e.1))<|AA<|Cn a (fun c3 a=>?_) fun c3 a=>?_
 refine Sr<|Vx (Fd Fm Z)<|have ca:=Y2 b4 ai aj;Vx (Ld CG Z (Bc ca Z))<|Vx (Fd Ls Z)<|Vx (Ld BC Z (Bc ca Z))<|Vx (v:=Ag [I 6,Sb d.text,Sb ([]:Bts),I 0,Cx (((0,0):Nat×Nat)),.slice none 0 0,I d.at_]) (Bp De Na Z (.cons Z Z Z (.cons Z Z Z (.cons Z Z Z .nil))))<|have c4:=Bs b5 aj;Eu<|St D1 c4 Z Z Z Z fun fg c5 bm=>AA<|AQ ?_
 obtain rfl:=AK a
 refine O1 B b3 Z (.agg A9 Z Z (Bw c5))<|have c6:=Bs b7 bm;have c7:=Ss Ah bl bm;⟨b6,[I 6,Sb d.text,Sb ([]:Bts),I 0,Cx (((0,0):Nat×Nat)),.slice none 0 0,I d.at_],[Sl b8 e.2.marks b9,I e.2.at_,I e.2.why,I e.2.where_,I e.2.l.text,I e.2.l.funcs,I e.2.l.arity,I e.2.l.nest,I e.2.nest],Z,Ho (T3 (Mo [1,21] ax) ai aj bm) b1,(AW (x:=(AE.mk 6 d.text ([]:Bts) 0 ((0,0):Nat×Nat) [] d.at_)) BK),c6,(AN (x:=e.2) c7)⟩
 refine WC.skip<|Sr<|Vx (Fd Fm Z)<|have cb:=Y2 b4 ai aj;Vx (Ld CG Z (Bc cb Z))<|Vx (Fd Ls Z)<|Vx (Ld BC Z (Bc cb Z))<|Vx (v:=Ag [I 7,Sb d.text,Sb ([]:Bts),I 0,Cx (((0,0):Nat×Nat)),.slice none 0 0,I d.at_]) (Bp De Na Z (.cons Z Z Z (.cons Z Z Z (.cons Z Z Z .nil))))<|Ef<|AY b6 22 De Z fun cc fh ay c8 az=>Eu<|St D1 c8 Z Z Z Z fun c9 da a0=>AA<|AR<|Af<|Bg (fun ad ap ae=>∃af o h a1 a2 p m q r u w y z f ag ah,ap=Env.puts af [(0,Pt l 0),(4,Pt bk 0),(5,Pt ay 0)]∧Bl ac d ad h p m q r u w y z f=some aw∧AS [1,22,23,25] cc c9 o ae∧Slc Ah o.F ae (Sl a1 h a2) h∧Own AH 56 o ae 25 (Sl ag f ah) f∧Bk o ae 1 l [Sl a1 h a2,I p,I m,I q,I r,I u,I w,I y,I z] 126∧Bk o ae 22 ay [I 7,Sb d.text,Sb ([]:Bts),I 0,Cx (((0,0):Nat×Nat)),Sl ag f ah,I d.at_] 56) b0 ?_ ?_
 refine have db:=K2 Ah bl az a0;have dc:=Y2 b7 az a0;⟨_,cc,e.2.marks,b8,b9,e.2.at_,e.2.why,e.2.where_,e.2.l.text,e.2.l.funcs,e.2.l.arity,e.2.l.nest,e.2.nest,([]:List AE),none,0,Pu,a,(AS.refl [1,22,23,25] _ _),db,Own.nil,dc,da⟩
 rintro ad _ ae ⟨af,o,h,a1,a2,p,m,q,r,u,w,y,z,f,ag,ah,rfl,a,bn,a3,bo,aq,bp⟩
 rcases ad with _|ad
 exact A5 a
 refine have a:Cj ac d (Bl ac d ad) h p m q r u w y z f=some aw:=a; ?_
 obtain ⟨cd,cf⟩:∃s,s=Bl ac d ad:=⟨_,rfl⟩
 rw [←cf,Cj] at a
 refine AR<|Am (fun ap ar=>∃af ak bq,ap=Env.puts af [(0,Pt l 0),(4,Pt bk 0),(5,Pt ay 0),(29,.bool bq)]∧Db ac d h p m q r u w y z f cd bq=some aw∧AS [] o ae ak ar) ?_ ?_
 refine AL<|Vm<|Vx (Nc Z)<|Vx (Fd JU Z)<|Vx (Ld BC Z (Bc aq Z))<|Vr (.bool (m==0))<|Vm<|Bo a (fun aa a=>?_) fun aa a=>?_
 refine Gm aa<|Bi a fun cg de a=>CT (.guard (t:=true) (b:=true) Z Z Z Z (Cb aa)) Z Z (Cg [Pt l 0,Sb ([41]:Bts)] Z)<|Calls.mono (DA o ae de dcd dcd aq (AN (x:=(AC.mk h p m q (Ai.mk r u w y) z)) a3)) ?_
 rintro _ fi ⟨df,rfl,dg⟩
 refine ⟨_,Z,?_⟩
 refine Gr aa (.bool (!cg))<|Vp aa<|AA<|⟨_,df,(!cg),Pu,a,(Mo [] dg)⟩
 refine Pg aa<|Pg aa<|Pg aa<|Vp aa<|AA<|⟨_,o,false,Pu,a,Rf⟩
 rintro _ ar ⟨af,ak,bq,rfl,a,g⟩
 rw [Db] at a
 refine Cn a (fun dh a=>?_) fun dh a=>?_
 refine WC.skip<|Af<|Am (fun ap au=>∃af av al br bt a4 a5 a6 a7 a8 a9 ba bb,ap=Env.puts af [(0,Pt l 0),(4,Pt bk 0),(5,Pt ay 0)]∧Da ac f cd al a4 a5 a6 a7 a8 a9 ba bb=some aw∧AS [1] ak ar av au∧Slc Ah av.F au (Sl br al bt) al∧Bk av au 1 l [Sl br al bt,I a4,I a5,I a6,I a7,I a8,I a9,I ba,I bb] 126) ?_ ?_
 refine Sr<|Vx (Fd BS Z)<|have di:=Bs bp g;Vx (Ld Cf Z (Bc di Z))<|have dj:=Os bo g; ?_
 obtain ⟨fj,fk,dk⟩:=Own.len dj
 refine Vx (v:=I (f.length:Int)) (Ll CH dk)<|Vr (.bool (decide ((f.length:Int)>0)))<|AA<|Cn a (fun dl a=>?_) fun dl a=>?_
 refine AL<|Vm<|have dm:=Bs aq g;have dn:=Ss Ah a3 g;Bi a fun ab dp a=>Ca (Cg [Pt l 0,Sb ([44]:Bts)] Z) (BZ ak ar dp dcd dcd dm (AN (x:=(AC.mk h p m q (Ai.mk r u w y) z)) dn)) ?_
 rintro _ fl ⟨dq,fm,rfl,dr,ds,dt⟩
 obtain ⟨du,dv,rfl,ch⟩:=E1 (AZ dt)
 refine AA<|⟨_,dq,ab.marks,du,dv,ab.at_,ab.why,ab.where_,ab.l.text,ab.l.funcs,ab.l.arity,ab.l.nest,ab.nest,Pu,a,(Mo [1] dr),ch,ds⟩
 refine WC.skip<|have dw:=Ss Ah a3 g;have dx:=Bs aq g;⟨_,ak,h,a1,a2,p,m,q,r,u,w,y,z,Pu,a,(AS.refl [1] _ _),dw,dx⟩
 rintro _ au ⟨af,av,al,br,bt,a4,a5,a6,a7,a8,a9,ba,bb,rfl,a,bu,dy,dz⟩
 rw [Da] at a
 refine Sr<|Vm<|Bi a fun c d0 a=>Ca (Cg [Pt l 0] Z) (co.ref04_reader_expr av au d0 dcd dcd dz (AN (x:=(AC.mk al a4 a5 a6 (Ai.mk a7 a8 a9 ba) bb)) dy)) ?_
 rintro _ fo ⟨d1,fp,fq,rfl,bv,d2,d3,d4⟩
 obtain ⟨bc,bd,rfl,ci⟩:=E1 (Ae d2)
 obtain ⟨d5,d6,rfl,cj⟩:=E1 (AZ d4)
 refine Ef<|AY d1 23 De Z fun d7 ft fu d8 am=>have d9:=Ss AH ci am;Eu<|St D1 d8 Z Z Z Z fun fv ea an=>AA<|AL<|Vx (Fd BS Z)<|have ck:=Bs (Y4 bp g bu bv am) an;Vx (Ld Cf Z (Bc ck Z))<|Vx (Lx A9 Z Z (Bw ea))<|Ef<|Ch (cs:=[I c.1.op,Sb c.1.name,Sb c.1.tail,I c.1.type_,Cx c.1.num,Sl bc c.1.args bd,I c.1.at_]) d7 24 [[I c.1.op,Sb c.1.name,Sb c.1.tail,I c.1.type_,Cx c.1.num,Sl bc c.1.args bd,I c.1.at_]] CH De Z Z (.cons Z Z Z .nil) Z fun eb ec ed ee ao=>have ef:=K2 AH d9 an ao;have eg:Own AH 56 eb ec 24 (.slice (some ⟨ed,0,none⟩) 1 1) ([c.1]:List AE):=Own.lit (css:=[[I c.1.op,Sb c.1.name,Sb c.1.tail,I c.1.type_,Cx c.1.num,Sl bc c.1.args bd,I c.1.at_]]) ee Z Z Z (Aa (AW (x:=c.1) ef) BA) (A4 Z D3) Z;have eh:=Os (Os (Os (Os (Os (Os bo g) bu) bv) am) an) ao;Bi a fun fw cl a=>Ef<|Bu (κ:=AH) Z Z eh dcd ZA (CC eg) (Et cl) (E6 cl) fun fx ei fy bw be=>?_
 obtain ⟨bx,bz,rfl⟩:=Own.len bw
 refine Vx (Fd BS Z)<|have ej:=Y2 ck ao be;Eu<|Bv (vs:=[Sl bx ((f++([c.1]:List AE))) bz]) (cs':=[I 7,Sb d.text,Sb ([]:Bts),I 0,Cx (((0,0):Nat×Nat)),Sl bx ((f++([c.1]:List AE))) bz,I d.at_]) S6 Z Z Z Z (AX (Own.one bw) CJ) ej dcd Z Z fun fz ek bf=>AA<|have el:=Ss Ah (K4 Ah cj am an ao be) bf;have em:=Os bw bf;have en:=Bs (Y4 d3 am an ao be) bf;⟨ad,Nat.lt_succ_self ad,_,ei,c.2.marks,d5,d6,c.2.at_,c.2.why,c.2.where_,c.2.l.text,c.2.l.funcs,c.2.l.arity,c.2.l.nest,c.2.nest,(f++([c.1]:List AE)),bx,bz,Pu,(cf▸a),(T4 (T4 (Mo [1,22,23,25] bn) g bu bv am) an ao be bf),el,em,en,ek⟩
 refine Ba<|Sr<|Vm<|have eo:=Bs aq g;have ep:=Ss Ah a3 g;Bi a fun n eq a=>Ca (Cg [Pt l 0,Sb ([41]:Bts)] Z) (BZ ak ar eq dcd dcd eo (AN (x:=(AC.mk h p m q (Ai.mk r u w y) z)) ep)) ?_
 rintro _ f0 ⟨f1,f2,rfl,bg,er,es⟩
 obtain ⟨et,eu,rfl,cm⟩:=E1 (AZ es)
 refine AA<|Sr<|have ew:=Y2 bp g bg;Vx (Lx A9 Z Z (Bw ew))<|have ex:=Y2 (Y4 b5 aj az a0 bn) g bg;have cn:=Os (Os bo g) bg;Eu<|Bv (vs:=[I 7,Sb d.text,Sb ([]:Bts),I 0,Cx (((0,0):Nat×Nat)),Sl ag f ah,I d.at_]) (cs':=[I 7,Sb d.text,Sb ([]:Bts),I 0,Cx (((0,0):Nat×Nat)),Sl ag f ah,I d.at_]) D1 Z Z Z Z (AX Z (AX Z (AX Z (AX Z (AX Z (AX (Own.one cn) (AX Z CJ))))))) ex dcd Z Z fun f4 ey bh=>AA<|AQ<|have ez:=Os cn bh; ?_
 obtain ⟨e0,bi,e1⟩:=Own.freeze (S:=[25]) ez dcd dcd
 obtain rfl:=AK a
 refine have e2:=Bs ey bi;O1 B b3 Z (.agg A9 Z Z (Bw e2))<|have e3:=Y2 er bh bi;have e4:=K2 Ah cm bh bi;⟨e0,[I 7,Sb d.text,Sb ([]:Bts),I 0,Cx (((0,0):Nat×Nat)),Sl ag f ah,I d.at_],[Sl et n.marks eu,I n.at_,I n.why,I n.where_,I n.l.text,I n.l.funcs,I n.l.arity,I n.l.nest,I n.nest],Z,Ho (Tn (T4 (T4 (Mo [1,21,22,23,25] ax) ai aj az a0) bn g bg bh) bi) b1,(AW (x:=(AE.mk 7 d.text ([]:Bts) 0 ((0,0):Nat×Nat) f d.at_)) e1),e3,(AN (x:=n) e4)⟩
theorem N8(c:AB)(e:Nat)(h:AB.Good c):ref04_reader_named.Spec (Cp c e):=lk1 (N7 c e h)
theorem AB.good:∀d,AB.Good (AB.at d)
 |0=>⟨by intro a c;intros;(try intro _);intros;exact A5 (by assumption),by intro a c;intros;(try intro _);intros;exact A5 (by assumption),by intro a c;intros;(try intro _);intros;exact A5 (by assumption),by intro a c;intros;(try intro _);intros;exact A5 (by assumption),by intro a c;intros;(try intro _);intros;exact A5 (by assumption),by intro a c;intros;(try intro _);intros;exact A5 (by assumption),by intro a c;intros;(try intro _);intros;exact A5 (by assumption),by intro a c;intros;(try intro _);intros;exact A5 (by assumption),by intro a c;intros;(try intro _);intros;exact A5 (by assumption)⟩
 |n+1=>⟨Oc _ n (AB.good n),Oe _ n (AB.good n),N6 _ n (AB.good n),NO _ n (AB.good n),Og _ n (AB.good n),PF _ n (AB.good n),Oi _ n (AB.good n),Ok _ n (AB.good n),N8 _ n (AB.good n)⟩
theorem PH(a:Nat):ref04_reader_expr.Spec (ref04_reader_expr a):=(AB.good a).ref04_reader_expr
def Cz.At(G1 G2:Prop)(e:Col)(a:World)(f:AC→Int→Option (AO×AC))(g:Nat):Prop:=
 ∀{h m n o l},f m o=some l→G1→G2→Bk e a g h n 126→BR.rep e.F a n m→
  Calls PG 74 #[Pt h 0,I o] a fun r c=>∃d p q,r=.returned (Ag p)∧AS [g] e a d c∧AI.rep d.F c p l.1∧Bk d c g h q 126∧BR.rep d.F c q l.2
def Cz.Spec(f:AC→Int→Option (AO×AC)):Prop:=
 ∀c d {a},Cz.At ([a].Nodup) (0∉[a]) c d f a
end Fth
