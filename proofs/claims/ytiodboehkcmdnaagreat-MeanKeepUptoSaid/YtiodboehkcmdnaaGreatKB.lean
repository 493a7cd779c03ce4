/- Part 2 of the proof: what it says holds of the given program; no condition. -/
import Derived.Test.YtiodboehkcmdnaaGreatProg
import Derived.KernelRfl
import Derived.Test.YtiodboehkcmdnaaGreatKA
set_option linter.all false
set_option exponentiation.threshold 3000
namespace Fth
open Go Go.IntKind
set_option maxRecDepth 100000
def KV:Option Aj:=
 some (Aj.mk 32768 32768 32768 32768)
def It(a:Bool):Option Bool:=
 some a
def Hp(a:UInt8):Option Bool:=
 bif (((a).toNat:Int)==(((9:UInt8)).toNat:Int)) then (It true) else (bif (((a).toNat:Int)==(((10:UInt8)).toNat:Int)) then (It true) else (bif (((a).toNat:Int)==(((13:UInt8)).toNat:Int)) then (It true) else (It (((a).toNat:Int)==(((32:UInt8)).toNat:Int)))))
def HF(a:Bool):Option Bool:=
 some a
def Gj(a:UInt8):Option Bool:=
 bif (decide (((a).toNat:Int)>=(((65:UInt8)).toNat:Int))) then (bif (decide (((a).toNat:Int)<=(((90:UInt8)).toNat:Int))) then (HF true) else (bif (decide (((a).toNat:Int)>=(((97:UInt8)).toNat:Int))) then (HF (decide (((a).toNat:Int)<=(((122:UInt8)).toNat:Int)))) else (HF false))) else (bif (decide (((a).toNat:Int)>=(((97:UInt8)).toNat:Int))) then (HF (decide (((a).toNat:Int)<=(((122:UInt8)).toNat:Int)))) else (HF false))
def K5(a:Bool):Option Bool:=
 some a
def HG(a:UInt8):Option Bool:=
 bif (decide (((a).toNat:Int)>=(((48:UInt8)).toNat:Int))) then (K5 (decide (((a).toNat:Int)<=(((57:UInt8)).toNat:Int)))) else (K5 false)
def Gk(a:Int)(b:(Int->Option Int))(c:Bool):Option Int:=
 bif c then (b (i64.wrap (a+1))) else (some a)
def Gg(d:Bts)(e:Int)(b:Int->Option Int)(a:Int):Option Int:=
 bif (decide ((i64.wrap (e+a))< (d.length:Int))) then ((idx d (i64.wrap (e+a))).bind λc=>(Gj c).bind λf=>bif f then (Gk a b true) else ((HG c).bind λg=>bif g then (Gk a b true) else (Gk a b (((c).toNat:Int)==(((95:UInt8)).toNat:Int))))) else (Gk a b false)
def E5(a:Bts)(b:Int):Nat->Int->Option Int
 |0=>λ_=>none
 |k+1=>Gg a b (E5 a b k)
def Ip(a:Nat)(b:Bts)(c:Int):Option Int:=
 E5 b c a 0
def MH(a b:Int):Option (Int×Int):=
 some (b,a)
def FC(e:Bts)(c b a:Int)(f:(Int->Int->Option (Int×Int)))(g:Bool):Option (Int×Int):=
 bif g then ((idx e a).bind λd=>f (if 16777217< (i64.wrap ((i64.wrap (10*b))+(i64.wrap ((((u8c (((d).toNat:Int) - (((48:UInt8)).toNat:Int)))).toNat:Int))))) then 16777217 else (i64.wrap ((i64.wrap (10*b))+(i64.wrap ((((u8c (((d).toNat:Int) - (((48:UInt8)).toNat:Int)))).toNat:Int)))))) (i64.wrap (a+1))) else (bif (a==c) then (some (0,0)) else (bif (c==1) then (MH a (i64.wrap (0 - b))) else (MH a b)))
def FW(a:Bts)(c:Int)(d:Int->Int->Option (Int×Int))(e b:Int):Option (Int×Int):=
 bif (decide (b< (a.length:Int))) then ((idx a b).bind λf=>bif (decide (((f).toNat:Int)>=(((48:UInt8)).toNat:Int))) then ((idx a b).bind λg=>FC a c e b d (decide (((g).toNat:Int)<=(((57:UInt8)).toNat:Int)))) else (FC a c e b d false)) else (FC a c e b d false)
def Ei(a:Bts)(b:Int):Nat->Int->Int->Option (Int×Int)
 |0=>λ_ _=>none
 |k+1=>FW a b (Ei a b k)
def Iu(b:Nat)(c:Bts)(a:Int):Option (Int×Int):=
 Ei c a b 0 a
def Hq(a:Nat)(b:Bts)(c:Bool):Option (Int×Int):=
 bif c then (Iu a b 1) else (Iu a b 0)
def FD(b:Nat)(a:Bts):Option (Int×Int):=
 bif (decide ((a.length:Int)>0)) then ((idx a (0:Int)).bind λc=>Hq b a (((c).toNat:Int)==(((45:UInt8)).toNat:Int))) else (Hq b a false)
def KS(a:Af)(b:Bool):Option (Af×Int):=
 bif b then (some ((Af.mk 0 0),50)) else (some (a,0))
def Hr(a:Af):Option (Af×Int):=
 bif (decide (a.re< (-16777216))) then (KS a true) else (bif (decide (a.re>16777216)) then (KS a true) else (bif (decide (a.im< (-16777216))) then (KS a true) else (KS a (decide (a.im>16777216)))))
structure BG where
 ref01_digits:Int->Option (Bts)
def L6(a:Bts):Option (Bts):=
 some a
def Da(b:BG)(_N:Nat)(a:Int):Option (Bts):=
 bif (decide (a<0)) then ((b.ref01_digits (i64.wrap (0 - a))).bind λc=>(QH ([45]:List UInt8) c).bind λd=>some d) else ((nz (10:Int)).bind λ_=>bif (decide (a>=10)) then ((nz (10:Int)).bind λ_=>(b.ref01_digits (i64.wrap (a.tdiv (10:Int)))).bind λe=>(QH e ([(u8c ((i64.wrap (48+(a.tmod 10)))))]:List UInt8)).bind λf=>L6 f) else (L6 ([(u8c ((i64.wrap (48+(a.tmod 10)))))]:List UInt8)))
def BG.at:Nat->BG
 |0=>⟨λ_=>none⟩
 |n+1=>⟨Da (BG.at n) n⟩
def ref01_digits(a:Nat):Int->Option (Bts):=(BG.at a).ref01_digits
def GH(b:Nat)(a:Af):Option (Bts):=
 bif (a.im==0) then ((ref01_digits b a.re).bind λc=>some c) else (bif (a.re==0) then ((ref01_digits b a.im).bind λd=>(QH d ([105]:List UInt8)).bind λe=>some e) else (bif (decide (a.im>0)) then ((ref01_digits b a.re).bind λf=>(QH f ([43]:List UInt8)).bind λg=>(ref01_digits b a.im).bind λh=>(QH g h).bind λi=>(QH i ([105]:List UInt8)).bind λj=>some j) else ((ref01_digits b a.re).bind λk=>(ref01_digits b a.im).bind λl=>(QH k l).bind λm=>(QH m ([105]:List UInt8)).bind λn=>some n)))
def MI(a b:Int)(c:Bool):Option (Af×Int):=
 bif c then (some ((Af.mk 0 0),10)) else (some ((Af.mk a b),0))
def F3(c:Nat)(d:Bts)(a b:Int):Option (Af×Int):=
 (Hr (Af.mk a b)).bind λe=>bif (e.2 != 0) then (MI a b true) else ((GH c (Af.mk a b)).bind λf=>MI a b (!(f==d)))
def Hs(a:Nat)(b:Bts)(c:(Int×Int))(d:Bts):Option (Af×Int):=
 (FD a d).bind λe=>F3 a b c.1 e.1
def Et(d:Nat)(a:Bts):Option (Af×Int):=
 (FD d a).bind λb=>bif (b.2==0) then (some ((Af.mk 0 0),10)) else ((sub a b.2 (a.length:Int)).bind λc=>bif (c==([105]:List UInt8)) then (F3 d a 0 b.1) else (bif (!(c==([]:List UInt8))) then ((idx c (0:Int)).bind λe=>bif (((e).toNat:Int)==(((43:UInt8)).toNat:Int)) then ((sub c 1 (c.length:Int)).bind λf=>Hs d a b f) else (Hs d a b c)) else (F3 d a b.1 0)))
def GL(a:Af):Option (Cpl):=
 some ((FloatKind.f64.nearest a.re),(FloatKind.f64.nearest a.im))
def Je:Option ((List Bts)):=
 some ([([66]:List UInt8),([76]:List UInt8),([78]:List UInt8),([99,97,115,101]:List UInt8),([99,111,110,106]:List UInt8),([101,108,115,101]:List UInt8),([102,97,105,108]:List UInt8),([102,97,108,115,101]:List UInt8),([105,102]:List UInt8),([105,109]:List UInt8),([105,110]:List UInt8),([108,101,116]:List UInt8),([110,105,108]:List UInt8),([110,111,116]:List UInt8),([111,102]:List UInt8),([114,101]:List UInt8),([115,116,114,105,99,116]:List UInt8),([116,104,101,110]:List UInt8),([116,114,117,101]:List UInt8)]:List Bts)
def D9(c:Bts)(b:((List Bts)))(d:Int->Option Bool)(a:Int):Option Bool:=
 bif (decide (a< (b.length:Int))) then ((idx b a).bind λe=>bif (e==c) then (some true) else (d (i64.wrap (a+1)))) else (some false)
def Dt(a:Bts)(b:((List Bts))):Nat->Int->Option Bool
 |0=>λ_=>none
 |k+1=>D9 a b (Dt a b k)
def Du(a:Nat)(b:Bts):Option Bool:=
 (Je).bind λc=>Dt b c a 0
def EA(a:Bool):Option Int:=
 bif a then (some 1) else (some 0)
def F4(b:Bts)(c:Int)(d:Bool):Option Int:=
 bif d then (some 2) else ((idx b c).bind λa=>bif (((a).toNat:Int)==(((40:UInt8)).toNat:Int)) then (EA (((a).toNat:Int)==(((40:UInt8)).toNat:Int))) else (bif (((a).toNat:Int)==(((41:UInt8)).toNat:Int)) then (EA (((a).toNat:Int)==(((41:UInt8)).toNat:Int))) else (bif (((a).toNat:Int)==(((44:UInt8)).toNat:Int)) then (EA (((a).toNat:Int)==(((44:UInt8)).toNat:Int))) else (bif (((a).toNat:Int)==(((58:UInt8)).toNat:Int)) then (EA (((a).toNat:Int)==(((58:UInt8)).toNat:Int))) else (bif (((a).toNat:Int)==(((59:UInt8)).toNat:Int)) then (EA (((a).toNat:Int)==(((59:UInt8)).toNat:Int))) else (bif (((a).toNat:Int)==(((61:UInt8)).toNat:Int)) then (EA (((a).toNat:Int)==(((61:UInt8)).toNat:Int))) else (bif (((a).toNat:Int)==(((43:UInt8)).toNat:Int)) then (EA (((a).toNat:Int)==(((43:UInt8)).toNat:Int))) else (bif (((a).toNat:Int)==(((45:UInt8)).toNat:Int)) then (EA (((a).toNat:Int)==(((45:UInt8)).toNat:Int))) else (bif (((a).toNat:Int)==(((42:UInt8)).toNat:Int)) then (EA (((a).toNat:Int)==(((42:UInt8)).toNat:Int))) else (bif (((a).toNat:Int)==(((47:UInt8)).toNat:Int)) then (EA (((a).toNat:Int)==(((47:UInt8)).toNat:Int))) else (bif (((a).toNat:Int)==(((60:UInt8)).toNat:Int)) then (EA (((a).toNat:Int)==(((60:UInt8)).toNat:Int))) else (EA (((a).toNat:Int)==(((124:UInt8)).toNat:Int))))))))))))))
def Iv(a:Bts)(b:Int):Option Int:=
 bif (decide ((i64.wrap (b+1))< (a.length:Int))) then ((idx a b).bind λc=>bif (((c).toNat:Int)==(((45:UInt8)).toNat:Int)) then ((idx a (i64.wrap (b+(1:Int)))).bind λd=>bif (((d).toNat:Int)==(((62:UInt8)).toNat:Int)) then (F4 a b true) else (bif (((c).toNat:Int)==(((61:UInt8)).toNat:Int)) then (F4 a b (((d).toNat:Int)==(((61:UInt8)).toNat:Int))) else (F4 a b false))) else (bif (((c).toNat:Int)==(((61:UInt8)).toNat:Int)) then ((idx a (i64.wrap (b+(1:Int)))).bind λe=>F4 a b (((e).toNat:Int)==(((61:UInt8)).toNat:Int))) else (F4 a b false))) else (F4 a b false)
def NA(a:Int)(b:Bts)(c:Int):Option (Ak×Bool):=
 some ((Ak.mk c b ((0,0):Cpl) a),true)
def Ia(e:Nat)(c:Bts)(a f:Int)(b:Bts)(g:Bool):Option (Ak×Bool):=
 bif g then (some ((Ak.mk 0 b ((0,0):Cpl) a),false)) else (bif (decide (f>0)) then ((Du e b).bind λh=>bif h then (NA a b 1) else (NA a b 0)) else ((Iv c a).bind λd=>(sub c a (i64.wrap (a+d))).bind λi=>some ((Ak.mk 3 i ((0,0):Cpl) a),(decide (d>0)))))
def Ib(c:Nat)(d:Bts)(a e:Int)(b:Bts)(g:Bool):Option (Ak×Bool):=
 bif g then ((Et c b).bind λf=>(GL f.1).bind λh=>some ((Ak.mk 2 b h a),(f.2==0))) else (bif (decide (e>0)) then ((idx d a).bind λi=>Ia c d a e b (((i).toNat:Int)==(((95:UInt8)).toNat:Int))) else (Ia c d a e b false))
def IE(d:Nat)(b:Bts)(a:Int):Option (Ak×Bool):=
 (Ip d b a).bind λc=>(sub b a (i64.wrap (a+c))).bind λe=>bif (decide (c>0)) then ((idx b a).bind λf=>(HG f).bind λg=>Ib d b a c e g) else (Ib d b a c e false)
def Ht(b:(List Ak))(c:((List Ak)->Int->Option ((List Ak)×Int)))(a:Int)(d:(Int->Option ((List Ak)×Int)))(e:Bool):Option ((List Ak)×Int):=
 bif e then (d (i64.wrap (a+1))) else (c b a)
def FX(b:Bts)(c:(List Ak))(d:((List Ak)->Int->Option ((List Ak)×Int)))(e:Int->Option ((List Ak)×Int))(a:Int):Option ((List Ak)×Int):=
 bif (decide (a< (b.length:Int))) then ((idx b a).bind λf=>Ht c d a e (((f).toNat:Int) != (((10:UInt8)).toNat:Int))) else (Ht c d a e false)
def FE(a:Bts)(b:(List Ak))(c:((List Ak)->Int->Option ((List Ak)×Int))):Nat->Int->Option ((List Ak)×Int)
 |0=>λ_=>none
 |k+1=>FX a b c (FE a b c k)
def FY(f:Nat)(b:Bts)(e:(List Ak)->Int->Option ((List Ak)×Int))(c:(List Ak))(a:Int):Option ((List Ak)×Int):=
 bif (decide (a< (b.length:Int))) then ((idx b a).bind λg=>(Hp g).bind λh=>bif h then (e c (i64.wrap (a+1))) else (bif (((g).toNat:Int)==(((35:UInt8)).toNat:Int)) then (FE b c e f a) else ((IE f b a).bind λd=>bif (!d.2) then (some ([],a)) else ((Gd 48 c ([d.1]:List Ak)).bind λ_=>e (c++([d.1]:List Ak)) (i64.wrap (a+(d.1.text.length:Int))))))) else ((Gd 48 c ([(Ak.mk 4 ([]:List UInt8) ((0,0):Cpl) (b.length:Int))]:List Ak)).bind λ_=>some ((c++([(Ak.mk 4 ([]:List UInt8) ((0,0):Cpl) (b.length:Int))]:List Ak)),(-1)))
def Dv(a:Nat)(b:Bts):Nat->(List Ak)->Int->Option ((List Ak)×Int)
 |0=>λ_ _=>none
 |k+1=>FY a b (Dv a b k)
def GN(a:Nat)(b:Bts):Option ((List Ak)×Int):=
 Dv a b a ([]:List Ak) 0
def Bl(a:AC):Option Ak:=
 (idx a.marks a.at_).bind λb=>some b
def CD(a:AC)(b:Int):Option AC:=
 bif (a.why==0) then ((Bl (AC.mk a.marks a.at_ b a.where_ (Aj.mk a.l.text a.l.funcs a.l.arity a.l.nest) a.nest)).bind λc=>some (AC.mk a.marks a.at_ b c.at_ (Aj.mk a.l.text a.l.funcs a.l.arity a.l.nest) a.nest)) else (some a)
def GO(a:AC)(b:Ak)(c:Bool):Option (Ak×AC):=
 bif c then ((CD a (21:Int)).bind λd=>some ((Ak.mk 0 ([]:List UInt8) ((0,0):Cpl) 0),d)) else (some (b,(AC.mk a.marks (i64.wrap (a.at_+1)) a.why a.where_ (Aj.mk a.l.text a.l.funcs a.l.arity a.l.nest) a.nest)))
def CU(a:AC):Option (Ak×AC):=
 (Bl a).bind λb=>bif (a.why != 0) then (GO a b true) else (GO a b (b.kind != 0))
def HV(a:Bool):Option Bool:=
 some a
def By(b:AC)(c:Bts):Option Bool:=
 (Bl b).bind λa=>bif (b.why==0) then (bif (a.kind==1) then (HV (a.text==c)) else (bif (a.kind==3) then (HV (a.text==c)) else (HV false))) else (HV false)
def CE(a:AC)(b:Bts):Option (Bool×AC):=
 (By a b).bind λc=>bif (!c) then (some (false,a)) else (some (true,(AC.mk a.marks (i64.wrap (a.at_+1)) a.why a.where_ (Aj.mk a.l.text a.l.funcs a.l.arity a.l.nest) a.nest)))
def BD(b:AC)(c:Bts):Option AC:=
 (CE b c).bind λa=>bif (!a.1) then ((CD a.2 (21:Int)).bind λd=>some d) else (some a.2)
def DP(l:Int->(List Ak)->Int->Int->Int->Int->Int->Int->Int->Int->Option (Int×AC))(b:Int)(c:(List Ak))(d e f g h i j k:Int):Option (Int×AC):=
 bif (decide (b< (([([78]:List UInt8),([66]:List UInt8),([76]:List UInt8)]:List Bts).length:Int))) then ((idx ([([78]:List UInt8),([66]:List UInt8),([76]:List UInt8)]:List Bts) b).bind λm=>(CE (AC.mk c d e f (Aj.mk g h i j) k) m).bind λa=>bif a.1 then (some ((i64.wrap (b+1)),a.2)) else (l (i64.wrap (b+1)) a.2.marks a.2.at_ a.2.why a.2.where_ a.2.l.text a.2.l.funcs a.2.l.arity a.2.l.nest a.2.nest)) else ((CD (AC.mk c d e f (Aj.mk g h i j) k) (21:Int)).bind λn=>some (0,n))
def CW:Nat->Int->(List Ak)->Int->Int->Int->Int->Int->Int->Int->Int->Option (Int×AC)
 |0=>λ_ _ _ _ _ _ _ _ _ _=>none
 |k+1=>DP (CW k)
def CX(b:Nat)(a:AC):Option (Int×AC):=
 CW b 0 a.marks a.at_ a.why a.where_ a.l.text a.l.funcs a.l.arity a.l.nest a.nest
def JR(a:Int)(b c:AE)(d:Ak):Option AE:=
 some (AE.mk a ([]:List UInt8) ([]:List UInt8) 0 ((0,0):Cpl) ([b,c]:List AE) d.at_)
def IF(a:Bts):Option Int:=
 bif (a==([116,114,117,101]:List UInt8)) then (some 2) else (bif (a==([102,97,108,115,101]:List UInt8)) then (some 3) else (bif (a==([110,105,108]:List UInt8)) then (some 4) else (bif (a==([102,97,105,108]:List UInt8)) then (some 5) else (bif (a==([110,111,116]:List UInt8)) then (some 14) else (bif (a==([114,101]:List UInt8)) then (some 15) else (bif (a==([105,109]:List UInt8)) then (some 16) else (bif (a==([99,111,110,106]:List UInt8)) then (some 17) else (some 0))))))))
structure AB where
 ref04_reader_expr:AC->Option (AE×AC)
 ref04_reader_cons:AC->Option (AE×AC)
 ref04_reader_parts:AC->(List Bts)->Option ((List AE)×AC)
 ref04_reader_branches:AC->AE->Option (AC×AE)
 ref04_reader_comp:AC->Option (AE×AC)
 ref04_reader_sum:AC->Option (AE×AC)
 ref04_reader_term:AC->Option (AE×AC)
 ref04_reader_unit:AC->Option (AE×AC)
 ref04_reader_named:AC->Ak->Option (AE×AC)
def Hu(a:(List Ak))(b c d e f g h i:Int)(j k:Bts)(l:Int)(m:Cpl)(n:(List AE))(o p:Int):Option (AE×AC):=
 some ((AE.mk i j k l m n o),(AC.mk a b c d (Aj.mk e f g h) p))
def FF(q:Bool)(a:(List Ak))(b c d e f g h i j:Int)(k l:Bts)(m:Int)(n:Cpl)(o:(List AE))(p:Int):Option (AE×AC):=
 bif q then (Hu a b c d e f g h j k l m n o p (i64.wrap (i - 1))) else (Hu a b c d e f g h j k l m n o p i)
def Dw(d:AB)(e:Nat)(f:Ak)(g:Bool)(h:(List Ak))(i j k l m n o p q:Int):Option (AE×AC):=
 (CU (AC.mk h (i64.wrap (i+1)) j k (Aj.mk l m n o) p)).bind λb=>(CX e b.2).bind λc=>(d.ref04_reader_parts c.2 ([([61]:List UInt8),([105,110]:List UInt8)]:List Bts)).bind λa=>FF g a.2.marks a.2.at_ a.2.why a.2.where_ a.2.l.text a.2.l.funcs a.2.l.arity a.2.l.nest a.2.nest q b.1.text ([]:List UInt8) c.1 ((0,0):Cpl) a.1 f.at_
def Dx(d:AB)(o:Nat)(c:Ak)(e:Bool)(f:(List Ak))(g h i j k l m n:Int):Option (AE×AC):=
 bif (c.text==([105,102]:List UInt8)) then ((d.ref04_reader_parts (AC.mk f (i64.wrap (g+1)) h i (Aj.mk j k l m) n) ([([]:List UInt8),([116,104,101,110]:List UInt8),([101,108,115,101]:List UInt8)]:List Bts)).bind λb=>FF e b.2.marks b.2.at_ b.2.why b.2.where_ b.2.l.text b.2.l.funcs b.2.l.arity b.2.l.nest b.2.nest 19 ([]:List UInt8) ([]:List UInt8) 0 ((0,0):Cpl) b.1 c.at_) else (bif (c.text==([99,97,115,101]:List UInt8)) then ((d.ref04_reader_branches (AC.mk f (i64.wrap (g+1)) h i (Aj.mk j k l m) n) (AE.mk 0 ([]:List UInt8) ([]:List UInt8) 0 ((0,0):Cpl) [] c.at_)).bind λa=>FF e a.1.marks a.1.at_ a.1.why a.1.where_ a.1.l.text a.1.l.funcs a.1.l.arity a.1.l.nest a.1.nest a.2.op a.2.name a.2.tail a.2.type_ a.2.num a.2.args a.2.at_) else (bif (c.text==([115,116,114,105,99,116]:List UInt8)) then (Dw d o c e f g h i j k l m n 22) else (Dw d o c e f g h i j k l m n 21)))
def Dy(a:AB)(l:Nat)(m:Ak)(b:Bool)(c:(List Ak))(d e f g h i j k:Int)(o:Bool):Option (AE×AC):=
 bif o then ((a.ref04_reader_cons (AC.mk c d e f (Aj.mk g h i j) k)).bind λn=>some (n.1,n.2)) else (bif b then (Dx a l m b c d e f g h i j (i64.wrap (k+1))) else (Dx a l m b c d e f g h i j k))
def Dz(k:AB)(l:Nat)(m:Ak)(j:Bool)(b:(List Ak))(c a d e f g h i:Int):Option (AE×AC):=
 bif (a != 0) then (some ((AE.mk 0 ([]:List UInt8) ([]:List UInt8) 0 ((0,0):Cpl) [] 0),(AC.mk b c a d (Aj.mk e f g h) i))) else (bif (!j) then ((By (AC.mk b c a d (Aj.mk e f g h) i) ([105,102]:List UInt8)).bind λn=>Dy k l m j b c a d e f g h i (!n)) else (Dy k l m j b c a d e f g h i false))
def D0(c:AB)(d:Nat)(a:AC)(e:Ak)(f g:Bool):Option (AE×AC):=
 bif g then ((CD a (23:Int)).bind λb=>Dz c d e f b.marks b.at_ b.why b.where_ b.l.text b.l.funcs b.l.arity b.l.nest b.nest) else (Dz c d e f a.marks a.at_ a.why a.where_ a.l.text a.l.funcs a.l.arity a.l.nest a.nest)
def DQ(c:AB)(d:Nat)(a:AC)(e:Ak)(b:Bool):Option (AE×AC):=
 bif b then (D0 c d a e b (decide (a.nest>=a.l.nest))) else (D0 c d a e b false)
def DE(b:AB)(c:Nat)(a:AC):Option (AE×AC):=
 (Bl a).bind λd=>(By a ([108,101,116]:List UInt8)).bind λe=>bif e then (DQ b c a d true) else ((By a ([115,116,114,105,99,116]:List UInt8)).bind λf=>bif f then (DQ b c a d true) else ((By a ([99,97,115,101]:List UInt8)).bind λg=>DQ b c a d g))
def DF(c:AB)(_N:Nat)(e:AC):Option (AE×AC):=
 (c.ref04_reader_comp e).bind λa=>(Bl a.2).bind λf=>(CE a.2 ([58]:List UInt8)).bind λb=>bif (!b.1) then (some (a.1,b.2)) else ((c.ref04_reader_cons b.2).bind λd=>(JR 18 a.1 d.1 f).bind λg=>some (g,d.2))
def Dg(c:AB)(b:(List AE))(d:Int)(e:((List AE)->Int->(List Ak)->Int->Int->Int->Int->Int->Int->Int->Int->Option ((List AE)×AC)))(f:(List Ak))(g h i j k l m n:Int):Option ((List AE)×AC):=
 (c.ref04_reader_expr (AC.mk f g h i (Aj.mk j k l m) n)).bind λa=>(Gd 96 b ([a.1]:List AE)).bind λ_=>e (b++([a.1]:List AE)) (i64.wrap (d+1)) a.2.marks a.2.at_ a.2.why a.2.where_ a.2.l.text a.2.l.funcs a.2.l.arity a.2.l.nest a.2.nest
def Cq(m:AB)(n:(List Bts))(o:(List AE)->Int->(List Ak)->Int->Int->Int->Int->Int->Int->Int->Int->Option ((List AE)×AC))(c:(List AE))(b:Int)(d:(List Ak))(e f g h i j k l:Int):Option ((List AE)×AC):=
 bif (decide (b< (n.length:Int))) then ((idx n b).bind λp=>bif (!(p==([]:List UInt8))) then ((BD (AC.mk d e f g (Aj.mk h i j k) l) p).bind λa=>Dg m c b o a.marks a.at_ a.why a.where_ a.l.text a.l.funcs a.l.arity a.l.nest a.nest) else (Dg m c b o d e f g h i j k l)) else (some (c,(AC.mk d e f g (Aj.mk h i j k) l)))
def B3(a:AB)(b:(List Bts)):Nat->(List AE)->Int->(List Ak)->Int->Int->Int->Int->Int->Int->Int->Int->Option ((List AE)×AC)
 |0=>λ_ _ _ _ _ _ _ _ _ _ _=>none
 |k+1=>Cq a b (B3 a b k)
def Ct(b:AB)(c:Nat)(a:AC)(d:(List Bts)):Option ((List AE)×AC):=
 B3 b d c ([]:List AE) 0 a.marks a.at_ a.why a.where_ a.l.text a.l.funcs a.l.arity a.l.nest a.nest
def CM(a:AB)(_N:Nat)(h:AC)(b:AE):Option (AC×AE):=
 (a.ref04_reader_expr h).bind λc=>(BD c.2 ([111,102]:List UInt8)).bind λi=>(BD i ([110,105,108]:List UInt8)).bind λj=>(BD j ([45,62]:List UInt8)).bind λk=>(a.ref04_reader_expr k).bind λd=>(BD d.2 ([124]:List UInt8)).bind λl=>(CU l).bind λe=>(BD e.2 ([58]:List UInt8)).bind λm=>(CU m).bind λf=>(BD f.2 ([45,62]:List UInt8)).bind λn=>(a.ref04_reader_expr n).bind λg=>some (g.2,(AE.mk 20 e.1.text f.1.text b.type_ b.num ([c.1,d.1,g.1]:List AE) b.at_))
def EY(l:AB)(a:(AE×AC))(m:Ak)(n:Int)(o:Bool)(b:(List Ak))(c d e f g h i j:Int):Option (AE×AC):=
 bif o then (some (a.1,(AC.mk b c d e (Aj.mk f g h i) j))) else ((l.ref04_reader_sum (AC.mk b c d e (Aj.mk f g h i) j)).bind λk=>(JR n a.1 k.1 m).bind λp=>some (p,k.2))
def D1(d:AB)(c:(AE×AC))(e:Ak)(f:Int):Option (AE×AC):=
 (CE c.2 ([61,61]:List UInt8)).bind λa=>bif (!a.1) then ((CE a.2 ([60]:List UInt8)).bind λb=>EY d c e f (!b.1) b.2.marks b.2.at_ b.2.why b.2.where_ b.2.l.text b.2.l.funcs b.2.l.arity b.2.l.nest b.2.nest) else (EY d c e f false a.2.marks a.2.at_ a.2.why a.2.where_ a.2.l.text a.2.l.funcs a.2.l.arity a.2.l.nest a.2.nest)
def DG(b:AB)(_N:Nat)(d:AC):Option (AE×AC):=
 (b.ref04_reader_sum d).bind λa=>(Bl a.2).bind λc=>(By a.2 ([60]:List UInt8)).bind λe=>bif e then (D1 b a c 13) else (D1 b a c 12)
def EM(c:Int)(d e:Bts)(f:Int)(g:Cpl)(h:(List AE))(i:Int)(j:((List Ak)->Int->Int->Int->Int->Int->Int->Int->Int->Int->Bts->Bts->Int->Cpl->(List AE)->Int->Option (AE×AC)))(k:Ak)(a:(AE×AC))(l:Int):Option (AE×AC):=
 (JR l (AE.mk c d e f g h i) a.1 k).bind λb=>j a.2.marks a.2.at_ a.2.why a.2.where_ a.2.l.text a.2.l.funcs a.2.l.arity a.2.l.nest a.2.nest b.op b.name b.tail b.type_ b.num b.args b.at_
def EN(t:AB)(a:(List Ak))(b c d e f g h i j:Int)(k l:Bts)(m:Int)(n:Cpl)(o:(List AE))(p:Int)(r:((List Ak)->Int->Int->Int->Int->Int->Int->Int->Int->Int->Bts->Bts->Int->Cpl->(List AE)->Int->Option (AE×AC)))(u:Bool):Option (AE×AC):=
 bif u then ((Bl (AC.mk a b c d (Aj.mk e f g h) i)).bind λq=>(t.ref04_reader_term (AC.mk a (i64.wrap (b+1)) c d (Aj.mk e f g h) i)).bind λs=>bif (q.text==([45]:List UInt8)) then (EM j k l m n o p r q s 9) else (EM j k l m n o p r q s 8)) else (some ((AE.mk j k l m n o p),(AC.mk a b c d (Aj.mk e f g h) i)))
def DR(j:AB)(k:(List Ak)->Int->Int->Int->Int->Int->Int->Int->Int->Int->Bts->Bts->Int->Cpl->(List AE)->Int->Option (AE×AC))(a:(List Ak))(b c d e f g h i l:Int)(m n:Bts)(o:Int)(p:Cpl)(q:(List AE))(r:Int):Option (AE×AC):=
 (By (AC.mk a b c d (Aj.mk e f g h) i) ([43]:List UInt8)).bind λs=>bif s then (EN j a b c d e f g h i l m n o p q r k true) else ((By (AC.mk a b c d (Aj.mk e f g h) i) ([45]:List UInt8)).bind λt=>EN j a b c d e f g h i l m n o p q r k t)
def CB(a:AB):Nat->(List Ak)->Int->Int->Int->Int->Int->Int->Int->Int->Int->Bts->Bts->Int->Cpl->(List AE)->Int->Option (AE×AC)
 |0=>λ_ _ _ _ _ _ _ _ _ _ _ _ _ _ _ _=>none
 |k+1=>DR a (CB a k)
def Db(b:AB)(c:Nat)(d:AC):Option (AE×AC):=
 (b.ref04_reader_term d).bind λa=>CB b c a.2.marks a.2.at_ a.2.why a.2.where_ a.2.l.text a.2.l.funcs a.2.l.arity a.2.l.nest a.2.nest a.1.op a.1.name a.1.tail a.1.type_ a.1.num a.1.args a.1.at_
def D2(c:Int)(d e:Bts)(f:Int)(g:Cpl)(h:(List AE))(i:Int)(j:((List Ak)->Int->Int->Int->Int->Int->Int->Int->Int->Int->Bts->Bts->Int->Cpl->(List AE)->Int->Option (AE×AC)))(k:Ak)(a:(AE×AC))(l:Int):Option (AE×AC):=
 (JR l (AE.mk c d e f g h i) a.1 k).bind λb=>j a.2.marks a.2.at_ a.2.why a.2.where_ a.2.l.text a.2.l.funcs a.2.l.arity a.2.l.nest a.2.nest b.op b.name b.tail b.type_ b.num b.args b.at_
def D3(t:AB)(a:(List Ak))(b c d e f g h i j:Int)(k l:Bts)(m:Int)(n:Cpl)(o:(List AE))(p:Int)(r:((List Ak)->Int->Int->Int->Int->Int->Int->Int->Int->Int->Bts->Bts->Int->Cpl->(List AE)->Int->Option (AE×AC)))(u:Bool):Option (AE×AC):=
 bif u then ((Bl (AC.mk a b c d (Aj.mk e f g h) i)).bind λq=>(t.ref04_reader_unit (AC.mk a (i64.wrap (b+1)) c d (Aj.mk e f g h) i)).bind λs=>bif (q.text==([47]:List UInt8)) then (D2 j k l m n o p r q s 11) else (D2 j k l m n o p r q s 10)) else (some ((AE.mk j k l m n o p),(AC.mk a b c d (Aj.mk e f g h) i)))
def DB(j:AB)(k:(List Ak)->Int->Int->Int->Int->Int->Int->Int->Int->Int->Bts->Bts->Int->Cpl->(List AE)->Int->Option (AE×AC))(a:(List Ak))(b c d e f g h i l:Int)(m n:Bts)(o:Int)(p:Cpl)(q:(List AE))(r:Int):Option (AE×AC):=
 (By (AC.mk a b c d (Aj.mk e f g h) i) ([42]:List UInt8)).bind λs=>bif s then (D3 j a b c d e f g h i l m n o p q r k true) else ((By (AC.mk a b c d (Aj.mk e f g h) i) ([47]:List UInt8)).bind λt=>D3 j a b c d e f g h i l m n o p q r k t)
def B0(a:AB):Nat->(List Ak)->Int->Int->Int->Int->Int->Int->Int->Int->Int->Bts->Bts->Int->Cpl->(List AE)->Int->Option (AE×AC)
 |0=>λ_ _ _ _ _ _ _ _ _ _ _ _ _ _ _ _=>none
 |k+1=>DB a (B0 a k)
def DH(b:AB)(c:Nat)(d:AC):Option (AE×AC):=
 (b.ref04_reader_unit d).bind λa=>B0 b c a.2.marks a.2.at_ a.2.why a.2.where_ a.2.l.text a.2.l.funcs a.2.l.arity a.2.l.nest a.2.nest a.1.op a.1.name a.1.tail a.1.type_ a.1.num a.1.args a.1.at_
def GP(a:Int)(b c:Bts)(d:Cpl)(e:Int)(f:(List Ak))(g h i j k l m n o:Int)(p:(List AE)):Option (AE×AC):=
 some ((AE.mk a b c o d p e),(AC.mk f g h i (Aj.mk j k l m) n))
def CZ(j:AB)(a:(Bool×AC))(c:Int)(d e:Bts)(f:Int)(g:Cpl)(h:Int)(k:Bool):Option (AE×AC):=
 bif k then ((BD (AC.mk a.2.marks (i64.wrap (a.2.at_+1)) a.2.why a.2.where_ (Aj.mk a.2.l.text a.2.l.funcs a.2.l.arity a.2.l.nest) a.2.nest) ([40]:List UInt8)).bind λl=>(j.ref04_reader_expr l).bind λi=>(BD i.2 ([41]:List UInt8)).bind λb=>GP c d e g h b.marks b.at_ b.why b.where_ b.l.text b.l.funcs b.l.arity b.l.nest b.nest f ([i.1]:List AE)) else (GP c d e g h a.2.marks (i64.wrap (a.2.at_+1)) a.2.why a.2.where_ a.2.l.text a.2.l.funcs a.2.l.arity a.2.l.nest a.2.nest f ([]:List AE))
def FG(h:AB)(j:Nat)(a:(Bool×AC))(b:Int)(d e:Bts)(i:Int)(f:Cpl)(g:Int):Option (AE×AC):=
 bif (b==5) then ((CX j (AC.mk a.2.marks (i64.wrap (a.2.at_+1)) a.2.why a.2.where_ (Aj.mk a.2.l.text a.2.l.funcs a.2.l.arity a.2.l.nest) a.2.nest)).bind λc=>GP b d e f g c.2.marks c.2.at_ c.2.why c.2.where_ c.2.l.text c.2.l.funcs c.2.l.arity c.2.l.nest c.2.nest c.1 ([]:List AE)) else (bif (b==14) then (CZ h a b d e i f g (b==14)) else (bif (b==15) then (CZ h a b d e i f g (b==15)) else (bif (b==16) then (CZ h a b d e i f g (b==16)) else (CZ h a b d e i f g (b==17)))))
def DS(c:AB)(d:Nat)(a:Ak)(b:(Bool×AC))(e:Bool):Option (AE×AC):=
 bif e then ((CD b.2 (21:Int)).bind λf=>some ((AE.mk 0 ([]:List UInt8) ([]:List UInt8) 0 ((0,0):Cpl) [] 0),f)) else ((IF a.text).bind λg=>FG c d b g ([]:List UInt8) ([]:List UInt8) 0 ((0,0):Cpl) a.at_)
def DI(c:AB)(e:Nat)(a:AC):Option (AE×AC):=
 (Bl a).bind λb=>bif (a.why != 0) then (some ((AE.mk 0 ([]:List UInt8) ([]:List UInt8) 0 ((0,0):Cpl) [] 0),a)) else (bif (b.kind==2) then (some ((AE.mk 1 ([]:List UInt8) ([]:List UInt8) 0 b.num [] b.at_),(AC.mk a.marks (i64.wrap (a.at_+1)) a.why a.where_ (Aj.mk a.l.text a.l.funcs a.l.arity a.l.nest) a.nest))) else (bif (b.kind==0) then ((c.ref04_reader_named (AC.mk a.marks (i64.wrap (a.at_+1)) a.why a.where_ (Aj.mk a.l.text a.l.funcs a.l.arity a.l.nest) a.nest) b).bind λf=>some (f.1,f.2)) else ((CE a ([40]:List UInt8)).bind λd=>bif d.1 then ((c.ref04_reader_expr d.2).bind λg=>(BD g.2 ([41]:List UInt8)).bind λh=>some (g.1,h)) else (bif (b.kind != 1) then (DS c e b d true) else ((IF b.text).bind λi=>DS c e b d (i==0))))))
def Dh(c:AB)(b:(List AE))(d:((List Ak)->Int->Int->Int->Int->Int->Int->Int->Int->(List AE)->Option (AE×AC)))(e:(List Ak))(f g h i j k l m:Int):Option (AE×AC):=
 (c.ref04_reader_expr (AC.mk e f g h (Aj.mk i j k l) m)).bind λa=>(Gd 96 b ([a.1]:List AE)).bind λ_=>d a.2.marks a.2.at_ a.2.why a.2.where_ a.2.l.text a.2.l.funcs a.2.l.arity a.2.l.nest a.2.nest (b++([a.1]:List AE))
def Di(l:AB)(m:Ak)(c:(List Ak))(d e f g h i j k:Int)(b:(List AE))(n:((List Ak)->Int->Int->Int->Int->Int->Int->Int->Int->(List AE)->Option (AE×AC)))(o:Bool):Option (AE×AC):=
 bif o then (bif (decide ((b.length:Int)>0)) then ((BD (AC.mk c d e f (Aj.mk g h i j) k) ([44]:List UInt8)).bind λa=>Dh l b n a.marks a.at_ a.why a.where_ a.l.text a.l.funcs a.l.arity a.l.nest a.nest) else (Dh l b n c d e f g h i j k)) else ((BD (AC.mk c d e f (Aj.mk g h i j) k) ([41]:List UInt8)).bind λp=>some ((AE.mk 7 m.text ([]:List UInt8) 0 ((0,0):Cpl) b m.at_),p))
def Cr(j:AB)(k:Ak)(l:(List Ak)->Int->Int->Int->Int->Int->Int->Int->Int->(List AE)->Option (AE×AC))(b:(List Ak))(c a d e f g h i:Int)(m:(List AE)):Option (AE×AC):=
 bif (a==0) then ((By (AC.mk b c a d (Aj.mk e f g h) i) ([41]:List UInt8)).bind λn=>Di j k b c a d e f g h i m l (!n)) else (Di j k b c a d e f g h i m l false)
def Bt(a:AB)(b:Ak):Nat->(List Ak)->Int->Int->Int->Int->Int->Int->Int->Int->(List AE)->Option (AE×AC)
 |0=>λ_ _ _ _ _ _ _ _ _ _=>none
 |k+1=>Cr a b (Bt a b k)
def Cu(c:AB)(d:Nat)(e:AC)(b:Ak):Option (AE×AC):=
 (CE e ([40]:List UInt8)).bind λa=>bif (!a.1) then (some ((AE.mk 6 b.text ([]:List UInt8) 0 ((0,0):Cpl) [] b.at_),a.2)) else (Bt c b d a.2.marks a.2.at_ a.2.why a.2.where_ a.2.l.text a.2.l.funcs a.2.l.arity a.2.l.nest a.2.nest ([]:List AE))
def AB.at:Nat->AB
 |0=>⟨λ_=>none,λ_=>none,λ_ _=>none,λ_ _=>none,λ_=>none,λ_=>none,λ_=>none,λ_=>none,λ_ _=>none⟩
 |n+1=>⟨DE (AB.at n) n,DF (AB.at n) n,Ct (AB.at n) n,CM (AB.at n) n,DG (AB.at n) n,Db (AB.at n) n,DH (AB.at n) n,DI (AB.at n) n,Cu (AB.at n) n⟩
def ref04_reader_expr(a:Nat):AC->Option (AE×AC):=(AB.at a).ref04_reader_expr
def ref04_reader_cons(a:Nat):AC->Option (AE×AC):=(AB.at a).ref04_reader_cons
def ref04_reader_parts(a:Nat):AC->(List Bts)->Option ((List AE)×AC):=(AB.at a).ref04_reader_parts
def ref04_reader_branches(a:Nat):AC->AE->Option (AC×AE):=(AB.at a).ref04_reader_branches
def ref04_reader_comp(a:Nat):AC->Option (AE×AC):=(AB.at a).ref04_reader_comp
def ref04_reader_sum(a:Nat):AC->Option (AE×AC):=(AB.at a).ref04_reader_sum
def ref04_reader_term(a:Nat):AC->Option (AE×AC):=(AB.at a).ref04_reader_term
def ref04_reader_unit(a:Nat):AC->Option (AE×AC):=(AB.at a).ref04_reader_unit
def ref04_reader_named(a:Nat):AC->Ak->Option (AE×AC):=(AB.at a).ref04_reader_named
def EO(d:Nat)(c:(List AJ))(e:((List Ak)->Int->Int->Int->Int->Int->Int->Int->Int->(List AJ)->Option (AN×AC)))(f:(List Ak))(g h i j k l m n:Int):Option (AN×AC):=
 (CU (AC.mk f g h i (Aj.mk j k l m) n)).bind λb=>(CX d b.2).bind λa=>(Gd 32 c ([(AJ.mk b.1.text a.1 b.1.at_)]:List AJ)).bind λ_=>e a.2.marks a.2.at_ a.2.why a.2.where_ a.2.l.text a.2.l.funcs a.2.l.arity a.2.l.nest a.2.nest (c++([(AJ.mk b.1.text a.1 b.1.at_)]:List AJ))
def Dn(b:Nat)(c:(List AJ))(d:((List Ak)->Int->Int->Int->Int->Int->Int->Int->Int->(List AJ)->Option (AN×AC)))(e:(List Ak))(f g h i j k l m:Int)(n:Bool):Option (AN×AC):=
 bif n then ((CD (AC.mk e f g h (Aj.mk i j k l) m) (22:Int)).bind λa=>EO b c d a.marks a.at_ a.why a.where_ a.l.text a.l.funcs a.l.arity a.l.nest a.nest) else (EO b c d e f g h i j k l m)
def EQ(k:Nat)(c:(List AJ))(l:((List Ak)->Int->Int->Int->Int->Int->Int->Int->Int->(List AJ)->Option (AN×AC)))(d:(List Ak))(e a f g h b i j:Int):Option (AN×AC):=
 bif (a==0) then ((Bl (AC.mk d e a f (Aj.mk g h b i) j)).bind λm=>bif (m.kind==0) then (Dn k c l d e a f g h b i j (decide ((c.length:Int)>=b))) else (Dn k c l d e a f g h b i j false)) else (Dn k c l d e a f g h b i j false)
def Do(b:Nat)(m:(Ak×AC))(d:(List Ak))(e f g h i j k l:Int)(c:(List AJ))(n:((List Ak)->Int->Int->Int->Int->Int->Int->Int->Int->(List AJ)->Option (AN×AC)))(q:Bool):Option (AN×AC):=
 bif q then (bif (decide ((c.length:Int)>0)) then ((BD (AC.mk d e f g (Aj.mk h i j k) l) ([44]:List UInt8)).bind λa=>EQ b c n a.marks a.at_ a.why a.where_ a.l.text a.l.funcs a.l.arity a.l.nest a.nest) else (EQ b c n d e f g h i j k l)) else ((BD (AC.mk d e f g (Aj.mk h i j k) l) ([41]:List UInt8)).bind λr=>(BD r ([58]:List UInt8)).bind λs=>(CX b s).bind λo=>(BD o.2 ([61]:List UInt8)).bind λt=>(ref04_reader_expr b t).bind λp=>(BD p.2 ([59]:List UInt8)).bind λu=>some ((AN.mk m.1.text c o.1 p.1 m.1.at_),u))
def DT(j:Nat)(k:(Ak×AC))(l:(List Ak)->Int->Int->Int->Int->Int->Int->Int->Int->(List AJ)->Option (AN×AC))(b:(List Ak))(c a d e f g h i:Int)(m:(List AJ)):Option (AN×AC):=
 bif (a==0) then ((By (AC.mk b c a d (Aj.mk e f g h) i) ([41]:List UInt8)).bind λn=>Do j k b c a d e f g h i m l (!n)) else (Do j k b c a d e f g h i m l false)
def Bq(a:Nat)(b:(Ak×AC)):Nat->(List Ak)->Int->Int->Int->Int->Int->Int->Int->Int->(List AJ)->Option (AN×AC)
 |0=>λ_ _ _ _ _ _ _ _ _ _=>none
 |k+1=>DT a b (Bq a b k)
def ER(b:Nat)(d:(List Ak))(e f g h i j k l:Int):Option (AN×AC):=
 (CU (AC.mk d e f g (Aj.mk h i j k) l)).bind λc=>(BD c.2 ([40]:List UInt8)).bind λa=>Bq b c b a.marks a.at_ a.why a.where_ a.l.text a.l.funcs a.l.arity a.l.nest a.nest ([]:List AJ)
def ES(c:Nat)(a:AC)(d:Bool):Option (AN×AC):=
 bif d then ((CD a (22:Int)).bind λb=>ER c b.marks b.at_ b.why b.where_ b.l.text b.l.funcs b.l.arity b.l.nest b.nest) else (ER c a.marks a.at_ a.why a.where_ a.l.text a.l.funcs a.l.arity a.l.nest a.nest)
def C9(b:Nat)(a:AC)(c:Int):Option (AN×AC):=
 (Bl a).bind λd=>bif (d.kind==0) then (ES b a (decide (c>=a.l.funcs))) else (ES b a false)
def CN(l:Nat)(c:(List Ak))(d e f g h i j k:Int)(b:(List AN))(m:((List Ak)->Int->Int->Int->Int->Int->Int->Int->Int->(List AN)->Option (AL×AC)))(n:Bool):Option (AL×AC):=
 bif n then ((C9 l (AC.mk c d e f (Aj.mk g h i j) k) (b.length:Int)).bind λa=>(Gd 152 b ([a.1]:List AN)).bind λ_=>m a.2.marks a.2.at_ a.2.why a.2.where_ a.2.l.text a.2.l.funcs a.2.l.arity a.2.l.nest a.2.nest (b++([a.1]:List AN))) else (some ((AL.mk b),(AC.mk c d e f (Aj.mk g h i j) k)))
def CT(k:Nat)(l:(List Ak)->Int->Int->Int->Int->Int->Int->Int->Int->(List AN)->Option (AL×AC))(b:(List Ak))(c a d e f g h i:Int)(j:(List AN)):Option (AL×AC):=
 bif (a==0) then (bif ((j.length:Int)==0) then (CN k b c a d e f g h i j l true) else ((Bl (AC.mk b c a d (Aj.mk e f g h) i)).bind λm=>CN k b c a d e f g h i j l (m.kind != 4))) else (CN k b c a d e f g h i j l false)
def Bg(a:Nat):Nat->(List Ak)->Int->Int->Int->Int->Int->Int->Int->Int->(List AN)->Option (AL×AC)
 |0=>λ_ _ _ _ _ _ _ _ _ _=>none
 |k+1=>CT a (Bg a k)
def CF(b:Nat)(a:AC):Option (AL×AC):=
 Bg b b a.marks a.at_ a.why a.where_ a.l.text a.l.funcs a.l.arity a.l.nest a.nest ([]:List AN)
def Fy(d:Nat)(e:Bts)(a:Aj):Option (AL×AF):=
 bif (decide ((e.length:Int)>(if 32768< (if a.text<0 then 0 else a.text) then 32768 else (if a.text<0 then 0 else a.text)))) then (some ((AL.mk []),(AF.mk 22 (if 32768< (if a.text<0 then 0 else a.text) then 32768 else (if a.text<0 then 0 else a.text))))) else ((GN d e).bind λc=>bif (decide (c.2>=0)) then (some ((AL.mk []),(AF.mk 20 c.2))) else ((CF d (AC.mk c.1 0 0 0 (Aj.mk (if 32768< (if a.text<0 then 0 else a.text) then 32768 else (if a.text<0 then 0 else a.text)) a.funcs a.arity a.nest) (0:Int))).bind λb=>bif (b.2.why != 0) then (some ((AL.mk []),(AF.mk b.2.why b.2.where_))) else (some (b.1,(AF.mk 0 0)))))
def Hv(a:Int)(b:((List Bts)->Int->Int->Option ((List Bts))))(c:(List Bts))(d:Int):Option ((List Bts)):=
 b c d (i64.wrap (a+1))
def Hw(a:Int)(b:((List Bts)->Int->Int->Option ((List Bts))))(c:(List Bts)):Option ((List Bts)):=
 Hv a b c (i64.wrap (a+1))
def Gl(f:Bts)(b:(List Bts))(c a:Int)(d:((List Bts)->Int->Int->Option ((List Bts))))(g:Bool):Option ((List Bts)):=
 bif g then (Hv a d b c) else (bif (decide (a>c)) then ((sub f c a).bind λe=>(Gd 16 b ([e]:List Bts)).bind λ_=>Hw a d (b++([e]:List Bts))) else (Hw a d b))
def FZ(a:Bts)(d:(List Bts)->Int->Int->Option ((List Bts)))(c:(List Bts))(e b:Int):Option ((List Bts)):=
 bif (decide (b<=(a.length:Int))) then (bif (decide (b< (a.length:Int))) then ((idx a b).bind λf=>Gl a c e b d (((f).toNat:Int) != (((32:UInt8)).toNat:Int))) else (Gl a c e b d false)) else (some c)
def Ej(a:Bts):Nat->(List Bts)->Int->Int->Option ((List Bts))
 |0=>λ_ _ _=>none
 |k+1=>FZ a (Ej a k)
def GQ(a:Nat)(b:Bts):Option ((List Bts)):=
 Ej b a ([]:List Bts) 0 0
def Hf(a:Nat)(c:Bool):Option (Int×Bool):=
 bif c then (some (0,false)) else ((f2i .i64 a).bind λb=>some (b,(feq (FloatKind.f64.nearest b) a)))
def IG(a:Nat):Option (Int×Bool):=
 bif (fge a 13938640846711685120) then (bif (!(fle a 4715268809856909312)) then (Hf a true) else (bif (feq a 0) then (Hf a (((a:Nat):Int) != 0)) else (Hf a false))) else (bif (!false) then (Hf a true) else (bif (feq a 0) then (Hf a (((a:Nat):Int) != 0)) else (Hf a false)))
def Nf(a:(Int×Bool))(b:(Int×Bool))(c:Bool):Option (Af×Bool):=
 bif c then (some ((Af.mk 0 0),false)) else (some ((Af.mk a.1 b.1),true))
def E6(c:Cpl):Option (Af×Bool):=
 (IG c.1).bind λa=>(IG c.2).bind λb=>bif (!a.2) then (Nf a b true) else (Nf a b (!b.2))
def Hx(a:Int)(b:(Bool->Int->Option Bool))(c:Bool):Option Bool:=
 b c (i64.wrap (a+1))
def J8(a:Bool):Option Bool:=
 some a
def J9(a:Bool):Option Bool:=
 some a
def KA(a:Bool):Option Bool:=
 some a
def Fa(a:AD)(d:Bool->Int->Option Bool)(b:Bool)(c:Int):Option Bool:=
 bif (decide (c< (a.list.length:Int))) then ((idx a.list c).bind λe=>(E6 e).bind λf=>bif b then (Hx c d f.2) else (Hx c d false)) else (bif (a.type_==1) then (bif b then (bif (!a.bool) then (J8 ((a.list.length:Int)==0)) else (J8 false)) else (J8 false)) else (bif (a.type_==2) then (bif b then (bif (ceq a.num ((0,0):Cpl)) then (J9 ((a.list.length:Int)==0)) else (J9 false)) else (J9 false)) else (bif (a.type_==3) then (bif b then (bif (ceq a.num ((0,0):Cpl)) then (KA (!a.bool)) else (KA false)) else (KA false)) else (some false))))
def FH(a:AD):Nat->Bool->Int->Option Bool
 |0=>λ_ _=>none
 |k+1=>Fa a (FH a k)
def CO(b:Nat)(a:AD):Option Bool:=
 (E6 a.num).bind λc=>FH a b c.2 0
def Eb(a:Nat)(b:Cpl):Option (Bts):=
 (E6 b).bind λc=>(GH a c.1).bind λd=>some d
def Hg(d:Nat)(e:AD)(a:Int)(f:(Bts->Int->Option (Bts×Int)))(b:Bts):Option (Bts×Int):=
 (idx e.list a).bind λg=>(Eb d g).bind λc=>(Gd 1 b c).bind λ_=>f (b++c) (i64.wrap (a+1))
def F5(d:Nat)(c:AD)(e:Bts->Int->Option (Bts×Int))(a:Bts)(b:Int):Option (Bts×Int):=
 bif (decide (b< (c.list.length:Int))) then (bif (decide (b>0)) then ((Gd 1 a ([(32:UInt8)]:List UInt8)).bind λ_=>Hg d c b e (a++([(32:UInt8)]:List UInt8))) else (Hg d c b e a)) else ((QH ([91]:List UInt8) a).bind λf=>(QH f ([93]:List UInt8)).bind λg=>some (g,0))
def Fb(a:Nat)(b:AD):Nat->Bts->Int->Option (Bts×Int)
 |0=>λ_ _=>none
 |k+1=>F5 a b (Fb a b k)
def Gq(b:Nat)(a:AD):Option (Bts×Int):=
 (CO b a).bind λc=>bif (!c) then (some (([]:List UInt8),3)) else (bif (a.type_==1) then ((Eb b a.num).bind λd=>some (d,0)) else (bif (a.type_==2) then (bif a.bool then (some (([116,114,117,101]:List UInt8),0)) else (some (([102,97,108,115,101]:List UInt8),0))) else (Fb b a b ([]:List UInt8) 0)))
def Fc(d:Nat)(g:Bts)(e:((List Bts)))(h:Int->Int->Int->(List Cpl)->Option (AD×Int))(c _x193 _x194:Int)(a:(List Cpl)):Option (AD×Int):=
 bif (decide (c< (e.length:Int))) then ((idx e c).bind λi=>(Et d i).bind λb=>bif (b.2 != 0) then (some ((AD.mk 0 ((0,0):Cpl) false []),11)) else ((GL b.1).bind λf=>(Gd 16 a ([f]:List Cpl)).bind λ_=>h (i64.wrap (c+1)) b.1.re b.1.im (a++([f]:List Cpl)))) else ((Gq d (AD.mk 3 ((0,0):Cpl) false a)).bind λj=>bif (!(j.1==g)) then (some ((AD.mk 0 ((0,0):Cpl) false []),11)) else (some ((AD.mk 3 ((0,0):Cpl) false a),0)))
def FI(a:Nat)(b:Bts)(c:((List Bts))):Nat->Int->Int->Int->(List Cpl)->Option (AD×Int)
 |0=>λ_ _ _ _=>none
 |k+1=>Fc a b c (FI a b c k)
def F6(a:Nat)(b:Bts)(c:(Af×Int))(d:Bool):Option (AD×Int):=
 bif d then (some ((AD.mk 0 ((0,0):Cpl) false []),11)) else ((sub b 1 (i64.wrap ((b.length:Int) - (1:Int)))).bind λe=>(GQ a e).bind λf=>FI a b f a 0 c.1.re c.1.im ([]:List Cpl))
def Gs(c:Nat)(a:Bts)(d:Bool):Option (AD×Int):=
 bif d then (some ((AD.mk 2 ((0,0):Cpl) (a==([116,114,117,101]:List UInt8)) []),0)) else ((Et c a).bind λb=>bif (b.2==0) then ((GL b.1).bind λe=>some ((AD.mk 1 e false []),0)) else (bif (decide ((a.length:Int)<2)) then (F6 c a b true) else ((idx a (0:Int)).bind λf=>bif (((f).toNat:Int) != (((91:UInt8)).toNat:Int)) then (F6 c a b true) else ((idx a (i64.wrap ((a.length:Int) - (1:Int)))).bind λg=>F6 c a b (((g).toNat:Int) != (((93:UInt8)).toNat:Int))))))
def Hy(b:Nat)(a:Bts):Option (AD×Int):=
 bif (a==([116,114,117,101]:List UInt8)) then (Gs b a true) else (Gs b a (a==([102,97,108,115,101]:List UInt8)))
def Hz(a:Int)(b:(Int->Bool->Option ((List AD)×Int)))(c:Bool):Option ((List AD)×Int):=
 b (i64.wrap (a+1)) c
def Ek(f:Nat)(c:Bts)(d:(List AD))(g:Int)(h:((List AD)->Int->Option ((List AD)×Int)))(a:Int)(i:Bool)(e:(Int->Bool->Option ((List AD)×Int)))(j:Bool):Option ((List AD)×Int):=
 bif j then ((idx c a).bind λk=>bif (((k).toNat:Int)==(((93:UInt8)).toNat:Int)) then (Hz a e false) else (Hz a e i)) else ((sub c g a).bind λl=>(Hy f l).bind λb=>bif (b.2 != 0) then (some ([],11)) else ((Gd 56 d ([b.1]:List AD)).bind λ_=>h (d++([b.1]:List AD)) a))
def Fe(d:Nat)(a:Bts)(e:(List AD))(f:Int)(g:((List AD)->Int->Option ((List AD)×Int)))(h:Int->Bool->Option ((List AD)×Int))(b:Int)(c:Bool):Option ((List AD)×Int):=
 bif (decide (b< (a.length:Int))) then (bif c then (Ek d a e f g b c h true) else ((idx a b).bind λi=>Ek d a e f g b c h (((i).toNat:Int) != (((32:UInt8)).toNat:Int)))) else (Ek d a e f g b c h false)
def EV(a:Nat)(b:Bts)(c:(List AD))(d:Int)(e:((List AD)->Int->Option ((List AD)×Int))):Nat->Int->Bool->Option ((List AD)×Int)
 |0=>λ_ _=>none
 |k+1=>Fe a b c d e (EV a b c d e k)
def Ff(d:Nat)(b:Bts)(e:(List AD)->Int->Option ((List AD)×Int))(c:(List AD))(a:Int):Option ((List AD)×Int):=
 bif (decide (a< (b.length:Int))) then ((idx b a).bind λf=>bif (((f).toNat:Int)==(((32:UInt8)).toNat:Int)) then (e c (i64.wrap (a+1))) else ((idx b a).bind λg=>EV d b c a e d a (((g).toNat:Int)==(((91:UInt8)).toNat:Int)))) else (some (c,0))
def Ch(a:Nat)(b:Bts):Nat->(List AD)->Int->Option ((List AD)×Int)
 |0=>λ_ _=>none
 |k+1=>Ff a b (Ch a b k)
def If(a:Nat)(b:Bts):Option ((List AD)×Int):=
 Ch a b a ([]:List AD) 0
def Jf(a:(List AD))(b:Bool)(c:(List AN)):Option (AL×(List AD)×Bool):=
 some ((AL.mk c),a,b)
def Gt(c:Nat)(d:Eh)(b:(List AN))(e:Int):Option (AL×(List AD)×Bool):=
 (If c d.args).bind λa=>bif (e==0) then (Jf a.1 (a.2==0) b) else (Jf a.1 false b)
def CH(a:Nat)(b:Eh):Option (AL×(List AD)×Bool):=
 (KV).bind λd=>(Fy a b.text d).bind λc=>Gt a b c.1.funcs c.2.why
def KB(a b:Int)(c:AF)(d:Bool):Option AF:=
 bif d then (some (AF.mk a b)) else (some c)
def EB(c b:Int)(a:AF):Option AF:=
 bif (a.why==0) then (KB c b a true) else (KB c b a (decide (b<a.at_)))
def HW(b:AE)(a:AF)(c:Bool):Option AF:=
 bif c then ((EB 33 b.at_ a).bind λd=>some d) else (some a)
def GR(a:AE)(c:As)(b:AF)(d:AL)(e:Bool):Option AF:=
 bif e then ((EB 32 a.at_ b).bind λf=>some f) else (bif (a.op==7) then ((idx d.funcs (i64.wrap ((Cz c a.name) - (1:Int)))).bind λg=>HW a b ((g.params.length:Int) != (a.args.length:Int))) else (HW a b false))
def HX(a:AE)(b:As)(c:AF)(d:AL)(e:Bool):Option AF:=
 bif e then ((EB 31 a.at_ c).bind λf=>some f) else (bif (a.op==7) then (GR a b c d ((Cz b a.name)==0)) else (GR a b c d false))
def F7(a:AE)(e b:As)(c:AF)(d:AL):Option AF:=
 bif (a.op==6) then (HX a b c d ((Cz e a.name)==0)) else (HX a b c d false)
def K6(a:AE)(b:Bool):Option ((List Bts)):=
 bif b then (some ([a.name,a.tail]:List Bts)) else (some [])
def KC(a:AE)(b:Int)(c:Bool):Option ((List Bts)):=
 bif c then (some ([a.name]:List Bts)) else (bif (a.op==20) then (K6 a (b==2)) else (K6 a false))
def H0(a:AE)(b:Int):Option ((List Bts)):=
 bif (a.op==21) then (KC a b (a.op==21)) else (bif (a.op==22) then (KC a b (b==1)) else (KC a b false))
structure A3 where
 scope_walk:AE->As->As->AF->AL->Option (As×AF)
def Iw(f:Int)(g:(Int->As->Int->Int->Option (As×AF)))(c:((List Bts)))(d:(As×AF))(h:Int->As->Option (As×AF))(a:Int)(b:As):Option (As×AF):=
 bif (decide (a< (c.length:Int))) then ((idx c a).bind λe=>h (i64.wrap (a+1)) (Mc e (i64.wrap ((Cz b e) - 1)) b)) else (g (i64.wrap (f+1)) b d.2.why d.2.at_)
def Ig(a:Int)(b:(Int->As->Int->Int->Option (As×AF)))(c:((List Bts)))(d:(As×AF)):Nat->Int->As->Option (As×AF)
 |0=>λ_ _=>none
 |k+1=>Iw a b c d (Ig a b c d k)
def Iy(f:A3)(g:Nat)(h:As)(i:AL)(j k l:Int)(m:(Int->As->Int->Int->Option (As×AF)))(n:AE)(a:((List Bts)))(o:Int->As->Option (As×AF))(b:Int)(c:As):Option (As×AF):=
 bif (decide (b< (a.length:Int))) then ((idx a b).bind λd=>o (i64.wrap (b+1)) (Mc d (i64.wrap ((Cz c d)+1)) c)) else ((f.scope_walk n c h (AF.mk k l) i).bind λe=>Ig j m a e g 0 e.1)
def Ih(a:A3)(b:Nat)(c:As)(d:AL)(e f g:Int)(h:(Int->As->Int->Int->Option (As×AF)))(i:AE)(j:((List Bts))):Nat->Int->As->Option (As×AF)
 |0=>λ_ _=>none
 |k+1=>Iy a b c d e f g h i j (Ih a b c d e f g h i j k)
def Iz(g:A3)(c:Nat)(b:AE)(h:As)(i:AL)(j:Int->As->Int->Int->Option (As×AF))(a:Int)(d:As)(e f:Int):Option (As×AF):=
 bif (decide (a< (b.args.length:Int))) then ((idx b.args a).bind λk=>(H0 b a).bind λl=>Ih g c h i a e f j k l c 0 d) else (some (d,(AF.mk e f)))
def Cs(a:A3)(b:Nat)(c:AE)(d:As)(e:AL):Nat->Int->As->Int->Int->Option (As×AF)
 |0=>λ_ _ _ _=>none
 |k+1=>Iz a b c d e (Cs a b c d e k)
def La(g:A3)(a:Nat)(b:AE)(c d:As)(h:AF)(e:AL):Option (As×AF):=
 (F7 b c d h e).bind λf=>Cs g a b d e a 0 c f.why f.at_
def A3.at:Nat->A3
 |0=>⟨λ_ _ _ _ _=>none⟩
 |n+1=>⟨La (A3.at n) n⟩
def scope_walk(a:Nat):AE->As->As->AF->AL->Option (As×AF):=(A3.at a).scope_walk
def KD(a:Int)(b:(Int->Int->Int->As->Option AF))(c d:Int)(e:As):Option AF:=
 b (i64.wrap (a+1)) c d e
def KE(c:Int)(a:As)(d:(Int->Int->Int->As->Option AF))(b:AJ)(e f:Int):Option AF:=
 d (i64.wrap (c+1)) e f (Mc b.name (i64.wrap ((Cz a b.name)+1)) a)
def GD(j:Nat)(k:AL)(l:As)(m:Int)(n:(Int->Int->Int->Option AF))(a:AN)(g:Int->Int->Int->As->Option AF)(b e f:Int)(c:As):Option AF:=
 bif (decide (b< (a.params.length:Int))) then ((idx a.params b).bind λd=>bif (decide ((Cz c d.name)>0)) then ((EB 30 d.at_ (AF.mk e f)).bind λh=>KE b c g d h.why h.at_) else (KE b c g d e f)) else ((scope_walk j (AE.mk a.body.op a.body.name a.body.tail a.body.type_ a.body.num a.body.args a.body.at_) c l (AF.mk e f) k).bind λi=>n (i64.wrap (m+1)) i.2.why i.2.at_)
def F8(a:Nat)(b:AL)(c:As)(d:Int)(e:(Int->Int->Int->Option AF))(f:AN):Nat->Int->Int->Int->As->Option AF
 |0=>λ_ _ _ _=>none
 |k+1=>GD a b c d e f (F8 a b c d e f k)
def IH(c:Nat)(a:AL)(f:As)(g:Int->Int->Int->Option AF)(b d e:Int):Option AF:=
 bif (decide (b< (a.funcs.length:Int))) then ((idx a.funcs b).bind λh=>F8 c a f b g h c 0 d e ([]:As)) else (some (AF.mk d e))
def DJ(a:Nat)(b:AL)(c:As):Nat->Int->Int->Int->Option AF
 |0=>λ_ _ _=>none
 |k+1=>IH a b c (DJ a b c k)
def II(g:Nat)(c:AL)(h:Int->Int->Int->As->Option AF)(a d e:Int)(b:As):Option AF:=
 bif (decide (a< (c.funcs.length:Int))) then ((idx c.funcs a).bind λf=>bif (decide ((Cz b f.name)>0)) then ((EB 30 f.at_ (AF.mk d e)).bind λi=>KD a h i.why i.at_ b) else (KD a h d e (Mc f.name (i64.wrap (a+1)) b))) else (DJ g c b g 0 d e)
def H1(a:Nat)(b:AL):Nat->Int->Int->Int->As->Option AF
 |0=>λ_ _ _ _=>none
 |k+1=>II a b (H1 a b k)
def Ii(a:Nat)(b:AL):Option AF:=
 H1 a b a 0 0 0 ([]:As)
def I0(c:AL)(d:Int->As->Option (As×(List AN)×(List AJ)×As))(a:Int)(b:As):Option (As×(List AN)×(List AJ)×As):=
 bif (decide (a>=0)) then ((idx c.funcs a).bind λe=>d (i64.wrap (a - 1)) (Mc e.name (i64.wrap (a+1)) b)) else (some (b,c.funcs,[],b))
def Ij(a:AL):Nat->Int->As->Option (As×(List AN)×(List AJ)×As)
 |0=>λ_ _=>none
 |k+1=>I0 a (Ij a k)
def K7(b:Nat)(a:AL)(_ao0:AF):Option (As×(List AN)×(List AJ)×As):=
 Ij a b (i64.wrap ((a.funcs.length:Int) - 1)) ([]:As)
def KF(a:Int)(b:AF)(c:Bool):Option AF:=
 bif c then (some (AF.mk 34 a)) else (some b)
def F9(b:Int)(a:AF):Option AF:=
 bif (a.why==0) then (KF b a true) else (KF b a (decide (b<a.at_)))
structure AH where
 types_checker_want:(List AN)->(List AJ)->As->AF->AE->Int->Option ((List AN)×(List AJ)×AF)
 types_checker_all:(List AN)->(List AJ)->As->AF->Int->(List AE)->Option ((List AN)×(List AJ)×AF)
 types_checker_in:(List AN)->(List AJ)->As->AF->AE->Int->(List AJ)->Option ((List AN)×(List AJ)×AF)
 types_checker_in_2:(List AN)->(List AJ)->As->AF->AE->Int->(List AJ)->Option ((List AN)×(List AJ)×AF)
 types_checker_in_3:(List AN)->(List AJ)->As->AF->AE->Int->(List AJ)->Option ((List AN)×(List AJ)×AF)
 types_checker_own:(List AN)->(List AJ)->As->AF->AE->Option (Int×(List AN)×(List AJ)×AF)
 types_checker_want_1:(List AN)->(List AJ)->As->AF->AE->Int->Option ((List AN)×(List AJ)×AF)
 types_checker_want_2:(List AN)->(List AJ)->As->AF->AE->Int->Option ((List AN)×(List AJ)×AF)
 types_checker_want_3:(List AN)->(List AJ)->As->AF->AE->Int->Option ((List AN)×(List AJ)×AF)
 types_checker_call:(List AN)->(List AJ)->As->AF->AE->Option (Int×(List AN)×(List AJ)×AF)
def Ci(e:AE)(f g:Int)(a:(List AN))(b:(List AJ))(c d:Int):Option ((List AN)×(List AJ)×AF):=
 bif (g != f) then ((F9 e.at_ (AF.mk c d)).bind λh=>some (a,b,h)) else (some (a,b,(AF.mk c d)))
def GS(c:AH)(_N:Nat)(e:(List AN))(f:(List AJ))(d:As)(g:AF)(a:AE)(b:Int):Option ((List AN)×(List AJ)×AF):=
 bif (a.op==19) then ((idx a.args (0:Int)).bind λq=>(c.types_checker_want e f d g q (2:Int)).bind λm=>(sub a.args 1 (a.args.length:Int)).bind λr=>(c.types_checker_all m.1 m.2.1 d m.2.2 b r).bind λi=>Ci a b b i.1 i.2.1 i.2.2.why i.2.2.at_) else (bif (a.op==20) then ((idx a.args (0:Int)).bind λs=>(c.types_checker_want e f d g s (3:Int)).bind λn=>(idx a.args (1:Int)).bind λt=>(c.types_checker_want n.1 n.2.1 d n.2.2 t b).bind λo=>(c.types_checker_in o.1 o.2.1 d o.2.2 a b ([(AJ.mk a.name 1 0),(AJ.mk a.tail 3 0)]:List AJ)).bind λj=>Ci a b b j.1 j.2.1 j.2.2.why j.2.2.at_) else (bif (a.op==21) then ((c.types_checker_in_2 e f d g a b ([(AJ.mk a.name a.type_ 0)]:List AJ)).bind λk=>Ci a b b k.1 k.2.1 k.2.2.why k.2.2.at_) else (bif (a.op==22) then ((idx a.args (0:Int)).bind λu=>(c.types_checker_want e f d g u a.type_).bind λp=>(c.types_checker_in_3 p.1 p.2.1 d p.2.2 a b ([(AJ.mk a.name a.type_ 0)]:List AJ)).bind λl=>Ci a b b l.1 l.2.1 l.2.2.why l.2.2.at_) else ((c.types_checker_own e f d g a).bind λh=>Ci a b h.1 h.2.1 h.2.2.1 h.2.2.2.why h.2.2.2.at_))))
def Ez(h:AH)(i:As)(j:Int)(c:(List AE))(k:Int->(List AN)->(List AJ)->Int->Int->Option ((List AN)×(List AJ)×AF))(b:Int)(d:(List AN))(e:(List AJ))(f g:Int):Option ((List AN)×(List AJ)×AF):=
 bif (decide (b< (c.length:Int))) then ((idx c b).bind λl=>(h.types_checker_want d e i (AF.mk f g) l j).bind λa=>k (i64.wrap (b+1)) a.1 a.2.1 a.2.2.why a.2.2.at_) else (some (d,e,(AF.mk f g)))
def D4(a:AH)(b:As)(c:Int)(d:(List AE)):Nat->Int->(List AN)->(List AJ)->Int->Int->Option ((List AN)×(List AJ)×AF)
 |0=>λ_ _ _ _ _=>none
 |k+1=>Ez a b c d (D4 a b c d k)
def J3(b:AH)(c:Nat)(d:(List AN))(e:(List AJ))(f:As)(a:AF)(g:Int)(h:(List AE)):Option ((List AN)×(List AJ)×AF):=
 D4 b f g h c 0 d e a.why a.at_
def HY(d:AH)(_N:Nat)(e:(List AN))(a:(List AJ))(f:As)(g:AF)(h:AE)(i:Int)(c:(List AJ)):Option ((List AN)×(List AJ)×AF):=
 (Gd 32 a c).bind λ_=>(d.types_checker_want_1 e (a++c) f g h i).bind λb=>(sub b.2.1 0 (a.length:Int)).bind λj=>some (b.1,j,b.2.2)
def GT(d:AH)(_N:Nat)(e:(List AN))(a:(List AJ))(f:As)(g:AF)(h:AE)(i:Int)(c:(List AJ)):Option ((List AN)×(List AJ)×AF):=
 (Gd 32 a c).bind λ_=>(d.types_checker_want_2 e (a++c) f g h i).bind λb=>(sub b.2.1 0 (a.length:Int)).bind λj=>some (b.1,j,b.2.2)
def GU(d:AH)(_N:Nat)(e:(List AN))(a:(List AJ))(f:As)(g:AF)(h:AE)(i:Int)(c:(List AJ)):Option ((List AN)×(List AJ)×AF):=
 (Gd 32 a c).bind λ_=>(d.types_checker_want_3 e (a++c) f g h i).bind λb=>(sub b.2.1 0 (a.length:Int)).bind λj=>some (b.1,j,b.2.2)
def HT(c:(List AN))(a:(List AJ))(d:AF)(e:AE)(f:Int->Option (Int×(List AN)×(List AJ)×AF))(b:Int):Option (Int×(List AN)×(List AJ)×AF):=
 bif (decide (b>=0)) then ((idx a b).bind λg=>bif (g.name==e.name) then ((idx a b).bind λh=>some (h.type_,c,a,d)) else (f (i64.wrap (b - 1)))) else (some (0,c,a,d))
def FJ(a:(List AN))(b:(List AJ))(c:AF)(d:AE):Nat->Int->Option (Int×(List AN)×(List AJ)×AF)
 |0=>λ_=>none
 |k+1=>HT a b c d (FJ a b c d k)
def H2(a:((List AN)×(List AJ)×AF))(b:Bool):Option (Int×(List AN)×(List AJ)×AF):=
 bif b then (some (2,a.1,a.2.1,a.2.2)) else (some (1,a.1,a.2.1,a.2.2))
def FK(e:AH)(l:Nat)(c:(List AN))(b:(List AJ))(f:As)(d:AF)(a:AE)(m:Bool):Option (Int×(List AN)×(List AJ)×AF):=
 bif m then (some (2,c,b,d)) else (bif (a.op==4) then (some (3,c,b,d)) else (bif (a.op==5) then (some (a.type_,c,b,d)) else (bif (a.op==6) then (FJ c b d a l (i64.wrap ((b.length:Int) - 1))) else (bif (a.op==7) then ((e.types_checker_call c b f d a).bind λg=>some (g.1,g.2.1,g.2.2.1,g.2.2.2)) else (bif (a.op==14) then ((e.types_checker_all c b f d 2 a.args).bind λh=>some (2,h.1,h.2.1,h.2.2)) else (bif (a.op==18) then ((idx a.args (0:Int)).bind λn=>(e.types_checker_want c b f d n (1:Int)).bind λi=>(idx a.args (1:Int)).bind λo=>(e.types_checker_want i.1 i.2.1 f i.2.2 o (3:Int)).bind λj=>some (3,j.1,j.2.1,j.2.2)) else ((e.types_checker_all c b f d 1 a.args).bind λk=>bif (a.op==12) then (H2 k true) else (H2 k (a.op==13)))))))))
def HE(b:AH)(c:Nat)(d:(List AN))(e:(List AJ))(f:As)(g:AF)(a:AE):Option (Int×(List AN)×(List AJ)×AF):=
 bif (a.op==2) then (FK b c d e f g a (a.op==2)) else (FK b c d e f g a (a.op==3))
def Fi(b:AH)(_N:Nat)(c:(List AN))(d:(List AJ))(e:As)(f:AF)(g:AE)(h:Int):Option ((List AN)×(List AJ)×AF):=
 (idx g.args (2:Int)).bind λi=>(b.types_checker_want c d e f i h).bind λa=>some (a.1,a.2.1,a.2.2)
def Fj(d:AH)(_N:Nat)(f:(List AN))(g:(List AJ))(e:As)(h:AF)(a:AE)(i:Int):Option ((List AN)×(List AJ)×AF):=
 (idx a.args (0:Int)).bind λj=>(d.types_checker_want f g e h j a.type_).bind λb=>(idx a.args (1:Int)).bind λk=>(d.types_checker_want b.1 b.2.1 e b.2.2 k i).bind λc=>some (c.1,c.2.1,c.2.2)
def Fk(b:AH)(_N:Nat)(c:(List AN))(d:(List AJ))(e:As)(f:AF)(g:AE)(h:Int):Option ((List AN)×(List AJ)×AF):=
 (idx g.args (1:Int)).bind λi=>(b.types_checker_want c d e f i h).bind λa=>some (a.1,a.2.1,a.2.2)
def Ec(j:AH)(d:As)(e:AE)(f:AN)(k:Int->(List AN)->(List AJ)->Int->Int->Option (Int×(List AN)×(List AJ)×AF))(a:Int)(c:(List AN))(g:(List AJ))(h i:Int):Option (Int×(List AN)×(List AJ)×AF):=
 bif (decide (a< (f.params.length:Int))) then ((idx f.params a).bind λl=>(idx e.args a).bind λm=>(j.types_checker_want c g d (AF.mk h i) m l.type_).bind λb=>k (i64.wrap (a+1)) b.1 b.2.1 b.2.2.why b.2.2.at_) else ((idx c (i64.wrap ((Cz d e.name) - (1:Int)))).bind λn=>some (n.type_,c,g,(AF.mk h i)))
def EH(a:AH)(b:As)(c:AE)(d:AN):Nat->Int->(List AN)->(List AJ)->Int->Int->Option (Int×(List AN)×(List AJ)×AF)
 |0=>λ_ _ _ _ _=>none
 |k+1=>Ec a b c d (EH a b c d k)
def F1(f:AH)(g:Nat)(a:(List AN))(c:(List AJ))(d:As)(b:AF)(e:AE)(h:Bool):Option (Int×(List AN)×(List AJ)×AF):=
 bif h then (some (0,a,c,b)) else ((idx a (i64.wrap ((Cz d e.name) - (1:Int)))).bind λi=>EH f d e i g 0 a c b.why b.at_)
def GW(d:AH)(e:Nat)(c:(List AN))(f:(List AJ))(b:As)(g:AF)(a:AE):Option (Int×(List AN)×(List AJ)×AF):=
 bif ((Cz b a.name)==0) then (F1 d e c f b g a true) else ((idx c (i64.wrap ((Cz b a.name) - (1:Int)))).bind λh=>F1 d e c f b g a ((h.params.length:Int) != (a.args.length:Int)))
def AH.at:Nat->AH
 |0=>⟨λ_ _ _ _ _ _=>none,λ_ _ _ _ _ _=>none,λ_ _ _ _ _ _ _=>none,λ_ _ _ _ _ _ _=>none,λ_ _ _ _ _ _ _=>none,λ_ _ _ _ _=>none,λ_ _ _ _ _ _=>none,λ_ _ _ _ _ _=>none,λ_ _ _ _ _ _=>none,λ_ _ _ _ _=>none⟩
 |n+1=>⟨GS (AH.at n) n,J3 (AH.at n) n,HY (AH.at n) n,GT (AH.at n) n,GU (AH.at n) n,HE (AH.at n) n,Fi (AH.at n) n,Fj (AH.at n) n,Fk (AH.at n) n,GW (AH.at n) n⟩
def types_checker_want(a:Nat):(List AN)->(List AJ)->As->AF->AE->Int->Option ((List AN)×(List AJ)×AF):=(AH.at a).types_checker_want
def types_checker_all(a:Nat):(List AN)->(List AJ)->As->AF->Int->(List AE)->Option ((List AN)×(List AJ)×AF):=(AH.at a).types_checker_all
def types_checker_in(a:Nat):(List AN)->(List AJ)->As->AF->AE->Int->(List AJ)->Option ((List AN)×(List AJ)×AF):=(AH.at a).types_checker_in
def types_checker_in_2(a:Nat):(List AN)->(List AJ)->As->AF->AE->Int->(List AJ)->Option ((List AN)×(List AJ)×AF):=(AH.at a).types_checker_in_2
def types_checker_in_3(a:Nat):(List AN)->(List AJ)->As->AF->AE->Int->(List AJ)->Option ((List AN)×(List AJ)×AF):=(AH.at a).types_checker_in_3
def types_checker_own(a:Nat):(List AN)->(List AJ)->As->AF->AE->Option (Int×(List AN)×(List AJ)×AF):=(AH.at a).types_checker_own
def types_checker_want_1(a:Nat):(List AN)->(List AJ)->As->AF->AE->Int->Option ((List AN)×(List AJ)×AF):=(AH.at a).types_checker_want_1
def types_checker_want_2(a:Nat):(List AN)->(List AJ)->As->AF->AE->Int->Option ((List AN)×(List AJ)×AF):=(AH.at a).types_checker_want_2
def types_checker_want_3(a:Nat):(List AN)->(List AJ)->As->AF->AE->Int->Option ((List AN)×(List AJ)×AF):=(AH.at a).types_checker_want_3
def types_checker_call(a:Nat):(List AN)->(List AJ)->As->AF->AE->Option (Int×(List AN)×(List AJ)×AF):=(AH.at a).types_checker_call
def IJ(g:Nat)(d:AL)(h:(As×(List AN)×(List AJ)×As))(i:Int->Int->Int->(List AN)->(List AJ)->Option AF)(c e f:Int)(j:(List AN))(_x182:(List AJ)):Option AF:=
 bif (decide (c< (d.funcs.length:Int))) then ((idx d.funcs c).bind λa=>(Gd 32 ([]:List AJ) a.params).bind λ_=>(types_checker_want g j (([]:List AJ)++a.params) h.2.2.2 (AF.mk e f) (AE.mk a.body.op a.body.name a.body.tail a.body.type_ a.body.num a.body.args a.body.at_) a.type_).bind λb=>i (i64.wrap (c+1)) b.2.2.why b.2.2.at_ b.1 b.2.1) else (some (AF.mk e f))
def H3(a:Nat)(b:AL)(c:(As×(List AN)×(List AJ)×As)):Nat->Int->Int->Int->(List AN)->(List AJ)->Option AF
 |0=>λ_ _ _ _ _=>none
 |k+1=>IJ a b c (H3 a b c k)
def HH(b:Nat)(c:AL):Option AF:=
 (Ii b c).bind λa=>bif (a.why != 0) then (some a) else ((K7 b c a).bind λd=>H3 b c d b 0 a.why a.at_ d.2.1 d.2.2.1)
def I1(a:Nat):Option Nat:=
 (TE a).bind λb=>some b
def Ic(a:Nat):Option Bool:=
 some (decide ((i64.wrap (((a:Nat):Int)))<0))
def H4(a:Bool):Option Bool:=
 some a
def HI(a:Nat):Option Bool:=
 bif (fge a 13938640846711685120) then (bif (fle a 4715268809856909312) then ((I1 a).bind λb=>bif (feq a b) then (bif (fne a 0) then (H4 true) else ((Ic a).bind λc=>H4 (!c))) else (H4 false)) else (H4 false)) else (H4 false)
def K8(a:Bool):Option Bool:=
 some a
def CJ(a:Cpl):Option Bool:=
 (HI a.1).bind λb=>bif b then ((HI a.2).bind λc=>K8 c) else (K8 false)
def El(a:Bool):Option Int:=
 bif (!a) then (some 3) else (some 0)
def K9(a:Int)(b:(Bool->Int->Option Int))(c:Bool):Option Int:=
 b c (i64.wrap (a+1))
def Ka(b:AD)(c:Bool->Int->Option Int)(d:Bool)(a:Int):Option Int:=
 bif (decide (a< (b.list.length:Int))) then ((idx b.list a).bind λe=>bif d then ((CJ e).bind λf=>K9 a c f) else (K9 a c false)) else (El d)
def I2(a:AD):Nat->Bool->Int->Option Int
 |0=>λ_ _=>none
 |k+1=>Ka a (I2 a k)
def KG(a:Nat)(b:AD)(c:Bool):Option Int:=
 I2 b a c 0
def DU(b:Nat)(a:AD):Option Int:=
 bif (a.type_==1) then ((CJ a.num).bind λc=>bif c then (bif (!a.bool) then (El ((a.list.length:Int)==0)) else (El false)) else (El false)) else (bif (a.type_==2) then ((CJ a.num).bind λd=>bif d then (bif (ceq a.num ((0,0):Cpl)) then (El ((a.list.length:Int)==0)) else (El false)) else (El false)) else (bif (a.type_==3) then ((CJ a.num).bind λe=>bif e then (bif (ceq a.num ((0,0):Cpl)) then (KG b a (!a.bool)) else (KG b a false)) else (KG b a false)) else (El false)))
def Iq(a:Ax):Option Th:=
 some (Th.done (AD.mk a.plain.type_ a.plain.num a.plain.bool a.plain.list) a.head a.tail)
def LB(c:AD)(d:Th->Int->Option Th)(b:Th)(a:Int):Option Th:=
 bif (decide (a>=0)) then ((idx c.list a).bind λe=>(Iq (Ax.mk (AD.mk 1 e false []) Th.nil Th.nil)).bind λf=>(Iq (Ax.mk (AD.mk 0 ((0,0):Cpl) false []) f b)).bind λg=>d g (i64.wrap (a - 1))) else (some b)
def Jr(a:AD):Nat->Th->Int->Option Th
 |0=>λ_ _=>none
 |k+1=>LB a (Jr a k)
def I3(b:Nat)(a:AD):Option Th:=
 bif (a.type_ != 3) then ((Iq (Ax.mk a Th.nil Th.nil)).bind λc=>some c) else ((Iq (Ax.mk (AD.mk 3 ((0,0):Cpl) false []) Th.nil Th.nil)).bind λd=>Jr a b d (i64.wrap ((a.list.length:Int) - 1)))
def Lj(b:Bts)(c:Nm->Option Th)(d:Nm):Option Th:=
 (d.view).bind λa=>bif (!(a.1==b)) then (c a.2.2) else (some a.2.1)
def Ed(a:Bts):Nat->Nm->Option Th
 |0=>λ_=>none
 |k+1=>Lj a (Ed a k)
def Dr(a:Nat)(b:Nm)(c:Bts):Option Th:=
 Ed c a b
def Jg(a:Ax):Option Ax:=
 some a
def Js(a:AE):Option AE:=
 some a
def Mk(a:Bool):Option (Int×Int):=
 bif a then (some (1,1)) else (some (0,0))
def Ml(a:Int)(b:Bool):Option (Int×Int):=
 bif b then (some (2,1)) else (bif (a==14) then (some (1,2)) else (bif (decide (a>=15)) then (Mk (decide (a<=17))) else (Mk false)))
def IK(a:Int):Option (Int×Int):=
 bif (decide (a>=8)) then (Ml a (decide (a<=13))) else (Ml a false)
def EI(b:Cpl)(a:Int):Option (AD×Int):=
 bif (a != 0) then (some ((AD.mk 0 ((0,0):Cpl) false []),a)) else (some ((AD.mk 1 b false []),0))
def FL(a:Cpl):Option (Cpl×Int):=
 (FloatKind.f64.format.add a.1 (0:Nat)).bind λb=>(FloatKind.f64.format.add a.2 (0:Nat)).bind λc=>(CJ (b,c)).bind λd=>bif (!d) then (some (((0,0):Cpl),50)) else (some ((b,c),0))
def IL(a:Cpl):Option (Cpl×Int):=
 (CJ a).bind λc=>bif (!c) then (some (((0,0):Cpl),3)) else ((FL (a.1,(Op.negFloat .f64 a.2))).bind λb=>some (b.1,b.2))
def MJ(b c:Cpl)(d:Bool):Option (Cpl×Int):=
 bif d then (some (((0,0):Cpl),3)) else ((cadd b c).bind λe=>(FL e).bind λa=>some (a.1,a.2))
def KH(a b:Cpl):Option (Cpl×Int):=
 (CJ a).bind λc=>bif (!c) then (MJ a b true) else ((CJ b).bind λd=>MJ a b (!d))
def MK(b c:Cpl)(d:Bool):Option (Cpl×Int):=
 bif d then (some (((0,0):Cpl),3)) else ((csub b c).bind λe=>(FL e).bind λa=>some (a.1,a.2))
def KI(a b:Cpl):Option (Cpl×Int):=
 (CJ a).bind λc=>bif (!c) then (MK a b true) else ((CJ b).bind λd=>MK a b (!d))
def ML(b c:Cpl)(d:Bool):Option (Cpl×Int):=
 bif d then (some (((0,0):Cpl),3)) else ((cmul b c).bind λe=>(FL e).bind λa=>some (a.1,a.2))
def KJ(a b:Cpl):Option (Cpl×Int):=
 (CJ a).bind λc=>bif (!c) then (ML a b true) else ((CJ b).bind λd=>ML a b (!d))
def IW(a:Nat):Option Nat:=
 some (((C8 .u64 ((a:Nat):Int) (9223372036854775808:Int))).toNat)
def Kp(a:Nat):Option Bool:=
 some (fgt a 9218868437227405311)
def HZ(a:Nat)(b:Int):Option Bool:=
 bif (b==0) then ((IW a).bind λc=>Kp c) else (bif (decide (b<0)) then (Kp (Op.negFloat .f64 a)) else (Kp a))
def Gu(a:Nat):Option Bool:=
 some (fne a a)
def MM:Option Nat:=
 some (((9221120237041090561:Int)).toNat)
def Em(a:Nat):Option (Nat×Int):=
 (IW a).bind λb=>bif (flt_ b 4503599627370496) then ((FloatKind.f64.format.mul a (4841369599423283200:Nat)).bind λc=>some (c,(-52))) else (some (a,0))
def Lq(b:Nat)(c:Bool):Option (Nat×Int):=
 bif c then (some (b,0)) else ((Em b).bind λa=>(nn (52:Int)).bind λ_=>some (((Md .u64 (C8 .u64 ((a.1:Nat):Int) 9218868437227405312) (4602678819172646912:Int))).toNat,(i64.wrap (a.2+(i64.wrap ((i64.wrap ((i64.wrap ((FB .u64 (shr .u64 ((a.1:Nat):Int) 52) 2047))) - 1023))+1))))))
def Jt(a:Nat):Option (Nat×Int):=
 bif (feq a 0) then (some (a,0)) else ((HZ a (0:Int)).bind λb=>bif b then (Lq a true) else ((Gu a).bind λc=>Lq a c))
def IM(b:Nat):Option (Nat×Int):=
 (Jt b).bind λa=>some (a.1,a.2)
def Hh(a b:Nat):Option Nat:=
 some (((Md .u64 (C8 .u64 ((a:Nat):Int) 9223372036854775808) (FB .u64 ((b:Nat):Int) (9223372036854775808:Int)))).toNat)
def Ng(a:Int):Option Nat:=
 some ((a).toNat)
def Lr(a:Int):Option Nat:=
 bif (decide (a>=0)) then (Ng 9218868437227405312) else (Ng 18442240474082181120)
def Ls(a:(Nat×Int))(b:Int)(c:Nat):Option Nat:=
 (nn (52:Int)).bind λ_=>(FloatKind.f64.format.mul c (((Md .u64 (C8 .u64 ((a.1:Nat):Int) 9218868437227405312) (shl .u64 (IntKind.u64.wrap ((i64.wrap (b+1023)))) (52:Int)))).toNat)).bind λd=>some d
def Lt(c:Nat)(b:Int)(d:Bool):Option Nat:=
 bif d then (some c) else ((Em c).bind λa=>(nn (52:Int)).bind λ_=>bif (decide ((i64.wrap ((i64.wrap (b+a.2))+(i64.wrap ((FB .i64 (i64.wrap ((shr .u64 ((a.1:Nat):Int) 52))) 2047) - 1023))))< (-1075))) then ((Hh 0 a.1).bind λe=>some e) else (bif (decide ((i64.wrap ((i64.wrap (b+a.2))+(i64.wrap ((FB .i64 (i64.wrap ((shr .u64 ((a.1:Nat):Int) 52))) 2047) - 1023))))>1023)) then (bif (flt_ a.1 0) then ((Lr (-1:Int)).bind λf=>some f) else ((Lr (1:Int)).bind λg=>some g)) else (bif (decide ((i64.wrap ((i64.wrap (b+a.2))+(i64.wrap ((FB .i64 (i64.wrap ((shr .u64 ((a.1:Nat):Int) 52))) 2047) - 1023))))< (-1022))) then (Ls a (i64.wrap ((i64.wrap ((i64.wrap (b+a.2))+(i64.wrap ((FB .i64 (i64.wrap ((shr .u64 ((a.1:Nat):Int) 52))) 2047) - 1023))))+53)) 4368491638549381120) else (Ls a (i64.wrap ((i64.wrap (b+a.2))+(i64.wrap ((FB .i64 (i64.wrap ((shr .u64 ((a.1:Nat):Int) 52))) 2047) - 1023)))) 4607182418800017408))))
def Ju(a:Nat)(b:Int):Option Nat:=
 bif (feq a 0) then (some a) else ((HZ a (0:Int)).bind λc=>bif c then (Lt a b true) else ((Gu a).bind λd=>Lt a b d))
def I4(a:Nat)(b:Int):Option Nat:=
 (Ju a b).bind λc=>some c
def LC(a:Nat)(b:(Nat×Int))(c:Nat)(d:(Nat->Option Nat))(e:Int):Option Nat:=
 (I4 a (i64.wrap (e - b.2))).bind λf=>(FloatKind.f64.format.sub c f).bind λg=>d g
def Nh(a:Nat):Option Nat:=
 some a
def MN(f b:Nat)(c:(Nat×Int))(e:Nat->Option Nat)(a:Nat):Option Nat:=
 bif (fge a b) then ((IM a).bind λd=>bif (flt_ d.1 c.1) then (LC b c a e (i64.wrap (d.2 - 1))) else (LC b c a e d.2)) else (bif (flt_ f 0) then (Nh (Op.negFloat .f64 a)) else (Nh a))
def KT(a b:Nat)(c:(Nat×Int)):Nat->Nat->Option Nat
 |0=>λ_=>none
 |k+1=>MN a b c (KT a b c k)
def MC(a b c:Nat)(d:(Nat×Int))(e:Nat):Option Nat:=
 KT b c d a e
def LD(c a e:Nat)(f:Bool):Option Nat:=
 bif f then ((MM).bind λg=>some g) else ((IW e).bind λb=>(IM b).bind λd=>bif (flt_ a 0) then (MC c a b d (Op.negFloat .f64 a)) else (MC c a b d a))
def Lu(c a b:Nat):Option Nat:=
 bif (feq b 0) then (LD c a b true) else ((HZ a (0:Int)).bind λd=>bif d then (LD c a b true) else ((Gu a).bind λe=>bif e then (LD c a b true) else ((Gu b).bind λf=>LD c a b f)))
def Kb(a b c:Nat):Option Nat:=
 (Lu a b c).bind λd=>some d
def MO(a b:Cpl)(d:Bool):Option (Cpl×Int):=
 bif d then (some (((0,0):Cpl),51)) else ((FloatKind.f64.format.div a.1 b.1).bind λe=>(FloatKind.f64.format.div a.2 b.1).bind λf=>(FL (e,f)).bind λc=>some (c.1,c.2))
def MP(d:Nat)(e a:Cpl)(f:Bool):Option (Cpl×Int):=
 bif f then (some (((0,0):Cpl),3)) else (bif (ceq a ((0,0):Cpl)) then (some (((0,0):Cpl),51)) else ((cmul e (a.1,(Op.negFloat .f64 a.2))).bind λb=>(cmul a (a.1,(Op.negFloat .f64 a.2))).bind λc=>(Kb d b.1 c.1).bind λg=>bif (fne g 0) then (MO b c true) else ((Kb d b.2 c.1).bind λh=>MO b c (fne h 0))))
def KK(c:Nat)(a b:Cpl):Option (Cpl×Int):=
 (CJ a).bind λd=>bif (!d) then (MP c a b true) else ((CJ b).bind λe=>MP c a b (!e))
def Lv(a b:Cpl)(c:Bool):Option (Bool×Int):=
 bif c then (some (false,3)) else (bif (fne a.1 b.1) then (some ((flt_ a.1 b.1),0)) else (some ((flt_ a.2 b.2),0)))
def I5(a b:Cpl):Option (Bool×Int):=
 (CJ a).bind λc=>bif (!c) then (Lv a b true) else ((CJ b).bind λd=>Lv a b (!d))
def Kc(m:Nat)(c:Int)(a b:Cpl):Option (AD×Int):=
 bif (c==8) then ((KH a b).bind λd=>(EI d.1 d.2).bind λe=>some (e.1,e.2)) else (bif (c==9) then ((KI a b).bind λf=>(EI f.1 f.2).bind λg=>some (g.1,g.2)) else (bif (c==10) then ((KJ a b).bind λh=>(EI h.1 h.2).bind λi=>some (i.1,i.2)) else (bif (c==11) then ((KK m a b).bind λj=>(EI j.1 j.2).bind λk=>some (k.1,k.2)) else (bif (c==12) then (some ((AD.mk 2 ((0,0):Cpl) (ceq a b) []),0)) else ((I5 a b).bind λl=>some ((AD.mk 2 ((0,0):Cpl) l.1 []),l.2))))))
def Ik(a:Int)(b:(Int->Option (AD×Int)))(c:Bool):Option (AD×Int):=
 bif c then (some ((AD.mk 0 ((0,0):Cpl) false []),3)) else (b (i64.wrap (a+1)))
def Cv(e:Nat)(a:Int)(c:(List AD))(m:(Int×Int))(f:Int->Option (AD×Int))(d:Int):Option (AD×Int):=
 bif (decide (d< (c.length:Int))) then ((idx c d).bind λg=>bif (g.type_ != m.2) then (Ik d f true) else ((DU e g).bind λn=>Ik d f (n != 0))) else ((idx c (0:Int)).bind λb=>bif (a==14) then (some ((AD.mk 2 ((0,0):Cpl) (!b.bool) []),0)) else (bif (a==15) then ((EI (b.num.1,0) (0:Int)).bind λh=>some (h.1,h.2)) else (bif (a==16) then ((EI (b.num.2,0) (0:Int)).bind λi=>some (i.1,i.2)) else (bif (a==17) then ((IL b.num).bind λj=>(EI j.1 j.2).bind λk=>some (k.1,k.2)) else ((idx c (1:Int)).bind λo=>(Kc e a b.num o.num).bind λl=>some (l.1,l.2))))))
def Dp(a:Nat)(b:Int)(c:(List AD))(d:(Int×Int)):Nat->Int->Option (AD×Int)
 |0=>λ_=>none
 |k+1=>Cv a b c d (Dp a b c d k)
def Mm(a:Nat)(b:Int)(c:(List AD))(d:(Int×Int))(e:Bool):Option (AD×Int):=
 bif e then (some ((AD.mk 0 ((0,0):Cpl) false []),3)) else (Dp a b c d a 0)
def EW(d:Nat)(b:Int)(c:(List AD)):Option (AD×Int):=
 (IK b).bind λa=>bif (a.1==0) then (Mm d b c a true) else (Mm d b c a ((c.length:Int) != a.1))
structure Ad where
 mean_run_look:(List AN)->Int->Int->As->AE->Nm->Option ((Except Int Ax)×(List AN)×Int×Int)
 mean_later_1:(List AN)->Int->Int->As->AE->Nm->Option ((Except Int Ax)×(List AN)×Int×Int)
 mean_callth:(List AN)->Int->Int->As->Th->Option ((Except Int Ax)×(List AN)×Int×Int)
 mean_run_parts:(List AN)->Int->Int->As->AE->Nm->Option ((Except Int Ax)×(List AN)×Int×Int)
def Lb(b:Ad)(c:(List AN))(d e:Int)(f:As)(g:AE)(h:Nm):Option ((Except Int Ax)×(List AN)×Int×Int):=
 (b.mean_run_parts c (i64.wrap (d+1)) e f g h).bind λa=>J1 a.1 (λi=>some ((Except.error i:Except Int Ax),a.2.1,a.2.2.1,a.2.2.2)) λj=>some ((Except.ok j:Except Int Ax),a.2.1,a.2.2.1,a.2.2.2)
def Jh(e:Ad)(f:(List AN))(g h:Int)(i:As)(j:AE)(k:Nm)(a:AN)(l:Nm->Int->Option ((Except Int Ax)×(List AN)×Int×Int))(d:Nm)(c:Int):Option ((Except Int Ax)×(List AN)×Int×Int):=
 bif (decide (c< (a.params.length:Int))) then ((idx a.params c).bind λm=>(idx j.args c).bind λn=>(Js n).bind λo=>l (Nm.bind m.name (Th.later o k) d) (i64.wrap (c+1))) else ((e.mean_run_look f (i64.wrap (g+1)) h i (AE.mk a.body.op a.body.name a.body.tail a.body.type_ a.body.num a.body.args a.body.at_) d).bind λb=>J1 b.1 (λp=>some ((Except.error p:Except Int Ax),b.2.1,b.2.2.1,b.2.2.2)) λq=>some ((Except.ok q:Except Int Ax),b.2.1,b.2.2.1,b.2.2.2))
def GX(a:Ad)(b:(List AN))(c d:Int)(e:As)(f:AE)(g:Nm)(h:AN):Nat->Nm->Int->Option ((Except Int Ax)×(List AN)×Int×Int)
 |0=>λ_ _=>none
 |k+1=>Jh a b c d e f g h (GX a b c d e f g h k)
def Ck(h:Ad)(i:Nat)(b:(List AN))(c d:Int)(g:As)(a:AE)(f:Nm):Option ((Except Int Ax)×(List AN)×Int×Int):=
 bif (a.op==1) then (some ((Except.ok (Ax.mk (AD.mk 1 a.num false []) Th.nil Th.nil):Except Int Ax),b,(i64.wrap (c+1)),d)) else (bif (a.op==2) then (some ((Except.ok (Ax.mk (AD.mk 2 ((0,0):Cpl) true []) Th.nil Th.nil):Except Int Ax),b,(i64.wrap (c+1)),d)) else (bif (a.op==3) then (some ((Except.ok (Ax.mk (AD.mk 2 ((0,0):Cpl) false []) Th.nil Th.nil):Except Int Ax),b,(i64.wrap (c+1)),d)) else (bif (a.op==4) then (some ((Except.ok (Ax.mk (AD.mk 3 ((0,0):Cpl) false []) Th.nil Th.nil):Except Int Ax),b,(i64.wrap (c+1)),d)) else (bif (a.op==5) then (some ((Except.error 52:Except Int Ax),b,(i64.wrap (c+1)),d)) else (bif (a.op==6) then ((Dr i f a.name).bind λj=>(h.mean_callth b (i64.wrap (c+1)) d g j).bind λe=>J1 e.1 (λk=>some ((Except.error k:Except Int Ax),e.2.1,e.2.2.1,e.2.2.2)) λl=>some ((Except.ok l:Except Int Ax),e.2.1,e.2.2.1,e.2.2.2)) else (bif (a.op==7) then ((idx b (Cz g a.name)).bind λm=>GX h b c d g a f m i Nm.nil 0) else (bif (a.op==18) then ((idx a.args (0:Int)).bind λn=>(idx a.args (1:Int)).bind λo=>(Js n).bind λp=>(Js o).bind λq=>some ((Except.ok (Ax.mk (AD.mk 0 ((0,0):Cpl) false []) (Th.later p f) (Th.later q f)):Except Int Ax),b,(i64.wrap (c+1)),d)) else (Lb h b c d g a f))))))))
def BH(d:Ad)(e:Nat)(c:(List AN))(a b:Int)(f:As)(g:AE)(h:Nm):Option ((Except Int Ax)×(List AN)×Int×Int):=
 bif (decide (a>=b)) then (some ((Except.error 60:Except Int Ax),c,a,b)) else (Ck d e c a b f g h)
def MQ(b:Ad)(_N:Nat)(c:(List AN))(d e:Int)(f:As)(g:AE)(h:Nm):Option ((Except Int Ax)×(List AN)×Int×Int):=
 (b.mean_run_look c d e f g h).bind λa=>J1 a.1 (λi=>some ((Except.error i:Except Int Ax),a.2.1,a.2.2.1,a.2.2.2)) λj=>some ((Except.ok j:Except Int Ax),a.2.1,a.2.2.1,a.2.2.2)
def Lw(d:Ad)(_N:Nat)(a:(List AN))(b c:Int)(e:As)(f:Th):Option ((Except Int Ax)×(List AN)×Int×Int):=
 match f with
 | .nil=>none
 | .done p h t=>(Jg ⟨p,h,t⟩).bind λr=>some ((Except.ok r:Except Int Ax),a,b,c)
 | .later g env=>d.mean_later_1 a b c e g env
def MR(a:(List AN))(b c:Int)(d:(AD×Int)):Option ((Except Int Ax)×(List AN)×Int×Int):=
 some ((Except.ok (Ax.mk d.1 Th.nil Th.nil):Except Int Ax),a,b,c)
def Bb(j:Ad)(k:Nat)(l:As)(c:AE)(m:Nm)(n:(List AD)->Int->(List AN)->Int->Int->Option ((Except Int Ax)×(List AN)×Int×Int))(d:(List AD))(e:Int)(f:(List AN))(g h:Int):Option ((Except Int Ax)×(List AN)×Int×Int):=
 bif (decide (e< (c.args.length:Int))) then ((idx c.args e).bind λo=>(j.mean_run_look f g h l o m).bind λb=>J1 b.1 (λp=>some ((Except.error p:Except Int Ax),b.2.1,b.2.2.1,b.2.2.2)) λa=>(Gd 56 d ([(AD.mk a.plain.type_ a.plain.num a.plain.bool a.plain.list)]:List AD)).bind λ_=>n (d++([(AD.mk a.plain.type_ a.plain.num a.plain.bool a.plain.list)]:List AD)) (i64.wrap (e+1)) b.2.1 b.2.2.1 b.2.2.2) else ((EW k c.op d).bind λi=>bif (i.2 != 0) then (some ((Except.error i.2:Except Int Ax),f,g,h)) else (MR f g h i))
def DZ(a:Ad)(b:Nat)(c:As)(d:AE)(e:Nm):Nat->(List AD)->Int->(List AN)->Int->Int->Option ((Except Int Ax)×(List AN)×Int×Int)
 |0=>λ_ _ _ _ _=>none
 |k+1=>Bb a b c d e (DZ a b c d e k)
def A9(b:Ad)(r:Nat)(n:(List AN))(o p:Int)(c:As)(a:AE)(d:Nm):Option ((Except Int Ax)×(List AN)×Int×Int):=
 bif (a.op==19) then ((idx a.args (0:Int)).bind λs=>(b.mean_run_look n o p c s d).bind λe=>J1 e.1 (λt=>some ((Except.error t:Except Int Ax),e.2.1,e.2.2.1,e.2.2.2)) λu=>bif u.plain.bool then ((idx a.args (1:Int)).bind λv=>(b.mean_run_look e.2.1 e.2.2.1 e.2.2.2 c v d).bind λg=>J1 g.1 (λw=>some ((Except.error w:Except Int Ax),g.2.1,g.2.2.1,g.2.2.2)) λx=>some ((Except.ok x:Except Int Ax),g.2.1,g.2.2.1,g.2.2.2)) else ((idx a.args (2:Int)).bind λy=>(b.mean_run_look e.2.1 e.2.2.1 e.2.2.2 c y d).bind λh=>J1 h.1 (λz=>some ((Except.error z:Except Int Ax),h.2.1,h.2.2.1,h.2.2.2)) λaa=>some ((Except.ok aa:Except Int Ax),h.2.1,h.2.2.1,h.2.2.2))) else (bif (a.op==20) then ((idx a.args (0:Int)).bind λab=>(b.mean_run_look n o p c ab d).bind λf=>J1 f.1 (λac=>some ((Except.error ac:Except Int Ax),f.2.1,f.2.2.1,f.2.2.2)) λq=>bif (Th.isNil q.head) then ((idx a.args (1:Int)).bind λad=>(b.mean_run_look f.2.1 f.2.2.1 f.2.2.2 c ad d).bind λi=>J1 i.1 (λae=>some ((Except.error ae:Except Int Ax),i.2.1,i.2.2.1,i.2.2.2)) λaf=>some ((Except.ok af:Except Int Ax),i.2.1,i.2.2.1,i.2.2.2)) else ((idx a.args (2:Int)).bind λag=>(b.mean_run_look f.2.1 f.2.2.1 f.2.2.2 c ag (Nm.bind a.tail q.tail (Nm.bind a.name q.head d))).bind λj=>J1 j.1 (λah=>some ((Except.error ah:Except Int Ax),j.2.1,j.2.2.1,j.2.2.2)) λai=>some ((Except.ok ai:Except Int Ax),j.2.1,j.2.2.1,j.2.2.2))) else (bif (a.op==21) then ((idx a.args (0:Int)).bind λaj=>(Js aj).bind λak=>(idx a.args (1:Int)).bind λal=>(b.mean_run_look n o p c al (Nm.letrec a.name ak d)).bind λk=>J1 k.1 (λam=>some ((Except.error am:Except Int Ax),k.2.1,k.2.2.1,k.2.2.2)) λan=>some ((Except.ok an:Except Int Ax),k.2.1,k.2.2.1,k.2.2.2)) else (bif (a.op==22) then ((idx a.args (0:Int)).bind λao=>(b.mean_run_look n o p c ao d).bind λl=>J1 l.1 (λap=>some ((Except.error ap:Except Int Ax),l.2.1,l.2.2.1,l.2.2.2)) λaq=>(idx a.args (1:Int)).bind λar=>(Iq aq).bind λau=>(b.mean_run_look l.2.1 l.2.2.1 l.2.2.2 c ar (Nm.bind a.name au d)).bind λm=>J1 m.1 (λav=>some ((Except.error av:Except Int Ax),m.2.1,m.2.2.1,m.2.2.2)) λaw=>some ((Except.ok aw:Except Int Ax),m.2.1,m.2.2.1,m.2.2.2)) else (DZ b r c a d r ([]:List AD) 0 n o p))))
def Ad.at:Nat->Ad
 |0=>⟨λ_ _ _ _ _ _=>none,λ_ _ _ _ _ _=>none,λ_ _ _ _ _=>none,λ_ _ _ _ _ _=>none⟩
 |n+1=>⟨BH (Ad.at n) n,MQ (Ad.at n) n,Lw (Ad.at n) n,A9 (Ad.at n) n⟩
def mean_run_look(a:Nat):(List AN)->Int->Int->As->AE->Nm->Option ((Except Int Ax)×(List AN)×Int×Int):=(Ad.at a).mean_run_look
def mean_later_1(a:Nat):(List AN)->Int->Int->As->AE->Nm->Option ((Except Int Ax)×(List AN)×Int×Int):=(Ad.at a).mean_later_1
def mean_callth(a:Nat):(List AN)->Int->Int->As->Th->Option ((Except Int Ax)×(List AN)×Int×Int):=(Ad.at a).mean_callth
def mean_run_parts(a:Nat):(List AN)->Int->Int->As->AE->Nm->Option ((Except Int Ax)×(List AN)×Int×Int):=(Ad.at a).mean_run_parts
def Cl(e:Nat)(f:As)(l:(List AN)->Int->Int->Int->Cpl->Bool->(List Cpl)->Th->Th->(List Cpl)->Option ((Except Int AD)×(List AN)×Int×Int))(g:(List AN))(h i _x290:Int)(_x291:Cpl)(_x292:Bool)(_x293:(List Cpl))(j m:Th)(d:(List Cpl)):Option ((Except Int AD)×(List AN)×Int×Int):=
 bif (!(Th.isNil j)) then ((mean_callth e g h i f j).bind λa=>J1 a.1 (λn=>some ((Except.error n:Except Int AD),a.2.1,a.2.2.1,a.2.2.2)) λk=>(Gd 16 d ([k.plain.num]:List Cpl)).bind λ_=>(mean_callth e a.2.1 a.2.2.1 a.2.2.2 f m).bind λb=>J1 b.1 (λo=>some ((Except.error o:Except Int AD),b.2.1,b.2.2.1,b.2.2.2)) λc=>l b.2.1 b.2.2.1 b.2.2.2 c.plain.type_ c.plain.num c.plain.bool c.plain.list c.head c.tail (d++([k.plain.num]:List Cpl))) else (some ((Except.ok (AD.mk 3 ((0,0):Cpl) false d):Except Int AD),g,h,i))
def D5(a:Nat)(b:As):Nat->(List AN)->Int->Int->Int->Cpl->Bool->(List Cpl)->Th->Th->(List Cpl)->Option ((Except Int AD)×(List AN)×Int×Int)
 |0=>λ_ _ _ _ _ _ _ _ _ _=>none
 |k+1=>Cl a b (D5 a b k)
def GA(b:Nat)(c:(List AN))(d e:Int)(f:As)(a:Ax):Option ((Except Int AD)×(List AN)×Int×Int):=
 bif (Th.isNil a.head) then ((W9 a.plain.list).bind λ_=>some ((Except.ok (AD.mk a.plain.type_ a.plain.num a.plain.bool a.plain.list):Except Int AD),c,d,e)) else (D5 b f b c d e a.plain.type_ a.plain.num a.plain.bool a.plain.list a.head a.tail ([]:List Cpl))
def MS(b:Nat)(c:AN)(d:Nm)(a:Int)(e:(Nm->Int->Option BK))(f:AD)(g:Bool):Option BK:=
 bif g then (some (BK.mk 40 (AD.mk 0 ((0,0):Cpl) false []) 0 0 0 0)) else ((idx c.params a).bind λh=>(I3 b f).bind λi=>e (Nm.bind h.name i d) (i64.wrap (a+1)))
def GB(b:Nat)(l:AL)(i:(List AD))(e:Int)(j:As)(a:AN)(k:Nm->Int->Option BK)(g:Nm)(c:Int):Option BK:=
 bif (decide (c< (i.length:Int))) then ((idx i c).bind λf=>(idx a.params c).bind λm=>bif (f.type_ != m.type_) then (MS b a g c k f true) else ((DU b f).bind λn=>MS b a g c k f (n != 0))) else ((mean_run_look b l.funcs 0 (if 16384< (if e<0 then 0 else e) then 16384 else (if e<0 then 0 else e)) j (AE.mk a.body.op a.body.name a.body.tail a.body.type_ a.body.num a.body.args a.body.at_) g).bind λd=>J1 d.1 (λo=>some (BK.mk o (AD.mk 0 ((0,0):Cpl) false []) d.2.2.1 0 0 0)) λp=>(GA b d.2.1 d.2.2.1 d.2.2.2 j p).bind λh=>J1 h.1 (λq=>some (BK.mk q (AD.mk 0 ((0,0):Cpl) false []) h.2.2.1 0 0 0)) λr=>some (BK.mk 0 r h.2.2.1 0 0 0))
def E7(a:Nat)(b:AL)(c:(List AD))(d:Int)(e:As)(f:AN):Nat->Nm->Int->Option BK
 |0=>λ_ _=>none
 |k+1=>GB a b c d e f (E7 a b c d e f k)
def Jv(d:Nat)(a:AL)(e:Bts)(f:(List AD))(h:Int)(i:Int->As->Option BK)(b:Int)(c:As):Option BK:=
 bif (decide (b< (a.funcs.length:Int))) then ((idx a.funcs b).bind λj=>i (i64.wrap (b+1)) (Mc j.name b c)) else (bif (!(Oj c e)) then (some (BK.mk 32 (AD.mk 0 ((0,0):Cpl) false []) 0 0 0 0)) else ((idx a.funcs (Cz c e)).bind λg=>bif ((f.length:Int) != (g.params.length:Int)) then (some (BK.mk 40 (AD.mk 0 ((0,0):Cpl) false []) 0 0 0 0)) else (E7 d a f h c g d Nm.nil 0)))
def Ji(a:Nat)(b:AL)(c:Bts)(d:(List AD))(e:Int):Nat->Int->As->Option BK
 |0=>λ_ _=>none
 |k+1=>Jv a b c d e (Ji a b c d e k)
def Ha(a:Nat)(b:AL)(c:Bts)(d:(List AD))(e:Int):Option BK:=
 (HH a b).bind λf=>bif (f.why != 0) then (some (BK.mk 3 (AD.mk 0 ((0,0):Cpl) false []) 0 0 0 0)) else (Ji a b c d e a 0 ([]:As))
def Gv(a:Bool):Option Bool:=
 some a
def H5(c:Nat):Option Bool:=
 (CH c (Eh.mk ([(102:UInt8),(40:UInt8),(120:UInt8),(32:UInt8),(78:UInt8),(41:UInt8),(58:UInt8),(78:UInt8),(61:UInt8),(120:UInt8),(43:UInt8),(120:UInt8),(59:UInt8),(103:UInt8),(40:UInt8),(41:UInt8),(58:UInt8),(78:UInt8),(61:UInt8),(102:UInt8),(40:UInt8),(49:UInt8),(43:UInt8),(50:UInt8),(41:UInt8),(59:UInt8)]:List UInt8) ([103]:List UInt8) ([]:List UInt8))).bind λa=>(Ha c a.1 ([103]:List UInt8) a.2.1 (99:Int)).bind λb=>(Ha c a.1 ([103]:List UInt8) a.2.1 (9:Int)).bind λd=>bif a.2.2 then (bif (b.why==0) then (bif (b.value.type_==1) then (bif (ceq b.value.num ((4618441417868443648,0):Cpl)) then (bif (b.moves==10) then (bif (d.why==60) then (Gv (d.moves==9)) else (Gv false)) else (Gv false)) else (Gv false)) else (Gv false)) else (Gv false)) else (Gv false)
def LE(b c:AD)(d:Int->Option Bool)(a:Int):Option Bool:=
 bif (decide (a< (b.list.length:Int))) then ((idx b.list a).bind λe=>(idx c.list a).bind λf=>bif (cne e f) then (some false) else (d (i64.wrap (a+1)))) else (some true)
def Jw(a b:AD):Nat->Int->Option Bool
 |0=>λ_=>none
 |k+1=>LE a b (Jw a b k)
def Hi(a:Nat)(b c:AD)(d:Bool):Option Bool:=
 bif d then (some false) else (Jw b c a 0)
def IN(c:Nat)(a b:AD):Option Bool:=
 (CO c a).bind λd=>bif (!d) then (Hi c a b true) else ((CO c b).bind λe=>bif (!e) then (Hi c a b true) else (bif (a.type_ != b.type_) then (Hi c a b true) else (bif (cne a.num b.num) then (Hi c a b true) else (bif (!(a.bool==b.bool)) then (Hi c a b true) else (Hi c a b ((a.list.length:Int) != (b.list.length:Int)))))))
structure BV where
 ref04_SameExpr:AE->AE->Bool->Option Bool
def I6(c:BV)(b d:AE)(e:Bool)(f:Int->Option Bool)(a:Int):Option Bool:=
 bif (decide (a< (b.args.length:Int))) then ((idx b.args a).bind λg=>(idx d.args a).bind λh=>(c.ref04_SameExpr g h e).bind λi=>bif (!i) then (some false) else (f (i64.wrap (a+1)))) else (some true)
def Gw(a:BV)(b c:AE)(d:Bool):Nat->Int->Option Bool
 |0=>λ_=>none
 |k+1=>I6 a b c d (Gw a b c d k)
def D6(a:BV)(b:Nat)(c d:AE)(e f:Bool):Option Bool:=
 bif f then (some false) else (Gw a c d e b 0)
def Ir(d:BV)(e:Nat)(a b:AE)(c:Bool):Option Bool:=
 bif (a.op != b.op) then (D6 d e a b c true) else (bif (!(a.name==b.name)) then (D6 d e a b c true) else (bif (!(a.tail==b.tail)) then (D6 d e a b c true) else (bif (a.type_ != b.type_) then (D6 d e a b c true) else (bif (cne a.num b.num) then (D6 d e a b c true) else (bif ((a.args.length:Int) != (b.args.length:Int)) then (D6 d e a b c true) else (bif c then (D6 d e a b c (a.at_ != b.at_)) else (D6 d e a b c false)))))))
def BV.at:Nat->BV
 |0=>⟨λ_ _ _=>none⟩
 |n+1=>⟨Ir (BV.at n) n⟩
def ref04_SameExpr(a:Nat):AE->AE->Bool->Option Bool:=(BV.at a).ref04_SameExpr
def Gy(a:Int)(b:(Int->Option Bool))(c:Bool):Option Bool:=
 bif c then (some false) else (b (i64.wrap (a+1)))
def I7(h:Nat)(a b:AN)(g:Bool)(d:Int->Option Bool)(c:Int):Option Bool:=
 bif (decide (c< (a.params.length:Int))) then ((idx a.params c).bind λe=>(idx b.params c).bind λf=>bif (!(e.name==f.name)) then (Gy c d true) else (bif (e.type_ != f.type_) then (Gy c d true) else (bif g then (Gy c d (e.at_ != f.at_)) else (Gy c d false)))) else ((ref04_SameExpr h (AE.mk a.body.op a.body.name a.body.tail a.body.type_ a.body.num a.body.args a.body.at_) (AE.mk b.body.op b.body.name b.body.tail b.body.type_ b.body.num b.body.args b.body.at_) g).bind λi=>some i)
def Gz(a:Nat)(b c:AN)(d:Bool):Nat->Int->Option Bool
 |0=>λ_=>none
 |k+1=>I7 a b c d (Gz a b c d k)
def F0(a:Nat)(b c:AN)(d e:Bool):Option Bool:=
 bif e then (some false) else (Gz a b c d a 0)
def FM(d:Nat)(a b:AN)(c:Bool):Option Bool:=
 bif (!(a.name==b.name)) then (F0 d a b c true) else (bif (a.type_ != b.type_) then (F0 d a b c true) else (bif ((a.params.length:Int) != (b.params.length:Int)) then (F0 d a b c true) else (bif c then (F0 d a b c (a.at_ != b.at_)) else (F0 d a b c false))))
def LF(c:Nat)(b d:AL)(e:Bool)(f:Int->Option Bool)(a:Int):Option Bool:=
 bif (decide (a< (b.funcs.length:Int))) then ((idx b.funcs a).bind λg=>(idx d.funcs a).bind λh=>(FM c g h e).bind λi=>bif (!i) then (some false) else (f (i64.wrap (a+1)))) else (some true)
def Jx(a:Nat)(b c:AL)(d:Bool):Nat->Int->Option Bool
 |0=>λ_=>none
 |k+1=>LF a b c d (Jx a b c d k)
def I8(a:Nat)(b c:AL)(d:Bool):Option Bool:=
 bif ((b.funcs.length:Int) != (c.funcs.length:Int)) then (some false) else (Jx a b c d a 0)
def Ke(b:AL)(c:Bts)(d:Int->Option Int)(a:Int):Option Int:=
 bif (decide (a< (b.funcs.length:Int))) then ((idx b.funcs a).bind λe=>bif (e.name==c) then (some a) else (d (i64.wrap (a+1)))) else (some (-1))
def I9(a:AL)(b:Bts):Nat->Int->Option Int
 |0=>λ_=>none
 |k+1=>Ke a b (I9 a b k)
def HJ(a:Nat)(b:AL)(c:Bts):Option Int:=
 I9 b c a 0
def Ly(b:(List Bts))(c:Bts)(d:Int->Option Bool)(a:Int):Option Bool:=
 bif (decide (a< (b.length:Int))) then ((idx b a).bind λe=>bif (e==c) then (some true) else (d (i64.wrap (a+1)))) else (some false)
def KW(a:(List Bts))(b:Bts):Nat->Int->Option Bool
 |0=>λ_=>none
 |k+1=>Ly a b (KW a b k)
def JS(a:Nat)(b:(List Bts))(c:Bts):Option Bool:=
 KW b c a 0
def MT(a:AE)(b:Bool):Option ((List Bts)):=
 bif b then (some ([a.name,a.tail]:List Bts)) else (some [])
def LG(a:AE)(b:Int)(c:Bool):Option ((List Bts)):=
 bif c then (some ([a.name]:List Bts)) else (bif (a.op==20) then (MT a (b==2)) else (MT a false))
def Il(a:AE)(b:Int):Option ((List Bts)):=
 bif (a.op==21) then (LG a b (a.op==21)) else (bif (a.op==22) then (LG a b (b==1)) else (LG a b false))
def JA(a:(List Bts))(b:(List Bts)):Option ((List Bts)):=
 (Gd 16 ([]:List Bts) a).bind λ_=>(Gd 16 (([]:List Bts)++a) b).bind λ_=>some ((([]:List Bts)++a)++b)
structure Bh where
 ref06_seen:AE->(List Bts)->Option ((List BF))
def JB(e:Bh)(b:AE)(f:(List Bts))(g:(List BF)->Int->Option ((List BF)))(c:(List BF))(a:Int):Option ((List BF)):=
 bif (decide (a< (b.args.length:Int))) then ((Il b a).bind λh=>(JA f h).bind λi=>(idx b.args a).bind λj=>(e.ref06_seen j i).bind λd=>(Gd 104 c d).bind λ_=>g (c++d) (i64.wrap (a+1))) else (some c)
def Im(a:Bh)(b:AE)(c:(List Bts)):Nat->(List BF)->Int->Option ((List BF))
 |0=>λ_ _=>none
 |k+1=>JB a b c (Im a b c k)
def Jy(a:Bh)(b:Nat)(c:AE)(d:(List Bts))(e:(List BF)):Option ((List BF)):=
 Im a c d b e 0
def Lz(d:Bh)(b:Nat)(a:AE)(c:(List Bts))(f:Bool):Option ((List BF)):=
 bif f then (bif (a.op==6) then ((JS b c a.name).bind λe=>(Gd 104 ([]:List BF) ([(BF.mk a (!e))]:List BF)).bind λ_=>Jy d b a c (([]:List BF)++([(BF.mk a (!e))]:List BF))) else ((Gd 104 ([]:List BF) ([(BF.mk a false)]:List BF)).bind λ_=>Jy d b a c (([]:List BF)++([(BF.mk a false)]:List BF)))) else (Jy d b a c ([]:List BF))
def Lc(b:Bh)(c:Nat)(a:AE)(d:(List Bts)):Option ((List BF)):=
 bif (a.op==6) then (Lz b c a d true) else (Lz b c a d (a.op==7))
def Bh.at:Nat->Bh
 |0=>⟨λ_ _=>none⟩
 |n+1=>⟨Lc (Bh.at n) n⟩
def ref06_seen(a:Nat):AE->(List Bts)->Option ((List BF)):=(Bh.at a).ref06_seen
def JT(d:AN)(a:(List Bts))(b:Int)(e:((List AF)->(List Bts)->Int->Option ((List AF))))(f:(List AF)):Option ((List AF)):=
 (idx d.params b).bind λc=>(Gd 16 a ([c.name]:List Bts)).bind λ_=>e f (a++([c.name]:List Bts)) (i64.wrap (b+1))
def GE(a:Int)(b:((List AF)->Int->Option ((List AF))))(c:(List AF)):Option ((List AF)):=
 b c (i64.wrap (a+1))
def GG(g:Nat)(e:AL)(c:Int)(d:((List AF)->Int->Option ((List AF))))(a:BF)(b:(List AF)):Option ((List AF)):=
 bif (a.e.op != 7) then (GE c d b) else ((HJ g e a.e.name).bind λf=>bif (decide (f<0)) then ((Gd 16 b ([(AF.mk 32 a.e.at_)]:List AF)).bind λ_=>GE c d (b++([(AF.mk 32 a.e.at_)]:List AF))) else ((idx e.funcs f).bind λh=>bif ((h.params.length:Int) != (a.e.args.length:Int)) then ((Gd 16 b ([(AF.mk 33 a.e.at_)]:List AF)).bind λ_=>GE c d (b++([(AF.mk 33 a.e.at_)]:List AF))) else (GE c d b)))
def Fm(d:Nat)(e:AL)(h:Int)(i:((List AF)->Int->Option ((List AF))))(f:(List BF))(g:(List AF)->Int->Option ((List AF)))(b:(List AF))(c:Int):Option ((List AF)):=
 bif (decide (c< (f.length:Int))) then ((idx f c).bind λa=>bif a.free then ((Gd 16 b ([(AF.mk 31 a.e.at_)]:List AF)).bind λ_=>GG d e c g a (b++([(AF.mk 31 a.e.at_)]:List AF))) else (GG d e c g a b)) else (i b (i64.wrap (h+1)))
def EU(a:Nat)(b:AL)(c:Int)(d:((List AF)->Int->Option ((List AF))))(e:(List BF)):Nat->(List AF)->Int->Option ((List AF))
 |0=>λ_ _=>none
 |k+1=>Fm a b c d e (EU a b c d e k)
def Fn(b:Nat)(h:AL)(i:Int)(j:((List AF)->Int->Option ((List AF))))(a:AN)(g:(List AF)->(List Bts)->Int->Option ((List AF)))(c:(List AF))(d:(List Bts))(e:Int):Option ((List AF)):=
 bif (decide (e< (a.params.length:Int))) then ((idx a.params e).bind λf=>(JS b d f.name).bind λk=>bif k then ((Gd 16 c ([(AF.mk 30 f.at_)]:List AF)).bind λ_=>JT a d e g (c++([(AF.mk 30 f.at_)]:List AF))) else (JT a d e g c)) else ((ref06_seen b (AE.mk a.body.op a.body.name a.body.tail a.body.type_ a.body.num a.body.args a.body.at_) d).bind λl=>EU b h i j l b c 0)
def En(a:Nat)(b:AL)(c:Int)(d:((List AF)->Int->Option ((List AF))))(e:AN):Nat->(List AF)->(List Bts)->Int->Option ((List AF))
 |0=>λ_ _ _=>none
 |k+1=>Fn a b c d e (En a b c d e k)
def JU(a:Nat)(b:AL)(c:Int)(d:((List AF)->Int->Option ((List AF))))(e:AN)(f:(List AF)):Option ((List AF)):=
 En a b c d e a f ([]:List Bts) 0
def Hb(e:Nat)(a:AL)(f:(List AF)->Int->Option ((List AF)))(d:(List AF))(b:Int):Option ((List AF)):=
 bif (decide (b< (a.funcs.length:Int))) then ((idx a.funcs b).bind λc=>(HJ e a c.name).bind λg=>bif (decide (g<b)) then ((Gd 16 d ([(AF.mk 30 c.at_)]:List AF)).bind λ_=>JU e a b f c (d++([(AF.mk 30 c.at_)]:List AF))) else (JU e a b f c d)) else (some d)
def Eo(a:Nat)(b:AL):Nat->(List AF)->Int->Option ((List AF))
 |0=>λ_ _=>none
 |k+1=>Hb a b (Eo a b k)
def Hj(a:Nat)(b:AL):Option ((List AF)):=
 Eo a b a ([]:List AF) 0
def LH(a:Int)(b:(Int->Int->Int->Option AF))(c d:Int):Option AF:=
 b (i64.wrap (a+1)) c d
def LI(d:(List AF))(a e f:Int)(b:(Int->Int->Int->Option AF))(g:Bool):Option AF:=
 bif g then ((idx d a).bind λc=>LH a b c.why c.at_) else (LH a b e f)
def IP(a:(List AF))(e:Int->Int->Int->Option AF)(b c d:Int):Option AF:=
 bif (decide (b< (a.length:Int))) then (bif (c==0) then (LI a b c d e true) else ((idx a b).bind λf=>LI a b c d e (decide (f.at_<d)))) else (some (AF.mk c d))
def H6(a:(List AF)):Nat->Int->Int->Int->Option AF
 |0=>λ_ _ _=>none
 |k+1=>IP a (H6 a k)
def H7(a:Nat)(b:AL):Option AF:=
 (Hj a b).bind λc=>H6 c a 0 0 0
def LJ(b:AL)(d:Bts)(e:Int->Option (AN×Bool))(a:Int):Option (AN×Bool):=
 bif (decide (a< (b.funcs.length:Int))) then ((idx b.funcs a).bind λc=>bif (c.name==d) then (some (c,true)) else (e (i64.wrap (a+1)))) else (some ((AN.mk ([]:List UInt8) [] 0 (AE.mk 0 ([]:List UInt8) ([]:List UInt8) 0 ((0,0):Cpl) [] 0) 0),false))
def Jz(a:AL)(b:Bts):Nat->Int->Option (AN×Bool)
 |0=>λ_=>none
 |k+1=>LJ a b (Jz a b k)
def G0(a:Nat)(b:AL)(c:Bts):Option (AN×Bool):=
 Jz b c a 0
def L0(c:(List AJ))(d:AE)(e:Int->Option Int)(a:Int):Option Int:=
 bif (decide (a>=0)) then ((idx c a).bind λb=>bif (b.name==d.name) then (some b.type_) else (e (i64.wrap (a - 1)))) else (some (-1))
def KX(a:(List AJ))(b:AE):Nat->Int->Option Int
 |0=>λ_=>none
 |k+1=>L0 a b (KX a b k)
def MU(a:(AN×Bool))(b:Bool):Option Int:=
 bif b then (some (-1)) else (some a.1.type_)
def Lf(c:Nat)(e:AL)(d:(List AJ))(a:AE)(f:Bool):Option Int:=
 bif f then (some 3) else (bif (a.op==5) then (some a.type_) else (bif (a.op==6) then (KX d a c (i64.wrap ((d.length:Int) - 1))) else (bif (a.op==7) then ((G0 c e a.name).bind λb=>bif (!b.2) then (MU b true) else (MU b ((b.1.params.length:Int) != (a.args.length:Int)))) else (some 0))))
def Id(b:Nat)(c:AL)(d:(List AJ))(a:AE)(e:Bool):Option Int:=
 bif e then (some 2) else (bif (a.op==4) then (Lf b c d a (a.op==4)) else (Lf b c d a (a.op==18)))
def Fo(b:Nat)(c:AL)(d:(List AJ))(a:AE)(e:Bool):Option Int:=
 bif e then (some 1) else (bif (a.op==2) then (Id b c d a (a.op==2)) else (bif (a.op==3) then (Id b c d a (a.op==3)) else (bif (a.op==12) then (Id b c d a (a.op==12)) else (bif (a.op==13) then (Id b c d a (a.op==13)) else (Id b c d a (a.op==14))))))
def KL(b:Nat)(c:AL)(d:(List AJ))(a:AE):Option Int:=
 bif (a.op==1) then (Fo b c d a (a.op==1)) else (bif (a.op==8) then (Fo b c d a (a.op==8)) else (bif (a.op==9) then (Fo b c d a (a.op==9)) else (bif (a.op==10) then (Fo b c d a (a.op==10)) else (bif (a.op==11) then (Fo b c d a (a.op==11)) else (bif (a.op==15) then (Fo b c d a (a.op==15)) else (bif (a.op==16) then (Fo b c d a (a.op==16)) else (Fo b c d a (a.op==17))))))))
def Hc(a:(List AJ))(b:Bts)(c:Int):Option ((List AJ)):=
 (Gd 32 ([]:List AJ) a).bind λ_=>(Gd 32 (([]:List AJ)++a) ([(AJ.mk b c 0)]:List AJ)).bind λ_=>some ((([]:List AJ)++a)++([(AJ.mk b c 0)]:List AJ))
def Kf(a:(List AJ))(b:AE)(c:Bool):Option ((List AJ)):=
 bif c then ((Hc a b.name (1:Int)).bind λd=>(Hc d b.tail (3:Int)).bind λe=>some e) else (some a)
def JV(b:(List AJ))(a:AE)(c:Int)(d:Bool):Option ((List AJ)):=
 bif d then ((Hc b a.name a.type_).bind λe=>some e) else (bif (a.op==20) then (Kf b a (c==2)) else (Kf b a false))
def G3(c:(List AJ))(a:AE)(b:Int):Option ((List AJ)):=
 bif (a.op==21) then (JV c a b (a.op==21)) else (bif (a.op==22) then (JV c a b (b==1)) else (JV c a b false))
def JW:Option Int:=
 some 1
def Kg(a:Int)(b:(AN×Bool))(c:Bool):Option Int:=
 bif c then ((idx b.1.params a).bind λd=>some d.type_) else (JW)
def Kh(a:AE)(b c:Int)(d:Bool):Option Int:=
 bif d then (bif (b==0) then (some a.type_) else (some c)) else (JW)
def G4(e:Nat)(f:AL)(a:AE)(b c:Int):Option Int:=
 bif (a.op==14) then (some 2) else (bif (a.op==18) then (bif (b==1) then (some 3) else (JW)) else (bif (a.op==7) then ((G0 e f a.name).bind λd=>bif d.2 then (Kg b d (decide (b< (d.1.params.length:Int)))) else (Kg b d false)) else (bif (a.op==19) then (bif (b==0) then (some 2) else (some c)) else (bif (a.op==20) then (bif (b==0) then (some 3) else (some c)) else (bif (a.op==21) then (Kh a b c (a.op==21)) else (Kh a b c (a.op==22)))))))
structure BW where
 ref07_wrong:AL->(List AJ)->AE->Int->Option ((List Int))
def IQ(f:BW)(g:Nat)(d:AL)(h:(List AJ))(b:AE)(i:Int)(j:(List Int)->Int->Option ((List Int)))(c:(List Int))(a:Int):Option ((List Int)):=
 bif (decide (a< (b.args.length:Int))) then ((idx b.args a).bind λk=>(G3 h b a).bind λl=>(G4 g d b a i).bind λm=>(f.ref07_wrong d l k m).bind λe=>(Gd 8 c e).bind λ_=>j (c++e) (i64.wrap (a+1))) else (some c)
def H8(a:BW)(b:Nat)(c:AL)(d:(List AJ))(e:AE)(f:Int):Nat->(List Int)->Int->Option ((List Int))
 |0=>λ_ _=>none
 |k+1=>IQ a b c d e f (H8 a b c d e f k)
def KM(b:BW)(a:Nat)(c:AL)(d:(List AJ))(e:AE)(f:Int)(g:(List Int)):Option ((List Int)):=
 H8 b a c d e f a g 0
def LK(b:BW)(c:Nat)(d:AL)(e:(List AJ))(a:AE)(f:Int)(g:Bool):Option ((List Int)):=
 bif g then ((Gd 8 ([]:List Int) ([a.at_]:List Int)).bind λ_=>KM b c d e a f (([]:List Int)++([a.at_]:List Int))) else (KM b c d e a f ([]:List Int))
def Kq(f:BW)(a:Nat)(b:AL)(c:(List AJ))(d:AE)(e:Int):Option ((List Int)):=
 (KL a b c d).bind λg=>bif (g != 0) then (LK f a b c d e (g != e)) else (LK f a b c d e false)
def BW.at:Nat->BW
 |0=>⟨λ_ _ _ _=>none⟩
 |n+1=>⟨Kq (BW.at n) n⟩
def ref07_wrong(a:Nat):AL->(List AJ)->AE->Int->Option ((List Int)):=(BW.at a).ref07_wrong
def JC(a:Int)(b:(Int->Int->Int->Option AF))(c d:Int):Option AF:=
 b (i64.wrap (a+1)) c d
def JD(c:(List Int))(a d e:Int)(b:(Int->Int->Int->Option AF))(f:Bool):Option AF:=
 bif f then ((idx c a).bind λg=>JC a b 34 g) else (JC a b d e)
def Ep(f:Int)(g:(Int->Int->Int->Option AF))(a:(List Int))(e:Int->Int->Int->Option AF)(b c d:Int):Option AF:=
 bif (decide (b< (a.length:Int))) then (bif (c==0) then (JD a b c d e true) else ((idx a b).bind λh=>JD a b c d e (decide (h<d)))) else (g (i64.wrap (f+1)) c d)
def FO(a:Int)(b:(Int->Int->Int->Option AF))(c:(List Int)):Nat->Int->Int->Int->Option AF
 |0=>λ_ _ _=>none
 |k+1=>Ep a b c (FO a b c k)
def IR(d:Nat)(b:AL)(g:Int->Int->Int->Option AF)(c e f:Int):Option AF:=
 bif (decide (c< (b.funcs.length:Int))) then ((idx b.funcs c).bind λa=>(ref07_wrong d b a.params (AE.mk a.body.op a.body.name a.body.tail a.body.type_ a.body.num a.body.args a.body.at_) a.type_).bind λh=>FO c g h d 0 e f) else (some (AF.mk e f))
def CP(a:Nat)(b:AL):Nat->Int->Int->Int->Option AF
 |0=>λ_ _ _=>none
 |k+1=>IR a b (CP a b k)
def HK(b:Nat)(c:AL):Option AF:=
 (H7 b c).bind λa=>bif (a.why != 0) then (some a) else (CP b c b 0 a.why a.at_)
def L1(a:Int)(b:(Int->Option Bool))(c:Bool):Option Bool:=
 bif c then (some false) else (b (i64.wrap (a+1)))
def JE(e:Nat)(f:AN)(b:(List AD))(c:Int->Option Bool)(a:Int):Option Bool:=
 bif (decide (a< (b.length:Int))) then ((idx b a).bind λd=>(idx f.params a).bind λg=>bif (d.type_ != g.type_) then (L1 a c true) else ((CO e d).bind λh=>L1 a c (!h))) else (some true)
def In(a:Nat)(b:AN)(c:(List AD)):Nat->Int->Option Bool
 |0=>λ_=>none
 |k+1=>JE a b c (In a b c k)
def G5(a:Nat)(b:AN)(c:(List AD)):Option Bool:=
 bif ((c.length:Int) != (b.params.length:Int)) then (some false) else (In a b c a 0)
def Ki(c:AD)(d:Th->Int->Option Th)(b:Th)(a:Int):Option Th:=
 bif (decide (a>=0)) then ((idx c.list a).bind λe=>d (Th.done (AD.mk 0 ((0,0):Cpl) false []) (Th.done (AD.mk 1 e false []) Th.nil Th.nil) b) (i64.wrap (a - 1))) else (some b)
def JF(a:AD):Nat->Th->Int->Option Th
 |0=>λ_ _=>none
 |k+1=>Ki a (JF a k)
def H9(b:Nat)(a:AD):Option Th:=
 bif (a.type_ != 3) then (some (Th.done a Th.nil Th.nil)) else (JF a b (Th.done (AD.mk 3 ((0,0):Cpl) false []) Th.nil Th.nil) (i64.wrap ((a.list.length:Int) - 1)))
def JM(a:AX)(b:Int):Option (Th×AX):=
 some ((Th.later (AE.mk 0 ([]:List UInt8) ([]:List UInt8) 0 ((0,0):Cpl) [] 0) Nm.nil),(AX.mk (AL.mk a.p.funcs) a.most a.cost b))
def Dc(a:AX)(b:Int):Option (Th×AX):=
 bif (a.why==0) then (JM a b) else (JM a a.why)
def M5(b:Bts)(c:Nm->Option Th)(d:Nm):Option Th:=
 (d.view).bind λa=>bif (!(a.1==b)) then (c a.2.2) else (some a.2.1)
def G6(a:Bts):Nat->Nm->Option Th
 |0=>λ_=>none
 |k+1=>M5 a (G6 a k)
def GY(a:Nat)(b:Nm)(c:Bts):Option Th:=
 G6 c a b
def LL(a:Bool):Option (Int×Int):=
 bif a then (some (1,1)) else (some (0,0))
def IA(a:Int)(b:Bool):Option (Int×Int):=
 bif b then (some (2,1)) else (bif (a==14) then (some (1,2)) else (bif (a==15) then (LL (a==15)) else (bif (a==16) then (LL (a==16)) else (LL (a==17)))))
def HL(a:Int):Option (Int×Int):=
 bif (a==8) then (IA a (a==8)) else (bif (a==9) then (IA a (a==9)) else (bif (a==10) then (IA a (a==10)) else (bif (a==11) then (IA a (a==11)) else (bif (a==12) then (IA a (a==12)) else (IA a (a==13))))))
def JX(a b:Af):Option (Af×Int):=
 (Hr (Af.mk (i64.wrap (a.re+b.re)) (i64.wrap (a.im+b.im)))).bind λc=>some (c.1,c.2)
def Cf(b:Af)(a:Int):Option (AD×Int):=
 bif (a != 0) then (some ((AD.mk 0 ((0,0):Cpl) false []),a)) else ((GL b).bind λc=>some ((AD.mk 1 c false []),0))
def JY(a b:Af):Option (Af×Int):=
 (Hr (Af.mk (i64.wrap (a.re - b.re)) (i64.wrap (a.im - b.im)))).bind λc=>some (c.1,c.2)
def JZ(a b:Af):Option (Af×Int):=
 (Hr (Af.mk (i64.wrap ((i64.wrap (a.re*b.re)) - (i64.wrap (a.im*b.im)))) (i64.wrap ((i64.wrap (a.re*b.im))+(i64.wrap (a.im*b.re)))))).bind λc=>some (c.1,c.2)
def Lg(b a:Af)(d:Bool):Option (Af×Int):=
 bif d then (some ((Af.mk 0 0),51)) else ((nz (i64.wrap ((i64.wrap (a.re*a.re))+(i64.wrap (a.im*a.im))))).bind λ_=>(nz (i64.wrap ((i64.wrap (a.re*a.re))+(i64.wrap (a.im*a.im))))).bind λ_=>(Hr (Af.mk (i64.wrap ((i64.wrap ((i64.wrap (b.re*a.re))+(i64.wrap (b.im*a.im)))).tdiv (i64.wrap ((i64.wrap (a.re*a.re))+(i64.wrap (a.im*a.im)))))) (i64.wrap ((i64.wrap ((i64.wrap (b.im*a.re)) - (i64.wrap (b.re*a.im)))).tdiv (i64.wrap ((i64.wrap (a.re*a.re))+(i64.wrap (a.im*a.im)))))))).bind λc=>some (c.1,c.2))
def Ja(b a:Af):Option (Af×Int):=
 bif ((i64.wrap ((i64.wrap (a.re*a.re))+(i64.wrap (a.im*a.im))))==0) then (Lg b a true) else ((nz (i64.wrap ((i64.wrap (a.re*a.re))+(i64.wrap (a.im*a.im))))).bind λ_=>bif (((i64.wrap ((i64.wrap (b.re*a.re))+(i64.wrap (b.im*a.im)))).tmod (i64.wrap ((i64.wrap (a.re*a.re))+(i64.wrap (a.im*a.im))))) != 0) then (Lg b a true) else ((nz (i64.wrap ((i64.wrap (a.re*a.re))+(i64.wrap (a.im*a.im))))).bind λ_=>Lg b a (((i64.wrap ((i64.wrap (b.im*a.re)) - (i64.wrap (b.re*a.im)))).tmod (i64.wrap ((i64.wrap (a.re*a.re))+(i64.wrap (a.im*a.im))))) != 0)))
def HM(a:Bool):Option (AD×Int):=
 some ((AD.mk 2 ((0,0):Cpl) a []),0)
def Kr(a:Bool):Option Bool:=
 some a
def IS(a b:Af):Option Bool:=
 bif (decide (a.re<b.re)) then (Kr true) else (bif (a.re==b.re) then (Kr (decide (a.im<b.im))) else (Kr false))
def Er(d:(List AD))(a:(List Af))(b:Int)(e:(Bool->(List Af)->Int->Option (AD×Int)))(f:Bool):Option (AD×Int):=
 (idx d b).bind λg=>(E6 g.num).bind λc=>(Gd 16 a ([c.1]:List Af)).bind λ_=>e f (a++([c.1]:List Af)) (i64.wrap (b+1))
def LM(w:Nat)(b:Int)(c:(List AD))(x:(Int×Int))(y:Bool)(a:(List Af))(d:Int)(e:(Bool->(List Af)->Int->Option (AD×Int)))(z:Bool):Option (AD×Int):=
 bif z then ((idx c d).bind λf=>(CO w f).bind λaa=>bif aa then (Er c a d e (f.type_==x.2)) else (Er c a d e false)) else (bif (!y) then (some ((AD.mk 0 ((0,0):Cpl) false []),3)) else (bif (b==8) then ((idx a (0:Int)).bind λab=>(idx a (1:Int)).bind λac=>(JX ab ac).bind λg=>(Cf g.1 g.2).bind λh=>some (h.1,h.2)) else (bif (b==9) then ((idx a (0:Int)).bind λad=>(idx a (1:Int)).bind λae=>(JY ad ae).bind λi=>(Cf i.1 i.2).bind λj=>some (j.1,j.2)) else (bif (b==10) then ((idx a (0:Int)).bind λaf=>(idx a (1:Int)).bind λag=>(JZ af ag).bind λk=>(Cf k.1 k.2).bind λl=>some (l.1,l.2)) else (bif (b==11) then ((idx a (0:Int)).bind λah=>(idx a (1:Int)).bind λai=>(Ja ah ai).bind λm=>(Cf m.1 m.2).bind λn=>some (n.1,n.2)) else (bif (b==12) then ((idx a (0:Int)).bind λo=>(idx a (1:Int)).bind λp=>(HM (o.re==p.re&&o.im==p.im)).bind λq=>some (q.1,q.2)) else (bif (b==13) then ((idx a (0:Int)).bind λaj=>(idx a (1:Int)).bind λak=>(IS aj ak).bind λal=>(HM al).bind λr=>some (r.1,r.2)) else (bif (b==14) then ((idx c (0:Int)).bind λam=>(HM (!am.bool)).bind λs=>some (s.1,s.2)) else (bif (b==15) then ((idx a (0:Int)).bind λan=>(Cf (Af.mk an.re 0) (0:Int)).bind λt=>some (t.1,t.2)) else (bif (b==16) then ((idx a (0:Int)).bind λao=>(Cf (Af.mk ao.im 0) (0:Int)).bind λu=>some (u.1,u.2)) else ((idx a (0:Int)).bind λap=>(idx a (0:Int)).bind λaq=>(Cf (Af.mk ap.re (i64.wrap (0 - aq.im))) (0:Int)).bind λv=>some (v.1,v.2))))))))))))
def Cc(d:Nat)(e:Int)(f:(List AD))(a:(Int×Int))(g:Bool->(List Af)->Int->Option (AD×Int))(b:Bool)(h:(List Af))(c:Int):Option (AD×Int):=
 bif b then (LM d e f a b h c g (decide (c<a.1))) else (LM d e f a b h c g false)
def Bu(a:Nat)(b:Int)(c:(List AD))(d:(Int×Int)):Nat->Bool->(List Af)->Int->Option (AD×Int)
 |0=>λ_ _ _=>none
 |k+1=>Cc a b c d (Bu a b c d k)
def MV(a:Nat)(b:Int)(c:(List AD))(d:(Int×Int))(e:Bool):Option (AD×Int):=
 Bu a b c d a e ([]:List Af) 0
def Dj(d:Nat)(b:Int)(c:(List AD)):Option (AD×Int):=
 (HL b).bind λa=>bif (decide (a.1>0)) then (MV d b c a ((c.length:Int)==a.1)) else (MV d b c a false)
structure AP where
 ref11_Machine_look:AX->AE->Nm->Option (Th×AX)
 ref11_Machine_of:AX->Th->Option (Th×AX)
 ref11_Machine_inside:AX->AE->Nm->Option (Th×AX)
def G7(f:AP)(a:AX)(c:AE)(g:Nm)(h:(List AJ))(i:Int)(j k:Bts)(l:Int)(m:Cpl)(n:(List AE))(o:Int)(p:Nm->Int->Option (Th×AX))(d:Nm)(b:Int):Option (Th×AX):=
 bif (decide (b< (c.args.length:Int))) then ((idx h b).bind λq=>(idx c.args b).bind λr=>p (Nm.bind q.name (Th.later r g) d) (i64.wrap (b+1))) else ((f.ref11_Machine_look (AX.mk (AL.mk a.p.funcs) a.most (i64.wrap (a.cost+1)) a.why) (AE.mk i j k l m n o) d).bind λe=>some (e.1,e.2))
def E0(a:AP)(b:AX)(c:AE)(d:Nm)(e:(List AJ))(f:Int)(g h:Bts)(i:Int)(j:Cpl)(l:(List AE))(m:Int):Nat->Nm->Int->Option (Th×AX)
 |0=>λ_ _=>none
 |k+1=>G7 a b c d e f g h i j l m (E0 a b c d e f g h i j l m k)
def JN(a:AP)(b:Nat)(c:AX)(d:AE)(e:Nm)(f:(List AJ))(g:Int)(h i:Bts)(j:Int)(k:Cpl)(l:(List AE))(m:Int):Option (Th×AX):=
 E0 a c d e f g h i j k l m b Nm.nil 0
def JO(a:AX)(b:Th):Option (Th×AX):=
 some (b,(AX.mk (AL.mk a.p.funcs) a.most (i64.wrap (a.cost+1)) a.why))
def B4(e:AP)(f:Nat)(a:AX)(b:AE)(d:Nm)(j:Bool):Option (Th×AX):=
 bif j then (some ((Th.done (AD.mk 2 ((0,0):Cpl) (b.op==2) []) Th.nil Th.nil),(AX.mk (AL.mk a.p.funcs) a.most (i64.wrap (a.cost+1)) a.why))) else (bif (b.op==4) then (some ((Th.done (AD.mk 3 ((0,0):Cpl) false []) Th.nil Th.nil),(AX.mk (AL.mk a.p.funcs) a.most (i64.wrap (a.cost+1)) a.why))) else (bif (b.op==5) then ((Dc (AX.mk (AL.mk a.p.funcs) a.most (i64.wrap (a.cost+1)) a.why) (52:Int)).bind λg=>some (g.1,g.2)) else (bif (b.op==6) then ((GY f d b.name).bind λk=>(e.ref11_Machine_of (AX.mk (AL.mk a.p.funcs) a.most (i64.wrap (a.cost+1)) a.why) k).bind λh=>some (h.1,h.2)) else (bif (b.op==7) then ((G0 f (AL.mk a.p.funcs) b.name).bind λc=>JN e f a b d c.1.params c.1.body.op c.1.body.name c.1.body.tail c.1.body.type_ c.1.body.num c.1.body.args c.1.body.at_) else (bif (b.op==18) then ((idx b.args (0:Int)).bind λl=>(idx b.args (1:Int)).bind λm=>JO a (Th.done (AD.mk 0 ((0,0):Cpl) false []) (Th.later l d) (Th.later m d))) else ((e.ref11_Machine_inside (AX.mk (AL.mk a.p.funcs) a.most (i64.wrap (a.cost+1)) a.why) b d).bind λi=>some (i.1,i.2)))))))
def BJ(c:AP)(d:Nat)(a:AX)(b:AE)(e:Nm):Option (Th×AX):=
 bif (a.why != 0) then (some ((Th.later (AE.mk 0 ([]:List UInt8) ([]:List UInt8) 0 ((0,0):Cpl) [] 0) Nm.nil),a)) else (bif (decide (a.cost>=a.most)) then ((Dc a (60:Int)).bind λf=>some (f.1,f.2)) else (bif (b.op==1) then (some ((Th.done (AD.mk 1 b.num false []) Th.nil Th.nil),(AX.mk (AL.mk a.p.funcs) a.most (i64.wrap (a.cost+1)) a.why))) else (bif (b.op==2) then (B4 c d a b e (b.op==2)) else (B4 c d a b e (b.op==3)))))
def J4(e:AP)(a:AX)(b:Th)(f:Bool):Option (Th×AX):=
 bif f then (some (b,a)) else ((b.view).bind λc=>(e.ref11_Machine_look a c.e c.names).bind λd=>some (d.1,d.2))
def Hd(c:AP)(_N:Nat)(a:AX)(b:Th):Option (Th×AX):=
 bif (a.why != 0) then (J4 c a b true) else ((b.view).bind λd=>J4 c a b d.known)
def Ce(c:AP)(a:AE)(d:Nm)(b:(Th×AX))(h:Bool):Option (Th×AX):=
 bif h then ((idx a.args (1:Int)).bind λi=>(c.ref11_Machine_look b.2 i d).bind λe=>some (e.1,e.2)) else ((idx a.args (2:Int)).bind λj=>(b.1.view).bind λf=>(c.ref11_Machine_look b.2 j (Nm.bind a.tail f.tail (Nm.bind a.name f.head d))).bind λg=>some (g.1,g.2))
def Av(l:AP)(m:Nat)(f:AE)(n:Nm)(o:(List AD)->Int->(List AN)->Int->Int->Int->Option (Th×AX))(g:(List AD))(h:Int)(c:(List AN))(d e a:Int):Option (Th×AX):=
 bif (decide (h< (f.args.length:Int))) then ((idx f.args h).bind λp=>(l.ref11_Machine_look (AX.mk (AL.mk c) d e a) p n).bind λb=>(b.1.view).bind λj=>(Gd 56 g ([j.value]:List AD)).bind λ_=>o (g++([j.value]:List AD)) (i64.wrap (h+1)) b.2.p.funcs b.2.most b.2.cost b.2.why) else (bif (a != 0) then (some ((Th.later (AE.mk 0 ([]:List UInt8) ([]:List UInt8) 0 ((0,0):Cpl) [] 0) Nm.nil),(AX.mk (AL.mk c) d e a))) else ((Dj m f.op g).bind λi=>bif (i.2 != 0) then ((Dc (AX.mk (AL.mk c) d e a) i.2).bind λk=>some (k.1,k.2)) else (some ((Th.done i.1 Th.nil Th.nil),(AX.mk (AL.mk c) d e a)))))
def BO(a:AP)(b:Nat)(c:AE)(d:Nm):Nat->(List AD)->Int->(List AN)->Int->Int->Int->Option (Th×AX)
 |0=>λ_ _ _ _ _ _=>none
 |k+1=>Av a b c d (BO a b c d k)
def BN(b:AP)(g:Nat)(d:AX)(a:AE)(c:Nm):Option (Th×AX):=
 bif (a.op==19) then ((idx a.args (0:Int)).bind λm=>(b.ref11_Machine_look d m c).bind λf=>(f.1.view).bind λn=>bif n.value.bool then ((idx a.args (1:Int)).bind λo=>(b.ref11_Machine_look f.2 o c).bind λh=>some (h.1,h.2)) else ((idx a.args (2:Int)).bind λp=>(b.ref11_Machine_look f.2 p c).bind λi=>some (i.1,i.2))) else (bif (a.op==20) then ((idx a.args (0:Int)).bind λq=>(b.ref11_Machine_look d q c).bind λe=>bif (e.2.why != 0) then (Ce b a c e true) else ((e.1.view).bind λr=>Ce b a c e (!r.pair))) else (bif (a.op==21) then ((idx a.args (0:Int)).bind λs=>(idx a.args (1:Int)).bind λt=>(b.ref11_Machine_look d t (Nm.letrec a.name s c)).bind λj=>some (j.1,j.2)) else (bif (a.op==22) then ((idx a.args (0:Int)).bind λu=>(b.ref11_Machine_look d u c).bind λk=>(idx a.args (1:Int)).bind λv=>(b.ref11_Machine_look k.2 v (Nm.bind a.name k.1 c)).bind λl=>some (l.1,l.2)) else (BO b g a c g ([]:List AD) 0 d.p.funcs d.most d.cost d.why))))
def AP.at:Nat->AP
 |0=>⟨λ_ _ _=>none,λ_ _=>none,λ_ _ _=>none⟩
 |n+1=>⟨BJ (AP.at n) n,Hd (AP.at n) n,BN (AP.at n) n⟩
def ref11_Machine_look(a:Nat):AX->AE->Nm->Option (Th×AX):=(AP.at a).ref11_Machine_look
def ref11_Machine_of(a:Nat):AX->Th->Option (Th×AX):=(AP.at a).ref11_Machine_of
def ref11_Machine_inside(a:Nat):AX->AE->Nm->Option (Th×AX):=(AP.at a).ref11_Machine_inside
def Bv(c:Nat)(k:Th)(d:(List AN))(e f g:Int)(b:(List Cpl))(l:(Th->(List AN)->Int->Int->Int->(List Cpl)->Option (AD×AX)))(m:Bool):Option (AD×AX):=
 bif m then ((k.view).bind λh=>(ref11_Machine_of c (AX.mk (AL.mk d) e f g) h.head).bind λi=>(i.1.view).bind λj=>(Gd 16 b ([j.value.num]:List Cpl)).bind λ_=>(ref11_Machine_of c i.2 h.tail).bind λa=>l a.1 a.2.p.funcs a.2.most a.2.cost a.2.why (b++([j.value.num]:List Cpl))) else (some ((AD.mk 3 ((0,0):Cpl) false b),(AX.mk (AL.mk d) e f g)))
def DA(c:Nat)(d:Th->(List AN)->Int->Int->Int->(List Cpl)->Option (AD×AX))(a:Th)(e:(List AN))(f g b:Int)(h:(List Cpl)):Option (AD×AX):=
 bif (b==0) then ((a.view).bind λi=>Bv c a e f g b h d i.pair) else (Bv c a e f g b h d false)
def Bx(a:Nat):Nat->Th->(List AN)->Int->Int->Int->(List Cpl)->Option (AD×AX)
 |0=>λ_ _ _ _ _ _=>none
 |k+1=>DA a (Bx a k)
def Ee(b:Nat)(a:AX)(c:Th)(d:Bool):Option (AD×AX):=
 bif d then ((c.view).bind λe=>some (e.value,a)) else (Bx b b c a.p.funcs a.most a.cost a.why ([]:List Cpl))
def CY(c:Nat)(a:AX)(b:Th):Option (AD×AX):=
 bif (a.why==0) then ((b.view).bind λd=>Ee c a b (!d.pair)) else (Ee c a b false)
def FP(e:Nat)(i:AL)(f:(List AD))(c:Int)(a:(AN×Bool))(j:Nm->Int->Option BK)(g:Nm)(d:Int):Option BK:=
 bif (decide (d< (f.length:Int))) then ((idx a.1.params d).bind λk=>(idx f d).bind λl=>(H9 e l).bind λm=>j (Nm.bind k.name m g) (i64.wrap (d+1))) else ((ref11_Machine_look e (AX.mk i (if 16384< (if c<0 then 0 else c) then 16384 else (if c<0 then 0 else c)) 0 0) (AE.mk a.1.body.op a.1.body.name a.1.body.tail a.1.body.type_ a.1.body.num a.1.body.args a.1.body.at_) g).bind λh=>(CY e h.2 h.1).bind λb=>bif (b.2.why != 0) then (some (BK.mk b.2.why (AD.mk 0 ((0,0):Cpl) false []) b.2.cost 0 0 0)) else (some (BK.mk 0 b.1 b.2.cost 0 0 0)))
def Gh(a:Nat)(b:AL)(c:(List AD))(d:Int)(e:(AN×Bool)):Nat->Nm->Int->Option BK
 |0=>λ_ _=>none
 |k+1=>FP a b c d e (Gh a b c d e k)
def GI(a:Nat)(b:AL)(e:Bts)(d:(List AD))(f:Int):Option BK:=
 (HK a b).bind λg=>bif (g.why != 0) then (some (BK.mk 3 (AD.mk 0 ((0,0):Cpl) false []) 0 0 0 0)) else ((G0 a b e).bind λc=>bif (!c.2) then (some (BK.mk 32 (AD.mk 0 ((0,0):Cpl) false []) 0 0 0 0)) else ((G5 a c.1 d).bind λh=>bif (!h) then (some (BK.mk 40 (AD.mk 0 ((0,0):Cpl) false []) 0 0 0 0)) else (Gh a b d f c a Nm.nil 0)))
def IB(a:Bool):Option Bool:=
 some a
def KN(c:Nat)(a b:AD)(d:Bool):Option Bool:=
 bif d then (bif (ceq a.num ((0,0):Cpl)) then (bif (ceq b.num ((0,0):Cpl)) then (bif (!a.bool) then (bif (!b.bool) then (bif ((a.list.length:Int)==0) then (IB ((b.list.length:Int)==0)) else (IB false)) else (IB false)) else (IB false)) else (IB false)) else (IB false)) else ((IN c a b).bind λe=>some e)
def GZ(c:Nat)(a b:AD):Option Bool:=
 bif (a.type_==0) then (KN c a b (b.type_==0)) else (KN c a b false)
def Hk(a:Bool):Option Bool:=
 some a
def JG(c:Nat)(a b:BK):Option Bool:=
 bif (a.why==b.why) then ((GZ c (AD.mk a.value.type_ a.value.num a.value.bool a.value.list) (AD.mk b.value.type_ b.value.num b.value.bool b.value.list)).bind λd=>bif d then (bif (a.moves==b.moves) then (bif (a.thunks==b.thunks) then (bif (a.updates==b.updates) then (Hk (a.calls==b.calls)) else (Hk false)) else (Hk false)) else (Hk false)) else (Hk false)) else (Hk false)
def JH(c:Int)(d:(Int->Option Bool))(b:AD)(e:Int->Option Bool)(a:Int):Option Bool:=
 bif (decide (a< (b.list.length:Int))) then ((idx b.list a).bind λ_=>e (i64.wrap (a+1))) else (d (i64.wrap (c+1)))
def G8(a:Int)(b:(Int->Option Bool))(c:AD):Nat->Int->Option Bool
 |0=>λ_=>none
 |k+1=>JH a b c (G8 a b c k)
def Jj(a:Bool):Option Bool:=
 some a
def GJ(a:Nat)(g:Eh)(d:(AL×(List AD)×Bool))(b:(AL×(List AD)×Bool))(e:(List AD))(h:BK)(i:Int->Option Bool)(c:Int):Option Bool:=
 bif (decide (c< (e.length:Int))) then ((idx e c).bind λf=>(idx b.2.1 c).bind λj=>(IN a f j).bind λk=>bif (!k) then (some false) else (G8 c i f a 0)) else ((idx ((([]:List AD)++d.2.1)++([(AD.mk 77 ((0,0):Cpl) false [])]:List AD)) (d.2.1.length:Int)).bind λl=>bif (l.type_==77) then ((I8 a d.1 b.1 true).bind λm=>bif m then ((GI a b.1 g.name b.2.1 (2000:Int)).bind λn=>(JG a h n).bind λo=>Jj o) else (Jj false)) else (Jj false))
def E8(a:Nat)(b:Eh)(c:(AL×(List AD)×Bool))(d:(AL×(List AD)×Bool))(e:(List AD))(f:BK):Nat->Int->Option Bool
 |0=>λ_=>none
 |k+1=>GJ a b c d e f (E8 a b c d e f k)
def JI(c:Nat)(d:Eh)(e:(AL×(List AD)×Bool))(f:(AL×(List AD)×Bool))(g:(List AD))(h:BK)(i:Int->(List Cpl)->Option Bool)(a:Int)(b:(List Cpl)):Option Bool:=
 bif (decide (a< (b.length:Int))) then ((idx b a).bind λ_=>i (i64.wrap (a+1)) (b.set (a).toNat ((4636666922610458624,0):Cpl))) else ((Gd 16 b ([((4636596553866280960,0):Cpl)]:List Cpl)).bind λ_=>E8 c d e f g h c 0)
def G9(a:Nat)(b:Eh)(c:(AL×(List AD)×Bool))(d:(AL×(List AD)×Bool))(e:(List AD))(f:BK):Nat->Int->(List Cpl)->Option Bool
 |0=>λ_ _=>none
 |k+1=>JI a b c d e f (G9 a b c d e f k)
def FQ(b:Nat)(c:Eh):Option Bool:=
 (H5 b).bind λe=>bif (!e) then (some false) else ((CH b c).bind λa=>(CH b c).bind λf=>bif (!a.2.2) then (some true) else ((Gd 56 ([]:List AD) a.2.1).bind λ_=>(Gd 56 (([]:List AD)++a.2.1) ([(AD.mk 77 ((0,0):Cpl) false [])]:List AD)).bind λ_=>(sub ((([]:List AD)++a.2.1)++([(AD.mk 77 ((0,0):Cpl) false [])]:List AD)) 0 (a.2.1.length:Int)).bind λd=>(Ha b a.1 c.name d (2000:Int)).bind λg=>(Ha b a.1 c.name d (2000:Int)).bind λh=>G9 b c a f d h b 0 g.value.list))
end Fth
namespace Fth
open Go Go.Proofs Sh
set_option maxRecDepth 100000
set_option maxHeartbeats 8000000
noncomputable abbrev PG:Program:=Tryz.prog
def HA:Kd Ax:=Xq 89 90
theorem Cw{F:Nat->Prop}{a:World}{c hv tv:Value}{x:Ax}(d:Slc Kd.cpx F a c x.plain.list)(e:MTh 89 90 F a hv x.head)(f:MTh 89 90 F a tv x.tail):HA.rep F a [I x.plain.type_,Cx x.plain.num,.bool x.plain.bool,c,hv,tv] x:=⟨_,_,_,rfl,d,e,f⟩
theorem Dk{F:Nat->Prop}{a:World}{cs:List Value}{x:Ax}(h:HA.rep F a cs x):∃c hv tv,cs=[I x.plain.type_,Cx x.plain.num,.bool x.plain.bool,c,hv,tv]/\Slc Kd.cpx F a c x.plain.list/\MTh 89 90 F a hv x.head/\MTh 89 90 F a tv x.tail:=h
abbrev C7:=kt (PG.follows .mixedOrders)
abbrev EC:=kt (NW PG 111 2)
abbrev Ie:=kt (NW PG 159 4)
abbrev ZP:=kt (NW PG 24 3)
abbrev Fw:=kt (NW PG 28 1)
abbrev B5:=kt (NW PG 38 4)
abbrev Mi:=kt (NW PG 40 9)
abbrev BA:=kt (NW PG 56 7)
abbrev Lm:=kt (NW PG 58 11)
abbrev LN:=kt (NW PG 63 2)
abbrev ZQ:=kt (NW PG 76 4)
abbrev TJ:=kt (NW PG 87 3)
abbrev KO:=kt (NW PG 96 6)
theorem Pv:PG.underlying 22=some (.slice 5)/\PG.underlying 5=some (.int .u8)/\PG.underlying 9=some .string:=by exact ⟨by kernel_rfl,by kernel_rfl,by kernel_rfl⟩
theorem Xt:PG.underlying 145=some (.float .f64)/\PG.underlying 3=some (.int .i64):=by exact ⟨by kernel_rfl,by kernel_rfl⟩
theorem ABi{ρ:Env}{a:World}{d:Option Nat}{ty:Nat}{pos:String}{af:Array Edge}{g:Option (Nat×Bool)}{x:Operand}{xs:List Operand}{vs caps:List Value}{ts:Array Nat}(hx:ev ρ x=.func (.func 52) #[] caps.toArray)(hv:xs.map (ev ρ)=vs):
 (execOp (ev ρ) ⟨d,.call {callee:=.value x,args:=xs.toArray,argTypes:=ts},ty,pos,af,g⟩).run PG a=.ok (.enter 52 (vs++caps).toArray) a:=Run.enterV Tryz.func52 rfl dcd hx hv
theorem TK{ρ:Env}{a:World}{d:Option Nat}{ty:Nat}{pos:String}{af:Array Edge}{g:Option (Nat×Bool)}{x:Operand}{xs:List Operand}{vs caps:List Value}{ts:Array Nat}(hx:ev ρ x=.func (.func 79) #[] caps.toArray)(hv:xs.map (ev ρ)=vs):
 (execOp (ev ρ) ⟨d,.call {callee:=.value x,args:=xs.toArray,argTypes:=ts},ty,pos,af,g⟩).run PG a=.ok (.enter 79 (vs++caps).toArray) a:=Run.enterV Tryz.func79 rfl dcd hx hv
theorem ABj{ρ:Env}{a:World}{d:Option Nat}{ty:Nat}{pos:String}{af:Array Edge}{g:Option (Nat×Bool)}{x:Operand}{xs:List Operand}{vs caps:List Value}{ts:Array Nat}(hx:ev ρ x=.func (.func 81) #[] caps.toArray)(hv:xs.map (ev ρ)=vs):
 (execOp (ev ρ) ⟨d,.call {callee:=.value x,args:=xs.toArray,argTypes:=ts},ty,pos,af,g⟩).run PG a=.ok (.enter 81 (vs++caps).toArray) a:=Run.enterV Tryz.func81 rfl dcd hx hv
theorem ABk{ρ:Env}{a:World}{d:Option Nat}{ty:Nat}{pos:String}{af:Array Edge}{g:Option (Nat×Bool)}{x:Operand}{xs:List Operand}{vs caps:List Value}{ts:Array Nat}(hx:ev ρ x=.func (.func 84) #[] caps.toArray)(hv:xs.map (ev ρ)=vs):
 (execOp (ev ρ) ⟨d,.call {callee:=.value x,args:=xs.toArray,argTypes:=ts},ty,pos,af,g⟩).run PG a=.ok (.enter 84 (vs++caps).toArray) a:=Run.enterV Tryz.func84 rfl dcd hx hv
theorem ABl{ρ:Env}{a:World}{d:Option Nat}{ty:Nat}{pos:String}{af:Array Edge}{g:Option (Nat×Bool)}{x:Operand}{xs:List Operand}{vs caps:List Value}{ts:Array Nat}(hx:ev ρ x=.func (.func 85) #[] caps.toArray)(hv:xs.map (ev ρ)=vs):
 (execOp (ev ρ) ⟨d,.call {callee:=.value x,args:=xs.toArray,argTypes:=ts},ty,pos,af,g⟩).run PG a=.ok (.enter 85 (vs++caps).toArray) a:=Run.enterV Tryz.func85 rfl dcd hx hv
theorem ABm{ρ:Env}{a:World}{d:Option Nat}{ty:Nat}{pos:String}{af:Array Edge}{g:Option (Nat×Bool)}{x:Operand}{xs:List Operand}{vs caps:List Value}{ts:Array Nat}(hx:ev ρ x=.func (.func 86) #[] caps.toArray)(hv:xs.map (ev ρ)=vs):
 (execOp (ev ρ) ⟨d,.call {callee:=.value x,args:=xs.toArray,argTypes:=ts},ty,pos,af,g⟩).run PG a=.ok (.enter 86 (vs++caps).toArray) a:=Run.enterV Tryz.func86 rfl dcd hx hv
theorem ABn{ρ:Env}{a:World}{d:Option Nat}{ty:Nat}{pos:String}{af:Array Edge}{g:Option (Nat×Bool)}{x:Operand}{xs:List Operand}{vs caps:List Value}{ts:Array Nat}(hx:ev ρ x=.func (.func 89) #[] caps.toArray)(hv:xs.map (ev ρ)=vs):
 (execOp (ev ρ) ⟨d,.call {callee:=.value x,args:=xs.toArray,argTypes:=ts},ty,pos,af,g⟩).run PG a=.ok (.enter 89 (vs++caps).toArray) a:=Run.enterV Tryz.func89 rfl dcd hx hv
theorem ABo{ρ:Env}{a:World}{d:Option Nat}{ty:Nat}{pos:String}{af:Array Edge}{g:Option (Nat×Bool)}{x:Operand}{xs:List Operand}{vs caps:List Value}{ts:Array Nat}(hx:ev ρ x=.func (.func 90) #[] caps.toArray)(hv:xs.map (ev ρ)=vs):
 (execOp (ev ρ) ⟨d,.call {callee:=.value x,args:=xs.toArray,argTypes:=ts},ty,pos,af,g⟩).run PG a=.ok (.enter 90 (vs++caps).toArray) a:=Run.enterV Tryz.func90 rfl dcd hx hv
theorem YC:Elt PG (Kd.int .i64) 114 3 8:=⟨by kernel_rfl,by kernel_rfl,⟨I 0,by kernel_rfl,by kernel_rfl⟩,by decide⟩
theorem YD:Elt PG Ai 121 159 48:=⟨by kernel_rfl,by kernel_rfl,⟨.agg #[I 0,.string ⟨#[]⟩,.complex .f64 0 0,I 0],by kernel_rfl,by kernel_rfl⟩,by decide⟩
theorem Qf:Elt PG An 149 63 16:=⟨by kernel_rfl,by kernel_rfl,⟨.agg #[I 0,I 0],by kernel_rfl,by kernel_rfl⟩,by decide⟩
theorem Vz:Elt PG Ex 181 184 104:=⟨by kernel_rfl,by kernel_rfl,⟨.agg #[I 0,.string ⟨#[]⟩,.string ⟨#[]⟩,I 0,.complex .f64 0 0,.slice none 0 0,I 0,.bool false],by kernel_rfl,by kernel_rfl⟩,by decide⟩
theorem AAg:Elt PG Bm 204 111 16:=⟨by kernel_rfl,by kernel_rfl,⟨.agg #[I 0,I 0],by kernel_rfl,by kernel_rfl⟩,by decide⟩
theorem ZR:Elt PG Kd.u8 22 5 1:=⟨by kernel_rfl,by kernel_rfl,⟨.int .u8 0,by kernel_rfl,by kernel_rfl⟩,by decide⟩
theorem ABp:Elt PG AI 26 58 152:=⟨by kernel_rfl,by kernel_rfl,⟨.agg #[.string ⟨#[]⟩,.slice none 0 0,I 0,I 0,.string ⟨#[]⟩,.string ⟨#[]⟩,I 0,.complex .f64 0 0,.slice none 0 0,I 0,I 0],by kernel_rfl,by kernel_rfl⟩,by decide⟩
theorem TL:Elt PG Aq 29 38 56:=⟨by kernel_rfl,by kernel_rfl,⟨.agg #[I 0,.complex .f64 0 0,.bool false,.slice none 0 0],by kernel_rfl,by kernel_rfl⟩,by decide⟩
theorem V0:Elt PG Kd.cpx 36 35 16:=⟨by kernel_rfl,by kernel_rfl,⟨.complex .f64 0 0,by kernel_rfl,by kernel_rfl⟩,by decide⟩
theorem QK:Elt PG AZ 52 87 32:=⟨by kernel_rfl,by kernel_rfl,⟨.agg #[.string ⟨#[]⟩,I 0,I 0],by kernel_rfl,by kernel_rfl⟩,by decide⟩
theorem ZS:Elt PG AG 54 56 96:=⟨by kernel_rfl,by kernel_rfl,⟨.agg #[I 0,.string ⟨#[]⟩,.string ⟨#[]⟩,I 0,.complex .f64 0 0,.slice none 0 0,I 0],by kernel_rfl,by kernel_rfl⟩,by decide⟩
theorem V1:Elt PG Kd.bts 68 9 16:=⟨by kernel_rfl,by kernel_rfl,⟨.string ⟨#[]⟩,by kernel_rfl,by kernel_rfl⟩,by decide⟩
abbrev Yl:=kt (EX PG 101 0 0)
abbrev Ym:=kt (EX PG 101 1 1)
abbrev N9:=kt (EX PG 101 2 2)
abbrev Ks:=kt (EX PG 101 3 3)
abbrev Yn:=kt (EX PG 106 0 0)
abbrev VR:=kt (EX PG 106 1 1)
abbrev Yo:=kt (EX PG 106 2 2)
abbrev DX:=kt (EX PG 111 0 0)
abbrev DY:=kt (EX PG 111 1 1)
abbrev Yp:=kt (EX PG 126 0 0)
abbrev Ga:=kt (EX PG 126 1 1)
abbrev Jb:=kt (EX PG 126 2 2)
abbrev VS:=kt (EX PG 126 3 3)
abbrev RG:=kt (EX PG 126 4 4)
abbrev OA:=kt (EX PG 126 5 8)
abbrev VT:=kt (EX PG 134 0 0)
abbrev RH:=kt (EX PG 134 1 1)
abbrev Fp:=kt (EX PG 134 2 2)
abbrev Yq:=kt (EX PG 134 3 3)
abbrev Yr:=kt (EX PG 141 0 0)
abbrev RI:=kt (EX PG 141 1 1)
abbrev Pw:=kt (EX PG 141 2 2)
abbrev VU:=kt (EX PG 141 3 6)
abbrev VW:=kt (EX PG 141 4 7)
abbrev Ys:=kt (EX PG 141 5 8)
abbrev VX:=kt (EX PG 141 6 15)
abbrev Lh:=kt (EX PG 159 0 0)
abbrev Fq:=kt (EX PG 159 1 1)
abbrev VY:=kt (EX PG 159 2 2)
abbrev MD:=kt (EX PG 159 3 3)
abbrev Yt:=kt (EX PG 184 0 0)
abbrev Yu:=kt (EX PG 184 1 7)
abbrev ZT:=kt (EX PG 24 0 0)
abbrev TM:=kt (EX PG 24 1 1)
abbrev ZU:=kt (EX PG 24 2 2)
abbrev Dd:=kt (EX PG 28 0 0)
abbrev JJ:=kt (EX PG 38 0 0)
abbrev HU:=kt (EX PG 38 1 1)
abbrev Kj:=kt (EX PG 38 2 2)
abbrev DV:=kt (EX PG 38 3 3)
abbrev Qh:=kt (EX PG 40 0 0)
abbrev Mx:=kt (EX PG 40 1 1)
abbrev Qi:=kt (EX PG 40 2 5)
abbrev XG:=kt (EX PG 40 3 6)
abbrev XH:=kt (EX PG 40 4 7)
abbrev XI:=kt (EX PG 40 5 8)
abbrev Cp:=kt (EX PG 56 0 0)
abbrev DW:=kt (EX PG 56 1 1)
abbrev MW:=kt (EX PG 56 2 2)
abbrev Kk:=kt (EX PG 56 3 3)
abbrev Qj:=kt (EX PG 56 4 4)
abbrev BR:=kt (EX PG 56 5 5)
abbrev L2:=kt (EX PG 56 6 6)
abbrev MX:=kt (EX PG 58 0 0)
abbrev De:=kt (EX PG 58 1 1)
abbrev NM:=kt (EX PG 58 2 2)
abbrev LO:=kt (EX PG 58 3 3)
abbrev Qk:=kt (EX PG 58 4 10)
abbrev NN:=kt (EX PG 63 0 0)
abbrev PH:=kt (EX PG 63 1 1)
abbrev Ql:=kt (EX PG 76 0 0)
abbrev ZV:=kt (EX PG 76 1 1)
abbrev ZW:=kt (EX PG 76 2 2)
abbrev ZX:=kt (EX PG 76 3 3)
abbrev TN:=kt (EX PG 83 0 0)
abbrev ZY:=kt (EX PG 83 1 1)
abbrev PI:=kt (EX PG 83 2 2)
abbrev ZZ:=kt (EX PG 83 3 3)
abbrev Kl:=kt (EX PG 87 0 0)
abbrev My:=kt (EX PG 87 1 1)
abbrev Qm:=kt (EX PG 87 2 2)
abbrev Za:=kt (EX PG 93 0 0)
abbrev XJ:=kt (EX PG 93 1 1)
abbrev Zb:=kt (EX PG 93 2 2)
abbrev Zc:=kt (EX PG 96 0 0)
abbrev PJ:=kt (EX PG 96 1 4)
abbrev XK:=kt (EX PG 96 2 5)
abbrev V2:=kt (XB PG 90)
abbrev RJ:=kt (Rm PG 159 0 0)
abbrev Yv:=kt (Rm PG 159 3 3)
abbrev Zd:=kt (Rm PG 38 1 1)
abbrev Ze:=kt (Rm PG 38 2 2)
abbrev XL:=kt (Rm PG 63 0 0)
abbrev TO:=kt (X8 PG 96 0 0 4)
theorem AAh:(PG.info? 33).map (·.zero)=some (some (I 0)):=by kernel_rfl
abbrev Ln:=kt (Xp PG 81 3)
theorem AAi:PG.underlying 22=some (.slice 5)/\PG.underlying 5=some (.int .u8):=by exact ⟨by kernel_rfl,by kernel_rfl⟩
theorem AAj:(PG.info? 102).map (·.size)=some 1:=by kernel_rfl
theorem HP:(PG.info? 111).map (·.size)=some 2:=by kernel_rfl
theorem V3:(PG.info? 157).map (·.size)=some 1:=by kernel_rfl
theorem HQ:(PG.info? 159).map (·.size)=some 4:=by kernel_rfl
theorem AAk:(PG.info? 169).map (·.size)=some 1:=by kernel_rfl
theorem ABq:(PG.info? 26).map (·.size)=some 1:=by kernel_rfl
theorem JK:(PG.info? 28).map (·.size)=some 1:=by kernel_rfl
theorem Mz:(PG.info? 3).map (·.size)=some 1:=by kernel_rfl
theorem Xu:(PG.info? 34).map (·.size)=some 1:=by kernel_rfl
theorem Xv:(PG.info? 35).map (·.size)=some 1:=by kernel_rfl
theorem V4:(PG.info? 36).map (·.size)=some 1:=by kernel_rfl
theorem DN:(PG.info? 38).map (·.size)=some 4:=by kernel_rfl
theorem MA:(PG.info? 40).map (·.size)=some 9:=by kernel_rfl
theorem PK:(PG.info? 52).map (·.size)=some 1:=by kernel_rfl
theorem V5:(PG.info? 53).map (·.size)=some 1:=by kernel_rfl
theorem TP:(PG.info? 54).map (·.size)=some 1:=by kernel_rfl
theorem D7:(PG.info? 56).map (·.size)=some 7:=by kernel_rfl
theorem LP:(PG.info? 58).map (·.size)=some 11:=by kernel_rfl
theorem HN:(PG.info? 63).map (·.size)=some 2:=by kernel_rfl
theorem ABr:(PG.info? 76).map (·.size)=some 4:=by kernel_rfl
theorem ABs:(PG.info? 80).map (·.size)=some 1:=by kernel_rfl
theorem ABt:(PG.info? 81).map (·.size)=some 1:=by kernel_rfl
theorem TQ:(PG.info? 87).map (·.size)=some 3:=by kernel_rfl
theorem YE:(PG.info? 9).map (·.size)=some 1:=by kernel_rfl
theorem ABu:(PG.info? 90).map (·.size)=some 1:=by kernel_rfl
theorem J0:(PG.info? 96).map (·.size)=some 6:=by kernel_rfl
abbrev YF:=kt (Ky PG 102)
abbrev Px:=kt (Ky PG 103)
abbrev AAl:=kt (Ky PG 121)
abbrev Kx:=kt (Ky PG 130)
abbrev AAm:=kt (Ky PG 132)
abbrev Py:=kt (Ky PG 157)
abbrev Qn:=kt (Ky PG 169)
abbrev ABv:=kt (Ky PG 22)
abbrev Fr:=kt (Ky PG 26)
abbrev BC:=kt (Ky PG 3)
abbrev NO:=kt (Ky PG 33)
abbrev Dl:=kt (Ky PG 34)
abbrev Gc:=kt (Ky PG 35)
abbrev HO:=kt (Ky PG 36)
abbrev M0:=kt (Ky PG 4)
abbrev NP:=kt (Ky PG 5)
abbrev EF:=kt (Ky PG 52)
abbrev GC:=kt (Ky PG 53)
abbrev CR:=kt (Ky PG 54)
abbrev RK:=kt (Ky PG 80)
abbrev PL:=kt (Ky PG 81)
abbrev Zf:=kt (Ky PG 85)
abbrev B7:=kt (Ky PG 9)
abbrev PM:=kt (Ky PG 90)
theorem AAn:plc PG 101=some [(0,1),(1,1),(2,1),(3,1)]:=by kernel_rfl
theorem Pz:plc PG 106=some [(0,1),(1,1),(2,1)]:=by kernel_rfl
theorem KY:plc PG 111=some [(0,1),(1,1)]:=by kernel_rfl
theorem AAo:plc PG 126=some [(0,1),(1,1),(2,1),(3,1),(4,4),(8,1)]:=by kernel_rfl
theorem AAp:plc PG 134=some [(0,1),(1,1),(2,1),(3,1)]:=by kernel_rfl
theorem Jk:plc PG 141=some [(0,1),(1,1),(2,4),(6,1),(7,1),(8,7),(15,1)]:=by kernel_rfl
theorem V6:plc PG 159=some [(0,1),(1,1),(2,1),(3,1)]:=by kernel_rfl
theorem YG:plc PG 184=some [(0,7),(7,1)]:=by kernel_rfl
theorem Tb.p24:plc PG 24=some [(0,1),(1,1),(2,1)]:=by kernel_rfl
theorem Xw:plc PG 28=some [(0,1)]:=by kernel_rfl
theorem GK:plc PG 38=some [(0,1),(1,1),(2,1),(3,1)]:=by kernel_rfl
theorem NQ:plc PG 40=some [(0,1),(1,4),(5,1),(6,1),(7,1),(8,1)]:=by kernel_rfl
theorem Ns:plc PG 56=some [(0,1),(1,1),(2,1),(3,1),(4,1),(5,1),(6,1)]:=by kernel_rfl
theorem Zg:plc PG 58=some [(0,1),(1,1),(2,1),(3,7),(10,1)]:=by kernel_rfl
theorem M6:plc PG 63=some [(0,1),(1,1)]:=by kernel_rfl
theorem ABw:plc PG 76=some [(0,1),(1,1),(2,1),(3,1)]:=by kernel_rfl
theorem ABx:plc PG 83=some [(0,1),(1,1),(2,1),(3,1)]:=by kernel_rfl
theorem RL:plc PG 87=some [(0,1),(1,1),(2,1)]:=by kernel_rfl
theorem RM:plc PG 93=some [(0,1),(1,1),(2,1)]:=by kernel_rfl
theorem Nt:plc PG 96=some [(0,4),(4,1),(5,1)]:=by kernel_rfl
abbrev AAq:=kt (W3 PG 111)
abbrev Sq:=kt (Np PG 114 3 1)
abbrev V7:=kt (Np PG 121 159 4)
abbrev Ni:=kt (Np PG 149 63 2)
abbrev Qo:=kt (Np PG 181 184 8)
abbrev Jl:=kt (Np PG 204 111 2)
abbrev IC:=kt (Np PG 22 5 1)
abbrev FA:=kt (Np PG 26 58 11)
abbrev Fs:=kt (Np PG 29 38 4)
abbrev HB:=kt (Np PG 36 35 1)
abbrev Df:=kt (Np PG 52 87 3)
abbrev CG:=kt (Np PG 54 56 7)
abbrev IT:=kt (Np PG 68 9 1)
theorem Zh:PG.underlying 33=some (.int .i64):=by kernel_rfl
theorem J2:PG.underlying 9=some .string:=by kernel_rfl
theorem ABy:PG.underlying 4=some .bool:=by kernel_rfl
theorem AAr{ρ:Env}{a:World}{d:Option Nat}{ty:Nat}{pos:String}{af:Array Edge}{g:Option (Nat×Bool)}{xs:List Operand}{vs:List Value}{v:Value}{ts:Array Nat}(hv:xs.map (ev ρ)=vs)(hr:((Extern.MathFloor.toIntegral "math.archTrunc" .zero) vs.toArray).run PG a= .ok v a):
 (execOp (ev ρ) ⟨d,.call {callee:= .value (.func 135),args:=xs.toArray,argTypes:=ts},ty,pos,af,g⟩).run PG a= .ok (.value v) a:=Run.ext Tryz.func135 (by kernel_rfl) dcd (by kernel_rfl) (show Extern.find Tryz.f135=some (Extern.MathFloor.toIntegral "math.archTrunc" .zero) by kernel_rfl) hv hr
theorem RN{ρ:Env}{a:World}{d:Option Nat}{ty:Nat}{pos:String}{af:Array Edge}{g:Option (Nat×Bool)}{xs:List Operand}{vs:List Value}{v:Value}{ts:Array Nat}(hv:xs.map (ev ρ)=vs)(hr:(Extern.MathFloatBits.float64frombits vs.toArray).run PG a=.ok v a):
 (execOp (ev ρ) ⟨d,.call {callee:=.value (.func 63),args:=xs.toArray,argTypes:=ts},ty,pos,af,g⟩).run PG a=.ok (.value v) a:=Run.ext Tryz.func63 (by kernel_rfl) dcd (by kernel_rfl) (show Extern.find Tryz.f63=some Extern.MathFloatBits.float64frombits by kernel_rfl) hv hr
theorem PO{ρ:Env}{a:World}{d:Option Nat}{ty:Nat}{pos:String}{af:Array Edge}{g:Option (Nat×Bool)}{xs:List Operand}{vs:List Value}{v:Value}{ts:Array Nat}(hv:xs.map (ev ρ)=vs)(hr:(Extern.MathFloatBits.float64bits vs.toArray).run PG a=.ok v a):
 (execOp (ev ρ) ⟨d,.call {callee:=.value (.func 93),args:=xs.toArray,argTypes:=ts},ty,pos,af,g⟩).run PG a=.ok (.value v) a:=Run.ext Tryz.func93 (by kernel_rfl) dcd (by kernel_rfl) (show Extern.find Tryz.f93=some Extern.MathFloatBits.float64bits by kernel_rfl) hv hr
theorem AAs:(PG.info? 101).map (·.zero)=some (some (.agg #[.slice none 0 0,I 0,I 0,I 0])):=by kernel_rfl
theorem P0:(PG.info? 106).map (·.zero)=some (some (.agg #[.string ⟨#[]⟩,.pointer none,.pointer none])):=by kernel_rfl
theorem Eg:(PG.info? 111).map (·.zero)=some (some (.agg #[I 0,I 0])):=by kernel_rfl
theorem AAt:(PG.info? 126).map (·.zero)=some (some (.agg #[.slice none 0 0,I 0,I 0,I 0,I 0,I 0,I 0,I 0,I 0])):=by kernel_rfl
theorem AAu:(PG.info? 134).map (·.zero)=some (some (.agg #[.map none,.slice none 0 0,.slice none 0 0,.nilFunc])):=by kernel_rfl
theorem Jm:(PG.info? 141).map (·.zero)=some (some (.agg #[.bool false,.bool false,I 0,.complex .f64 0 0,.bool false,.slice none 0 0,.pointer none,.pointer none,I 0,.string ⟨#[]⟩,.string ⟨#[]⟩,I 0,.complex .f64 0 0,.slice none 0 0,I 0,.pointer none])):=by kernel_rfl
theorem HC:(PG.info? 159).map (·.zero)=some (some (.agg #[I 0,.string ⟨#[]⟩,.complex .f64 0 0,I 0])):=by kernel_rfl
theorem AAv:(PG.info? 169).map (·.zero)=some (some .nilFunc):=by kernel_rfl
theorem Su:(PG.info? 184).map (·.zero)=some (some (.agg #[I 0,.string ⟨#[]⟩,.string ⟨#[]⟩,I 0,.complex .f64 0 0,.slice none 0 0,I 0,.bool false])):=by kernel_rfl
theorem ABz:(PG.info? 24).map (·.zero)=some (some (.agg #[.slice none 0 0,.string ⟨#[]⟩,.string ⟨#[]⟩])):=by kernel_rfl
theorem KP:(PG.info? 28).map (·.zero)=some (some (.agg #[.slice none 0 0])):=by kernel_rfl
theorem ACe:(PG.info? 3).map (·.zero)=some (some (I 0)):=by kernel_rfl
theorem V8:(PG.info? 35).map (·.zero)=some (some (.complex .f64 0 0)):=by kernel_rfl
theorem Cm:(PG.info? 38).map (·.zero)=some (some (.agg #[I 0,.complex .f64 0 0,.bool false,.slice none 0 0])):=by kernel_rfl
theorem LQ:(PG.info? 40).map (·.zero)=some (some (.agg #[I 0,I 0,.complex .f64 0 0,.bool false,.slice none 0 0,I 0,I 0,I 0,I 0])):=by kernel_rfl
theorem Zi:(PG.info? 5).map (·.zero)=some (some (.int .u8 0)):=by kernel_rfl
theorem Dm:(PG.info? 56).map (·.zero)=some (some (.agg #[I 0,.string ⟨#[]⟩,.string ⟨#[]⟩,I 0,.complex .f64 0 0,.slice none 0 0,I 0])):=by kernel_rfl
theorem KZ:(PG.info? 58).map (·.zero)=some (some (.agg #[.string ⟨#[]⟩,.slice none 0 0,I 0,I 0,.string ⟨#[]⟩,.string ⟨#[]⟩,I 0,.complex .f64 0 0,.slice none 0 0,I 0,I 0])):=by kernel_rfl
theorem FR:(PG.info? 63).map (·.zero)=some (some (.agg #[I 0,I 0])):=by kernel_rfl
theorem Zj:(PG.info? 76).map (·.zero)=some (some (.agg #[I 0,I 0,I 0,I 0])):=by kernel_rfl
theorem AB0:(PG.info? 80).map (·.zero)=some (some (.pointer none)):=by kernel_rfl
theorem AB1:(PG.info? 81).map (·.zero)=some (some (.map none)):=by kernel_rfl
theorem AB2:(PG.info? 83).map (·.zero)=some (some (.agg #[.map none,.slice none 0 0,I 0,I 0])):=by kernel_rfl
theorem Lo:(PG.info? 87).map (·.zero)=some (some (.agg #[.string ⟨#[]⟩,I 0,I 0])):=by kernel_rfl
theorem QB:(PG.info? 9).map (·.zero)=some (some (.string ⟨#[]⟩)):=by kernel_rfl
theorem RO:(PG.info? 93).map (·.zero)=some (some (.agg #[.string ⟨#[]⟩,.nilFunc,.pointer none])):=by kernel_rfl
theorem LR:(PG.info? 96).map (·.zero)=some (some (.agg #[I 0,.complex .f64 0 0,.bool false,.slice none 0 0,.nilFunc,.nilFunc])):=by kernel_rfl
theorem AB3:(PG.info? 5).map (·.zero)=some (some (.int .u8 0)):=by kernel_rfl
theorem Yw(e f:Value)(d:World):
  CallsD PG 32 [e,f].toArray .returning d λg u' l=>(∃v,g=.returned v)/\u'=.returning/\l=d:=by
 refine PE (rv:=.nilIface) (u1:=.returning) Tryz.func32 Z Tryz.ntmps32 Z (λc cs h=>.inr ⟨Ug c cs h,Z,Z⟩) λc cs K hu hK m n=>LS.recover (v:=.nilIface) (cs':=m) Z (.none Z) Z Z Rw n<|LS.val Z (.none Z) Z Z (Ue Zh AAh Z)<|LS.val Z (.none Z) Z Z (v:=.tuple #[I 0,.bool false]) (Mv Z)<|LS.val Z (.none Z) Z Z (v:=I 0) Z<|LS.val Z (.none Z) Z Z (v:=.bool false) Z<|LS.val Z (.none Z) Z Z (v:=I 0) (Run.assign Z)<|LS.val Z (.none Z) Z Z (v:=.bool false) (Run.assign Z)<|LS.nil λa ha=>⟨Z,_,ha,hK _ _ ?_⟩
 refine Sr<|Vm<|AA<|OG (t:=false) Z (λh=>by cases h) λh=>AR<|⟨.tuple #[],λtmps _=>by rw [Mg,show Tryz.f32.results=#[] from Z];simp,⟨_,Z⟩,Z,Z⟩
theorem Rx(d:Col)(e:World)(l f:Nat)(o p:Int)(q:Cpl)(r:Bool)(s:Value)(u w z aa:Int)(m:Nat)(ab ac:Value)(g ad y:Int)(ae:Bk d e 24 l [Pt m 0] 80)(af:Bk d e 21 f [I o,I p,Cx q,.bool r,s,I u,I w,I z,I aa] 40)(ag:Bk d e 23 m [ab,ac,I g,I ad] 83):
  CallsD PG 32 [Pt l 0,Pt f 0].toArray (.panicking [{v:=.iface 33 (I y),recovered:=false}]) e λah u' n=>(∃v,ah=.returned v)/\u'=.panicking [{v:=.iface 33 (I y),recovered:=true}]/\Bk d n 21 f [I y,I 0,Cx (((0,0):Cpl)),.bool false,.slice none 0 0,I g,I 0,I 0,I 0] 40/\AU [21] d e d n:=by
 refine PE (rv:=(.iface 33 (I y))) (u1:=.panicking [{v:=.iface 33 (I y),recovered:=true}]) Tryz.func32 Z Tryz.ntmps32 Z (λc cs h=>.inl (Vw c cs h)) λc cs K hu hK ai aj=>LS.recover (v:=(.iface 33 (I y))) (cs':=ai) Z (.none Z) Z Z Rw aj<|LS.val Z (.none Z) Z Z (Uf Zh Z)<|LS.val Z (.none Z) Z Z (v:=.tuple #[I y,.bool true]) (Mv Z)<|LS.val Z (.none Z) Z Z (v:=I y) Z<|LS.val Z (.none Z) Z Z (v:=.bool true) Z<|LS.val Z (.none Z) Z Z (v:=I y) (Run.assign Z)<|LS.val Z (.none Z) Z Z (v:=.bool true) (Run.assign Z)<|LS.nil λa ha=>⟨Z,_,ha,hK _ _ ?_⟩
 refine Sr<|Vm<|AA<|OG (t:=true) Z (λh=>?_) (λh=>by cases h)
 refine AM<|Vm<|Vx (Ld RK Z (Bc ae Z))<|Vx (Nc Z)<|Vx (Fd PI Z)<|Vx (Ld BC Z (Bc ag Z))<|Vx (v:=Ag [I y,I 0,Cx (((0,0):Cpl)),.bool false,.slice none 0 0,I g,I 0,I 0,I 0]) (Bp LQ NQ Z (.cons Z Z Z (.cons Z Z Z .nil)))<|Eu<|St MA af Z Z Z Z λam ak al=>AA<|⟨.tuple #[],λtmps _=>by rw [Mg,show Tryz.f32.results=#[] from Z];simp,⟨_,Z⟩,Z,ak,(Mo [21] al)⟩
def KV.At(h:Col)(a:World)(f:Option Aj):Prop:=
 ∀{c},f=some c->
  Calls PG 27 #[] a λl d=>∃e g,l=.returned (Ag g)/\AU [] h a e d/\L9.rep e.F d g c
def KV.Spec(f:Option Aj):Prop:=
 ∀a c,KV.At a c f
theorem TR(a:Col)(d:World)(e:∀b,a b<10):KV.At a d KV:=by
 intro o c
 rw [KV] at c
 refine Az Tryz.func27 Z Tryz.ntmps27 Z λB f p=>Sr<|Ef<|Aa a 20 Zj Z λg q r h l=>AA<|Sr<|Vx (v:=Ag [I 32768,I 32768,I 32768,I 32768]) (Bp Zj ABw Z (.cons Z Z Z (.cons Z Z Z (.cons Z Z Z (.cons Z Z Z .nil)))))<|Eu<|St ABr h Z Z Z Z λs m n=>AA<|AS ?_
 obtain rfl:=AK c
 refine O1 B f Z (.agg ZQ Z Z (Bw m))<|⟨g,[I 32768,I 32768,I 32768,I 32768],Z,Ho (Tn (Mo [20] l) n) e,(FV (x:=(Aj.mk 32768 32768 32768 32768)))⟩
theorem L3:KV.Spec KV:=lk0 (TR)
def Hp.At(e:Col)(a:World)(f:UInt8->Option Bool):Prop:=
 ∀{c d},f c=some d->
  Calls PG 71 #[U8 c] a λg h=>∃l,g=.returned (.bool d)/\AU [] e a l h
def Hp.Spec(f:UInt8->Option Bool):Prop:=
 ∀a c,Hp.At a c f
theorem R4(c:Col)(m:World)(p:∀b,c b<10):Hp.At c m Hp:=by
 intro g q a
 rw [Hp] at a
 refine Az Tryz.func71 Z Tryz.ntmps71 Z λB r w=>Sr<|Va (.bool false)<|AA<|Am (λs n=>∃o h l,s=Env.puts o [(2,.bool l)]/\It l=some q/\AU [] c m h n) ?_ ?_
 refine AM<|Vm<|Vr (.bool ((g.toNat:Int)==((9:UInt8).toNat:Int)))<|Vm<|Bo a (λd a=>?_) λd a=>?_
 refine Pg d<|Pg d<|Vp d<|Vm<|Pg Z<|Pg Z<|Vr (.bool true)<|Vm<|Pg Z<|Pg Z<|Vr (.bool true)<|Va (.bool true)<|AA<|⟨_,c,true,Pu,a,Rf⟩
 refine Gm d<|Gr d (.bool ((g.toNat:Int)==((10:UInt8).toNat:Int)))<|Vp d<|Vm<|Bo a (λe a=>?_) λe a=>?_
 refine Pg e<|Pg e<|Vp e<|Vm<|Pg Z<|Pg Z<|Vr (.bool true)<|Va (.bool true)<|AA<|⟨_,c,true,Pu,a,Rf⟩
 refine Gm e<|Gr e (.bool ((g.toNat:Int)==((13:UInt8).toNat:Int)))<|Vp e<|Vm<|Bo a (λf a=>?_) λf a=>?_
 refine Pg f<|Pg f<|Vp f<|Va (.bool true)<|AA<|⟨_,c,true,Pu,a,Rf⟩
 refine Gm f<|Gr f (.bool ((g.toNat:Int)==((32:UInt8).toNat:Int)))<|Vp f<|Va (.bool ((g.toNat:Int)==((32:UInt8).toNat:Int)))<|AA<|⟨_,c,((g.toNat:Int)==((32:UInt8).toNat:Int)),Pu,a,Rf⟩
 rintro _ n ⟨o,h,l,rfl,a,u⟩
 rw [It] at a
 refine AS ?_
 obtain rfl:=AK a
 refine O1 B r Z (.tmp Z)<|⟨h,Z,Ho (Mo [] u) p⟩
theorem TS:Hp.Spec Hp:=lk0 (R4)
def Gj.At(e:Col)(a:World)(f:UInt8->Option Bool):Prop:=
 ∀{c d},f c=some d->
  Calls PG 128 #[U8 c] a λg h=>∃l,g=.returned (.bool d)/\AU [] e a l h
def Gj.Spec(f:UInt8->Option Bool):Prop:=
 ∀a c,Gj.At a c f
theorem RP(e:Col)(n:World)(q:∀b,e b<10):Gj.At e n Gj:=by
 intro d r a
 rw [Gj] at a
 refine Az Tryz.func128 Z Tryz.ntmps128 Z λB s y=>Sr<|Va (.bool false)<|AA<|Am (λu o=>∃p l m,u=Env.puts p [(2,.bool m)]/\HF m=some r/\AU [] e n l o) ?_ ?_
 refine AM<|Vm<|Vr (.bool (decide ((d.toNat:Int)>=((65:UInt8).toNat:Int))))<|Vm<|Bo a (λf a=>?_) λf a=>?_
 refine Gm f<|Gr f (.bool (decide ((d.toNat:Int)<=((90:UInt8).toNat:Int))))<|Vp f<|Vm<|Bo a (λc a=>?_) λc a=>?_
 refine Pg c<|Pg c<|Pg c<|Po<|Po<|Pg c<|Vp c<|Va (.bool true)<|AA<|⟨_,e,true,Pu,a,Rf⟩
 refine Gm c<|Gr c (.bool (decide ((d.toNat:Int)>=((97:UInt8).toNat:Int))))<|Gm c<|Bo a (λg a=>?_) λg a=>?_
 refine Gm g<|Gr g (.bool (decide ((d.toNat:Int)<=((122:UInt8).toNat:Int))))<|Gp c g<|Vp c<|Va (.bool (decide ((d.toNat:Int)<=((122:UInt8).toNat:Int))))<|AA<|⟨_,e,(decide ((d.toNat:Int)<=((122:UInt8).toNat:Int))),Pu,a,Rf⟩
 refine Pg g<|Pg g<|Gp c g<|Vp c<|Va (.bool false)<|AA<|⟨_,e,false,Pu,a,Rf⟩
 refine Pg f<|Pg f<|Vp f<|Vm<|Gm Z<|Gr Z (.bool (decide ((d.toNat:Int)>=((97:UInt8).toNat:Int))))<|Gm Z<|Bo a (λh a=>?_) λh a=>?_
 refine Gm h<|Gr h (.bool (decide ((d.toNat:Int)<=((122:UInt8).toNat:Int))))<|Gp Z h<|Vr (.bool (decide ((d.toNat:Int)<=((122:UInt8).toNat:Int))))<|Va (.bool (decide ((d.toNat:Int)<=((122:UInt8).toNat:Int))))<|AA<|⟨_,e,(decide ((d.toNat:Int)<=((122:UInt8).toNat:Int))),Pu,a,Rf⟩
 refine Pg h<|Pg h<|Gp Z h<|Vr (.bool false)<|Va (.bool false)<|AA<|⟨_,e,false,Pu,a,Rf⟩
 rintro _ o ⟨p,l,m,rfl,a,w⟩
 rw [HF] at a
 refine AS ?_
 obtain rfl:=AK a
 refine O1 B s Z (.tmp Z)<|⟨l,Z,Ho (Mo [] w) q⟩
theorem R5:Gj.Spec Gj:=lk0 (RP)
def HG.At(e:Col)(a:World)(f:UInt8->Option Bool):Prop:=
 ∀{c d},f c=some d->
  Calls PG 98 #[U8 c] a λg h=>∃l,g=.returned (.bool d)/\AU [] e a l h
def HG.Spec(f:UInt8->Option Bool):Prop:=
 ∀a c,HG.At a c f
theorem R6(d:Col)(h:World)(n:∀b,d b<10):HG.At d h HG:=by
 intro e o a
 rw [HG] at a
 refine Az Tryz.func98 Z Tryz.ntmps98 Z λB p s=>Sr<|Va (.bool false)<|AA<|Am (λq l=>∃m f g,q=Env.puts m [(2,.bool g)]/\K5 g=some o/\AU [] d h f l) ?_ ?_
 refine AM<|Vm<|Vr (.bool (decide ((e.toNat:Int)>=((48:UInt8).toNat:Int))))<|Vm<|Bo a (λc a=>?_) λc a=>?_
 refine Gm c<|Gr c (.bool (decide ((e.toNat:Int)<=((57:UInt8).toNat:Int))))<|Vp c<|Va (.bool (decide ((e.toNat:Int)<=((57:UInt8).toNat:Int))))<|AA<|⟨_,d,(decide ((e.toNat:Int)<=((57:UInt8).toNat:Int))),Pu,a,Rf⟩
 refine Pg c<|Pg c<|Vp c<|Va (.bool false)<|AA<|⟨_,d,false,Pu,a,Rf⟩
 rintro _ l ⟨m,f,g,rfl,a,r⟩
 rw [K5] at a
 refine AS ?_
 obtain rfl:=AK a
 refine O1 B p Z (.tmp Z)<|⟨f,Z,Ho (Mo [] r) n⟩
theorem PP:HG.Spec HG:=lk0 (R6)
def Ip.At(c:Col)(a:World)(f:Bts->Int->Option Int):Prop:=
 ∀{d v0 e g},f d e=some g->Slc Kd.u8 c.F a v0 d->
  Calls PG 97 #[v0,I e] a λh l=>∃m,h=.returned (I g)/\AU [] c a m l
def Ip.Spec(f:Bts->Int->Option Int):Prop:=
 ∀a c,Ip.At a c f
theorem Uh(ag:Nat)(q:Col)(ah:World)(av:∀b,q b<10):Ip.At q ah (Ip ag):=by
 intro h v0 g y a ai
 rw [Ip] at a
 obtain ⟨aj,ak,rfl⟩:=AW ai
 refine Az Tryz.func97 Z Tryz.ntmps97 Z λB aw a8=>Sr<|Va (I 0)<|AA<|Sr<|Va (I 0)<|AA<|AT<|Ah<|Bj (λl z n=>∃o m f,z=Env.puts o [(0,Sl aj h ak),(1,I g),(5,I f)]/\E5 h g l f=some y/\AU [] q ah m n) ag ?_ ?_
 exact ⟨_,q,0,Pu,a,Rf⟩
 rintro l _ n ⟨o,m,f,rfl,a,aa⟩
 rcases l with _|l
 exact A5 a
 refine have a:Gg h g (E5 h g l) f=some y:=a; ?_
 obtain ⟨ax,al⟩:∃s,s=E5 h g l:=⟨_,rfl⟩
 rw [<-al,Gg] at a
 refine AT<|Am (λz am=>∃o r ab,z=Env.puts o [(0,Sl aj h ak),(1,I g),(5,I f),(38,.bool ab)]/\Gk f ax ab=some y/\AU [] m n r am) ?_ ?_
 refine AM<|Vm<|Vm<|Vr (I (Wr (g+f)))<|Vm<|have an:=Ss Kd.u8 ai aa; ?_
 obtain ⟨a9,ba,ay⟩:=AW an
 refine Vx (v:=I (h.length:Int)) (Ll IC ay)<|Vr (.bool (decide ((Wr (g+f))< (h.length:Int))))<|Vm<|Bo a (λc a=>?_) λc a=>?_
 refine Gm c<|Gm c<|Gm c<|Gr c (I (Wr (g+f)))<|Bi a λp az a=>?_
 obtain ⟨a0,a1,bb,ao,ac,ad,ae,a2,u⟩:=A8 (κ:=Kd.u8) an az
 replace u:Ay m n a0 (a1+((Wr (g+f))).toNat*1) ao:=u
 obtain rfl:=(show ao=[U8 p] from a2)
 refine Gx c (Ix IC ac Z ad ae)<|Gx c (Ld NP Z (Ay.cell0 u Z))<|Bi a λbc a3 a=>CQ (.guard (t:=true) (b:=true) Z Z Z Z (Cb c)) Z Z (Cg [U8 p] Z)<|Calls.mono (R5 m n a3) ?_
 rintro _ a4 ⟨ap,rfl,w⟩
 refine ⟨_,Z,?_⟩
 refine Gm c<|Bo a (λd a=>?_) λd a=>?_
 refine Pg d<|Pg d<|Pg d<|Pg d<|Pg d<|Pg d<|Pg d<|Gp c d<|Gm c<|Pg Z<|Pg Z<|Pg Z<|Pg Z<|Pg Z<|Pg Z<|Pg Z<|Gr c (.bool true)<|Vp c<|AA<|⟨_,ap,true,Pu,a,(Mo [] w)⟩
 refine Gm d<|Gm d<|Gm d<|Gr d (I (Wr (g+f)))<|Gx d (Ix IC ac Z ad ae)<|have aq:=Es u w;Gx d (Ld NP Z (Ay.cell0 aq Z))<|Bi a λbd a5 a=>CQ (.guard (t:=false) (b:=false) Z Z Z Z (Cb d)) Z Z (Cg [U8 p] Z)<|Calls.mono (PP ap a4 a5) ?_
 rintro _ be ⟨ar,rfl,af⟩
 refine ⟨_,Z,?_⟩
 refine Gp c d<|Gm c<|Bo a (λe a=>?_) λe a=>?_
 refine Pg e<|Pg e<|Pg e<|Pg e<|Pg e<|Pg e<|Pg e<|Gp c e<|Vp c<|AA<|⟨_,ar,true,Pu,a,(Tn (Mo [] w) af)⟩
 refine Gm e<|Gm e<|Gm e<|Gr e (I (Wr (g+f)))<|Gx e (Ix IC ac Z ad ae)<|have a6:=Es aq af;Gx e (Ld NP Z (Ay.cell0 a6 Z))<|Gr e (.bool ((p.toNat:Int)==((95:UInt8).toNat:Int)))<|Gp c e<|Vp c<|AA<|⟨_,ar,((p.toNat:Int)==((95:UInt8).toNat:Int)),Pu,a,(Tn (Mo [] w) af)⟩
 refine Pg c<|Pg c<|Pg c<|Pg c<|Pg c<|Pg c<|Pg c<|Pg c<|Po<|Po<|Po<|Po<|Po<|Po<|Po<|Pg c<|Pg c<|Po<|Po<|Po<|Po<|Po<|Po<|Po<|Pg c<|Vp c<|AA<|⟨_,m,false,Pu,a,Rf⟩
 rintro _ am ⟨o,r,ab,rfl,a,au⟩
 rw [Gk] at a
 refine Cn a (λa7 a=>?_) λa7 a=>?_
 refine AR<|Ah<|AM<|Vm<|Vr (I (Wr (f+1)))<|Va (I (Wr (f+1)))<|AA<|⟨l,Nat.lt_succ_self l,_,r,(Wr (f+1)),Pu,(al▸a),(Tn (Mo [] aa) au)⟩
 refine BX<|Sr<|Vm<|Va (I f)<|AA<|AS ?_
 obtain rfl:=AK a
 refine O1 B aw Z (.tmp Z)<|⟨r,Z,Ho (Tn (Mo [] aa) au) av⟩
theorem V9(c:Nat):Ip.Spec (Ip c):=lk0 (Uh c)
def FD.At(e:Col)(c:World)(f:Bts->Option (Int×Int)):Prop:=
 ∀{d a},f d=some a->
  Calls PG 107 #[Sb d] c λg h=>∃l,g=.returned (.tuple #[I a.1,I a.2])/\AU [] e c l h
def FD.Spec(f:Bts->Option (Int×Int)):Prop:=
 ∀a c,FD.At a c f
theorem R7(y:Nat)(r:Col)(ac:World)(an:∀b,r b<10):FD.At r ac (FD y):=by
 intro d u a
 rw [FD] at a
 refine Az Tryz.func107 Z Tryz.ntmps107 Z λB ao a7=>Sr<|Va (I 0)<|Va (I 0)<|AA<|Sr<|Va (I 0)<|AA<|Am (λn ad=>∃e z f,n=Env.puts e [(0,Sb d),(4,I f)]/\Iu y d f=some u/\AU [] r ac z ad) ?_ ?_
 refine Am (λn ap=>∃e aa ae,n=Env.puts e [(0,Sb d),(4,I 0),(14,.bool ae)]/\Hq y d ae=some u/\AU [] r ac aa ap) ?_ ?_
 refine AM<|Vm<|Vx (v:=I (d.length:Int)) (Run.lenStr J2 Z)<|Vr (.bool (decide ((d.length:Int)>0)))<|Vm<|Bo a (λo a=>?_) λo a=>?_
 refine Gm o<|Bi a λaf ax a=>Gx o (v:=U8 af) (Run.indexBs J2 Z Z ax)<|Gr o (.bool ((af.toNat:Int)==((45:UInt8).toNat:Int)))<|Vp o<|AA<|⟨_,r,((af.toNat:Int)==((45:UInt8).toNat:Int)),Pu,a,Rf⟩
 refine Pg o<|Pg o<|Pg o<|Vp o<|AA<|⟨_,r,false,Pu,a,Rf⟩
 rintro _ ap ⟨e,aa,ae,rfl,a,aq⟩
 rw [Hq] at a
 refine Cn a (λay a=>?_) λay a=>?_
 refine AM<|Va (I 1)<|AA<|⟨_,aa,1,Pu,a,(Mo [] aq)⟩
 refine AR<|⟨_,aa,0,Pu,a,(Mo [] aq)⟩
 rintro _ ad ⟨e,z,f,rfl,a,ar⟩
 rw [Iu] at a
 refine Sr<|Va (I 0)<|AA<|Sr<|Vm<|Va (I f)<|AA<|AT<|Ah<|Bj (λp n ag=>∃e w c g,n=Env.puts e [(0,Sb d),(4,I f),(5,I c),(6,I g)]/\Ei d f p c g=some u/\AU [] z ad w ag) y ?_ ?_
 exact ⟨_,z,0,f,Pu,a,Rf⟩
 rintro p _ ag ⟨e,w,c,g,rfl,a,ah⟩
 rcases p with _|p
 exact A5 a
 refine have a:FW d f (Ei d f p) c g=some u:=a; ?_
 obtain ⟨az,au⟩:∃s,s=Ei d f p:=⟨_,rfl⟩
 rw [<-au,FW] at a
 refine AT<|Am (λn ai=>∃e q aj,n=Env.puts e [(0,Sb d),(4,I f),(5,I c),(6,I g),(31,.bool aj)]/\FC d f c g az aj=some u/\AU [] w ag q ai) ?_ ?_
 refine AM<|Vm<|Vm<|Vx (v:=I (d.length:Int)) (Run.lenStr J2 Z)<|Vr (.bool (decide (g< (d.length:Int))))<|Vm<|Bo a (λh a=>?_) λh a=>?_
 refine Gm h<|Gm h<|Bi a λav a0 a=>Gx h (v:=U8 av) (Run.indexBs J2 Z Z a0)<|Gr h (.bool (decide ((av.toNat:Int)>=((48:UInt8).toNat:Int))))<|Vp h<|Vm<|Bo a (λl a=>?_) λl a=>?_
 refine Gm l<|Gm l<|Bi a λak a1 a=>Gx l (v:=U8 ak) (Run.indexBs J2 Z Z a1)<|Gr l (.bool (decide ((ak.toNat:Int)<=((57:UInt8).toNat:Int))))<|Vp l<|AA<|⟨_,w,(decide ((ak.toNat:Int)<=((57:UInt8).toNat:Int))),Pu,a,Rf⟩
 refine Pg l<|Pg l<|Pg l<|Pg l<|Vp l<|AA<|⟨_,w,false,Pu,a,Rf⟩
 refine Pg h<|Pg h<|Pg h<|Pg h<|Vp h<|Vm<|Pg Z<|Pg Z<|Pg Z<|Pg Z<|Vr (.bool false)<|AA<|⟨_,w,false,Pu,a,Rf⟩
 rintro _ ai ⟨e,q,aj,rfl,a,al⟩
 rw [FC] at a
 refine Cn a (λa2 a=>?_) λa2 a=>?_
 refine AR<|Ah<|Sr<|Vm<|Vr (I (Wr (10*c)))<|Vm<|Vm<|Bi a λm a3 a=>Vx (v:=U8 m) (Run.indexBs J2 Z Z a3)<|Vx (v:=.int .u8 (((u8c ((m.toNat:Int) - ((48:UInt8).toNat:Int)))).toNat:Int)) (ABc Z)<|Vr (I (Wr (((u8c ((m.toNat:Int) - ((48:UInt8).toNat:Int)))).toNat:Int)))<|Vr (I (Wr ((Wr (10*c))+(Wr (((u8c ((m.toNat:Int) - ((48:UInt8).toNat:Int)))).toNat:Int)))))<|Vx (v:=I (if 16777217< (Wr ((Wr (10*c))+(Wr (((u8c ((m.toNat:Int) - ((48:UInt8).toNat:Int)))).toNat:Int)))) then 16777217 else (Wr ((Wr (10*c))+(Wr (((u8c ((m.toNat:Int) - ((48:UInt8).toNat:Int)))).toNat:Int)))))) (Run.min Z Z)<|Va (I (if 16777217< (Wr ((Wr (10*c))+(Wr (((u8c ((m.toNat:Int) - ((48:UInt8).toNat:Int)))).toNat:Int)))) then 16777217 else (Wr ((Wr (10*c))+(Wr (((u8c ((m.toNat:Int) - ((48:UInt8).toNat:Int)))).toNat:Int))))))<|AA<|AM<|Vm<|Vr (I (Wr (g+1)))<|Va (I (Wr (g+1)))<|AA<|⟨p,Nat.lt_succ_self p,_,q,(if 16777217< (Wr ((Wr (10*c))+(Wr (((u8c ((m.toNat:Int) - ((48:UInt8).toNat:Int)))).toNat:Int)))) then 16777217 else (Wr ((Wr (10*c))+(Wr (((u8c ((m.toNat:Int) - ((48:UInt8).toNat:Int)))).toNat:Int))))),(Wr (g+1)),Pu,(au▸a),(Tn (Mo [] ah) al)⟩
 refine BX<|AT<|Sr<|Vm<|Vm<|Vr (.bool (g==f))<|AA<|Cn a (λa4 a=>?_) λa4 a=>?_
 refine Sr<|Va (I 0)<|Va (I 0)<|AA<|AS ?_
 obtain rfl:=AK a
 refine O2 B ao Z (.tmp Z) (.tmp Z)<|⟨q,Z,Ho (T2 (Mo [] ar) ah al) an⟩
 refine AR<|Am (λn aw=>∃e am ab,n=Env.puts e [(5,I ab),(6,I g)]/\MH g ab=some u/\AU [] q ai am aw) ?_ ?_
 refine Sr<|Vm<|Vr (.bool (f==1))<|AA<|Cn a (λa5 a=>?_) λa5 a=>?_
 refine AM<|Vm<|Vr (I (Wr (0 - c)))<|Va (I (Wr (0 - c)))<|AA<|⟨_,q,(Wr (0 - c)),Pu,a,Rf⟩
 refine AR<|⟨_,q,c,Pu,a,Rf⟩
 rintro _ aw ⟨e,am,ab,rfl,a,a6⟩
 rw [MH] at a
 refine Sr<|Vm<|Vm<|Va (I ab)<|Va (I g)<|AA<|AS ?_
 obtain rfl:=AK a
 refine O2 B ao Z (.tmp Z) (.tmp Z)<|⟨am,Z,Ho (T3 (Mo [] ar) ah al a6) an⟩
theorem PQ(c:Nat):FD.Spec (FD c):=lk0 (R7 c)
def Hr.At(d:Col)(a:World)(f:Af->Option (Af×Int)):Prop:=
 ∀{e g c},f e=some c->Bm.rep d.F a g e->
  Calls PG 108 #[Ag g] a λn h=>∃l m,n=.returned (.tuple #[Ag m,I c.2])/\AU [] d a l h/\Bm.rep l.F h m c.1
def Hr.Spec(f:Af->Option (Af×Int)):Prop:=
 ∀a c,Hr.At a c f
theorem WB(o:Col)(aa:World)(q:∀b,o b<10):Hr.At o aa Hr:=by
 intro c aq ab a ac
 rw [Hr] at a
 obtain rfl:=A7 ac
 refine Az Tryz.func108 Z Tryz.ntmps108 Z λB r ar=>Sr<|Ef<|A0 o 20 Z Z λad au ae s u=>Ef<|Aa ad 21 Eg Z λg af ag w l=>Va (I 0)<|AA<|AT<|Am (λah y=>∃z m p,ah=Env.puts z [(1,Pt ae 0),(2,Pt ag 0),(21,.bool p)]/\KS c p=some ab/\AU [] g af m y) ?_ ?_
 refine AM<|Vx (Fz DX Z)<|have n:=Bs s l;Vx (Ld BC Z (Bc n Z))<|Vr (.bool (decide (c.re< (-16777216:Int))))<|Vm<|Bo a (λd a=>?_) λd a=>?_
 refine Pg d<|Pg d<|Pg d<|Vp d<|Vm<|Pg Z<|Pg Z<|Pg Z<|Vr (.bool true)<|Vm<|Pg Z<|Pg Z<|Pg Z<|Vr (.bool true)<|AA<|⟨_,g,true,Pu,a,Rf⟩
 refine Gx d (Fz DX Z)<|Gx d (Ld BC Z (Bc n Z))<|Gr d (.bool (decide (c.re>16777216)))<|Vp d<|Vm<|Bo a (λe a=>?_) λe a=>?_
 refine Pg e<|Pg e<|Pg e<|Vp e<|Vm<|Pg Z<|Pg Z<|Pg Z<|Vr (.bool true)<|AA<|⟨_,g,true,Pu,a,Rf⟩
 refine Gx e (Fd DY Z)<|Gx e (Ld BC Z (Bc n Z))<|Gr e (.bool (decide (c.im< (-16777216:Int))))<|Vp e<|Vm<|Bo a (λf a=>?_) λf a=>?_
 refine Pg f<|Pg f<|Pg f<|Vp f<|AA<|⟨_,g,true,Pu,a,Rf⟩
 refine Gx f (Fd DY Z)<|Gx f (Ld BC Z (Bc n Z))<|Gr f (.bool (decide (c.im>16777216)))<|Vp f<|AA<|⟨_,g,(decide (c.im>16777216)),Pu,a,Rf⟩
 rintro _ y ⟨z,m,p,rfl,a,h⟩
 rw [KS] at a
 refine Cn a (λai a=>?_) λai a=>?_
 refine Sr<|Vx (v:=Ag [I 0,I 0]) (Bp Eg KY Z .nil)<|have aj:=Bs w h;Eu<|St HP aj Z Z Z Z λav ak al=>Va (I 50)<|AA<|AS ?_
 obtain rfl:=AK a
 refine O2 B r Z (.agg EC Z Z (Bw ak)) (.tmp Z)<|⟨m,[I 0,I 0],Z,Ho (T3 (Mo [21] u) l h al) q,(BE (x:=(Af.mk 0 0)))⟩
 refine AR<|Sr<|have am:=Y2 s l h;Vx (Lx EC Z Z (Bw am))<|have an:=Bs w h;Eu<|St HP an Z Z Z Z λaw ao ap=>Va (I 0)<|AA<|AS ?_
 obtain rfl:=AK a
 refine O2 B r Z (.agg EC Z Z (Bw ao)) (.tmp Z)<|⟨m,[I c.re,I c.im],Z,Ho (T3 (Mo [21] u) l h ap) q,(BE (x:=c))⟩
theorem M1:Hr.Spec Hr:=lk0 (WB)
def ref01_digits.At(e:Col)(a:World)(f:Int->Option Bts):Prop:=
 ∀{c d},f c=some d->
  Calls PG 134 #[I c] a λg h=>∃l,g=.returned (Sb d)/\AU [] e a l h
def ref01_digits.Spec(f:Int->Option Bts):Prop:=
 ∀a c,ref01_digits.At a c f
structure BG.Good(a:BG):Prop where
 ref01_digits:ref01_digits.Spec a.ref01_digits
theorem RQ(m:BG)(w:Nat)(n:BG.Good m)(d:Col)(o:World)(p:∀b,d b<10):ref01_digits.At d o (Da m w):=by
 intro c y a
 rw [Da] at a
 refine Az Tryz.func134 Z Tryz.ntmps134 Z λB q aw=>Sr<|Va (Sb ([]:Bts))<|AA<|AT<|Sr<|Vm<|Vr (.bool (decide (c<0)))<|AA<|Cn a (λz a=>?_) λz a=>?_
 refine Sr<|Vm<|Vr (I (Wr (0 - c)))<|Bi a λax aa a=>Ca (Cg [I (Wr (0 - c))] Z) (n.ref01_digits d o aa) ?_
 rintro _ ay ⟨ab,rfl,ac⟩
 refine Bi a λr ad a=>Vx (v:=Sb r) (Run.strAdd Z Z ad)<|Va (Sb r)<|AA<|AS ?_
 obtain rfl:=AK a
 refine O1 B q Z (.tmp Z)<|⟨ab,Z,Ho (Mo [] ac) p⟩
 refine AR<|Sr<|Vm<|Bi a λaz ae a=>Vx (v:=I (c.tmod 10)) (Run.rem Z Z (Pr ae))<|Vr (I (Wr (48+(c.tmod 10))))<|Vx (v:=.int .u8 (((u8c (Wr (48+(c.tmod 10))))).toNat:Int)) (ABc Z)<|Ef<|Cj (cs:=[.int .u8 (((u8c (Wr (48+(c.tmod 10))))).toNat:Int)]) d 20 [[.int .u8 (((u8c (Wr (48+(c.tmod 10))))).toNat:Int)]] IC Zi Z Z (.cons Z Z Z .nil) Z λaf f ag ah ai=>have aj:Own Kd.u8 5 af f 20 (.slice (some ⟨ag,0,none⟩) 1 1) ([(u8c (Wr (48+(c.tmod 10))))]:Bts):=Own.lit (css:=[[.int .u8 (((u8c (Wr (48+(c.tmod 10))))).toNat:Int)]]) ah Z Z Z (Ac Z BB) (A6 Z Ds) Z; ?_
 obtain ⟨g,ak,al⟩:=Own.freeze (S:=[20]) aj dcd dcd
 refine Vx (v:=Sb ([(u8c (Wr (48+(c.tmod 10))))]:Bts)) (Run.bytesStr Pv Z al)<|Va (Sb ([(u8c (Wr (48+(c.tmod 10))))]:Bts))<|AA<|Am (λam s=>∃u h e,am=Env.puts u [(3,Sb e)]/\L6 e=some y/\AU [] g f h s) ?_ ?_
 refine Sr<|Vm<|Vr (.bool (decide (c>=10)))<|AA<|Cn a (λan a=>?_) λan a=>?_
 refine AM<|Vm<|Bi a λa0 ao a=>Vx (v:=I (Wr (c.tdiv 10))) (Run.quo Z Z (Pr ao))<|Bi a λa1 ap a=>Ca (Cg [I (Wr (c.tdiv 10))] Z) (n.ref01_digits g f ap) ?_
 rintro _ a2 ⟨aq,rfl,ar⟩
 refine Vm<|Bi a λl au a=>Vx (v:=Sb l) (Run.strAdd Z Z au)<|Va (Sb l)<|AA<|⟨_,aq,l,Pu,a,(Mo [] ar)⟩
 refine AR<|⟨_,g,([(u8c (Wr (48+(c.tmod 10))))]:Bts),Pu,a,Rf⟩
 rintro _ s ⟨u,h,e,rfl,a,av⟩
 rw [L6] at a
 refine Sr<|Vm<|Va (Sb e)<|AA<|AS ?_
 obtain rfl:=AK a
 refine O1 B q Z (.tmp Z)<|⟨h,Z,Ho (T2 (Mo [20] ai) ak av) p⟩
theorem RR(a:BG)(d:Nat)(f:BG.Good a):ref01_digits.Spec (Da a d):=lk0 (RQ a d f)
theorem BG.good:∀a,BG.Good (BG.at a)
 |0=>⟨by intro c d;intros;(try intro _);intros;exact A5 (by assumption)⟩
 |n+1=>⟨RR _ n (BG.good n)⟩
theorem Jc(a:Nat):ref01_digits.Spec (ref01_digits a):=(BG.good a).ref01_digits
def GH.At(c:Col)(a:World)(f:Af->Option Bts):Prop:=
 ∀{d e g},f d=some g->Bm.rep c.F a e d->
  Calls PG 109 #[Ag e] a λh l=>∃m,h=.returned (Sb g)/\AU [] c a m l
def GH.Spec(f:Af->Option Bts):Prop:=
 ∀a c,GH.At a c f
theorem TT(f:Nat)(o:Col)(ae:World)(l:∀b,o b<10):GH.At o ae (GH f):=by
 intro e bd be a af
 rw [GH] at a
 obtain rfl:=A7 af
 refine Az Tryz.func109 Z Tryz.ntmps109 Z λB m d=>Sr<|Ef<|A0 o 20 Z Z λh r bf g n=>Va (Sb ([]:Bts))<|AA<|AT<|Ah<|Sr<|Vx (Fd DY Z)<|Vx (Ld BC Z (Bc g Z))<|Vr (.bool (e.im==0))<|Va (.bool (e.im==0))<|AA<|Cn a (λag a=>?_) λag a=>?_
 refine Sr<|Vx (Fz DX Z)<|Vx (Ld BC Z (Bc g Z))<|Bi a λah ai a=>Ca (Cg [I e.re] Z) (Jc f h r ai) ?_
 rintro _ bg ⟨aj,rfl,ak⟩
 refine Va (Sb ah)<|AA<|AS ?_
 obtain rfl:=AK a
 refine O1 B m Z (.tmp Z)<|⟨aj,Z,Ho (Tn (Mo [] n) ak) l⟩
 refine Sr<|Vx (Fz DX Z)<|Vx (Ld BC Z (Bc g Z))<|Vr (.bool (e.re==0))<|Va (.bool (e.re==0))<|AA<|Cn a (λal a=>?_) λal a=>?_
 refine Sr<|Vx (Fd DY Z)<|Vx (Ld BC Z (Bc g Z))<|Bi a λbh am a=>Ca (Cg [I e.im] Z) (Jc f h r am) ?_
 rintro _ bi ⟨an,rfl,ao⟩
 refine Bi a λs ap a=>Vx (v:=Sb s) (Run.strAdd Z Z ap)<|Va (Sb s)<|AA<|AS ?_
 obtain rfl:=AK a
 refine O1 B m Z (.tmp Z)<|⟨an,Z,Ho (Tn (Mo [] n) ao) l⟩
 refine Sr<|Vx (Fd DY Z)<|Vx (Ld BC Z (Bc g Z))<|Vr (.bool (decide (e.im>0)))<|Va (.bool (decide (e.im>0)))<|AA<|Cn a (λaq a=>?_) λaq a=>?_
 refine AT<|BZ C7 (.q 0 (.q 1 (.q 4 (.q 5 (.one 2 (.q 3 (.one 6 (qs 7 3 .nil)))))))) [] [] h (by kernel_rfl) λar u=>Qx d Z (λ_ _=>Fz DX Z)<|have w:=Bs g u;Qx d Z (λ_ ⟨_,c⟩=>Ld BC Z (Bc (Bs w c) Z))<|Qx d Z (λ_ _=>Fd DY Z)<|Qx d Z (λ_ ⟨_,c⟩=>Ld BC Z (Bc (Bs w c) Z))<|A2 Z<|Bi a λbj au a=>A4 Z (.none Z) Z Z (Cg [I e.re] Z)<|Calls.mono (Jc f h ar au) ?_
 rintro _ av ⟨aw,rfl,p⟩
 refine ⟨_,Z,⟨_,(Mo [] p)⟩,?_⟩
 refine Bi a λax ay a=>Qx d Z (v:=Sb ax) (λ_ _=>Run.strAdd Z Z ay)<|A2 Z<|Bi a λbk az a=>A4 Z (.none Z) Z Z (Cg [I e.im] Z)<|Calls.mono (Jc f aw av az) ?_
 rintro _ bl ⟨a0,rfl,y⟩
 refine ⟨_,Z,⟨_,(Tn (Mo [] p) y)⟩,?_⟩
 refine Bi a λa1 a2 a=>Qx d Z (v:=Sb a1) (λ_ _=>Run.strAdd Z Z a2)<|Bi a λz a3 a=>Qx d Z (v:=Sb z) (λ_ _=>Run.strAdd Z Z a3)<|Qx d Z (v:=Sb z) (λ_ _=>Run.assign Z)<|CA<|AS ?_
 obtain rfl:=AK a
 refine O1 B m Z (.tmp Z)<|⟨a0,Z,Ho (T3 (Mo [] n) u p y) l⟩
 refine AR<|AT<|BZ C7 (.q 0 (.q 1 (.q 3 (.q 4 (.one 2 (.one 5 (qs 6 3 .nil))))))) [] [] h (by kernel_rfl) λa4 aa=>Qx d Z (λ_ _=>Fz DX Z)<|have ab:=Bs g aa;Qx d Z (λ_ ⟨_,c⟩=>Ld BC Z (Bc (Bs ab c) Z))<|Qx d Z (λ_ _=>Fd DY Z)<|Qx d Z (λ_ ⟨_,c⟩=>Ld BC Z (Bc (Bs ab c) Z))<|A2 Z<|Bi a λbm a5 a=>A4 Z (.none Z) Z Z (Cg [I e.re] Z)<|Calls.mono (Jc f h a4 a5) ?_
 rintro _ a6 ⟨a7,rfl,q⟩
 refine ⟨_,Z,⟨_,(Mo [] q)⟩,?_⟩
 refine A2 Z<|Bi a λbn a8 a=>A4 Z (.none Z) Z Z (Cg [I e.im] Z)<|Calls.mono (Jc f a7 a6 a8) ?_
 rintro _ bo ⟨a9,rfl,ac⟩
 refine ⟨_,Z,⟨_,(Tn (Mo [] q) ac)⟩,?_⟩
 refine Bi a λba bb a=>Qx d Z (v:=Sb ba) (λ_ _=>Run.strAdd Z Z bb)<|Bi a λad bc a=>Qx d Z (v:=Sb ad) (λ_ _=>Run.strAdd Z Z bc)<|Qx d Z (v:=Sb ad) (λ_ _=>Run.assign Z)<|CA<|AS ?_
 obtain rfl:=AK a
 refine O1 B m Z (.tmp Z)<|⟨a9,Z,Ho (T3 (Mo [] n) aa q ac) l⟩
theorem QC(c:Nat):GH.Spec (GH c):=lk0 (TT c)
def Et.At(l:Col)(c:World)(f:Bts->Option (Af×Int)):Prop:=
 ∀{d a},f d=some a->
  Calls PG 75 #[Sb d] c λm e=>∃g h,m=.returned (.tuple #[Ag h,I a.2])/\AU [] l c g e/\Bm.rep g.F e h a.1
def Et.Spec(f:Bts->Option (Af×Int)):Prop:=
 ∀a c,Et.At a c f
theorem R8(l:Nat)(ah:Col)(a5:World)(ai:∀b,ah b<10):Et.At ah a5 (Et l):=by
 intro h aj a
 rw [Et] at a
 refine Az Tryz.func75 Z Tryz.ntmps75 Z λB ak b9=>Sr<|Ef<|Aa ah 20 Eg Z λa6 a7 al am an=>Va (I 0)<|AA<|Sr<|Vm<|Bi a λe a8 a=>Ca (Cg [Sb h] Z) (PQ l a6 a7 a8) ?_
 rintro _ ca ⟨ax,rfl,m⟩
 refine Vm<|Vr (I e.1)<|Vr (I e.2)<|Va (I e.1)<|Va (I e.2)<|AA<|AT<|Sr<|Vm<|Vr (.bool (e.2==0))<|AA<|Cn a (λa9 a=>?_) λa9 a=>?_
 refine Sr<|Vx (v:=Ag [I 0,I 0]) (Bp Eg KY Z .nil)<|have ba:=Bs am m;Eu<|St HP ba Z Z Z Z λcb bb bc=>Va (I 10)<|AA<|AS ?_
 obtain rfl:=AK a
 refine O2 B ak Z (.agg EC Z Z (Bw bb)) (.tmp Z)<|⟨ax,[I 0,I 0],Z,Ho (T2 (Mo [20] an) m bc) ai,(BE (x:=(Af.mk 0 0)))⟩
 refine AR<|Sr<|Vm<|Vx (v:=Ag [I e.1,I 0]) (Bp Eg KY Z (.cons Z Z Z .nil))<|Ef<|Aa ax 21 Eg Z λn cc z bd aa=>Eu<|St HP bd Z Z Z Z λay ao ab=>AA<|Sr<|Vm<|Vm<|Bi a λr be a=>Vx (v:=Sb r) (Run.sliceStr J2 Z ⟨_,Z⟩ Z be)<|Va (Sb r)<|AA<|Am (λs ac=>∃g ad c d,s=Env.puts g [(0,Sb h),(2,Pt al 0),(6,Pt z 0)]/\F3 l h c d=some aj/\AU [21] n ay ad ac/\Bk ad ac 21 z [I c,I d] 111) ?_ ?_
 refine Sr<|Vm<|Vx (v:=.bool (r==([105]:Bts))) (Run.strEq Z Z)<|AA<|Cn a (λbf a=>?_) λbf a=>?_
 refine AM<|Vm<|Vx (v:=Ag [I 0,I e.1]) (Bp Eg KY Z (.cons Z Z Z .nil))<|Eu<|St HP ao Z Z Z Z λcd bg bh=>AA<|⟨_,n,0,e.1,Pu,a,(Mo [21] bh),bg⟩
 refine Sr<|Vm<|Vx (v:=.bool (!(r==([]:Bts)))) (Run.strNe Z Z)<|AA<|Cn a (λbi a=>?_) λbi a=>?_
 refine Am (λs ap=>∃g aq ae,s=Env.puts g [(0,Sb h),(2,Pt al 0),(6,Pt z 0),(7,Sb ae)]/\Hs l h e ae=some aj/\AU [] n ay aq ap) ?_ ?_
 refine Sr<|Vm<|Bi a λaz bj a=>Vx (v:=U8 az) (Run.indexBs J2 Z Z bj)<|Vr (.bool ((az.toNat:Int)==((43:UInt8).toNat:Int)))<|AA<|Cn a (λbk a=>?_) λbk a=>?_
 refine AM<|Vm<|Bi a λar bl a=>Vx (v:=Sb ar) (Run.sliceStr J2 Z ⟨_,Z⟩ Z bl)<|Va (Sb ar)<|AA<|⟨_,n,ar,Pu,a,Rf⟩
 refine AR<|⟨_,n,r,Pu,a,Rf⟩
 rintro _ ap ⟨g,aq,ae,rfl,a,a0⟩
 rw [Hs] at a
 refine Sr<|Vm<|Bi a λu bm a=>Ca (Cg [Sb ae] Z) (PQ l aq ap bm) ?_
 rintro _ cf ⟨bn,rfl,a1⟩
 refine Vm<|Vr (I u.1)<|Vr (I u.2)<|Va (I u.1)<|Va (I u.2)<|AA<|AM<|Vm<|Vx (Fd DY Z)<|have bo:=Y2 ao a0 a1;Eu<|St Mz bo Z Z Z Z λcg bp bq=>AA<|⟨_,bn,e.1,u.1,Pu,a,(T2 (Mo [21] a0) a1 bq),bp⟩
 refine AR<|⟨_,n,e.1,0,Pu,a,(AU.refl [21] _ _),ao⟩
 rintro _ ac ⟨g,ad,c,d,rfl,a,af,au⟩
 rw [F3] at a
 refine Sr<|Vx (Lx EC Z Z (Bw au))<|Bi a λw br a=>Ca (Cg [Ag [I c,I d]] Z) (M1 ad ac br (BE (x:=(Af.mk c d)))) ?_
 rintro _ ch ⟨bt,ci,rfl,o,bu⟩
 obtain rfl:=A7 bu
 refine Vm<|Vr (Ag [I w.1.re,I w.1.im])<|Vr (I w.2)<|Ef<|Aa bt 22 Eg Z λav cj ck bv p=>Eu<|St HP bv Z Z Z Z λa2 cl q=>Va (I w.2)<|AA<|AT<|Am (λs a3=>∃g ag aw,s=Env.puts g [(2,Pt al 0),(6,Pt z 0),(55,.bool aw)]/\MI c d aw=some aj/\AU [] av a2 ag a3) ?_ ?_
 refine AM<|Vm<|Vr (.bool (w.2 != 0))<|Vm<|Bo a (λf a=>?_) λf a=>?_
 refine Pg f<|Pg f<|Pg f<|Pg f<|Vp f<|AA<|⟨_,av,true,Pu,a,Rf⟩
 refine have bw:=Y3 au o p q;Gx f (Lx EC Z Z (Bw bw))<|Bi a λa4 bx a=>CQ (.guard (t:=false) (b:=false) Z Z Z Z (Cb f)) Z Z (Cg [Ag [I c,I d]] Z)<|Calls.mono (QC l av a2 bx (BE (x:=(Af.mk c d)))) ?_
 rintro _ cm ⟨bz,rfl,b0⟩
 refine ⟨_,Z,?_⟩
 refine Gm f<|Gx f (v:=.bool (!(a4==h))) (Run.strNe Z Z)<|Vp f<|AA<|⟨_,bz,(!(a4==h)),Pu,a,(Mo [] b0)⟩
 rintro _ a3 ⟨g,ag,aw,rfl,a,y⟩
 rw [MI] at a
 refine Cn a (λb1 a=>?_) λb1 a=>?_
 refine Sr<|Vx (v:=Ag [I 0,I 0]) (Bp Eg KY Z .nil)<|have b2:=Y4 (Y4 am m aa ab af) o p q y;Eu<|St HP b2 Z Z Z Z λcn b3 b4=>Va (I 10)<|AA<|AS ?_
 obtain rfl:=AK a
 refine O2 B ak Z (.agg EC Z Z (Bw b3)) (.tmp Z)<|⟨ag,[I 0,I 0],Z,Ho (Tn (T4 (T4 (Mo [20,21,22] an) m aa ab af) o p q y) b4) ai,(BE (x:=(Af.mk 0 0)))⟩
 refine AR<|Sr<|have b5:=Y4 au o p q y;Vx (Lx EC Z Z (Bw b5))<|have b6:=Y4 (Y4 am m aa ab af) o p q y;Eu<|St HP b6 Z Z Z Z λco b7 b8=>Va (I 0)<|AA<|AS ?_
 obtain rfl:=AK a
 refine O2 B ak Z (.agg EC Z Z (Bw b7)) (.tmp Z)<|⟨ag,[I c,I d],Z,Ho (Tn (T4 (T4 (Mo [20,21,22] an) m aa ab af) o p q y) b8) ai,(BE (x:=(Af.mk c d)))⟩
theorem NR(c:Nat):Et.Spec (Et c):=lk0 (R8 c)
def GL.At(c:Col)(a:World)(f:Af->Option Cpl):Prop:=
 ∀{d e g},f d=some g->Bm.rep c.F a e d->
  Calls PG 76 #[Ag e] a λh l=>∃m,h=.returned (Cx g)/\AU [] c a m l
def GL.Spec(f:Af->Option Cpl):Prop:=
 ∀a c,GL.At a c f
theorem R9(c:Col)(f:World)(g:∀b,c b<10):GL.At c f GL:=by
 intro a o p d h
 rw [GL] at d
 obtain rfl:=A7 h
 refine Az Tryz.func76 Z Tryz.ntmps76 Z λB l q=>Sr<|Ef<|A0 c 20 Z Z λm r s e n=>Va (Cx (((0,0):Cpl)))<|AA<|Sr<|Vx (Fz DX Z)<|Vx (Ld BC Z (Bc e Z))<|Vr (Fl (FloatKind.f64.nearest a.re))<|Vx (Fd DY Z)<|Vx (Ld BC Z (Bc e Z))<|Vr (Fl (FloatKind.f64.nearest a.im))<|Vx (v:=Cx (((FloatKind.f64.nearest a.re),(FloatKind.f64.nearest a.im)))) (Run.complex Z Z)<|Va (Cx (((FloatKind.f64.nearest a.re),(FloatKind.f64.nearest a.im))))<|AA<|AS ?_
 obtain rfl:=AK d
 refine O1 B l Z (.tmp Z)<|⟨m,Z,Ho (Mo [] n) g⟩
theorem MY:GL.Spec GL:=lk0 (R9)
def Je.At(h:Col)(a:World)(f:Option (List Bts)):Prop:=
 ∀{c},f=some c->
  Calls PG 129 #[] a λl d=>∃e g,l=.returned g/\AU [] h a e d/\Slc Kd.bts e.F d g c
def Je.Spec(f:Option (List Bts)):Prop:=
 ∀a c,Je.At a c f
theorem SA(a:Col)(e:World)(f:∀b,a b<10):Je.At a e Je:=by
 intro s d
 rw [Je] at d
 refine Az Tryz.func129 Z Tryz.ntmps129 Z λB g u=>Sr<|Va (.slice none 0 0)<|AA<|Sr<|Ef<|Cj (cs:=[Sb ([66]:Bts),Sb ([76]:Bts),Sb ([78]:Bts),Sb ([99,97,115,101]:Bts),Sb ([99,111,110,106]:Bts),Sb ([101,108,115,101]:Bts),Sb ([102,97,105,108]:Bts),Sb ([102,97,108,115,101]:Bts),Sb ([105,102]:Bts),Sb ([105,109]:Bts),Sb ([105,110]:Bts),Sb ([108,101,116]:Bts),Sb ([110,105,108]:Bts),Sb ([110,111,116]:Bts),Sb ([111,102]:Bts),Sb ([114,101]:Bts),Sb ([115,116,114,105,99,116]:Bts),Sb ([116,104,101,110]:Bts),Sb ([116,114,117,101]:Bts)]) a 20 [[Sb ([66]:Bts)],[Sb ([76]:Bts)],[Sb ([78]:Bts)],[Sb ([99,97,115,101]:Bts)],[Sb ([99,111,110,106]:Bts)],[Sb ([101,108,115,101]:Bts)],[Sb ([102,97,105,108]:Bts)],[Sb ([102,97,108,115,101]:Bts)],[Sb ([105,102]:Bts)],[Sb ([105,109]:Bts)],[Sb ([105,110]:Bts)],[Sb ([108,101,116]:Bts)],[Sb ([110,105,108]:Bts)],[Sb ([110,111,116]:Bts)],[Sb ([111,102]:Bts)],[Sb ([114,101]:Bts)],[Sb ([115,116,114,105,99,116]:Bts)],[Sb ([116,104,101,110]:Bts)],[Sb ([116,114,117,101]:Bts)]] IT QB Z Z (.cons Z Z Z (.cons Z Z Z (.cons Z Z Z (.cons Z Z Z (.cons Z Z Z (.cons Z Z Z (.cons Z Z Z (.cons Z Z Z (.cons Z Z Z (.cons Z Z Z (.cons Z Z Z (.cons Z Z Z (.cons Z Z Z (.cons Z Z Z (.cons Z Z Z (.cons Z Z Z (.cons Z Z Z (.cons Z Z Z (.cons Z Z Z .nil))))))))))))))))))) Z λh l c m n=>have o:Own Kd.bts 9 h l 20 (.slice (some ⟨c,0,none⟩) 19 19) ([([66]:Bts),([76]:Bts),([78]:Bts),([99,97,115,101]:Bts),([99,111,110,106]:Bts),([101,108,115,101]:Bts),([102,97,105,108]:Bts),([102,97,108,115,101]:Bts),([105,102]:Bts),([105,109]:Bts),([105,110]:Bts),([108,101,116]:Bts),([110,105,108]:Bts),([110,111,116]:Bts),([111,102]:Bts),([114,101]:Bts),([115,116,114,105,99,116]:Bts),([116,104,101,110]:Bts),([116,114,117,101]:Bts)]:List Bts):=Own.lit (css:=[[Sb ([66]:Bts)],[Sb ([76]:Bts)],[Sb ([78]:Bts)],[Sb ([99,97,115,101]:Bts)],[Sb ([99,111,110,106]:Bts)],[Sb ([101,108,115,101]:Bts)],[Sb ([102,97,105,108]:Bts)],[Sb ([102,97,108,115,101]:Bts)],[Sb ([105,102]:Bts)],[Sb ([105,109]:Bts)],[Sb ([105,110]:Bts)],[Sb ([108,101,116]:Bts)],[Sb ([110,105,108]:Bts)],[Sb ([110,111,116]:Bts)],[Sb ([111,102]:Bts)],[Sb ([114,101]:Bts)],[Sb ([115,116,114,105,99,116]:Bts)],[Sb ([116,104,101,110]:Bts)],[Sb ([116,114,117,101]:Bts)]]) m Z Z Z (Ac Z (Ac Z (Ac Z (Ac Z (Ac Z (Ac Z (Ac Z (Ac Z (Ac Z (Ac Z (Ac Z (Ac Z (Ac Z (Ac Z (Ac Z (Ac Z (Ac Z (Ac Z (Ac Z BB))))))))))))))))))) (A6 Z (A6 Z (A6 Z (A6 Z (A6 Z (A6 Z (A6 Z (A6 Z (A6 Z (A6 Z (A6 Z (A6 Z (A6 Z (A6 Z (A6 Z (A6 Z (A6 Z (A6 Z (A6 Z Ds))))))))))))))))))) Z;Va (Sl (some ⟨c,0,none⟩) (([([66]:Bts),([76]:Bts),([78]:Bts),([99,97,115,101]:Bts),([99,111,110,106]:Bts),([101,108,115,101]:Bts),([102,97,105,108]:Bts),([102,97,108,115,101]:Bts),([105,102]:Bts),([105,109]:Bts),([105,110]:Bts),([108,101,116]:Bts),([110,105,108]:Bts),([110,111,116]:Bts),([111,102]:Bts),([114,101]:Bts),([115,116,114,105,99,116]:Bts),([116,104,101,110]:Bts),([116,114,117,101]:Bts)]:List Bts)) 19)<|AA<|AS ?_
 obtain ⟨p,q,r⟩:=Own.freeze (S:=[20]) o dcd dcd
 obtain rfl:=AK d
 refine O1 B g Z (.tmp Z)<|⟨p,Sl (some ⟨c,0,none⟩) (([([66]:Bts),([76]:Bts),([78]:Bts),([99,97,115,101]:Bts),([99,111,110,106]:Bts),([101,108,115,101]:Bts),([102,97,105,108]:Bts),([102,97,108,115,101]:Bts),([105,102]:Bts),([105,109]:Bts),([105,110]:Bts),([108,101,116]:Bts),([110,105,108]:Bts),([110,111,116]:Bts),([111,102]:Bts),([114,101]:Bts),([115,116,114,105,99,116]:Bts),([116,104,101,110]:Bts),([116,114,117,101]:Bts)]:List Bts)) 19,Z,Ho (Tn (Mo [20] n) q) f,r⟩
theorem TU:Je.Spec Je:=lk0 (SA)
def Du.At(e:Col)(a:World)(f:Bts->Option Bool):Prop:=
 ∀{c d},f c=some d->
  Calls PG 99 #[Sb c] a λg h=>∃l,g=.returned (.bool d)/\AU [] e a l h
def Du.Spec(f:Bts->Option Bool):Prop:=
 ∀a c,Du.At a c f
theorem QL(o:Nat)(l:Col)(p:World)(q:∀b,l b<10):Du.At l p (Du o):=by
 intro f r a
 rw [Du] at a
 refine Az Tryz.func99 Z Tryz.ntmps99 Z λB u aw=>Sr<|Va (.bool false)<|AA<|Sr<|Bi a λd ah a=>Ca (Cg [] Z) (TU l p ah) ?_
 rintro _ ai ⟨w,ax,rfl,y,z⟩
 obtain ⟨aa,ab,rfl⟩:=AW z
 refine Va (Sl aa d ab)<|AA<|AT<|Sr<|Va (I 0)<|AA<|Ah<|Bj (λe aj m=>∃ac g c,aj=Env.puts ac [(0,Sb f),(3,Sl aa d ab),(4,I c)]/\Dt f d e c=some r/\AU [] w ai g m) o ?_ ?_
 exact ⟨_,w,0,Pu,a,Rf⟩
 rintro e _ m ⟨ac,g,c,rfl,a,h⟩
 rcases e with _|e
 exact A5 a
 refine have a:D9 f d (Dt f d e) c=some r:=a; ?_
 obtain ⟨ay,ad⟩:∃s,s=Dt f d e:=⟨_,rfl⟩
 rw [<-ad,D9] at a
 refine AT<|Sr<|Vm<|Vm<|have ae:=Ss Kd.bts z h; ?_
 obtain ⟨az,a0,ak⟩:=AW ae
 refine Vx (v:=I (d.length:Int)) (Ll IT ak)<|Vr (.bool (decide (c< (d.length:Int))))<|AA<|Cn a (λal a=>?_) λal a=>?_
 refine AR<|AT<|Ah<|Sr<|Vm<|Vm<|Bi a λaf am a=>?_
 obtain ⟨an,ao,a1,ag,ap,aq,ar,au,n⟩:=A8 (κ:=Kd.bts) ae am
 replace n:Ay g m an (ao+c.toNat*1) ag:=n
 obtain rfl:=(show ag=[Sb af] from au)
 refine Vx (Ix IT ap Z aq ar)<|Vx (Ld B7 Z (Ay.cell0 n Z))<|Vm<|Vx (v:=.bool (af==f)) (Run.strEq Z Z)<|AA<|Cn a (λav a=>?_) λav a=>?_
 refine Sr<|Va (.bool true)<|AA<|AS ?_
 obtain rfl:=AK a
 refine O1 B u Z (.tmp Z)<|⟨g,Z,Ho (Tn (Mo [] y) h) q⟩
 refine AR<|AM<|Vm<|Vr (I (Wr (c+1)))<|Va (I (Wr (c+1)))<|AA<|⟨e,Nat.lt_succ_self e,_,g,(Wr (c+1)),Pu,(ad▸a),(Mo [] h)⟩
 refine BX<|Sr<|Va (.bool false)<|AA<|AS ?_
 obtain rfl:=AK a
 refine O1 B u Z (.tmp Z)<|⟨g,Z,Ho (Tn (Mo [] y) h) q⟩
theorem Qq(c:Nat):Du.Spec (Du c):=lk0 (QL c)
def Iv.At(c:Col)(a:World)(f:Bts->Int->Option Int):Prop:=
 ∀{d v0 e g},f d e=some g->Slc Kd.u8 c.F a v0 d->
  Calls PG 100 #[v0,I e] a λh l=>∃m,h=.returned (I g)/\AU [] c a m l
def Iv.Spec(f:Bts->Int->Option Int):Prop:=
 ∀a c,Iv.At a c f
theorem TV(m:Col)(p:World)(ad:∀b,m b<10):Iv.At m p Iv:=by
 intro s v0 n an a o
 rw [Iv] at a
 obtain ⟨az,a0,rfl⟩:=AW o
 refine Az Tryz.func100 Z Tryz.ntmps100 Z λB ae b4=>Sr<|Va (I 0)<|AA<|AT<|Am (λaf u=>∃q f ag,af=Env.puts q [(0,Sl az s a0),(1,I n),(39,.bool ag)]/\F4 s n ag=some an/\AU [] m p f u) ?_ ?_
 refine AM<|Vm<|Vr (I (Wr (n+1)))<|Vm ?_
 obtain ⟨b5,b6,a1⟩:=AW o
 refine Vx (v:=I (s.length:Int)) (Ll IC a1)<|Vr (.bool (decide ((Wr (n+1))< (s.length:Int))))<|Vm<|Bo a (λd a=>?_) λd a=>?_
 refine Gm d<|Gm d<|Bi a λw a2 a=>?_
 obtain ⟨a3,a4,b7,ao,ah,ai,aj,a5,r⟩:=A8 (κ:=Kd.u8) o a2
 replace r:Ay m p a3 (a4+n.toNat*1) ao:=r
 obtain rfl:=(show ao=[U8 w] from a5)
 refine Gx d (Ix IC ah Z ai aj)<|Gx d (Ld NP Z (Ay.cell0 r Z))<|Gr d (.bool ((w.toNat:Int)==((45:UInt8).toNat:Int)))<|Gm d<|Bo a (λg a=>?_) λg a=>?_
 refine Gm g<|Gm g<|Gr g (I (Wr (n+1)))<|Bi a λy a6 a=>?_
 obtain ⟨a7,a8,b8,ap,aq,ar,au,a9,z⟩:=A8 (κ:=Kd.u8) o a6
 replace z:Ay m p a7 (a8+((Wr (n+1))).toNat*1) ap:=z
 obtain rfl:=(show ap=[U8 y] from a9)
 refine Gx g (Ix IC aq Z ar au)<|Gx g (Ld NP Z (Ay.cell0 z Z))<|Gr g (.bool ((y.toNat:Int)==((62:UInt8).toNat:Int)))<|Gp d g<|Gm d<|Bo a (λe a=>?_) λe a=>?_
 refine Pg e<|Pg e<|Pg e<|Pg e<|Pg e<|Pg e<|Po<|Po<|Po<|Po<|Po<|Po<|Pg e<|Gp d e<|Vp d<|AA<|⟨_,m,true,Pu,a,Rf⟩
 refine Gm e<|Gm e<|Gx e (Ix IC ah Z ai aj)<|Gx e (Ld NP Z (Ay.cell0 r Z))<|Gr e (.bool ((w.toNat:Int)==((61:UInt8).toNat:Int)))<|Gm e<|Bo a (λh a=>?_) λh a=>?_
 refine Gm h<|Gm h<|Gr h (I (Wr (n+1)))<|Gx h (Ix IC aq Z ar au)<|Gx h (Ld NP Z (Ay.cell0 z Z))<|Gr h (.bool ((y.toNat:Int)==((61:UInt8).toNat:Int)))<|Gp e h<|Gp d e<|Vp d<|AA<|⟨_,m,((y.toNat:Int)==((61:UInt8).toNat:Int)),Pu,a,Rf⟩
 refine Pg h<|Pg h<|Pg h<|Pg h<|Pg h<|Pg h<|Gp e h<|Gp d e<|Vp d<|AA<|⟨_,m,false,Pu,a,Rf⟩
 refine Pg g<|Pg g<|Pg g<|Pg g<|Pg g<|Pg g<|Gp d g<|Gm d<|Gm Z<|Gm Z<|Gx Z (Ix IC ah Z ai aj)<|Gx Z (Ld NP Z (Ay.cell0 r Z))<|Gr Z (.bool ((w.toNat:Int)==((61:UInt8).toNat:Int)))<|Gm Z<|Bo a (λl a=>?_) λl a=>?_
 refine Gm l<|Gm l<|Gr l (I (Wr (n+1)))<|Bi a λaa ba a=>?_
 obtain ⟨bb,bc,b9,av,bd,be,bf,bg,ak⟩:=A8 (κ:=Kd.u8) o ba
 replace ak:Ay m p bb (bc+((Wr (n+1))).toNat*1) av:=ak
 obtain rfl:=(show av=[U8 aa] from bg)
 refine Gx l (Ix IC bd Z be bf)<|Gx l (Ld NP Z (Ay.cell0 ak Z))<|Gr l (.bool ((aa.toNat:Int)==((61:UInt8).toNat:Int)))<|Gp Z l<|Gr d (.bool ((aa.toNat:Int)==((61:UInt8).toNat:Int)))<|Vp d<|AA<|⟨_,m,((aa.toNat:Int)==((61:UInt8).toNat:Int)),Pu,a,Rf⟩
 refine Pg l<|Pg l<|Pg l<|Pg l<|Pg l<|Pg l<|Gp Z l<|Gr d (.bool false)<|Vp d<|AA<|⟨_,m,false,Pu,a,Rf⟩
 refine Pg d<|Pg d<|Pg d<|Pg d<|Pg d<|Pg d<|Po<|Po<|Po<|Po<|Po<|Po<|Pg d<|Pg d<|Po<|Po<|Po<|Po<|Po<|Po<|Po<|Po<|Po<|Po<|Po<|Po<|Po<|Pg d<|Vp d<|AA<|⟨_,m,false,Pu,a,Rf⟩
 rintro _ u ⟨q,f,ag,rfl,a,ab⟩
 rw [F4] at a
 refine Cn a (λbh a=>?_) λbh a=>?_
 refine Sr<|Va (I 2)<|AA<|AS ?_
 obtain rfl:=AK a
 refine O1 B ae Z (.tmp Z)<|⟨f,Z,Ho (Mo [] ab) ad⟩
 refine AR<|AT<|Sr<|Vm<|Vm<|Bi a λc bi a=>have bj:=Ss Kd.u8 o ab; ?_
 obtain ⟨bk,bl,ca,aw,bm,bn,bo,bp,al⟩:=A8 (κ:=Kd.u8) bj bi
 replace al:Ay f u bk (bl+n.toNat*1) aw:=al
 obtain rfl:=(show aw=[U8 c] from bp)
 refine Vx (Ix IC bm Z bn bo)<|Vx (Ld NP Z (Ay.cell0 al Z))<|AA<|Ah<|Am (λaf ax=>∃q ac am,af=Env.puts q [(44,.bool am)]/\EA am=some an/\AU [] f u ac ax) ?_ ?_
 refine Sr<|Vr (.bool ((c.toNat:Int)==((40:UInt8).toNat:Int)))<|Va (.bool ((c.toNat:Int)==((40:UInt8).toNat:Int)))<|AA<|Cn a (λbq a=>?_) λbq a=>?_
 refine AR<|⟨_,f,((c.toNat:Int)==((40:UInt8).toNat:Int)),Pu,a,Rf⟩
 refine Sr<|Vr (.bool ((c.toNat:Int)==((41:UInt8).toNat:Int)))<|Va (.bool ((c.toNat:Int)==((41:UInt8).toNat:Int)))<|AA<|Cn a (λbr a=>?_) λbr a=>?_
 refine AR<|⟨_,f,((c.toNat:Int)==((41:UInt8).toNat:Int)),Pu,a,Rf⟩
 refine Sr<|Vr (.bool ((c.toNat:Int)==((44:UInt8).toNat:Int)))<|Va (.bool ((c.toNat:Int)==((44:UInt8).toNat:Int)))<|AA<|Cn a (λbt a=>?_) λbt a=>?_
 refine AR<|⟨_,f,((c.toNat:Int)==((44:UInt8).toNat:Int)),Pu,a,Rf⟩
 refine Sr<|Vr (.bool ((c.toNat:Int)==((58:UInt8).toNat:Int)))<|Va (.bool ((c.toNat:Int)==((58:UInt8).toNat:Int)))<|AA<|Cn a (λbu a=>?_) λbu a=>?_
 refine AR<|⟨_,f,((c.toNat:Int)==((58:UInt8).toNat:Int)),Pu,a,Rf⟩
 refine Sr<|Vr (.bool ((c.toNat:Int)==((59:UInt8).toNat:Int)))<|Va (.bool ((c.toNat:Int)==((59:UInt8).toNat:Int)))<|AA<|Cn a (λbv a=>?_) λbv a=>?_
 refine AR<|⟨_,f,((c.toNat:Int)==((59:UInt8).toNat:Int)),Pu,a,Rf⟩
 refine Sr<|Vr (.bool ((c.toNat:Int)==((61:UInt8).toNat:Int)))<|Va (.bool ((c.toNat:Int)==((61:UInt8).toNat:Int)))<|AA<|Cn a (λbw a=>?_) λbw a=>?_
 refine AR<|⟨_,f,((c.toNat:Int)==((61:UInt8).toNat:Int)),Pu,a,Rf⟩
 refine Sr<|Vr (.bool ((c.toNat:Int)==((43:UInt8).toNat:Int)))<|Va (.bool ((c.toNat:Int)==((43:UInt8).toNat:Int)))<|AA<|Cn a (λbx a=>?_) λbx a=>?_
 refine AR<|⟨_,f,((c.toNat:Int)==((43:UInt8).toNat:Int)),Pu,a,Rf⟩
 refine Sr<|Vr (.bool ((c.toNat:Int)==((45:UInt8).toNat:Int)))<|Va (.bool ((c.toNat:Int)==((45:UInt8).toNat:Int)))<|AA<|Cn a (λbz a=>?_) λbz a=>?_
 refine AR<|⟨_,f,((c.toNat:Int)==((45:UInt8).toNat:Int)),Pu,a,Rf⟩
 refine Sr<|Vr (.bool ((c.toNat:Int)==((42:UInt8).toNat:Int)))<|Va (.bool ((c.toNat:Int)==((42:UInt8).toNat:Int)))<|AA<|Cn a (λb0 a=>?_) λb0 a=>?_
 refine AR<|⟨_,f,((c.toNat:Int)==((42:UInt8).toNat:Int)),Pu,a,Rf⟩
 refine Sr<|Vr (.bool ((c.toNat:Int)==((47:UInt8).toNat:Int)))<|Va (.bool ((c.toNat:Int)==((47:UInt8).toNat:Int)))<|AA<|Cn a (λb1 a=>?_) λb1 a=>?_
 refine AR<|⟨_,f,((c.toNat:Int)==((47:UInt8).toNat:Int)),Pu,a,Rf⟩
 refine Sr<|Vr (.bool ((c.toNat:Int)==((60:UInt8).toNat:Int)))<|Va (.bool ((c.toNat:Int)==((60:UInt8).toNat:Int)))<|AA<|Cn a (λb2 a=>?_) λb2 a=>?_
 refine AR<|⟨_,f,((c.toNat:Int)==((60:UInt8).toNat:Int)),Pu,a,Rf⟩
 refine AM<|Vr (.bool ((c.toNat:Int)==((124:UInt8).toNat:Int)))<|Va (.bool ((c.toNat:Int)==((124:UInt8).toNat:Int)))<|AA<|⟨_,f,((c.toNat:Int)==((124:UInt8).toNat:Int)),Pu,a,Rf⟩
 rintro _ ax ⟨q,ac,am,rfl,a,ay⟩
 rw [EA] at a
 refine Cn a (λb3 a=>?_) λb3 a=>?_
 refine Sr<|Va (I 1)<|AA<|AS ?_
 obtain rfl:=AK a
 refine O1 B ae Z (.tmp Z)<|⟨ac,Z,Ho (Tn (Mo [] ab) ay) ad⟩
 refine AR<|Sr<|Va (I 0)<|AA<|AS ?_
 obtain rfl:=AK a
 refine O1 B ae Z (.tmp Z)<|⟨ac,Z,Ho (Tn (Mo [] ab) ay) ad⟩
theorem Ui:Iv.Spec Iv:=lk0 (TV)
def IE.At(d:Col)(a:World)(f:Bts->Int->Option (Ak×Bool)):Prop:=
 ∀{e v0 g c},f e g=some c->Slc Kd.u8 d.F a v0 e->
  Calls PG 72 #[v0,I g] a λn h=>∃l m,n=.returned (.tuple #[Ag m,.bool c.2])/\AU [] d a l h/\Ai.rep l.F h m c.1
def IE.Spec(f:Bts->Int->Option (Ak×Bool)):Prop:=
 ∀a c,IE.At a c f
theorem Uj(w:Nat)(aw:Col)(bz:World)(ag:∀b,aw b<10):IE.At aw bz (IE w):=by
 intro y v0 c ax a bd
 rw [IE] at a
 obtain ⟨ah,ai,rfl⟩:=AW bd
 refine Az Tryz.func72 Z Tryz.ntmps72 Z λB aj ee=>Sr<|Ef<|Aa aw 20 HC Z λb0 b1 ay ak ab=>Va (.bool false)<|AA<|Sr<|Vm<|Vm<|have be:=Ss Kd.u8 bd ab;Bi a λh b2 a=>Ca (Cg [Sl ah y ai,I c] Z) (V9 w b0 b1 b2 be) ?_
 rintro _ ef ⟨b3,rfl,p⟩
 refine Va (I h)<|AA<|Sr<|Vm<|Vm<|Vm<|Vm<|Vr (I (Wr (c+h)))<|Bi a λd bf a=>have al:=Ss Kd.u8 be p; ?_
 obtain ⟨bg,bh,b4,b5,az⟩:=So al bf
 obtain ⟨eg,bi⟩:∃s,s=Value.slice (if bh=c.toNat then bg else bg.map (·.add (c.toNat*Kd.u8.size))) (((Wr (c+h))).toNat - c.toNat) (bh - c.toNat):=⟨_,rfl⟩
 rw [<-bi] at az
 obtain ⟨b6,b7,b8,_⟩:=Lp bf
 obtain ⟨b9,ca,rfl⟩:=AW az
 refine Vx (v:=.slice b9 d.length ca) (by rw [bi];exact Run.sliceSlc IC b4 ⟨_,Z⟩ ⟨_,Z⟩ b6 b7 b8 b5)<|Vx (v:=Sb d) (Run.bytesStr Pv Z az)<|Vm<|Vx (v:=Ag [I 0,Sb d,Cx (((0,0):Cpl)),I c]) (Bp HC V6 Z (.cons Z Z Z (.cons Z Z Z .nil)))<|Ef<|Aa b3 21 HC Z λam eh an cb l=>Eu<|St HQ cb Z Z Z Z λa0 ao m=>AA<|AT<|Ah<|Am (λac ad=>∃q r x63,ac=Env.puts q [(0,Sl ah y ai),(1,I c),(4,Pt ay 0),(6,I h),(7,Pt an 0),(22,.bool x63)]/\Ib w y c h d x63=some ax/\AU [] am a0 r ad) ?_ ?_
 refine AM<|Vm<|Vr (.bool (decide (h>0)))<|Vm<|Bo a (λf a=>?_) λf a=>?_
 refine Gm f<|Gm f<|Bi a λbj cc a=>have cd:=K2 Kd.u8 al l m; ?_
 obtain ⟨cf,cg,ei,bk,ch,ci,cj,ck,a1⟩:=A8 (κ:=Kd.u8) cd cc
 replace a1:Ay am a0 cf (cg+c.toNat*1) bk:=a1
 obtain rfl:=(show bk=[U8 bj] from ck)
 refine Gx f (Ix IC ch Z ci cj)<|Gx f (Ld NP Z (Ay.cell0 a1 Z))<|Bi a λbl cl a=>CQ (.guard (t:=true) (b:=true) Z Z Z Z (Cb f)) Z Z (Cg [U8 bj] Z)<|Calls.mono (PP am a0 cl) ?_
 rintro _ ej ⟨cm,rfl,cn⟩
 refine ⟨_,Z,?_⟩
 refine Vp f<|Va (.bool bl)<|AA<|⟨_,cm,bl,Pu,a,(Mo [] cn)⟩
 refine Pg f<|Pg f<|Pg f<|Pg f<|Pg f<|Vp f<|Va (.bool false)<|AA<|⟨_,am,false,Pu,a,Rf⟩
 rintro _ ad ⟨q,r,x63,rfl,a,e⟩
 rw [Ib] at a
 refine Cn a (λco a=>?_) λco a=>?_
 refine Sr<|Vx (Fd Fq Z)<|have bm:=Bs ao e;Vx (Ld B7 Z (Bc bm Z))<|Bi a λn cq a=>Ca (Cg [Sb d] Z) (NR w r ad cq) ?_
 rintro _ ek ⟨cr,el,rfl,a2,ct⟩
 obtain rfl:=A7 ct
 refine Vm<|Vr (Ag [I n.1.re,I n.1.im])<|Vr (I n.2)<|Ef<|Aa cr 22 Eg Z λcu em en cv a3=>Eu<|St HP cv Z Z Z Z λeo cw a4=>Va (I n.2)<|AA<|Sr<|Vx (Fz Lh Z)<|have cx:=Y3 bm a2 a3 a4;Eu<|St V3 cx Z Z Z Z λcy cz a5=>AA<|Sr<|have c0:=Bs cw a5;Vx (Lx EC Z Z (Bw c0))<|Bi a λap c1 a=>Ca (Cg [Ag [I n.1.re,I n.1.im]] Z) (MY cu cy c1 (BE (x:=n.1))) ?_
 rintro _ ep ⟨c2,rfl,a6⟩
 refine Vx (Fd VY Z)<|have c3:=Bs cz a6;Eu<|St Xv c3 Z Z Z Z λeq c4 bn=>AA<|Sr<|Vx (Lx Ie Z Z (Bw c4))<|Vm<|Vr (.bool (n.2==0))<|have c5:=Y2 (Y4 (Y4 ak p l m e) a2 a3 a4 a5) a6 bn;Eu<|St HQ c5 Z Z Z Z λer c6 c7=>Va (.bool (n.2==0))<|AA<|AS ?_
 obtain rfl:=AK a
 refine O2 B aj Z (.agg Ie Z Z (Bw c6)) (.tmp Z)<|⟨c2,[I 2,Sb d,Cx ap,I c],Z,Ho (T3 (T4 (T4 (Mo [20,21,22] ab) p l m e) a2 a3 a4 a5) a6 bn c7) ag,(Fx (x:=(Ak.mk 2 d ap c)))⟩
 refine Am (λac ae=>∃q z a7,ac=Env.puts q [(0,Sl ah y ai),(1,I c),(4,Pt ay 0),(6,I h),(7,Pt an 0),(45,.bool a7)]/\Ia w y c h d a7=some ax/\AU [] r ad z ae) ?_ ?_
 refine AM<|Vm<|Vr (.bool (decide (h>0)))<|Vm<|Bo a (λg a=>?_) λg a=>?_
 refine Gm g<|Gm g<|Bi a λaq c8 a=>have c9:=K3 Kd.u8 al l m e; ?_
 obtain ⟨da,db,es,bo,dc,de,df,dg,a8⟩:=A8 (κ:=Kd.u8) c9 c8
 replace a8:Ay r ad da (db+c.toNat*1) bo:=a8
 obtain rfl:=(show bo=[U8 aq] from dg)
 refine Gx g (Ix IC dc Z de df)<|Gx g (Ld NP Z (Ay.cell0 a8 Z))<|Gr g (.bool ((aq.toNat:Int)==((95:UInt8).toNat:Int)))<|Vp g<|Va (.bool ((aq.toNat:Int)==((95:UInt8).toNat:Int)))<|AA<|⟨_,r,((aq.toNat:Int)==((95:UInt8).toNat:Int)),Pu,a,Rf⟩
 refine Pg g<|Pg g<|Pg g<|Pg g<|Pg g<|Vp g<|Va (.bool false)<|AA<|⟨_,r,false,Pu,a,Rf⟩
 rintro _ ae ⟨q,z,a7,rfl,a,o⟩
 rw [Ia] at a
 refine Cn a (λdh a=>?_) λdh a=>?_
 refine Sr<|have di:=Y2 ao e o;Vx (Lx Ie Z Z (Bw di))<|have dj:=Bs (Y4 ak p l m e) o;Eu<|St HQ dj Z Z Z Z λet dk dl=>Va (.bool false)<|AA<|AS ?_
 obtain rfl:=AK a
 refine O2 B aj Z (.agg Ie Z Z (Bw dk)) (.tmp Z)<|⟨z,[I 0,Sb d,Cx (((0,0):Cpl)),I c],Z,Ho (T2 (T4 (Mo [20,21] ab) p l m e) o dl) ag,(Fx (x:=(Ak.mk 0 d ((0,0):Cpl) c)))⟩
 refine Sr<|Vm<|Vr (.bool (decide (h>0)))<|Va (.bool (decide (h>0)))<|AA<|Cn a (λdm a=>?_) λdm a=>?_
 refine Am (λac a9=>∃q ar u,ac=Env.puts q [(4,Pt ay 0),(7,Pt an 0)]/\NA c d u=some ax/\AU [21] z ae ar a9/\Bk ar a9 21 an [I u,Sb d,Cx (((0,0):Cpl)),I c] 159) ?_ ?_
 refine Sr<|Vx (Fd Fq Z)<|have ba:=Y2 ao e o;Vx (Ld B7 Z (Bc ba Z))<|Bi a λeu dn a=>Ca (Cg [Sb d] Z) (Qq w z ae dn) ?_
 rintro _ ew ⟨bp,rfl,au⟩
 refine AA<|Cn a (λdp a=>?_) λdp a=>?_
 refine AM<|Vx (Fz Lh Z)<|have dq:=Bs ba au;Eu<|St V3 dq Z Z Z Z λex dr ds=>AA<|⟨_,bp,1,Pu,a,(Tn (Mo [21] au) ds),dr⟩
 refine AR<|have dt:=Bs ba au;⟨_,bp,0,Pu,a,(Mo [21] au),dt⟩
 rintro _ a9 ⟨q,ar,u,rfl,a,bq,du⟩
 rw [NA] at a
 refine Sr<|Vx (Lx Ie Z Z (Bw du))<|have dv:=Y2 (Y4 ak p l m e) o bq;Eu<|St HQ dv Z Z Z Z λey dw dx=>Va (.bool true)<|AA<|AS ?_
 obtain rfl:=AK a
 refine O2 B aj Z (.agg Ie Z Z (Bw dw)) (.tmp Z)<|⟨ar,[I u,Sb d,Cx (((0,0):Cpl)),I c],Z,Ho (T3 (T4 (Mo [20,21] ab) p l m e) o bq dx) ag,(Fx (x:=(Ak.mk u d ((0,0):Cpl) c)))⟩
 refine AR<|Sr<|Vm<|Vm<|have br:=K4 Kd.u8 al l m e o;Bi a λaf dy a=>Ca (Cg [Sl ah y ai,I c] Z) (Ui z ae dy br) ?_
 rintro _ ez ⟨dz,rfl,av⟩
 refine Va (I af)<|AA<|Sr<|Vx (Fz Lh Z)<|have d0:=Y3 ao e o av;Eu<|St V3 d0 Z Z Z Z λe0 d1 bb=>AA<|Sr<|Vm<|Vm<|Vm<|Vm<|Vr (I (Wr (c+af)))<|Bi a λaa bt a=>have d2:=K2 Kd.u8 br av bb; ?_
 obtain ⟨bu,bv,d3,d4,bc⟩:=So d2 bt
 obtain ⟨e1,bw⟩:∃s,s=Value.slice (if bv=c.toNat then bu else bu.map (·.add (c.toNat*Kd.u8.size))) (((Wr (c+af))).toNat - c.toNat) (bv - c.toNat):=⟨_,rfl⟩
 rw [<-bw] at bc
 obtain ⟨d5,d6,d7,_⟩:=Lp bt
 obtain ⟨d8,d9,rfl⟩:=AW bc
 refine Vx (v:=.slice d8 aa.length d9) (by rw [bw];exact Run.sliceSlc IC d3 ⟨_,Z⟩ ⟨_,Z⟩ d5 d6 d7 d4)<|Vx (v:=Sb aa) (Run.bytesStr Pv Z bc)<|Vx (Fd Fq Z)<|Eu<|St YE d1 Z Z Z Z λe2 ea bx=>AA<|Sr<|Vx (Lx Ie Z Z (Bw ea))<|Vm<|Vr (.bool (decide (af>0)))<|have eb:=Y4 (Y4 ak p l m e) o av bb bx;Eu<|St HQ eb Z Z Z Z λe3 ec ed=>Va (.bool (decide (af>0)))<|AA<|AS ?_
 obtain rfl:=AK a
 refine O2 B aj Z (.agg Ie Z Z (Bw ec)) (.tmp Z)<|⟨dz,[I 3,Sb aa,Cx (((0,0):Cpl)),I c],Z,Ho (Tn (T4 (T4 (Mo [20,21] ab) p l m e) o av bb bx) ed) ag,(Fx (x:=(Ak.mk 3 aa ((0,0):Cpl) c)))⟩
theorem WD(c:Nat):IE.Spec (IE c):=lk0 (Uj c)
def GN.At(d:Col)(a:World)(f:Bts->Option ((List Ak)×Int)):Prop:=
 ∀{e v0 c},f e=some c->Slc Kd.u8 d.F a v0 e->
  Calls PG 47 #[v0] a λm g=>∃h l,m=.returned (.tuple #[l,I c.2])/\AU [] d a h g/\Slc Ai h.F g l c.1
def GN.Spec(f:Bts->Option ((List Ak)×Int)):Prop:=
 ∀a c,GN.At a c f
theorem SB(n:Nat)(ae:Col)(az:World)(a0:∀b,ae b<10):GN.At ae az (GN n):=by
 intro d v0 z a a1
 rw [GN] at a
 obtain ⟨af,ag,rfl⟩:=AW a1
 refine Az Tryz.func47 Z Tryz.ntmps47 Z λB a2 c4=>Sr<|Va (.slice none 0 0)<|Va (I 0)<|AA<|Sr<|Va (.slice none 0 0)<|AA<|Sr<|Va (I 0)<|AA<|AT<|Ah<|Bj (λh aa ab=>∃o u e q r f,aa=Env.puts o [(0,Sl af d ag),(4,Sl q e r),(5,I f)]/\Dv n d h e f=some z/\AU [20,22] ae az u ab/\Own Ai 159 u ab 22 (Sl q e r) e) n ?_ ?_
 exact ⟨_,ae,([]:List Ak),none,0,0,Pu,a,(AU.refl [20,22] _ _),Own.nil⟩
 rintro h _ ab ⟨o,u,e,q,r,f,rfl,a,w,ah⟩
 rcases h with _|h
 exact A5 a
 refine have a:FY n d (Dv n d h) e f=some z:=a; ?_
 obtain ⟨ac,ai⟩:∃s,s=Dv n d h:=⟨_,rfl⟩
 rw [<-ai,FY] at a
 refine AT<|Sr<|Vm<|Vm<|have ad:=Ss Kd.u8 a1 w; ?_
 obtain ⟨c5,c6,bo⟩:=AW ad
 refine Vx (v:=I (d.length:Int)) (Ll IC bo)<|Vr (.bool (decide (f< (d.length:Int))))<|AA<|Cn a (λbp a=>?_) λbp a=>?_
 refine AR<|Ah<|AT<|Sr<|Vm<|Vm<|Bi a λao bq a=>?_
 obtain ⟨br,bt,c7,a3,a4,a5,a6,bu,aj⟩:=A8 (κ:=Kd.u8) ad bq
 replace aj:Ay u ab br (bt+f.toNat*1) a3:=aj
 obtain rfl:=(show a3=[U8 ao] from bu)
 refine Vx (Ix IC a4 Z a5 a6)<|Vx (Ld NP Z (Ay.cell0 aj Z))<|Bi a λc8 bv a=>Ca (Cg [U8 ao] Z) (TS u ab bv) ?_
 rintro _ a7 ⟨ak,rfl,m⟩
 refine AA<|Cn a (λbw a=>?_) λbw a=>?_
 refine Sr<|Vm<|Vr (I (Wr (f+1)))<|Va (I (Wr (f+1)))<|AA<|BX<|have bx:=Os ah m;⟨h,Nat.lt_succ_self h,_,ak,e,q,r,(Wr (f+1)),Pu,(ai▸a),(Tn (Mo [20,22] w) m),bx⟩
 refine AR<|AT<|Sr<|Vm<|Vm<|Vx (Ix IC a4 Z a5 a6)<|have bz:=Es aj m;Vx (Ld NP Z (Ay.cell0 bz Z))<|Vr (.bool ((ao.toNat:Int)==((35:UInt8).toNat:Int)))<|AA<|Cn a (λb0 a=>?_) λb0 a=>?_
 refine AT<|Ah<|Bj (λp aa al=>∃o y l,aa=Env.puts o [(0,Sl af d ag),(4,Sl q e r),(5,I l)]/\FE d e ac p l=some z/\AU [] ak a7 y al) n ?_ ?_
 exact ⟨_,ak,f,Pu,a,Rf⟩
 rintro p _ al ⟨o,y,l,rfl,a,am⟩
 rcases p with _|p
 exact A5 a
 refine have a:FX d e ac (FE d e ac p) l=some z:=a; ?_
 obtain ⟨b1,a8⟩:∃s,s=FE d e ac p:=⟨_,rfl⟩
 rw [<-a8,FX] at a
 refine AT<|Am (λaa a9=>∃o an ap,aa=Env.puts o [(0,Sl af d ag),(4,Sl q e r),(5,I l),(34,.bool ap)]/\Ht e ac l b1 ap=some z/\AU [] y al an a9) ?_ ?_
 refine AM<|Vm<|Vm<|have ba:=K2 Kd.u8 ad m am; ?_
 obtain ⟨c9,da,b2⟩:=AW ba
 refine Vx (v:=I (d.length:Int)) (Ll IC b2)<|Vr (.bool (decide (l< (d.length:Int))))<|Vm<|Bo a (λg a=>?_) λg a=>?_
 refine Gm g<|Gm g<|Bi a λaq b3 a=>?_
 obtain ⟨b4,b5,db,bb,b6,b7,b8,b9,ar⟩:=A8 (κ:=Kd.u8) ba b3
 replace ar:Ay y al b4 (b5+l.toNat*1) bb:=ar
 obtain rfl:=(show bb=[U8 aq] from b9)
 refine Gx g (Ix IC b6 Z b7 b8)<|Gx g (Ld NP Z (Ay.cell0 ar Z))<|Gr g (.bool ((aq.toNat:Int) != ((10:UInt8).toNat:Int)))<|Vp g<|AA<|⟨_,y,((aq.toNat:Int) != ((10:UInt8).toNat:Int)),Pu,a,Rf⟩
 refine Pg g<|Pg g<|Pg g<|Pg g<|Pg g<|Vp g<|AA<|⟨_,y,false,Pu,a,Rf⟩
 rintro _ a9 ⟨o,an,ap,rfl,a,au⟩
 rw [Ht] at a
 refine Cn a (λca a=>?_) λca a=>?_
 refine AR<|Ah<|AM<|Vm<|Vr (I (Wr (l+1)))<|Va (I (Wr (l+1)))<|AA<|⟨p,Nat.lt_succ_self p,_,an,(Wr (l+1)),Pu,(a8▸a),(Tn (Mo [] am) au)⟩
 refine BX<|BX<|have cb:=Os (Os (Os ah m) am) au;⟨h,Nat.lt_succ_self h,_,an,e,q,r,l,Pu,(ai▸a),(T3 (Mo [20,22] w) m am au),cb⟩
 refine AR<|Sr<|Vm<|Vm<|have cc:=Ss Kd.u8 ad m;Bi a λc cd a=>Ca (Cg [Sl af d ag,I f] Z) (WD n ak a7 cd cc) ?_
 rintro _ dc ⟨cf,de,rfl,av,cg⟩
 obtain rfl:=DO cg
 refine Vm<|Vr (Ag [I c.1.kind,Sb c.1.text,Cx c.1.num,I c.1.at_])<|Vr (.bool c.2)<|Ef<|Aa cf 20 HC Z λbc df dg ch aw=>Eu<|St HQ ch Z Z Z Z λdh bd ax=>Va (.bool c.2)<|AA<|AT<|Sr<|Vm<|Vr (.bool (!c.2))<|AA<|Cn a (λci a=>?_) λci a=>?_
 refine Sr<|Vm<|Va (.slice none 0 0)<|Va (I f)<|AA<|AS ?_
 obtain rfl:=AK a
 refine O2 B a2 Z (.tmp Z) (.tmp Z)<|⟨bc,.slice none 0 0,Z,Ho (T4 (Mo [20,22] w) m av aw ax) a0,Ba⟩
 refine AR<|Sr<|Vm<|Vx (Lx Ie Z Z (Bw bd))<|Ef<|Cj (cs:=[I c.1.kind,Sb c.1.text,Cx c.1.num,I c.1.at_]) bc 21 [[I c.1.kind,Sb c.1.text,Cx c.1.num,I c.1.at_]] V7 HC Z Z (.cons Z Z Z .nil) Z λcj ck cl cm ay=>have cn:Own Ai 159 cj ck 21 (.slice (some ⟨cl,0,none⟩) 1 1) ([c.1]:List Ak):=Own.lit (css:=[[I c.1.kind,Sb c.1.text,Cx c.1.num,I c.1.at_]]) cm Z Z Z (Ac (Fx (x:=c.1)) BB) (A6 Z Ds) Z;have co:=Os (Os (Os (Os (Os ah m) av) aw) ax) ay;Bi a λdi be a=>Ef<|Br (κ:=Ai) Z Z co dcd YD (CI cn) (Ea be) (Ew be) λdj cq dk bf bg=>?_
 obtain ⟨bh,bi,rfl⟩:=Own.len bf
 refine Va (Sl bh ((e++([c.1]:List Ak))) bi)<|AA<|AM<|Vm<|Vx (Fd Fq Z)<|have cr:=Y2 bd ay bg;Vx (Ld B7 Z (Bc cr Z))<|Vx (v:=I (c.1.text.length:Int)) (Run.lenStr J2 Z)<|Vr (I (Wr (f+(c.1.text.length:Int))))<|Va (I (Wr (f+(c.1.text.length:Int))))<|AA<|⟨h,Nat.lt_succ_self h,_,cq,(e++([c.1]:List Ak)),bh,bi,(Wr (f+(c.1.text.length:Int))),Pu,(ai▸a),(T2 (T4 (Mo [20,22] w) m av aw ax) ay bg),bf⟩
 refine BX<|Sr<|Vm<|Vm ?_
 obtain ⟨dl,dm,ct⟩:=AW ad
 refine Vx (v:=I (d.length:Int)) (Ll IC ct)<|Vx (v:=Ag [I 4,Sb ([]:Bts),Cx (((0,0):Cpl)),I (d.length:Int)]) (Bp HC V6 Z (.cons Z Z Z (.cons Z Z Z .nil)))<|Ef<|Cj (cs:=[I 4,Sb ([]:Bts),Cx (((0,0):Cpl)),I (d.length:Int)]) u 23 [[I 4,Sb ([]:Bts),Cx (((0,0):Cpl)),I (d.length:Int)]] V7 HC Z Z (.cons Z Z Z .nil) Z λcu cv cw cx bj=>have cy:Own Ai 159 cu cv 23 (.slice (some ⟨cw,0,none⟩) 1 1) ([(Ak.mk 4 ([]:Bts) ((0,0):Cpl) (d.length:Int))]:List Ak):=Own.lit (css:=[[I 4,Sb ([]:Bts),Cx (((0,0):Cpl)),I (d.length:Int)]]) cx Z Z Z (Ac (Fx (x:=(Ak.mk 4 ([]:Bts) ((0,0):Cpl) (d.length:Int)))) BB) (A6 Z Ds) Z;have cz:=Os ah bj;Bi a λdn bk a=>Ef<|Br (κ:=Ai) Z Z cz dcd YD (CI cy) (Ea bk) (Ew bk) λdp dq dr bl c0=>?_
 obtain ⟨bm,bn,rfl⟩:=Own.len bl
 refine Va (Sl bm ((e++([(Ak.mk 4 ([]:Bts) ((0,0):Cpl) (d.length:Int))]:List Ak))) bn)<|Va (I (-1:Int))<|AA<|AS ?_
 obtain ⟨c1,c2,c3⟩:=Own.freeze (S:=[22]) bl dcd dcd
 obtain rfl:=AK a
 refine O2 B a2 Z (.tmp Z) (.tmp Z)<|⟨c1,Sl bm ((e++([(Ak.mk 4 ([]:Bts) ((0,0):Cpl) (d.length:Int))]:List Ak))) bn,Z,Ho (T3 (Mo [20,22] w) bj c0 c2) a0,c3⟩
theorem TW(c:Nat):GN.Spec (GN c):=lk0 (SB c)
def Bl.At(G1 G2:Prop)(c:Col)(a:World)(f:AC->Option Ak)(o:Nat):Prop:=
 ∀{d e g h},f e=some h->G1->G2->Bk c a o d g 126->BM.rep c.F a g e->
  Calls PG 73 #[Pt d 0] a λp l=>∃m n,p=.returned (Ag n)/\AU [] c a m l/\Ai.rep m.F l n h
def Bl.Spec(f:AC->Option Ak):Prop:=
 ∀c d {a},Bl.At ([a].Nodup) (0∉[a]) c d f a
theorem Ok(g:Col)(q:World)(r:∀b,g b<10):Bl.At True True g q Bl 1:=by
 intro n s an ao e _ _ u w
 rw [Bl] at e
 obtain ⟨aq,ar,rfl,o⟩:=E1 (Ab w)
 refine Az Tryz.func73 Z Tryz.ntmps73 Z λB y d=>Sr<|Ef<|Aa g 20 HC Z λh au av z l=>AA<|AT<|BZ C7 (qs 0 10 (.one 10 .nil)) [10] [] h (by kernel_rfl) λaa f=>Qx d Z (v:=Pt n 0) (λ_ _=>Mv Z)<|Qx d Z (λ_ _=>Nc Z)<|Qx d Z (λ_ _=>Fz Yp Z)<|have p:=Y2 u l f;Qx d Z (λ_ ⟨_,c⟩=>Ld AAl Z (Bc (Bs p c) Z))<|Qx d Z (v:=Pt n 0) (λ_ _=>Mv Z)<|Qx d Z (λ_ _=>Nc Z)<|Qx d Z (λ_ _=>Fd Ga Z)<|Qx d Z (λ_ ⟨_,c⟩=>Ld BC Z (Bc (Bs p c) Z))<|Bi e λa ab e=>have ac:=K2 Ai o l f; ?_
 obtain ⟨ad,ae,aw,af,ag,ah,ai,aj,m⟩:=A8 (κ:=Ai) ac ab
 replace m:Ay h aa ad (ae+s.at_.toNat*4) af:=m
 obtain rfl:=DO aj
 refine Qx d Z (λ_ _=>Ix V7 ag Z ah ai)<|Qx d Z (λ_ ⟨_,c⟩=>Lx Ie Z Z (Ay.part0 (Es m c) [I a.kind,Sb a.text,Cx a.num,I a.at_] Z))<|E3 dcd<|WY.one<|have ak:=Bs z f;BS Z (.none Z) Z<|St HQ ak Z Z Z Z λax al am=>WY.nil<|AS ?_
 obtain rfl:=AK e
 refine O1 B y Z (.agg Ie Z Z (Bw al))<|⟨h,[I a.kind,Sb a.text,Cx a.num,I a.at_],Z,Ho (T2 (Mo [20] l) f am) r,(Fx (x:=a))⟩
theorem Cd:Bl.Spec Bl:=lk1 (Ok)
def CD.At(G1 G2:Prop)(c:Col)(a:World)(f:AC->Int->Option AC)(d:Nat):Prop:=
 ∀{e l m n o},f l n=some o->G1->G2->Bk c a d e m 126->BM.rep c.F a m l->
  Calls PG 101 #[Pt e 0,I n] a λq g=>∃h p,q=.returned (.tuple #[])/\AU [d] c a h g/\Bk h g d e p 126/\BM.rep h.F g p o
def CD.Spec(f:AC->Int->Option AC):Prop:=
 ∀c d {a},CD.At ([a].Nodup) (0∉[a]) c d f a
theorem Ol(e:Col)(w:World)(m:∀b,e b<10):CD.At True True e w CD 1:=by
 intro y a ai f aj c _ _ g z
 rw [CD] at c
 obtain ⟨n,o,rfl,h⟩:=E1 (Ab z)
 refine Az Tryz.func101 Z Tryz.ntmps101 Z λB p al=>Sr<|Vm<|Vx (Nc Z)<|Vx (Fd Jb Z)<|Vx (Ld BC Z (Bc g Z))<|Vr (.bool (a.why==0))<|AA<|Cn c (λaa c=>?_) λaa c=>?_
 refine Sr<|Vm<|Vm<|Vx (Nc Z)<|Vx (Fd Jb Z)<|Eu<|St Mz g Z Z Z Z λab q r=>AA<|AM<|Vm<|Vm<|have s:=Ss Ai h r;Bi c λd ac c=>Ca (Cg [Pt y 0] Z) (Cd e ab ac dcd dcd q (AO (x:=(AC.mk a.marks a.at_ f a.where_ (Aj.mk a.l.text a.l.funcs a.l.arity a.l.nest) a.nest)) s)) ?_
 rintro _ am ⟨ad,an,rfl,l,ae⟩
 obtain rfl:=DO ae
 refine Vx (v:=I d.at_) (Kz (cs:=[I d.kind,Sb d.text,Cx d.num,I d.at_]) Yv Z Z)<|Vx (Nc Z)<|Vx (Fd VS Z)<|have af:=Bs q l;Eu<|St Mz af Z Z Z Z λao ag u=>AA ?_
 obtain rfl:=AK c
 refine NJ (B:=B) p<|NI Z<|have ah:=K2 Ai s l u;⟨ad,[Sl n a.marks o,I a.at_,I f,I d.at_,I a.l.text,I a.l.funcs,I a.l.arity,I a.l.nest,I a.nest],Z,Ho (T2 (Mo [1] r) l u) m,ag,(AO (x:=(AC.mk a.marks a.at_ f d.at_ (Aj.mk a.l.text a.l.funcs a.l.arity a.l.nest) a.nest)) ah)⟩
 refine AR ?_
 obtain rfl:=AK c
 refine NJ (B:=B) p<|NI Z<|⟨e,[Sl n a.marks o,I a.at_,I a.why,I a.where_,I a.l.text,I a.l.funcs,I a.l.arity,I a.l.nest,I a.nest],Z,Ho Rf m,g,(AO (x:=a) h)⟩
theorem FS:CD.Spec CD:=lk1 (Ol)
def CU.At(G1 G2:Prop)(e:Col)(a:World)(f:AC->Option (Ak×AC))(g:Nat):Prop:=
 ∀{h m n l},f m=some l->G1->G2->Bk e a g h n 126->BM.rep e.F a n m->
  Calls PG 102 #[Pt h 0] a λq c=>∃d o p,q=.returned (Ag o)/\AU [g] e a d c/\Ai.rep d.F c o l.1/\Bk d c g h p 126/\BM.rep d.F c p l.2
def CU.Spec(f:AC->Option (Ak×AC)):Prop:=
 ∀c d {a},CU.At ([a].Nodup) (0∉[a]) c d f a
theorem Om(r:Col)(al:World)(ac:∀b,r b<10):CU.At True True r al CU 1:=by
 intro s a bn am c _ _ an ao
 rw [CU] at c
 obtain ⟨ap,aq,rfl,ad⟩:=E1 (Ab ao)
 refine Az Tryz.func102 Z Tryz.ntmps102 Z λB ae bp=>Sr<|Ef<|Aa r 20 HC Z λar au av af n=>AA<|Sr<|Vm<|have o:=Bs an n;have u:=Ss Ai ad n;Bi c λd aw c=>Ca (Cg [Pt s 0] Z) (Cd ar au aw dcd dcd o (AO (x:=a) u)) ?_
 rintro _ bq ⟨ax,br,rfl,f,ay⟩
 obtain rfl:=DO ay
 refine Ef<|Aa ax 21 HC Z λw bt az a0 g=>Eu<|St HQ a0 Z Z Z Z λa1 ag h=>AA<|AT<|Am (λa2 y=>∃ah p z,a2=Env.puts ah [(0,Pt s 0),(2,Pt av 0),(3,Pt az 0),(15,.bool z)]/\GO a d z=some am/\AU [] w a1 p y) ?_ ?_
 refine AM<|Vm<|Vx (Nc Z)<|Vx (Fd Jb Z)<|have a3:=Y3 o f g h;Vx (Ld BC Z (Bc a3 Z))<|Vr (.bool (a.why != 0))<|Vm<|Bo c (λl c=>?_) λl c=>?_
 refine Pg l<|Pg l<|Pg l<|Vp l<|AA<|⟨_,w,true,Pu,c,Rf⟩
 refine Gx l (Fz Lh Z)<|Gx l (Ld Py Z (Bc ag Z))<|Gr l (.bool (d.kind != 0))<|Vp l<|AA<|⟨_,w,(d.kind != 0),Pu,c,Rf⟩
 rintro _ y ⟨ah,p,z,rfl,c,m⟩
 rw [GO] at c
 refine Cn c (λa4 c=>?_) λa4 c=>?_
 refine Sr<|Vm<|have a5:=Y4 o f g h m;have a6:=K4 Ai u f g h m;Bi c λe a7 c=>Ca (Cg [Pt s 0,I 21] Z) (FS p y a7 dcd dcd a5 (AO (x:=a) a6)) ?_
 rintro _ bu ⟨a8,bv,rfl,ai,a9,ba⟩
 obtain ⟨bb,bc,rfl,aj⟩:=E1 (Ab ba)
 refine AA<|Sr<|Vx (v:=Ag [I 0,Sb ([]:Bts),Cx (((0,0):Cpl)),I 0]) (Bp HC V6 Z .nil)<|have bd:=Bs (Y4 af f g h m) ai;Eu<|St HQ bd Z Z Z Z λbx be aa=>AA<|AS ?_
 obtain rfl:=AK c
 refine O1 B ae Z (.agg Ie Z Z (Bw be))<|have bf:=Bs a9 aa;have bg:=Ss Ai aj aa;⟨a8,[I 0,Sb ([]:Bts),Cx (((0,0):Cpl)),I 0],[Sl bb e.marks bc,I e.at_,I e.why,I e.where_,I e.l.text,I e.l.funcs,I e.l.arity,I e.l.nest,I e.nest],Z,Ho (T2 (T4 (Mo [1,20,21] n) f g h m) ai aa) ac,(Fx (x:=(Ak.mk 0 ([]:Bts) ((0,0):Cpl) 0))),bf,(AO (x:=e) bg)⟩
 refine AR<|Sr<|Vm<|Vx (Nc Z)<|Vx (Fd Ga Z)<|have ak:=Y4 o f g h m;Vx (Ld BC Z (Bc ak Z))<|Vr (I (Wr (a.at_+1)))<|Vx (Nc Z)<|Vx (Fd Ga Z)<|Eu<|St Mz ak Z Z Z Z λbz bh q=>AA<|Sr<|have bi:=Y2 ag m q;Vx (Lx Ie Z Z (Bw bi))<|have bj:=Bs (Y4 af f g h m) q;Eu<|St HQ bj Z Z Z Z λb0 bk ab=>AA<|AS ?_
 obtain rfl:=AK c
 refine O1 B ae Z (.agg Ie Z Z (Bw bk))<|have bl:=Bs bh ab;have bm:=K2 Ai (K4 Ai u f g h m) q ab;⟨p,[I d.kind,Sb d.text,Cx d.num,I d.at_],[Sl ap a.marks aq,I (Wr (a.at_+1)),I a.why,I a.where_,I a.l.text,I a.l.funcs,I a.l.arity,I a.l.nest,I a.nest],Z,Ho (T2 (T4 (Mo [1,20,21] n) f g h m) q ab) ac,(Fx (x:=d)),bl,(AO (x:=(AC.mk a.marks (Wr (a.at_+1)) a.why a.where_ (Aj.mk a.l.text a.l.funcs a.l.arity a.l.nest) a.nest)) bm)⟩
theorem ID:CU.Spec CU:=lk1 (Om)
def By.At(G1 G2:Prop)(c:Col)(a:World)(f:AC->Bts->Option Bool)(m:Nat):Prop:=
 ∀{d e g h l},f e h=some l->G1->G2->Bk c a m d g 126->BM.rep c.F a g e->
  Calls PG 104 #[Pt d 0,Sb h] a λn o=>∃p,n=.returned (.bool l)/\AU [] c a p o
def By.Spec(f:AC->Bts->Option Bool):Prop:=
 ∀c d {a},By.At ([a].Nodup) (0∉[a]) c d f a
theorem P2(m:Col)(p:World)(ab:∀b,m b<10):By.At True True m p By 1:=by
 intro ac q ao g ad a _ _ r ae
 rw [By] at a
 obtain ⟨aq,ar,rfl,s⟩:=E1 (Ab ae)
 refine Az Tryz.func104 Z Tryz.ntmps104 Z λB af au=>Sr<|Va (.bool false)<|AA<|Sr<|Vm<|Bi a λe ag a=>Ca (Cg [Pt ac 0] Z) (Cd m p ag dcd dcd r (AO (x:=q) s)) ?_
 rintro _ av ⟨ah,aw,rfl,u,ai⟩
 obtain rfl:=DO ai
 refine Ef<|Aa ah 20 HC Z λh ax ay aj w=>Eu<|St HQ aj Z Z Z Z λak l y=>AA<|Am (λal z=>∃aa n o,al=Env.puts aa [(4,.bool o)]/\HV o=some ad/\AU [] h ak n z) ?_ ?_
 refine AM<|Vm<|Vx (Nc Z)<|Vx (Fd Jb Z)<|have am:=Y3 r u w y;Vx (Ld BC Z (Bc am Z))<|Vr (.bool (q.why==0))<|Vm<|Bo a (λc a=>?_) λc a=>?_
 refine Gx c (Fz Lh Z)<|Gx c (Ld Py Z (Bc l Z))<|Gr c (.bool (e.kind==1))<|Gm c<|Bo a (λf a=>?_) λf a=>?_
 refine Pg f<|Pg f<|Pg f<|Gp c f<|Vp c<|Vm<|Gx Z (Fd Fq Z)<|Gx Z (Ld B7 Z (Bc l Z))<|Gm Z<|Gx Z (v:=.bool (e.text==g)) (Run.strEq Z Z)<|Vr (.bool (e.text==g))<|Va (.bool (e.text==g))<|AA<|⟨_,h,(e.text==g),Pu,a,Rf⟩
 refine Gx f (Fz Lh Z)<|Gx f (Ld Py Z (Bc l Z))<|Gr f (.bool (e.kind==3))<|Gp c f<|Vp c<|Vm<|Bo a (λd a=>?_) λd a=>?_
 refine Gx d (Fd Fq Z)<|Gx d (Ld B7 Z (Bc l Z))<|Gm d<|Gx d (v:=.bool (e.text==g)) (Run.strEq Z Z)<|Vp d<|Va (.bool (e.text==g))<|AA<|⟨_,h,(e.text==g),Pu,a,Rf⟩
 refine Pg d<|Pg d<|Pg d<|Pg d<|Vp d<|Va (.bool false)<|AA<|⟨_,h,false,Pu,a,Rf⟩
 refine Pg c<|Pg c<|Pg c<|Pg c<|Po<|Po<|Po<|Pg c<|Vp c<|Vm<|Pg Z<|Pg Z<|Pg Z<|Pg Z<|Vr (.bool false)<|Va (.bool false)<|AA<|⟨_,h,false,Pu,a,Rf⟩
 rintro _ z ⟨aa,n,o,rfl,a,an⟩
 rw [HV] at a
 refine AS ?_
 obtain rfl:=AK a
 refine O1 B af Z (.tmp Z)<|⟨n,Z,Ho (T3 (Mo [20] u) w y an) ab⟩
theorem DC:By.Spec By:=lk1 (P2)
def CE.At(G1 G2:Prop)(c:Col)(a:World)(f:AC->Bts->Option (Bool×AC))(d:Nat):Prop:=
 ∀{e m n o g},f m o=some g->G1->G2->Bk c a d e n 126->BM.rep c.F a n m->
  Calls PG 130 #[Pt e 0,Sb o] a λq h=>∃l p,q=.returned (.bool g.1)/\AU [d] c a l h/\Bk l h d e p 126/\BM.rep l.F h p g.2
def CE.Spec(f:AC->Bts->Option (Bool×AC)):Prop:=
 ∀c d {a},CE.At ([a].Nodup) (0∉[a]) c d f a
theorem Oo(f:Col)(h:World)(l:∀b,f b<10):CE.At True True f h CE 1:=by
 intro s a af u ag c _ _ g w
 rw [CE] at c
 obtain ⟨m,n,rfl,e⟩:=E1 (Ab w)
 refine Az Tryz.func130 Z Tryz.ntmps130 Z λB o ai=>Sr<|Va (.bool false)<|AA<|AT<|Sr<|Vm<|Vm<|Bi c λy z c=>Ca (Cg [Pt s 0,Sb u] Z) (DC f h z dcd dcd g (AO (x:=a) e)) ?_
 rintro _ aj ⟨p,rfl,d⟩
 refine Vr (.bool (!y))<|AA<|Cn c (λaa c=>?_) λaa c=>?_
 refine Sr<|Va (.bool false)<|AA<|AS ?_
 obtain rfl:=AK c
 refine O1 B o Z (.tmp Z)<|have ab:=Bs g d;have ac:=Ss Ai e d;⟨p,[Sl m a.marks n,I a.at_,I a.why,I a.where_,I a.l.text,I a.l.funcs,I a.l.arity,I a.l.nest,I a.nest],Z,Ho (Mo [] d) l,ab,(AO (x:=a) ac)⟩
 refine AR<|Sr<|Vm<|Vx (Nc Z)<|Vx (Fd Ga Z)<|have q:=Bs g d;Vx (Ld BC Z (Bc q Z))<|Vr (I (Wr (a.at_+1)))<|Vx (Nc Z)<|Vx (Fd Ga Z)<|Eu<|St Mz q Z Z Z Z λak ad r=>AA<|Sr<|Va (.bool true)<|AA<|AS ?_
 obtain rfl:=AK c
 refine O1 B o Z (.tmp Z)<|have ae:=K2 Ai e d r;⟨p,[Sl m a.marks n,I (Wr (a.at_+1)),I a.why,I a.where_,I a.l.text,I a.l.funcs,I a.l.arity,I a.l.nest,I a.nest],Z,Ho (Tn (Mo [1] d) r) l,ad,(AO (x:=(AC.mk a.marks (Wr (a.at_+1)) a.why a.where_ (Aj.mk a.l.text a.l.funcs a.l.arity a.l.nest) a.nest)) ae)⟩
theorem FT:CE.Spec CE:=lk1 (Oo)
def BD.At(G1 G2:Prop)(c:Col)(a:World)(f:AC->Bts->Option AC)(d:Nat):Prop:=
 ∀{e l m n o},f l n=some o->G1->G2->Bk c a d e m 126->BM.rep c.F a m l->
  Calls PG 103 #[Pt e 0,Sb n] a λq g=>∃h p,q=.returned (.tuple #[])/\AU [d] c a h g/\Bk h g d e p 126/\BM.rep h.F g p o
def BD.Spec(f:AC->Bts->Option AC):Prop:=
 ∀c d {a},BD.At ([a].Nodup) (0∉[a]) c d f a
theorem Oq(e:Col)(g:World)(h:∀b,e b<10):BD.At True True e g BD 1:=by
 intro l s am u an c _ _ w y
 rw [BD] at c
 obtain ⟨ap,aq,rfl,m⟩:=E1 (Ab y)
 refine Az Tryz.func103 Z Tryz.ntmps103 Z λB n ar=>Sr<|Vm<|Vm<|Bi c λa z c=>Ca (Cg [Pt l 0,Sb u] Z) (FT e g z dcd dcd w (AO (x:=s) m)) ?_
 rintro _ aa ⟨o,au,rfl,p,q,ab⟩
 obtain ⟨ac,ad,rfl,f⟩:=E1 (Ab ab)
 refine Vr (.bool (!a.1))<|AA<|Cn c (λae c=>?_) λae c=>?_
 refine AM<|Vm<|Bi c λd af c=>Ca (Cg [Pt l 0,I 21] Z) (FS o aa af dcd dcd q (AO (x:=a.2) f)) ?_
 rintro _ aw ⟨ag,ax,rfl,ah,ai,aj⟩
 obtain ⟨ak,al,rfl,r⟩:=E1 (Ab aj)
 refine AA ?_
 obtain rfl:=AK c
 refine NJ (B:=B) n<|NI Z<|⟨ag,[Sl ak d.marks al,I d.at_,I d.why,I d.where_,I d.l.text,I d.l.funcs,I d.l.arity,I d.l.nest,I d.nest],Z,Ho (Tn (Mo [1] p) ah) h,ai,(AO (x:=d) r)⟩
 refine AR ?_
 obtain rfl:=AK c
 refine NJ (B:=B) n<|NI Z<|⟨o,[Sl ac a.2.marks ad,I a.2.at_,I a.2.why,I a.2.where_,I a.2.l.text,I a.2.l.funcs,I a.2.l.arity,I a.2.l.nest,I a.2.nest],Z,Ho (Mo [1] p) h,q,(AO (x:=a.2) f)⟩
theorem Be:BD.Spec BD:=lk1 (Oq)
def CX.At(G1 G2:Prop)(c:Col)(a:World)(f:AC->Option (Int×AC))(d:Nat):Prop:=
 ∀{e m n g},f m=some g->G1->G2->Bk c a d e n 126->BM.rep c.F a n m->
  Calls PG 105 #[Pt e 0] a λp h=>∃l o,p=.returned (I g.1)/\AU [d] c a l h/\Bk l h d e o 126/\BM.rep l.F h o g.2
def CX.Spec(f:AC->Option (Int×AC)):Prop:=
 ∀c d {a},CX.At ([a].Nodup) (0∉[a]) c d f a
theorem PR(aj:Nat)(ac:Col)(a4:World)(ak:∀b,ac b<10):CX.At True True ac a4 (CX aj) 1:=by
 intro z f bx al a _ _ a5 a6
 rw [CX] at a
 obtain ⟨a7,a8,rfl,am⟩:=E1 (Ab a6)
 refine Az Tryz.func105 Z Tryz.ntmps105 Z λB an b0=>Sr<|Va (I 0)<|AA<|Sr<|Ef<|Cj (cs:=[Sb ([78]:Bts),Sb ([66]:Bts),Sb ([76]:Bts)]) ac 20 [[Sb ([78]:Bts)],[Sb ([66]:Bts)],[Sb ([76]:Bts)]] IT QB Z Z (.cons Z Z Z (.cons Z Z Z (.cons Z Z Z .nil))) Z λad ao ae a9 aa=>have ba:Own Kd.bts 9 ad ao 20 (.slice (some ⟨ae,0,none⟩) 3 3) ([([78]:Bts),([66]:Bts),([76]:Bts)]:List Bts):=Own.lit (css:=[[Sb ([78]:Bts)],[Sb ([66]:Bts)],[Sb ([76]:Bts)]]) a9 Z Z Z (Ac Z (Ac Z (Ac Z BB))) (A6 Z (A6 Z (A6 Z Ds))) Z;Va (Sl (some ⟨ae,0,none⟩) (([([78]:Bts),([66]:Bts),([76]:Bts)]:List Bts)) 3)<|AA<|AT<|Sr<|Va (I 0)<|AA<|Ah<|Bj (λg bb l=>∃ap m d h af ag n o p q r u w y,bb=Env.puts ap [(0,Pt z 0),(3,Sl (some ⟨ae,0,none⟩) (([([78]:Bts),([66]:Bts),([76]:Bts)]:List Bts)) 3),(4,I d)]/\CW g d h n o p q r u w y=some al/\AU [1] ad ao m l/\Slc Ai m.F l (Sl af h ag) h/\Bk m l 1 z [Sl af h ag,I n,I o,I p,I q,I r,I u,I w,I y] 126) aj ?_ ?_
 refine have bc:=Ss Ai am aa;have bd:=Bs a5 aa;⟨_,ad,0,f.marks,a7,a8,f.at_,f.why,f.where_,f.l.text,f.l.funcs,f.l.arity,f.l.nest,f.nest,Pu,a,(AU.refl [1] _ _),bc,bd⟩
 rintro g _ l ⟨ap,m,d,h,af,ag,n,o,p,q,r,u,w,y,rfl,a,ab,aq,ar⟩
 rcases g with _|g
 exact A5 a
 refine have a:DP (CW g) d h n o p q r u w y=some al:=a; ?_
 obtain ⟨b1,au⟩:∃s,s=CW g:=⟨_,rfl⟩
 rw [<-au,DP] at a
 refine AT<|Sr<|Vm<|Vm<|have av:=Os ba ab; ?_
 obtain ⟨b2,b3,be⟩:=Own.len av
 refine Vx (v:=I (([([78]:Bts),([66]:Bts),([76]:Bts)]:List Bts).length:Int)) (Ll IT be)<|Vr (.bool (decide (d< (([([78]:Bts),([66]:Bts),([76]:Bts)]:List Bts).length:Int))))<|AA<|Cn a (λbf a=>?_) λbf a=>?_
 refine AR<|AT<|Ah<|Sr<|Vm<|Vm<|Vm<|Bi a λaw bg a=>?_
 obtain ⟨bh,b4,ax,bi,bj,bk,bl,ah⟩:=JQ (κ:=Kd.bts) av bg
 replace ah:Fv 20 m l bh (0+d.toNat*1) ax:=ah
 obtain rfl:=(show ax=[Sb aw] from bl)
 refine Vx (Ix IT bi Z bj bk)<|Vx (Ld B7 Z (Fv.cell0 ah Z))<|Bi a λc bm a=>Ca (Cg [Pt z 0,Sb aw] Z) (FT m l bm dcd dcd ar (AO (x:=(AC.mk h n o p (Aj.mk q r u w) y)) aq)) ?_
 rintro _ b5 ⟨ay,b6,rfl,az,a0,bn⟩
 obtain ⟨a1,a2,rfl,ai⟩:=E1 (Ab bn)
 refine AA<|Cn a (λbo a=>?_) λbo a=>?_
 refine Sr<|Vm<|Vr (I (Wr (d+1)))<|Va (I (Wr (d+1)))<|AA<|AS ?_
 obtain rfl:=AK a
 refine O1 B an Z (.tmp Z)<|⟨ay,[Sl a1 c.2.marks a2,I c.2.at_,I c.2.why,I c.2.where_,I c.2.l.text,I c.2.l.funcs,I c.2.l.arity,I c.2.l.nest,I c.2.nest],Z,Ho (T2 (Mo [1] aa) ab az) ak,a0,(AO (x:=c.2) ai)⟩
 refine AR<|AM<|Vm<|Vr (I (Wr (d+1)))<|Va (I (Wr (d+1)))<|AA<|⟨g,Nat.lt_succ_self g,_,ay,(Wr (d+1)),c.2.marks,a1,a2,c.2.at_,c.2.why,c.2.where_,c.2.l.text,c.2.l.funcs,c.2.l.arity,c.2.l.nest,c.2.nest,Pu,(au▸a),(Tn (Mo [1] ab) az),ai,a0⟩
 refine BX<|Sr<|Vm<|Bi a λe bp a=>Ca (Cg [Pt z 0,I 21] Z) (FS m l bp dcd dcd ar (AO (x:=(AC.mk h n o p (Aj.mk q r u w) y)) aq)) ?_
 rintro _ b8 ⟨bq,b9,rfl,br,bt,bu⟩
 obtain ⟨bv,bw,rfl,a3⟩:=E1 (Ab bu)
 refine AA<|Sr<|Va (I 0)<|AA<|AS ?_
 obtain rfl:=AK a
 refine O1 B an Z (.tmp Z)<|⟨bq,[Sl bv e.marks bw,I e.at_,I e.why,I e.where_,I e.l.text,I e.l.funcs,I e.l.arity,I e.l.nest,I e.nest],Z,Ho (T2 (Mo [1] aa) ab br) ak,bt,(AO (x:=e) a3)⟩
theorem J5(d:Nat):CX.Spec (CX d):=lk1 (PR d)
def JR.At(c:Col)(a:World)(f:Int->AE->AE->Ak->Option AE):Prop:=
 ∀{d e g h l m n o},f d e h m=some o->AG.rep c.F a g e->AG.rep c.F a l h->Ai.rep c.F a n m->
  Calls PG 144 #[I d,Ag g,Ag l,Ag n] a λs p=>∃q r,s=.returned (Ag r)/\AU [] c a q p/\AG.rep q.F p r o
def JR.Spec(f:Int->AE->AE->Ak->Option AE):Prop:=
 ∀a c,JR.At a c f
theorem Uk(r:Col)(ac:World)(ad:∀b,r b<10):JR.At r ac JR:=by
 intro d a a6 c a7 e a8 a9 u ae af ag
 rw [JR] at u
 obtain ⟨m,n,rfl,w⟩:=E1 (Ae ae)
 obtain ⟨o,p,rfl,y⟩:=E1 (Ae af)
 obtain rfl:=DO ag
 refine Az Tryz.func144 Z Tryz.ntmps144 Z λB ah bc=>Sr<|Ef<|A0 r 20 Z Z λai bd be aj s=>Ef<|A0 ai 21 Z Z λak bf bg al q=>Ef<|A0 ak 22 Z Z λam bh bi an h=>Ef<|Aa am 23 Dm Z λao bj bk ap f=>AA<|Sr<|Vm<|have aq:=Y3 aj q h f;Vx (Lx BA Z Z (Bw aq))<|have ar:=Y2 al h f;Vx (Lx BA Z Z (Bw ar))<|Ef<|Cj (cs:=[I a.op,Sb a.name,Sb a.tail,I a.type_,Cx a.num,Sl m a.args n,I a.at_,I c.op,Sb c.name,Sb c.tail,I c.type_,Cx c.num,Sl o c.args p,I c.at_]) ao 24 [[I a.op,Sb a.name,Sb a.tail,I a.type_,Cx a.num,Sl m a.args n,I a.at_],[I c.op,Sb c.name,Sb c.tail,I c.type_,Cx c.num,Sl o c.args p,I c.at_]] CG Dm Z Z (.cons Z Z Z (.cons Z Z Z .nil)) Z λau av g aw l=>have ax:=Ss AG (K4 AG y s q h f) l;have ay:=Ss AG (K4 AG w s q h f) l;have z:Own AG 56 au av 24 (.slice (some ⟨g,0,none⟩) 2 2) ([a,c]:List AE):=Own.lit (css:=[[I a.op,Sb a.name,Sb a.tail,I a.type_,Cx a.num,Sl m a.args n,I a.at_],[I c.op,Sb c.name,Sb c.tail,I c.type_,Cx c.num,Sl o c.args p,I c.at_]]) aw Z Z Z (Ac (AY (x:=a) ay) (Ac (AY (x:=c) ax) BB)) (A6 Z (A6 Z Ds)) Z;Vx (Fd MD Z)<|have az:=Y2 an f l;Vx (Ld BC Z (Bc az Z))<|Vx (v:=Ag [I d,Sb ([]:Bts),Sb ([]:Bts),I 0,Cx (((0,0):Cpl)),Sl (some ⟨g,0,none⟩) (([a,c]:List AE)) 2,I e.at_]) (Bp Dm Ns Z (.cons Z Z Z (.cons Z Z Z (.cons Z Z Z .nil))))<|have a0:=Bs ap l;Eu<|Bf (vs:=[I d,Sb ([]:Bts),Sb ([]:Bts),I 0,Cx (((0,0):Cpl)),Sl (some ⟨g,0,none⟩) (([a,c]:List AE)) 2,I e.at_]) (cs':=[I d,Sb ([]:Bts),Sb ([]:Bts),I 0,Cx (((0,0):Cpl)),Sl (some ⟨g,0,none⟩) (([a,c]:List AE)) 2,I e.at_]) D7 Z Z Z Z (AQ Z (AQ Z (AQ Z (AQ Z (AQ Z (AQ (Own.one z) (AQ Z B6))))))) a0 dcd Z Z λbl a1 aa=>AA<|AS<|have a2:=Os z aa; ?_
 obtain ⟨a3,ab,a4⟩:=Own.freeze (S:=[24]) a2 dcd dcd
 obtain rfl:=AK u
 refine have a5:=Bs a1 ab;O1 B ah Z (.agg BA Z Z (Bw a5))<|⟨a3,[I d,Sb ([]:Bts),Sb ([]:Bts),I 0,Cx (((0,0):Cpl)),Sl (some ⟨g,0,none⟩) (([a,c]:List AE)) 2,I e.at_],Z,Ho (T2 (T4 (Mo [23,24] s) q h f l) aa ab) ad,(AY (x:=(AE.mk d ([]:Bts) ([]:Bts) 0 ((0,0):Cpl) ([a,c]:List AE) e.at_)) a4)⟩
theorem NB:JR.Spec JR:=lk0 (Uk)
def IF.At(e:Col)(a:World)(f:Bts->Option Int):Prop:=
 ∀{c d},f c=some d->
  Calls PG 163 #[Sb c] a λg h=>∃l,g=.returned (I d)/\AU [] e a l h
def IF.Spec(f:Bts->Option Int):Prop:=
 ∀a c,IF.At a c f
theorem TX(d:Col)(g:World)(e:∀b,d b<10):IF.At d g IF:=by
 intro c s a
 rw [IF] at a
 refine Az Tryz.func163 Z Tryz.ntmps163 Z λB f u=>Sr<|Va (I 0)<|AA<|AT<|Sr<|Vm<|AA<|Ah<|Sr<|Vx (v:=.bool (c==([116,114,117,101]:Bts))) (Run.strEq Z Z)<|Va (.bool (c==([116,114,117,101]:Bts)))<|AA<|Cn a (λh a=>?_) λh a=>?_
 refine Sr<|Va (I 2)<|AA<|AS ?_
 obtain rfl:=AK a
 refine O1 B f Z (.tmp Z)<|⟨d,Z,Ho Rf e⟩
 refine Sr<|Vx (v:=.bool (c==([102,97,108,115,101]:Bts))) (Run.strEq Z Z)<|Va (.bool (c==([102,97,108,115,101]:Bts)))<|AA<|Cn a (λl a=>?_) λl a=>?_
 refine Sr<|Va (I 3)<|AA<|AS ?_
 obtain rfl:=AK a
 refine O1 B f Z (.tmp Z)<|⟨d,Z,Ho Rf e⟩
 refine Sr<|Vx (v:=.bool (c==([110,105,108]:Bts))) (Run.strEq Z Z)<|Va (.bool (c==([110,105,108]:Bts)))<|AA<|Cn a (λm a=>?_) λm a=>?_
 refine Sr<|Va (I 4)<|AA<|AS ?_
 obtain rfl:=AK a
 refine O1 B f Z (.tmp Z)<|⟨d,Z,Ho Rf e⟩
 refine Sr<|Vx (v:=.bool (c==([102,97,105,108]:Bts))) (Run.strEq Z Z)<|Va (.bool (c==([102,97,105,108]:Bts)))<|AA<|Cn a (λn a=>?_) λn a=>?_
 refine Sr<|Va (I 5)<|AA<|AS ?_
 obtain rfl:=AK a
 refine O1 B f Z (.tmp Z)<|⟨d,Z,Ho Rf e⟩
 refine Sr<|Vx (v:=.bool (c==([110,111,116]:Bts))) (Run.strEq Z Z)<|Va (.bool (c==([110,111,116]:Bts)))<|AA<|Cn a (λo a=>?_) λo a=>?_
 refine Sr<|Va (I 14)<|AA<|AS ?_
 obtain rfl:=AK a
 refine O1 B f Z (.tmp Z)<|⟨d,Z,Ho Rf e⟩
 refine Sr<|Vx (v:=.bool (c==([114,101]:Bts))) (Run.strEq Z Z)<|Va (.bool (c==([114,101]:Bts)))<|AA<|Cn a (λp a=>?_) λp a=>?_
 refine Sr<|Va (I 15)<|AA<|AS ?_
 obtain rfl:=AK a
 refine O1 B f Z (.tmp Z)<|⟨d,Z,Ho Rf e⟩
 refine Sr<|Vx (v:=.bool (c==([105,109]:Bts))) (Run.strEq Z Z)<|Va (.bool (c==([105,109]:Bts)))<|AA<|Cn a (λq a=>?_) λq a=>?_
 refine Sr<|Va (I 16)<|AA<|AS ?_
 obtain rfl:=AK a
 refine O1 B f Z (.tmp Z)<|⟨d,Z,Ho Rf e⟩
 refine Sr<|Vx (v:=.bool (c==([99,111,110,106]:Bts))) (Run.strEq Z Z)<|Va (.bool (c==([99,111,110,106]:Bts)))<|AA<|Cn a (λr a=>?_) λr a=>?_
 refine Sr<|Va (I 17)<|AA<|AS ?_
 obtain rfl:=AK a
 refine O1 B f Z (.tmp Z)<|⟨d,Z,Ho Rf e⟩
 refine AR<|Sr<|Va (I 0)<|AA<|AS ?_
 obtain rfl:=AK a
 refine O1 B f Z (.tmp Z)<|⟨d,Z,Ho Rf e⟩
theorem Nu:IF.Spec IF:=lk0 (TX)
def ref04_reader_expr.At(G1 G2:Prop)(e:Col)(a:World)(f:AC->Option (AE×AC))(g:Nat):Prop:=
 ∀{h m n l},f m=some l->G1->G2->Bk e a g h n 126->BM.rep e.F a n m->
  Calls PG 106 #[Pt h 0] a λq c=>∃d o p,q=.returned (Ag o)/\AU [g] e a d c/\AG.rep d.F c o l.1/\Bk d c g h p 126/\BM.rep d.F c p l.2
def ref04_reader_expr.Spec(f:AC->Option (AE×AC)):Prop:=
 ∀c d {a},ref04_reader_expr.At ([a].Nodup) (0∉[a]) c d f a
def ref04_reader_cons.At(G1 G2:Prop)(e:Col)(a:World)(f:AC->Option (AE×AC))(g:Nat):Prop:=
 ∀{h m n l},f m=some l->G1->G2->Bk e a g h n 126->BM.rep e.F a n m->
  Calls PG 131 #[Pt h 0] a λq c=>∃d o p,q=.returned (Ag o)/\AU [g] e a d c/\AG.rep d.F c o l.1/\Bk d c g h p 126/\BM.rep d.F c p l.2
def ref04_reader_cons.Spec(f:AC->Option (AE×AC)):Prop:=
 ∀c d {a},ref04_reader_cons.At ([a].Nodup) (0∉[a]) c d f a
def ref04_reader_parts.At(G1 G2:Prop)(c:Col)(a:World)(f:AC->(List Bts)->Option ((List AE)×AC))(g:Nat):Prop:=
 ∀{h m n o p l},f m o=some l->G1->G2->Bk c a g h n 126->BM.rep c.F a n m->Slc Kd.bts c.F a p o->
  Calls PG 132 #[Pt h 0,p] a λs d=>∃e q r,s=.returned q/\AU [g] c a e d/\Slc AG e.F d q l.1/\Bk e d g h r 126/\BM.rep e.F d r l.2
def ref04_reader_parts.Spec(f:AC->(List Bts)->Option ((List AE)×AC)):Prop:=
 ∀c d {a},ref04_reader_parts.At ([a].Nodup) (0∉[a]) c d f a
def ref04_reader_branches.At(G1 G2:Prop)(c:Col)(a:World)(f:AC->AE->Option (AC×AE))(g h:Nat):Prop:=
 ∀{l o p m q r n},f o q=some n->G1->G2->Bk c a g l p 126->BM.rep c.F a p o->Bk c a h m r 56->AG.rep c.F a r q->
  Calls PG 133 #[Pt l 0,Pt m 0] a λw d=>∃e s u,w=.returned (.tuple #[])/\AU [g,h] c a e d/\Bk e d g l s 126/\BM.rep e.F d s n.1/\Bk e d h m u 56/\AG.rep e.F d u n.2
def ref04_reader_branches.Spec(f:AC->AE->Option (AC×AE)):Prop:=
 ∀d e {a c},ref04_reader_branches.At ([a,c].Nodup) (0∉[a,c]) d e f a c
def ref04_reader_comp.At(G1 G2:Prop)(e:Col)(a:World)(f:AC->Option (AE×AC))(g:Nat):Prop:=
 ∀{h m n l},f m=some l->G1->G2->Bk e a g h n 126->BM.rep e.F a n m->
  Calls PG 143 #[Pt h 0] a λq c=>∃d o p,q=.returned (Ag o)/\AU [g] e a d c/\AG.rep d.F c o l.1/\Bk d c g h p 126/\BM.rep d.F c p l.2
def ref04_reader_comp.Spec(f:AC->Option (AE×AC)):Prop:=
 ∀c d {a},ref04_reader_comp.At ([a].Nodup) (0∉[a]) c d f a
def ref04_reader_sum.At(G1 G2:Prop)(e:Col)(a:World)(f:AC->Option (AE×AC))(g:Nat):Prop:=
 ∀{h m n l},f m=some l->G1->G2->Bk e a g h n 126->BM.rep e.F a n m->
  Calls PG 148 #[Pt h 0] a λq c=>∃d o p,q=.returned (Ag o)/\AU [g] e a d c/\AG.rep d.F c o l.1/\Bk d c g h p 126/\BM.rep d.F c p l.2
def ref04_reader_sum.Spec(f:AC->Option (AE×AC)):Prop:=
 ∀c d {a},ref04_reader_sum.At ([a].Nodup) (0∉[a]) c d f a
def ref04_reader_term.At(G1 G2:Prop)(e:Col)(a:World)(f:AC->Option (AE×AC))(g:Nat):Prop:=
 ∀{h m n l},f m=some l->G1->G2->Bk e a g h n 126->BM.rep e.F a n m->
  Calls PG 151 #[Pt h 0] a λq c=>∃d o p,q=.returned (Ag o)/\AU [g] e a d c/\AG.rep d.F c o l.1/\Bk d c g h p 126/\BM.rep d.F c p l.2
def ref04_reader_term.Spec(f:AC->Option (AE×AC)):Prop:=
 ∀c d {a},ref04_reader_term.At ([a].Nodup) (0∉[a]) c d f a
def ref04_reader_unit.At(G1 G2:Prop)(e:Col)(a:World)(f:AC->Option (AE×AC))(g:Nat):Prop:=
 ∀{h m n l},f m=some l->G1->G2->Bk e a g h n 126->BM.rep e.F a n m->
  Calls PG 157 #[Pt h 0] a λq c=>∃d o p,q=.returned (Ag o)/\AU [g] e a d c/\AG.rep d.F c o l.1/\Bk d c g h p 126/\BM.rep d.F c p l.2
def ref04_reader_unit.Spec(f:AC->Option (AE×AC)):Prop:=
 ∀c d {a},ref04_reader_unit.At ([a].Nodup) (0∉[a]) c d f a
def ref04_reader_named.At(G1 G2:Prop)(c:Col)(a:World)(f:AC->Ak->Option (AE×AC))(g:Nat):Prop:=
 ∀{h m n o p l},f m o=some l->G1->G2->Bk c a g h n 126->BM.rep c.F a n m->Ai.rep c.F a p o->
  Calls PG 162 #[Pt h 0,Ag p] a λs d=>∃e q r,s=.returned (Ag q)/\AU [g] c a e d/\AG.rep e.F d q l.1/\Bk e d g h r 126/\BM.rep e.F d r l.2
def ref04_reader_named.Spec(f:AC->Ak->Option (AE×AC)):Prop:=
 ∀c d {a},ref04_reader_named.At ([a].Nodup) (0∉[a]) c d f a
structure AB.Good(a:AB):Prop where
 ref04_reader_expr:ref04_reader_expr.Spec a.ref04_reader_expr
 ref04_reader_cons:ref04_reader_cons.Spec a.ref04_reader_cons
 ref04_reader_parts:ref04_reader_parts.Spec a.ref04_reader_parts
 ref04_reader_branches:ref04_reader_branches.Spec a.ref04_reader_branches
 ref04_reader_comp:ref04_reader_comp.Spec a.ref04_reader_comp
 ref04_reader_sum:ref04_reader_sum.Spec a.ref04_reader_sum
 ref04_reader_term:ref04_reader_term.Spec a.ref04_reader_term
 ref04_reader_unit:ref04_reader_unit.Spec a.ref04_reader_unit
 ref04_reader_named:ref04_reader_named.Spec a.ref04_reader_named
theorem Ot(aq:AB)(ar:Nat)(b4:AB.Good aq)(ct:Col)(ek:World)(cu:∀b,ct b<10):ref04_reader_expr.At True True ct ek (DE aq ar) 1:=by
 intro c h i3 au a _ _ el em
 rw [DE] at a
 obtain ⟨en,eo,rfl,db⟩:=E1 (Ab em)
 refine Az Tryz.func106 Z Tryz.ntmps106 Z λB cv e=>Sr<|Ef<|Aa ct 20 Dm Z λep eq av cw bt=>AA<|Sr<|Vm<|have bu:=Bs el bt;have b5:=Ss Ai db bt;Bi a λm er a=>Ca (Cg [Pt c 0] Z) (Cd ep eq er dcd dcd bu (AO (x:=h) b5)) ?_
 rintro _ i5 ⟨es,i6,rfl,ab,et⟩
 obtain rfl:=DO et
 refine Ef<|Aa es 21 HC Z λdc i7 bv eu ac=>Eu<|St HQ eu Z Z Z Z λde ew ad=>AA<|Am (λp b6=>∃f a3 l,p=Env.puts f [(0,Pt c 0),(2,Pt av 0),(3,Pt bv 0),(4,.bool l)]/\DQ aq ar h m l=some au/\AU [] dc de a3 b6) ?_ ?_
 refine AM<|Vm<|have df:=Y3 bu ab ac ad;have dg:=K3 Ai b5 ab ac ad;Bi a λi8 ex a=>Ca (Cg [Pt c 0,Sb ([108,101,116]:Bts)] Z) (DC dc de ex dcd dcd df (AO (x:=h) dg)) ?_
 rintro _ ey ⟨dh,rfl,bw⟩
 refine Vm<|Bo a (λa4 a=>?_) λa4 a=>?_
 refine Pg a4<|Pg a4<|Vp a4<|Vm<|Pg Z<|Pg Z<|Vr (.bool true)<|Va (.bool true)<|AA<|⟨_,dh,true,Pu,a,(Mo [] bw)⟩
 refine Gm a4<|have di:=Bs df bw;have dj:=Ss Ai dg bw;Bi a λi9 ez a=>CQ (.guard (t:=false) (b:=false) Z Z Z Z (Cb a4)) Z Z (Cg [Pt c 0,Sb ([115,116,114,105,99,116]:Bts)] Z)<|Calls.mono (DC dh ey ez dcd dcd di (AO (x:=h) dj)) ?_
 rintro _ e0 ⟨dk,rfl,b7⟩
 refine ⟨_,Z,?_⟩
 refine Vp a4<|Vm<|Bo a (λa5 a=>?_) λa5 a=>?_
 refine Pg a5<|Pg a5<|Vp a5<|Va (.bool true)<|AA<|⟨_,dk,true,Pu,a,(Tn (Mo [] bw) b7)⟩
 refine Gm a5<|have e1:=Bs di b7;have e2:=Ss Ai dj b7;Bi a λdl e3 a=>CQ (.guard (t:=false) (b:=false) Z Z Z Z (Cb a5)) Z Z (Cg [Pt c 0,Sb ([99,97,115,101]:Bts)] Z)<|Calls.mono (DC dk e0 e3 dcd dcd e1 (AO (x:=h) e2)) ?_
 rintro _ ja ⟨e4,rfl,e5⟩
 refine ⟨_,Z,?_⟩
 refine Vp a5<|Va (.bool dl)<|AA<|⟨_,e4,dl,Pu,a,(T2 (Mo [] bw) b7 e5)⟩
 rintro _ b6 ⟨f,a3,l,rfl,a,ae⟩
 rw [DQ] at a
 refine Am (λp bg=>∃f aw n bx bz q r u w y z aa ag,p=Env.puts f [(0,Pt c 0),(2,Pt av 0),(3,Pt bv 0),(4,.bool l)]/\Dz aq ar m l n q r u w y z aa ag=some au/\AU [1] a3 b6 aw bg/\Slc Ai aw.F bg (Sl bx n bz) n/\Bk aw bg 1 c [Sl bx n bz,I q,I r,I u,I w,I y,I z,I aa,I ag] 126) ?_ ?_
 refine Am (λp cx=>∃f b8 cy,p=Env.puts f [(0,Pt c 0),(2,Pt av 0),(3,Pt bv 0),(4,.bool l),(31,.bool cy)]/\D0 aq ar h m l cy=some au/\AU [] a3 b6 b8 cx) ?_ ?_
 refine BZ C7 (qs 0 13 .nil) [] [] a3 (by kernel_rfl) λjb cz=>Qx e Z (v:=.bool l) (λ_ _=>Mv Z)<|Qx e Z (v:=.bool l) (λ_ _=>Mv Z)<|Bo a (λg a=>?_) λg a=>?_
 refine Qg e Z g (v:=Pt c 0) (λ_ _=>Mv Z)<|Qg e Z g (λ_ _=>Nc Z)<|Qg e Z g (λ_ _=>Fd OA Z)<|have dm:=Bs (Y4 bu ab ac ad ae) cz;Qg e Z g (λ_ ⟨_,s⟩=>Ld BC Z (Bc (Bs dm s) Z))<|Qg e Z g (v:=Pt c 0) (λ_ _=>Mv Z)<|Qg e Z g (λ_ _=>Nc Z)<|Qg e Z g (λ_ _=>Fd RG Z)<|Qg e Z g (λ_ _=>Fd ZX Z)<|Qg e Z g (λ_ ⟨_,s⟩=>Ld BC Z (Bc (Bs dm s) Z))<|Qg e Z g (v:=.bool (decide (h.nest>=h.l.nest))) (λ_ _=>Z)<|Qx e Z (v:=.bool (decide (h.nest>=h.l.nest))) (λ_ _=>(Pk g))<|CA<|⟨_,a3,(decide (h.nest>=h.l.nest)),Pu,a,(Mo [] cz)⟩
 refine Qp e Z g<|Qp e Z g<|Qp e Z g<|Qp e Z g<|Qp e Z g<|Qp e Z g<|Qp e Z g<|Qp e Z g<|Qp e Z g<|Qp e Z g<|Qx e Z (v:=.bool false) (λ_ _=>(Pk g))<|CA<|⟨_,a3,false,Pu,a,(Mo [] cz)⟩
 rintro _ cx ⟨f,b8,cy,rfl,a,bh⟩
 rw [D0] at a
 refine Cn a (λe6 a=>?_) λe6 a=>?_
 refine AM<|Vm<|have e7:=Bs (Y4 bu ab ac ad ae) bh;have e8:=Ss Ai (K4 Ai b5 ab ac ad ae) bh;Bi a λak e9 a=>Ca (Cg [Pt c 0,I 23] Z) (FS b8 cx e9 dcd dcd e7 (AO (x:=h) e8)) ?_
 rintro _ jc ⟨fa,jd,rfl,fb,fc,fd⟩
 obtain ⟨fe,ff,rfl,dn⟩:=E1 (Ab fd)
 refine AA<|⟨_,fa,ak.marks,fe,ff,ak.at_,ak.why,ak.where_,ak.l.text,ak.l.funcs,ak.l.arity,ak.l.nest,ak.nest,Pu,a,(Tn (Mo [1] bh) fb),dn,fc⟩
 refine AR<|have fg:=Ss Ai (K4 Ai b5 ab ac ad ae) bh;have fh:=Bs (Y4 bu ab ac ad ae) bh;⟨_,b8,h.marks,en,eo,h.at_,h.why,h.where_,h.l.text,h.l.funcs,h.l.arity,h.l.nest,h.nest,Pu,a,(Mo [1] bh),fg,fh⟩
 rintro _ bg ⟨f,aw,n,bx,bz,q,r,u,w,y,z,aa,ag,rfl,a,a6,bi,bj⟩
 rw [Dz] at a
 refine AT<|Sr<|Vm<|Vx (Nc Z)<|Vx (Fd Jb Z)<|Vx (Ld BC Z (Bc bj Z))<|Vr (.bool (r != 0))<|AA<|Cn a (λfi a=>?_) λfi a=>?_
 refine Sr<|Vx (v:=Ag [I 0,Sb ([]:Bts),Sb ([]:Bts),I 0,Cx (((0,0):Cpl)),.slice none 0 0,I 0]) (Bp Dm Ns Z .nil)<|have fj:=Bs (Y4 cw ab ac ad ae) a6;Eu<|St D7 fj Z Z Z Z λjf fk c0=>AA<|AS ?_
 obtain rfl:=AK a
 refine O1 B cv Z (.agg BA Z Z (Bw fk))<|have fl:=Bs bj c0;have fm:=Ss Ai bi c0;⟨aw,[I 0,Sb ([]:Bts),Sb ([]:Bts),I 0,Cx (((0,0):Cpl)),.slice none 0 0,I 0],[Sl bx n bz,I q,I r,I u,I w,I y,I z,I aa,I ag],Z,Ho (T2 (T4 (Mo [1,20,21] bt) ab ac ad ae) a6 c0) cu,(AY (x:=(AE.mk 0 ([]:Bts) ([]:Bts) 0 ((0,0):Cpl) [] 0)) Ba),fl,(AO (x:=(AC.mk n q r u (Aj.mk w y z aa) ag)) fm)⟩
 refine AR<|AT<|Am (λp b9=>∃f bk c1,p=Env.puts f [(0,Pt c 0),(2,Pt av 0),(3,Pt bv 0),(4,.bool l),(46,.bool c1)]/\Dy aq ar m l n q r u w y z aa ag c1=some au/\AU [] aw bg bk b9) ?_ ?_
 refine AM<|Vm<|Vr (.bool (!l))<|Vm<|Bo a (λal a=>?_) λal a=>?_
 refine Gm al<|Bi a λdp fn a=>CQ (.guard (t:=true) (b:=true) Z Z Z Z (Cb al)) Z Z (Cg [Pt c 0,Sb ([105,102]:Bts)] Z)<|Calls.mono (DC aw bg fn dcd dcd bj (AO (x:=(AC.mk n q r u (Aj.mk w y z aa) ag)) bi)) ?_
 rintro _ jg ⟨fo,rfl,fp⟩
 refine ⟨_,Z,?_⟩
 refine Gr al (.bool (!dp))<|Vp al<|AA<|⟨_,fo,(!dp),Pu,a,(Mo [] fp)⟩
 refine Pg al<|Pg al<|Pg al<|Vp al<|AA<|⟨_,aw,false,Pu,a,Rf⟩
 rintro _ b9 ⟨f,bk,c1,rfl,a,af⟩
 rw [Dy] at a
 refine Cn a (λfq a=>?_) λfq a=>?_
 refine Sr<|Vm<|have fr:=Bs bj af;have fs:=Ss Ai bi af;Bi a λd ft a=>Ca (Cg [Pt c 0] Z) (b4.ref04_reader_cons bk b9 ft dcd dcd fr (AO (x:=(AC.mk n q r u (Aj.mk w y z aa) ag)) fs)) ?_
 rintro _ jh ⟨fu,ji,jj,rfl,dq,fv,fw,fx⟩
 obtain ⟨ds,dt,rfl,dr⟩:=E1 (Ae fv)
 obtain ⟨fy,fz,rfl,du⟩:=E1 (Ab fx)
 refine have f0:=Y3 (Y4 cw ab ac ad ae) a6 af dq;Eu<|St D7 f0 Z Z Z Z λjm f1 ca=>AA<|AS ?_
 obtain rfl:=AK a
 refine O1 B cv Z (.agg BA Z Z (Bw f1))<|have f2:=Ss AG dr ca;have f3:=Bs fw ca;have f4:=Ss Ai du ca;⟨fu,[I d.1.op,Sb d.1.name,Sb d.1.tail,I d.1.type_,Cx d.1.num,Sl ds d.1.args dt,I d.1.at_],[Sl fy d.2.marks fz,I d.2.at_,I d.2.why,I d.2.where_,I d.2.l.text,I d.2.l.funcs,I d.2.l.arity,I d.2.l.nest,I d.2.nest],Z,Ho (T4 (T4 (Mo [1,20,21] bt) ab ac ad ae) a6 af dq ca) cu,(AY (x:=d.1) f2),f3,(AO (x:=d.2) f4)⟩
 refine AR<|Am (λp c2=>∃f cb a7,p=Env.puts f [(0,Pt c 0),(2,Pt av 0),(3,Pt bv 0),(4,.bool l)]/\Dx aq ar m l n q r u w y z aa a7=some au/\AU [1] bk b9 cb c2/\Bk cb c2 1 c [Sl bx n bz,I q,I r,I u,I w,I y,I z,I aa,I a7] 126) ?_ ?_
 refine Sr<|Vm<|AA<|Cn a (λf5 a=>?_) λf5 a=>?_
 refine AM<|Vm<|Vx (Nc Z)<|Vx (Fd OA Z)<|have dv:=Bs bj af;Vx (Ld BC Z (Bc dv Z))<|Vr (I (Wr (ag+1)))<|Vx (Nc Z)<|Vx (Fd OA Z)<|Eu<|St Mz dv Z Z Z Z λjn f6 f7=>AA<|⟨_,bk,(Wr (ag+1)),Pu,a,(Mo [1] f7),f6⟩
 refine AR<|have f8:=Bs bj af;⟨_,bk,ag,Pu,a,(AU.refl [1] _ _),f8⟩
 rintro _ c2 ⟨f,cb,a7,rfl,a,bl,dw⟩
 rw [Dx] at a
 refine Sr<|Vm<|Vx (Nc Z)<|Vx (Fd Ga Z)<|Vx (Ld BC Z (Bc dw Z))<|Vr (I (Wr (q+1)))<|Vx (Nc Z)<|Vx (Fd Ga Z)<|Eu<|St Mz dw Z Z Z Z λjo c3 bm=>AA<|Sr<|Vx (Fd MD Z)<|have dx:=Bs (Y4 ew ae a6 af bl) bm;Vx (Ld BC Z (Bc dx Z))<|Vx (v:=Ag [I 0,Sb ([]:Bts),Sb ([]:Bts),I 0,Cx (((0,0):Cpl)),.slice none 0 0,I m.at_]) (Bp Dm Ns Z (.cons Z Z Z .nil))<|Ef<|Aa cb 22 Dm Z λbn jp bo f9 am=>Eu<|St D7 f9 Z Z Z Z λdy c4 an=>AA<|Am (λp a8=>∃f ao ap b0 b1 a9 ba bb bc bd be bf bp ax ay az a0 a1 ah bq br a2,p=Env.puts f [(0,Pt c 0),(2,Pt av 0),(4,.bool l),(5,Pt bo 0)]/\FF l ap a9 ba bb bc bd be bf bp ax ay az a0 a1 ah a2=some au/\AU [1,22,23,24,25] bn dy ao a8/\Slc Ai ao.F a8 (Sl b0 ap b1) ap/\Slc AG ao.F a8 (Sl bq ah br) ah/\Bk ao a8 1 c [Sl b0 ap b1,I a9,I ba,I bb,I bc,I bd,I be,I bf,I bp] 126/\Bk ao a8 22 bo [I ax,Sb ay,Sb az,I a0,Cx a1,Sl bq ah br,I a2] 56) ?_ ?_
 refine Sr<|Vx (Fd Fq Z)<|have dz:=Y2 dx am an;Vx (Ld B7 Z (Bc dz Z))<|AA<|Ah<|Sr<|Vx (v:=.bool (m.text==([105,102]:Bts))) (Run.strEq Z Z)<|Va (.bool (m.text==([105,102]:Bts)))<|AA<|Cn a (λga a=>?_) λga a=>?_
 refine Sr<|Vx (Fz Cp Z)<|Eu<|St V5 c4 Z Z Z Z λjq gb c5=>AA<|AM<|Vm<|Ef<|Cj (cs:=[Sb ([]:Bts),Sb ([116,104,101,110]:Bts),Sb ([101,108,115,101]:Bts)]) bn 23 [[Sb ([]:Bts)],[Sb ([116,104,101,110]:Bts)],[Sb ([101,108,115,101]:Bts)]] IT QB Z Z (.cons Z Z Z (.cons Z Z Z (.cons Z Z Z .nil))) Z λgc d0 d1 gd cc=>have ge:Own Kd.bts 9 gc d0 23 (.slice (some ⟨d1,0,none⟩) 3 3) ([([]:Bts),([116,104,101,110]:Bts),([101,108,115,101]:Bts)]:List Bts):=Own.lit (css:=[[Sb ([]:Bts)],[Sb ([116,104,101,110]:Bts)],[Sb ([101,108,115,101]:Bts)]]) gd Z Z Z (Ac Z (Ac Z (Ac Z BB))) (A6 Z (A6 Z (A6 Z Ds))) Z; ?_
 obtain ⟨gf,cd,gg⟩:=Own.freeze (S:=[23]) ge dcd dcd
 refine have gh:=Bs (Y4 c3 am an c5 cc) cd;have gi:=K4 Ai (K4 Ai bi af bl bm am) an c5 cc cd;Bi a λai gj a=>Ca (Cg [Pt c 0,Sl (some ⟨d1,0,none⟩) (([([]:Bts),([116,104,101,110]:Bts),([101,108,115,101]:Bts)]:List Bts)) 3] Z) (b4.ref04_reader_parts gf d0 gj dcd dcd gh (AO (x:=(AC.mk n (Wr (q+1)) r u (Aj.mk w y z aa) a7)) gi) gg) ?_
 rintro _ jr ⟨gk,js,jt,rfl,d2,d3,gl,gm⟩
 obtain ⟨gn,go,rfl⟩:=AW d3
 obtain ⟨gp,gq,rfl,d4⟩:=E1 (Ab gm)
 refine Vx (Fd BR Z)<|have gr:=Y3 gb cc cd d2;Eu<|St TP gr Z Z Z Z λjv gs cf=>AA<|have gt:=Ss Ai d4 cf;have gu:=Ss AG d3 cf;have gv:=Bs gl cf;⟨_,gk,ai.2.marks,gp,gq,ai.2.at_,ai.2.why,ai.2.where_,ai.2.l.text,ai.2.l.funcs,ai.2.l.arity,ai.2.l.nest,ai.2.nest,19,([]:Bts),([]:Bts),0,((0,0):Cpl),ai.1,gn,go,m.at_,Pu,a,(T4 (Mo [1,22,23,24,25] c5) cc cd d2 cf),gt,gu,gv,gs⟩
 refine Sr<|Vx (v:=.bool (m.text==([99,97,115,101]:Bts))) (Run.strEq Z Z)<|Va (.bool (m.text==([99,97,115,101]:Bts)))<|AA<|Cn a (λgw a=>?_) λgw a=>?_
 refine AM<|Vm<|have gx:=Y2 c3 am an;have gy:=Ss Ai (K4 Ai bi af bl bm am) an;Bi a λo gz a=>Ca (Cg [Pt c 0,Pt bo 0] Z) (b4.ref04_reader_branches bn dy gz dcd dcd gx (AO (x:=(AC.mk n (Wr (q+1)) r u (Aj.mk w y z aa) a7)) gy) c4 (AY (x:=(AE.mk 0 ([]:Bts) ([]:Bts) 0 ((0,0):Cpl) [] m.at_)) Ba)) ?_
 rintro _ jw ⟨g0,jx,jy,rfl,g1,g2,g3,g4,g5⟩
 obtain ⟨g6,g7,rfl,d5⟩:=E1 (Ab g3)
 obtain ⟨g8,g9,rfl,d6⟩:=E1 (Ae g5)
 refine AA<|⟨_,g0,o.1.marks,g6,g7,o.1.at_,o.1.why,o.1.where_,o.1.l.text,o.1.l.funcs,o.1.l.arity,o.1.l.nest,o.1.nest,o.2.op,o.2.name,o.2.tail,o.2.type_,o.2.num,o.2.args,g8,g9,o.2.at_,Pu,a,(Mo [1,22,23,24,25] g1),d5,d6,g2,g4⟩
 refine Sr<|Vx (Fz Cp Z)<|Eu<|St V5 c4 Z Z Z Z λha d7 cg=>AA<|Am (λp ch=>∃f ci cj,p=Env.puts f [(0,Pt c 0),(2,Pt av 0),(4,.bool l),(5,Pt bo 0)]/\Dw aq ar m l n q r u w y z aa a7 cj=some au/\AU [22] bn ha ci ch/\Bk ci ch 22 bo [I cj,Sb ([]:Bts),Sb ([]:Bts),I 0,Cx (((0,0):Cpl)),.slice none 0 0,I m.at_] 56) ?_ ?_
 refine Sr<|Vx (Fd Fq Z)<|have hb:=Bs dz cg;Vx (Ld B7 Z (Bc hb Z))<|Vx (v:=.bool (m.text==([115,116,114,105,99,116]:Bts))) (Run.strEq Z Z)<|AA<|Cn a (λhc a=>?_) λhc a=>?_
 refine AM<|Vx (Fz Cp Z)<|Eu<|St V5 d7 Z Z Z Z λj1 hd he=>AA<|⟨_,bn,22,Pu,a,(Mo [22] he),hd⟩
 refine AR<|⟨_,bn,21,Pu,a,(AU.refl [22] _ _),d7⟩
 rintro _ ch ⟨f,ci,cj,rfl,a,c6,hf⟩
 rw [Dw] at a
 refine Sr<|Vm<|have hg:=Y4 c3 am an cg c6;have hh:=K3 Ai (K4 Ai bi af bl bm am) an cg c6;Bi a λd8 hi a=>Ca (Cg [Pt c 0] Z) (ID ci ch hi dcd dcd hg (AO (x:=(AC.mk n (Wr (q+1)) r u (Aj.mk w y z aa) a7)) hh)) ?_
 rintro _ j2 ⟨hj,j3,j4,rfl,d9,hk,hl,hm⟩
 obtain rfl:=DO hk
 obtain ⟨j6,j7,rfl,ea⟩:=E1 (Ab hm)
 refine Ef<|Aa hj 24 HC Z λhn j8 j9 ho ck=>Eu<|St HQ ho Z Z Z Z λka hp cl=>AA<|Sr<|Vx (Fd Fq Z)<|Vx (Ld B7 Z (Bc hp Z))<|Vx (Fd DW Z)<|have hq:=Y3 hf d9 ck cl;Eu<|St YE hq Z Z Z Z λhr hs c7=>AA<|Sr<|Vm<|have ht:=Y3 hl ck cl c7;have hu:=K3 Ai ea ck cl c7;Bi a λeb hw a=>Ca (Cg [Pt c 0] Z) (J5 ar hn hr hw dcd dcd ht (AO (x:=d8.2) hu)) ?_
 rintro _ kb ⟨hx,kc,rfl,ec,hy,hz⟩
 obtain ⟨ke,kf,rfl,ed⟩:=E1 (Ab hz)
 refine Vx (Fd Kk Z)<|have h0:=Bs hs ec;Eu<|St Xu h0 Z Z Z Z λkg h1 c8=>AA<|AM<|Vm<|Ef<|Cj (cs:=[Sb ([61]:Bts),Sb ([105,110]:Bts)]) hx 25 [[Sb ([61]:Bts)],[Sb ([105,110]:Bts)]] IT QB Z Z (.cons Z Z Z (.cons Z Z Z .nil)) Z λh2 ee ef h3 cm=>have h4:Own Kd.bts 9 h2 ee 25 (.slice (some ⟨ef,0,none⟩) 2 2) ([([61]:Bts),([105,110]:Bts)]:List Bts):=Own.lit (css:=[[Sb ([61]:Bts)],[Sb ([105,110]:Bts)]]) h3 Z Z Z (Ac Z (Ac Z BB)) (A6 Z (A6 Z Ds)) Z; ?_
 obtain ⟨h5,cn,h6⟩:=Own.freeze (S:=[25]) h4 dcd dcd
 refine have h7:=Y3 hy c8 cm cn;have h8:=K3 Ai ed c8 cm cn;Bi a λaj h9 a=>Ca (Cg [Pt c 0,Sl (some ⟨ef,0,none⟩) (([([61]:Bts),([105,110]:Bts)]:List Bts)) 2] Z) (b4.ref04_reader_parts h5 ee h9 dcd dcd h7 (AO (x:=eb.2) h8) h6) ?_
 rintro _ kh ⟨ia,ki,kj,rfl,eg,eh,ib,ic⟩
 obtain ⟨id,ie,rfl⟩:=AW eh
 obtain ⟨ig,ih,rfl,ei⟩:=E1 (Ab ic)
 refine Vx (Fd BR Z)<|have ii:=Y3 h1 cm cn eg;Eu<|St TP ii Z Z Z Z λkl ij co=>AA<|have ik:=Ss Ai ei co;have il:=Ss AG eh co;have im:=Bs ib co;⟨_,ia,aj.2.marks,ig,ih,aj.2.at_,aj.2.why,aj.2.where_,aj.2.l.text,aj.2.l.funcs,aj.2.l.arity,aj.2.l.nest,aj.2.nest,cj,d8.1.text,([]:Bts),eb.1,((0,0):Cpl),aj.1,id,ie,m.at_,Pu,a,(T3 (T4 (T4 (Mo [1,22,23,24,25] cg) c6 d9 ck cl) c7 ec c8 cm) cn eg co),ik,il,im,ij⟩
 rintro _ a8 ⟨f,ao,ap,b0,b1,a9,ba,bb,bc,bd,be,bf,bp,ax,ay,az,a0,a1,ah,bq,br,a2,rfl,a,ej,io,ip,c9,iq⟩
 rw [FF] at a
 refine Am (λp da=>∃f cq b2,p=Env.puts f [(2,Pt av 0),(5,Pt bo 0)]/\Hu ap a9 ba bb bc bd be bf ax ay az a0 a1 ah a2 b2=some au/\AU [1] ao a8 cq da/\Bk cq da 1 c [Sl b0 ap b1,I a9,I ba,I bb,I bc,I bd,I be,I bf,I b2] 126) ?_ ?_
 refine Sr<|Vm<|AA<|Cn a (λir a=>?_) λir a=>?_
 refine AM<|Vm<|Vx (Nc Z)<|Vx (Fd OA Z)<|Vx (Ld BC Z (Bc c9 Z))<|Vr (I (Wr (bp - 1)))<|Vx (Nc Z)<|Vx (Fd OA Z)<|Eu<|St Mz c9 Z Z Z Z λkm it iu=>AA<|⟨_,ao,(Wr (bp - 1)),Pu,a,(Mo [1] iu),it⟩
 refine AR<|⟨_,ao,bp,Pu,a,(AU.refl [1] _ _),c9⟩
 rintro _ da ⟨f,cq,b2,rfl,a,b3,iv⟩
 rw [Hu] at a
 refine Sr<|have iw:=Bs iq b3;Vx (Lx BA Z Z (Bw iw))<|have ix:=Y4 (Y4 (Y4 cw ab ac ad ae) a6 af bl bm) am an ej b3;have iy:=Ss AG ip b3;Eu<|St D7 ix Z Z Z Z λkn iz cr=>AA<|AS ?_
 obtain rfl:=AK a
 refine O1 B cv Z (.agg BA Z Z (Bw iz))<|have i0:=Ss AG iy cr;have i1:=Bs iv cr;have i2:=K2 Ai io b3 cr;⟨cq,[I ax,Sb ay,Sb az,I a0,Cx a1,Sl bq ah br,I a2],[Sl b0 ap b1,I a9,I ba,I bb,I bc,I bd,I be,I bf,I b2],Z,Ho (Tn (T4 (T4 (T4 (Mo [1,20,21,22,23,24,25] bt) ab ac ad ae) a6 af bl bm) am an ej b3) cr) cu,(AY (x:=(AE.mk ax ay az a0 a1 ah a2)) i0),i1,(AO (x:=(AC.mk ap a9 ba bb (Aj.mk bc bd be bf) b2)) i2)⟩
theorem Ou(c:AB)(e:Nat)(h:AB.Good c):ref04_reader_expr.Spec (DE c e):=lk1 (Ot c e h)
theorem Ov(af:AB)(a2:Nat)(ag:AB.Good af)(ad:Col)(a3:World)(ah:∀b,ad b<10):ref04_reader_cons.At True True ad a3 (DF af a2) 1:=by
 intro w a4 cy cz d _ _ a5 a6
 rw [DF] at d
 obtain ⟨c1,c2,rfl,ai⟩:=E1 (Ab a6)
 refine Az Tryz.func131 Z Tryz.ntmps131 Z λB aj c3=>Sr<|Ef<|Aa ad 20 Dm Z λa7 a8 c4 ak y=>AA<|Sr<|Vm<|have a9:=Bs a5 y;have ba:=Ss Ai ai y;Bi d λa bb d=>Ca (Cg [Pt w 0] Z) (ag.ref04_reader_comp a7 a8 bb dcd dcd a9 (AO (x:=a4) ba)) ?_
 rintro _ c5 ⟨bc,c6,c7,rfl,z,bd,be,bf⟩
 obtain ⟨r,s,rfl,al⟩:=E1 (Ae bd)
 obtain ⟨c9,da,rfl,am⟩:=E1 (Ab bf)
 refine Ef<|Aa bc 21 Dm Z λbg db dc bh q=>have an:=Ss AG al q;Eu<|St D7 bh Z Z Z Z λbi ao n=>AA<|Sr<|Vm<|have ap:=Y2 be q n;have aq:=K2 Ai am q n;Bi d λl bj d=>Ca (Cg [Pt w 0] Z) (Cd bg bi bj dcd dcd ap (AO (x:=a.2) aq)) ?_
 rintro _ de ⟨bk,df,rfl,f,bl⟩
 obtain rfl:=DO bl
 refine Ef<|Aa bk 22 HC Z λbm dg dh bn g=>Eu<|St HQ bn Z Z Z Z λbo bp h=>AA<|AT<|Sr<|Vm<|have bq:=Y3 ap f g h;have br:=K3 Ai aq f g h;Bi d λe bt d=>Ca (Cg [Pt w 0,Sb ([58]:Bts)] Z) (FT bm bo bt dcd dcd bq (AO (x:=a.2) br)) ?_
 rintro _ bu ⟨ar,di,rfl,m,au,bv⟩
 obtain ⟨bw,bx,rfl,ae⟩:=E1 (Ab bv)
 refine Vr (.bool (!e.1))<|AA<|Cn d (λbz d=>?_) λbz d=>?_
 refine Sr<|have b0:=Y4 ao f g h m;Vx (Lx BA Z Z (Bw b0))<|have b1:=Y3 (Y4 ak z q n f) g h m;have b2:=Ss AG (K4 AG an n f g h) m;Eu<|St D7 b1 Z Z Z Z λdk b3 aa=>AA<|AS ?_
 obtain rfl:=AK d
 refine O1 B aj Z (.agg BA Z Z (Bw b3))<|have b4:=Ss AG b2 aa;have b5:=Bs au aa;have b6:=Ss Ai ae aa;⟨ar,[I a.1.op,Sb a.1.name,Sb a.1.tail,I a.1.type_,Cx a.1.num,Sl r a.1.args s,I a.1.at_],[Sl bw e.2.marks bx,I e.2.at_,I e.2.why,I e.2.where_,I e.2.l.text,I e.2.l.funcs,I e.2.l.arity,I e.2.l.nest,I e.2.nest],Z,Ho (T4 (T4 (Mo [1,20,21,22] y) z q n f) g h m aa) ah,(AY (x:=a.1) b4),b5,(AO (x:=e.2) b6)⟩
 refine AR<|Sr<|Vm<|Bi d λc b7 d=>Ca (Cg [Pt w 0] Z) (ag.ref04_reader_cons ar bu b7 dcd dcd au (AO (x:=e.2) ae)) ?_
 rintro _ dl ⟨b8,dm,dn,rfl,u,b9,ca,cb⟩
 obtain ⟨aw,ax,rfl,av⟩:=E1 (Ae b9)
 obtain ⟨cc,cd,rfl,ay⟩:=E1 (Ab cb)
 refine Ef<|Aa b8 23 Dm Z λcf dr ds cg o=>have ch:=Ss AG av o;Eu<|St D7 cg Z Z Z Z λci cj p=>AA<|Sr<|have ck:=Y3 (Y4 ao f g h m) u o p;Vx (Lx BA Z Z (Bw ck))<|Vx (Lx BA Z Z (Bw cj))<|have cl:=Y4 bp m u o p;Vx (Lx Ie Z Z (Bw cl))<|have cm:=K4 AG (K4 AG an n f g h) m u o p;have cn:=Ss AG ch p;Bi d λx135 co d=>Ca (Cg [I 18,Ag [I a.1.op,Sb a.1.name,Sb a.1.tail,I a.1.type_,Cx a.1.num,Sl r a.1.args s,I a.1.at_],Ag [I c.1.op,Sb c.1.name,Sb c.1.tail,I c.1.type_,Cx c.1.num,Sl aw c.1.args ax,I c.1.at_],Ag [I l.kind,Sb l.text,Cx l.num,I l.at_]] Z) (NB cf ci co (AY (x:=a.1) cm) (AY (x:=c.1) cn) (Fx (x:=l))) ?_
 rintro _ dt ⟨cq,du,rfl,ab,cr⟩
 obtain ⟨a0,a1,rfl,az⟩:=E1 (Ae cr)
 refine have ct:=Y3 (Y4 (Y4 ak z q n f) g h m u) o p ab;Eu<|St D7 ct Z Z Z Z λdw cu ac=>AA<|AS ?_
 obtain rfl:=AK d
 refine O1 B aj Z (.agg BA Z Z (Bw cu))<|have cv:=Ss AG az ac;have cw:=Y4 ca o p ab ac;have cx:=K4 Ai ay o p ab ac;⟨cq,[I x135.op,Sb x135.name,Sb x135.tail,I x135.type_,Cx x135.num,Sl a0 x135.args a1,I x135.at_],[Sl cc c.2.marks cd,I c.2.at_,I c.2.why,I c.2.where_,I c.2.l.text,I c.2.l.funcs,I c.2.l.arity,I c.2.l.nest,I c.2.nest],Z,Ho (T4 (T4 (T4 (Mo [1,20,21,22,23] y) z q n f) g h m u) o p ab ac) ah,(AY (x:=x135) cv),cw,(AO (x:=c.2) cx)⟩
theorem Ow(c:AB)(e:Nat)(h:AB.Good c):ref04_reader_cons.Spec (DF c e):=lk1 (Ov c e h)
theorem OJ(ab:AB)(bc:Nat)(b0:AB.Good ab)(ao:Col)(bd:World)(b1:∀b,ao b<10):ref04_reader_parts.At True True ao bd (Ct ab bc) 1:=by
 intro ac g dh m di a2 c _ _ b2 b3 be
 rw [Ct] at c
 obtain ⟨b4,b5,rfl,bf⟩:=E1 (Ab b3)
 obtain ⟨bg,bh,rfl⟩:=AW be
 refine Az Tryz.func132 Z Tryz.ntmps132 Z λB b6 dk=>Sr<|Va (.slice none 0 0)<|AA<|Sr<|Va (.slice none 0 0)<|AA<|AT<|Sr<|Va (I 0)<|AA<|Ah<|Bj (λn a3 o=>∃ag h d ad ae e f ah ai p q r u w y z aa,a3=Env.puts ag [(0,Pt ac 0),(1,Sl bg m bh),(5,Sl ad d ae),(6,I e)]/\B3 ab m n d e f p q r u w y z aa=some a2/\AU [1,20,22] ao bd h o/\Own AG 56 h o 22 (Sl ad d ae) d/\Slc Ai h.F o (Sl ah f ai) f/\Bk h o 1 ac [Sl ah f ai,I p,I q,I r,I u,I w,I y,I z,I aa] 126) bc ?_ ?_
 exact ⟨_,ao,([]:List AE),none,0,0,g.marks,b4,b5,g.at_,g.why,g.where_,g.l.text,g.l.funcs,g.l.arity,g.l.nest,g.nest,Pu,c,(AU.refl [1,20,22] _ _),Own.nil,bf,b2⟩
 rintro n _ o ⟨ag,h,d,ad,ae,e,f,ah,ai,p,q,r,u,w,y,z,aa,rfl,c,a4,bi,a5,a6⟩
 rcases n with _|n
 exact A5 c
 refine have c:Cq ab m (B3 ab m n) d e f p q r u w y z aa=some a2:=c; ?_
 obtain ⟨b7,bj⟩:∃s,s=B3 ab m n:=⟨_,rfl⟩
 rw [<-bj,Cq] at c
 refine AT<|Sr<|Vm<|Vm<|have bk:=Ss Kd.bts be a4; ?_
 obtain ⟨dl,dm,b8⟩:=AW bk
 refine Vx (v:=I (m.length:Int)) (Ll IT b8)<|Vr (.bool (decide (e< (m.length:Int))))<|AA<|Cn c (λb9 c=>?_) λb9 c=>?_
 refine AR<|AT<|Ah<|Am (λa3 aj=>∃ag ak af a7 a8 ap aq ar au av aw ax ay,a3=Env.puts ag [(0,Pt ac 0),(1,Sl bg m bh),(5,Sl ad d ae),(6,I e)]/\Dg ab d e b7 af ap aq ar au av aw ax ay=some a2/\AU [1] h o ak aj/\Slc Ai ak.F aj (Sl a7 af a8) af/\Bk ak aj 1 ac [Sl a7 af a8,I ap,I aq,I ar,I au,I av,I aw,I ax,I ay] 126) ?_ ?_
 refine Sr<|Vm<|Vm<|Bi c λa9 ca c=>?_
 obtain ⟨cb,cc,dn,bl,bm,bn,bo,cd,az⟩:=A8 (κ:=Kd.bts) bk ca
 replace az:Ay h o cb (cc+e.toNat*1) bl:=az
 obtain rfl:=(show bl=[Sb a9] from cd)
 refine Vx (Ix IT bm Z bn bo)<|Vx (Ld B7 Z (Ay.cell0 az Z))<|Vx (v:=.bool (!(a9==([]:Bts)))) (Run.strNe Z Z)<|AA<|Cn c (λcf c=>?_) λcf c=>?_
 refine AM<|Vm<|Vm<|Vm<|Vx (Ix IT bm Z bn bo)<|Vx (Ld B7 Z (Ay.cell0 az Z))<|Bi c λl cg c=>Ca (Cg [Pt ac 0,Sb a9] Z) (Be h o cg dcd dcd a6 (AO (x:=(AC.mk f p q r (Aj.mk u w y z) aa)) a5)) ?_
 rintro _ dp ⟨ch,dq,rfl,ci,cj,ck⟩
 obtain ⟨cl,cm,rfl,bp⟩:=E1 (Ab ck)
 refine AA<|⟨_,ch,l.marks,cl,cm,l.at_,l.why,l.where_,l.l.text,l.l.funcs,l.l.arity,l.l.nest,l.nest,Pu,c,(Mo [1] ci),bp,cj⟩
 refine AR<|⟨_,h,f,ah,ai,p,q,r,u,w,y,z,aa,Pu,c,(AU.refl [1] _ _),a5,a6⟩
 rintro _ aj ⟨ag,ak,af,a7,a8,ap,aq,ar,au,av,aw,ax,ay,rfl,c,bq,cn,co⟩
 rw [Dg] at c
 refine Sr<|Vm<|Bi c λa cq c=>Ca (Cg [Pt ac 0] Z) (b0.ref04_reader_expr ak aj cq dcd dcd co (AO (x:=(AC.mk af ap aq ar (Aj.mk au av aw ax) ay)) cn)) ?_
 rintro _ ds ⟨cr,dt,du,rfl,br,ct,cu,cv⟩
 obtain ⟨a0,a1,rfl,bt⟩:=E1 (Ae ct)
 obtain ⟨cw,cx,rfl,bu⟩:=E1 (Ab cv)
 refine Ef<|Aa cr 20 Dm Z λcy dx dy cz al=>have c0:=Ss AG bt al;Eu<|St D7 cz Z Z Z Z λdz c1 am=>AA<|AM<|Vm<|Vx (Lx BA Z Z (Bw c1))<|Ef<|Cj (cs:=[I a.1.op,Sb a.1.name,Sb a.1.tail,I a.1.type_,Cx a.1.num,Sl a0 a.1.args a1,I a.1.at_]) cy 21 [[I a.1.op,Sb a.1.name,Sb a.1.tail,I a.1.type_,Cx a.1.num,Sl a0 a.1.args a1,I a.1.at_]] CG Dm Z Z (.cons Z Z Z .nil) Z λc2 c3 c4 c5 an=>have c6:=K2 AG c0 am an;have c7:Own AG 56 c2 c3 21 (.slice (some ⟨c4,0,none⟩) 1 1) ([a.1]:List AE):=Own.lit (css:=[[I a.1.op,Sb a.1.name,Sb a.1.tail,I a.1.type_,Cx a.1.num,Sl a0 a.1.args a1,I a.1.at_]]) c5 Z Z Z (Ac (AY (x:=a.1) c6) BB) (A6 Z Ds) Z;have c8:=Os (Os (Os (Os (Os bi bq) br) al) am) an;Bi c λd0 bv c=>Ef<|Br (κ:=AG) Z Z c8 dcd ZS (CI c7) (Ea bv) (Ew bv) λd1 c9 d2 bw ba=>?_
 obtain ⟨bx,bz,rfl⟩:=Own.len bw
 refine Va (Sl bx ((d++([a.1]:List AE))) bz)<|AA<|AM<|Vm<|Vr (I (Wr (e+1)))<|Va (I (Wr (e+1)))<|AA<|have da:=K4 Ai bu al am an ba;have db:=Y4 cu al am an ba;⟨n,Nat.lt_succ_self n,_,c9,(d++([a.1]:List AE)),bx,bz,(Wr (e+1)),a.2.marks,cw,cx,a.2.at_,a.2.why,a.2.where_,a.2.l.text,a.2.l.funcs,a.2.l.arity,a.2.l.nest,a.2.nest,Pu,(bj▸c),(T2 (T4 (Mo [1,20,22] a4) bq br al am) an ba),bw,da,db⟩
 refine BX<|Sr<|Vm<|Va (Sl ad d ae)<|AA<|AS ?_
 obtain ⟨dc,bb,de⟩:=Own.freeze (S:=[22]) bi dcd dcd
 obtain rfl:=AK c
 refine O1 B b6 Z (.tmp Z)<|have df:=Bs a6 bb;have dg:=Ss Ai a5 bb;⟨dc,Sl ad d ae,[Sl ah f ai,I p,I q,I r,I u,I w,I y,I z,I aa],Z,Ho (Tn (Mo [1,20,22] a4) bb) b1,de,df,(AO (x:=(AC.mk f p q r (Aj.mk u w y z) aa)) dg)⟩
theorem OK(c:AB)(e:Nat)(h:AB.Good c):ref04_reader_parts.Spec (Ct c e):=lk1 (OJ c e h)
theorem NX(a0:AB)(bi:Nat)(ax:AB.Good a0)(ay:Col)(bj:World)(bk:∀b,ay b<10):ref04_reader_branches.At True True ay bj (CM a0 bi) 1 2:=by
 intro f bl fb fc m fd fe e _ _ bm bn bo bp
 rw [CM] at e
 obtain ⟨fg,fh,rfl,a1⟩:=E1 (Ab bn)
 obtain ⟨fj,fk,rfl,bq⟩:=E1 (Ae bp)
 refine Az Tryz.func133 Z Tryz.ntmps133 Z λB br fl=>Sr<|Vm<|Vx (Nc Z)<|Vx (Fz Cp Z)<|Eu<|St V5 bo Z Z Z Z λbt bu az=>AA<|Sr<|Vm<|have bv:=Bs bm az;have bw:=Ss Ai a1 az;Bi e λc bx e=>Ca (Cg [Pt f 0] Z) (ax.ref04_reader_expr ay bt bx dcd dcd bv (AO (x:=bl) bw)) ?_
 rintro _ fm ⟨bz,fn,fo,rfl,a2,b0,b1,b2⟩
 obtain ⟨ag,ah,rfl,a3⟩:=E1 (Ae b0)
 obtain ⟨fr,fs,rfl,a4⟩:=E1 (Ab b2)
 refine Ef<|Aa bz 20 Dm Z λb3 ft fu b4 ae=>have b5:=Ss AG a3 ae;Eu<|St D7 b4 Z Z Z Z λb6 b7 af=>AA<|Sr<|Vm<|have b8:=Y2 b1 ae af;have b9:=K2 Ai a4 ae af;Bi e λca cb e=>Ca (Cg [Pt f 0,Sb ([111,102]:Bts)] Z) (Be b3 b6 cb dcd dcd b8 (AO (x:=c.2) b9)) ?_
 rintro _ cc ⟨cd,fv,rfl,ai,cf,cg⟩
 obtain ⟨fx,fy,rfl,a5⟩:=E1 (Ab cg)
 refine AA<|Sr<|Vm<|Bi e λch ci e=>Ca (Cg [Pt f 0,Sb ([110,105,108]:Bts)] Z) (Be cd cc ci dcd dcd cf (AO (x:=ca) a5)) ?_
 rintro _ cj ⟨ck,fz,rfl,aj,cl,cm⟩
 obtain ⟨f1,f2,rfl,a6⟩:=E1 (Ab cm)
 refine AA<|Sr<|Vm<|Bi e λcn co e=>Ca (Cg [Pt f 0,Sb ([45,62]:Bts)] Z) (Be ck cj co dcd dcd cl (AO (x:=ch) a6)) ?_
 rintro _ cq ⟨cr,f3,rfl,ak,ct,cu⟩
 obtain ⟨f5,f6,rfl,a7⟩:=E1 (Ab cu)
 refine AA<|Sr<|Vm<|Bi e λd cv e=>Ca (Cg [Pt f 0] Z) (ax.ref04_reader_expr cr cq cv dcd dcd ct (AO (x:=cn) a7)) ?_
 rintro _ f7 ⟨cw,f8,f9,rfl,al,cx,cy,cz⟩
 obtain ⟨am,an,rfl,a8⟩:=E1 (Ae cx)
 obtain ⟨gc,gd,rfl,a9⟩:=E1 (Ab cz)
 refine Ef<|Aa cw 21 Dm Z λc0 ge gf c1 w=>have c2:=Ss AG a8 w;Eu<|St D7 c1 Z Z Z Z λc3 c4 y=>AA<|Sr<|Vm<|have c5:=Y2 cy w y;have c6:=K2 Ai a9 w y;Bi e λc7 c8 e=>Ca (Cg [Pt f 0,Sb ([124]:Bts)] Z) (Be c0 c3 c8 dcd dcd c5 (AO (x:=d.2) c6)) ?_
 rintro _ c9 ⟨da,gg,rfl,ac,db,dc⟩
 obtain ⟨gi,gj,rfl,ba⟩:=E1 (Ab dc)
 refine AA<|Sr<|Vm<|Bi e λao de e=>Ca (Cg [Pt f 0] Z) (ID da c9 de dcd dcd db (AO (x:=c7) ba)) ?_
 rintro _ gk ⟨df,gl,gm,rfl,ad,dg,dh,di⟩
 obtain rfl:=DO dg
 obtain ⟨go,gp,rfl,bb⟩:=E1 (Ab di)
 refine Ef<|Aa df 22 HC Z λdj gq gr dk q=>Eu<|St HQ dk Z Z Z Z λdl dm r=>AA<|Sr<|Vm<|have dn:=Y2 dh q r;have dp:=K2 Ai bb q r;Bi e λdq dr e=>Ca (Cg [Pt f 0,Sb ([58]:Bts)] Z) (Be dj dl dr dcd dcd dn (AO (x:=ao.2) dp)) ?_
 rintro _ ds ⟨dt,gs,rfl,z,du,dv⟩
 obtain ⟨gu,gv,rfl,bc⟩:=E1 (Ab dv)
 refine AA<|Sr<|Vm<|Bi e λap dw e=>Ca (Cg [Pt f 0] Z) (ID dt ds dw dcd dcd du (AO (x:=dq) bc)) ?_
 rintro _ gw ⟨dx,gx,gy,rfl,aa,dy,dz,d0⟩
 obtain rfl:=DO dy
 obtain ⟨g0,g1,rfl,bd⟩:=E1 (Ab d0)
 refine Ef<|Aa dx 23 HC Z λd1 g2 g3 d2 n=>Eu<|St HQ d2 Z Z Z Z λd3 d4 o=>AA<|Sr<|Vm<|have d5:=Y2 dz n o;have d6:=K2 Ai bd n o;Bi e λd7 d8 e=>Ca (Cg [Pt f 0,Sb ([45,62]:Bts)] Z) (Be d1 d3 d8 dcd dcd d5 (AO (x:=ap.2) d6)) ?_
 rintro _ d9 ⟨ea,g4,rfl,s,eb,ec⟩
 obtain ⟨g6,g7,rfl,be⟩:=E1 (Ab ec)
 refine AA<|Sr<|Vm<|Bi e λa ed e=>Ca (Cg [Pt f 0] Z) (ax.ref04_reader_expr ea d9 ed dcd dcd eb (AO (x:=d7) be)) ?_
 rintro _ g8 ⟨ee,g9,ha,rfl,u,ef,eg,eh⟩
 obtain ⟨aq,ar,rfl,bf⟩:=E1 (Ae ef)
 obtain ⟨ei,ej,rfl,bg⟩:=E1 (Ab eh)
 refine Ef<|Aa ee 24 Dm Z λek hd he el g=>have em:=Ss AG bf g;Eu<|St D7 el Z Z Z Z λhf en h=>AA<|Sr<|Vm<|Vx (Fd Fq Z)<|have eo:=Y4 (Y4 dm z aa n o) s u g h;Vx (Ld B7 Z (Bc eo Z))<|Vx (Nc Z)<|Vx (Fd DW Z)<|have ep:=Bs (Y4 (Y4 (Y4 (Y4 (Y4 bu a2 ae af ai) aj ak al w) y ac ad q) r z aa n) o s u g) h;Eu<|St YE ep Z Z Z Z λhg eq l=>AA<|Sr<|Vm<|Vx (Fd Fq Z)<|have er:=Bs (Y4 d4 s u g h) l;Vx (Ld B7 Z (Bc er Z))<|Vx (Nc Z)<|Vx (Fd MW Z)<|Eu<|St YE eq Z Z Z Z λhh es p=>AA<|AM<|Vm<|have et:=Y4 (Y4 (Y4 (Y4 (Y4 b7 ai aj ak al) w y ac ad) q r z aa) n o s u) g h l p;Vx (Lx BA Z Z (Bw et))<|have eu:=Y2 (Y4 (Y4 (Y4 c4 ac ad q r) z aa n o) s u g h) l p;Vx (Lx BA Z Z (Bw eu))<|have ew:=Y2 en l p;Vx (Lx BA Z Z (Bw ew))<|Ef<|Cj (cs:=[I c.1.op,Sb c.1.name,Sb c.1.tail,I c.1.type_,Cx c.1.num,Sl ag c.1.args ah,I c.1.at_,I d.1.op,Sb d.1.name,Sb d.1.tail,I d.1.type_,Cx d.1.num,Sl am d.1.args an,I d.1.at_,I a.1.op,Sb a.1.name,Sb a.1.tail,I a.1.type_,Cx a.1.num,Sl aq a.1.args ar,I a.1.at_]) ek 25 [[I c.1.op,Sb c.1.name,Sb c.1.tail,I c.1.type_,Cx c.1.num,Sl ag c.1.args ah,I c.1.at_],[I d.1.op,Sb d.1.name,Sb d.1.tail,I d.1.type_,Cx d.1.num,Sl am d.1.args an,I d.1.at_],[I a.1.op,Sb a.1.name,Sb a.1.tail,I a.1.type_,Cx a.1.num,Sl aq a.1.args ar,I a.1.at_]] CG Dm Z Z (.cons Z Z Z (.cons Z Z Z (.cons Z Z Z .nil))) Z λex ey au ez ab=>have e0:=K4 AG em h l p ab;have e1:=K4 AG (K4 AG (K4 AG (K4 AG c2 y ac ad q) r z aa n) o s u g) h l p ab;have e2:=K2 AG (K4 AG (K4 AG (K4 AG (K4 AG (K4 AG b5 af ai aj ak) al w y ac) ad q r z) aa n o s) u g h l) p ab;have bh:Own AG 56 ex ey 25 (.slice (some ⟨au,0,none⟩) 3 3) ([c.1,d.1,a.1]:List AE):=Own.lit (css:=[[I c.1.op,Sb c.1.name,Sb c.1.tail,I c.1.type_,Cx c.1.num,Sl ag c.1.args ah,I c.1.at_],[I d.1.op,Sb d.1.name,Sb d.1.tail,I d.1.type_,Cx d.1.num,Sl am d.1.args an,I d.1.at_],[I a.1.op,Sb a.1.name,Sb a.1.tail,I a.1.type_,Cx a.1.num,Sl aq a.1.args ar,I a.1.at_]]) ez Z Z Z (Ac (AY (x:=c.1) e2) (Ac (AY (x:=d.1) e1) (Ac (AY (x:=a.1) e0) BB))) (A6 Z (A6 Z (A6 Z Ds))) Z;Vx (Nc Z)<|Vx (Fd BR Z)<|have e3:=Bs es ab;Eu<|Bf (vs:=[Sl (some ⟨au,0,none⟩) (([c.1,d.1,a.1]:List AE)) 3]) (cs':=[I 20,Sb ao.1.text,Sb ap.1.text,I m.type_,Cx m.num,Sl (some ⟨au,0,none⟩) (([c.1,d.1,a.1]:List AE)) 3,I m.at_]) TP Z Z Z Z (AQ (Own.one bh) B6) e3 dcd Z Z λhi e4 av=>?_
 refine AA<|have e5:=Os bh av; ?_
 obtain ⟨e6,aw,e7⟩:=Own.freeze (S:=[25]) e5 dcd dcd
 obtain rfl:=AK e
 refine NJ (B:=B) br<|NI Z<|have e8:=Y3 (Y4 eg g h l p) ab av aw;have e9:=K3 Ai (K4 Ai bg g h l p) ab av aw;have fa:=Bs e4 aw;⟨e6,[Sl ei a.2.marks ej,I a.2.at_,I a.2.why,I a.2.where_,I a.2.l.text,I a.2.l.funcs,I a.2.l.arity,I a.2.l.nest,I a.2.nest],[I 20,Sb ao.1.text,Sb ap.1.text,I m.type_,Cx m.num,Sl (some ⟨au,0,none⟩) (([c.1,d.1,a.1]:List AE)) 3,I m.at_],Z,Ho (T2 (T4 (T4 (T4 (T4 (T4 (T4 (Mo [1,2,20,21,22,23,24,25] az) a2 ae af ai) aj ak al w) y ac ad q) r z aa n) o s u g) h l p ab) av aw) bk,e8,(AO (x:=a.2) e9),fa,(AY (x:=(AE.mk 20 ao.1.text ap.1.text m.type_ m.num ([c.1,d.1,a.1]:List AE) m.at_)) e7)⟩
theorem NY(d:AB)(f:Nat)(m:AB.Good d):ref04_reader_branches.Spec (CM d f):=lk2 (NX d f m)
theorem Ox(ap:AB)(b3:Nat)(a7:AB.Good ap)(a1:Col)(b4:World)(a8:∀b,a1 b<10):ref04_reader_comp.At True True a1 b4 (DG ap b3) 1:=by
 intro p b5 d8 a9 c _ _ b6 b7
 rw [DG] at c
 obtain ⟨ea,eb,rfl,ba⟩:=E1 (Ab b7)
 refine Az Tryz.func143 Z Tryz.ntmps143 Z λB bb ec=>Sr<|Ef<|Aa a1 20 Dm Z λb8 b9 bc bd aq=>AA<|Sr<|Vm<|have ca:=Bs b6 aq;have cb:=Ss Ai ba aq;Bi c λa cc c=>Ca (Cg [Pt p 0] Z) (a7.ref04_reader_sum b8 b9 cc dcd dcd ca (AO (x:=b5) cb)) ?_
 rintro _ ed ⟨cd,ee,ef,rfl,ar,cf,cg,ch⟩
 obtain ⟨ak,al,rfl,be⟩:=E1 (Ae cf)
 obtain ⟨eh,ei,rfl,bf⟩:=E1 (Ab ch)
 refine Ef<|Aa cd 21 Dm Z λci ej bg cj z=>have bh:=Ss AG be z;Eu<|St D7 cj Z Z Z Z λck bi s=>AA<|Sr<|Vm<|have a2:=Y2 cg z s;have a3:=K2 Ai bf z s;Bi c λl cl c=>Ca (Cg [Pt p 0] Z) (Cd ci ck cl dcd dcd a2 (AO (x:=a.2) a3)) ?_
 rintro _ ek ⟨cm,el,rfl,f,cn⟩
 obtain rfl:=DO cn
 refine Ef<|Aa cm 22 HC Z λbj em bk co g=>Eu<|St HQ co Z Z Z Z λbl cq h=>AA<|Sr<|Va (I 12)<|AA<|Am (λa4 au=>∃am av aa,a4=Env.puts am [(0,Pt p 0),(2,Pt bc 0),(3,Pt bg 0),(4,Pt bk 0),(5,I aa)]/\D1 ap a l aa=some a9/\AU [] bj bl av au) ?_ ?_
 refine Sr<|Vm<|have cr:=Y3 a2 f g h;have ct:=K3 Ai a3 f g h;Bi c λen cu c=>Ca (Cg [Pt p 0,Sb ([60]:Bts)] Z) (DC bj bl cu dcd dcd cr (AO (x:=a.2) ct)) ?_
 rintro _ eo ⟨bm,rfl,bn⟩
 refine AA<|Cn c (λcv c=>?_) λcv c=>?_
 refine AM<|Va (I 13)<|AA<|⟨_,bm,13,Pu,c,(Mo [] bn)⟩
 refine AR<|⟨_,bm,12,Pu,c,(Mo [] bn)⟩
 rintro _ au ⟨am,av,aa,rfl,c,m⟩
 rw [D1] at c
 refine AT<|Am (λa4 an=>∃am ab a5 u aw ax ac ad ae af ag ah ai aj,a4=Env.puts am [(0,Pt p 0),(2,Pt bc 0),(3,Pt bg 0),(4,Pt bk 0),(5,I aa),(20,.bool a5)]/\EY ap a l aa a5 u ac ad ae af ag ah ai aj=some a9/\AU [1] av au ab an/\Slc Ai ab.F an (Sl aw u ax) u/\Bk ab an 1 p [Sl aw u ax,I ac,I ad,I ae,I af,I ag,I ah,I ai,I aj] 126) ?_ ?_
 refine AM<|Vm<|have cw:=Y4 a2 f g h m;have cx:=K4 Ai a3 f g h m;Bi c λn cy c=>Ca (Cg [Pt p 0,Sb ([61,61]:Bts)] Z) (FT av au cy dcd dcd cw (AO (x:=a.2) cx)) ?_
 rintro _ cz ⟨bo,ep,rfl,bp,bq,c0⟩
 obtain ⟨c1,c2,rfl,a6⟩:=E1 (Ab c0)
 refine Vr (.bool (!n.1))<|Vm<|Bo c (λq c=>?_) λq c=>?_
 refine Gm q<|Bi c λo c3 c=>CQ (.guard (t:=true) (b:=true) Z Z Z Z (Cb q)) Z Z (Cg [Pt p 0,Sb ([60]:Bts)] Z)<|Calls.mono (FT bo cz c3 dcd dcd bq (AO (x:=n.2) a6)) ?_
 rintro _ er ⟨c4,es,rfl,c5,c6,c7⟩
 obtain ⟨c8,c9,rfl,br⟩:=E1 (Ab c7)
 refine ⟨_,Z,?_⟩
 refine Gr q (.bool (!o.1))<|Vp q<|AA<|⟨_,c4,(!o.1),o.2.marks,c8,c9,o.2.at_,o.2.why,o.2.where_,o.2.l.text,o.2.l.funcs,o.2.l.arity,o.2.l.nest,o.2.nest,Pu,c,(Tn (Mo [1] bp) c5),br,c6⟩
 refine Pg q<|Pg q<|Pg q<|Vp q<|AA<|⟨_,bo,false,n.2.marks,c1,c2,n.2.at_,n.2.why,n.2.where_,n.2.l.text,n.2.l.funcs,n.2.l.arity,n.2.l.nest,n.2.nest,Pu,c,(Mo [1] bp),a6,bq⟩
 rintro _ an ⟨am,ab,a5,u,aw,ax,ac,ad,ae,af,ag,ah,ai,aj,rfl,c,r,bt,bu⟩
 rw [EY] at c
 refine Cn c (λda c=>?_) λda c=>?_
 refine Sr<|have db:=Bs (Y4 bi f g h m) r;Vx (Lx BA Z Z (Bw db))<|have dc:=Y4 (Y4 bd ar z s f) g h m r;have de:=K2 AG (K4 AG bh s f g h) m r;Eu<|St D7 dc Z Z Z Z λeu df ay=>AA<|AS ?_
 obtain rfl:=AK c
 refine O1 B bb Z (.agg BA Z Z (Bw df))<|have dg:=Ss AG de ay;have dh:=Bs bu ay;have di:=Ss Ai bt ay;⟨ab,[I a.1.op,Sb a.1.name,Sb a.1.tail,I a.1.type_,Cx a.1.num,Sl ak a.1.args al,I a.1.at_],[Sl aw u ax,I ac,I ad,I ae,I af,I ag,I ah,I ai,I aj],Z,Ho (Tn (T4 (T4 (Mo [1,20,21,22] aq) ar z s f) g h m r) ay) a8,(AY (x:=a.1) dg),dh,(AO (x:=(AC.mk u ac ad ae (Aj.mk af ag ah ai) aj)) di)⟩
 refine AR<|Sr<|Vm<|Bi c λd dj c=>Ca (Cg [Pt p 0] Z) (a7.ref04_reader_sum ab an dj dcd dcd bu (AO (x:=(AC.mk u ac ad ae (Aj.mk af ag ah ai) aj)) bt)) ?_
 rintro _ ew ⟨dk,ex,ey,rfl,ao,dl,dm,dn⟩
 obtain ⟨bw,bx,rfl,bv⟩:=E1 (Ae dl)
 obtain ⟨dp,dq,rfl,bz⟩:=E1 (Ab dn)
 refine Ef<|Aa dk 23 Dm Z λdr e1 e2 ds w=>have dt:=Ss AG bv w;Eu<|St D7 ds Z Z Z Z λdu dv y=>AA<|Sr<|Vm<|have dw:=Y4 (Y4 bi f g h m) r ao w y;Vx (Lx BA Z Z (Bw dw))<|Vx (Lx BA Z Z (Bw dv))<|have dx:=Bs (Y4 cq m r ao w) y;Vx (Lx Ie Z Z (Bw dx))<|have dy:=Ss AG (K4 AG (K4 AG bh s f g h) m r ao w) y;have dz:=Ss AG dt y;Bi c λe d0 c=>Ca (Cg [I aa,Ag [I a.1.op,Sb a.1.name,Sb a.1.tail,I a.1.type_,Cx a.1.num,Sl ak a.1.args al,I a.1.at_],Ag [I d.1.op,Sb d.1.name,Sb d.1.tail,I d.1.type_,Cx d.1.num,Sl bw d.1.args bx,I d.1.at_],Ag [I l.kind,Sb l.text,Cx l.num,I l.at_]] Z) (NB dr du d0 (AY (x:=a.1) dy) (AY (x:=d.1) dz) (Fx (x:=l))) ?_
 rintro _ e3 ⟨d1,e4,rfl,az,d2⟩
 obtain ⟨b1,b2,rfl,b0⟩:=E1 (Ae d2)
 refine have d3:=Y4 (Y4 (Y4 bd ar z s f) g h m r) ao w y az;Eu<|St D7 d3 Z Z Z Z λe6 d4 a0=>AA<|AS ?_
 obtain rfl:=AK c
 refine O1 B bb Z (.agg BA Z Z (Bw d4))<|have d5:=Ss AG b0 a0;have d6:=Y4 dm w y az a0;have d7:=K4 Ai bz w y az a0;⟨d1,[I e.op,Sb e.name,Sb e.tail,I e.type_,Cx e.num,Sl b1 e.args b2,I e.at_],[Sl dp d.2.marks dq,I d.2.at_,I d.2.why,I d.2.where_,I d.2.l.text,I d.2.l.funcs,I d.2.l.arity,I d.2.l.nest,I d.2.nest],Z,Ho (Tn (T4 (T4 (T4 (Mo [1,20,21,22,23] aq) ar z s f) g h m r) ao w y az) a0) a8,(AY (x:=e) d5),d6,(AO (x:=d.2) d7)⟩
theorem Oy(c:AB)(e:Nat)(h:AB.Good c):ref04_reader_comp.Spec (DG c e):=lk1 (Ox c e h)
theorem PS(an:AB)(bl:Nat)(bm:AB.Good an)(bc:Col)(b9:World)(ca:∀b,bc b<10):ref04_reader_sum.At True True bc b9 (Db an bl) 1:=by
 intro ad cb em a0 a _ _ cc cd
 rw [Db] at a
 obtain ⟨eo,ep,rfl,bn⟩:=E1 (Ab cd)
 refine Az Tryz.func148 Z Tryz.ntmps148 Z λB cf eq=>Sr<|Ef<|Aa bc 20 Dm Z λcg ch bd ci be=>AA<|Sr<|Vm<|have cj:=Bs cc be;have ck:=Ss Ai bn be;Bi a λd cl a=>Ca (Cg [Pt ad 0] Z) (bm.ref04_reader_term cg ch cl dcd dcd cj (AO (x:=cb) ck)) ?_
 rintro _ er ⟨cm,es,et,rfl,bo,cn,co,cq⟩
 obtain ⟨cr,ct,rfl,bp⟩:=E1 (Ae cn)
 obtain ⟨cu,cv,rfl,bq⟩:=E1 (Ab cq)
 refine Ef<|Aa cm 21 Dm Z λbr ew a1 cw ar=>have cx:=Ss AG bp ar;Eu<|St D7 cw Z Z Z Z λcy cz au=>AA<|AT<|Ah<|Bj (λae av af=>∃ag ah f a2 a3 p q r u w y z aa g h l m n e ai aj o,av=Env.puts ag [(0,Pt ad 0),(2,Pt bd 0),(3,Pt a1 0)]/\CB an ae f p q r u w y z aa g h l m n e o=some a0/\AU [1,21,22,23] br cy ah af/\Slc Ai ah.F af (Sl a2 f a3) f/\Slc AG ah.F af (Sl ai e aj) e/\Bk ah af 1 ad [Sl a2 f a3,I p,I q,I r,I u,I w,I y,I z,I aa] 126/\Bk ah af 21 a1 [I g,Sb h,Sb l,I m,Cx n,Sl ai e aj,I o] 56) bl ?_ ?_
 refine have c0:=K2 Ai bq ar au;have c1:=Ss AG cx au;have c2:=Y2 co ar au;⟨_,br,d.2.marks,cu,cv,d.2.at_,d.2.why,d.2.where_,d.2.l.text,d.2.l.funcs,d.2.l.arity,d.2.l.nest,d.2.nest,d.1.op,d.1.name,d.1.tail,d.1.type_,d.1.num,d.1.args,cr,ct,d.1.at_,Pu,a,(AU.refl [1,21,22,23] _ _),c0,c1,c2,cz⟩
 rintro ae _ af ⟨ag,ah,f,a2,a3,p,q,r,u,w,y,z,aa,g,h,l,m,n,e,ai,aj,o,rfl,a,bf,a4,bt,a5,bu⟩
 rcases ae with _|ae
 exact A5 a
 refine have a:DR an (CB an ae) f p q r u w y z aa g h l m n e o=some a0:=a; ?_
 obtain ⟨bv,bw⟩:∃s,s=CB an ae:=⟨_,rfl⟩
 rw [<-bw,DR] at a
 refine AT<|Am (λav bg=>∃ag a6 bh,av=Env.puts ag [(0,Pt ad 0),(2,Pt bd 0),(3,Pt a1 0),(14,.bool bh)]/\EN an f p q r u w y z aa g h l m n e o bv bh=some a0/\AU [] ah af a6 bg) ?_ ?_
 refine AM<|Vm<|Bi a λex c3 a=>Ca (Cg [Pt ad 0,Sb ([43]:Bts)] Z) (DC ah af c3 dcd dcd a5 (AO (x:=(AC.mk f p q r (Aj.mk u w y z) aa)) a4)) ?_
 rintro _ c4 ⟨bx,rfl,a7⟩
 refine Vm<|Bo a (λao a=>?_) λao a=>?_
 refine Pg ao<|Pg ao<|Vp ao<|AA<|⟨_,bx,true,Pu,a,(Mo [] a7)⟩
 refine Gm ao<|have c5:=Bs a5 a7;have c6:=Ss Ai a4 a7;Bi a λc7 c8 a=>CQ (.guard (t:=false) (b:=false) Z Z Z Z (Cb ao)) Z Z (Cg [Pt ad 0,Sb ([45]:Bts)] Z)<|Calls.mono (DC bx c4 c8 dcd dcd c5 (AO (x:=(AC.mk f p q r (Aj.mk u w y z) aa)) c6)) ?_
 rintro _ ey ⟨c9,rfl,da⟩
 refine ⟨_,Z,?_⟩
 refine Vp ao<|AA<|⟨_,c9,c7,Pu,a,(Tn (Mo [] a7) da)⟩
 rintro _ bg ⟨ag,a6,bh,rfl,a,ab⟩
 rw [EN] at a
 refine Cn a (λdb a=>?_) λdb a=>?_
 refine AR<|Ah<|Sr<|Vm<|have bz:=Bs a5 ab;have b0:=Ss Ai a4 ab;Bi a λac dc a=>Ca (Cg [Pt ad 0] Z) (Cd a6 bg dc dcd dcd bz (AO (x:=(AC.mk f p q r (Aj.mk u w y z) aa)) b0)) ?_
 rintro _ ez ⟨de,e0,rfl,aw,df⟩
 obtain rfl:=DO df
 refine Ef<|Aa de 22 HC Z λdg e1 dh di ax=>Eu<|St HQ di Z Z Z Z λe2 b1 ay=>AA<|Sr<|Vm<|Vx (Nc Z)<|Vx (Fd Ga Z)<|have b2:=Y3 bz aw ax ay;Vx (Ld BC Z (Bc b2 Z))<|Vr (I (Wr (p+1)))<|Vx (Nc Z)<|Vx (Fd Ga Z)<|Eu<|St Mz b2 Z Z Z Z λdj dk aq=>AA<|Sr<|Vm<|have dl:=K4 Ai b0 aw ax ay aq;Bi a λc dm a=>Ca (Cg [Pt ad 0] Z) (bm.ref04_reader_term dg dj dm dcd dcd dk (AO (x:=(AC.mk f (Wr (p+1)) q r (Aj.mk u w y z) aa)) dl)) ?_
 rintro _ e3 ⟨dn,e4,e5,rfl,az,dp,dq,dr⟩
 obtain ⟨b4,b5,rfl,b3⟩:=E1 (Ae dp)
 obtain ⟨ds,dt,rfl,b6⟩:=E1 (Ab dr)
 refine Ef<|Aa dn 23 Dm Z λbi e8 du dv ak=>have dw:=Ss AG b3 ak;Eu<|St D7 dv Z Z Z Z λdx dy al=>AA<|Sr<|Va (I 8)<|AA<|Am (λav bj=>∃ag bk a8,av=Env.puts ag [(0,Pt ad 0),(2,Pt bd 0),(3,Pt a1 0),(4,Pt dh 0),(5,Pt du 0),(6,I a8)]/\EM g h l m n e o bv ac c a8=some a0/\AU [] bi dx bk bj) ?_ ?_
 refine Sr<|Vx (Fd Fq Z)<|have dz:=Y4 b1 aq az ak al;Vx (Ld B7 Z (Bc dz Z))<|Vx (v:=.bool (ac.text==([45]:Bts))) (Run.strEq Z Z)<|AA<|Cn a (λd0 a=>?_) λd0 a=>?_
 refine AM<|Va (I 9)<|AA<|⟨_,bi,9,Pu,a,Rf⟩
 refine AR<|⟨_,bi,8,Pu,a,Rf⟩
 rintro _ bj ⟨ag,bk,a8,rfl,a,am⟩
 rw [EM] at a
 refine AM<|Vm<|have b7:=Bs (Y4 (Y4 bu ab aw ax ay) aq az ak al) am;Vx (Lx BA Z Z (Bw b7))<|have d1:=Bs dy am;Vx (Lx BA Z Z (Bw d1))<|have d2:=Bs (Y4 b1 aq az ak al) am;Vx (Lx Ie Z Z (Bw d2))<|have d3:=Ss AG (K4 AG (K4 AG bt ab aw ax ay) aq az ak al) am;have d4:=K2 AG dw al am;Bi a λap d5 a=>Ca (Cg [I a8,Ag [I g,Sb h,Sb l,I m,Cx n,Sl ai e aj,I o],Ag [I c.1.op,Sb c.1.name,Sb c.1.tail,I c.1.type_,Cx c.1.num,Sl b4 c.1.args b5,I c.1.at_],Ag [I ac.kind,Sb ac.text,Cx ac.num,I ac.at_]] Z) (NB bk bj d5 (AY (x:=(AE.mk g h l m n e o)) d3) (AY (x:=c.1) d4) (Fx (x:=ac))) ?_
 rintro _ e9 ⟨d6,fa,rfl,a9,d7⟩
 obtain ⟨d8,d9,rfl,b8⟩:=E1 (Ae d7)
 refine have ea:=Bs b7 a9;Eu<|St D7 ea Z Z Z Z λfc eb ba=>AA<|have ec:=Ss Ai (K4 Ai b6 ak al am a9) ba;have ed:=Ss AG b8 ba;have ee:=Bs (Y4 dq ak al am a9) ba;⟨ae,Nat.lt_succ_self ae,_,d6,c.2.marks,ds,dt,c.2.at_,c.2.why,c.2.where_,c.2.l.text,c.2.l.funcs,c.2.l.arity,c.2.l.nest,c.2.nest,ap.op,ap.name,ap.tail,ap.type_,ap.num,ap.args,d8,d9,ap.at_,Pu,(bw▸a),(T3 (T4 (T4 (Mo [1,21,22,23] bf) ab aw ax ay) aq az ak al) am a9 ba),ec,ed,ee,eb⟩
 refine BX<|Sr<|have ef:=Bs bu ab;Vx (Lx BA Z Z (Bw ef))<|have eg:=Bs (Y4 ci bo ar au bf) ab;have eh:=Ss AG bt ab;Eu<|St D7 eg Z Z Z Z λfd ei bb=>AA<|AS ?_
 obtain rfl:=AK a
 refine O1 B cf Z (.agg BA Z Z (Bw ei))<|have ej:=Ss AG eh bb;have ek:=Y2 a5 ab bb;have el:=K2 Ai a4 ab bb;⟨a6,[I g,Sb h,Sb l,I m,Cx n,Sl ai e aj,I o],[Sl a2 f a3,I p,I q,I r,I u,I w,I y,I z,I aa],Z,Ho (T2 (T4 (Mo [1,20,21,22,23] be) bo ar au bf) ab bb) ca,(AY (x:=(AE.mk g h l m n e o)) ej),ek,(AO (x:=(AC.mk f p q r (Aj.mk u w y z) aa)) el)⟩
theorem PT(c:AB)(e:Nat)(h:AB.Good c):ref04_reader_sum.Spec (Db c e):=lk1 (PS c e h)
theorem Oz(an:AB)(bl:Nat)(bm:AB.Good an)(bc:Col)(b9:World)(ca:∀b,bc b<10):ref04_reader_term.At True True bc b9 (DH an bl) 1:=by
 intro ad cb em a0 a _ _ cc cd
 rw [DH] at a
 obtain ⟨eo,ep,rfl,bn⟩:=E1 (Ab cd)
 refine Az Tryz.func151 Z Tryz.ntmps151 Z λB cf eq=>Sr<|Ef<|Aa bc 20 Dm Z λcg ch bd ci be=>AA<|Sr<|Vm<|have cj:=Bs cc be;have ck:=Ss Ai bn be;Bi a λd cl a=>Ca (Cg [Pt ad 0] Z) (bm.ref04_reader_unit cg ch cl dcd dcd cj (AO (x:=cb) ck)) ?_
 rintro _ er ⟨cm,es,et,rfl,bo,cn,co,cq⟩
 obtain ⟨cr,ct,rfl,bp⟩:=E1 (Ae cn)
 obtain ⟨cu,cv,rfl,bq⟩:=E1 (Ab cq)
 refine Ef<|Aa cm 21 Dm Z λbr ew a1 cw ar=>have cx:=Ss AG bp ar;Eu<|St D7 cw Z Z Z Z λcy cz au=>AA<|AT<|Ah<|Bj (λae av af=>∃ag ah f a2 a3 p q r u w y z aa g h l m n e ai aj o,av=Env.puts ag [(0,Pt ad 0),(2,Pt bd 0),(3,Pt a1 0)]/\B0 an ae f p q r u w y z aa g h l m n e o=some a0/\AU [1,21,22,23] br cy ah af/\Slc Ai ah.F af (Sl a2 f a3) f/\Slc AG ah.F af (Sl ai e aj) e/\Bk ah af 1 ad [Sl a2 f a3,I p,I q,I r,I u,I w,I y,I z,I aa] 126/\Bk ah af 21 a1 [I g,Sb h,Sb l,I m,Cx n,Sl ai e aj,I o] 56) bl ?_ ?_
 refine have c0:=K2 Ai bq ar au;have c1:=Ss AG cx au;have c2:=Y2 co ar au;⟨_,br,d.2.marks,cu,cv,d.2.at_,d.2.why,d.2.where_,d.2.l.text,d.2.l.funcs,d.2.l.arity,d.2.l.nest,d.2.nest,d.1.op,d.1.name,d.1.tail,d.1.type_,d.1.num,d.1.args,cr,ct,d.1.at_,Pu,a,(AU.refl [1,21,22,23] _ _),c0,c1,c2,cz⟩
 rintro ae _ af ⟨ag,ah,f,a2,a3,p,q,r,u,w,y,z,aa,g,h,l,m,n,e,ai,aj,o,rfl,a,bf,a4,bt,a5,bu⟩
 rcases ae with _|ae
 exact A5 a
 refine have a:DB an (B0 an ae) f p q r u w y z aa g h l m n e o=some a0:=a; ?_
 obtain ⟨bv,bw⟩:∃s,s=B0 an ae:=⟨_,rfl⟩
 rw [<-bw,DB] at a
 refine AT<|Am (λav bg=>∃ag a6 bh,av=Env.puts ag [(0,Pt ad 0),(2,Pt bd 0),(3,Pt a1 0),(14,.bool bh)]/\D3 an f p q r u w y z aa g h l m n e o bv bh=some a0/\AU [] ah af a6 bg) ?_ ?_
 refine AM<|Vm<|Bi a λex c3 a=>Ca (Cg [Pt ad 0,Sb ([42]:Bts)] Z) (DC ah af c3 dcd dcd a5 (AO (x:=(AC.mk f p q r (Aj.mk u w y z) aa)) a4)) ?_
 rintro _ c4 ⟨bx,rfl,a7⟩
 refine Vm<|Bo a (λao a=>?_) λao a=>?_
 refine Pg ao<|Pg ao<|Vp ao<|AA<|⟨_,bx,true,Pu,a,(Mo [] a7)⟩
 refine Gm ao<|have c5:=Bs a5 a7;have c6:=Ss Ai a4 a7;Bi a λc7 c8 a=>CQ (.guard (t:=false) (b:=false) Z Z Z Z (Cb ao)) Z Z (Cg [Pt ad 0,Sb ([47]:Bts)] Z)<|Calls.mono (DC bx c4 c8 dcd dcd c5 (AO (x:=(AC.mk f p q r (Aj.mk u w y z) aa)) c6)) ?_
 rintro _ ey ⟨c9,rfl,da⟩
 refine ⟨_,Z,?_⟩
 refine Vp ao<|AA<|⟨_,c9,c7,Pu,a,(Tn (Mo [] a7) da)⟩
 rintro _ bg ⟨ag,a6,bh,rfl,a,ab⟩
 rw [D3] at a
 refine Cn a (λdb a=>?_) λdb a=>?_
 refine AR<|Ah<|Sr<|Vm<|have bz:=Bs a5 ab;have b0:=Ss Ai a4 ab;Bi a λac dc a=>Ca (Cg [Pt ad 0] Z) (Cd a6 bg dc dcd dcd bz (AO (x:=(AC.mk f p q r (Aj.mk u w y z) aa)) b0)) ?_
 rintro _ ez ⟨de,e0,rfl,aw,df⟩
 obtain rfl:=DO df
 refine Ef<|Aa de 22 HC Z λdg e1 dh di ax=>Eu<|St HQ di Z Z Z Z λe2 b1 ay=>AA<|Sr<|Vm<|Vx (Nc Z)<|Vx (Fd Ga Z)<|have b2:=Y3 bz aw ax ay;Vx (Ld BC Z (Bc b2 Z))<|Vr (I (Wr (p+1)))<|Vx (Nc Z)<|Vx (Fd Ga Z)<|Eu<|St Mz b2 Z Z Z Z λdj dk aq=>AA<|Sr<|Vm<|have dl:=K4 Ai b0 aw ax ay aq;Bi a λc dm a=>Ca (Cg [Pt ad 0] Z) (bm.ref04_reader_unit dg dj dm dcd dcd dk (AO (x:=(AC.mk f (Wr (p+1)) q r (Aj.mk u w y z) aa)) dl)) ?_
 rintro _ e3 ⟨dn,e4,e5,rfl,az,dp,dq,dr⟩
 obtain ⟨b4,b5,rfl,b3⟩:=E1 (Ae dp)
 obtain ⟨ds,dt,rfl,b6⟩:=E1 (Ab dr)
 refine Ef<|Aa dn 23 Dm Z λbi e8 du dv ak=>have dw:=Ss AG b3 ak;Eu<|St D7 dv Z Z Z Z λdx dy al=>AA<|Sr<|Va (I 10)<|AA<|Am (λav bj=>∃ag bk a8,av=Env.puts ag [(0,Pt ad 0),(2,Pt bd 0),(3,Pt a1 0),(4,Pt dh 0),(5,Pt du 0),(6,I a8)]/\D2 g h l m n e o bv ac c a8=some a0/\AU [] bi dx bk bj) ?_ ?_
 refine Sr<|Vx (Fd Fq Z)<|have dz:=Y4 b1 aq az ak al;Vx (Ld B7 Z (Bc dz Z))<|Vx (v:=.bool (ac.text==([47]:Bts))) (Run.strEq Z Z)<|AA<|Cn a (λd0 a=>?_) λd0 a=>?_
 refine AM<|Va (I 11)<|AA<|⟨_,bi,11,Pu,a,Rf⟩
 refine AR<|⟨_,bi,10,Pu,a,Rf⟩
 rintro _ bj ⟨ag,bk,a8,rfl,a,am⟩
 rw [D2] at a
 refine AM<|Vm<|have b7:=Bs (Y4 (Y4 bu ab aw ax ay) aq az ak al) am;Vx (Lx BA Z Z (Bw b7))<|have d1:=Bs dy am;Vx (Lx BA Z Z (Bw d1))<|have d2:=Bs (Y4 b1 aq az ak al) am;Vx (Lx Ie Z Z (Bw d2))<|have d3:=Ss AG (K4 AG (K4 AG bt ab aw ax ay) aq az ak al) am;have d4:=K2 AG dw al am;Bi a λap d5 a=>Ca (Cg [I a8,Ag [I g,Sb h,Sb l,I m,Cx n,Sl ai e aj,I o],Ag [I c.1.op,Sb c.1.name,Sb c.1.tail,I c.1.type_,Cx c.1.num,Sl b4 c.1.args b5,I c.1.at_],Ag [I ac.kind,Sb ac.text,Cx ac.num,I ac.at_]] Z) (NB bk bj d5 (AY (x:=(AE.mk g h l m n e o)) d3) (AY (x:=c.1) d4) (Fx (x:=ac))) ?_
 rintro _ e9 ⟨d6,fa,rfl,a9,d7⟩
 obtain ⟨d8,d9,rfl,b8⟩:=E1 (Ae d7)
 refine have ea:=Bs b7 a9;Eu<|St D7 ea Z Z Z Z λfc eb ba=>AA<|have ec:=Ss Ai (K4 Ai b6 ak al am a9) ba;have ed:=Ss AG b8 ba;have ee:=Bs (Y4 dq ak al am a9) ba;⟨ae,Nat.lt_succ_self ae,_,d6,c.2.marks,ds,dt,c.2.at_,c.2.why,c.2.where_,c.2.l.text,c.2.l.funcs,c.2.l.arity,c.2.l.nest,c.2.nest,ap.op,ap.name,ap.tail,ap.type_,ap.num,ap.args,d8,d9,ap.at_,Pu,(bw▸a),(T3 (T4 (T4 (Mo [1,21,22,23] bf) ab aw ax ay) aq az ak al) am a9 ba),ec,ed,ee,eb⟩
 refine BX<|Sr<|have ef:=Bs bu ab;Vx (Lx BA Z Z (Bw ef))<|have eg:=Bs (Y4 ci bo ar au bf) ab;have eh:=Ss AG bt ab;Eu<|St D7 eg Z Z Z Z λfd ei bb=>AA<|AS ?_
 obtain rfl:=AK a
 refine O1 B cf Z (.agg BA Z Z (Bw ei))<|have ej:=Ss AG eh bb;have ek:=Y2 a5 ab bb;have el:=K2 Ai a4 ab bb;⟨a6,[I g,Sb h,Sb l,I m,Cx n,Sl ai e aj,I o],[Sl a2 f a3,I p,I q,I r,I u,I w,I y,I z,I aa],Z,Ho (T2 (T4 (Mo [1,20,21,22,23] be) bo ar au bf) ab bb) ca,(AY (x:=(AE.mk g h l m n e o)) ej),ek,(AO (x:=(AC.mk f p q r (Aj.mk u w y z) aa)) el)⟩
theorem O0(c:AB)(e:Nat)(h:AB.Good c):ref04_reader_term.Spec (DH c e):=lk1 (Oz c e h)
theorem O3(a6:AB)(bl:Nat)(b8:AB.Good a6)(b9:Col)(dv:World)(av:∀b,b9 b<10):ref04_reader_unit.At True True b9 dv (DI a6 bl) 1:=by
 intro p c ip bm a _ _ dw dx
 rw [DI] at a
 obtain ⟨cy,cz,rfl,cx⟩:=E1 (Ab dx)
 refine Az Tryz.func157 Z Tryz.ntmps157 Z λB aw ax=>Sr<|Ef<|Aa b9 20 Dm Z λdy dz bn ay ah=>AA<|Sr<|Vm<|have c0:=Bs dw ah;have a7:=Ss Ai cx ah;Bi a λf d0 a=>Ca (Cg [Pt p 0] Z) (Cd dy dz d0 dcd dcd c0 (AO (x:=c) a7)) ?_
 rintro _ ir ⟨d1,it,rfl,m,d2⟩
 obtain rfl:=DO d2
 refine Ef<|Aa d1 21 HC Z λbo iu d3 d4 n=>Eu<|St HQ d4 Z Z Z Z λd5 az o=>AA<|AT<|Sr<|Vm<|Vx (Nc Z)<|Vx (Fd Jb Z)<|have an:=Y3 c0 m n o;Vx (Ld BC Z (Bc an Z))<|Vr (.bool (c.why != 0))<|AA<|Cn a (λd6 a=>?_) λd6 a=>?_
 refine Sr<|Vx (v:=Ag [I 0,Sb ([]:Bts),Sb ([]:Bts),I 0,Cx (((0,0):Cpl)),.slice none 0 0,I 0]) (Bp Dm Ns Z .nil)<|have d7:=Y3 ay m n o;Eu<|St D7 d7 Z Z Z Z λiv d8 ca=>AA<|AS ?_
 obtain rfl:=AK a
 refine O1 B aw Z (.agg BA Z Z (Bw d8))<|have d9:=Bs an ca;have ea:=K4 Ai a7 m n o ca;⟨bo,[I 0,Sb ([]:Bts),Sb ([]:Bts),I 0,Cx (((0,0):Cpl)),.slice none 0 0,I 0],[Sl cy c.marks cz,I c.at_,I c.why,I c.where_,I c.l.text,I c.l.funcs,I c.l.arity,I c.l.nest,I c.nest],Z,Ho (T4 (Mo [20,21] ah) m n o ca) av,(AY (x:=(AE.mk 0 ([]:Bts) ([]:Bts) 0 ((0,0):Cpl) [] 0)) Ba),d9,(AO (x:=c) ea)⟩
 refine AR<|AT<|Ah<|Sr<|Vx (Fz Lh Z)<|Vx (Ld Py Z (Bc az Z))<|Vr (.bool (f.kind==2))<|Va (.bool (f.kind==2))<|AA<|Cn a (λeb a=>?_) λeb a=>?_
 refine Sr<|Vm<|Vx (Nc Z)<|Vx (Fd Ga Z)<|Vx (Ld BC Z (Bc an Z))<|Vr (I (Wr (c.at_+1)))<|Vx (Nc Z)<|Vx (Fd Ga Z)<|Eu<|St Mz an Z Z Z Z λiw ec bp=>AA<|Sr<|Vx (Fd VY Z)<|have c1:=Bs az bp;Vx (Ld Gc Z (Bc c1 Z))<|Vx (Fd MD Z)<|Vx (Ld BC Z (Bc c1 Z))<|Vx (v:=Ag [I 1,Sb ([]:Bts),Sb ([]:Bts),I 0,Cx f.num,.slice none 0 0,I f.at_]) (Bp Dm Ns Z (.cons Z Z Z (.cons Z Z Z (.cons Z Z Z .nil))))<|have ed:=Y4 ay m n o bp;Eu<|St D7 ed Z Z Z Z λix ee cb=>AA<|AS ?_
 obtain rfl:=AK a
 refine O1 B aw Z (.agg BA Z Z (Bw ee))<|have ef:=Bs ec cb;have eg:=Ss Ai (K4 Ai a7 m n o bp) cb;⟨bo,[I 1,Sb ([]:Bts),Sb ([]:Bts),I 0,Cx f.num,.slice none 0 0,I f.at_],[Sl cy c.marks cz,I (Wr (c.at_+1)),I c.why,I c.where_,I c.l.text,I c.l.funcs,I c.l.arity,I c.l.nest,I c.nest],Z,Ho (Tn (T4 (Mo [1,20,21] ah) m n o bp) cb) av,(AY (x:=(AE.mk 1 ([]:Bts) ([]:Bts) 0 f.num [] f.at_)) Ba),ef,(AO (x:=(AC.mk c.marks (Wr (c.at_+1)) c.why c.where_ (Aj.mk c.l.text c.l.funcs c.l.arity c.l.nest) c.nest)) eg)⟩
 refine Sr<|Vx (Fz Lh Z)<|Vx (Ld Py Z (Bc az Z))<|Vr (.bool (f.kind==0))<|Va (.bool (f.kind==0))<|AA<|Cn a (λeh a=>?_) λeh a=>?_
 refine Sr<|Vm<|Vx (Nc Z)<|Vx (Fd Ga Z)<|Vx (Ld BC Z (Bc an Z))<|Vr (I (Wr (c.at_+1)))<|Vx (Nc Z)<|Vx (Fd Ga Z)<|Eu<|St Mz an Z Z Z Z λei ej bq=>AA<|Sr<|Vm<|have ek:=Bs az bq;Vx (Lx Ie Z Z (Bw ek))<|have el:=K4 Ai a7 m n o bq;Bi a λh em a=>Ca (Cg [Pt p 0,Ag [I f.kind,Sb f.text,Cx f.num,I f.at_]] Z) (b8.ref04_reader_named bo ei em dcd dcd ej (AO (x:=(AC.mk c.marks (Wr (c.at_+1)) c.why c.where_ (Aj.mk c.l.text c.l.funcs c.l.arity c.l.nest) c.nest)) el) (Fx (x:=f))) ?_
 rintro _ iy ⟨en,iz,i0,rfl,c2,eo,ep,eq⟩
 obtain ⟨c4,c5,rfl,c3⟩:=E1 (Ae eo)
 obtain ⟨er,es,rfl,c6⟩:=E1 (Ab eq)
 refine have et:=Bs (Y4 ay m n o bq) c2;Eu<|St D7 et Z Z Z Z λi3 eu br=>AA<|AS ?_
 obtain rfl:=AK a
 refine O1 B aw Z (.agg BA Z Z (Bw eu))<|have ew:=Ss AG c3 br;have ex:=Bs ep br;have ey:=Ss Ai c6 br;⟨en,[I h.1.op,Sb h.1.name,Sb h.1.tail,I h.1.type_,Cx h.1.num,Sl c4 h.1.args c5,I h.1.at_],[Sl er h.2.marks es,I h.2.at_,I h.2.why,I h.2.where_,I h.2.l.text,I h.2.l.funcs,I h.2.l.arity,I h.2.l.nest,I h.2.nest],Z,Ho (T2 (T4 (Mo [1,20,21] ah) m n o bq) c2 br) av,(AY (x:=h.1) ew),ex,(AO (x:=h.2) ey)⟩
 refine Sr<|Vm<|have ez:=K3 Ai a7 m n o;Bi a λd e0 a=>Ca (Cg [Pt p 0,Sb ([40]:Bts)] Z) (FT bo d5 e0 dcd dcd an (AO (x:=c) ez)) ?_
 rintro _ cc ⟨bt,i4,rfl,ai,cd,e1⟩
 obtain ⟨e2,e3,rfl,a0⟩:=E1 (Ab e1)
 refine Va (.bool d.1)<|AA<|Cn a (λe4 a=>?_) λe4 a=>?_
 refine Sr<|Vm<|Bi a λl e5 a=>Ca (Cg [Pt p 0] Z) (b8.ref04_reader_expr bt cc e5 dcd dcd cd (AO (x:=d.2) a0)) ?_
 rintro _ i6 ⟨e6,i7,i8,rfl,c7,e7,e8,e9⟩
 obtain ⟨cf,cg,rfl,c8⟩:=E1 (Ae e7)
 obtain ⟨jb,jc,rfl,c9⟩:=E1 (Ab e9)
 refine Ef<|Aa e6 22 Dm Z λfa jd je fb a8=>have fc:=Ss AG c8 a8;Eu<|St D7 fb Z Z Z Z λfd fe a9=>AA<|Sr<|Vm<|have ff:=Y2 e8 a8 a9;have fg:=K2 Ai c9 a8 a9;Bi a λab fh a=>Ca (Cg [Pt p 0,Sb ([41]:Bts)] Z) (Be fa fd fh dcd dcd ff (AO (x:=l.2) fg)) ?_
 rintro _ jf ⟨fi,jg,rfl,bu,fj,fk⟩
 obtain ⟨fl,fm,rfl,da⟩:=E1 (Ab fk)
 refine AA<|Sr<|have fn:=Bs fe bu;Vx (Lx BA Z Z (Bw fn))<|have fo:=Y4 (Y4 ay m n o ai) c7 a8 a9 bu;have fp:=K2 AG fc a9 bu;Eu<|St D7 fo Z Z Z Z λji fq bv=>AA<|AS ?_
 obtain rfl:=AK a
 refine O1 B aw Z (.agg BA Z Z (Bw fq))<|have fr:=Ss AG fp bv;have fs:=Bs fj bv;have ft:=Ss Ai da bv;⟨fi,[I l.1.op,Sb l.1.name,Sb l.1.tail,I l.1.type_,Cx l.1.num,Sl cf l.1.args cg,I l.1.at_],[Sl fl ab.marks fm,I ab.at_,I ab.why,I ab.where_,I ab.l.text,I ab.l.funcs,I ab.l.arity,I ab.l.nest,I ab.nest],Z,Ho (Tn (T4 (T4 (Mo [1,20,21,22] ah) m n o ai) c7 a8 a9 bu) bv) av,(AY (x:=l.1) fr),fs,(AO (x:=ab) ft)⟩
 refine Am (λao ch=>∃w ap ci,ao=Env.puts w [(0,Pt p 0),(2,Pt bn 0),(3,Pt d3 0),(53,.bool ci)]/\DS a6 bl f d ci=some bm/\AU [] bt cc ap ch) ?_ ?_
 refine AM<|Vx (Fz Lh Z)<|have db:=Bs az ai;Vx (Ld Py Z (Bc db Z))<|Vr (.bool (f.kind != 1))<|Vm<|Bo a (λy a=>?_) λy a=>?_
 refine Pg y<|Pg y<|Pg y<|Pg y<|Vp y<|Va (.bool true)<|AA<|⟨_,bt,true,Pu,a,Rf⟩
 refine Gx y (Fd Fq Z)<|Gx y (Ld B7 Z (Bc db Z))<|Bi a λcj fu a=>CQ (.guard (t:=false) (b:=false) Z Z Z Z (Cb y)) Z Z (Cg [Sb f.text] Z)<|Calls.mono (Nu bt cc fu) ?_
 rintro _ jj ⟨fv,rfl,fw⟩
 refine ⟨_,Z,?_⟩
 refine Gr y (.bool (cj==0))<|Vp y<|Va (.bool (cj==0))<|AA<|⟨_,fv,(cj==0),Pu,a,(Mo [] fw)⟩
 rintro _ ch ⟨w,ap,ci,rfl,a,z⟩
 rw [DS] at a
 refine Cn a (λfx a=>?_) λfx a=>?_
 refine Sr<|Vm<|have fy:=Bs cd z;have fz:=Ss Ai a0 z;Bi a λac f0 a=>Ca (Cg [Pt p 0,I 21] Z) (FS ap ch f0 dcd dcd fy (AO (x:=d.2) fz)) ?_
 rintro _ jk ⟨f1,jl,rfl,dc,f2,f3⟩
 obtain ⟨f4,f5,rfl,de⟩:=E1 (Ab f3)
 refine AA<|Sr<|Vx (v:=Ag [I 0,Sb ([]:Bts),Sb ([]:Bts),I 0,Cx (((0,0):Cpl)),.slice none 0 0,I 0]) (Bp Dm Ns Z .nil)<|have f6:=Y2 (Y4 ay m n o ai) z dc;Eu<|St D7 f6 Z Z Z Z λjn f7 ck=>AA<|AS ?_
 obtain rfl:=AK a
 refine O1 B aw Z (.agg BA Z Z (Bw f7))<|have f8:=Bs f2 ck;have f9:=Ss Ai de ck;⟨f1,[I 0,Sb ([]:Bts),Sb ([]:Bts),I 0,Cx (((0,0):Cpl)),.slice none 0 0,I 0],[Sl f4 ac.marks f5,I ac.at_,I ac.why,I ac.where_,I ac.l.text,I ac.l.funcs,I ac.l.arity,I ac.l.nest,I ac.nest],Z,Ho (T3 (T4 (Mo [1,20,21] ah) m n o ai) z dc ck) av,(AY (x:=(AE.mk 0 ([]:Bts) ([]:Bts) 0 ((0,0):Cpl) [] 0)) Ba),f8,(AO (x:=ac) f9)⟩
 refine AR<|Sr<|Vm<|Vx (Nc Z)<|Vx (Fd Ga Z)<|have df:=Bs cd z;Vx (Ld BC Z (Bc df Z))<|Vr (I (Wr (d.2.at_+1)))<|Vx (Nc Z)<|Vx (Fd Ga Z)<|Eu<|St Mz df Z Z Z Z λga cl a1=>AA<|Am (λao a2=>∃w ad a3 g q r aq s u,ao=Env.puts w [(0,Pt p 0),(2,Pt bn 0),(5,Pt a3 0)]/\FG a6 bl d g q r aq s u=some bm/\AU [23] ap ga ad a2/\Bk ad a2 23 a3 [I g,Sb q,Sb r,I aq,Cx s,.slice none 0 0,I u] 56) ?_ ?_
 refine BZ C7 (.q 0 (.q 1 (.q 3 (.q 4 (.two 2 6 (.q 5 (.one 6 (.one 7 .nil))) (.one 2 (.q 5 (.one 7 .nil)))))))) [7] [] ap (by kernel_rfl) λgb cm=>Qx ax Z (λ_ _=>Fd Fq Z)<|have dg:=Y4 az ai z a1 cm;Qx ax Z (λ_ ⟨_,ar⟩=>Ld B7 Z (Bc (Bs dg ar) Z))<|Qx ax Z (λ_ _=>Fd MD Z)<|Qx ax Z (λ_ ⟨_,ar⟩=>Ld BC Z (Bc (Bs dg ar) Z))<|Nq Z Z ?_ ?_
 refine Bi a λcn gc a=>A4 Z (.none Z) Z Z (Cg [Sb f.text] Z)<|Calls.mono (Nu ap gb gc) ?_
 rintro _ jo ⟨gd,rfl,co⟩
 refine ⟨_,Z,⟨_,(Mo [] co)⟩,?_⟩
 refine Qx ax Z (v:=Ag [I cn,Sb ([]:Bts),Sb ([]:Bts),I 0,Cx (((0,0):Cpl)),.slice none 0 0,I f.at_]) (λ_ _=>CK (cs:=[I cn,Sb ([]:Bts),Sb ([]:Bts),I 0,Cx (((0,0):Cpl)),.slice none 0 0,I f.at_]) [I 0,Sb ([]:Bts),Sb ([]:Bts),I 0,Cx (((0,0):Cpl)),.slice none 0 0,I 0] Dm Ns Z (.cons Z Z Z (.cons Z Z Z .nil)) Z Z)<|A2 Z<|Bn Z (.none Z) Z Z<|Aa gd 23 Dm Z λge jp gf gg dh=>⟨⟨_,(Tn (Mo [] co) dh)⟩,?_⟩
 refine E3 dcd<|WY.one<|BS Z (.none Z) Z<|St D7 gg Z Z Z Z λjq gh gi=>WY.nil<|⟨_,ge,gf,cn,([]:Bts),([]:Bts),0,((0,0):Cpl),f.at_,Pu,a,(T3 (Mo [23] cm) co dh gi),gh⟩
 refine Bn Z (.none Z) Z Z<|Aa ap 23 Dm Z λgj gk gl gm cq=>⟨⟨_,(Mo [] cq)⟩,?_⟩
 refine A2 Z<|Bi a λcr gn a=>A4 Z (.none Z) Z Z (Cg [Sb f.text] Z)<|Calls.mono (Nu gj gk gn) ?_
 rintro _ jr ⟨go,rfl,ct⟩
 refine ⟨_,Z,⟨_,(Tn (Mo [] cq) ct)⟩,?_⟩
 refine Qx ax Z (v:=Ag [I cr,Sb ([]:Bts),Sb ([]:Bts),I 0,Cx (((0,0):Cpl)),.slice none 0 0,I f.at_]) (λ_ _=>CK (cs:=[I cr,Sb ([]:Bts),Sb ([]:Bts),I 0,Cx (((0,0):Cpl)),.slice none 0 0,I f.at_]) [I 0,Sb ([]:Bts),Sb ([]:Bts),I 0,Cx (((0,0):Cpl)),.slice none 0 0,I 0] Dm Ns Z (.cons Z Z Z (.cons Z Z Z .nil)) Z Z)<|E3 dcd<|WY.one<|have gp:=Bs gm ct;BS Z (.none Z) Z<|St D7 gp Z Z Z Z λjs gq gr=>WY.nil<|⟨_,go,gl,cr,([]:Bts),([]:Bts),0,((0,0):Cpl),f.at_,Pu,a,(T3 (Mo [23] cm) cq ct gr),gq⟩
 rintro _ a2 ⟨w,ad,a3,g,q,r,aq,s,u,rfl,a,aj,bw⟩
 rw [FG] at a
 refine Am (λao a4=>∃w a5 au bx bz ba bb bc bd be bf bg bh af aa ak al,ao=Env.puts w [(2,Pt bn 0),(5,Pt a3 0)]/\GP g q r s u au ba bb bc bd be bf bg bh af aa=some bm/\AU [1,23,24] ad a2 a5 a4/\Slc Ai a5.F a4 (Sl bx au bz) au/\Own AG 56 a5 a4 25 (Sl ak aa al) aa/\Bk a5 a4 1 p [Sl bx au bz,I ba,I bb,I bc,I bd,I be,I bf,I bg,I bh] 126/\Bk a5 a4 23 a3 [I g,Sb q,Sb r,I af,Cx s,Sl ak aa al,I u] 56) ?_ ?_
 refine Sr<|Vx (Fz Cp Z)<|Vx (Ld GC Z (Bc bw Z))<|AA<|Ah<|Sr<|Vr (.bool (g==5))<|Va (.bool (g==5))<|AA<|Cn a (λgs a=>?_) λgs a=>?_
 refine AM<|Vm<|have gt:=Bs cl aj;have gu:=K3 Ai a0 z a1 aj;Bi a λae gv a=>Ca (Cg [Pt p 0] Z) (J5 bl ad a2 gv dcd dcd gt (AO (x:=(AC.mk d.2.marks (Wr (d.2.at_+1)) d.2.why d.2.where_ (Aj.mk d.2.l.text d.2.l.funcs d.2.l.arity d.2.l.nest) d.2.nest)) gu)) ?_
 rintro _ jt ⟨gw,ju,rfl,di,gx,gy⟩
 obtain ⟨gz,g0,rfl,dj⟩:=E1 (Ab gy)
 refine Vx (Fd Kk Z)<|have g1:=Bs bw di;Eu<|St Xu g1 Z Z Z Z λjw g2 cu=>AA<|have g3:=Ss Ai dj cu;have g4:=Bs gx cu;⟨_,gw,ae.2.marks,gz,g0,ae.2.at_,ae.2.why,ae.2.where_,ae.2.l.text,ae.2.l.funcs,ae.2.l.arity,ae.2.l.nest,ae.2.nest,ae.1,([]:List AE),none,0,Pu,a,(Tn (Mo [1,23,24] di) cu),g3,Own.nil,g4,g2⟩
 refine Am (λao cv=>∃w b0 cw,ao=Env.puts w [(0,Pt p 0),(2,Pt bn 0),(5,Pt a3 0),(86,.bool cw)]/\CZ a6 d g q r aq s u cw=some bm/\AU [] ad a2 b0 cv) ?_ ?_
 refine Sr<|Vr (.bool (g==14))<|Va (.bool (g==14))<|AA<|Cn a (λg5 a=>?_) λg5 a=>?_
 refine AR<|⟨_,ad,(g==14),Pu,a,Rf⟩
 refine Sr<|Vr (.bool (g==15))<|Va (.bool (g==15))<|AA<|Cn a (λg6 a=>?_) λg6 a=>?_
 refine AR<|⟨_,ad,(g==15),Pu,a,Rf⟩
 refine Sr<|Vr (.bool (g==16))<|Va (.bool (g==16))<|AA<|Cn a (λg7 a=>?_) λg7 a=>?_
 refine AR<|⟨_,ad,(g==16),Pu,a,Rf⟩
 refine AM<|Vr (.bool (g==17))<|Va (.bool (g==17))<|AA<|⟨_,ad,(g==17),Pu,a,Rf⟩
 rintro _ cv ⟨w,b0,cw,rfl,a,am⟩
 rw [CZ] at a
 refine Cn a (λg8 a=>?_) λg8 a=>?_
 refine Sr<|Vm<|have g9:=Y2 cl aj am;have ha:=K4 Ai a0 z a1 aj am;Bi a λhb hc a=>Ca (Cg [Pt p 0,Sb ([40]:Bts)] Z) (Be b0 cv hc dcd dcd g9 (AO (x:=(AC.mk d.2.marks (Wr (d.2.at_+1)) d.2.why d.2.where_ (Aj.mk d.2.l.text d.2.l.funcs d.2.l.arity d.2.l.nest) d.2.nest)) ha)) ?_
 rintro _ hd ⟨he,jx,rfl,dk,hf,hg⟩
 obtain ⟨jz,j0,rfl,dl⟩:=E1 (Ab hg)
 refine AA<|Sr<|Vm<|Bi a λe hh a=>Ca (Cg [Pt p 0] Z) (b8.ref04_reader_expr he hd hh dcd dcd hf (AO (x:=hb) dl)) ?_
 rintro _ j1 ⟨hi,j2,j3,rfl,dm,hj,hk,hl⟩
 obtain ⟨b1,b2,rfl,dn⟩:=E1 (Ae hj)
 obtain ⟨j6,j7,rfl,dp⟩:=E1 (Ab hl)
 refine Ef<|Aa hi 24 Dm Z λhm j8 j9 hn bi=>have ho:=Ss AG dn bi;Eu<|St D7 hn Z Z Z Z λhp hq bj=>AA<|Sr<|Vm<|have hr:=Y2 hk bi bj;have hs:=K2 Ai dp bi bj;Bi a λag ht a=>Ca (Cg [Pt p 0,Sb ([41]:Bts)] Z) (Be hm hp ht dcd dcd hr (AO (x:=e.2) hs)) ?_
 rintro _ ka ⟨hu,kb,rfl,b3,hw,hx⟩
 obtain ⟨hy,hz,rfl,dq⟩:=E1 (Ab hx)
 refine AA<|AM<|have h0:=Bs hq b3;Vx (Lx BA Z Z (Bw h0))<|Ef<|Cj (cs:=[I e.1.op,Sb e.1.name,Sb e.1.tail,I e.1.type_,Cx e.1.num,Sl b1 e.1.args b2,I e.1.at_]) hu 25 [[I e.1.op,Sb e.1.name,Sb e.1.tail,I e.1.type_,Cx e.1.num,Sl b1 e.1.args b2,I e.1.at_]] CG Dm Z Z (.cons Z Z Z .nil) Z λdr h1 b4 h2 bk=>have h3:=K3 AG ho bj b3 bk;have ds:Own AG 56 dr h1 25 (.slice (some ⟨b4,0,none⟩) 1 1) ([e.1]:List AE):=Own.lit (css:=[[I e.1.op,Sb e.1.name,Sb e.1.tail,I e.1.type_,Cx e.1.num,Sl b1 e.1.args b2,I e.1.at_]]) h2 Z Z Z (Ac (AY (x:=e.1) h3) BB) (A6 Z Ds) Z;Vx (Fd BR Z)<|have h4:=Y3 (Y4 bw am dk dm bi) bj b3 bk;Eu<|Bf (vs:=[Sl (some ⟨b4,0,none⟩) (([e.1]:List AE)) 1]) (cs':=[I g,Sb q,Sb r,I aq,Cx s,Sl (some ⟨b4,0,none⟩) (([e.1]:List AE)) 1,I u]) TP Z Z Z Z (AQ (Own.one ds) B6) h4 dcd Z Z λkd h5 b5=>AA<|have h6:=K2 Ai dq bk b5;have h7:=Os ds b5;have h8:=Y2 hw bk b5;⟨_,dr,ag.marks,hy,hz,ag.at_,ag.why,ag.where_,ag.l.text,ag.l.funcs,ag.l.arity,ag.l.nest,ag.nest,aq,([e.1]:List AE),(some ⟨b4,0,none⟩),1,Pu,a,(T3 (T4 (Mo [1,23,24] am) dk dm bi bj) b3 bk b5),h6,h7,h8,h5⟩
 refine AR<|have h9:=K4 Ai a0 z a1 aj am;have ia:=Y2 cl aj am;have ib:=Bs bw am;⟨_,b0,d.2.marks,e2,e3,(Wr (d.2.at_+1)),d.2.why,d.2.where_,d.2.l.text,d.2.l.funcs,d.2.l.arity,d.2.l.nest,d.2.nest,aq,([]:List AE),none,0,Pu,a,(Mo [1,23,24] am),h9,Own.nil,ia,ib⟩
 rintro _ a4 ⟨w,a5,au,bx,bz,ba,bb,bc,bd,be,bf,bg,bh,af,aa,ak,al,rfl,a,dt,ic,du,id,ie⟩
 rw [GP] at a
 refine Sr<|Vx (Lx BA Z Z (Bw ie))<|have ig:=Y4 (Y4 ay m n o ai) z a1 aj dt;Eu<|Bf (vs:=[I g,Sb q,Sb r,I af,Cx s,Sl ak aa al,I u]) (cs':=[I g,Sb q,Sb r,I af,Cx s,Sl ak aa al,I u]) D7 Z Z Z Z (AQ Z (AQ Z (AQ Z (AQ Z (AQ Z (AQ (Own.one du) (AQ Z B6))))))) ig dcd Z Z λke ih b6=>AA<|AS<|have ii:=Os du b6; ?_
 obtain ⟨ij,b7,ik⟩:=Own.freeze (S:=[25]) ii dcd dcd
 obtain rfl:=AK a
 refine have il:=Bs ih b7;O1 B aw Z (.agg BA Z Z (Bw il))<|have im:=Y2 id b6 b7;have io:=K2 Ai ic b6 b7;⟨ij,[I g,Sb q,Sb r,I af,Cx s,Sl ak aa al,I u],[Sl bx au bz,I ba,I bb,I bc,I bd,I be,I bf,I bg,I bh],Z,Ho (T2 (T4 (T4 (Mo [1,20,21,23,24,25] ah) m n o ai) z a1 aj dt) b6 b7) av,(AY (x:=(AE.mk g q r af s aa u)) ik),im,(AO (x:=(AC.mk au ba bb bc (Aj.mk bd be bf bg) bh)) io)⟩
theorem O4(c:AB)(e:Nat)(h:AB.Good c):ref04_reader_unit.Spec (DI c e):=lk1 (O3 c e h)
theorem OM(ac:AB)(b0:Nat)(co:AB.Good ac)(bj:Col)(cq:World)(b1:∀b,bj b<10):ref04_reader_named.At True True bj cq (Cu ac b0) 1:=by
 intro l cr e5 d e6 aw a _ _ ct cu cv
 rw [Cu] at a
 obtain ⟨e8,e9,rfl,b2⟩:=E1 (Ab cu)
 obtain rfl:=DO cv
 refine Az Tryz.func162 Z Tryz.ntmps162 Z λB b3 fa=>Sr<|Ef<|A0 bj 20 Z Z λcw fb fc b4 ax=>Ef<|Aa cw 21 Dm Z λcx cy bk b5 ai=>AA<|AT<|Sr<|Vm<|have cz:=Y2 ct ax ai;have c0:=K2 Ai b2 ax ai;Bi a λe c1 a=>Ca (Cg [Pt l 0,Sb ([40]:Bts)] Z) (FT cx cy c1 dcd dcd cz (AO (x:=cr) c0)) ?_
 rintro _ fd ⟨b6,fe,rfl,aj,b7,c2⟩
 obtain ⟨b8,b9,rfl,bl⟩:=E1 (Ab c2)
 refine Vr (.bool (!e.1))<|AA<|Cn a (λc3 a=>?_) λc3 a=>?_
 refine Sr<|Vx (Fd Fq Z)<|have ca:=Y2 b4 ai aj;Vx (Ld B7 Z (Bc ca Z))<|Vx (Fd MD Z)<|Vx (Ld BC Z (Bc ca Z))<|Vx (v:=Ag [I 6,Sb d.text,Sb ([]:Bts),I 0,Cx (((0,0):Cpl)),.slice none 0 0,I d.at_]) (Bp Dm Ns Z (.cons Z Z Z (.cons Z Z Z (.cons Z Z Z .nil))))<|have c4:=Bs b5 aj;Eu<|St D7 c4 Z Z Z Z λfg c5 bm=>AA<|AS ?_
 obtain rfl:=AK a
 refine O1 B b3 Z (.agg BA Z Z (Bw c5))<|have c6:=Bs b7 bm;have c7:=Ss Ai bl bm;⟨b6,[I 6,Sb d.text,Sb ([]:Bts),I 0,Cx (((0,0):Cpl)),.slice none 0 0,I d.at_],[Sl b8 e.2.marks b9,I e.2.at_,I e.2.why,I e.2.where_,I e.2.l.text,I e.2.l.funcs,I e.2.l.arity,I e.2.l.nest,I e.2.nest],Z,Ho (T3 (Mo [1,21] ax) ai aj bm) b1,(AY (x:=(AE.mk 6 d.text ([]:Bts) 0 ((0,0):Cpl) [] d.at_)) Ba),c6,(AO (x:=e.2) c7)⟩
 refine AR<|Sr<|Vx (Fd Fq Z)<|have cb:=Y2 b4 ai aj;Vx (Ld B7 Z (Bc cb Z))<|Vx (Fd MD Z)<|Vx (Ld BC Z (Bc cb Z))<|Vx (v:=Ag [I 7,Sb d.text,Sb ([]:Bts),I 0,Cx (((0,0):Cpl)),.slice none 0 0,I d.at_]) (Bp Dm Ns Z (.cons Z Z Z (.cons Z Z Z (.cons Z Z Z .nil))))<|Ef<|Aa b6 22 Dm Z λcc fh ay c8 az=>Eu<|St D7 c8 Z Z Z Z λc9 da a0=>AA<|AT<|Ah<|Bj (λad ap ae=>∃af o h a1 a2 p m q r u w y z f ag ah,ap=Env.puts af [(0,Pt l 0),(4,Pt bk 0),(5,Pt ay 0)]/\Bt ac d ad h p m q r u w y z f=some aw/\AU [1,22,23,25] cc c9 o ae/\Slc Ai o.F ae (Sl a1 h a2) h/\Own AG 56 o ae 25 (Sl ag f ah) f/\Bk o ae 1 l [Sl a1 h a2,I p,I m,I q,I r,I u,I w,I y,I z] 126/\Bk o ae 22 ay [I 7,Sb d.text,Sb ([]:Bts),I 0,Cx (((0,0):Cpl)),Sl ag f ah,I d.at_] 56) b0 ?_ ?_
 refine have db:=K2 Ai bl az a0;have dc:=Y2 b7 az a0;⟨_,cc,e.2.marks,b8,b9,e.2.at_,e.2.why,e.2.where_,e.2.l.text,e.2.l.funcs,e.2.l.arity,e.2.l.nest,e.2.nest,([]:List AE),none,0,Pu,a,(AU.refl [1,22,23,25] _ _),db,Own.nil,dc,da⟩
 rintro ad _ ae ⟨af,o,h,a1,a2,p,m,q,r,u,w,y,z,f,ag,ah,rfl,a,bn,a3,bo,aq,bp⟩
 rcases ad with _|ad
 exact A5 a
 refine have a:Cr ac d (Bt ac d ad) h p m q r u w y z f=some aw:=a; ?_
 obtain ⟨cd,cf⟩:∃s,s=Bt ac d ad:=⟨_,rfl⟩
 rw [<-cf,Cr] at a
 refine AT<|Am (λap ar=>∃af ak bq,ap=Env.puts af [(0,Pt l 0),(4,Pt bk 0),(5,Pt ay 0),(29,.bool bq)]/\Di ac d h p m q r u w y z f cd bq=some aw/\AU [] o ae ak ar) ?_ ?_
 refine AM<|Vm<|Vx (Nc Z)<|Vx (Fd Jb Z)<|Vx (Ld BC Z (Bc aq Z))<|Vr (.bool (m==0))<|Vm<|Bo a (λaa a=>?_) λaa a=>?_
 refine Gm aa<|Bi a λcg de a=>CQ (.guard (t:=true) (b:=true) Z Z Z Z (Cb aa)) Z Z (Cg [Pt l 0,Sb ([41]:Bts)] Z)<|Calls.mono (DC o ae de dcd dcd aq (AO (x:=(AC.mk h p m q (Aj.mk r u w y) z)) a3)) ?_
 rintro _ fi ⟨df,rfl,dg⟩
 refine ⟨_,Z,?_⟩
 refine Gr aa (.bool (!cg))<|Vp aa<|AA<|⟨_,df,(!cg),Pu,a,(Mo [] dg)⟩
 refine Pg aa<|Pg aa<|Pg aa<|Vp aa<|AA<|⟨_,o,false,Pu,a,Rf⟩
 rintro _ ar ⟨af,ak,bq,rfl,a,g⟩
 rw [Di] at a
 refine Cn a (λdh a=>?_) λdh a=>?_
 refine AR<|Ah<|Am (λap au=>∃af av al br bt a4 a5 a6 a7 a8 a9 ba bb,ap=Env.puts af [(0,Pt l 0),(4,Pt bk 0),(5,Pt ay 0)]/\Dh ac f cd al a4 a5 a6 a7 a8 a9 ba bb=some aw/\AU [1] ak ar av au/\Slc Ai av.F au (Sl br al bt) al/\Bk av au 1 l [Sl br al bt,I a4,I a5,I a6,I a7,I a8,I a9,I ba,I bb] 126) ?_ ?_
 refine Sr<|Vx (Fd BR Z)<|have di:=Bs bp g;Vx (Ld CR Z (Bc di Z))<|have dj:=Os bo g; ?_
 obtain ⟨fj,fk,dk⟩:=Own.len dj
 refine Vx (v:=I (f.length:Int)) (Ll CG dk)<|Vr (.bool (decide ((f.length:Int)>0)))<|AA<|Cn a (λdl a=>?_) λdl a=>?_
 refine AM<|Vm<|have dm:=Bs aq g;have dn:=Ss Ai a3 g;Bi a λab dp a=>Ca (Cg [Pt l 0,Sb ([44]:Bts)] Z) (Be ak ar dp dcd dcd dm (AO (x:=(AC.mk h p m q (Aj.mk r u w y) z)) dn)) ?_
 rintro _ fl ⟨dq,fm,rfl,dr,ds,dt⟩
 obtain ⟨du,dv,rfl,ch⟩:=E1 (Ab dt)
 refine AA<|⟨_,dq,ab.marks,du,dv,ab.at_,ab.why,ab.where_,ab.l.text,ab.l.funcs,ab.l.arity,ab.l.nest,ab.nest,Pu,a,(Mo [1] dr),ch,ds⟩
 refine AR<|have dw:=Ss Ai a3 g;have dx:=Bs aq g;⟨_,ak,h,a1,a2,p,m,q,r,u,w,y,z,Pu,a,(AU.refl [1] _ _),dw,dx⟩
 rintro _ au ⟨af,av,al,br,bt,a4,a5,a6,a7,a8,a9,ba,bb,rfl,a,bu,dy,dz⟩
 rw [Dh] at a
 refine Sr<|Vm<|Bi a λc d0 a=>Ca (Cg [Pt l 0] Z) (co.ref04_reader_expr av au d0 dcd dcd dz (AO (x:=(AC.mk al a4 a5 a6 (Aj.mk a7 a8 a9 ba) bb)) dy)) ?_
 rintro _ fo ⟨d1,fp,fq,rfl,bv,d2,d3,d4⟩
 obtain ⟨bc,bd,rfl,ci⟩:=E1 (Ae d2)
 obtain ⟨d5,d6,rfl,cj⟩:=E1 (Ab d4)
 refine Ef<|Aa d1 23 Dm Z λd7 ft fu d8 am=>have d9:=Ss AG ci am;Eu<|St D7 d8 Z Z Z Z λfv ea an=>AA<|AM<|Vx (Fd BR Z)<|have ck:=Bs (Y4 bp g bu bv am) an;Vx (Ld CR Z (Bc ck Z))<|Vx (Lx BA Z Z (Bw ea))<|Ef<|Cj (cs:=[I c.1.op,Sb c.1.name,Sb c.1.tail,I c.1.type_,Cx c.1.num,Sl bc c.1.args bd,I c.1.at_]) d7 24 [[I c.1.op,Sb c.1.name,Sb c.1.tail,I c.1.type_,Cx c.1.num,Sl bc c.1.args bd,I c.1.at_]] CG Dm Z Z (.cons Z Z Z .nil) Z λeb ec ed ee ao=>have ef:=K2 AG d9 an ao;have eg:Own AG 56 eb ec 24 (.slice (some ⟨ed,0,none⟩) 1 1) ([c.1]:List AE):=Own.lit (css:=[[I c.1.op,Sb c.1.name,Sb c.1.tail,I c.1.type_,Cx c.1.num,Sl bc c.1.args bd,I c.1.at_]]) ee Z Z Z (Ac (AY (x:=c.1) ef) BB) (A6 Z Ds) Z;have eh:=Os (Os (Os (Os (Os (Os bo g) bu) bv) am) an) ao;Bi a λfw cl a=>Ef<|Br (κ:=AG) Z Z eh dcd ZS (CI eg) (Ea cl) (Ew cl) λfx ei fy bw be=>?_
 obtain ⟨bx,bz,rfl⟩:=Own.len bw
 refine Vx (Fd BR Z)<|have ej:=Y2 ck ao be;Eu<|Bf (vs:=[Sl bx ((f++([c.1]:List AE))) bz]) (cs':=[I 7,Sb d.text,Sb ([]:Bts),I 0,Cx (((0,0):Cpl)),Sl bx ((f++([c.1]:List AE))) bz,I d.at_]) TP Z Z Z Z (AQ (Own.one bw) B6) ej dcd Z Z λfz ek bf=>AA<|have el:=Ss Ai (K4 Ai cj am an ao be) bf;have em:=Os bw bf;have en:=Bs (Y4 d3 am an ao be) bf;⟨ad,Nat.lt_succ_self ad,_,ei,c.2.marks,d5,d6,c.2.at_,c.2.why,c.2.where_,c.2.l.text,c.2.l.funcs,c.2.l.arity,c.2.l.nest,c.2.nest,(f++([c.1]:List AE)),bx,bz,Pu,(cf▸a),(T4 (T4 (Mo [1,22,23,25] bn) g bu bv am) an ao be bf),el,em,en,ek⟩
 refine BX<|Sr<|Vm<|have eo:=Bs aq g;have ep:=Ss Ai a3 g;Bi a λn eq a=>Ca (Cg [Pt l 0,Sb ([41]:Bts)] Z) (Be ak ar eq dcd dcd eo (AO (x:=(AC.mk h p m q (Aj.mk r u w y) z)) ep)) ?_
 rintro _ f0 ⟨f1,f2,rfl,bg,er,es⟩
 obtain ⟨et,eu,rfl,cm⟩:=E1 (Ab es)
 refine AA<|Sr<|have ew:=Y2 bp g bg;Vx (Lx BA Z Z (Bw ew))<|have ex:=Y2 (Y4 b5 aj az a0 bn) g bg;have cn:=Os (Os bo g) bg;Eu<|Bf (vs:=[I 7,Sb d.text,Sb ([]:Bts),I 0,Cx (((0,0):Cpl)),Sl ag f ah,I d.at_]) (cs':=[I 7,Sb d.text,Sb ([]:Bts),I 0,Cx (((0,0):Cpl)),Sl ag f ah,I d.at_]) D7 Z Z Z Z (AQ Z (AQ Z (AQ Z (AQ Z (AQ Z (AQ (Own.one cn) (AQ Z B6))))))) ex dcd Z Z λf4 ey bh=>AA<|AS<|have ez:=Os cn bh; ?_
 obtain ⟨e0,bi,e1⟩:=Own.freeze (S:=[25]) ez dcd dcd
 obtain rfl:=AK a
 refine have e2:=Bs ey bi;O1 B b3 Z (.agg BA Z Z (Bw e2))<|have e3:=Y2 er bh bi;have e4:=K2 Ai cm bh bi;⟨e0,[I 7,Sb d.text,Sb ([]:Bts),I 0,Cx (((0,0):Cpl)),Sl ag f ah,I d.at_],[Sl et n.marks eu,I n.at_,I n.why,I n.where_,I n.l.text,I n.l.funcs,I n.l.arity,I n.l.nest,I n.nest],Z,Ho (Tn (T4 (T4 (Mo [1,21,22,23,25] ax) ai aj az a0) bn g bg bh) bi) b1,(AY (x:=(AE.mk 7 d.text ([]:Bts) 0 ((0,0):Cpl) f d.at_)) e1),e3,(AO (x:=n) e4)⟩
theorem ON(c:AB)(e:Nat)(h:AB.Good c):ref04_reader_named.Spec (Cu c e):=lk1 (OM c e h)
theorem AB.good:∀d,AB.Good (AB.at d)
 |0=>⟨by intro a c;intros;(try intro _);intros;exact A5 (by assumption),by intro a c;intros;(try intro _);intros;exact A5 (by assumption),by intro a c;intros;(try intro _);intros;exact A5 (by assumption),by intro a c;intros;(try intro _);intros;exact A5 (by assumption),by intro a c;intros;(try intro _);intros;exact A5 (by assumption),by intro a c;intros;(try intro _);intros;exact A5 (by assumption),by intro a c;intros;(try intro _);intros;exact A5 (by assumption),by intro a c;intros;(try intro _);intros;exact A5 (by assumption),by intro a c;intros;(try intro _);intros;exact A5 (by assumption)⟩
 |n+1=>⟨Ou _ n (AB.good n),Ow _ n (AB.good n),OK _ n (AB.good n),NY _ n (AB.good n),Oy _ n (AB.good n),PT _ n (AB.good n),O0 _ n (AB.good n),O4 _ n (AB.good n),ON _ n (AB.good n)⟩
theorem PU(a:Nat):ref04_reader_expr.Spec (ref04_reader_expr a):=(AB.good a).ref04_reader_expr
def C9.At(G1 G2:Prop)(e:Col)(a:World)(f:AC->Int->Option (AN×AC))(g:Nat):Prop:=
 ∀{h m n o l},f m o=some l->G1->G2->Bk e a g h n 126->BM.rep e.F a n m->
  Calls PG 74 #[Pt h 0,I o] a λr c=>∃d p q,r=.returned (Ag p)/\AU [g] e a d c/\AI.rep d.F c p l.1/\Bk d c g h q 126/\BM.rep d.F c q l.2
def C9.Spec(f:AC->Int->Option (AN×AC)):Prop:=
 ∀c d {a},C9.At ([a].Nodup) (0∉[a]) c d f a
end Fth
