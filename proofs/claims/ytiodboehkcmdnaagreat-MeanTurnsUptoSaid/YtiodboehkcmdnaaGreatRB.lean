/- Part 2 of the proof: what it says holds of the given program; no condition. -/
import Derived.Test.YtiodboehkcmdnaaGreatRA
set_option linter.all false
set_option exponentiation.threshold 3000
namespace Fth
open Go Go.IntKind
set_option maxRecDepth 100000
def Jw:Option (Ae):=
 some (Ae.mk (32768:Int) (32768:Int) (32768:Int) (32768:Int))
def IZ(x4:Bool):Option (Bool):=
 some x4
def HV(a0:UInt8):Option (Bool):=
 bif (((a0).toNat:Int)==(((9:UInt8)).toNat:Int)) then (IZ true) else (bif (((a0).toNat:Int)==(((10:UInt8)).toNat:Int)) then (IZ true) else (bif (((a0).toNat:Int)==(((13:UInt8)).toNat:Int)) then (IZ true) else (IZ (((a0).toNat:Int)==(((32:UInt8)).toNat:Int)))))
def Gl(x5:Bool):Option (Bool):=
 some x5
def GT(a0:UInt8):Option (Bool):=
 bif (decide (((a0).toNat:Int)≥(((65:UInt8)).toNat:Int))) then (bif (decide (((a0).toNat:Int)≤(((90:UInt8)).toNat:Int))) then (Gl true) else (bif (decide (((a0).toNat:Int)≥(((97:UInt8)).toNat:Int))) then (Gl (decide (((a0).toNat:Int)≤(((122:UInt8)).toNat:Int)))) else (Gl false))) else (bif (decide (((a0).toNat:Int)≥(((97:UInt8)).toNat:Int))) then (Gl (decide (((a0).toNat:Int)≤(((122:UInt8)).toNat:Int)))) else (Gl false))
def KL(x2:Bool):Option (Bool):=
 some x2
def Gq(a0:UInt8):Option (Bool):=
 bif (decide (((a0).toNat:Int)≥(((48:UInt8)).toNat:Int))) then (KL (decide (((a0).toNat:Int)≤(((57:UInt8)).toNat:Int)))) else (KL false)
def GU(x76:Int)(self1:(Int→Option (Int)))(x183:Bool):Option (Int):=
 bif x183 then (self1 (i64.wrap (x76+(1:Int)))) else (some x76)
def GQ(a0:Bts)(a1:Int)(self1:Int→Option (Int))(x76:Int):Option (Int):=
 bif (decide ((i64.wrap (a1+x76))< (a0.length:Int))) then ((idx a0 (i64.wrap (a1+x76))).bind fun x193=>(GT x193).bind fun x205=>bif x205 then (GU x76 self1 true) else ((Gq x193).bind fun x212=>bif x212 then (GU x76 self1 true) else (GU x76 self1 (((x193).toNat:Int)==(((95:UInt8)).toNat:Int))))) else (GU x76 self1 false)
def Ec(a0:Bts)(a1:Int):Nat→Int→Option (Int)
 |0=>fun _=>none
 |k+1=>GQ a0 a1 (Ec a0 a1 k)
def IW(N:Nat)(a0:Bts)(a1:Int):Option (Int):=
 Ec a0 a1 N (0:Int)
def LP(x41 x85:Int):Option (Int×Int):=
 some (x85,x41)
def Ek(a0:Bts)(x12 x40 x41:Int)(self1:(Int→Int→Option (Int×Int)))(x76:Bool):Option (Int×Int):=
 bif x76 then ((idx a0 x41).bind fun x81=>self1 (if (16777217:Int)< (i64.wrap ((i64.wrap ((10:Int)*x40))+(i64.wrap ((((u8c (((x81).toNat:Int) - (((48:UInt8)).toNat:Int)))).toNat:Int))))) then (16777217:Int) else (i64.wrap ((i64.wrap ((10:Int)*x40))+(i64.wrap ((((u8c (((x81).toNat:Int) - (((48:UInt8)).toNat:Int)))).toNat:Int)))))) (i64.wrap (x41+(1:Int)))) else (bif (x41==x12) then (some ((0:Int),(0:Int))) else (bif (x12==(1:Int)) then (LP x41 (i64.wrap (0 - x40))) else (LP x41 x40)))
def FA(a0:Bts)(x12:Int)(self1:Int→Int→Option (Int×Int))(x40 x41:Int):Option (Int×Int):=
 bif (decide (x41< (a0.length:Int))) then ((idx a0 x41).bind fun x91=>bif (decide (((x91).toNat:Int)≥(((48:UInt8)).toNat:Int))) then ((idx a0 x41).bind fun x94=>Ek a0 x12 x40 x41 self1 (decide (((x94).toNat:Int)≤(((57:UInt8)).toNat:Int)))) else (Ek a0 x12 x40 x41 self1 false)) else (Ek a0 x12 x40 x41 self1 false)
def EK(a0:Bts)(x12:Int):Nat→Int→Int→Option (Int×Int)
 |0=>fun _ _=>none
 |k+1=>FA a0 x12 (EK a0 x12 k)
def Ia(N:Nat)(a0:Bts)(x12:Int):Option (Int×Int):=
 EK a0 x12 N (0:Int) x12
def HW(N:Nat)(a0:Bts)(x99:Bool):Option (Int×Int):=
 bif x99 then (Ia N a0 (1:Int)) else (Ia N a0 (0:Int))
def El(N:Nat)(a0:Bts):Option (Int×Int):=
 bif (decide ((a0.length:Int)>(0:Int))) then ((idx a0 (0:Int)).bind fun x105=>HW N a0 (((x105).toNat:Int)==(((45:UInt8)).toNat:Int))) else (HW N a0 false)
def Js(a0:Aj)(x17:Bool):Option (Aj×Int):=
 bif x17 then (some ((Aj.mk (0:Int) (0:Int)),(50:Int))) else (some (a0,(0:Int)))
def HX(a0:Aj):Option (Aj×Int):=
 bif (decide (a0.re< (-16777216:Int))) then (Js a0 true) else (bif (decide (a0.re>(16777216:Int))) then (Js a0 true) else (bif (decide (a0.im< (-16777216:Int))) then (Js a0 true) else (Js a0 (decide (a0.im>(16777216:Int))))))
structure A6 where
 ref01_digits:Int→Option (Bts)
def LC(x35:Bts):Option (Bts):=
 some x35
def DO(φ:A6)(_N:Nat)(a0:Int):Option (Bts):=
 bif (decide (a0< (0:Int))) then ((φ.ref01_digits (i64.wrap (0 - a0))).bind fun x2=>(Pe ([45]:List UInt8) x2).bind fun x7=>some x7) else ((nz (10:Int)).bind fun _=>bif (decide (a0≥(10:Int))) then ((nz (10:Int)).bind fun _=>(φ.ref01_digits (i64.wrap (a0.tdiv (10:Int)))).bind fun x42=>(Pe x42 ([(u8c ((i64.wrap ((48:Int)+(a0.tmod (10:Int))))))]:List UInt8)).bind fun x47=>LC x47) else (LC ([(u8c ((i64.wrap ((48:Int)+(a0.tmod (10:Int))))))]:List UInt8)))
def A6.at:Nat→A6
 |0=>⟨fun _=>none⟩
 |n+1=>⟨DO (A6.at n) n⟩
def ref01_digits(N:Nat):Int→Option (Bts):=(A6.at N).ref01_digits
def F4(N:Nat)(a0:Aj):Option (Bts):=
 bif (a0.im==(0:Int)) then ((ref01_digits N a0.re).bind fun x8=>some x8) else (bif (a0.re==(0:Int)) then ((ref01_digits N a0.im).bind fun x14=>(Pe x14 ([105]:List UInt8)).bind fun x19=>some x19) else (bif (decide (a0.im>(0:Int))) then ((ref01_digits N a0.re).bind fun x25=>(Pe x25 ([43]:List UInt8)).bind fun x30=>(ref01_digits N a0.im).bind fun x32=>(Pe x30 x32).bind fun x37=>(Pe x37 ([105]:List UInt8)).bind fun x39=>some x39) else ((ref01_digits N a0.re).bind fun x44=>(ref01_digits N a0.im).bind fun x49=>(Pe x44 x49).bind fun x54=>(Pe x54 ([105]:List UInt8)).bind fun x56=>some x56)))
def LQ(x60 x61:Int)(x91:Bool):Option (Aj×Int):=
 bif x91 then (some ((Aj.mk (0:Int) (0:Int)),(10:Int))) else (some ((Aj.mk x60 x61),(0:Int)))
def Fi(N:Nat)(a0:Bts)(x60 x61:Int):Option (Aj×Int):=
 (HX (Aj.mk x60 x61)).bind fun x67=>bif (x67.2 != (0:Int)) then (LQ x60 x61 true) else ((F4 N (Aj.mk x60 x61)).bind fun x109=>LQ x60 x61 (!(x109==a0)))
def HY(N:Nat)(a0:Bts)(x7:(Int×Int))(x125:Bts):Option (Aj×Int):=
 (El N x125).bind fun x129=>Fi N a0 x7.1 x129.1
def EW(N:Nat)(a0:Bts):Option (Aj×Int):=
 (El N a0).bind fun x7=>bif (x7.2==(0:Int)) then (some ((Aj.mk (0:Int) (0:Int)),(10:Int))) else ((sub a0 x7.2 (a0.length:Int)).bind fun x28=>bif (x28==([105]:List UInt8)) then (Fi N a0 (0:Int) x7.1) else (bif (!(x28==([]:List UInt8))) then ((idx x28 (0:Int)).bind fun x139=>bif (((x139).toNat:Int)==(((43:UInt8)).toNat:Int)) then ((sub x28 (1:Int) (x28.length:Int)).bind fun x142=>HY N a0 x7 x142) else (HY N a0 x7 x28)) else (Fi N a0 x7.1 (0:Int))))
def F6(a0:Aj):Option ((Nat×Nat)):=
 some ((FloatKind.f64.nearest a0.re),(FloatKind.f64.nearest a0.im))
def I3:Option ((List Bts)):=
 some ([([66]:List UInt8),([76]:List UInt8),([78]:List UInt8),([99,97,115,101]:List UInt8),([99,111,110,106]:List UInt8),([101,108,115,101]:List UInt8),([102,97,105,108]:List UInt8),([102,97,108,115,101]:List UInt8),([105,102]:List UInt8),([105,109]:List UInt8),([105,110]:List UInt8),([108,101,116]:List UInt8),([110,105,108]:List UInt8),([110,111,116]:List UInt8),([111,102]:List UInt8),([114,101]:List UInt8),([115,116,114,105,99,116]:List UInt8),([116,104,101,110]:List UInt8),([116,114,117,101]:List UInt8)]:List Bts)
def Dr(a0:Bts)(x1:((List Bts)))(self1:Int→Option (Bool))(x34:Int):Option (Bool):=
 bif (decide (x34< (x1.length:Int))) then ((idx x1 x34).bind fun x66=>bif (x66==a0) then (some true) else (self1 (i64.wrap (x34+(1:Int))))) else (some false)
def Dd(a0:Bts)(x1:((List Bts))):Nat→Int→Option (Bool)
 |0=>fun _=>none
 |k+1=>Dr a0 x1 (Dd a0 x1 k)
def De(N:Nat)(a0:Bts):Option (Bool):=
 (I3).bind fun x1=>Dd a0 x1 N (0:Int)
def Ds(x78:Bool):Option (Int):=
 bif x78 then (some (1:Int)) else (some (0:Int))
def Fj(a0:Bts)(a1:Int)(x49:Bool):Option (Int):=
 bif x49 then (some (2:Int)) else ((idx a0 a1).bind fun x54=>bif (((x54).toNat:Int)==(((40:UInt8)).toNat:Int)) then (Ds (((x54).toNat:Int)==(((40:UInt8)).toNat:Int))) else (bif (((x54).toNat:Int)==(((41:UInt8)).toNat:Int)) then (Ds (((x54).toNat:Int)==(((41:UInt8)).toNat:Int))) else (bif (((x54).toNat:Int)==(((44:UInt8)).toNat:Int)) then (Ds (((x54).toNat:Int)==(((44:UInt8)).toNat:Int))) else (bif (((x54).toNat:Int)==(((58:UInt8)).toNat:Int)) then (Ds (((x54).toNat:Int)==(((58:UInt8)).toNat:Int))) else (bif (((x54).toNat:Int)==(((59:UInt8)).toNat:Int)) then (Ds (((x54).toNat:Int)==(((59:UInt8)).toNat:Int))) else (bif (((x54).toNat:Int)==(((61:UInt8)).toNat:Int)) then (Ds (((x54).toNat:Int)==(((61:UInt8)).toNat:Int))) else (bif (((x54).toNat:Int)==(((43:UInt8)).toNat:Int)) then (Ds (((x54).toNat:Int)==(((43:UInt8)).toNat:Int))) else (bif (((x54).toNat:Int)==(((45:UInt8)).toNat:Int)) then (Ds (((x54).toNat:Int)==(((45:UInt8)).toNat:Int))) else (bif (((x54).toNat:Int)==(((42:UInt8)).toNat:Int)) then (Ds (((x54).toNat:Int)==(((42:UInt8)).toNat:Int))) else (bif (((x54).toNat:Int)==(((47:UInt8)).toNat:Int)) then (Ds (((x54).toNat:Int)==(((47:UInt8)).toNat:Int))) else (bif (((x54).toNat:Int)==(((60:UInt8)).toNat:Int)) then (Ds (((x54).toNat:Int)==(((60:UInt8)).toNat:Int))) else (Ds (((x54).toNat:Int)==(((124:UInt8)).toNat:Int))))))))))))))
def Ib(a0:Bts)(a1:Int):Option (Int):=
 bif (decide ((i64.wrap (a1+(1:Int)))< (a0.length:Int))) then ((idx a0 a1).bind fun x98=>bif (((x98).toNat:Int)==(((45:UInt8)).toNat:Int)) then ((idx a0 (i64.wrap (a1+(1:Int)))).bind fun x111=>bif (((x111).toNat:Int)==(((62:UInt8)).toNat:Int)) then (Fj a0 a1 true) else (bif (((x98).toNat:Int)==(((61:UInt8)).toNat:Int)) then (Fj a0 a1 (((x111).toNat:Int)==(((61:UInt8)).toNat:Int))) else (Fj a0 a1 false))) else (bif (((x98).toNat:Int)==(((61:UInt8)).toNat:Int)) then ((idx a0 (i64.wrap (a1+(1:Int)))).bind fun x126=>Fj a0 a1 (((x126).toNat:Int)==(((61:UInt8)).toNat:Int))) else (Fj a0 a1 false))) else (Fj a0 a1 false)
def MR(a1:Int)(x17:Bts)(x145:Int):Option (Af×Bool):=
 some ((Af.mk x145 x17 ((0,0):Nat×Nat) a1),true)
def IG(N:Nat)(a0:Bts)(a1 x12:Int)(x17:Bts)(x121:Bool):Option (Af×Bool):=
 bif x121 then (some ((Af.mk (0:Int) x17 ((0,0):Nat×Nat) a1),false)) else (bif (decide (x12>(0:Int))) then ((De N x17).bind fun x157=>bif x157 then (MR a1 x17 (1:Int)) else (MR a1 x17 (0:Int))) else ((Ib a0 a1).bind fun x170=>(sub a0 a1 (i64.wrap (a1+x170))).bind fun x180=>some ((Af.mk (3:Int) x180 ((0,0):Nat×Nat) a1),(decide (x170>(0:Int))))))
def IH(N:Nat)(a0:Bts)(a1 x12:Int)(x17:Bts)(x63:Bool):Option (Af×Bool):=
 bif x63 then ((EW N x17).bind fun x69=>(F6 x69.1).bind fun x92=>some ((Af.mk (2:Int) x17 x92 a1),(x69.2==(0:Int)))) else (bif (decide (x12>(0:Int))) then ((idx a0 a1).bind fun x207=>IG N a0 a1 x12 x17 (((x207).toNat:Int)==(((95:UInt8)).toNat:Int))) else (IG N a0 a1 x12 x17 false))
def Hv(N:Nat)(a0:Bts)(a1:Int):Option (Af×Bool):=
 (IW N a0 a1).bind fun x12=>(sub a0 a1 (i64.wrap (a1+x12))).bind fun x17=>bif (decide (x12>(0:Int))) then ((idx a0 a1).bind fun x221=>(Gq x221).bind fun x234=>IH N a0 a1 x12 x17 x234) else (IH N a0 a1 x12 x17 false)
def HZ(x186:(List Af))(self3:((List Af)→Int→Option ((List Af)×Int)))(x425:Int)(self4:(Int→Option ((List Af)×Int)))(x490:Bool):Option ((List Af)×Int):=
 bif x490 then (self4 (i64.wrap (x425+(1:Int)))) else (self3 x186 x425)
def FB(a0:Bts)(x186:(List Af))(self3:((List Af)→Int→Option ((List Af)×Int)))(self4:Int→Option ((List Af)×Int))(x425:Int):Option ((List Af)×Int):=
 bif (decide (x425< (a0.length:Int))) then ((idx a0 x425).bind fun x501=>HZ x186 self3 x425 self4 (((x501).toNat:Int) != (((10:UInt8)).toNat:Int))) else (HZ x186 self3 x425 self4 false)
def Em(a0:Bts)(x186:(List Af))(self3:((List Af)→Int→Option ((List Af)×Int))):Nat→Int→Option ((List Af)×Int)
 |0=>fun _=>none
 |k+1=>FB a0 x186 self3 (Em a0 x186 self3 k)
def FC(N:Nat)(a0:Bts)(self3:(List Af)→Int→Option ((List Af)×Int))(x186:(List Af))(x190:Int):Option ((List Af)×Int):=
 bif (decide (x190< (a0.length:Int))) then ((idx a0 x190).bind fun x385=>(HV x385).bind fun x397=>bif x397 then (self3 x186 (i64.wrap (x190+(1:Int)))) else (bif (((x385).toNat:Int)==(((35:UInt8)).toNat:Int)) then (Em a0 x186 self3 N x190) else ((Hv N a0 x190).bind fun x514=>bif (!x514.2) then (some ([],x190)) else ((Ft 48 x186 ([x514.1]:List Af)).bind fun _=>self3 (x186++([x514.1]:List Af)) (i64.wrap (x190+(x514.1.text.length:Int))))))) else ((Ft 48 x186 ([(Af.mk (4:Int) ([]:List UInt8) ((0,0):Nat×Nat) (a0.length:Int))]:List Af)).bind fun _=>some ((x186++([(Af.mk (4:Int) ([]:List UInt8) ((0,0):Nat×Nat) (a0.length:Int))]:List Af)),(-1:Int)))
def Df(N:Nat)(a0:Bts):Nat→(List Af)→Int→Option ((List Af)×Int)
 |0=>fun _ _=>none
 |k+1=>FC N a0 (Df N a0 k)
def F7(N:Nat)(a0:Bts):Option ((List Af)×Int):=
 Df N a0 N ([]:List Af) (0:Int)
def BV(ao0:AD):Option (Af):=
 (idx ao0.marks ao0.at_).bind fun x17=>some x17
def Bt(ao0:AD)(a1:Int):Option (AD):=
 bif (ao0.why==(0:Int)) then ((BV (AD.mk ao0.marks ao0.at_ a1 ao0.where_ (Ae.mk ao0.l.text ao0.l.funcs ao0.l.arity ao0.l.nest) ao0.nest)).bind fun x14=>some (AD.mk ao0.marks ao0.at_ a1 x14.at_ (Ae.mk ao0.l.text ao0.l.funcs ao0.l.arity ao0.l.nest) ao0.nest)) else (some ao0)
def F8(ao0:AD)(x16:Af)(x35:Bool):Option (Af×AD):=
 bif x35 then ((Bt ao0 (21:Int)).bind fun x42=>some ((Af.mk (0:Int) ([]:List UInt8) ((0,0):Nat×Nat) (0:Int)),x42)) else (some (x16,(AD.mk ao0.marks (i64.wrap (ao0.at_+(1:Int))) ao0.why ao0.where_ (Ae.mk ao0.l.text ao0.l.funcs ao0.l.arity ao0.l.nest) ao0.nest)))
def CM(ao0:AD):Option (Af×AD):=
 (BV ao0).bind fun x16=>bif (ao0.why != (0:Int)) then (F8 ao0 x16 true) else (F8 ao0 x16 (x16.kind != (0:Int)))
def G9(x29:Bool):Option (Bool):=
 some x29
def Bf(ao0:AD)(a1:Bts):Option (Bool):=
 (BV ao0).bind fun x8=>bif (ao0.why==(0:Int)) then (bif (x8.kind==(1:Int)) then (G9 (x8.text==a1)) else (bif (x8.kind==(3:Int)) then (G9 (x8.text==a1)) else (G9 false))) else (G9 false)
def Bu(ao0:AD)(a1:Bts):Option (Bool×AD):=
 (Bf ao0 a1).bind fun x8=>bif (!x8) then (some (false,ao0)) else (some (true,(AD.mk ao0.marks (i64.wrap (ao0.at_+(1:Int))) ao0.why ao0.where_ (Ae.mk ao0.l.text ao0.l.funcs ao0.l.arity ao0.l.nest) ao0.nest)))
def A2(ao0:AD)(a1:Bts):Option (AD):=
 (Bu ao0 a1).bind fun x8=>bif (!x8.1) then ((Bt x8.2 (21:Int)).bind fun x24=>some x24) else (some x8.2)
def DG(self1:Int→(List Af)→Int→Int→Int→Int→Int→Int→Int→Int→Option (Int×AD))(x69:Int)(x70:(List Af))(x74 x75 x76 x77 x78 x79 x80 x81:Int):Option (Int×AD):=
 bif (decide (x69< (([([78]:List UInt8),([66]:List UInt8),([76]:List UInt8)]:List Bts).length:Int))) then ((idx ([([78]:List UInt8),([66]:List UInt8),([76]:List UInt8)]:List Bts) x69).bind fun x148=>(Bu (AD.mk x70 x74 x75 x76 (Ae.mk x77 x78 x79 x80) x81) x148).bind fun x160=>bif x160.1 then (some ((i64.wrap (x69+(1:Int))),x160.2)) else (self1 (i64.wrap (x69+(1:Int))) x160.2.marks x160.2.at_ x160.2.why x160.2.where_ x160.2.l.text x160.2.l.funcs x160.2.l.arity x160.2.l.nest x160.2.nest)) else ((Bt (AD.mk x70 x74 x75 x76 (Ae.mk x77 x78 x79 x80) x81) (21:Int)).bind fun x176=>some ((0:Int),x176))
def CP:Nat→Int→(List Af)→Int→Int→Int→Int→Int→Int→Int→Int→Option (Int×AD)
 |0=>fun _ _ _ _ _ _ _ _ _ _=>none
 |k+1=>DG (CP k)
def CQ(N:Nat)(ao0:AD):Option (Int×AD):=
 CP N (0:Int) ao0.marks ao0.at_ ao0.why ao0.where_ ao0.l.text ao0.l.funcs ao0.l.arity ao0.l.nest ao0.nest
def It(a0:Int)(a1 a2:AB)(a3:Af):Option (AB):=
 some (AB.mk a0 ([]:List UInt8) ([]:List UInt8) (0:Int) ((0,0):Nat×Nat) ([a1,a2]:List AB) a3.at_)
def Hx(a0:Bts):Option (Int):=
 bif (a0==([116,114,117,101]:List UInt8)) then (some (2:Int)) else (bif (a0==([102,97,108,115,101]:List UInt8)) then (some (3:Int)) else (bif (a0==([110,105,108]:List UInt8)) then (some (4:Int)) else (bif (a0==([102,97,105,108]:List UInt8)) then (some (5:Int)) else (bif (a0==([110,111,116]:List UInt8)) then (some (14:Int)) else (bif (a0==([114,101]:List UInt8)) then (some (15:Int)) else (bif (a0==([105,109]:List UInt8)) then (some (16:Int)) else (bif (a0==([99,111,110,106]:List UInt8)) then (some (17:Int)) else (some (0:Int)))))))))
structure AC where
 ref04_reader_expr:AD→Option (AB×AD)
 ref04_reader_cons:AD→Option (AB×AD)
 ref04_reader_parts:AD→(List Bts)→Option ((List AB)×AD)
 ref04_reader_branches:AD→AB→Option (AD×AB)
 ref04_reader_comp:AD→Option (AB×AD)
 ref04_reader_sum:AD→Option (AB×AD)
 ref04_reader_term:AD→Option (AB×AD)
 ref04_reader_unit:AD→Option (AB×AD)
 ref04_reader_named:AD→Af→Option (AB×AD)
def Ha(x384:(List Af))(x388 x389 x390 x391 x392 x393 x394 x396:Int)(x397 x398:Bts)(x399:Int)(x400:(Nat×Nat))(x401:(List AB))(x405 x422:Int):Option (AB×AD):=
 some ((AB.mk x396 x397 x398 x399 x400 x401 x405),(AD.mk x384 x388 x389 x390 (Ae.mk x391 x392 x393 x394) x422))
def En(x56:Bool)(x384:(List Af))(x388 x389 x390 x391 x392 x393 x394 x395 x396:Int)(x397 x398:Bts)(x399:Int)(x400:(Nat×Nat))(x401:(List AB))(x405:Int):Option (AB×AD):=
 bif x56 then (Ha x384 x388 x389 x390 x391 x392 x393 x394 x396 x397 x398 x399 x400 x401 x405 (i64.wrap (x395 - (1:Int)))) else (Ha x384 x388 x389 x390 x391 x392 x393 x394 x396 x397 x398 x399 x400 x401 x405 x395)
def Dg(φ:AC)(N:Nat)(x16:Af)(x56:Bool)(x90:(List Af))(x94 x95 x96 x97 x98 x99 x100 x167 x532:Int):Option (AB×AD):=
 (CM (AD.mk x90 (i64.wrap (x94+(1:Int))) x95 x96 (Ae.mk x97 x98 x99 x100) x167)).bind fun x540=>(CQ N x540.2).bind fun x574=>(φ.ref04_reader_parts x574.2 ([([61]:List UInt8),([105,110]:List UInt8)]:List Bts)).bind fun x610=>En x56 x610.2.marks x610.2.at_ x610.2.why x610.2.where_ x610.2.l.text x610.2.l.funcs x610.2.l.arity x610.2.l.nest x610.2.nest x532 x540.1.text ([]:List UInt8) x574.1 ((0,0):Nat×Nat) x610.1 x16.at_
def Dh(φ:AC)(N:Nat)(x16:Af)(x56:Bool)(x90:(List Af))(x94 x95 x96 x97 x98 x99 x100 x167:Int):Option (AB×AD):=
 bif (x16.text==([105,102]:List UInt8)) then ((φ.ref04_reader_parts (AD.mk x90 (i64.wrap (x94+(1:Int))) x95 x96 (Ae.mk x97 x98 x99 x100) x167) ([([]:List UInt8),([116,104,101,110]:List UInt8),([101,108,115,101]:List UInt8)]:List Bts)).bind fun x465=>En x56 x465.2.marks x465.2.at_ x465.2.why x465.2.where_ x465.2.l.text x465.2.l.funcs x465.2.l.arity x465.2.l.nest x465.2.nest (19:Int) ([]:List UInt8) ([]:List UInt8) (0:Int) ((0,0):Nat×Nat) x465.1 x16.at_) else (bif (x16.text==([99,97,115,101]:List UInt8)) then ((φ.ref04_reader_branches (AD.mk x90 (i64.wrap (x94+(1:Int))) x95 x96 (Ae.mk x97 x98 x99 x100) x167) (AB.mk (0:Int) ([]:List UInt8) ([]:List UInt8) (0:Int) ((0,0):Nat×Nat) [] x16.at_)).bind fun x497=>En x56 x497.1.marks x497.1.at_ x497.1.why x497.1.where_ x497.1.l.text x497.1.l.funcs x497.1.l.arity x497.1.l.nest x497.1.nest x497.2.op x497.2.name x497.2.tail x497.2.type_ x497.2.num x497.2.args x497.2.at_) else (bif (x16.text==([115,116,114,105,99,116]:List UInt8)) then (Dg φ N x16 x56 x90 x94 x95 x96 x97 x98 x99 x100 x167 (22:Int)) else (Dg φ N x16 x56 x90 x94 x95 x96 x97 x98 x99 x100 x167 (21:Int))))
def Di(φ:AC)(N:Nat)(x16:Af)(x56:Bool)(x90:(List Af))(x94 x95 x96 x97 x98 x99 x100 x101:Int)(x123:Bool):Option (AB×AD):=
 bif x123 then ((φ.ref04_reader_cons (AD.mk x90 x94 x95 x96 (Ae.mk x97 x98 x99 x100) x101)).bind fun x130=>some (x130.1,x130.2)) else (bif x56 then (Dh φ N x16 x56 x90 x94 x95 x96 x97 x98 x99 x100 (i64.wrap (x101+(1:Int)))) else (Dh φ N x16 x56 x90 x94 x95 x96 x97 x98 x99 x100 x101))
def Dj(φ:AC)(N:Nat)(x16:Af)(x56:Bool)(x90:(List Af))(x94 x95 x96 x97 x98 x99 x100 x101:Int):Option (AB×AD):=
 bif (x95 != (0:Int)) then (some ((AB.mk (0:Int) ([]:List UInt8) ([]:List UInt8) (0:Int) ((0,0):Nat×Nat) [] (0:Int)),(AD.mk x90 x94 x95 x96 (Ae.mk x97 x98 x99 x100) x101))) else (bif (!x56) then ((Bf (AD.mk x90 x94 x95 x96 (Ae.mk x97 x98 x99 x100) x101) ([105,102]:List UInt8)).bind fun x653=>Di φ N x16 x56 x90 x94 x95 x96 x97 x98 x99 x100 x101 (!x653)) else (Di φ N x16 x56 x90 x94 x95 x96 x97 x98 x99 x100 x101 false))
def Dk(φ:AC)(N:Nat)(ao0:AD)(x16:Af)(x56 x662:Bool):Option (AB×AD):=
 bif x662 then ((Bt ao0 (23:Int)).bind fun x669=>Dj φ N x16 x56 x669.marks x669.at_ x669.why x669.where_ x669.l.text x669.l.funcs x669.l.arity x669.l.nest x669.nest) else (Dj φ N x16 x56 ao0.marks ao0.at_ ao0.why ao0.where_ ao0.l.text ao0.l.funcs ao0.l.arity ao0.l.nest ao0.nest)
def DH(φ:AC)(N:Nat)(ao0:AD)(x16:Af)(x56:Bool):Option (AB×AD):=
 bif x56 then (Dk φ N ao0 x16 x56 (decide (ao0.nest≥ao0.l.nest))) else (Dk φ N ao0 x16 x56 false)
def Cy(φ:AC)(N:Nat)(ao0:AD):Option (AB×AD):=
 (BV ao0).bind fun x16=>(Bf ao0 ([108,101,116]:List UInt8)).bind fun x692=>bif x692 then (DH φ N ao0 x16 true) else ((Bf ao0 ([115,116,114,105,99,116]:List UInt8)).bind fun x700=>bif x700 then (DH φ N ao0 x16 true) else ((Bf ao0 ([99,97,115,101]:List UInt8)).bind fun x708=>DH φ N ao0 x16 x708))
def Cz(φ:AC)(_N:Nat)(ao0:AD):Option (AB×AD):=
 (φ.ref04_reader_comp ao0).bind fun x16=>(BV x16.2).bind fun x52=>(Bu x16.2 ([58]:List UInt8)).bind fun x71=>bif (!x71.1) then (some (x16.1,x71.2)) else ((φ.ref04_reader_cons x71.2).bind fun x97=>(It (18:Int) x16.1 x97.1 x52).bind fun x135=>some (x135,x97.2))
def DQ(φ:AC)(x175:(List AB))(x179:Int)(self1:((List AB)→Int→(List Af)→Int→Int→Int→Int→Int→Int→Int→Int→Option ((List AB)×AD)))(x398:(List Af))(x402 x403 x404 x405 x406 x407 x408 x409:Int):Option ((List AB)×AD):=
 (φ.ref04_reader_expr (AD.mk x398 x402 x403 x404 (Ae.mk x405 x406 x407 x408) x409)).bind fun x417=>(Ft 96 x175 ([x417.1]:List AB)).bind fun _=>self1 (x175++([x417.1]:List AB)) (i64.wrap (x179+(1:Int))) x417.2.marks x417.2.at_ x417.2.why x417.2.where_ x417.2.l.text x417.2.l.funcs x417.2.l.arity x417.2.l.nest x417.2.nest
def Cd(φ:AC)(a1:(List Bts))(self1:(List AB)→Int→(List Af)→Int→Int→Int→Int→Int→Int→Int→Int→Option ((List AB)×AD))(x175:(List AB))(x179:Int)(x180:(List Af))(x184 x185 x186 x187 x188 x189 x190 x191:Int):Option ((List AB)×AD):=
 bif (decide (x179< (a1.length:Int))) then ((idx a1 x179).bind fun x476=>bif (!(x476==([]:List UInt8))) then ((A2 (AD.mk x180 x184 x185 x186 (Ae.mk x187 x188 x189 x190) x191) x476).bind fun x489=>DQ φ x175 x179 self1 x489.marks x489.at_ x489.why x489.where_ x489.l.text x489.l.funcs x489.l.arity x489.l.nest x489.nest) else (DQ φ x175 x179 self1 x180 x184 x185 x186 x187 x188 x189 x190 x191)) else (some (x175,(AD.mk x180 x184 x185 x186 (Ae.mk x187 x188 x189 x190) x191)))
def Bj(φ:AC)(a1:(List Bts)):Nat→(List AB)→Int→(List Af)→Int→Int→Int→Int→Int→Int→Int→Int→Option ((List AB)×AD)
 |0=>fun _ _ _ _ _ _ _ _ _ _ _=>none
 |k+1=>Cd φ a1 (Bj φ a1 k)
def Ci(φ:AC)(N:Nat)(ao0:AD)(a1:(List Bts)):Option ((List AB)×AD):=
 Bj φ a1 N ([]:List AB) (0:Int) ao0.marks ao0.at_ ao0.why ao0.where_ ao0.l.text ao0.l.funcs ao0.l.arity ao0.l.nest ao0.nest
def B6(φ:AC)(_N:Nat)(ao0:AD)(ao1:AB):Option (AD×AB):=
 (φ.ref04_reader_expr ao0).bind fun x21=>(A2 x21.2 ([111,102]:List UInt8)).bind fun x57=>(A2 x57 ([110,105,108]:List UInt8)).bind fun x72=>(A2 x72 ([45,62]:List UInt8)).bind fun x87=>(φ.ref04_reader_expr x87).bind fun x102=>(A2 x102.2 ([124]:List UInt8)).bind fun x138=>(CM x138).bind fun x153=>(A2 x153.2 ([58]:List UInt8)).bind fun x182=>(CM x182).bind fun x197=>(A2 x197.2 ([45,62]:List UInt8)).bind fun x226=>(φ.ref04_reader_expr x226).bind fun x241=>some (x241.2,(AB.mk (20:Int) x153.1.text x197.1.text ao1.type_ ao1.num ([x21.1,x102.1,x241.1]:List AB) ao1.at_))
def EF(φ:AC)(x16:(AB×AD))(x52:Af)(x77:Int)(x114:Bool)(x115:(List Af))(x119 x120 x121 x122 x123 x124 x125 x126:Int):Option (AB×AD):=
 bif x114 then (some (x16.1,(AD.mk x115 x119 x120 x121 (Ae.mk x122 x123 x124 x125) x126))) else ((φ.ref04_reader_sum (AD.mk x115 x119 x120 x121 (Ae.mk x122 x123 x124 x125) x126)).bind fun x145=>(It x77 x16.1 x145.1 x52).bind fun x183=>some (x183,x145.2))
def Dl(φ:AC)(x16:(AB×AD))(x52:Af)(x77:Int):Option (AB×AD):=
 (Bu x16.2 ([61,61]:List UInt8)).bind fun x206=>bif (!x206.1) then ((Bu x206.2 ([60]:List UInt8)).bind fun x222=>EF φ x16 x52 x77 (!x222.1) x222.2.marks x222.2.at_ x222.2.why x222.2.where_ x222.2.l.text x222.2.l.funcs x222.2.l.arity x222.2.l.nest x222.2.nest) else (EF φ x16 x52 x77 false x206.2.marks x206.2.at_ x206.2.why x206.2.where_ x206.2.l.text x206.2.l.funcs x206.2.l.arity x206.2.l.nest x206.2.nest)
def C7(φ:AC)(_N:Nat)(ao0:AD):Option (AB×AD):=
 (φ.ref04_reader_sum ao0).bind fun x16=>(BV x16.2).bind fun x52=>(Bf x16.2 ([60]:List UInt8)).bind fun x239=>bif x239 then (Dl φ x16 x52 (13:Int)) else (Dl φ x16 x52 (12:Int))
def Dz(x212:Int)(x213 x214:Bts)(x215:Int)(x216:(Nat×Nat))(x217:(List AB))(x221:Int)(self1:((List Af)→Int→Int→Int→Int→Int→Int→Int→Int→Int→Bts→Bts→Int→(Nat×Nat)→(List AB)→Int→Option (AB×AD)))(x408:Af)(x431:(AB×AD))(x467:Int):Option (AB×AD):=
 (It x467 (AB.mk x212 x213 x214 x215 x216 x217 x221) x431.1 x408).bind fun x476=>self1 x431.2.marks x431.2.at_ x431.2.why x431.2.where_ x431.2.l.text x431.2.l.funcs x431.2.l.arity x431.2.l.nest x431.2.nest x476.op x476.name x476.tail x476.type_ x476.num x476.args x476.at_
def D0(φ:AC)(x200:(List Af))(x204 x205 x206 x207 x208 x209 x210 x211 x212:Int)(x213 x214:Bts)(x215:Int)(x216:(Nat×Nat))(x217:(List AB))(x221:Int)(self1:((List Af)→Int→Int→Int→Int→Int→Int→Int→Int→Int→Bts→Bts→Int→(Nat×Nat)→(List AB)→Int→Option (AB×AD)))(x401:Bool):Option (AB×AD):=
 bif x401 then ((BV (AD.mk x200 x204 x205 x206 (Ae.mk x207 x208 x209 x210) x211)).bind fun x408=>(φ.ref04_reader_term (AD.mk x200 (i64.wrap (x204+(1:Int))) x205 x206 (Ae.mk x207 x208 x209 x210) x211)).bind fun x431=>bif (x408.text==([45]:List UInt8)) then (Dz x212 x213 x214 x215 x216 x217 x221 self1 x408 x431 (9:Int)) else (Dz x212 x213 x214 x215 x216 x217 x221 self1 x408 x431 (8:Int))) else (some ((AB.mk x212 x213 x214 x215 x216 x217 x221),(AD.mk x200 x204 x205 x206 (Ae.mk x207 x208 x209 x210) x211)))
def DI(φ:AC)(self1:(List Af)→Int→Int→Int→Int→Int→Int→Int→Int→Int→Bts→Bts→Int→(Nat×Nat)→(List AB)→Int→Option (AB×AD))(x200:(List Af))(x204 x205 x206 x207 x208 x209 x210 x211 x212:Int)(x213 x214:Bts)(x215:Int)(x216:(Nat×Nat))(x217:(List AB))(x221:Int):Option (AB×AD):=
 (Bf (AD.mk x200 x204 x205 x206 (Ae.mk x207 x208 x209 x210) x211) ([43]:List UInt8)).bind fun x509=>bif x509 then (D0 φ x200 x204 x205 x206 x207 x208 x209 x210 x211 x212 x213 x214 x215 x216 x217 x221 self1 true) else ((Bf (AD.mk x200 x204 x205 x206 (Ae.mk x207 x208 x209 x210) x211) ([45]:List UInt8)).bind fun x517=>D0 φ x200 x204 x205 x206 x207 x208 x209 x210 x211 x212 x213 x214 x215 x216 x217 x221 self1 x517)
def Bq(φ:AC):Nat→(List Af)→Int→Int→Int→Int→Int→Int→Int→Int→Int→Bts→Bts→Int→(Nat×Nat)→(List AB)→Int→Option (AB×AD)
 |0=>fun _ _ _ _ _ _ _ _ _ _ _ _ _ _ _ _=>none
 |k+1=>DI φ (Bq φ k)
def DP(φ:AC)(N:Nat)(ao0:AD):Option (AB×AD):=
 (φ.ref04_reader_term ao0).bind fun x16=>Bq φ N x16.2.marks x16.2.at_ x16.2.why x16.2.where_ x16.2.l.text x16.2.l.funcs x16.2.l.arity x16.2.l.nest x16.2.nest x16.1.op x16.1.name x16.1.tail x16.1.type_ x16.1.num x16.1.args x16.1.at_
def Dm(x212:Int)(x213 x214:Bts)(x215:Int)(x216:(Nat×Nat))(x217:(List AB))(x221:Int)(self1:((List Af)→Int→Int→Int→Int→Int→Int→Int→Int→Int→Bts→Bts→Int→(Nat×Nat)→(List AB)→Int→Option (AB×AD)))(x408:Af)(x431:(AB×AD))(x467:Int):Option (AB×AD):=
 (It x467 (AB.mk x212 x213 x214 x215 x216 x217 x221) x431.1 x408).bind fun x476=>self1 x431.2.marks x431.2.at_ x431.2.why x431.2.where_ x431.2.l.text x431.2.l.funcs x431.2.l.arity x431.2.l.nest x431.2.nest x476.op x476.name x476.tail x476.type_ x476.num x476.args x476.at_
def Dn(φ:AC)(x200:(List Af))(x204 x205 x206 x207 x208 x209 x210 x211 x212:Int)(x213 x214:Bts)(x215:Int)(x216:(Nat×Nat))(x217:(List AB))(x221:Int)(self1:((List Af)→Int→Int→Int→Int→Int→Int→Int→Int→Int→Bts→Bts→Int→(Nat×Nat)→(List AB)→Int→Option (AB×AD)))(x401:Bool):Option (AB×AD):=
 bif x401 then ((BV (AD.mk x200 x204 x205 x206 (Ae.mk x207 x208 x209 x210) x211)).bind fun x408=>(φ.ref04_reader_unit (AD.mk x200 (i64.wrap (x204+(1:Int))) x205 x206 (Ae.mk x207 x208 x209 x210) x211)).bind fun x431=>bif (x408.text==([47]:List UInt8)) then (Dm x212 x213 x214 x215 x216 x217 x221 self1 x408 x431 (11:Int)) else (Dm x212 x213 x214 x215 x216 x217 x221 self1 x408 x431 (10:Int))) else (some ((AB.mk x212 x213 x214 x215 x216 x217 x221),(AD.mk x200 x204 x205 x206 (Ae.mk x207 x208 x209 x210) x211)))
def Ct(φ:AC)(self1:(List Af)→Int→Int→Int→Int→Int→Int→Int→Int→Int→Bts→Bts→Int→(Nat×Nat)→(List AB)→Int→Option (AB×AD))(x200:(List Af))(x204 x205 x206 x207 x208 x209 x210 x211 x212:Int)(x213 x214:Bts)(x215:Int)(x216:(Nat×Nat))(x217:(List AB))(x221:Int):Option (AB×AD):=
 (Bf (AD.mk x200 x204 x205 x206 (Ae.mk x207 x208 x209 x210) x211) ([42]:List UInt8)).bind fun x509=>bif x509 then (Dn φ x200 x204 x205 x206 x207 x208 x209 x210 x211 x212 x213 x214 x215 x216 x217 x221 self1 true) else ((Bf (AD.mk x200 x204 x205 x206 (Ae.mk x207 x208 x209 x210) x211) ([47]:List UInt8)).bind fun x517=>Dn φ x200 x204 x205 x206 x207 x208 x209 x210 x211 x212 x213 x214 x215 x216 x217 x221 self1 x517)
def Bg(φ:AC):Nat→(List Af)→Int→Int→Int→Int→Int→Int→Int→Int→Int→Bts→Bts→Int→(Nat×Nat)→(List AB)→Int→Option (AB×AD)
 |0=>fun _ _ _ _ _ _ _ _ _ _ _ _ _ _ _ _=>none
 |k+1=>Ct φ (Bg φ k)
def C8(φ:AC)(N:Nat)(ao0:AD):Option (AB×AD):=
 (φ.ref04_reader_unit ao0).bind fun x16=>Bg φ N x16.2.marks x16.2.at_ x16.2.why x16.2.where_ x16.2.l.text x16.2.l.funcs x16.2.l.arity x16.2.l.nest x16.2.nest x16.1.op x16.1.name x16.1.tail x16.1.type_ x16.1.num x16.1.args x16.1.at_
def F9(x247:Int)(x248 x249:Bts)(x251:(Nat×Nat))(x252:Int)(x377:(List Af))(x381 x382 x383 x384 x385 x386 x387 x388 x389:Int)(x390:(List AB)):Option (AB×AD):=
 some ((AB.mk x247 x248 x249 x389 x251 x390 x252),(AD.mk x377 x381 x382 x383 (Ae.mk x384 x385 x386 x387) x388))
def CS(φ:AC)(x94:(Bool×AD))(x247:Int)(x248 x249:Bts)(x250:Int)(x251:(Nat×Nat))(x252:Int)(x446:Bool):Option (AB×AD):=
 bif x446 then ((A2 (AD.mk x94.2.marks (i64.wrap (x94.2.at_+(1:Int))) x94.2.why x94.2.where_ (Ae.mk x94.2.l.text x94.2.l.funcs x94.2.l.arity x94.2.l.nest) x94.2.nest) ([40]:List UInt8)).bind fun x453=>(φ.ref04_reader_expr x453).bind fun x468=>(A2 x468.2 ([41]:List UInt8)).bind fun x504=>F9 x247 x248 x249 x251 x252 x504.marks x504.at_ x504.why x504.where_ x504.l.text x504.l.funcs x504.l.arity x504.l.nest x504.nest x250 ([x468.1]:List AB)) else (F9 x247 x248 x249 x251 x252 x94.2.marks (i64.wrap (x94.2.at_+(1:Int))) x94.2.why x94.2.where_ x94.2.l.text x94.2.l.funcs x94.2.l.arity x94.2.l.nest x94.2.nest x250 ([]:List AB))
def Eo(φ:AC)(N:Nat)(x94:(Bool×AD))(x247:Int)(x248 x249:Bts)(x250:Int)(x251:(Nat×Nat))(x252:Int):Option (AB×AD):=
 bif (x247==(5:Int)) then ((CQ N (AD.mk x94.2.marks (i64.wrap (x94.2.at_+(1:Int))) x94.2.why x94.2.where_ (Ae.mk x94.2.l.text x94.2.l.funcs x94.2.l.arity x94.2.l.nest) x94.2.nest)).bind fun x421=>F9 x247 x248 x249 x251 x252 x421.2.marks x421.2.at_ x421.2.why x421.2.where_ x421.2.l.text x421.2.l.funcs x421.2.l.arity x421.2.l.nest x421.2.nest x421.1 ([]:List AB)) else (bif (x247==(14:Int)) then (CS φ x94 x247 x248 x249 x250 x251 x252 (x247==(14:Int))) else (bif (x247==(15:Int)) then (CS φ x94 x247 x248 x249 x250 x251 x252 (x247==(15:Int))) else (bif (x247==(16:Int)) then (CS φ x94 x247 x248 x249 x250 x251 x252 (x247==(16:Int))) else (CS φ x94 x247 x248 x249 x250 x251 x252 (x247==(17:Int))))))
def DJ(φ:AC)(N:Nat)(x16:Af)(x94:(Bool×AD))(x178:Bool):Option (AB×AD):=
 bif x178 then ((Bt x94.2 (21:Int)).bind fun x185=>some ((AB.mk (0:Int) ([]:List UInt8) ([]:List UInt8) (0:Int) ((0,0):Nat×Nat) [] (0:Int)),x185)) else ((Hx x16.text).bind fun x548=>Eo φ N x94 x548 ([]:List UInt8) ([]:List UInt8) (0:Int) ((0,0):Nat×Nat) x16.at_)
def C9(φ:AC)(N:Nat)(ao0:AD):Option (AB×AD):=
 (BV ao0).bind fun x16=>bif (ao0.why != (0:Int)) then (some ((AB.mk (0:Int) ([]:List UInt8) ([]:List UInt8) (0:Int) ((0,0):Nat×Nat) [] (0:Int)),ao0)) else (bif (x16.kind==(2:Int)) then (some ((AB.mk (1:Int) ([]:List UInt8) ([]:List UInt8) (0:Int) x16.num [] x16.at_),(AD.mk ao0.marks (i64.wrap (ao0.at_+(1:Int))) ao0.why ao0.where_ (Ae.mk ao0.l.text ao0.l.funcs ao0.l.arity ao0.l.nest) ao0.nest))) else (bif (x16.kind==(0:Int)) then ((φ.ref04_reader_named (AD.mk ao0.marks (i64.wrap (ao0.at_+(1:Int))) ao0.why ao0.where_ (Ae.mk ao0.l.text ao0.l.funcs ao0.l.arity ao0.l.nest) ao0.nest) x16).bind fun x62=>some (x62.1,x62.2)) else ((Bu ao0 ([40]:List UInt8)).bind fun x94=>bif x94.1 then ((φ.ref04_reader_expr x94.2).bind fun x110=>(A2 x110.2 ([41]:List UInt8)).bind fun x146=>some (x110.1,x146)) else (bif (x16.kind != (1:Int)) then (DJ φ N x16 x94 true) else ((Hx x16.text).bind fun x581=>DJ φ N x16 x94 (x581==(0:Int)))))))
def DR(φ:AC)(x231:(List AB))(self1:((List Af)→Int→Int→Int→Int→Int→Int→Int→Int→(List AB)→Option (AB×AD)))(x455:(List Af))(x459 x460 x461 x462 x463 x464 x465 x466:Int):Option (AB×AD):=
 (φ.ref04_reader_expr (AD.mk x455 x459 x460 x461 (Ae.mk x462 x463 x464 x465) x466)).bind fun x474=>(Ft 96 x231 ([x474.1]:List AB)).bind fun _=>self1 x474.2.marks x474.2.at_ x474.2.why x474.2.where_ x474.2.l.text x474.2.l.funcs x474.2.l.arity x474.2.l.nest x474.2.nest (x231++([x474.1]:List AB))
def DS(φ:AC)(a1:Af)(x219:(List Af))(x223 x224 x225 x226 x227 x228 x229 x230:Int)(x231:(List AB))(self1:((List Af)→Int→Int→Int→Int→Int→Int→Int→Int→(List AB)→Option (AB×AD)))(x427:Bool):Option (AB×AD):=
 bif x427 then (bif (decide ((x231.length:Int)>(0:Int))) then ((A2 (AD.mk x219 x223 x224 x225 (Ae.mk x226 x227 x228 x229) x230) ([44]:List UInt8)).bind fun x548=>DR φ x231 self1 x548.marks x548.at_ x548.why x548.where_ x548.l.text x548.l.funcs x548.l.arity x548.l.nest x548.nest) else (DR φ x231 self1 x219 x223 x224 x225 x226 x227 x228 x229 x230)) else ((A2 (AD.mk x219 x223 x224 x225 (Ae.mk x226 x227 x228 x229) x230) ([41]:List UInt8)).bind fun x567=>some ((AB.mk (7:Int) a1.text ([]:List UInt8) (0:Int) ((0,0):Nat×Nat) x231 a1.at_),x567))
def Ce(φ:AC)(a1:Af)(self1:(List Af)→Int→Int→Int→Int→Int→Int→Int→Int→(List AB)→Option (AB×AD))(x219:(List Af))(x223 x224 x225 x226 x227 x228 x229 x230:Int)(x231:(List AB)):Option (AB×AD):=
 bif (x224==(0:Int)) then ((Bf (AD.mk x219 x223 x224 x225 (Ae.mk x226 x227 x228 x229) x230) ([41]:List UInt8)).bind fun x598=>DS φ a1 x219 x223 x224 x225 x226 x227 x228 x229 x230 x231 self1 (!x598)) else (DS φ a1 x219 x223 x224 x225 x226 x227 x228 x229 x230 x231 self1 false)
def Be(φ:AC)(a1:Af):Nat→(List Af)→Int→Int→Int→Int→Int→Int→Int→Int→(List AB)→Option (AB×AD)
 |0=>fun _ _ _ _ _ _ _ _ _ _=>none
 |k+1=>Ce φ a1 (Be φ a1 k)
def Cj(φ:AC)(N:Nat)(ao0:AD)(a1:Af):Option (AB×AD):=
 (Bu ao0 ([40]:List UInt8)).bind fun x22=>bif (!x22.1) then (some ((AB.mk (6:Int) a1.text ([]:List UInt8) (0:Int) ((0,0):Nat×Nat) [] a1.at_),x22.2)) else (Be φ a1 N x22.2.marks x22.2.at_ x22.2.why x22.2.where_ x22.2.l.text x22.2.l.funcs x22.2.l.arity x22.2.l.nest x22.2.nest ([]:List AB))
def AC.at:Nat→AC
 |0=>⟨fun _=>none,fun _=>none,fun _ _=>none,fun _ _=>none,fun _=>none,fun _=>none,fun _=>none,fun _=>none,fun _ _=>none⟩
 |n+1=>⟨Cy (AC.at n) n,Cz (AC.at n) n,Ci (AC.at n) n,B6 (AC.at n) n,C7 (AC.at n) n,DP (AC.at n) n,C8 (AC.at n) n,C9 (AC.at n) n,Cj (AC.at n) n⟩
def ref04_reader_expr(N:Nat):AD→Option (AB×AD):=(AC.at N).ref04_reader_expr
def ref04_reader_cons(N:Nat):AD→Option (AB×AD):=(AC.at N).ref04_reader_cons
def ref04_reader_parts(N:Nat):AD→(List Bts)→Option ((List AB)×AD):=(AC.at N).ref04_reader_parts
def ref04_reader_branches(N:Nat):AD→AB→Option (AD×AB):=(AC.at N).ref04_reader_branches
def ref04_reader_comp(N:Nat):AD→Option (AB×AD):=(AC.at N).ref04_reader_comp
def ref04_reader_sum(N:Nat):AD→Option (AB×AD):=(AC.at N).ref04_reader_sum
def ref04_reader_term(N:Nat):AD→Option (AB×AD):=(AC.at N).ref04_reader_term
def ref04_reader_unit(N:Nat):AD→Option (AB×AD):=(AC.at N).ref04_reader_unit
def ref04_reader_named(N:Nat):AD→Af→Option (AB×AD):=(AC.at N).ref04_reader_named
def D1(N:Nat)(x432:(List AK))(self1:((List Af)→Int→Int→Int→Int→Int→Int→Int→Int→(List AK)→Option (AE×AD)))(x868:(List Af))(x872 x873 x874 x875 x876 x877 x878 x879:Int):Option (AE×AD):=
 (CM (AD.mk x868 x872 x873 x874 (Ae.mk x875 x876 x877 x878) x879)).bind fun x887=>(CQ N x887.2).bind fun x916=>(Ft 32 x432 ([(AK.mk x887.1.text x916.1 x887.1.at_)]:List AK)).bind fun _=>self1 x916.2.marks x916.2.at_ x916.2.why x916.2.where_ x916.2.l.text x916.2.l.funcs x916.2.l.arity x916.2.l.nest x916.2.nest (x432++([(AK.mk x887.1.text x916.1 x887.1.at_)]:List AK))
def DW(N:Nat)(x432:(List AK))(self1:((List Af)→Int→Int→Int→Int→Int→Int→Int→Int→(List AK)→Option (AE×AD)))(x795:(List Af))(x799 x800 x801 x802 x803 x804 x805 x806:Int)(x979:Bool):Option (AE×AD):=
 bif x979 then ((Bt (AD.mk x795 x799 x800 x801 (Ae.mk x802 x803 x804 x805) x806) (22:Int)).bind fun x986=>D1 N x432 self1 x986.marks x986.at_ x986.why x986.where_ x986.l.text x986.l.funcs x986.l.arity x986.l.nest x986.nest) else (D1 N x432 self1 x795 x799 x800 x801 x802 x803 x804 x805 x806)
def D2(N:Nat)(x432:(List AK))(self1:((List Af)→Int→Int→Int→Int→Int→Int→Int→Int→(List AK)→Option (AE×AD)))(x795:(List Af))(x799 x800 x801 x802 x803 x804 x805 x806:Int):Option (AE×AD):=
 bif (x800==(0:Int)) then ((BV (AD.mk x795 x799 x800 x801 (Ae.mk x802 x803 x804 x805) x806)).bind fun x1008=>bif (x1008.kind==(0:Int)) then (DW N x432 self1 x795 x799 x800 x801 x802 x803 x804 x805 x806 (decide ((x432.length:Int)≥x804))) else (DW N x432 self1 x795 x799 x800 x801 x802 x803 x804 x805 x806 false)) else (DW N x432 self1 x795 x799 x800 x801 x802 x803 x804 x805 x806 false)
def DX(N:Nat)(x77:(Af×AD))(x420:(List Af))(x424 x425 x426 x427 x428 x429 x430 x431:Int)(x432:(List AK))(self1:((List Af)→Int→Int→Int→Int→Int→Int→Int→Int→(List AK)→Option (AE×AD)))(x767:Bool):Option (AE×AD):=
 bif x767 then (bif (decide ((x432.length:Int)>(0:Int))) then ((A2 (AD.mk x420 x424 x425 x426 (Ae.mk x427 x428 x429 x430) x431) ([44]:List UInt8)).bind fun x1027=>D2 N x432 self1 x1027.marks x1027.at_ x1027.why x1027.where_ x1027.l.text x1027.l.funcs x1027.l.arity x1027.l.nest x1027.nest) else (D2 N x432 self1 x420 x424 x425 x426 x427 x428 x429 x430 x431)) else ((A2 (AD.mk x420 x424 x425 x426 (Ae.mk x427 x428 x429 x430) x431) ([41]:List UInt8)).bind fun x1046=>(A2 x1046 ([58]:List UInt8)).bind fun x1061=>(CQ N x1061).bind fun x1076=>(A2 x1076.2 ([61]:List UInt8)).bind fun x1098=>(ref04_reader_expr N x1098).bind fun x1113=>(A2 x1113.2 ([59]:List UInt8)).bind fun x1143=>some ((AE.mk x77.1.text x432 x1076.1 x1113.1 x77.1.at_),x1143))
def DK(N:Nat)(x77:(Af×AD))(self1:(List Af)→Int→Int→Int→Int→Int→Int→Int→Int→(List AK)→Option (AE×AD))(x420:(List Af))(x424 x425 x426 x427 x428 x429 x430 x431:Int)(x432:(List AK)):Option (AE×AD):=
 bif (x425==(0:Int)) then ((Bf (AD.mk x420 x424 x425 x426 (Ae.mk x427 x428 x429 x430) x431) ([41]:List UInt8)).bind fun x1176=>DX N x77 x420 x424 x425 x426 x427 x428 x429 x430 x431 x432 self1 (!x1176)) else (DX N x77 x420 x424 x425 x426 x427 x428 x429 x430 x431 x432 self1 false)
def Bd(N:Nat)(x77:(Af×AD)):Nat→(List Af)→Int→Int→Int→Int→Int→Int→Int→Int→(List AK)→Option (AE×AD)
 |0=>fun _ _ _ _ _ _ _ _ _ _=>none
 |k+1=>DK N x77 (Bd N x77 k)
def D3(N:Nat)(x58:(List Af))(x62 x63 x64 x65 x66 x67 x68 x69:Int):Option (AE×AD):=
 (CM (AD.mk x58 x62 x63 x64 (Ae.mk x65 x66 x67 x68) x69)).bind fun x77=>(A2 x77.2 ([40]:List UInt8)).bind fun x116=>Bd N x77 N x116.marks x116.at_ x116.why x116.where_ x116.l.text x116.l.funcs x116.l.arity x116.l.nest x116.nest ([]:List AK)
def D4(N:Nat)(ao0:AD)(x1193:Bool):Option (AE×AD):=
 bif x1193 then ((Bt ao0 (22:Int)).bind fun x1200=>D3 N x1200.marks x1200.at_ x1200.why x1200.where_ x1200.l.text x1200.l.funcs x1200.l.arity x1200.l.nest x1200.nest) else (D3 N ao0.marks ao0.at_ ao0.why ao0.where_ ao0.l.text ao0.l.funcs ao0.l.arity ao0.l.nest ao0.nest)
def Cs(N:Nat)(ao0:AD)(a1:Int):Option (AE×AD):=
 (BV ao0).bind fun x1219=>bif (x1219.kind==(0:Int)) then (D4 N ao0 (decide (a1≥ao0.l.funcs))) else (D4 N ao0 false)
def B7(N:Nat)(x142:(List Af))(x146 x147 x148 x149 x150 x151 x152 x153:Int)(x154:(List AE))(self1:((List Af)→Int→Int→Int→Int→Int→Int→Int→Int→(List AE)→Option (AM×AD)))(x316:Bool):Option (AM×AD):=
 bif x316 then ((Cs N (AD.mk x142 x146 x147 x148 (Ae.mk x149 x150 x151 x152) x153) (x154.length:Int)).bind fun x328=>(Ft 152 x154 ([x328.1]:List AE)).bind fun _=>self1 x328.2.marks x328.2.at_ x328.2.why x328.2.where_ x328.2.l.text x328.2.l.funcs x328.2.l.arity x328.2.l.nest x328.2.nest (x154++([x328.1]:List AE))) else (some ((AM.mk x154),(AD.mk x142 x146 x147 x148 (Ae.mk x149 x150 x151 x152) x153)))
def CK(N:Nat)(self1:(List Af)→Int→Int→Int→Int→Int→Int→Int→Int→(List AE)→Option (AM×AD))(x142:(List Af))(x146 x147 x148 x149 x150 x151 x152 x153:Int)(x154:(List AE)):Option (AM×AD):=
 bif (x147==(0:Int)) then (bif ((x154.length:Int)==(0:Int)) then (B7 N x142 x146 x147 x148 x149 x150 x151 x152 x153 x154 self1 true) else ((BV (AD.mk x142 x146 x147 x148 (Ae.mk x149 x150 x151 x152) x153)).bind fun x422=>B7 N x142 x146 x147 x148 x149 x150 x151 x152 x153 x154 self1 (x422.kind != (4:Int)))) else (B7 N x142 x146 x147 x148 x149 x150 x151 x152 x153 x154 self1 false)
def BR(N:Nat):Nat→(List Af)→Int→Int→Int→Int→Int→Int→Int→Int→(List AE)→Option (AM×AD)
 |0=>fun _ _ _ _ _ _ _ _ _ _=>none
 |k+1=>CK N (BR N k)
def Bv(N:Nat)(ao0:AD):Option (AM×AD):=
 BR N N ao0.marks ao0.at_ ao0.why ao0.where_ ao0.l.text ao0.l.funcs ao0.l.arity ao0.l.nest ao0.nest ([]:List AE)
def Fe(N:Nat)(a0:Bts)(a1:Ae):Option (AM×AF):=
 bif (decide ((a0.length:Int)>(if (32768:Int)< (if a1.text< (0:Int) then (0:Int) else a1.text) then (32768:Int) else (if a1.text< (0:Int) then (0:Int) else a1.text)))) then (some ((AM.mk []),(AF.mk (22:Int) (if (32768:Int)< (if a1.text< (0:Int) then (0:Int) else a1.text) then (32768:Int) else (if a1.text< (0:Int) then (0:Int) else a1.text))))) else ((F7 N a0).bind fun x54=>bif (decide (x54.2≥(0:Int))) then (some ((AM.mk []),(AF.mk (20:Int) x54.2))) else ((Bv N (AD.mk x54.1 (0:Int) (0:Int) (0:Int) (Ae.mk (if (32768:Int)< (if a1.text< (0:Int) then (0:Int) else a1.text) then (32768:Int) else (if a1.text< (0:Int) then (0:Int) else a1.text)) a1.funcs a1.arity a1.nest) (0:Int))).bind fun x85=>bif (x85.2.why != (0:Int)) then (some ((AM.mk []),(AF.mk x85.2.why x85.2.where_))) else (some (x85.1,(AF.mk (0:Int) (0:Int))))))
def Hb(x166:Int)(self1:((List Bts)→Int→Int→Option ((List Bts))))(x410:(List Bts))(x414:Int):Option ((List Bts)):=
 self1 x410 x414 (i64.wrap (x166+(1:Int)))
def Hc(x166:Int)(self1:((List Bts)→Int→Int→Option ((List Bts))))(x454:(List Bts)):Option ((List Bts)):=
 Hb x166 self1 x454 (i64.wrap (x166+(1:Int)))
def GW(a0:Bts)(x161:(List Bts))(x165 x166:Int)(self1:((List Bts)→Int→Int→Option ((List Bts))))(x423:Bool):Option ((List Bts)):=
 bif x423 then (Hb x166 self1 x161 x165) else (bif (decide (x166>x165)) then ((sub a0 x165 x166).bind fun x464=>(Ft 16 x161 ([x464]:List Bts)).bind fun _=>Hc x166 self1 (x161++([x464]:List Bts))) else (Hc x166 self1 x161))
def FD(a0:Bts)(self1:(List Bts)→Int→Int→Option ((List Bts)))(x161:(List Bts))(x165 x166:Int):Option ((List Bts)):=
 bif (decide (x166≤(a0.length:Int))) then (bif (decide (x166< (a0.length:Int))) then ((idx a0 x166).bind fun x490=>GW a0 x161 x165 x166 self1 (((x490).toNat:Int) != (((32:UInt8)).toNat:Int))) else (GW a0 x161 x165 x166 self1 false)) else (some x161)
def EM(a0:Bts):Nat→(List Bts)→Int→Int→Option ((List Bts))
 |0=>fun _ _ _=>none
 |k+1=>FD a0 (EM a0 k)
def GA(N:Nat)(a0:Bts):Option ((List Bts)):=
 EM a0 N ([]:List Bts) (0:Int) (0:Int)
def HN(a0:Nat)(x6:Bool):Option (Int×Bool):=
 bif x6 then (some ((0:Int),false)) else ((f2i .i64 a0).bind fun x11=>some (x11,(feq (FloatKind.f64.nearest x11) a0)))
def Hy(a0:Nat):Option (Int×Bool):=
 bif (fge a0 (13938640846711685120:Nat)) then (bif (!(fle a0 (4715268809856909312:Nat))) then (HN a0 true) else (bif (feq a0 (0:Nat)) then (HN a0 (((a0:Nat):Int) != (0:Int))) else (HN a0 false))) else (bif (!false) then (HN a0 true) else (bif (feq a0 (0:Nat)) then (HN a0 (((a0:Nat):Int) != (0:Int))) else (HN a0 false)))
def M5(x7:(Int×Bool))(x12:(Int×Bool))(x18:Bool):Option (Aj×Bool):=
 bif x18 then (some ((Aj.mk (0:Int) (0:Int)),false)) else (some ((Aj.mk x7.1 x12.1),true))
def Ed(a0:(Nat×Nat)):Option (Aj×Bool):=
 (Hy a0.1).bind fun x7=>(Hy a0.2).bind fun x12=>bif (!x7.2) then (M5 x7 x12 true) else (M5 x7 x12 (!x12.2))
def Hd(x106:Int)(self1:(Bool→Int→Option (Bool)))(x222:Bool):Option (Bool):=
 self1 x222 (i64.wrap (x106+(1:Int)))
def JT(x262:Bool):Option (Bool):=
 some x262
def JU(x277:Bool):Option (Bool):=
 some x277
def JV(x289:Bool):Option (Bool):=
 some x289
def FE(a0:AI)(self1:Bool→Int→Option (Bool))(x105:Bool)(x106:Int):Option (Bool):=
 bif (decide (x106< (a0.list.length:Int))) then ((idx a0.list x106).bind fun x226=>(Ed x226).bind fun x238=>bif x105 then (Hd x106 self1 x238.2) else (Hd x106 self1 false)) else (bif (a0.type_==(1:Int)) then (bif x105 then (bif (!a0.bool) then (JT ((a0.list.length:Int)==(0:Int))) else (JT false)) else (JT false)) else (bif (a0.type_==(2:Int)) then (bif x105 then (bif (ceq a0.num ((0,0):Nat×Nat)) then (JU ((a0.list.length:Int)==(0:Int))) else (JU false)) else (JU false)) else (bif (a0.type_==(3:Int)) then (bif x105 then (bif (ceq a0.num ((0,0):Nat×Nat)) then (JV (!a0.bool)) else (JV false)) else (JV false)) else (some false))))
def Ep(a0:AI):Nat→Bool→Int→Option (Bool)
 |0=>fun _ _=>none
 |k+1=>FE a0 (Ep a0 k)
def B8(N:Nat)(a0:AI):Option (Bool):=
 (Ed a0.num).bind fun x13=>Ep a0 N x13.2 (0:Int)
def EG(N:Nat)(a0:(Nat×Nat)):Option (Bts):=
 (Ed a0).bind fun x1=>(F4 N x1.1).bind fun x18=>some x18
def HO(N:Nat)(a0:AI)(x133:Int)(self1:(Bts→Int→Option (Bts×Int)))(x271:Bts):Option (Bts×Int):=
 (idx a0.list x133).bind fun x281=>(EG N x281).bind fun x294=>(Ft 1 x271 x294).bind fun _=>self1 (x271++x294) (i64.wrap (x133+(1:Int)))
def Fk(N:Nat)(a0:AI)(self1:Bts→Int→Option (Bts×Int))(x129:Bts)(x133:Int):Option (Bts×Int):=
 bif (decide (x133< (a0.list.length:Int))) then (bif (decide (x133>(0:Int))) then ((Ft 1 x129 ([(32:UInt8)]:List UInt8)).bind fun _=>HO N a0 x133 self1 (x129++([(32:UInt8)]:List UInt8))) else (HO N a0 x133 self1 x129)) else ((Pe ([91]:List UInt8) x129).bind fun x338=>(Pe x338 ([93]:List UInt8)).bind fun x340=>some (x340,(0:Int)))
def FF(N:Nat)(a0:AI):Nat→Bts→Int→Option (Bts×Int)
 |0=>fun _ _=>none
 |k+1=>Fk N a0 (FF N a0 k)
def GX(N:Nat)(a0:AI):Option (Bts×Int):=
 (B8 N a0).bind fun x14=>bif (!x14) then (some (([]:List UInt8),(3:Int))) else (bif (a0.type_==(1:Int)) then ((EG N a0.num).bind fun x22=>some (x22,(0:Int))) else (bif (a0.type_==(2:Int)) then (bif a0.bool then (some (([116,114,117,101]:List UInt8),(0:Int))) else (some (([102,97,108,115,101]:List UInt8),(0:Int)))) else (FF N a0 N ([]:List UInt8) (0:Int))))
def FG(N:Nat)(a0:Bts)(x74:((List Bts)))(self1:Int→Int→Int→(List (Nat×Nat))→Option (AI×Int))(x192 _x193 _x194:Int)(x195:(List (Nat×Nat))):Option (AI×Int):=
 bif (decide (x192< (x74.length:Int))) then ((idx x74 x192).bind fun x328=>(EW N x328).bind fun x340=>bif (x340.2 != (0:Int)) then (some ((AI.mk (0:Int) ((0,0):Nat×Nat) false []),(11:Int))) else ((F6 x340.1).bind fun x389=>(Ft 16 x195 ([x389]:List (Nat×Nat))).bind fun _=>self1 (i64.wrap (x192+(1:Int))) x340.1.re x340.1.im (x195++([x389]:List (Nat×Nat))))) else ((GX N (AI.mk (3:Int) ((0,0):Nat×Nat) false x195)).bind fun x428=>bif (!(x428.1==a0)) then (some ((AI.mk (0:Int) ((0,0):Nat×Nat) false []),(11:Int))) else (some ((AI.mk (3:Int) ((0,0):Nat×Nat) false x195),(0:Int))))
def Er(N:Nat)(a0:Bts)(x74:((List Bts))):Nat→Int→Int→Int→(List (Nat×Nat))→Option (AI×Int)
 |0=>fun _ _ _ _=>none
 |k+1=>FG N a0 x74 (Er N a0 x74 k)
def Fm(N:Nat)(a0:Bts)(x18:(Aj×Int))(x52:Bool):Option (AI×Int):=
 bif x52 then (some ((AI.mk (0:Int) ((0,0):Nat×Nat) false []),(11:Int))) else ((sub a0 (1:Int) (i64.wrap ((a0.length:Int) - (1:Int)))).bind fun x72=>(GA N x72).bind fun x74=>Er N a0 x74 N (0:Int) x18.1.re x18.1.im ([]:List (Nat×Nat)))
def GY(N:Nat)(a0:Bts)(x8:Bool):Option (AI×Int):=
 bif x8 then (some ((AI.mk (2:Int) ((0,0):Nat×Nat) (a0==([116,114,117,101]:List UInt8)) []),(0:Int))) else ((EW N a0).bind fun x18=>bif (x18.2==(0:Int)) then ((F6 x18.1).bind fun x36=>some ((AI.mk (1:Int) x36 false []),(0:Int))) else (bif (decide ((a0.length:Int)< (2:Int))) then (Fm N a0 x18 true) else ((idx a0 (0:Int)).bind fun x457=>bif (((x457).toNat:Int) != (((91:UInt8)).toNat:Int)) then (Fm N a0 x18 true) else ((idx a0 (i64.wrap ((a0.length:Int) - (1:Int)))).bind fun x460=>Fm N a0 x18 (((x460).toNat:Int) != (((93:UInt8)).toNat:Int))))))
def Ff(N:Nat)(a0:Bts):Option (AI×Int):=
 bif (a0==([116,114,117,101]:List UInt8)) then (GY N a0 true) else (GY N a0 (a0==([102,97,108,115,101]:List UInt8)))
def He(x340:Int)(self4:(Int→Bool→Option ((List AI)×Int)))(x386:Bool):Option ((List AI)×Int):=
 self4 (i64.wrap (x340+(1:Int))) x386
def EN(N:Nat)(a0:Bts)(x148:(List AI))(x152:Int)(self3:((List AI)→Int→Option ((List AI)×Int)))(x340:Int)(x341:Bool)(self4:(Int→Bool→Option ((List AI)×Int)))(x378:Bool):Option ((List AI)×Int):=
 bif x378 then ((idx a0 x340).bind fun x390=>bif (((x390).toNat:Int)==(((93:UInt8)).toNat:Int)) then (He x340 self4 false) else (He x340 self4 x341)) else ((sub a0 x152 x340).bind fun x393=>(Ff N x393).bind fun x395=>bif (x395.2 != (0:Int)) then (some ([],(11:Int))) else ((Ft 56 x148 ([x395.1]:List AI)).bind fun _=>self3 (x148++([x395.1]:List AI)) x340))
def FH(N:Nat)(a0:Bts)(x148:(List AI))(x152:Int)(self3:((List AI)→Int→Option ((List AI)×Int)))(self4:Int→Bool→Option ((List AI)×Int))(x340:Int)(x341:Bool):Option ((List AI)×Int):=
 bif (decide (x340< (a0.length:Int))) then (bif x341 then (EN N a0 x148 x152 self3 x340 x341 self4 true) else ((idx a0 x340).bind fun x445=>EN N a0 x148 x152 self3 x340 x341 self4 (((x445).toNat:Int) != (((32:UInt8)).toNat:Int)))) else (EN N a0 x148 x152 self3 x340 x341 self4 false)
def D6(N:Nat)(a0:Bts)(x148:(List AI))(x152:Int)(self3:((List AI)→Int→Option ((List AI)×Int))):Nat→Int→Bool→Option ((List AI)×Int)
 |0=>fun _ _=>none
 |k+1=>FH N a0 x148 x152 self3 (D6 N a0 x148 x152 self3 k)
def FI(N:Nat)(a0:Bts)(self3:(List AI)→Int→Option ((List AI)×Int))(x148:(List AI))(x152:Int):Option ((List AI)×Int):=
 bif (decide (x152< (a0.length:Int))) then ((idx a0 x152).bind fun x309=>bif (((x309).toNat:Int)==(((32:UInt8)).toNat:Int)) then (self3 x148 (i64.wrap (x152+(1:Int)))) else ((idx a0 x152).bind fun x312=>D6 N a0 x148 x152 self3 N x152 (((x312).toNat:Int)==(((91:UInt8)).toNat:Int)))) else (some (x148,(0:Int)))
def CU(N:Nat)(a0:Bts):Nat→(List AI)→Int→Option ((List AI)×Int)
 |0=>fun _ _=>none
 |k+1=>FI N a0 (CU N a0 k)
def GB(N:Nat)(a0:Bts):Option ((List AI)×Int):=
 CU N a0 N ([]:List AI) (0:Int)
def I4(x551:(List AI))(x555:Bool)(x556:(List AE)):Option (AM×(List AI)×Bool):=
 some ((AM.mk x556),x551,x555)
def GZ(N:Nat)(a0:Ea)(x509:(List AE))(x513:Int):Option (AM×(List AI)×Bool):=
 (GB N a0.args).bind fun x525=>bif (x513==(0:Int)) then (I4 x525.1 (x525.2==(0:Int)) x509) else (I4 x525.1 false x509)
def B9(N:Nat)(a0:Ea):Option (AM×(List AI)×Bool):=
 (Jw).bind fun x634=>(Fe N a0.text x634).bind fun x642=>GZ N a0 x642.1.funcs x642.2.why
def JW(a0 a1:Int)(ao0:AF)(x3:Bool):Option (AF):=
 bif x3 then (some (AF.mk a0 a1)) else (some ao0)
def Dt(a0 a1:Int)(ao0:AF):Option (AF):=
 bif (ao0.why==(0:Int)) then (JW a0 a1 ao0 true) else (JW a0 a1 ao0 (decide (a1<ao0.at_)))
def HA(a0:AB)(ao4:AF)(x102:Bool):Option (AF):=
 bif x102 then ((Dt (33:Int) a0.at_ ao4).bind fun x110=>some x110) else (some ao4)
def GC(a0:AB)(ao2:An)(ao4:AF)(ao5:AM)(x48:Bool):Option (AF):=
 bif x48 then ((Dt (32:Int) a0.at_ ao4).bind fun x56=>some x56) else (bif (a0.op==(7:Int)) then ((idx ao5.funcs (i64.wrap ((Cm ao2 a0.name) - (1:Int)))).bind fun x125=>HA a0 ao4 ((x125.params.length:Int) != (a0.args.length:Int))) else (HA a0 ao4 false))
def HB(a0:AB)(ao2:An)(ao4:AF)(ao5:AM)(x29:Bool):Option (AF):=
 bif x29 then ((Dt (31:Int) a0.at_ ao4).bind fun x37=>some x37) else (bif (a0.op==(7:Int)) then (GC a0 ao2 ao4 ao5 ((Cm ao2 a0.name)==(0:Int))) else (GC a0 ao2 ao4 ao5 false))
def Fn(a0:AB)(ao0 ao2:An)(ao4:AF)(ao5:AM):Option (AF):=
 bif (a0.op==(6:Int)) then (HB a0 ao2 ao4 ao5 ((Cm ao0 a0.name)==(0:Int))) else (HB a0 ao2 ao4 ao5 false)
def KM(a0:AB)(x37:Bool):Option ((List Bts)):=
 bif x37 then (some ([a0.name,a0.tail]:List Bts)) else (some [])
def JX(a0:AB)(a1:Int)(x15:Bool):Option ((List Bts)):=
 bif x15 then (some ([a0.name]:List Bts)) else (bif (a0.op==(20:Int)) then (KM a0 (a1==(2:Int))) else (KM a0 false))
def Hf(a0:AB)(a1:Int):Option ((List Bts)):=
 bif (a0.op==(21:Int)) then (JX a0 a1 (a0.op==(21:Int))) else (bif (a0.op==(22:Int)) then (JX a0 a1 (a1==(1:Int))) else (JX a0 a1 false))
structure Ax where
 scope_walk:AB→An→An→AF→AM→Option (An×AF)
def Ic(x275:Int)(self5:(Int→An→Int→Int→Option (An×AF)))(x552:((List Bts)))(x649:(An×AF))(self7:Int→An→Option (An×AF))(x688:Int)(x689:An):Option (An×AF):=
 bif (decide (x688< (x552.length:Int))) then ((idx x552 x688).bind fun x722=>self7 (i64.wrap (x688+(1:Int))) (Lq x722 (i64.wrap ((Cm x689 x722) - (1:Int))) x689)) else (self5 (i64.wrap (x275+(1:Int))) x689 x649.2.why x649.2.at_)
def IM(x275:Int)(self5:(Int→An→Int→Int→Option (An×AF)))(x552:((List Bts)))(x649:(An×AF)):Nat→Int→An→Option (An×AF)
 |0=>fun _ _=>none
 |k+1=>Ic x275 self5 x552 x649 (IM x275 self5 x552 x649 k)
def Id(φ:Ax)(N:Nat)(ao2:An)(ao5:AM)(x275 x277 x278:Int)(self5:(Int→An→Int→Int→Option (An×AF)))(x520:AB)(x552:((List Bts)))(self6:Int→An→Option (An×AF))(x590:Int)(x591:An):Option (An×AF):=
 bif (decide (x590< (x552.length:Int))) then ((idx x552 x590).bind fun x624=>self6 (i64.wrap (x590+(1:Int))) (Lq x624 (i64.wrap ((Cm x591 x624)+(1:Int))) x591)) else ((φ.scope_walk x520 x591 ao2 (AF.mk x277 x278) ao5).bind fun x649=>IM x275 self5 x552 x649 N (0:Int) x649.1)
def IN(φ:Ax)(N:Nat)(ao2:An)(ao5:AM)(x275 x277 x278:Int)(self5:(Int→An→Int→Int→Option (An×AF)))(x520:AB)(x552:((List Bts))):Nat→Int→An→Option (An×AF)
 |0=>fun _ _=>none
 |k+1=>Id φ N ao2 ao5 x275 x277 x278 self5 x520 x552 (IN φ N ao2 ao5 x275 x277 x278 self5 x520 x552 k)
def Ie(φ:Ax)(N:Nat)(a0:AB)(ao2:An)(ao5:AM)(self5:Int→An→Int→Int→Option (An×AF))(x275:Int)(x276:An)(x277 x278:Int):Option (An×AF):=
 bif (decide (x275< (a0.args.length:Int))) then ((idx a0.args x275).bind fun x520=>(Hf a0 x275).bind fun x552=>IN φ N ao2 ao5 x275 x277 x278 self5 x520 x552 N (0:Int) x276) else (some (x276,(AF.mk x277 x278)))
def Cf(φ:Ax)(N:Nat)(a0:AB)(ao2:An)(ao5:AM):Nat→Int→An→Int→Int→Option (An×AF)
 |0=>fun _ _ _ _=>none
 |k+1=>Ie φ N a0 ao2 ao5 (Cf φ N a0 ao2 ao5 k)
def Kj(φ:Ax)(N:Nat)(a0:AB)(ao0 ao2:An)(ao4:AF)(ao5:AM):Option (An×AF):=
 (Fn a0 ao0 ao2 ao4 ao5).bind fun x33=>Cf φ N a0 ao2 ao5 N (0:Int) ao0 x33.why x33.at_
def Ax.at:Nat→Ax
 |0=>⟨fun _ _ _ _ _=>none⟩
 |n+1=>⟨Kj (Ax.at n) n⟩
def scope_walk(N:Nat):AB→An→An→AF→AM→Option (An×AF):=(Ax.at N).scope_walk
def JY(x186:Int)(self1:(Int→Int→Int→An→Option (AF)))(x388 x389:Int)(x390:An):Option (AF):=
 self1 (i64.wrap (x186+(1:Int))) x388 x389 x390
def JZ(x1185:Int)(x1188:An)(self5:(Int→Int→Int→An→Option (AF)))(x1273:AK)(x1309 x1310:Int):Option (AF):=
 self5 (i64.wrap (x1185+(1:Int))) x1309 x1310 (Lq x1273.name (i64.wrap ((Cm x1188 x1273.name)+(1:Int))) x1188)
def Fw(N:Nat)(a0:AM)(x189:An)(x757:Int)(self4:(Int→Int→Int→Option (AF)))(x1066:AE)(self5:Int→Int→Int→An→Option (AF))(x1185 x1186 x1187:Int)(x1188:An):Option (AF):=
 bif (decide (x1185< (x1066.params.length:Int))) then ((idx x1066.params x1185).bind fun x1273=>bif (decide ((Cm x1188 x1273.name)>(0:Int))) then ((Dt (30:Int) x1273.at_ (AF.mk x1186 x1187)).bind fun x1327=>JZ x1185 x1188 self5 x1273 x1327.why x1327.at_) else (JZ x1185 x1188 self5 x1273 x1186 x1187)) else ((scope_walk N (AB.mk x1066.body.op x1066.body.name x1066.body.tail x1066.body.type_ x1066.body.num x1066.body.args x1066.body.at_) x1188 x189 (AF.mk x1186 x1187) a0).bind fun x1344=>self4 (i64.wrap (x757+(1:Int))) x1344.2.why x1344.2.at_)
def Fo(N:Nat)(a0:AM)(x189:An)(x757:Int)(self4:(Int→Int→Int→Option (AF)))(x1066:AE):Nat→Int→Int→Int→An→Option (AF)
 |0=>fun _ _ _ _=>none
 |k+1=>Fw N a0 x189 x757 self4 x1066 (Fo N a0 x189 x757 self4 x1066 k)
def Hz(N:Nat)(a0:AM)(x189:An)(self4:Int→Int→Int→Option (AF))(x757 x758 x759:Int):Option (AF):=
 bif (decide (x757< (a0.funcs.length:Int))) then ((idx a0.funcs x757).bind fun x1066=>Fo N a0 x189 x757 self4 x1066 N (0:Int) x758 x759 ([]:An)) else (some (AF.mk x758 x759))
def DA(N:Nat)(a0:AM)(x189:An):Nat→Int→Int→Int→Option (AF)
 |0=>fun _ _ _=>none
 |k+1=>Hz N a0 x189 (DA N a0 x189 k)
def H0(N:Nat)(a0:AM)(self1:Int→Int→Int→An→Option (AF))(x186 x187 x188:Int)(x189:An):Option (AF):=
 bif (decide (x186< (a0.funcs.length:Int))) then ((idx a0.funcs x186).bind fun x398=>bif (decide ((Cm x189 x398.name)>(0:Int))) then ((Dt (30:Int) x398.at_ (AF.mk x187 x188)).bind fun x440=>JY x186 self1 x440.why x440.at_ x189) else (JY x186 self1 x187 x188 (Lq x398.name (i64.wrap (x186+(1:Int))) x189))) else (DA N a0 x189 N (0:Int) x187 x188)
def Hg(N:Nat)(a0:AM):Nat→Int→Int→Int→An→Option (AF)
 |0=>fun _ _ _ _=>none
 |k+1=>H0 N a0 (Hg N a0 k)
def IP(N:Nat)(a0:AM):Option (AF):=
 Hg N a0 N (0:Int) (0:Int) (0:Int) ([]:An)
def If(a0:AM)(self1:Int→An→Option (An×(List AE)×(List AK)×An))(x72:Int)(x73:An):Option (An×(List AE)×(List AK)×An):=
 bif (decide (x72≥(0:Int))) then ((idx a0.funcs x72).bind fun x127=>self1 (i64.wrap (x72 - (1:Int))) (Lq x127.name (i64.wrap (x72+(1:Int))) x73)) else (some (x73,a0.funcs,[],x73))
def IQ(a0:AM):Nat→Int→An→Option (An×(List AE)×(List AK)×An)
 |0=>fun _ _=>none
 |k+1=>If a0 (IQ a0 k)
def KN(N:Nat)(a0:AM)(_ao0:AF):Option (An×(List AE)×(List AK)×An):=
 IQ a0 N (i64.wrap ((a0.funcs.length:Int) - (1:Int))) ([]:An)
def Ja(a0:Int)(ao0:AF)(x3:Bool):Option (AF):=
 bif x3 then (some (AF.mk (34:Int) a0)) else (some ao0)
def Fp(a0:Int)(ao0:AF):Option (AF):=
 bif (ao0.why==(0:Int)) then (Ja a0 ao0 true) else (Ja a0 ao0 (decide (a0<ao0.at_)))
structure AG where
 types_checker_want:(List AE)→(List AK)→An→AF→AB→Int→Option ((List AE)×(List AK)×AF)
 types_checker_all:(List AE)→(List AK)→An→AF→Int→(List AB)→Option ((List AE)×(List AK)×AF)
 types_checker_in:(List AE)→(List AK)→An→AF→AB→Int→(List AK)→Option ((List AE)×(List AK)×AF)
 types_checker_in_2:(List AE)→(List AK)→An→AF→AB→Int→(List AK)→Option ((List AE)×(List AK)×AF)
 types_checker_in_3:(List AE)→(List AK)→An→AF→AB→Int→(List AK)→Option ((List AE)×(List AK)×AF)
 types_checker_own:(List AE)→(List AK)→An→AF→AB→Option (Int×(List AE)×(List AK)×AF)
 types_checker_want_1:(List AE)→(List AK)→An→AF→AB→Int→Option ((List AE)×(List AK)×AF)
 types_checker_want_2:(List AE)→(List AK)→An→AF→AB→Int→Option ((List AE)×(List AK)×AF)
 types_checker_want_3:(List AE)→(List AK)→An→AF→AB→Int→Option ((List AE)×(List AK)×AF)
 types_checker_call:(List AE)→(List AK)→An→AF→AB→Option (Int×(List AE)×(List AK)×AF)
def CV(a1:AB)(a2 x1084:Int)(x1085:(List AE))(x1089:(List AK))(x1093 x1094:Int):Option ((List AE)×(List AK)×AF):=
 bif (x1084 != a2) then ((Fp a1.at_ (AF.mk x1093 x1094)).bind fun x1128=>some (x1085,x1089,x1128)) else (some (x1085,x1089,(AF.mk x1093 x1094)))
def GD(φ:AG)(_N:Nat)(ao0_1:(List AE))(ao0_2:(List AK))(ao1:An)(ao2:AF)(a1:AB)(a2:Int):Option ((List AE)×(List AK)×AF):=
 bif (a1.op==(19:Int)) then ((idx a1.args (0:Int)).bind fun x1269=>(φ.types_checker_want ao0_1 ao0_2 ao1 ao2 x1269 (2:Int)).bind fun x1293=>(sub a1.args (1:Int) (a1.args.length:Int)).bind fun x1441=>(φ.types_checker_all x1293.1 x1293.2.1 ao1 x1293.2.2 a2 x1441).bind fun x1463=>CV a1 a2 a2 x1463.1 x1463.2.1 x1463.2.2.why x1463.2.2.at_) else (bif (a1.op==(20:Int)) then ((idx a1.args (0:Int)).bind fun x1614=>(φ.types_checker_want ao0_1 ao0_2 ao1 ao2 x1614 (3:Int)).bind fun x1638=>(idx a1.args (1:Int)).bind fun x1791=>(φ.types_checker_want x1638.1 x1638.2.1 ao1 x1638.2.2 x1791 a2).bind fun x1816=>(φ.types_checker_in x1816.1 x1816.2.1 ao1 x1816.2.2 a1 a2 ([(AK.mk a1.name (1:Int) (0:Int)),(AK.mk a1.tail (3:Int) (0:Int))]:List AK)).bind fun x1864=>CV a1 a2 a2 x1864.1 x1864.2.1 x1864.2.2.why x1864.2.2.at_) else (bif (a1.op==(21:Int)) then ((φ.types_checker_in_2 ao0_1 ao0_2 ao1 ao2 a1 a2 ([(AK.mk a1.name a1.type_ (0:Int))]:List AK)).bind fun x1912=>CV a1 a2 a2 x1912.1 x1912.2.1 x1912.2.2.why x1912.2.2.at_) else (bif (a1.op==(22:Int)) then ((idx a1.args (0:Int)).bind fun x2063=>(φ.types_checker_want ao0_1 ao0_2 ao1 ao2 x2063 a1.type_).bind fun x2087=>(φ.types_checker_in_3 x2087.1 x2087.2.1 ao1 x2087.2.2 a1 a2 ([(AK.mk a1.name a1.type_ (0:Int))]:List AK)).bind fun x2135=>CV a1 a2 a2 x2135.1 x2135.2.1 x2135.2.2.why x2135.2.2.at_) else ((φ.types_checker_own ao0_1 ao0_2 ao1 ao2 a1).bind fun x2165=>CV a1 a2 x2165.1 x2165.2.1 x2165.2.2.1 x2165.2.2.2.why x2165.2.2.2.at_))))
def EX(φ:AG)(ao1:An)(a1:Int)(a2:(List AB))(self1:Int→(List AE)→(List AK)→Int→Int→Option ((List AE)×(List AK)×AF))(x93:Int)(x94:(List AE))(x98:(List AK))(x102 x103:Int):Option ((List AE)×(List AK)×AF):=
 bif (decide (x93< (a2.length:Int))) then ((idx a2 x93).bind fun x199=>(φ.types_checker_want x94 x98 ao1 (AF.mk x102 x103) x199 a1).bind fun x235=>self1 (i64.wrap (x93+(1:Int))) x235.1 x235.2.1 x235.2.2.why x235.2.2.at_) else (some (x94,x98,(AF.mk x102 x103)))
def Do(φ:AG)(ao1:An)(a1:Int)(a2:(List AB)):Nat→Int→(List AE)→(List AK)→Int→Int→Option ((List AE)×(List AK)×AF)
 |0=>fun _ _ _ _ _=>none
 |k+1=>EX φ ao1 a1 a2 (Do φ ao1 a1 a2 k)
def JQ(φ:AG)(N:Nat)(ao0_1:(List AE))(ao0_2:(List AK))(ao1:An)(ao2:AF)(a1:Int)(a2:(List AB)):Option ((List AE)×(List AK)×AF):=
 Do φ ao1 a1 a2 N (0:Int) ao0_1 ao0_2 ao2.why ao2.at_
def HC(φ:AG)(_N:Nat)(ao0_1:(List AE))(ao0_2:(List AK))(ao1:An)(ao2:AF)(ao4:AB)(ao5_0:Int)(a2:(List AK)):Option ((List AE)×(List AK)×AF):=
 (Ft 32 ao0_2 a2).bind fun _=>(φ.types_checker_want_1 ao0_1 (ao0_2++a2) ao1 ao2 ao4 ao5_0).bind fun x52=>(sub x52.2.1 0 (ao0_2.length:Int)).bind fun x75=>some (x52.1,x75,x52.2.2)
def GE(φ:AG)(_N:Nat)(ao0_1:(List AE))(ao0_2:(List AK))(ao1:An)(ao2:AF)(ao4:AB)(ao5_0:Int)(a2:(List AK)):Option ((List AE)×(List AK)×AF):=
 (Ft 32 ao0_2 a2).bind fun _=>(φ.types_checker_want_2 ao0_1 (ao0_2++a2) ao1 ao2 ao4 ao5_0).bind fun x52=>(sub x52.2.1 0 (ao0_2.length:Int)).bind fun x75=>some (x52.1,x75,x52.2.2)
def GG(φ:AG)(_N:Nat)(ao0_1:(List AE))(ao0_2:(List AK))(ao1:An)(ao2:AF)(ao4:AB)(ao5_0:Int)(a2:(List AK)):Option ((List AE)×(List AK)×AF):=
 (Ft 32 ao0_2 a2).bind fun _=>(φ.types_checker_want_3 ao0_1 (ao0_2++a2) ao1 ao2 ao4 ao5_0).bind fun x52=>(sub x52.2.1 0 (ao0_2.length:Int)).bind fun x75=>some (x52.1,x75,x52.2.2)
def G6(ao0_1:(List AE))(ao0_2:(List AK))(ao2:AF)(a1:AB)(self1:Int→Option (Int×(List AE)×(List AK)×AF))(x86:Int):Option (Int×(List AE)×(List AK)×AF):=
 bif (decide (x86≥(0:Int))) then ((idx ao0_2 x86).bind fun x130=>bif (x130.name==a1.name) then ((idx ao0_2 x86).bind fun x145=>some (x145.type_,ao0_1,ao0_2,ao2)) else (self1 (i64.wrap (x86 - (1:Int))))) else (some ((0:Int),ao0_1,ao0_2,ao2))
def Et(ao0_1:(List AE))(ao0_2:(List AK))(ao2:AF)(a1:AB):Nat→Int→Option (Int×(List AE)×(List AK)×AF)
 |0=>fun _=>none
 |k+1=>G6 ao0_1 ao0_2 ao2 a1 (Et ao0_1 ao0_2 ao2 a1 k)
def Hh(x325:((List AE)×(List AK)×AF))(x350:Bool):Option (Int×(List AE)×(List AK)×AF):=
 bif x350 then (some ((2:Int),x325.1,x325.2.1,x325.2.2)) else (some ((1:Int),x325.1,x325.2.1,x325.2.2))
def Ew(φ:AG)(N:Nat)(ao0_1:(List AE))(ao0_2:(List AK))(ao1:An)(ao2:AF)(a1:AB)(x25:Bool):Option (Int×(List AE)×(List AK)×AF):=
 bif x25 then (some ((2:Int),ao0_1,ao0_2,ao2)) else (bif (a1.op==(4:Int)) then (some ((3:Int),ao0_1,ao0_2,ao2)) else (bif (a1.op==(5:Int)) then (some (a1.type_,ao0_1,ao0_2,ao2)) else (bif (a1.op==(6:Int)) then (Et ao0_1 ao0_2 ao2 a1 N (i64.wrap ((ao0_2.length:Int) - (1:Int)))) else (bif (a1.op==(7:Int)) then ((φ.types_checker_call ao0_1 ao0_2 ao1 ao2 a1).bind fun x171=>some (x171.1,x171.2.1,x171.2.2.1,x171.2.2.2)) else (bif (a1.op==(14:Int)) then ((φ.types_checker_all ao0_1 ao0_2 ao1 ao2 (2:Int) a1.args).bind fun x202=>some ((2:Int),x202.1,x202.2.1,x202.2.2)) else (bif (a1.op==(18:Int)) then ((idx a1.args (0:Int)).bind fun x227=>(φ.types_checker_want ao0_1 ao0_2 ao1 ao2 x227 (1:Int)).bind fun x251=>(idx a1.args (1:Int)).bind fun x275=>(φ.types_checker_want x251.1 x251.2.1 ao1 x251.2.2 x275 (3:Int)).bind fun x295=>some ((3:Int),x295.1,x295.2.1,x295.2.2)) else ((φ.types_checker_all ao0_1 ao0_2 ao1 ao2 (1:Int) a1.args).bind fun x325=>bif (a1.op==(12:Int)) then (Hh x325 true) else (Hh x325 (a1.op==(13:Int))))))))))
def Gk(φ:AG)(N:Nat)(ao0_1:(List AE))(ao0_2:(List AK))(ao1:An)(ao2:AF)(a1:AB):Option (Int×(List AE)×(List AK)×AF):=
 bif (a1.op==(2:Int)) then (Ew φ N ao0_1 ao0_2 ao1 ao2 a1 (a1.op==(2:Int))) else (Ew φ N ao0_1 ao0_2 ao1 ao2 a1 (a1.op==(3:Int)))
def FL(φ:AG)(_N:Nat)(ao1_1:(List AE))(ao1_2:(List AK))(ao2:An)(ao3:AF)(ao4:AB)(ao5_0:Int):Option ((List AE)×(List AK)×AF):=
 (idx ao4.args (2:Int)).bind fun x151=>(φ.types_checker_want ao1_1 ao1_2 ao2 ao3 x151 ao5_0).bind fun x176=>some (x176.1,x176.2.1,x176.2.2)
def FM(φ:AG)(_N:Nat)(ao1_1:(List AE))(ao1_2:(List AK))(ao2:An)(ao3:AF)(ao4:AB)(ao5_0:Int):Option ((List AE)×(List AK)×AF):=
 (idx ao4.args (0:Int)).bind fun x148=>(φ.types_checker_want ao1_1 ao1_2 ao2 ao3 x148 ao4.type_).bind fun x172=>(idx ao4.args (1:Int)).bind fun x325=>(φ.types_checker_want x172.1 x172.2.1 ao2 x172.2.2 x325 ao5_0).bind fun x350=>some (x350.1,x350.2.1,x350.2.2)
def FO(φ:AG)(_N:Nat)(ao1_1:(List AE))(ao1_2:(List AK))(ao2:An)(ao3:AF)(ao4:AB)(ao5_0:Int):Option ((List AE)×(List AK)×AF):=
 (idx ao4.args (1:Int)).bind fun x151=>(φ.types_checker_want ao1_1 ao1_2 ao2 ao3 x151 ao5_0).bind fun x176=>some (x176.1,x176.2.1,x176.2.2)
def EH(φ:AG)(ao1:An)(a1:AB)(x76:AE)(self1:Int→(List AE)→(List AK)→Int→Int→Option (Int×(List AE)×(List AK)×AF))(x316:Int)(x317:(List AE))(x321:(List AK))(x325 x326:Int):Option (Int×(List AE)×(List AK)×AF):=
 bif (decide (x316< (x76.params.length:Int))) then ((idx x76.params x316).bind fun x560=>(idx a1.args x316).bind fun x709=>(φ.types_checker_want x317 x321 ao1 (AF.mk x325 x326) x709 x560.type_).bind fun x734=>self1 (i64.wrap (x316+(1:Int))) x734.1 x734.2.1 x734.2.2.why x734.2.2.at_) else ((idx x317 (i64.wrap ((Cm ao1 a1.name) - (1:Int)))).bind fun x757=>some (x757.type_,x317,x321,(AF.mk x325 x326)))
def Dx(φ:AG)(ao1:An)(a1:AB)(x76:AE):Nat→Int→(List AE)→(List AK)→Int→Int→Option (Int×(List AE)×(List AK)×AF)
 |0=>fun _ _ _ _ _=>none
 |k+1=>EH φ ao1 a1 x76 (Dx φ ao1 a1 x76 k)
def Fg(φ:AG)(N:Nat)(ao0_1:(List AE))(ao0_2:(List AK))(ao1:An)(ao2:AF)(a1:AB)(x66:Bool):Option (Int×(List AE)×(List AK)×AF):=
 bif x66 then (some ((0:Int),ao0_1,ao0_2,ao2)) else ((idx ao0_1 (i64.wrap ((Cm ao1 a1.name) - (1:Int)))).bind fun x76=>Dx φ ao1 a1 x76 N (0:Int) ao0_1 ao0_2 ao2.why ao2.at_)
def GH(φ:AG)(N:Nat)(ao0_1:(List AE))(ao0_2:(List AK))(ao1:An)(ao2:AF)(a1:AB):Option (Int×(List AE)×(List AK)×AF):=
 bif ((Cm ao1 a1.name)==(0:Int)) then (Fg φ N ao0_1 ao0_2 ao1 ao2 a1 true) else ((idx ao0_1 (i64.wrap ((Cm ao1 a1.name) - (1:Int)))).bind fun x787=>Fg φ N ao0_1 ao0_2 ao1 ao2 a1 ((x787.params.length:Int) != (a1.args.length:Int)))
def AG.at:Nat→AG
 |0=>⟨fun _ _ _ _ _ _=>none,fun _ _ _ _ _ _=>none,fun _ _ _ _ _ _ _=>none,fun _ _ _ _ _ _ _=>none,fun _ _ _ _ _ _ _=>none,fun _ _ _ _ _=>none,fun _ _ _ _ _ _=>none,fun _ _ _ _ _ _=>none,fun _ _ _ _ _ _=>none,fun _ _ _ _ _=>none⟩
 |n+1=>⟨GD (AG.at n) n,JQ (AG.at n) n,HC (AG.at n) n,GE (AG.at n) n,GG (AG.at n) n,Gk (AG.at n) n,FL (AG.at n) n,FM (AG.at n) n,FO (AG.at n) n,GH (AG.at n) n⟩
def types_checker_want(N:Nat):(List AE)→(List AK)→An→AF→AB→Int→Option ((List AE)×(List AK)×AF):=(AG.at N).types_checker_want
def types_checker_all(N:Nat):(List AE)→(List AK)→An→AF→Int→(List AB)→Option ((List AE)×(List AK)×AF):=(AG.at N).types_checker_all
def types_checker_in(N:Nat):(List AE)→(List AK)→An→AF→AB→Int→(List AK)→Option ((List AE)×(List AK)×AF):=(AG.at N).types_checker_in
def types_checker_in_2(N:Nat):(List AE)→(List AK)→An→AF→AB→Int→(List AK)→Option ((List AE)×(List AK)×AF):=(AG.at N).types_checker_in_2
def types_checker_in_3(N:Nat):(List AE)→(List AK)→An→AF→AB→Int→(List AK)→Option ((List AE)×(List AK)×AF):=(AG.at N).types_checker_in_3
def types_checker_own(N:Nat):(List AE)→(List AK)→An→AF→AB→Option (Int×(List AE)×(List AK)×AF):=(AG.at N).types_checker_own
def types_checker_want_1(N:Nat):(List AE)→(List AK)→An→AF→AB→Int→Option ((List AE)×(List AK)×AF):=(AG.at N).types_checker_want_1
def types_checker_want_2(N:Nat):(List AE)→(List AK)→An→AF→AB→Int→Option ((List AE)×(List AK)×AF):=(AG.at N).types_checker_want_2
def types_checker_want_3(N:Nat):(List AE)→(List AK)→An→AF→AB→Int→Option ((List AE)×(List AK)×AF):=(AG.at N).types_checker_want_3
def types_checker_call(N:Nat):(List AE)→(List AK)→An→AF→AB→Option (Int×(List AE)×(List AK)×AF):=(AG.at N).types_checker_call
def H1(N:Nat)(a0:AM)(x46:(An×(List AE)×(List AK)×An))(self1:Int→Int→Int→(List AE)→(List AK)→Option (AF))(x175 x176 x177:Int)(x178:(List AE))(_x182:(List AK)):Option (AF):=
 bif (decide (x175< (a0.funcs.length:Int))) then ((idx a0.funcs x175).bind fun x306=>(Ft 32 ([]:List AK) x306.params).bind fun _=>(types_checker_want N x178 (([]:List AK)++x306.params) x46.2.2.2 (AF.mk x176 x177) (AB.mk x306.body.op x306.body.name x306.body.tail x306.body.type_ x306.body.num x306.body.args x306.body.at_) x306.type_).bind fun x367=>self1 (i64.wrap (x175+(1:Int))) x367.2.2.why x367.2.2.at_ x367.1 x367.2.1) else (some (AF.mk x176 x177))
def Hi(N:Nat)(a0:AM)(x46:(An×(List AE)×(List AK)×An)):Nat→Int→Int→Int→(List AE)→(List AK)→Option (AF)
 |0=>fun _ _ _ _ _=>none
 |k+1=>H1 N a0 x46 (Hi N a0 x46 k)
def Gs(N:Nat)(a0:AM):Option (AF):=
 (IP N a0).bind fun x21=>bif (x21.why != (0:Int)) then (some x21) else ((KN N a0 x21).bind fun x46=>Hi N a0 x46 N (0:Int) x21.why x21.at_ x46.2.1 x46.2.2.1)
def Ig(a0:Nat):Option (Nat):=
 (Sa a0).bind fun x1=>some x1
def II(a0:Nat):Option (Bool):=
 some (decide ((i64.wrap (((a0:Nat):Int)))< (0:Int)))
def Hj(x15:Bool):Option (Bool):=
 some x15
def Gt(a0:Nat):Option (Bool):=
 bif (fge a0 (13938640846711685120:Nat)) then (bif (fle a0 (4715268809856909312:Nat)) then ((Ig a0).bind fun x21=>bif (feq a0 x21) then (bif (fne a0 (0:Nat)) then (Hj true) else ((II a0).bind fun x28=>Hj (!x28))) else (Hj false)) else (Hj false)) else (Hj false)
def KO(x12:Bool):Option (Bool):=
 some x12
def By(a0:(Nat×Nat)):Option (Bool):=
 (Gt a0.1).bind fun x16=>bif x16 then ((Gt a0.2).bind fun x22=>KO x22) else (KO false)
def EO(x210:Bool):Option (Int):=
 bif (!x210) then (some (3:Int)) else (some (0:Int))
def KP(x308:Int)(self2:(Bool→Int→Option (Int)))(x381:Bool):Option (Int):=
 self2 x381 (i64.wrap (x308+(1:Int)))
def J2(a0:AI)(self2:Bool→Int→Option (Int))(x307:Bool)(x308:Int):Option (Int):=
 bif (decide (x308< (a0.list.length:Int))) then ((idx a0.list x308).bind fun x385=>bif x307 then ((By x385).bind fun x399=>KP x308 self2 x399) else (KP x308 self2 false)) else (EO x307)
def Ih(a0:AI):Nat→Bool→Int→Option (Int)
 |0=>fun _ _=>none
 |k+1=>J2 a0 (Ih a0 k)
def Jb(N:Nat)(a0:AI)(x250:Bool):Option (Int):=
 Ih a0 N x250 (0:Int)
def DL(N:Nat)(a0:AI):Option (Int):=
 bif (a0.type_==(1:Int)) then ((By a0.num).bind fun x216=>bif x216 then (bif (!a0.bool) then (EO ((a0.list.length:Int)==(0:Int))) else (EO false)) else (EO false)) else (bif (a0.type_==(2:Int)) then ((By a0.num).bind fun x229=>bif x229 then (bif (ceq a0.num ((0,0):Nat×Nat)) then (EO ((a0.list.length:Int)==(0:Int))) else (EO false)) else (EO false)) else (bif (a0.type_==(3:Int)) then ((By a0.num).bind fun x404=>bif x404 then (bif (ceq a0.num ((0,0):Nat×Nat)) then (Jb N a0 (!a0.bool)) else (Jb N a0 false)) else (Jb N a0 false)) else (EO false)))
def IX(a0:Ao):Option (Th):=
 some (Th.done (AI.mk a0.plain.type_ a0.plain.num a0.plain.bool a0.plain.list) a0.head a0.tail)
def KQ(a0:AI)(self1:Th→Int→Option (Th))(x75:Th)(x78:Int):Option (Th):=
 bif (decide (x78≥(0:Int))) then ((idx a0.list x78).bind fun x126=>(IX (Ao.mk (AI.mk (1:Int) x126 false []) Th.nil Th.nil)).bind fun x139=>(IX (Ao.mk (AI.mk (0:Int) ((0,0):Nat×Nat) false []) x139 x75)).bind fun x148=>self1 x148 (i64.wrap (x78 - (1:Int)))) else (some x75)
def JC(a0:AI):Nat→Th→Int→Option (Th)
 |0=>fun _ _=>none
 |k+1=>KQ a0 (JC a0 k)
def Ii(N:Nat)(a0:AI):Option (Th):=
 bif (a0.type_ != (3:Int)) then ((IX (Ao.mk a0 Th.nil Th.nil)).bind fun x15=>some x15) else ((IX (Ao.mk (AI.mk (3:Int) ((0,0):Nat×Nat) false []) Th.nil Th.nil)).bind fun x23=>JC a0 N x23 (i64.wrap ((a0.list.length:Int) - (1:Int))))
def Kp(a1:Bts)(self1:Nm→Option (Th))(x22:Nm):Option (Th):=
 (x22.view).bind fun x50=>bif (!(x50.1==a1)) then (self1 x50.2.2) else (some x50.2.1)
def EI(a1:Bts):Nat→Nm→Option (Th)
 |0=>fun _=>none
 |k+1=>Kp a1 (EI a1 k)
def Dc(N:Nat)(a0:Nm)(a1:Bts):Option (Th):=
 EI a1 N a0
def I5(a1:Ao):Option (Ao):=
 some a1
def JD(a0:AB):Option (AB):=
 some a0
def L7(x9:Bool):Option (Int×Int):=
 bif x9 then (some ((1:Int),(1:Int))) else (some ((0:Int),(0:Int)))
def L8(a0:Int)(x2:Bool):Option (Int×Int):=
 bif x2 then (some ((2:Int),(1:Int))) else (bif (a0==(14:Int)) then (some ((1:Int),(2:Int))) else (bif (decide (a0≥(15:Int))) then (L7 (decide (a0≤(17:Int)))) else (L7 false)))
def H2(a0:Int):Option (Int×Int):=
 bif (decide (a0≥(8:Int))) then (L8 a0 (decide (a0≤(13:Int)))) else (L8 a0 false)
def Dy(a0:(Nat×Nat))(a1:Int):Option (AI×Int):=
 bif (a1 != (0:Int)) then (some ((AI.mk (0:Int) ((0,0):Nat×Nat) false []),a1)) else (some ((AI.mk (1:Int) a0 false []),(0:Int)))
def Ex(a0:(Nat×Nat)):Option ((Nat×Nat)×Int):=
 (FloatKind.f64.format.add a0.1 (0:Nat)).bind fun x1=>(FloatKind.f64.format.add a0.2 (0:Nat)).bind fun x3=>(By (x1,x3)).bind fun x5=>bif (!x5) then (some (((0,0):Nat×Nat),(50:Int))) else (some ((x1,x3),(0:Int)))
def H3(a0:(Nat×Nat)):Option ((Nat×Nat)×Int):=
 (By a0).bind fun x1=>bif (!x1) then (some (((0,0):Nat×Nat),(3:Int))) else ((Ex (a0.1,(Op.negFloat .f64 a0.2))).bind fun x7=>some (x7.1,x7.2))
def LR(a0:(Nat×Nat))(a1:(Nat×Nat))(x12:Bool):Option ((Nat×Nat)×Int):=
 bif x12 then (some (((0,0):Nat×Nat),(3:Int))) else ((cadd a0 a1).bind fun x17=>(Ex x17).bind fun x19=>some (x19.1,x19.2))
def Jc(a0:(Nat×Nat))(a1:(Nat×Nat)):Option ((Nat×Nat)×Int):=
 (By a0).bind fun x24=>bif (!x24) then (LR a0 a1 true) else ((By a1).bind fun x30=>LR a0 a1 (!x30))
def LT(a0:(Nat×Nat))(a1:(Nat×Nat))(x12:Bool):Option ((Nat×Nat)×Int):=
 bif x12 then (some (((0,0):Nat×Nat),(3:Int))) else ((csub a0 a1).bind fun x17=>(Ex x17).bind fun x19=>some (x19.1,x19.2))
def Jd(a0:(Nat×Nat))(a1:(Nat×Nat)):Option ((Nat×Nat)×Int):=
 (By a0).bind fun x24=>bif (!x24) then (LT a0 a1 true) else ((By a1).bind fun x30=>LT a0 a1 (!x30))
def LU(a0:(Nat×Nat))(a1:(Nat×Nat))(x12:Bool):Option ((Nat×Nat)×Int):=
 bif x12 then (some (((0,0):Nat×Nat),(3:Int))) else ((cmul a0 a1).bind fun x17=>(Ex x17).bind fun x19=>some (x19.1,x19.2))
def Je(a0:(Nat×Nat))(a1:(Nat×Nat)):Option ((Nat×Nat)×Int):=
 (By a0).bind fun x24=>bif (!x24) then (LU a0 a1 true) else ((By a1).bind fun x30=>LU a0 a1 (!x30))
def IB(a0:Nat):Option (Nat):=
 some (((Cr .u64 ((a0:Nat):Int) (9223372036854775808:Int))).toNat)
def KD(x8:Nat):Option (Bool):=
 some (fgt x8 (9218868437227405311:Nat))
def HD(a0:Nat)(a1:Int):Option (Bool):=
 bif (a1==(0:Int)) then ((IB a0).bind fun x13=>KD x13) else (bif (decide (a1< (0:Int))) then (KD (Op.negFloat .f64 a0)) else (KD a0))
def Ga(a0:Nat):Option (Bool):=
 some (fne a0 a0)
def LW:Option (Nat):=
 some (((9221120237041090561:Int)).toNat)
def EQ(a0:Nat):Option (Nat×Int):=
 (IB a0).bind fun x1=>bif (flt_ x1 (4503599627370496:Nat)) then ((FloatKind.f64.format.mul a0 (4841369599423283200:Nat)).bind fun x7=>some (x7,(-52:Int))) else (some (a0,(0:Int)))
def Kt(a0:Nat)(x13:Bool):Option (Nat×Int):=
 bif x13 then (some (a0,(0:Int))) else ((EQ a0).bind fun x18=>(nn (52:Int)).bind fun _=>some (((Lr .u64 (Cr .u64 ((x18.1:Nat):Int) (9218868437227405312:Int)) (4602678819172646912:Int))).toNat,(i64.wrap (x18.2+(i64.wrap ((i64.wrap ((i64.wrap ((Ej .u64 (shr .u64 ((x18.1:Nat):Int) (52:Int)) (2047:Int)))) - (1023:Int)))+(1:Int)))))))
def JE(a0:Nat):Option (Nat×Int):=
 bif (feq a0 (0:Nat)) then (some (a0,(0:Int))) else ((HD a0 (0:Int)).bind fun x25=>bif x25 then (Kt a0 true) else ((Ga a0).bind fun x31=>Kt a0 x31))
def H4(a0:Nat):Option (Nat×Int):=
 (JE a0).bind fun x1=>some (x1.1,x1.2)
def HP(a0 a1:Nat):Option (Nat):=
 some (((Lr .u64 (Cr .u64 ((a0:Nat):Int) (9223372036854775808:Int)) (Ej .u64 ((a1:Nat):Int) (9223372036854775808:Int)))).toNat)
def M6(x2:Int):Option (Nat):=
 some ((x2).toNat)
def Ku(a0:Int):Option (Nat):=
 bif (decide (a0≥(0:Int))) then (M6 (9218868437227405312:Int)) else (M6 (18442240474082181120:Int))
def Kv(x18:(Nat×Int))(x44:Int)(x45:Nat):Option (Nat):=
 (nn (52:Int)).bind fun _=>(FloatKind.f64.format.mul x45 (((Lr .u64 (Cr .u64 ((x18.1:Nat):Int) (9218868437227405312:Int)) (shl .u64 (IntKind.u64.wrap ((i64.wrap (x44+(1023:Int))))) (52:Int)))).toNat)).bind fun x51=>some x51
def Kw(a0:Nat)(a1:Int)(x13:Bool):Option (Nat):=
 bif x13 then (some a0) else ((EQ a0).bind fun x18=>(nn (52:Int)).bind fun _=>bif (decide ((i64.wrap ((i64.wrap (a1+x18.2))+(i64.wrap ((Ej .i64 (i64.wrap ((shr .u64 ((x18.1:Nat):Int) (52:Int)))) (2047:Int)) - (1023:Int)))))< (-1075:Int))) then ((HP (0:Nat) x18.1).bind fun x26=>some x26) else (bif (decide ((i64.wrap ((i64.wrap (a1+x18.2))+(i64.wrap ((Ej .i64 (i64.wrap ((shr .u64 ((x18.1:Nat):Int) (52:Int)))) (2047:Int)) - (1023:Int)))))>(1023:Int))) then (bif (flt_ x18.1 (0:Nat)) then ((Ku (-1:Int)).bind fun x33=>some x33) else ((Ku (1:Int)).bind fun x38=>some x38)) else (bif (decide ((i64.wrap ((i64.wrap (a1+x18.2))+(i64.wrap ((Ej .i64 (i64.wrap ((shr .u64 ((x18.1:Nat):Int) (52:Int)))) (2047:Int)) - (1023:Int)))))< (-1022:Int))) then (Kv x18 (i64.wrap ((i64.wrap ((i64.wrap (a1+x18.2))+(i64.wrap ((Ej .i64 (i64.wrap ((shr .u64 ((x18.1:Nat):Int) (52:Int)))) (2047:Int)) - (1023:Int)))))+(53:Int))) (4368491638549381120:Nat)) else (Kv x18 (i64.wrap ((i64.wrap (a1+x18.2))+(i64.wrap ((Ej .i64 (i64.wrap ((shr .u64 ((x18.1:Nat):Int) (52:Int)))) (2047:Int)) - (1023:Int))))) (4607182418800017408:Nat)))))
def JF(a0:Nat)(a1:Int):Option (Nat):=
 bif (feq a0 (0:Nat)) then (some a0) else ((HD a0 (0:Int)).bind fun x54=>bif x54 then (Kw a0 a1 true) else ((Ga a0).bind fun x60=>Kw a0 a1 x60))
def Ij(a0:Nat)(a1:Int):Option (Nat):=
 (JF a0 a1).bind fun x1=>some x1
def KR(x29:Nat)(x34:(Nat×Int))(x67:Nat)(self1:(Nat→Option (Nat)))(x102:Int):Option (Nat):=
 (Ij x29 (i64.wrap (x102 - x34.2))).bind fun x106=>(FloatKind.f64.format.sub x67 x106).bind fun x111=>self1 x111
def M7(x115:Nat):Option (Nat):=
 some x115
def LX(a0 x29:Nat)(x34:(Nat×Int))(self1:Nat→Option (Nat))(x67:Nat):Option (Nat):=
 bif (fge x67 x29) then ((H4 x67).bind fun x96=>bif (flt_ x96.1 x34.1) then (KR x29 x34 x67 self1 (i64.wrap (x96.2 - (1:Int)))) else (KR x29 x34 x67 self1 x96.2)) else (bif (flt_ a0 (0:Nat)) then (M7 (Op.negFloat .f64 x67)) else (M7 x67))
def Jt(a0 x29:Nat)(x34:(Nat×Int)):Nat→Nat→Option (Nat)
 |0=>fun _=>none
 |k+1=>LX a0 x29 x34 (Jt a0 x29 x34 k)
def LK(N a0 x29:Nat)(x34:(Nat×Int))(x40:Nat):Option (Nat):=
 Jt a0 x29 x34 N x40
def KS(N a0 a1:Nat)(x19:Bool):Option (Nat):=
 bif x19 then ((LW).bind fun x24=>some x24) else ((IB a1).bind fun x29=>(H4 x29).bind fun x34=>bif (flt_ a0 (0:Nat)) then (LK N a0 x29 x34 (Op.negFloat .f64 a0)) else (LK N a0 x29 x34 a0))
def Kx(N a0 a1:Nat):Option (Nat):=
 bif (feq a1 (0:Nat)) then (KS N a0 a1 true) else ((HD a0 (0:Int)).bind fun x122=>bif x122 then (KS N a0 a1 true) else ((Ga a0).bind fun x128=>bif x128 then (KS N a0 a1 true) else ((Ga a1).bind fun x134=>KS N a0 a1 x134)))
def J3(N a0 a1:Nat):Option (Nat):=
 (Kx N a0 a1).bind fun x1=>some x1
def LY(x18:(Nat×Nat))(x20:(Nat×Nat))(x33:Bool):Option ((Nat×Nat)×Int):=
 bif x33 then (some (((0,0):Nat×Nat),(51:Int))) else ((FloatKind.f64.format.div x18.1 x20.1).bind fun x38=>(FloatKind.f64.format.div x18.2 x20.1).bind fun x40=>(Ex (x38,x40)).bind fun x42=>some (x42.1,x42.2))
def LZ(N:Nat)(a0:(Nat×Nat))(a1:(Nat×Nat))(x12:Bool):Option ((Nat×Nat)×Int):=
 bif x12 then (some (((0,0):Nat×Nat),(3:Int))) else (bif (ceq a1 ((0,0):Nat×Nat)) then (some (((0,0):Nat×Nat),(51:Int))) else ((cmul a0 (a1.1,(Op.negFloat .f64 a1.2))).bind fun x18=>(cmul a1 (a1.1,(Op.negFloat .f64 a1.2))).bind fun x20=>(J3 N x18.1 x20.1).bind fun x47=>bif (fne x47 (0:Nat)) then (LY x18 x20 true) else ((J3 N x18.2 x20.1).bind fun x53=>LY x18 x20 (fne x53 (0:Nat)))))
def Jf(N:Nat)(a0:(Nat×Nat))(a1:(Nat×Nat)):Option ((Nat×Nat)×Int):=
 (By a0).bind fun x58=>bif (!x58) then (LZ N a0 a1 true) else ((By a1).bind fun x64=>LZ N a0 a1 (!x64))
def Ky(a0:(Nat×Nat))(a1:(Nat×Nat))(x12:Bool):Option (Bool×Int):=
 bif x12 then (some (false,(3:Int))) else (bif (fne a0.1 a1.1) then (some ((flt_ a0.1 a1.1),(0:Int))) else (some ((flt_ a0.2 a1.2),(0:Int))))
def Ik(a0:(Nat×Nat))(a1:(Nat×Nat)):Option (Bool×Int):=
 (By a0).bind fun x18=>bif (!x18) then (Ky a0 a1 true) else ((By a1).bind fun x24=>Ky a0 a1 (!x24))
def J4(N:Nat)(a0:Int)(a1:(Nat×Nat))(a2:(Nat×Nat)):Option (AI×Int):=
 bif (a0==(8:Int)) then ((Jc a1 a2).bind fun x8=>(Dy x8.1 x8.2).bind fun x13=>some (x13.1,x13.2)) else (bif (a0==(9:Int)) then ((Jd a1 a2).bind fun x33=>(Dy x33.1 x33.2).bind fun x38=>some (x38.1,x38.2)) else (bif (a0==(10:Int)) then ((Je a1 a2).bind fun x58=>(Dy x58.1 x58.2).bind fun x63=>some (x63.1,x63.2)) else (bif (a0==(11:Int)) then ((Jf N a1 a2).bind fun x83=>(Dy x83.1 x83.2).bind fun x88=>some (x88.1,x88.2)) else (bif (a0==(12:Int)) then (some ((AI.mk (2:Int) ((0,0):Nat×Nat) (ceq a1 a2) []),(0:Int))) else ((Ik a1 a2).bind fun x112=>some ((AI.mk (2:Int) ((0,0):Nat×Nat) x112.1 []),x112.2))))))
def IR(x94:Int)(self1:(Int→Option (AI×Int)))(x196:Bool):Option (AI×Int):=
 bif x196 then (some ((AI.mk (0:Int) ((0,0):Nat×Nat) false []),(3:Int))) else (self1 (i64.wrap (x94+(1:Int))))
def Ck(N:Nat)(a0:Int)(a1:(List AI))(x11:(Int×Int))(self1:Int→Option (AI×Int))(x94:Int):Option (AI×Int):=
 bif (decide (x94< (a1.length:Int))) then ((idx a1 x94).bind fun x159=>bif (x159.type_ != x11.2) then (IR x94 self1 true) else ((DL N x159).bind fun x208=>IR x94 self1 (x208 != (0:Int)))) else ((idx a1 (0:Int)).bind fun x213=>bif (a0==(14:Int)) then (some ((AI.mk (2:Int) ((0,0):Nat×Nat) (!x213.bool) []),(0:Int))) else (bif (a0==(15:Int)) then ((Dy (x213.num.1,(0:Nat)) (0:Int)).bind fun x239=>some (x239.1,x239.2)) else (bif (a0==(16:Int)) then ((Dy (x213.num.2,(0:Nat)) (0:Int)).bind fun x259=>some (x259.1,x259.2)) else (bif (a0==(17:Int)) then ((H3 x213.num).bind fun x279=>(Dy x279.1 x279.2).bind fun x284=>some (x284.1,x284.2)) else ((idx a1 (1:Int)).bind fun x303=>(J4 N a0 x213.num x303.num).bind fun x321=>some (x321.1,x321.2))))))
def DY(N:Nat)(a0:Int)(a1:(List AI))(x11:(Int×Int)):Nat→Int→Option (AI×Int)
 |0=>fun _=>none
 |k+1=>Ck N a0 a1 x11 (DY N a0 a1 x11 k)
def L9(N:Nat)(a0:Int)(a1:(List AI))(x11:(Int×Int))(x21:Bool):Option (AI×Int):=
 bif x21 then (some ((AI.mk (0:Int) ((0,0):Nat×Nat) false []),(3:Int))) else (DY N a0 a1 x11 N (0:Int))
def D7(N:Nat)(a0:Int)(a1:(List AI)):Option (AI×Int):=
 (H2 a0).bind fun x11=>bif (x11.1==(0:Int)) then (L9 N a0 a1 x11 true) else (L9 N a0 a1 x11 ((a1.length:Int) != x11.1))
structure AZ where
 mean_run_look:(List AE)→Int→Int→An→AB→Nm→Option ((Except Int Ao)×(List AE)×Int×Int)
 mean_later_1:(List AE)→Int→Int→An→AB→Nm→Option ((Except Int Ao)×(List AE)×Int×Int)
 mean_callth:(List AE)→Int→Int→An→Th→Option ((Except Int Ao)×(List AE)×Int×Int)
 mean_run_parts:(List AE)→Int→Int→An→AB→Nm→Option ((Except Int Ao)×(List AE)×Int×Int)
def Kk(φ:AZ)(ao0_1:(List AE))(ao0_2 ao0_3:Int)(ao1:An)(a1:AB)(a2:Nm):Option ((Except Int Ao)×(List AE)×Int×Int):=
 (φ.mean_run_parts ao0_1 (i64.wrap (ao0_2+(1:Int))) ao0_3 ao1 a1 a2).bind fun x1007=>JO x1007.1 (fun y1021=>some ((Except.error y1021:Except Int Ao),x1007.2.1,x1007.2.2.1,x1007.2.2.2)) fun r1023=>some ((Except.ok r1023:Except Int Ao),x1007.2.1,x1007.2.2.1,x1007.2.2.2)
def I6(φ:AZ)(ao0_1:(List AE))(ao0_2 ao0_3:Int)(ao1:An)(a1:AB)(a2:Nm)(x1151:AE)(self2:Nm→Int→Option ((Except Int Ao)×(List AE)×Int×Int))(x1339:Nm)(x1342:Int):Option ((Except Int Ao)×(List AE)×Int×Int):=
 bif (decide (x1342< (x1151.params.length:Int))) then ((idx x1151.params x1342).bind fun x1497=>(idx a1.args x1342).bind fun x1592=>(JD x1592).bind fun x1611=>self2 (Nm.bind x1497.name (Th.later x1611 a2) x1339) (i64.wrap (x1342+(1:Int)))) else ((φ.mean_run_look ao0_1 (i64.wrap (ao0_2+(1:Int))) ao0_3 ao1 (AB.mk x1151.body.op x1151.body.name x1151.body.tail x1151.body.type_ x1151.body.num x1151.body.args x1151.body.at_) x1339).bind fun x1655=>JO x1655.1 (fun y1669=>some ((Except.error y1669:Except Int Ao),x1655.2.1,x1655.2.2.1,x1655.2.2.2)) fun r1671=>some ((Except.ok r1671:Except Int Ao),x1655.2.1,x1655.2.2.1,x1655.2.2.2))
def GI(φ:AZ)(ao0_1:(List AE))(ao0_2 ao0_3:Int)(ao1:An)(a1:AB)(a2:Nm)(x1151:AE):Nat→Nm→Int→Option ((Except Int Ao)×(List AE)×Int×Int)
 |0=>fun _ _=>none
 |k+1=>I6 φ ao0_1 ao0_2 ao0_3 ao1 a1 a2 x1151 (GI φ ao0_1 ao0_2 ao0_3 ao1 a1 a2 x1151 k)
def CX(φ:AZ)(N:Nat)(ao0_1:(List AE))(ao0_2 ao0_3:Int)(ao1:An)(a1:AB)(a2:Nm):Option ((Except Int Ao)×(List AE)×Int×Int):=
 bif (a1.op==(1:Int)) then (some ((Except.ok (Ao.mk (AI.mk (1:Int) a1.num false []) Th.nil Th.nil):Except Int Ao),ao0_1,(i64.wrap (ao0_2+(1:Int))),ao0_3)) else (bif (a1.op==(2:Int)) then (some ((Except.ok (Ao.mk (AI.mk (2:Int) ((0,0):Nat×Nat) true []) Th.nil Th.nil):Except Int Ao),ao0_1,(i64.wrap (ao0_2+(1:Int))),ao0_3)) else (bif (a1.op==(3:Int)) then (some ((Except.ok (Ao.mk (AI.mk (2:Int) ((0,0):Nat×Nat) false []) Th.nil Th.nil):Except Int Ao),ao0_1,(i64.wrap (ao0_2+(1:Int))),ao0_3)) else (bif (a1.op==(4:Int)) then (some ((Except.ok (Ao.mk (AI.mk (3:Int) ((0,0):Nat×Nat) false []) Th.nil Th.nil):Except Int Ao),ao0_1,(i64.wrap (ao0_2+(1:Int))),ao0_3)) else (bif (a1.op==(5:Int)) then (some ((Except.error (52:Int):Except Int Ao),ao0_1,(i64.wrap (ao0_2+(1:Int))),ao0_3)) else (bif (a1.op==(6:Int)) then ((Dc N a2 a1.name).bind fun x1087=>(φ.mean_callth ao0_1 (i64.wrap (ao0_2+(1:Int))) ao0_3 ao1 x1087).bind fun x1098=>JO x1098.1 (fun y1116=>some ((Except.error y1116:Except Int Ao),x1098.2.1,x1098.2.2.1,x1098.2.2.2)) fun r1118=>some ((Except.ok r1118:Except Int Ao),x1098.2.1,x1098.2.2.1,x1098.2.2.2)) else (bif (a1.op==(7:Int)) then ((idx ao0_1 (Cm ao1 a1.name)).bind fun x1151=>GI φ ao0_1 ao0_2 ao0_3 ao1 a1 a2 x1151 N Nm.nil (0:Int)) else (bif (a1.op==(18:Int)) then ((idx a1.args (0:Int)).bind fun x1946=>(idx a1.args (1:Int)).bind fun x1965=>(JD x1946).bind fun x1983=>(JD x1965).bind fun x2003=>some ((Except.ok (Ao.mk (AI.mk (0:Int) ((0,0):Nat×Nat) false []) (Th.later x1983 a2) (Th.later x2003 a2)):Except Int Ao),ao0_1,(i64.wrap (ao0_2+(1:Int))),ao0_3)) else (Kk φ ao0_1 ao0_2 ao0_3 ao1 a1 a2))))))))
def A7(φ:AZ)(N:Nat)(ao0_1:(List AE))(ao0_2 ao0_3:Int)(ao1:An)(a1:AB)(a2:Nm):Option ((Except Int Ao)×(List AE)×Int×Int):=
 bif (decide (ao0_2≥ao0_3)) then (some ((Except.error (60:Int):Except Int Ao),ao0_1,ao0_2,ao0_3)) else (CX φ N ao0_1 ao0_2 ao0_3 ao1 a1 a2)
def La(φ:AZ)(_N:Nat)(ao0_1:(List AE))(ao0_2 ao0_3:Int)(ao1:An)(a1:AB)(a2:Nm):Option ((Except Int Ao)×(List AE)×Int×Int):=
 (φ.mean_run_look ao0_1 ao0_2 ao0_3 ao1 a1 a2).bind fun x29=>JO x29.1 (fun y43=>some ((Except.error y43:Except Int Ao),x29.2.1,x29.2.2.1,x29.2.2.2)) fun r45=>some ((Except.ok r45:Except Int Ao),x29.2.1,x29.2.2.1,x29.2.2.2)
def Kz(φ:AZ)(_N:Nat)(ao0_1:(List AE))(ao0_2 ao0_3:Int)(ao1:An)(a1:Th):Option ((Except Int Ao)×(List AE)×Int×Int):=
 match a1 with
 | .nil=>none
 | .done p h t=>(I5 ⟨p,h,t⟩).bind fun r=>some ((Except.ok r:Except Int Ao),ao0_1,ao0_2,ao0_3)
 | .later e env=>φ.mean_later_1 ao0_1 ao0_2 ao0_3 ao1 e env
def Lb(x1085:(List AE))(x1089 x1090:Int)(x1312:(AI×Int)):Option ((Except Int Ao)×(List AE)×Int×Int):=
 some ((Except.ok (Ao.mk x1312.1 Th.nil Th.nil):Except Int Ao),x1085,x1089,x1090)
def BM(φ:AZ)(N:Nat)(ao1:An)(a1:AB)(a2:Nm)(self1:(List AI)→Int→(List AE)→Int→Int→Option ((Except Int Ao)×(List AE)×Int×Int))(x1080:(List AI))(x1084:Int)(x1085:(List AE))(x1089 x1090:Int):Option ((Except Int Ao)×(List AE)×Int×Int):=
 bif (decide (x1084< (a1.args.length:Int))) then ((idx a1.args x1084).bind fun x1214=>(φ.mean_run_look x1085 x1089 x1090 ao1 x1214 a2).bind fun x1249=>JO x1249.1 (fun y1263=>some ((Except.error y1263:Except Int Ao),x1249.2.1,x1249.2.2.1,x1249.2.2.2)) fun r1265=>(Ft 56 x1080 ([(AI.mk r1265.plain.type_ r1265.plain.num r1265.plain.bool r1265.plain.list)]:List AI)).bind fun _=>self1 (x1080++([(AI.mk r1265.plain.type_ r1265.plain.num r1265.plain.bool r1265.plain.list)]:List AI)) (i64.wrap (x1084+(1:Int))) x1249.2.1 x1249.2.2.1 x1249.2.2.2) else ((D7 N a1.op x1080).bind fun x1312=>bif (x1312.2 != (0:Int)) then (some ((Except.error x1312.2:Except Int Ao),x1085,x1089,x1090)) else (Lb x1085 x1089 x1090 x1312))
def DN(φ:AZ)(N:Nat)(ao1:An)(a1:AB)(a2:Nm):Nat→(List AI)→Int→(List AE)→Int→Int→Option ((Except Int Ao)×(List AE)×Int×Int)
 |0=>fun _ _ _ _ _=>none
 |k+1=>BM φ N ao1 a1 a2 (DN φ N ao1 a1 a2 k)
def A0(φ:AZ)(N:Nat)(ao0_1:(List AE))(ao0_2 ao0_3:Int)(ao1:An)(a1:AB)(a2:Nm):Option ((Except Int Ao)×(List AE)×Int×Int):=
 bif (a1.op==(19:Int)) then ((idx a1.args (0:Int)).bind fun x28=>(φ.mean_run_look ao0_1 ao0_2 ao0_3 ao1 x28 a2).bind fun x51=>JO x51.1 (fun y65=>some ((Except.error y65:Except Int Ao),x51.2.1,x51.2.2.1,x51.2.2.2)) fun r67=>bif r67.plain.bool then ((idx a1.args (1:Int)).bind fun x86=>(φ.mean_run_look x51.2.1 x51.2.2.1 x51.2.2.2 ao1 x86 a2).bind fun x107=>JO x107.1 (fun y121=>some ((Except.error y121:Except Int Ao),x107.2.1,x107.2.2.1,x107.2.2.2)) fun r123=>some ((Except.ok r123:Except Int Ao),x107.2.1,x107.2.2.1,x107.2.2.2)) else ((idx a1.args (2:Int)).bind fun x151=>(φ.mean_run_look x51.2.1 x51.2.2.1 x51.2.2.2 ao1 x151 a2).bind fun x172=>JO x172.1 (fun y186=>some ((Except.error y186:Except Int Ao),x172.2.1,x172.2.2.1,x172.2.2.2)) fun r188=>some ((Except.ok r188:Except Int Ao),x172.2.1,x172.2.2.1,x172.2.2.2))) else (bif (a1.op==(20:Int)) then ((idx a1.args (0:Int)).bind fun x216=>(φ.mean_run_look ao0_1 ao0_2 ao0_3 ao1 x216 a2).bind fun x239=>JO x239.1 (fun y253=>some ((Except.error y253:Except Int Ao),x239.2.1,x239.2.2.1,x239.2.2.2)) fun r255=>bif (Th.isNil r255.head) then ((idx a1.args (1:Int)).bind fun x286=>(φ.mean_run_look x239.2.1 x239.2.2.1 x239.2.2.2 ao1 x286 a2).bind fun x309=>JO x309.1 (fun y323=>some ((Except.error y323:Except Int Ao),x309.2.1,x309.2.2.1,x309.2.2.2)) fun r325=>some ((Except.ok r325:Except Int Ao),x309.2.1,x309.2.2.1,x309.2.2.2)) else ((idx a1.args (2:Int)).bind fun x493=>(φ.mean_run_look x239.2.1 x239.2.2.1 x239.2.2.2 ao1 x493 (Nm.bind a1.tail r255.tail (Nm.bind a1.name r255.head a2))).bind fun x536=>JO x536.1 (fun y550=>some ((Except.error y550:Except Int Ao),x536.2.1,x536.2.2.1,x536.2.2.2)) fun r552=>some ((Except.ok r552:Except Int Ao),x536.2.1,x536.2.2.1,x536.2.2.2))) else (bif (a1.op==(21:Int)) then ((idx a1.args (0:Int)).bind fun x587=>(JD x587).bind fun x606=>(idx a1.args (1:Int)).bind fun x631=>(φ.mean_run_look ao0_1 ao0_2 ao0_3 ao1 x631 (Nm.letrec a1.name x606 a2)).bind fun x662=>JO x662.1 (fun y676=>some ((Except.error y676:Except Int Ao),x662.2.1,x662.2.2.1,x662.2.2.2)) fun r678=>some ((Except.ok r678:Except Int Ao),x662.2.1,x662.2.2.1,x662.2.2.2)) else (bif (a1.op==(22:Int)) then ((idx a1.args (0:Int)).bind fun x706=>(φ.mean_run_look ao0_1 ao0_2 ao0_3 ao1 x706 a2).bind fun x729=>JO x729.1 (fun y743=>some ((Except.error y743:Except Int Ao),x729.2.1,x729.2.2.1,x729.2.2.2)) fun r745=>(idx a1.args (1:Int)).bind fun x880=>(IX r745).bind fun x903=>(φ.mean_run_look x729.2.1 x729.2.2.1 x729.2.2.2 ao1 x880 (Nm.bind a1.name x903 a2)).bind fun x927=>JO x927.1 (fun y941=>some ((Except.error y941:Except Int Ao),x927.2.1,x927.2.2.1,x927.2.2.2)) fun r943=>some ((Except.ok r943:Except Int Ao),x927.2.1,x927.2.2.1,x927.2.2.2)) else (DN φ N ao1 a1 a2 N ([]:List AI) (0:Int) ao0_1 ao0_2 ao0_3))))
def AZ.at:Nat→AZ
 |0=>⟨fun _ _ _ _ _ _=>none,fun _ _ _ _ _ _=>none,fun _ _ _ _ _=>none,fun _ _ _ _ _ _=>none⟩
 |n+1=>⟨A7 (AZ.at n) n,La (AZ.at n) n,Kz (AZ.at n) n,A0 (AZ.at n) n⟩
def mean_run_look(N:Nat):(List AE)→Int→Int→An→AB→Nm→Option ((Except Int Ao)×(List AE)×Int×Int):=(AZ.at N).mean_run_look
def mean_later_1(N:Nat):(List AE)→Int→Int→An→AB→Nm→Option ((Except Int Ao)×(List AE)×Int×Int):=(AZ.at N).mean_later_1
def mean_callth(N:Nat):(List AE)→Int→Int→An→Th→Option ((Except Int Ao)×(List AE)×Int×Int):=(AZ.at N).mean_callth
def mean_run_parts(N:Nat):(List AE)→Int→Int→An→AB→Nm→Option ((Except Int Ao)×(List AE)×Int×Int):=(AZ.at N).mean_run_parts
def CY(N:Nat)(ao1:An)(self1:(List AE)→Int→Int→Int→(Nat×Nat)→Bool→(List (Nat×Nat))→Th→Th→(List (Nat×Nat))→Option ((Except Int AI)×(List AE)×Int×Int))(x283:(List AE))(x287 x288 _x289:Int)(_x290:(Nat×Nat))(_x291:Bool)(_x292:(List (Nat×Nat)))(x296 x299:Th)(x302:(List (Nat×Nat))):Option ((Except Int AI)×(List AE)×Int×Int):=
 bif (!(Th.isNil x296)) then ((mean_callth N x283 x287 x288 ao1 x296).bind fun x661=>JO x661.1 (fun y679=>some ((Except.error y679:Except Int AI),x661.2.1,x661.2.2.1,x661.2.2.2)) fun r681=>(Ft 16 x302 ([r681.plain.num]:List (Nat×Nat))).bind fun _=>(mean_callth N x661.2.1 x661.2.2.1 x661.2.2.2 ao1 x299).bind fun x730=>JO x730.1 (fun y748=>some ((Except.error y748:Except Int AI),x730.2.1,x730.2.2.1,x730.2.2.2)) fun r750=>self1 x730.2.1 x730.2.2.1 x730.2.2.2 r750.plain.type_ r750.plain.num r750.plain.bool r750.plain.list r750.head r750.tail (x302++([r681.plain.num]:List (Nat×Nat)))) else (some ((Except.ok (AI.mk (3:Int) ((0,0):Nat×Nat) false x302):Except Int AI),x283,x287,x288))
def Dp(N:Nat)(ao1:An):Nat→(List AE)→Int→Int→Int→(Nat×Nat)→Bool→(List (Nat×Nat))→Th→Th→(List (Nat×Nat))→Option ((Except Int AI)×(List AE)×Int×Int)
 |0=>fun _ _ _ _ _ _ _ _ _ _=>none
 |k+1=>CY N ao1 (Dp N ao1 k)
def D8(N:Nat)(ao0_1:(List AE))(ao0_2 ao0_3:Int)(ao1:An)(a1:Ao):Option ((Except Int AI)×(List AE)×Int×Int):=
 bif (Th.isNil a1.head) then (some ((Except.ok (AI.mk a1.plain.type_ a1.plain.num a1.plain.bool a1.plain.list):Except Int AI),ao0_1,ao0_2,ao0_3)) else (Dp N ao1 N ao0_1 ao0_2 ao0_3 a1.plain.type_ a1.plain.num a1.plain.bool a1.plain.list a1.head a1.tail ([]:List (Nat×Nat)))
def Lc(N:Nat)(x239:AE)(x421:Nm)(x424:Int)(self2:(Nm→Int→Option (BX)))(x560:AI)(x614:Bool):Option (BX):=
 bif x614 then (some (BX.mk (40:Int) (AI.mk (0:Int) ((0,0):Nat×Nat) false []) (0:Int) (0:Int) (0:Int) (0:Int))) else ((idx x239.params x424).bind fun x627=>(Ii N x560).bind fun x642=>self2 (Nm.bind x627.name x642 x421) (i64.wrap (x424+(1:Int))))
def Fq(N:Nat)(a0:AM)(a2:(List AI))(a3:Int)(x120:An)(x239:AE)(self2:Nm→Int→Option (BX))(x421:Nm)(x424:Int):Option (BX):=
 bif (decide (x424< (a2.length:Int))) then ((idx a2 x424).bind fun x560=>(idx x239.params x424).bind fun x666=>bif (x560.type_ != x666.type_) then (Lc N x239 x421 x424 self2 x560 true) else ((DL N x560).bind fun x681=>Lc N x239 x421 x424 self2 x560 (x681 != (0:Int)))) else ((mean_run_look N a0.funcs (0:Int) (if (16384:Int)< (if a3< (0:Int) then (0:Int) else a3) then (16384:Int) else (if a3< (0:Int) then (0:Int) else a3)) x120 (AB.mk x239.body.op x239.body.name x239.body.tail x239.body.type_ x239.body.num x239.body.args x239.body.at_) x421).bind fun x699=>JO x699.1 (fun y713=>some (BX.mk y713 (AI.mk (0:Int) ((0,0):Nat×Nat) false []) x699.2.2.1 (0:Int) (0:Int) (0:Int))) fun r715=>(D8 N x699.2.1 x699.2.2.1 x699.2.2.2 x120 r715).bind fun x757=>JO x757.1 (fun y771=>some (BX.mk y771 (AI.mk (0:Int) ((0,0):Nat×Nat) false []) x757.2.2.1 (0:Int) (0:Int) (0:Int))) fun r773=>some (BX.mk (0:Int) r773 x757.2.2.1 (0:Int) (0:Int) (0:Int)))
def Ee(N:Nat)(a0:AM)(a2:(List AI))(a3:Int)(x120:An)(x239:AE):Nat→Nm→Int→Option (BX)
 |0=>fun _ _=>none
 |k+1=>Fq N a0 a2 a3 x120 x239 (Ee N a0 a2 a3 x120 x239 k)
def JG(N:Nat)(a0:AM)(a1:Bts)(a2:(List AI))(a3:Int)(self1:Int→An→Option (BX))(x119:Int)(x120:An):Option (BX):=
 bif (decide (x119< (a0.funcs.length:Int))) then ((idx a0.funcs x119).bind fun x183=>self1 (i64.wrap (x119+(1:Int))) (Lq x183.name x119 x120)) else (bif (!(OA x120 a1)) then (some (BX.mk (32:Int) (AI.mk (0:Int) ((0,0):Nat×Nat) false []) (0:Int) (0:Int) (0:Int) (0:Int))) else ((idx a0.funcs (Cm x120 a1)).bind fun x239=>bif ((a2.length:Int) != (x239.params.length:Int)) then (some (BX.mk (40:Int) (AI.mk (0:Int) ((0,0):Nat×Nat) false []) (0:Int) (0:Int) (0:Int) (0:Int))) else (Ee N a0 a2 a3 x120 x239 N Nm.nil (0:Int))))
def I7(N:Nat)(a0:AM)(a1:Bts)(a2:(List AI))(a3:Int):Nat→Int→An→Option (BX)
 |0=>fun _ _=>none
 |k+1=>JG N a0 a1 a2 a3 (I7 N a0 a1 a2 a3 k)
def FP(N:Nat)(a0:AM)(a1:Bts)(a2:(List AI))(a3:Int):Option (BX):=
 (Gs N a0).bind fun x25=>bif (x25.why != (0:Int)) then (some (BX.mk (3:Int) (AI.mk (0:Int) ((0,0):Nat×Nat) false []) (0:Int) (0:Int) (0:Int) (0:Int))) else (I7 N a0 a1 a2 a3 N (0:Int) ([]:An))
def Gb(x106:Bool):Option (Bool):=
 some x106
def Hk(N:Nat):Option (Bool):=
 (B9 N (Ea.mk ([(102:UInt8),(40:UInt8),(120:UInt8),(32:UInt8),(78:UInt8),(41:UInt8),(58:UInt8),(78:UInt8),(61:UInt8),(120:UInt8),(43:UInt8),(120:UInt8),(59:UInt8),(103:UInt8),(40:UInt8),(41:UInt8),(58:UInt8),(78:UInt8),(61:UInt8),(102:UInt8),(40:UInt8),(49:UInt8),(43:UInt8),(50:UInt8),(41:UInt8),(59:UInt8)]:List UInt8) ([103]:List UInt8) ([]:List UInt8))).bind fun x16=>(FP N x16.1 ([103]:List UInt8) x16.2.1 (99:Int)).bind fun x48=>(FP N x16.1 ([103]:List UInt8) x16.2.1 (9:Int)).bind fun x75=>bif x16.2.2 then (bif (x48.why==(0:Int)) then (bif (x48.value.type_==(1:Int)) then (bif (ceq x48.value.num ((4618441417868443648,0):Nat×Nat)) then (bif (x48.moves==(10:Int)) then (bif (x75.why==(60:Int)) then (Gb (x75.moves==(9:Int))) else (Gb false)) else (Gb false)) else (Gb false)) else (Gb false)) else (Gb false)) else (Gb false)
def J5(a0:AM)(a1:Bts)(self1:Int→Option (Int))(x48:Int):Option (Int):=
 bif (decide (x48< (a0.funcs.length:Int))) then ((idx a0.funcs x48).bind fun x94=>bif (x94.name==a1) then (some x48) else (self1 (i64.wrap (x48+(1:Int))))) else (some (-1:Int))
def Il(a0:AM)(a1:Bts):Nat→Int→Option (Int)
 |0=>fun _=>none
 |k+1=>J5 a0 a1 (Il a0 a1 k)
def Gu(N:Nat)(a0:AM)(a1:Bts):Option (Int):=
 Il a0 a1 N (0:Int)
def K0(a0:(List Bts))(a1:Bts)(self1:Int→Option (Bool))(x27:Int):Option (Bool):=
 bif (decide (x27< (a0.length:Int))) then ((idx a0 x27).bind fun x59=>bif (x59==a1) then (some true) else (self1 (i64.wrap (x27+(1:Int))))) else (some false)
def Jx(a0:(List Bts))(a1:Bts):Nat→Int→Option (Bool)
 |0=>fun _=>none
 |k+1=>K0 a0 a1 (Jx a0 a1 k)
def GJ(N:Nat)(a0:(List Bts))(a1:Bts):Option (Bool):=
 Jx a0 a1 N (0:Int)
def Lf(a0:AB)(x37:Bool):Option ((List Bts)):=
 bif x37 then (some ([a0.name,a0.tail]:List Bts)) else (some [])
def KT(a0:AB)(a1:Int)(x15:Bool):Option ((List Bts)):=
 bif x15 then (some ([a0.name]:List Bts)) else (bif (a0.op==(20:Int)) then (Lf a0 (a1==(2:Int))) else (Lf a0 false))
def IS(a0:AB)(a1:Int):Option ((List Bts)):=
 bif (a0.op==(21:Int)) then (KT a0 a1 (a0.op==(21:Int))) else (bif (a0.op==(22:Int)) then (KT a0 a1 (a1==(1:Int))) else (KT a0 a1 false))
def H5(a0:(List Bts))(a1:(List Bts)):Option ((List Bts)):=
 (Ft 16 ([]:List Bts) a0).bind fun _=>(Ft 16 (([]:List Bts)++a0) a1).bind fun _=>some ((([]:List Bts)++a0)++a1)
structure BS where
 ref06_seen:AB→(List Bts)→Option ((List A5))
def Im(φ:BS)(a0:AB)(a1:(List Bts))(self1:(List A5)→Int→Option ((List A5)))(x197:(List A5))(x201:Int):Option ((List A5)):=
 bif (decide (x201< (a0.args.length:Int))) then ((IS a0 x201).bind fun x296=>(H5 a1 x296).bind fun x308=>(idx a0.args x201).bind fun x320=>(φ.ref06_seen x320 x308).bind fun x339=>(Ft 104 x197 x339).bind fun _=>self1 (x197++x339) (i64.wrap (x201+(1:Int)))) else (some x197)
def IT(φ:BS)(a0:AB)(a1:(List Bts)):Nat→(List A5)→Int→Option ((List A5))
 |0=>fun _ _=>none
 |k+1=>Im φ a0 a1 (IT φ a0 a1 k)
def JH(φ:BS)(N:Nat)(a0:AB)(a1:(List Bts))(x108:(List A5)):Option ((List A5)):=
 IT φ a0 a1 N x108 (0:Int)
def K1(φ:BS)(N:Nat)(a0:AB)(a1:(List Bts))(x367:Bool):Option ((List A5)):=
 bif x367 then (bif (a0.op==(6:Int)) then ((GJ N a1 a0.name).bind fun x405=>(Ft 104 ([]:List A5) ([(A5.mk a0 (!x405))]:List A5)).bind fun _=>JH φ N a0 a1 (([]:List A5)++([(A5.mk a0 (!x405))]:List A5))) else ((Ft 104 ([]:List A5) ([(A5.mk a0 false)]:List A5)).bind fun _=>JH φ N a0 a1 (([]:List A5)++([(A5.mk a0 false)]:List A5)))) else (JH φ N a0 a1 ([]:List A5))
def Kl(φ:BS)(N:Nat)(a0:AB)(a1:(List Bts)):Option ((List A5)):=
 bif (a0.op==(6:Int)) then (K1 φ N a0 a1 true) else (K1 φ N a0 a1 (a0.op==(7:Int)))
def BS.at:Nat→BS
 |0=>⟨fun _ _=>none⟩
 |n+1=>⟨Kl (BS.at n) n⟩
def ref06_seen(N:Nat):AB→(List Bts)→Option ((List A5)):=(BS.at N).ref06_seen
def Iu(x3569:AE)(x3797:(List Bts))(x3801:Int)(self6:((List AF)→(List Bts)→Int→Option ((List AF))))(x4031:(List AF)):Option ((List AF)):=
 (idx x3569.params x3801).bind fun x4041=>(Ft 16 x3797 ([x4041.name]:List Bts)).bind fun _=>self6 x4031 (x3797++([x4041.name]:List Bts)) (i64.wrap (x3801+(1:Int)))
def Fx(x4528:Int)(self7:((List AF)→Int→Option ((List AF))))(x5102:(List AF)):Option ((List AF)):=
 self7 x5102 (i64.wrap (x4528+(1:Int)))
def Fy(N:Nat)(a0:AM)(x4528:Int)(self7:((List AF)→Int→Option ((List AF))))(x5111:A5)(x5164:(List AF)):Option ((List AF)):=
 bif (x5111.e.op != (7:Int)) then (Fx x4528 self7 x5164) else ((Gu N a0 x5111.e.name).bind fun x5177=>bif (decide (x5177< (0:Int))) then ((Ft 16 x5164 ([(AF.mk (32:Int) x5111.e.at_)]:List AF)).bind fun _=>Fx x4528 self7 (x5164++([(AF.mk (32:Int) x5111.e.at_)]:List AF))) else ((idx a0.funcs x5177).bind fun x5209=>bif ((x5209.params.length:Int) != (x5111.e.args.length:Int)) then ((Ft 16 x5164 ([(AF.mk (33:Int) x5111.e.at_)]:List AF)).bind fun _=>Fx x4528 self7 (x5164++([(AF.mk (33:Int) x5111.e.at_)]:List AF))) else (Fx x4528 self7 x5164)))
def FQ(N:Nat)(a0:AM)(x1785:Int)(self5:((List AF)→Int→Option ((List AF))))(x4132:((List A5)))(self7:(List AF)→Int→Option ((List AF)))(x4524:(List AF))(x4528:Int):Option ((List AF)):=
 bif (decide (x4528< (x4132.length:Int))) then ((idx x4132 x4528).bind fun x5111=>bif x5111.free then ((Ft 16 x4524 ([(AF.mk (31:Int) x5111.e.at_)]:List AF)).bind fun _=>Fy N a0 x4528 self7 x5111 (x4524++([(AF.mk (31:Int) x5111.e.at_)]:List AF))) else (Fy N a0 x4528 self7 x5111 x4524)) else (self5 x4524 (i64.wrap (x1785+(1:Int))))
def D5(N:Nat)(a0:AM)(x1785:Int)(self5:((List AF)→Int→Option ((List AF))))(x4132:((List A5))):Nat→(List AF)→Int→Option ((List AF))
 |0=>fun _ _=>none
 |k+1=>FQ N a0 x1785 self5 x4132 (D5 N a0 x1785 self5 x4132 k)
def FR(N:Nat)(a0:AM)(x1785:Int)(self5:((List AF)→Int→Option ((List AF))))(x3569:AE)(self6:(List AF)→(List Bts)→Int→Option ((List AF)))(x3793:(List AF))(x3797:(List Bts))(x3801:Int):Option ((List AF)):=
 bif (decide (x3801< (x3569.params.length:Int))) then ((idx x3569.params x3801).bind fun x4077=>(GJ N x3797 x4077.name).bind fun x4094=>bif x4094 then ((Ft 16 x3793 ([(AF.mk (30:Int) x4077.at_)]:List AF)).bind fun _=>Iu x3569 x3797 x3801 self6 (x3793++([(AF.mk (30:Int) x4077.at_)]:List AF))) else (Iu x3569 x3797 x3801 self6 x3793)) else ((ref06_seen N (AB.mk x3569.body.op x3569.body.name x3569.body.tail x3569.body.type_ x3569.body.num x3569.body.args x3569.body.at_) x3797).bind fun x4132=>D5 N a0 x1785 self5 x4132 N x3793 (0:Int))
def ER(N:Nat)(a0:AM)(x1785:Int)(self5:((List AF)→Int→Option ((List AF))))(x3569:AE):Nat→(List AF)→(List Bts)→Int→Option ((List AF))
 |0=>fun _ _ _=>none
 |k+1=>FR N a0 x1785 self5 x3569 (ER N a0 x1785 self5 x3569 k)
def Iv(N:Nat)(a0:AM)(x1785:Int)(self5:((List AF)→Int→Option ((List AF))))(x3569:AE)(x3636:(List AF)):Option ((List AF)):=
 ER N a0 x1785 self5 x3569 N x3636 ([]:List Bts) (0:Int)
def HE(N:Nat)(a0:AM)(self5:(List AF)→Int→Option ((List AF)))(x1781:(List AF))(x1785:Int):Option ((List AF)):=
 bif (decide (x1785< (a0.funcs.length:Int))) then ((idx a0.funcs x1785).bind fun x3569=>(Gu N a0 x3569.name).bind fun x5294=>bif (decide (x5294<x1785)) then ((Ft 16 x1781 ([(AF.mk (30:Int) x3569.at_)]:List AF)).bind fun _=>Iv N a0 x1785 self5 x3569 (x1781++([(AF.mk (30:Int) x3569.at_)]:List AF))) else (Iv N a0 x1785 self5 x3569 x1781)) else (some x1781)
def ES(N:Nat)(a0:AM):Nat→(List AF)→Int→Option ((List AF))
 |0=>fun _ _=>none
 |k+1=>HE N a0 (ES N a0 k)
def HQ(N:Nat)(a0:AM):Option ((List AF)):=
 ES N a0 N ([]:List AF) (0:Int)
def KU(x171:Int)(self1:(Int→Int→Int→Option (AF)))(x377 x378:Int):Option (AF):=
 self1 (i64.wrap (x171+(1:Int))) x377 x378
def KV(x21:((List AF)))(x171 x172 x173:Int)(self1:(Int→Int→Int→Option (AF)))(x401:Bool):Option (AF):=
 bif x401 then ((idx x21 x171).bind fun x406=>KU x171 self1 x406.why x406.at_) else (KU x171 self1 x172 x173)
def H6(x21:((List AF)))(self1:Int→Int→Int→Option (AF))(x171 x172 x173:Int):Option (AF):=
 bif (decide (x171< (x21.length:Int))) then (bif (x172==(0:Int)) then (KV x21 x171 x172 x173 self1 true) else ((idx x21 x171).bind fun x429=>KV x21 x171 x172 x173 self1 (decide (x429.at_<x173)))) else (some (AF.mk x172 x173))
def Hl(x21:((List AF))):Nat→Int→Int→Int→Option (AF)
 |0=>fun _ _ _=>none
 |k+1=>H6 x21 (Hl x21 k)
def Hm(N:Nat)(a0:AM):Option (AF):=
 (HQ N a0).bind fun x21=>Hl x21 N (0:Int) (0:Int) (0:Int)
def KW(a0:AM)(a1:Bts)(self1:Int→Option (AE×Bool))(x59:Int):Option (AE×Bool):=
 bif (decide (x59< (a0.funcs.length:Int))) then ((idx a0.funcs x59).bind fun x110=>bif (x110.name==a1) then (some (x110,true)) else (self1 (i64.wrap (x59+(1:Int))))) else (some ((AE.mk ([]:List UInt8) [] (0:Int) (AB.mk (0:Int) ([]:List UInt8) ([]:List UInt8) (0:Int) ((0,0):Nat×Nat) [] (0:Int)) (0:Int)),false))
def JI(a0:AM)(a1:Bts):Nat→Int→Option (AE×Bool)
 |0=>fun _=>none
 |k+1=>KW a0 a1 (JI a0 a1 k)
def Ey(N:Nat)(a0:AM)(a1:Bts):Option (AE×Bool):=
 JI a0 a1 N (0:Int)
def K5(a1:(List AK))(a2:AB)(self1:Int→Option (Int))(x85:Int):Option (Int):=
 bif (decide (x85≥(0:Int))) then ((idx a1 x85).bind fun x115=>bif (x115.name==a2.name) then (some x115.type_) else (self1 (i64.wrap (x85 - (1:Int))))) else (some (-1:Int))
def Jy(a1:(List AK))(a2:AB):Nat→Int→Option (Int)
 |0=>fun _=>none
 |k+1=>K5 a1 a2 (Jy a1 a2 k)
def Lg(x134:(AE×Bool))(x175:Bool):Option (Int):=
 bif x175 then (some (-1:Int)) else (some x134.1.type_)
def Km(N:Nat)(a0:AM)(a1:(List AK))(a2:AB)(x51:Bool):Option (Int):=
 bif x51 then (some (3:Int)) else (bif (a2.op==(5:Int)) then (some a2.type_) else (bif (a2.op==(6:Int)) then (Jy a1 a2 N (i64.wrap ((a1.length:Int) - (1:Int)))) else (bif (a2.op==(7:Int)) then ((Ey N a0 a2.name).bind fun x134=>bif (!x134.2) then (Lg x134 true) else (Lg x134 ((x134.1.params.length:Int) != (a2.args.length:Int)))) else (some (0:Int)))))
def IJ(N:Nat)(a0:AM)(a1:(List AK))(a2:AB)(x45:Bool):Option (Int):=
 bif x45 then (some (2:Int)) else (bif (a2.op==(4:Int)) then (Km N a0 a1 a2 (a2.op==(4:Int))) else (Km N a0 a1 a2 (a2.op==(18:Int))))
def FS(N:Nat)(a0:AM)(a1:(List AK))(a2:AB)(x36:Bool):Option (Int):=
 bif x36 then (some (1:Int)) else (bif (a2.op==(2:Int)) then (IJ N a0 a1 a2 (a2.op==(2:Int))) else (bif (a2.op==(3:Int)) then (IJ N a0 a1 a2 (a2.op==(3:Int))) else (bif (a2.op==(12:Int)) then (IJ N a0 a1 a2 (a2.op==(12:Int))) else (bif (a2.op==(13:Int)) then (IJ N a0 a1 a2 (a2.op==(13:Int))) else (IJ N a0 a1 a2 (a2.op==(14:Int)))))))
def Jg(N:Nat)(a0:AM)(a1:(List AK))(a2:AB):Option (Int):=
 bif (a2.op==(1:Int)) then (FS N a0 a1 a2 (a2.op==(1:Int))) else (bif (a2.op==(8:Int)) then (FS N a0 a1 a2 (a2.op==(8:Int))) else (bif (a2.op==(9:Int)) then (FS N a0 a1 a2 (a2.op==(9:Int))) else (bif (a2.op==(10:Int)) then (FS N a0 a1 a2 (a2.op==(10:Int))) else (bif (a2.op==(11:Int)) then (FS N a0 a1 a2 (a2.op==(11:Int))) else (bif (a2.op==(15:Int)) then (FS N a0 a1 a2 (a2.op==(15:Int))) else (bif (a2.op==(16:Int)) then (FS N a0 a1 a2 (a2.op==(16:Int))) else (FS N a0 a1 a2 (a2.op==(17:Int)))))))))
def HF(a0:(List AK))(a1:Bts)(a2:Int):Option ((List AK)):=
 (Ft 32 ([]:List AK) a0).bind fun _=>(Ft 32 (([]:List AK)++a0) ([(AK.mk a1 a2 (0:Int))]:List AK)).bind fun _=>some ((([]:List AK)++a0)++([(AK.mk a1 a2 (0:Int))]:List AK))
def J6(a0:(List AK))(a1:AB)(x39:Bool):Option ((List AK)):=
 bif x39 then ((HF a0 a1.name (1:Int)).bind fun x46=>(HF x46 a1.tail (3:Int)).bind fun x58=>some x58) else (some a0)
def Iw(a0:(List AK))(a1:AB)(a2:Int)(x19:Bool):Option ((List AK)):=
 bif x19 then ((HF a0 a1.name a1.type_).bind fun x26=>some x26) else (bif (a1.op==(20:Int)) then (J6 a0 a1 (a2==(2:Int))) else (J6 a0 a1 false))
def Gc(a0:(List AK))(a1:AB)(a2:Int):Option ((List AK)):=
 bif (a1.op==(21:Int)) then (Iw a0 a1 a2 (a1.op==(21:Int))) else (bif (a1.op==(22:Int)) then (Iw a0 a1 a2 (a2==(1:Int))) else (Iw a0 a1 a2 false))
def Iy:Option (Int):=
 some (1:Int)
def J7(a2:Int)(x113:(AE×Bool))(x149:Bool):Option (Int):=
 bif x149 then ((idx x113.1.params a2).bind fun x155=>some x155.type_) else (Iy)
def J8(a1:AB)(a2 a3:Int)(x178:Bool):Option (Int):=
 bif x178 then (bif (a2==(0:Int)) then (some a1.type_) else (some a3)) else (Iy)
def Gd(N:Nat)(a0:AM)(a1:AB)(a2 a3:Int):Option (Int):=
 bif (a1.op==(14:Int)) then (some (2:Int)) else (bif (a1.op==(18:Int)) then (bif (a2==(1:Int)) then (some (3:Int)) else (Iy)) else (bif (a1.op==(7:Int)) then ((Ey N a0 a1.name).bind fun x113=>bif x113.2 then (J7 a2 x113 (decide (a2< (x113.1.params.length:Int)))) else (J7 a2 x113 false)) else (bif (a1.op==(19:Int)) then (bif (a2==(0:Int)) then (some (2:Int)) else (some a3)) else (bif (a1.op==(20:Int)) then (bif (a2==(0:Int)) then (some (3:Int)) else (some a3)) else (bif (a1.op==(21:Int)) then (J8 a1 a2 a3 (a1.op==(21:Int))) else (J8 a1 a2 a3 (a1.op==(22:Int))))))))
structure BH where
 ref07_wrong:AM→(List AK)→AB→Int→Option ((List Int))
def H7(φ:BH)(N:Nat)(a0:AM)(a1:(List AK))(a2:AB)(a3:Int)(self1:(List Int)→Int→Option ((List Int)))(x159:(List Int))(x163:Int):Option ((List Int)):=
 bif (decide (x163< (a2.args.length:Int))) then ((idx a2.args x163).bind fun x264=>(Gc a1 a2 x163).bind fun x284=>(Gd N a0 a2 x163 a3).bind fun x297=>(φ.ref07_wrong a0 x284 x264 x297).bind fun x305=>(Ft 8 x159 x305).bind fun _=>self1 (x159++x305) (i64.wrap (x163+(1:Int)))) else (some x159)
def Hn(φ:BH)(N:Nat)(a0:AM)(a1:(List AK))(a2:AB)(a3:Int):Nat→(List Int)→Int→Option ((List Int))
 |0=>fun _ _=>none
 |k+1=>H7 φ N a0 a1 a2 a3 (Hn φ N a0 a1 a2 a3 k)
def Jh(φ:BH)(N:Nat)(a0:AM)(a1:(List AK))(a2:AB)(a3:Int)(x68:(List Int)):Option ((List Int)):=
 Hn φ N a0 a1 a2 a3 N x68 (0:Int)
def KX(φ:BH)(N:Nat)(a0:AM)(a1:(List AK))(a2:AB)(a3:Int)(x333:Bool):Option ((List Int)):=
 bif x333 then ((Ft 8 ([]:List Int) ([a2.at_]:List Int)).bind fun _=>Jh φ N a0 a1 a2 a3 (([]:List Int)++([a2.at_]:List Int))) else (Jh φ N a0 a1 a2 a3 ([]:List Int))
def KE(φ:BH)(N:Nat)(a0:AM)(a1:(List AK))(a2:AB)(a3:Int):Option ((List Int)):=
 (Jg N a0 a1 a2).bind fun x33=>bif (x33 != (0:Int)) then (KX φ N a0 a1 a2 a3 (x33 != a3)) else (KX φ N a0 a1 a2 a3 false)
def BH.at:Nat→BH
 |0=>⟨fun _ _ _ _=>none⟩
 |n+1=>⟨KE (BH.at n) n⟩
def ref07_wrong(N:Nat):AM→(List AK)→AB→Int→Option ((List Int)):=(BH.at N).ref07_wrong
def In(x1145:Int)(self4:(Int→Int→Int→Option (AF)))(x1351 x1352:Int):Option (AF):=
 self4 (i64.wrap (x1145+(1:Int))) x1351 x1352
def Io(x1001:((List Int)))(x1145 x1146 x1147:Int)(self4:(Int→Int→Int→Option (AF)))(x1375:Bool):Option (AF):=
 bif x1375 then ((idx x1001 x1145).bind fun x1380=>In x1145 self4 (34:Int) x1380) else (In x1145 self4 x1146 x1147)
def EU(x500:Int)(self3:(Int→Int→Int→Option (AF)))(x1001:((List Int)))(self4:Int→Int→Int→Option (AF))(x1145 x1146 x1147:Int):Option (AF):=
 bif (decide (x1145< (x1001.length:Int))) then (bif (x1146==(0:Int)) then (Io x1001 x1145 x1146 x1147 self4 true) else ((idx x1001 x1145).bind fun x1403=>Io x1001 x1145 x1146 x1147 self4 (decide (x1403<x1147)))) else (self3 (i64.wrap (x500+(1:Int))) x1146 x1147)
def Ez(x500:Int)(self3:(Int→Int→Int→Option (AF)))(x1001:((List Int))):Nat→Int→Int→Int→Option (AF)
 |0=>fun _ _ _=>none
 |k+1=>EU x500 self3 x1001 (Ez x500 self3 x1001 k)
def H8(N:Nat)(a0:AM)(self3:Int→Int→Int→Option (AF))(x500 x501 x502:Int):Option (AF):=
 bif (decide (x500< (a0.funcs.length:Int))) then ((idx a0.funcs x500).bind fun x976=>(ref07_wrong N a0 x976.params (AB.mk x976.body.op x976.body.name x976.body.tail x976.body.type_ x976.body.num x976.body.args x976.body.at_) x976.type_).bind fun x1001=>Ez x500 self3 x1001 N (0:Int) x501 x502) else (some (AF.mk x501 x502))
def CA(N:Nat)(a0:AM):Nat→Int→Int→Int→Option (AF)
 |0=>fun _ _ _=>none
 |k+1=>H8 N a0 (CA N a0 k)
def Dq(N:Nat)(a0:AM):Option (AF):=
 (Hm N a0).bind fun x21=>bif (x21.why != (0:Int)) then (some x21) else (CA N a0 N (0:Int) x21.why x21.at_)
def NF(x128:Int)(self1:(Int→Option (Bool)))(x275:Bool):Option (Bool):=
 bif x275 then (some false) else (self1 (i64.wrap (x128+(1:Int))))
def KY(N:Nat)(a0:AE)(a1:(List AI))(self1:Int→Option (Bool))(x128:Int):Option (Bool):=
 bif (decide (x128< (a1.length:Int))) then ((idx a1 x128).bind fun x282=>(idx a0.params x128).bind fun x302=>bif (x282.type_ != x302.type_) then (NF x128 self1 true) else ((B8 N x282).bind fun x316=>NF x128 self1 (!x316))) else (some true)
def K6(N:Nat)(a0:AE)(a1:(List AI)):Nat→Int→Option (Bool)
 |0=>fun _=>none
 |k+1=>KY N a0 a1 (K6 N a0 a1 k)
def Lz(N:Nat)(a0:AE)(a1:(List AI)):Option (Bool):=
 bif ((a1.length:Int) != (a0.params.length:Int)) then (some false) else (K6 N a0 a1 N (0:Int))
def MK(a0:AI)(self1:Th→Int→Option (Th))(x70:Th)(x73:Int):Option (Th):=
 bif (decide (x73≥(0:Int))) then ((idx a0.list x73).bind fun x116=>self1 (Th.done (AI.mk (0:Int) ((0,0):Nat×Nat) false []) (Th.done (AI.mk (1:Int) x116 false []) Th.nil Th.nil) x70) (i64.wrap (x73 - (1:Int)))) else (some x70)
def Lh(a0:AI):Nat→Th→Int→Option (Th)
 |0=>fun _ _=>none
 |k+1=>MK a0 (Lh a0 k)
def Oc(N:Nat)(a0:AI):Option (Th):=
 bif (a0.type_ != (3:Int)) then (some (Th.done a0 Th.nil Th.nil)) else (Lh a0 N (Th.done (AI.mk (3:Int) ((0,0):Nat×Nat) false []) Th.nil Th.nil) (i64.wrap ((a0.list.length:Int) - (1:Int))))
def Ls(ao0:Ai)(x13:Int):Option (Th×Ai):=
 some ((Th.later (AB.mk (0:Int) ([]:List UInt8) ([]:List UInt8) (0:Int) ((0,0):Nat×Nat) [] (0:Int)) Nm.nil),(Ai.mk (AM.mk ao0.p.funcs) ao0.most ao0.cost x13))
def LG(ao0:Ai)(a1:Int):Option (Th×Ai):=
 bif (ao0.why==(0:Int)) then (Ls ao0 a1) else (Ls ao0 ao0.why)
def RZ(a1:Bts)(self1:Nm→Option (Th))(x22:Nm):Option (Th):=
 (x22.view).bind fun x50=>bif (!(x50.1==a1)) then (self1 x50.2.2) else (some x50.2.1)
def Ji(a1:Bts):Nat→Nm→Option (Th)
 |0=>fun _=>none
 |k+1=>RZ a1 (Ji a1 k)
def MF(N:Nat)(a0:Nm)(a1:Bts):Option (Th):=
 Ji a1 N a0
def Md(x14:Bool):Option (Int×Int):=
 bif x14 then (some ((1:Int),(1:Int))) else (some ((0:Int),(0:Int)))
def Jj(a0:Int)(x6:Bool):Option (Int×Int):=
 bif x6 then (some ((2:Int),(1:Int))) else (bif (a0==(14:Int)) then (some ((1:Int),(2:Int))) else (bif (a0==(15:Int)) then (Md (a0==(15:Int))) else (bif (a0==(16:Int)) then (Md (a0==(16:Int))) else (Md (a0==(17:Int))))))
def M8(a0:Int):Option (Int×Int):=
 bif (a0==(8:Int)) then (Jj a0 (a0==(8:Int))) else (bif (a0==(9:Int)) then (Jj a0 (a0==(9:Int))) else (bif (a0==(10:Int)) then (Jj a0 (a0==(10:Int))) else (bif (a0==(11:Int)) then (Jj a0 (a0==(11:Int))) else (bif (a0==(12:Int)) then (Jj a0 (a0==(12:Int))) else (Jj a0 (a0==(13:Int)))))))
def PH(a0 a1:Aj):Option (Aj×Int):=
 (HX (Aj.mk (i64.wrap (a0.re+a1.re)) (i64.wrap (a0.im+a1.im)))).bind fun x21=>some (x21.1,x21.2)
def Eg(a0:Aj)(a1:Int):Option (AI×Int):=
 bif (a1 != (0:Int)) then (some ((AI.mk (0:Int) ((0,0):Nat×Nat) false []),a1)) else ((F6 a0).bind fun x19=>some ((AI.mk (1:Int) x19 false []),(0:Int)))
def PI(a0 a1:Aj):Option (Aj×Int):=
 (HX (Aj.mk (i64.wrap (a0.re - a1.re)) (i64.wrap (a0.im - a1.im)))).bind fun x21=>some (x21.1,x21.2)
def PJ(a0 a1:Aj):Option (Aj×Int):=
 (HX (Aj.mk (i64.wrap ((i64.wrap (a0.re*a1.re)) - (i64.wrap (a0.im*a1.im)))) (i64.wrap ((i64.wrap (a0.re*a1.im))+(i64.wrap (a0.im*a1.re)))))).bind fun x21=>some (x21.1,x21.2)
def MS(a0 a1:Aj)(x27:Bool):Option (Aj×Int):=
 bif x27 then (some ((Aj.mk (0:Int) (0:Int)),(51:Int))) else ((nz (i64.wrap ((i64.wrap (a1.re*a1.re))+(i64.wrap (a1.im*a1.im))))).bind fun _=>(nz (i64.wrap ((i64.wrap (a1.re*a1.re))+(i64.wrap (a1.im*a1.im))))).bind fun _=>(HX (Aj.mk (i64.wrap ((i64.wrap ((i64.wrap (a0.re*a1.re))+(i64.wrap (a0.im*a1.im)))).tdiv (i64.wrap ((i64.wrap (a1.re*a1.re))+(i64.wrap (a1.im*a1.im)))))) (i64.wrap ((i64.wrap ((i64.wrap (a0.im*a1.re)) - (i64.wrap (a0.re*a1.im)))).tdiv (i64.wrap ((i64.wrap (a1.re*a1.re))+(i64.wrap (a1.im*a1.im)))))))).bind fun x60=>some (x60.1,x60.2))
def PK(a0 a1:Aj):Option (Aj×Int):=
 bif ((i64.wrap ((i64.wrap (a1.re*a1.re))+(i64.wrap (a1.im*a1.im))))==(0:Int)) then (MS a0 a1 true) else ((nz (i64.wrap ((i64.wrap (a1.re*a1.re))+(i64.wrap (a1.im*a1.im))))).bind fun _=>bif (((i64.wrap ((i64.wrap (a0.re*a1.re))+(i64.wrap (a0.im*a1.im)))).tmod (i64.wrap ((i64.wrap (a1.re*a1.re))+(i64.wrap (a1.im*a1.im))))) != (0:Int)) then (MS a0 a1 true) else ((nz (i64.wrap ((i64.wrap (a1.re*a1.re))+(i64.wrap (a1.im*a1.im))))).bind fun _=>MS a0 a1 (((i64.wrap ((i64.wrap (a0.im*a1.re)) - (i64.wrap (a0.re*a1.im)))).tmod (i64.wrap ((i64.wrap (a1.re*a1.re))+(i64.wrap (a1.im*a1.im))))) != (0:Int))))
def M9(a0:Bool):Option (AI×Int):=
 some ((AI.mk (2:Int) ((0,0):Nat×Nat) a0 []),(0:Int))
def MA(x16:Bool):Option (Bool):=
 some x16
def Nn(a0 a1:Aj):Option (Bool):=
 bif (decide (a0.re<a1.re)) then (MA true) else (bif (a0.re==a1.re) then (MA (decide (a0.im<a1.im))) else (MA false))
def Fr(a1:(List AI))(x156:(List Aj))(x160:Int)(self1:(Bool→(List Aj)→Int→Option (AI×Int)))(x331:Bool):Option (AI×Int):=
 (idx a1 x160).bind fun x335=>(Ed x335.num).bind fun x354=>(Ft 16 x156 ([x354.1]:List Aj)).bind fun _=>self1 x331 (x156++([x354.1]:List Aj)) (i64.wrap (x160+(1:Int)))
def Mf(N:Nat)(a0:Int)(a1:(List AI))(x11:(Int×Int))(x155:Bool)(x156:(List Aj))(x160:Int)(self1:(Bool→(List Aj)→Int→Option (AI×Int)))(x300:Bool):Option (AI×Int):=
 bif x300 then ((idx a1 x160).bind fun x393=>(B8 N x393).bind fun x412=>bif x412 then (Fr a1 x156 x160 self1 (x393.type_==x11.2)) else (Fr a1 x156 x160 self1 false)) else (bif (!x155) then (some ((AI.mk (0:Int) ((0,0):Nat×Nat) false []),(3:Int))) else (bif (a0==(8:Int)) then ((idx x156 (0:Int)).bind fun x479=>(idx x156 (1:Int)).bind fun x492=>(PH x479 x492).bind fun x504=>(Eg x504.1 x504.2).bind fun x511=>some (x511.1,x511.2)) else (bif (a0==(9:Int)) then ((idx x156 (0:Int)).bind fun x584=>(idx x156 (1:Int)).bind fun x597=>(PI x584 x597).bind fun x609=>(Eg x609.1 x609.2).bind fun x616=>some (x616.1,x616.2)) else (bif (a0==(10:Int)) then ((idx x156 (0:Int)).bind fun x689=>(idx x156 (1:Int)).bind fun x702=>(PJ x689 x702).bind fun x714=>(Eg x714.1 x714.2).bind fun x721=>some (x721.1,x721.2)) else (bif (a0==(11:Int)) then ((idx x156 (0:Int)).bind fun x794=>(idx x156 (1:Int)).bind fun x807=>(PK x794 x807).bind fun x819=>(Eg x819.1 x819.2).bind fun x826=>some (x826.1,x826.2)) else (bif (a0==(12:Int)) then ((idx x156 (0:Int)).bind fun x892=>(idx x156 (1:Int)).bind fun x905=>(M9 (x892.re==x905.re&&x892.im==x905.im)).bind fun x917=>some (x917.1,x917.2)) else (bif (a0==(13:Int)) then ((idx x156 (0:Int)).bind fun x988=>(idx x156 (1:Int)).bind fun x1001=>(Nn x988 x1001).bind fun x1013=>(M9 x1013).bind fun x1018=>some (x1018.1,x1018.2)) else (bif (a0==(14:Int)) then ((idx a1 (0:Int)).bind fun x1038=>(M9 (!x1038.bool)).bind fun x1057=>some (x1057.1,x1057.2)) else (bif (a0==(15:Int)) then ((idx x156 (0:Int)).bind fun x1077=>(Eg (Aj.mk x1077.re (0:Int)) (0:Int)).bind fun x1090=>some (x1090.1,x1090.2)) else (bif (a0==(16:Int)) then ((idx x156 (0:Int)).bind fun x1110=>(Eg (Aj.mk x1110.im (0:Int)) (0:Int)).bind fun x1123=>some (x1123.1,x1123.2)) else ((idx x156 (0:Int)).bind fun x1188=>(idx x156 (0:Int)).bind fun x1201=>(Eg (Aj.mk x1188.re (i64.wrap (0 - x1201.im))) (0:Int)).bind fun x1213=>some (x1213.1,x1213.2))))))))))))
def Cu(N:Nat)(a0:Int)(a1:(List AI))(x11:(Int×Int))(self1:Bool→(List Aj)→Int→Option (AI×Int))(x155:Bool)(x156:(List Aj))(x160:Int):Option (AI×Int):=
 bif x155 then (Mf N a0 a1 x11 x155 x156 x160 self1 (decide (x160<x11.1))) else (Mf N a0 a1 x11 x155 x156 x160 self1 false)
def Bx(N:Nat)(a0:Int)(a1:(List AI))(x11:(Int×Int)):Nat→Bool→(List Aj)→Int→Option (AI×Int)
 |0=>fun _ _ _=>none
 |k+1=>Cu N a0 a1 x11 (Bx N a0 a1 x11 k)
def Od(N:Nat)(a0:Int)(a1:(List AI))(x11:(Int×Int))(x21:Bool):Option (AI×Int):=
 Bx N a0 a1 x11 N x21 ([]:List Aj) (0:Int)
def Gv(N:Nat)(a0:Int)(a1:(List AI)):Option (AI×Int):=
 (M8 a0).bind fun x11=>bif (decide (x11.1>(0:Int))) then (Od N a0 a1 x11 ((a1.length:Int)==x11.1)) else (Od N a0 a1 x11 false)
structure AU where
 ref11_Machine_look:Ai→AB→Nm→Option (Th×Ai)
 ref11_Machine_of:Ai→Th→Option (Th×Ai)
 ref11_Machine_inside:Ai→AB→Nm→Option (Th×Ai)
def Jz(φ:AU)(ao0:Ai)(a1:AB)(a2:Nm)(x265:(List AK))(x270:Int)(x271 x272:Bts)(x273:Int)(x274:(Nat×Nat))(x275:(List AB))(x279:Int)(self1:Nm→Int→Option (Th×Ai))(x351:Nm)(x354:Int):Option (Th×Ai):=
 bif (decide (x354< (a1.args.length:Int))) then ((idx x265 x354).bind fun x431=>(idx a1.args x354).bind fun x445=>self1 (Nm.bind x431.name (Th.later x445 a2) x351) (i64.wrap (x354+(1:Int)))) else ((φ.ref11_Machine_look (Ai.mk (AM.mk ao0.p.funcs) ao0.most (i64.wrap (ao0.cost+(1:Int))) ao0.why) (AB.mk x270 x271 x272 x273 x274 x275 x279) x351).bind fun x493=>some (x493.1,x493.2))
def Iq(φ:AU)(ao0:Ai)(a1:AB)(a2:Nm)(x265:(List AK))(x270:Int)(x271 x272:Bts)(x273:Int)(x274:(Nat×Nat))(x275:(List AB))(x279:Int):Nat→Nm→Int→Option (Th×Ai)
 |0=>fun _ _=>none
 |k+1=>Jz φ ao0 a1 a2 x265 x270 x271 x272 x273 x274 x275 x279 (Iq φ ao0 a1 a2 x265 x270 x271 x272 x273 x274 x275 x279 k)
def Lt(φ:AU)(N:Nat)(ao0:Ai)(a1:AB)(a2:Nm)(x265:(List AK))(x270:Int)(x271 x272:Bts)(x273:Int)(x274:(Nat×Nat))(x275:(List AB))(x279:Int):Option (Th×Ai):=
 Iq φ ao0 a1 a2 x265 x270 x271 x272 x273 x274 x275 x279 N Nm.nil (0:Int)
def Lu(ao0:Ai)(x694:Th):Option (Th×Ai):=
 some (x694,(Ai.mk (AM.mk ao0.p.funcs) ao0.most (i64.wrap (ao0.cost+(1:Int))) ao0.why))
def CF(φ:AU)(N:Nat)(ao0:Ai)(a1:AB)(a2:Nm)(x77:Bool):Option (Th×Ai):=
 bif x77 then (some ((Th.done (AI.mk (2:Int) ((0,0):Nat×Nat) (a1.op==(2:Int)) []) Th.nil Th.nil),(Ai.mk (AM.mk ao0.p.funcs) ao0.most (i64.wrap (ao0.cost+(1:Int))) ao0.why))) else (bif (a1.op==(4:Int)) then (some ((Th.done (AI.mk (3:Int) ((0,0):Nat×Nat) false []) Th.nil Th.nil),(Ai.mk (AM.mk ao0.p.funcs) ao0.most (i64.wrap (ao0.cost+(1:Int))) ao0.why))) else (bif (a1.op==(5:Int)) then ((LG (Ai.mk (AM.mk ao0.p.funcs) ao0.most (i64.wrap (ao0.cost+(1:Int))) ao0.why) (52:Int)).bind fun x111=>some (x111.1,x111.2)) else (bif (a1.op==(6:Int)) then ((MF N a2 a1.name).bind fun x132=>(φ.ref11_Machine_of (Ai.mk (AM.mk ao0.p.funcs) ao0.most (i64.wrap (ao0.cost+(1:Int))) ao0.why) x132).bind fun x142=>some (x142.1,x142.2)) else (bif (a1.op==(7:Int)) then ((Ey N (AM.mk ao0.p.funcs) a1.name).bind fun x551=>Lt φ N ao0 a1 a2 x551.1.params x551.1.body.op x551.1.body.name x551.1.body.tail x551.1.body.type_ x551.1.body.num x551.1.body.args x551.1.body.at_) else (bif (a1.op==(18:Int)) then ((idx a1.args (0:Int)).bind fun x706=>(idx a1.args (1:Int)).bind fun x725=>Lu ao0 (Th.done (AI.mk (0:Int) ((0,0):Nat×Nat) false []) (Th.later x706 a2) (Th.later x725 a2))) else ((φ.ref11_Machine_inside (Ai.mk (AM.mk ao0.p.funcs) ao0.most (i64.wrap (ao0.cost+(1:Int))) ao0.why) a1 a2).bind fun x824=>some (x824.1,x824.2)))))))
def BJ(φ:AU)(N:Nat)(ao0:Ai)(a1:AB)(a2:Nm):Option (Th×Ai):=
 bif (ao0.why != (0:Int)) then (some ((Th.later (AB.mk (0:Int) ([]:List UInt8) ([]:List UInt8) (0:Int) ((0,0):Nat×Nat) [] (0:Int)) Nm.nil),ao0)) else (bif (decide (ao0.cost≥ao0.most)) then ((LG ao0 (60:Int)).bind fun x40=>some (x40.1,x40.2)) else (bif (a1.op==(1:Int)) then (some ((Th.done (AI.mk (1:Int) a1.num false []) Th.nil Th.nil),(Ai.mk (AM.mk ao0.p.funcs) ao0.most (i64.wrap (ao0.cost+(1:Int))) ao0.why))) else (bif (a1.op==(2:Int)) then (CF φ N ao0 a1 a2 (a1.op==(2:Int))) else (CF φ N ao0 a1 a2 (a1.op==(3:Int))))))
def MO(φ:AU)(ao0:Ai)(a1:Th)(x41:Bool):Option (Th×Ai):=
 bif x41 then (some (a1,ao0)) else ((a1.view).bind fun x98=>(φ.ref11_Machine_look ao0 x98.e x98.names).bind fun x131=>some (x131.1,x131.2))
def LH(φ:AU)(_N:Nat)(ao0:Ai)(a1:Th):Option (Th×Ai):=
 bif (ao0.why != (0:Int)) then (MO φ ao0 a1 true) else ((a1.view).bind fun x150=>MO φ ao0 a1 x150.known)
def DT(φ:AU)(a1:AB)(a2:Nm)(x195:(Th×Ai))(x245:Bool):Option (Th×Ai):=
 bif x245 then ((idx a1.args (1:Int)).bind fun x251=>(φ.ref11_Machine_look x195.2 x251 a2).bind fun x273=>some (x273.1,x273.2)) else ((idx a1.args (2:Int)).bind fun x536=>(x195.1.view).bind fun x556=>(φ.ref11_Machine_look x195.2 x536 (Nm.bind a1.tail x556.tail (Nm.bind a1.name x556.head a2))).bind fun x615=>some (x615.1,x615.2))
def Au(φ:AU)(N:Nat)(a1:AB)(a2:Nm)(self1:(List AI)→Int→(List AE)→Int→Int→Int→Option (Th×Ai))(x1043:(List AI))(x1047:Int)(x1048:(List AE))(x1052 x1053 x1054:Int):Option (Th×Ai):=
 bif (decide (x1047< (a1.args.length:Int))) then ((idx a1.args x1047).bind fun x1189=>(φ.ref11_Machine_look (Ai.mk (AM.mk x1048) x1052 x1053 x1054) x1189 a2).bind fun x1208=>(x1208.1.view).bind fun x1226=>(Ft 56 x1043 ([x1226.value]:List AI)).bind fun _=>self1 (x1043++([x1226.value]:List AI)) (i64.wrap (x1047+(1:Int))) x1208.2.p.funcs x1208.2.most x1208.2.cost x1208.2.why) else (bif (x1054 != (0:Int)) then (some ((Th.later (AB.mk (0:Int) ([]:List UInt8) ([]:List UInt8) (0:Int) ((0,0):Nat×Nat) [] (0:Int)) Nm.nil),(Ai.mk (AM.mk x1048) x1052 x1053 x1054))) else ((Gv N a1.op x1043).bind fun x1299=>bif (x1299.2 != (0:Int)) then ((LG (Ai.mk (AM.mk x1048) x1052 x1053 x1054) x1299.2).bind fun x1326=>some (x1326.1,x1326.2)) else (some ((Th.done x1299.1 Th.nil Th.nil),(Ai.mk (AM.mk x1048) x1052 x1053 x1054)))))
def BT(φ:AU)(N:Nat)(a1:AB)(a2:Nm):Nat→(List AI)→Int→(List AE)→Int→Int→Int→Option (Th×Ai)
 |0=>fun _ _ _ _ _ _=>none
 |k+1=>Au φ N a1 a2 (BT φ N a1 a2 k)
def BQ(φ:AU)(N:Nat)(ao0:Ai)(a1:AB)(a2:Nm):Option (Th×Ai):=
 bif (a1.op==(19:Int)) then ((idx a1.args (0:Int)).bind fun x22=>(φ.ref11_Machine_look ao0 x22 a2).bind fun x44=>(x44.1.view).bind fun x62=>bif x62.value.bool then ((idx a1.args (1:Int)).bind fun x95=>(φ.ref11_Machine_look x44.2 x95 a2).bind fun x115=>some (x115.1,x115.2)) else ((idx a1.args (2:Int)).bind fun x134=>(φ.ref11_Machine_look x44.2 x134 a2).bind fun x154=>some (x154.1,x154.2))) else (bif (a1.op==(20:Int)) then ((idx a1.args (0:Int)).bind fun x173=>(φ.ref11_Machine_look ao0 x173 a2).bind fun x195=>bif (x195.2.why != (0:Int)) then (DT φ a1 a2 x195 true) else ((x195.1.view).bind fun x634=>DT φ a1 a2 x195 (!x634.pair))) else (bif (a1.op==(21:Int)) then ((idx a1.args (0:Int)).bind fun x669=>(idx a1.args (1:Int)).bind fun x706=>(φ.ref11_Machine_look ao0 x706 (Nm.letrec a1.name x669 a2)).bind fun x735=>some (x735.1,x735.2)) else (bif (a1.op==(22:Int)) then ((idx a1.args (0:Int)).bind fun x754=>(φ.ref11_Machine_look ao0 x754 a2).bind fun x776=>(idx a1.args (1:Int)).bind fun x877=>(φ.ref11_Machine_look x776.2 x877 (Nm.bind a1.name x776.1 a2)).bind fun x911=>some (x911.1,x911.2)) else (BT φ N a1 a2 N ([]:List AI) (0:Int) ao0.p.funcs ao0.most ao0.cost ao0.why))))
def AU.at:Nat→AU
 |0=>⟨fun _ _ _=>none,fun _ _=>none,fun _ _ _=>none⟩
 |n+1=>⟨BJ (AU.at n) n,LH (AU.at n) n,BQ (AU.at n) n⟩
def ref11_Machine_look(N:Nat):Ai→AB→Nm→Option (Th×Ai):=(AU.at N).ref11_Machine_look
def ref11_Machine_of(N:Nat):Ai→Th→Option (Th×Ai):=(AU.at N).ref11_Machine_of
def ref11_Machine_inside(N:Nat):Ai→AB→Nm→Option (Th×Ai):=(AU.at N).ref11_Machine_inside
def B0(N:Nat)(x382:Th)(x385:(List AE))(x389 x390 x391:Int)(x392:(List (Nat×Nat)))(self1:(Th→(List AE)→Int→Int→Int→(List (Nat×Nat))→Option (AI×Ai)))(x725:Bool):Option (AI×Ai):=
 bif x725 then ((x382.view).bind fun x731=>(ref11_Machine_of N (Ai.mk (AM.mk x385) x389 x390 x391) x731.head).bind fun x764=>(x764.1.view).bind fun x839=>(Ft 16 x392 ([x839.value.num]:List (Nat×Nat))).bind fun _=>(ref11_Machine_of N x764.2 x731.tail).bind fun x901=>self1 x901.1 x901.2.p.funcs x901.2.most x901.2.cost x901.2.why (x392++([x839.value.num]:List (Nat×Nat)))) else (some ((AI.mk (3:Int) ((0,0):Nat×Nat) false x392),(Ai.mk (AM.mk x385) x389 x390 x391)))
def D9(N:Nat)(self1:Th→(List AE)→Int→Int→Int→(List (Nat×Nat))→Option (AI×Ai))(x382:Th)(x385:(List AE))(x389 x390 x391:Int)(x392:(List (Nat×Nat))):Option (AI×Ai):=
 bif (x391==(0:Int)) then ((x382.view).bind fun x937=>B0 N x382 x385 x389 x390 x391 x392 self1 x937.pair) else (B0 N x382 x385 x389 x390 x391 x392 self1 false)
def CN(N:Nat):Nat→Th→(List AE)→Int→Int→Int→(List (Nat×Nat))→Option (AI×Ai)
 |0=>fun _ _ _ _ _ _=>none
 |k+1=>D9 N (CN N k)
def Ge(N:Nat)(ao0:Ai)(a1:Th)(x49:Bool):Option (AI×Ai):=
 bif x49 then ((a1.view).bind fun x55=>some (x55.value,ao0)) else (CN N N a1 ao0.p.funcs ao0.most ao0.cost ao0.why ([]:List (Nat×Nat)))
def IC(N:Nat)(ao0:Ai)(a1:Th):Option (AI×Ai):=
 bif (ao0.why==(0:Int)) then ((a1.view).bind fun x974=>Ge N ao0 a1 (!x974.pair)) else (Ge N ao0 a1 false)
def Gg(N:Nat)(a0:AM)(a2:(List AI))(a3:Int)(x40:(AE×Bool))(self1:Nm→Int→Option (BX))(x159:Nm)(x162:Int):Option (BX):=
 bif (decide (x162< (a2.length:Int))) then ((idx x40.1.params x162).bind fun x238=>(idx a2 x162).bind fun x251=>(Oc N x251).bind fun x270=>self1 (Nm.bind x238.name x270 x159) (i64.wrap (x162+(1:Int)))) else ((ref11_Machine_look N (Ai.mk a0 (if (16384:Int)< (if a3< (0:Int) then (0:Int) else a3) then (16384:Int) else (if a3< (0:Int) then (0:Int) else a3)) (0:Int) (0:Int)) (AB.mk x40.1.body.op x40.1.body.name x40.1.body.tail x40.1.body.type_ x40.1.body.num x40.1.body.args x40.1.body.at_) x159).bind fun x294=>(IC N x294.2 x294.1).bind fun x312=>bif (x312.2.why != (0:Int)) then (some (BX.mk x312.2.why (AI.mk (0:Int) ((0,0):Nat×Nat) false []) x312.2.cost (0:Int) (0:Int) (0:Int))) else (some (BX.mk (0:Int) x312.1 x312.2.cost (0:Int) (0:Int) (0:Int))))
def JJ(N:Nat)(a0:AM)(a2:(List AI))(a3:Int)(x40:(AE×Bool)):Nat→Nm→Int→Option (BX)
 |0=>fun _ _=>none
 |k+1=>Gg N a0 a2 a3 x40 (JJ N a0 a2 a3 x40 k)
def L0(N:Nat)(a0:AM)(a1:Bts)(a2:(List AI))(a3:Int):Option (BX):=
 (Dq N a0).bind fun x25=>bif (x25.why != (0:Int)) then (some (BX.mk (3:Int) (AI.mk (0:Int) ((0,0):Nat×Nat) false []) (0:Int) (0:Int) (0:Int) (0:Int))) else ((Ey N a0 a1).bind fun x40=>bif (!x40.2) then (some (BX.mk (32:Int) (AI.mk (0:Int) ((0,0):Nat×Nat) false []) (0:Int) (0:Int) (0:Int) (0:Int))) else ((Lz N x40.1 a2).bind fun x80=>bif (!x80) then (some (BX.mk (40:Int) (AI.mk (0:Int) ((0,0):Nat×Nat) false []) (0:Int) (0:Int) (0:Int) (0:Int))) else (JJ N a0 a2 a3 x40 N Nm.nil (0:Int))))
def KZ(a0 a1:AI)(self1:Int→Option (Bool))(x100:Int):Option (Bool):=
 bif (decide (x100< (a0.list.length:Int))) then ((idx a0.list x100).bind fun x155=>(idx a1.list x100).bind fun x169=>bif (cne x155 x169) then (some false) else (self1 (i64.wrap (x100+(1:Int))))) else (some true)
def JK(a0 a1:AI):Nat→Int→Option (Bool)
 |0=>fun _=>none
 |k+1=>KZ a0 a1 (JK a0 a1 k)
def HR(N:Nat)(a0 a1:AI)(x54:Bool):Option (Bool):=
 bif x54 then (some false) else (JK a0 a1 N (0:Int))
def JL(N:Nat)(a0 a1:AI):Option (Bool):=
 (B8 N a0).bind fun x185=>bif (!x185) then (HR N a0 a1 true) else ((B8 N a1).bind fun x193=>bif (!x193) then (HR N a0 a1 true) else (bif (a0.type_ != a1.type_) then (HR N a0 a1 true) else (bif (cne a0.num a1.num) then (HR N a0 a1 true) else (bif (!(a0.bool==a1.bool)) then (HR N a0 a1 true) else (HR N a0 a1 ((a0.list.length:Int) != (a1.list.length:Int)))))))
def Hp(x47:Bool):Option (Bool):=
 some x47
def Jk(N:Nat)(a0 a1:AI)(x27:Bool):Option (Bool):=
 bif x27 then (bif (ceq a0.num ((0,0):Nat×Nat)) then (bif (ceq a1.num ((0,0):Nat×Nat)) then (bif (!a0.bool) then (bif (!a1.bool) then (bif ((a0.list.length:Int)==(0:Int)) then (Hp ((a1.list.length:Int)==(0:Int))) else (Hp false)) else (Hp false)) else (Hp false)) else (Hp false)) else (Hp false)) else ((JL N a0 a1).bind fun x70=>some x70)
def Gw(N:Nat)(a0 a1:AI):Option (Bool):=
 bif (a0.type_==(0:Int)) then (Jk N a0 a1 (a1.type_==(0:Int))) else (Jk N a0 a1 false)
structure BA where
 ref06_within:AB→Option ((List Bts))
def HG(φ:BA)(a0:AB)(self1:(List Bts)→Int→Option ((List Bts)))(x133:(List Bts))(x137:Int):Option ((List Bts)):=
 bif (decide (x137< (a0.args.length:Int))) then ((idx a0.args x137).bind fun x207=>(φ.ref06_within x207).bind fun x225=>(Ft 16 x133 x225).bind fun _=>self1 (x133++x225) (i64.wrap (x137+(1:Int)))) else (some x133)
def Gy(φ:BA)(a0:AB):Nat→(List Bts)→Int→Option ((List Bts))
 |0=>fun _ _=>none
 |k+1=>HG φ a0 (Gy φ a0 k)
def J9(φ:BA)(N:Nat)(a0:AB)(x69:(List Bts)):Option ((List Bts)):=
 Gy φ a0 N x69 (0:Int)
def Iz(φ:BA)(N:Nat)(a0:AB)(x36:(List Bts)):Option ((List Bts)):=
 bif (!(a0.tail==([]:List UInt8))) then ((Ft 16 x36 ([a0.tail]:List Bts)).bind fun _=>J9 φ N a0 (x36++([a0.tail]:List Bts))) else (J9 φ N a0 x36)
def Jl(φ:BA)(N:Nat)(a0:AB):Option ((List Bts)):=
 bif (!(a0.name==([]:List UInt8))) then ((Ft 16 ([]:List Bts) ([a0.name]:List Bts)).bind fun _=>Iz φ N a0 (([]:List Bts)++([a0.name]:List Bts))) else (Iz φ N a0 ([]:List Bts))
def BA.at:Nat→BA
 |0=>⟨fun _=>none⟩
 |n+1=>⟨Jl (BA.at n) n⟩
def ref06_within(N:Nat):AB→Option ((List Bts)):=(BA.at N).ref06_within
def I0(x631:Int)(self5:((List Bts)→Int→Option ((List Bts))))(x1601:(List Bts)):Option ((List Bts)):=
 self5 x1601 (i64.wrap (x631+(1:Int)))
def H9(x631:Int)(self5:((List Bts)→Int→Option ((List Bts))))(x1610:Bts)(x1741:(List Bts))(x1745:Int)(self7:((List Bts)→Int→Option ((List Bts))))(x1849:Bool):Option ((List Bts)):=
 bif x1849 then ((idx x1741 (i64.wrap (x1745 - (1:Int)))).bind fun x1854=>(idx x1741 x1745).bind fun _=>self7 (x1741.set (x1745).toNat x1854) (i64.wrap (x1745 - (1:Int)))) else ((idx x1741 x1745).bind fun _=>I0 x631 self5 (x1741.set (x1745).toNat x1610))
def HH(x631:Int)(self5:((List Bts)→Int→Option ((List Bts))))(x1610:Bts)(self7:(List Bts)→Int→Option ((List Bts)))(x1741:(List Bts))(x1745:Int):Option ((List Bts)):=
 bif (decide (x1745>(0:Int))) then ((idx x1741 (i64.wrap (x1745 - (1:Int)))).bind fun x1908=>H9 x631 self5 x1610 x1741 x1745 self7 (!(Op.bytesLess x1908 x1610||x1908==x1610))) else (H9 x631 self5 x1610 x1741 x1745 self7 false)
def F0(x631:Int)(self5:((List Bts)→Int→Option ((List Bts))))(x1610:Bts):Nat→(List Bts)→Int→Option ((List Bts))
 |0=>fun _ _=>none
 |k+1=>HH x631 self5 x1610 (F0 x631 self5 x1610 k)
def HI(N:Nat)(a0:(List Bts))(self5:(List Bts)→Int→Option ((List Bts)))(x627:(List Bts))(x631:Int):Option ((List Bts)):=
 bif (decide (x631< (a0.length:Int))) then ((idx a0 x631).bind fun x1610=>(GJ N x627 x1610).bind fun x1627=>bif x1627 then (I0 x631 self5 x627) else ((Ft 16 x627 ([x1610]:List Bts)).bind fun _=>F0 x631 self5 x1610 N (x627++([x1610]:List Bts)) (x627.length:Int))) else (some x627)
def CZ(N:Nat)(a0:(List Bts)):Nat→(List Bts)→Int→Option ((List Bts))
 |0=>fun _ _=>none
 |k+1=>HI N a0 (CZ N a0 k)
def Gh(N:Nat)(a0:(List Bts)):Option ((List Bts)):=
 CZ N a0 N ([]:List Bts) (0:Int)
def IA(N:Nat)(a0:AE)(self1:(List Bts)→Int→Option ((List Bts)))(x77:(List Bts))(x81:Int):Option ((List Bts)):=
 bif (decide (x81< (a0.params.length:Int))) then ((idx a0.params x81).bind fun x144=>(Ft 16 x77 ([x144.name]:List Bts)).bind fun _=>self1 (x77++([x144.name]:List Bts)) (i64.wrap (x81+(1:Int)))) else ((ref06_within N (AB.mk a0.body.op a0.body.name a0.body.tail a0.body.type_ a0.body.num a0.body.args a0.body.at_)).bind fun x179=>(H5 x77 x179).bind fun x196=>(Gh N x196).bind fun x207=>some x207)
def Hq(N:Nat)(a0:AE):Nat→(List Bts)→Int→Option ((List Bts))
 |0=>fun _ _=>none
 |k+1=>IA N a0 (Hq N a0 k)
def Gz(N:Nat)(a0:AE):Option ((List Bts)):=
 Hq N a0 N ([a0.name]:List Bts) (0:Int)
def HJ(x1038:Bool):Option (Bool):=
 some x1038
def F5(N:Nat)(a0:Ea)(x21:(AM×(List AI)×Bool))(x241:Int)(x947:(List AE)):Option (Bool):=
 (Dq N (AM.mk x947)).bind fun x962=>bif (x962.why != (0:Int)) then (some true) else ((FP N x21.1 a0.name x21.2.1 (i64.wrap ((16384:Int) - x241))).bind fun x974=>(FP N (AM.mk x947) ([122,122]:List UInt8) x21.2.1 (16384:Int)).bind fun x1001=>bif (x974.why==(40:Int)) then (some (x1001.why==(40:Int))) else (bif (x974.why==x1001.why) then ((Gw N (AI.mk x974.value.type_ x974.value.num x974.value.bool x974.value.list) (AI.mk x1001.value.type_ x1001.value.num x1001.value.bool x1001.value.list)).bind fun x1045=>bif x1045 then (HJ (x1001.moves==(i64.wrap (x974.moves+x241)))) else (HJ false)) else (HJ false)))
def CO(N:Nat)(a0:Ea)(x21:(AM×(List AI)×Bool))(x53:(AE×Bool))(x241 x242:Int)(x243 x244:Bts)(x245:Int)(x246:(Nat×Nat))(x247:(List AB))(x251:Int):Option (Bool):=
 (Ft 152 ([]:List AE) x21.1.funcs).bind fun _=>(Ft 152 (([]:List AE)++x21.1.funcs) ([(AE.mk ([122,122]:List UInt8) x53.1.params x53.1.type_ (AB.mk x242 x243 x244 x245 x246 x247 x251) x53.1.at_)]:List AE)).bind fun _=>F5 N a0 x21 x241 ((([]:List AE)++x21.1.funcs)++([(AE.mk ([122,122]:List UInt8) x53.1.params x53.1.type_ (AB.mk x242 x243 x244 x245 x246 x247 x251) x53.1.at_)]:List AE))
def EJ(N:Nat)(a0:Ea)(a1:Int)(x21:(AM×(List AI)×Bool))(x53:(AE×Bool))(x115:Bool):Option (Bool):=
 bif x115 then (some true) else ((nz (5:Int)).bind fun _=>(nz (5:Int)).bind fun _=>bif (((i64.wrap ((a1.tmod (5:Int))+(5:Int))).tmod (5:Int))==(0:Int)) then (CO N a0 x21 x53 (2:Int) (19:Int) ([]:List UInt8) ([]:List UInt8) (0:Int) ((0,0):Nat×Nat) ([(AB.mk (2:Int) ([]:List UInt8) ([]:List UInt8) (0:Int) ((0,0):Nat×Nat) [] (0:Int)),(AB.mk x53.1.body.op x53.1.body.name x53.1.body.tail x53.1.body.type_ x53.1.body.num x53.1.body.args x53.1.body.at_),(AB.mk (5:Int) ([]:List UInt8) ([]:List UInt8) x53.1.type_ ((0,0):Nat×Nat) [] (0:Int))]:List AB) (0:Int)) else (bif (((i64.wrap ((a1.tmod (5:Int))+(5:Int))).tmod (5:Int))==(1:Int)) then (CO N a0 x21 x53 (2:Int) (19:Int) ([]:List UInt8) ([]:List UInt8) (0:Int) ((0,0):Nat×Nat) ([(AB.mk (3:Int) ([]:List UInt8) ([]:List UInt8) (0:Int) ((0,0):Nat×Nat) [] (0:Int)),(AB.mk (5:Int) ([]:List UInt8) ([]:List UInt8) x53.1.type_ ((0,0):Nat×Nat) [] (0:Int)),(AB.mk x53.1.body.op x53.1.body.name x53.1.body.tail x53.1.body.type_ x53.1.body.num x53.1.body.args x53.1.body.at_)]:List AB) (0:Int)) else (bif (((i64.wrap ((a1.tmod (5:Int))+(5:Int))).tmod (5:Int))==(2:Int)) then (CO N a0 x21 x53 (2:Int) (22:Int) ([122,122]:List UInt8) ([]:List UInt8) (1:Int) ((0,0):Nat×Nat) ([(AB.mk (1:Int) ([]:List UInt8) ([]:List UInt8) (0:Int) ((4607182418800017408,0):Nat×Nat) [] (0:Int)),(AB.mk x53.1.body.op x53.1.body.name x53.1.body.tail x53.1.body.type_ x53.1.body.num x53.1.body.args x53.1.body.at_)]:List AB) (0:Int)) else (bif (((i64.wrap ((a1.tmod (5:Int))+(5:Int))).tmod (5:Int))==(3:Int)) then (CO N a0 x21 x53 (1:Int) (21:Int) ([122,122]:List UInt8) ([]:List UInt8) x53.1.type_ ((0,0):Nat×Nat) ([(AB.mk (5:Int) ([]:List UInt8) ([]:List UInt8) x53.1.type_ ((0,0):Nat×Nat) [] (0:Int)),(AB.mk x53.1.body.op x53.1.body.name x53.1.body.tail x53.1.body.type_ x53.1.body.num x53.1.body.args x53.1.body.at_)]:List AB) (0:Int)) else (CO N a0 x21 x53 (2:Int) (20:Int) ([122,122]:List UInt8) ([122,122]:List UInt8) (0:Int) ((0,0):Nat×Nat) ([(AB.mk (4:Int) ([]:List UInt8) ([]:List UInt8) (0:Int) ((0,0):Nat×Nat) [] (0:Int)),(AB.mk x53.1.body.op x53.1.body.name x53.1.body.tail x53.1.body.type_ x53.1.body.num x53.1.body.args x53.1.body.at_),(AB.mk (5:Int) ([]:List UInt8) ([]:List UInt8) x53.1.type_ ((0,0):Nat×Nat) [] (0:Int))]:List AB) (0:Int))))))
def CG(N:Nat)(a0:Ea)(a1:Int):Option (Bool):=
 (Hk N).bind fun x13=>bif (!x13) then (some false) else ((B9 N a0).bind fun x21=>(Ey N x21.1 a0.name).bind fun x53=>bif (!x21.2.2) then (EJ N a0 a1 x21 x53 true) else (bif (!x53.2) then (EJ N a0 a1 x21 x53 true) else ((Dq N x21.1).bind fun x1857=>bif (x1857.why != (0:Int)) then (EJ N a0 a1 x21 x53 true) else ((Gz N x53.1).bind fun x1868=>(GJ N x1868 ([122,122]:List UInt8)).bind fun x1879=>EJ N a0 a1 x21 x53 x1879))))
end Fth
