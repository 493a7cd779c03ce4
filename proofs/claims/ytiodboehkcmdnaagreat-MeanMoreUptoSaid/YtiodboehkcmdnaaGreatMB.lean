/- Part 2 of the proof: what it says holds of the given program; no condition. -/
import Derived.Test.YtiodboehkcmdnaaGreatMA
set_option linter.all false
set_option exponentiation.threshold 3000
namespace Fth
open Go Go.IntKind
set_option maxRecDepth 100000
def Iz:Option (Ab):=
 some (Ab.mk (32768:Int) (32768:Int) (32768:Int) (32768:Int))
def Hi(x4:Bool):Option (Bool):=
 some x4
def Gh(a0:UInt8):Option (Bool):=
 bif (((a0).toNat:Int)==(((9:UInt8)).toNat:Int)) then (Hi true) else (bif (((a0).toNat:Int)==(((10:UInt8)).toNat:Int)) then (Hi true) else (bif (((a0).toNat:Int)==(((13:UInt8)).toNat:Int)) then (Hi true) else (Hi (((a0).toNat:Int)==(((32:UInt8)).toNat:Int)))))
def F5(x5:Bool):Option (Bool):=
 some x5
def Fm(a0:UInt8):Option (Bool):=
 bif (decide (((a0).toNat:Int)≥(((65:UInt8)).toNat:Int))) then (bif (decide (((a0).toNat:Int)≤(((90:UInt8)).toNat:Int))) then (F5 true) else (bif (decide (((a0).toNat:Int)≥(((97:UInt8)).toNat:Int))) then (F5 (decide (((a0).toNat:Int)≤(((122:UInt8)).toNat:Int)))) else (F5 false))) else (bif (decide (((a0).toNat:Int)≥(((97:UInt8)).toNat:Int))) then (F5 (decide (((a0).toNat:Int)≤(((122:UInt8)).toNat:Int)))) else (F5 false))
def JS(x2:Bool):Option (Bool):=
 some x2
def F6(a0:UInt8):Option (Bool):=
 bif (decide (((a0).toNat:Int)≥(((48:UInt8)).toNat:Int))) then (JS (decide (((a0).toNat:Int)≤(((57:UInt8)).toNat:Int)))) else (JS false)
def Fn(x76:Int)(self1:(Int→Option (Int)))(x183:Bool):Option (Int):=
 bif x183 then (self1 (i64.wrap (x76+(1:Int)))) else (some x76)
def Fh(a0:Bts)(a1:Int)(self1:Int→Option (Int))(x76:Int):Option (Int):=
 bif (decide ((i64.wrap (a1+x76))< (a0.length:Int))) then ((idx a0 (i64.wrap (a1+x76))).bind fun x193=>(Fm x193).bind fun x205=>bif x205 then (Fn x76 self1 true) else ((F6 x193).bind fun x212=>bif x212 then (Fn x76 self1 true) else (Fn x76 self1 (((x193).toNat:Int)==(((95:UInt8)).toNat:Int))))) else (Fn x76 self1 false)
def D9(a0:Bts)(a1:Int):Nat→Int→Option (Int)
 |0=>fun _=>none
 |k+1=>Fh a0 a1 (D9 a0 a1 k)
def Hf(N:Nat)(a0:Bts)(a1:Int):Option (Int):=
 D9 a0 a1 N (0:Int)
def KV(x41:Int)(x85:Int):Option (Int×Int):=
 some (x85,x41)
def EH(a0:Bts)(x12:Int)(x40:Int)(x41:Int)(self1:(Int→Int→Option (Int×Int)))(x76:Bool):Option (Int×Int):=
 bif x76 then ((idx a0 x41).bind fun x81=>self1 (if (16777217:Int)< (i64.wrap ((i64.wrap ((10:Int)*x40))+(i64.wrap ((((u8c (((x81).toNat:Int) - (((48:UInt8)).toNat:Int)))).toNat:Int))))) then (16777217:Int) else (i64.wrap ((i64.wrap ((10:Int)*x40))+(i64.wrap ((((u8c (((x81).toNat:Int) - (((48:UInt8)).toNat:Int)))).toNat:Int)))))) (i64.wrap (x41+(1:Int)))) else (bif (x41==x12) then (some ((0:Int),(0:Int))) else (bif (x12==(1:Int)) then (KV x41 (i64.wrap (0 - x40))) else (KV x41 x40)))
def EY(a0:Bts)(x12:Int)(self1:Int→Int→Option (Int×Int))(x40:Int)(x41:Int):Option (Int×Int):=
 bif (decide (x41< (a0.length:Int))) then ((idx a0 x41).bind fun x91=>bif (decide (((x91).toNat:Int)≥(((48:UInt8)).toNat:Int))) then ((idx a0 x41).bind fun x94=>EH a0 x12 x40 x41 self1 (decide (((x94).toNat:Int)≤(((57:UInt8)).toNat:Int)))) else (EH a0 x12 x40 x41 self1 false)) else (EH a0 x12 x40 x41 self1 false)
def Dz(a0:Bts)(x12:Int):Nat→Int→Int→Option (Int×Int)
 |0=>fun _ _=>none
 |k+1=>EY a0 x12 (Dz a0 x12 k)
def Hj(N:Nat)(a0:Bts)(x12:Int):Option (Int×Int):=
 Dz a0 x12 N (0:Int) x12
def Gi(N:Nat)(a0:Bts)(x99:Bool):Option (Int×Int):=
 bif x99 then (Hj N a0 (1:Int)) else (Hj N a0 (0:Int))
def EI(N:Nat)(a0:Bts):Option (Int×Int):=
 bif (decide ((a0.length:Int)>(0:Int))) then ((idx a0 (0:Int)).bind fun x105=>Gi N a0 (((x105).toNat:Int)==(((45:UInt8)).toNat:Int))) else (Gi N a0 false)
def Iv(a0:Ad)(x17:Bool):Option (Ad×Int):=
 bif x17 then (some ((Ad.mk (0:Int) (0:Int)),(50:Int))) else (some (a0,(0:Int)))
def Gj(a0:Ad):Option (Ad×Int):=
 bif (decide (a0.re< (-16777216:Int))) then (Iv a0 true) else (bif (decide (a0.re>(16777216:Int))) then (Iv a0 true) else (bif (decide (a0.im< (-16777216:Int))) then (Iv a0 true) else (Iv a0 (decide (a0.im>(16777216:Int))))))
structure A6 where
 ref01_digits:Int→Option (Bts)
def J9(x35:Bts):Option (Bts):=
 some x35
def Cz(φ:A6)(_N:Nat)(a0:Int):Option (Bts):=
 bif (decide (a0< (0:Int))) then ((φ.ref01_digits (i64.wrap (0 - a0))).bind fun x2=>(O4 ([45]:List UInt8) x2).bind fun x7=>some x7) else ((nz (10:Int)).bind fun _=>bif (decide (a0≥(10:Int))) then ((nz (10:Int)).bind fun _=>(φ.ref01_digits (i64.wrap (a0.tdiv (10:Int)))).bind fun x42=>(O4 x42 ([(u8c ((i64.wrap ((48:Int)+(a0.tmod (10:Int))))))]:List UInt8)).bind fun x47=>J9 x47) else (J9 ([(u8c ((i64.wrap ((48:Int)+(a0.tmod (10:Int))))))]:List UInt8)))
def A6.at:Nat→A6
 |0=>⟨fun _=>none⟩
 |n+1=>⟨Cz (A6.at n) n⟩
def ref01_digits(N:Nat):Int→Option (Bts):=(A6.at N).ref01_digits
def FP(N:Nat)(a0:Ad):Option (Bts):=
 bif (a0.im==(0:Int)) then ((ref01_digits N a0.re).bind fun x8=>some x8) else (bif (a0.re==(0:Int)) then ((ref01_digits N a0.im).bind fun x14=>(O4 x14 ([105]:List UInt8)).bind fun x19=>some x19) else (bif (decide (a0.im>(0:Int))) then ((ref01_digits N a0.re).bind fun x25=>(O4 x25 ([43]:List UInt8)).bind fun x30=>(ref01_digits N a0.im).bind fun x32=>(O4 x30 x32).bind fun x37=>(O4 x37 ([105]:List UInt8)).bind fun x39=>some x39) else ((ref01_digits N a0.re).bind fun x44=>(ref01_digits N a0.im).bind fun x49=>(O4 x44 x49).bind fun x54=>(O4 x54 ([105]:List UInt8)).bind fun x56=>some x56)))
def KW(x60:Int)(x61:Int)(x91:Bool):Option (Ad×Int):=
 bif x91 then (some ((Ad.mk (0:Int) (0:Int)),(10:Int))) else (some ((Ad.mk x60 x61),(0:Int)))
def FA(N:Nat)(a0:Bts)(x60:Int)(x61:Int):Option (Ad×Int):=
 (Gj (Ad.mk x60 x61)).bind fun x67=>bif (x67.2 != (0:Int)) then (KW x60 x61 true) else ((FP N (Ad.mk x60 x61)).bind fun x109=>KW x60 x61 (!(x109==a0)))
def Gk(N:Nat)(a0:Bts)(x7:(Int×Int))(x125:Bts):Option (Ad×Int):=
 (EI N x125).bind fun x129=>FA N a0 x7.1 x129.1
def D6(N:Nat)(a0:Bts):Option (Ad×Int):=
 (EI N a0).bind fun x7=>bif (x7.2==(0:Int)) then (some ((Ad.mk (0:Int) (0:Int)),(10:Int))) else ((sub a0 x7.2 (a0.length:Int)).bind fun x28=>bif (x28==([105]:List UInt8)) then (FA N a0 (0:Int) x7.1) else (bif (!(x28==([]:List UInt8))) then ((idx x28 (0:Int)).bind fun x139=>bif (((x139).toNat:Int)==(((43:UInt8)).toNat:Int)) then ((sub x28 (1:Int) (x28.length:Int)).bind fun x142=>Gk N a0 x7 x142) else (Gk N a0 x7 x28)) else (FA N a0 x7.1 (0:Int))))
def FQ(a0:Ad):Option ((Nat×Nat)):=
 some ((FloatKind.f64.nearest a0.re),(FloatKind.f64.nearest a0.im))
def H5:Option ((List Bts)):=
 some ([([66]:List UInt8),([76]:List UInt8),([78]:List UInt8),([99,97,115,101]:List UInt8),([99,111,110,106]:List UInt8),([101,108,115,101]:List UInt8),([102,97,105,108]:List UInt8),([102,97,108,115,101]:List UInt8),([105,102]:List UInt8),([105,109]:List UInt8),([105,110]:List UInt8),([108,101,116]:List UInt8),([110,105,108]:List UInt8),([110,111,116]:List UInt8),([111,102]:List UInt8),([114,101]:List UInt8),([115,116,114,105,99,116]:List UInt8),([116,104,101,110]:List UInt8),([116,114,117,101]:List UInt8)]:List Bts)
def DZ(a0:Bts)(x1:((List Bts)))(self1:Int→Option (Bool))(x34:Int):Option (Bool):=
 bif (decide (x34< (x1.length:Int))) then ((idx x1 x34).bind fun x66=>bif (x66==a0) then (some true) else (self1 (i64.wrap (x34+(1:Int))))) else (some false)
def DM(a0:Bts)(x1:((List Bts))):Nat→Int→Option (Bool)
 |0=>fun _=>none
 |k+1=>DZ a0 x1 (DM a0 x1 k)
def DN(N:Nat)(a0:Bts):Option (Bool):=
 (H5).bind fun x1=>DM a0 x1 N (0:Int)
def Da(x78:Bool):Option (Int):=
 bif x78 then (some (1:Int)) else (some (0:Int))
def FB(a0:Bts)(a1:Int)(x49:Bool):Option (Int):=
 bif x49 then (some (2:Int)) else ((idx a0 a1).bind fun x54=>bif (((x54).toNat:Int)==(((40:UInt8)).toNat:Int)) then (Da (((x54).toNat:Int)==(((40:UInt8)).toNat:Int))) else (bif (((x54).toNat:Int)==(((41:UInt8)).toNat:Int)) then (Da (((x54).toNat:Int)==(((41:UInt8)).toNat:Int))) else (bif (((x54).toNat:Int)==(((44:UInt8)).toNat:Int)) then (Da (((x54).toNat:Int)==(((44:UInt8)).toNat:Int))) else (bif (((x54).toNat:Int)==(((58:UInt8)).toNat:Int)) then (Da (((x54).toNat:Int)==(((58:UInt8)).toNat:Int))) else (bif (((x54).toNat:Int)==(((59:UInt8)).toNat:Int)) then (Da (((x54).toNat:Int)==(((59:UInt8)).toNat:Int))) else (bif (((x54).toNat:Int)==(((61:UInt8)).toNat:Int)) then (Da (((x54).toNat:Int)==(((61:UInt8)).toNat:Int))) else (bif (((x54).toNat:Int)==(((43:UInt8)).toNat:Int)) then (Da (((x54).toNat:Int)==(((43:UInt8)).toNat:Int))) else (bif (((x54).toNat:Int)==(((45:UInt8)).toNat:Int)) then (Da (((x54).toNat:Int)==(((45:UInt8)).toNat:Int))) else (bif (((x54).toNat:Int)==(((42:UInt8)).toNat:Int)) then (Da (((x54).toNat:Int)==(((42:UInt8)).toNat:Int))) else (bif (((x54).toNat:Int)==(((47:UInt8)).toNat:Int)) then (Da (((x54).toNat:Int)==(((47:UInt8)).toNat:Int))) else (bif (((x54).toNat:Int)==(((60:UInt8)).toNat:Int)) then (Da (((x54).toNat:Int)==(((60:UInt8)).toNat:Int))) else (Da (((x54).toNat:Int)==(((124:UInt8)).toNat:Int))))))))))))))
def Hk(a0:Bts)(a1:Int):Option (Int):=
 bif (decide ((i64.wrap (a1+(1:Int)))< (a0.length:Int))) then ((idx a0 a1).bind fun x98=>bif (((x98).toNat:Int)==(((45:UInt8)).toNat:Int)) then ((idx a0 (i64.wrap (a1+(1:Int)))).bind fun x111=>bif (((x111).toNat:Int)==(((62:UInt8)).toNat:Int)) then (FB a0 a1 true) else (bif (((x98).toNat:Int)==(((61:UInt8)).toNat:Int)) then (FB a0 a1 (((x111).toNat:Int)==(((61:UInt8)).toNat:Int))) else (FB a0 a1 false))) else (bif (((x98).toNat:Int)==(((61:UInt8)).toNat:Int)) then ((idx a0 (i64.wrap (a1+(1:Int)))).bind fun x126=>FB a0 a1 (((x126).toNat:Int)==(((61:UInt8)).toNat:Int))) else (FB a0 a1 false))) else (FB a0 a1 false)
def LZ(a1:Int)(x17:Bts)(x145:Int):Option (AX×Bool):=
 some ((AX.mk x145 x17 ((0,0):Nat×Nat) a1),true)
def HT(N:Nat)(a0:Bts)(a1:Int)(x12:Int)(x17:Bts)(x121:Bool):Option (AX×Bool):=
 bif x121 then (some ((AX.mk (0:Int) x17 ((0,0):Nat×Nat) a1),false)) else (bif (decide (x12>(0:Int))) then ((DN N x17).bind fun x157=>bif x157 then (LZ a1 x17 (1:Int)) else (LZ a1 x17 (0:Int))) else ((Hk a0 a1).bind fun x170=>(sub a0 a1 (i64.wrap (a1+x170))).bind fun x180=>some ((AX.mk (3:Int) x180 ((0,0):Nat×Nat) a1),(decide (x170>(0:Int))))))
def HU(N:Nat)(a0:Bts)(a1:Int)(x12:Int)(x17:Bts)(x63:Bool):Option (AX×Bool):=
 bif x63 then ((D6 N x17).bind fun x69=>(FQ x69.1).bind fun x92=>some ((AX.mk (2:Int) x17 x92 a1),(x69.2==(0:Int)))) else (bif (decide (x12>(0:Int))) then ((idx a0 a1).bind fun x207=>HT N a0 a1 x12 x17 (((x207).toNat:Int)==(((95:UInt8)).toNat:Int))) else (HT N a0 a1 x12 x17 false))
def HC(N:Nat)(a0:Bts)(a1:Int):Option (AX×Bool):=
 (Hf N a0 a1).bind fun x12=>(sub a0 a1 (i64.wrap (a1+x12))).bind fun x17=>bif (decide (x12>(0:Int))) then ((idx a0 a1).bind fun x221=>(F6 x221).bind fun x234=>HU N a0 a1 x12 x17 x234) else (HU N a0 a1 x12 x17 false)
def Gl(x186:(List AX))(self3:((List AX)→Int→Option ((List AX)×Int)))(x425:Int)(self4:(Int→Option ((List AX)×Int)))(x490:Bool):Option ((List AX)×Int):=
 bif x490 then (self4 (i64.wrap (x425+(1:Int)))) else (self3 x186 x425)
def EZ(a0:Bts)(x186:(List AX))(self3:((List AX)→Int→Option ((List AX)×Int)))(self4:Int→Option ((List AX)×Int))(x425:Int):Option ((List AX)×Int):=
 bif (decide (x425< (a0.length:Int))) then ((idx a0 x425).bind fun x501=>Gl x186 self3 x425 self4 (((x501).toNat:Int) != (((10:UInt8)).toNat:Int))) else (Gl x186 self3 x425 self4 false)
def EJ(a0:Bts)(x186:(List AX))(self3:((List AX)→Int→Option ((List AX)×Int))):Nat→Int→Option ((List AX)×Int)
 |0=>fun _=>none
 |k+1=>EZ a0 x186 self3 (EJ a0 x186 self3 k)
def Ea(N:Nat)(a0:Bts)(self3:(List AX)→Int→Option ((List AX)×Int))(x186:(List AX))(x190:Int):Option ((List AX)×Int):=
 bif (decide (x190< (a0.length:Int))) then ((idx a0 x190).bind fun x385=>(Gh x385).bind fun x397=>bif x397 then (self3 x186 (i64.wrap (x190+(1:Int)))) else (bif (((x385).toNat:Int)==(((35:UInt8)).toNat:Int)) then (EJ a0 x186 self3 N x190) else ((HC N a0 x190).bind fun x514=>bif (!x514.2) then (some ([],x190)) else ((GD 48 x186 ([x514.1]:List AX)).bind fun _=>self3 (x186++([x514.1]:List AX)) (i64.wrap (x190+(x514.1.text.length:Int))))))) else ((GD 48 x186 ([(AX.mk (4:Int) ([]:List UInt8) ((0,0):Nat×Nat) (a0.length:Int))]:List AX)).bind fun _=>some ((x186++([(AX.mk (4:Int) ([]:List UInt8) ((0,0):Nat×Nat) (a0.length:Int))]:List AX)),(-1:Int)))
def DO(N:Nat)(a0:Bts):Nat→(List AX)→Int→Option ((List AX)×Int)
 |0=>fun _ _=>none
 |k+1=>Ea N a0 (DO N a0 k)
def FR(N:Nat)(a0:Bts):Option ((List AX)×Int):=
 DO N a0 N ([]:List AX) (0:Int)
def BM(ao0:AB):Option (AX):=
 (idx ao0.marks ao0.at_).bind fun x17=>some x17
def Bb(ao0:AB)(a1:Int):Option (AB):=
 bif (ao0.why==(0:Int)) then ((BM (AB.mk ao0.marks ao0.at_ a1 ao0.where_ (Ab.mk ao0.l.text ao0.l.funcs ao0.l.arity ao0.l.nest) ao0.nest)).bind fun x14=>some (AB.mk ao0.marks ao0.at_ a1 x14.at_ (Ab.mk ao0.l.text ao0.l.funcs ao0.l.arity ao0.l.nest) ao0.nest)) else (some ao0)
def FS(ao0:AB)(x16:AX)(x35:Bool):Option (AX×AB):=
 bif x35 then ((Bb ao0 (21:Int)).bind fun x42=>some ((AX.mk (0:Int) ([]:List UInt8) ((0,0):Nat×Nat) (0:Int)),x42)) else (some (x16,(AB.mk ao0.marks (i64.wrap (ao0.at_+(1:Int))) ao0.why ao0.where_ (Ab.mk ao0.l.text ao0.l.funcs ao0.l.arity ao0.l.nest) ao0.nest)))
def Bz(ao0:AB):Option (AX×AB):=
 (BM ao0).bind fun x16=>bif (ao0.why != (0:Int)) then (FS ao0 x16 true) else (FS ao0 x16 (x16.kind != (0:Int)))
def GL(x29:Bool):Option (Bool):=
 some x29
def BR(ao0:AB)(a1:Bts):Option (Bool):=
 (BM ao0).bind fun x8=>bif (ao0.why==(0:Int)) then (bif (x8.kind==(1:Int)) then (GL (x8.text==a1)) else (bif (x8.kind==(3:Int)) then (GL (x8.text==a1)) else (GL false))) else (GL false)
def Bc(ao0:AB)(a1:Bts):Option (Bool×AB):=
 (BR ao0 a1).bind fun x8=>bif (!x8) then (some (false,ao0)) else (some (true,(AB.mk ao0.marks (i64.wrap (ao0.at_+(1:Int))) ao0.why ao0.where_ (Ab.mk ao0.l.text ao0.l.funcs ao0.l.arity ao0.l.nest) ao0.nest)))
def A4(ao0:AB)(a1:Bts):Option (AB):=
 (Bc ao0 a1).bind fun x8=>bif (!x8.1) then ((Bb x8.2 (21:Int)).bind fun x24=>some x24) else (some x8.2)
def Cr(self1:Int→(List AX)→Int→Int→Int→Int→Int→Int→Int→Int→Option (Int×AB))(x69:Int)(x70:(List AX))(x74:Int)(x75:Int)(x76:Int)(x77:Int)(x78:Int)(x79:Int)(x80:Int)(x81:Int):Option (Int×AB):=
 bif (decide (x69< (([([78]:List UInt8),([66]:List UInt8),([76]:List UInt8)]:List Bts).length:Int))) then ((idx ([([78]:List UInt8),([66]:List UInt8),([76]:List UInt8)]:List Bts) x69).bind fun x148=>(Bc (AB.mk x70 x74 x75 x76 (Ab.mk x77 x78 x79 x80) x81) x148).bind fun x160=>bif x160.1 then (some ((i64.wrap (x69+(1:Int))),x160.2)) else (self1 (i64.wrap (x69+(1:Int))) x160.2.marks x160.2.at_ x160.2.why x160.2.where_ x160.2.l.text x160.2.l.funcs x160.2.l.arity x160.2.l.nest x160.2.nest)) else ((Bb (AB.mk x70 x74 x75 x76 (Ab.mk x77 x78 x79 x80) x81) (21:Int)).bind fun x176=>some ((0:Int),x176))
def B3:Nat→Int→(List AX)→Int→Int→Int→Int→Int→Int→Int→Int→Option (Int×AB)
 |0=>fun _ _ _ _ _ _ _ _ _ _=>none
 |k+1=>Cr (B3 k)
def B4(N:Nat)(ao0:AB):Option (Int×AB):=
 B3 N (0:Int) ao0.marks ao0.at_ ao0.why ao0.where_ ao0.l.text ao0.l.funcs ao0.l.arity ao0.l.nest ao0.nest
def H2(a0:Int)(a1:AD)(a2:AD)(a3:AX):Option (AD):=
 some (AD.mk a0 ([]:List UInt8) ([]:List UInt8) (0:Int) ((0,0):Nat×Nat) ([a1,a2]:List AD) a3.at_)
def HE(a0:Bts):Option (Int):=
 bif (a0==([116,114,117,101]:List UInt8)) then (some (2:Int)) else (bif (a0==([102,97,108,115,101]:List UInt8)) then (some (3:Int)) else (bif (a0==([110,105,108]:List UInt8)) then (some (4:Int)) else (bif (a0==([102,97,105,108]:List UInt8)) then (some (5:Int)) else (bif (a0==([110,111,116]:List UInt8)) then (some (14:Int)) else (bif (a0==([114,101]:List UInt8)) then (some (15:Int)) else (bif (a0==([105,109]:List UInt8)) then (some (16:Int)) else (bif (a0==([99,111,110,106]:List UInt8)) then (some (17:Int)) else (some (0:Int)))))))))
structure AC where
 ref04_reader_expr:AB→Option (AD×AB)
 ref04_reader_cons:AB→Option (AD×AB)
 ref04_reader_parts:AB→(List Bts)→Option ((List AD)×AB)
 ref04_reader_branches:AB→AD→Option (AB×AD)
 ref04_reader_comp:AB→Option (AD×AB)
 ref04_reader_sum:AB→Option (AD×AB)
 ref04_reader_term:AB→Option (AD×AB)
 ref04_reader_unit:AB→Option (AD×AB)
 ref04_reader_named:AB→AX→Option (AD×AB)
def Gq(x384:(List AX))(x388:Int)(x389:Int)(x390:Int)(x391:Int)(x392:Int)(x393:Int)(x394:Int)(x396:Int)(x397:Bts)(x398:Bts)(x399:Int)(x400:(Nat×Nat))(x401:(List AD))(x405:Int)(x422:Int):Option (AD×AB):=
 some ((AD.mk x396 x397 x398 x399 x400 x401 x405),(AB.mk x384 x388 x389 x390 (Ab.mk x391 x392 x393 x394) x422))
def EK(x56:Bool)(x384:(List AX))(x388:Int)(x389:Int)(x390:Int)(x391:Int)(x392:Int)(x393:Int)(x394:Int)(x395:Int)(x396:Int)(x397:Bts)(x398:Bts)(x399:Int)(x400:(Nat×Nat))(x401:(List AD))(x405:Int):Option (AD×AB):=
 bif x56 then (Gq x384 x388 x389 x390 x391 x392 x393 x394 x396 x397 x398 x399 x400 x401 x405 (i64.wrap (x395 - (1:Int)))) else (Gq x384 x388 x389 x390 x391 x392 x393 x394 x396 x397 x398 x399 x400 x401 x405 x395)
def DP(φ:AC)(N:Nat)(x16:AX)(x56:Bool)(x90:(List AX))(x94:Int)(x95:Int)(x96:Int)(x97:Int)(x98:Int)(x99:Int)(x100:Int)(x167:Int)(x532:Int):Option (AD×AB):=
 (Bz (AB.mk x90 (i64.wrap (x94+(1:Int))) x95 x96 (Ab.mk x97 x98 x99 x100) x167)).bind fun x540=>(B4 N x540.2).bind fun x574=>(φ.ref04_reader_parts x574.2 ([([61]:List UInt8),([105,110]:List UInt8)]:List Bts)).bind fun x610=>EK x56 x610.2.marks x610.2.at_ x610.2.why x610.2.where_ x610.2.l.text x610.2.l.funcs x610.2.l.arity x610.2.l.nest x610.2.nest x532 x540.1.text ([]:List UInt8) x574.1 ((0,0):Nat×Nat) x610.1 x16.at_
def DQ(φ:AC)(N:Nat)(x16:AX)(x56:Bool)(x90:(List AX))(x94:Int)(x95:Int)(x96:Int)(x97:Int)(x98:Int)(x99:Int)(x100:Int)(x167:Int):Option (AD×AB):=
 bif (x16.text==([105,102]:List UInt8)) then ((φ.ref04_reader_parts (AB.mk x90 (i64.wrap (x94+(1:Int))) x95 x96 (Ab.mk x97 x98 x99 x100) x167) ([([]:List UInt8),([116,104,101,110]:List UInt8),([101,108,115,101]:List UInt8)]:List Bts)).bind fun x465=>EK x56 x465.2.marks x465.2.at_ x465.2.why x465.2.where_ x465.2.l.text x465.2.l.funcs x465.2.l.arity x465.2.l.nest x465.2.nest (19:Int) ([]:List UInt8) ([]:List UInt8) (0:Int) ((0,0):Nat×Nat) x465.1 x16.at_) else (bif (x16.text==([99,97,115,101]:List UInt8)) then ((φ.ref04_reader_branches (AB.mk x90 (i64.wrap (x94+(1:Int))) x95 x96 (Ab.mk x97 x98 x99 x100) x167) (AD.mk (0:Int) ([]:List UInt8) ([]:List UInt8) (0:Int) ((0,0):Nat×Nat) [] x16.at_)).bind fun x497=>EK x56 x497.1.marks x497.1.at_ x497.1.why x497.1.where_ x497.1.l.text x497.1.l.funcs x497.1.l.arity x497.1.l.nest x497.1.nest x497.2.op x497.2.name x497.2.tail x497.2.type_ x497.2.num x497.2.args x497.2.at_) else (bif (x16.text==([115,116,114,105,99,116]:List UInt8)) then (DP φ N x16 x56 x90 x94 x95 x96 x97 x98 x99 x100 x167 (22:Int)) else (DP φ N x16 x56 x90 x94 x95 x96 x97 x98 x99 x100 x167 (21:Int))))
def DR(φ:AC)(N:Nat)(x16:AX)(x56:Bool)(x90:(List AX))(x94:Int)(x95:Int)(x96:Int)(x97:Int)(x98:Int)(x99:Int)(x100:Int)(x101:Int)(x123:Bool):Option (AD×AB):=
 bif x123 then ((φ.ref04_reader_cons (AB.mk x90 x94 x95 x96 (Ab.mk x97 x98 x99 x100) x101)).bind fun x130=>some (x130.1,x130.2)) else (bif x56 then (DQ φ N x16 x56 x90 x94 x95 x96 x97 x98 x99 x100 (i64.wrap (x101+(1:Int)))) else (DQ φ N x16 x56 x90 x94 x95 x96 x97 x98 x99 x100 x101))
def DS(φ:AC)(N:Nat)(x16:AX)(x56:Bool)(x90:(List AX))(x94:Int)(x95:Int)(x96:Int)(x97:Int)(x98:Int)(x99:Int)(x100:Int)(x101:Int):Option (AD×AB):=
 bif (x95 != (0:Int)) then (some ((AD.mk (0:Int) ([]:List UInt8) ([]:List UInt8) (0:Int) ((0,0):Nat×Nat) [] (0:Int)),(AB.mk x90 x94 x95 x96 (Ab.mk x97 x98 x99 x100) x101))) else (bif (!x56) then ((BR (AB.mk x90 x94 x95 x96 (Ab.mk x97 x98 x99 x100) x101) ([105,102]:List UInt8)).bind fun x653=>DR φ N x16 x56 x90 x94 x95 x96 x97 x98 x99 x100 x101 (!x653)) else (DR φ N x16 x56 x90 x94 x95 x96 x97 x98 x99 x100 x101 false))
def DT(φ:AC)(N:Nat)(ao0:AB)(x16:AX)(x56:Bool)(x662:Bool):Option (AD×AB):=
 bif x662 then ((Bb ao0 (23:Int)).bind fun x669=>DS φ N x16 x56 x669.marks x669.at_ x669.why x669.where_ x669.l.text x669.l.funcs x669.l.arity x669.l.nest x669.nest) else (DS φ N x16 x56 ao0.marks ao0.at_ ao0.why ao0.where_ ao0.l.text ao0.l.funcs ao0.l.arity ao0.l.nest ao0.nest)
def Cs(φ:AC)(N:Nat)(ao0:AB)(x16:AX)(x56:Bool):Option (AD×AB):=
 bif x56 then (DT φ N ao0 x16 x56 (decide (ao0.nest≥ao0.l.nest))) else (DT φ N ao0 x16 x56 false)
def Ce(φ:AC)(N:Nat)(ao0:AB):Option (AD×AB):=
 (BM ao0).bind fun x16=>(BR ao0 ([108,101,116]:List UInt8)).bind fun x692=>bif x692 then (Cs φ N ao0 x16 true) else ((BR ao0 ([115,116,114,105,99,116]:List UInt8)).bind fun x700=>bif x700 then (Cs φ N ao0 x16 true) else ((BR ao0 ([99,97,115,101]:List UInt8)).bind fun x708=>Cs φ N ao0 x16 x708))
def Cf(φ:AC)(_N:Nat)(ao0:AB):Option (AD×AB):=
 (φ.ref04_reader_comp ao0).bind fun x16=>(BM x16.2).bind fun x52=>(Bc x16.2 ([58]:List UInt8)).bind fun x71=>bif (!x71.1) then (some (x16.1,x71.2)) else ((φ.ref04_reader_cons x71.2).bind fun x97=>(H2 (18:Int) x16.1 x97.1 x52).bind fun x135=>some (x135,x97.2))
def C9(φ:AC)(x175:(List AD))(x179:Int)(self1:((List AD)→Int→(List AX)→Int→Int→Int→Int→Int→Int→Int→Int→Option ((List AD)×AB)))(x398:(List AX))(x402:Int)(x403:Int)(x404:Int)(x405:Int)(x406:Int)(x407:Int)(x408:Int)(x409:Int):Option ((List AD)×AB):=
 (φ.ref04_reader_expr (AB.mk x398 x402 x403 x404 (Ab.mk x405 x406 x407 x408) x409)).bind fun x417=>(GD 96 x175 ([x417.1]:List AD)).bind fun _=>self1 (x175++([x417.1]:List AD)) (i64.wrap (x179+(1:Int))) x417.2.marks x417.2.at_ x417.2.why x417.2.where_ x417.2.l.text x417.2.l.funcs x417.2.l.arity x417.2.l.nest x417.2.nest
def CL(φ:AC)(a1:(List Bts))(self1:(List AD)→Int→(List AX)→Int→Int→Int→Int→Int→Int→Int→Int→Option ((List AD)×AB))(x175:(List AD))(x179:Int)(x180:(List AX))(x184:Int)(x185:Int)(x186:Int)(x187:Int)(x188:Int)(x189:Int)(x190:Int)(x191:Int):Option ((List AD)×AB):=
 bif (decide (x179< (a1.length:Int))) then ((idx a1 x179).bind fun x476=>bif (!(x476==([]:List UInt8))) then ((A4 (AB.mk x180 x184 x185 x186 (Ab.mk x187 x188 x189 x190) x191) x476).bind fun x489=>C9 φ x175 x179 self1 x489.marks x489.at_ x489.why x489.where_ x489.l.text x489.l.funcs x489.l.arity x489.l.nest x489.nest) else (C9 φ x175 x179 self1 x180 x184 x185 x186 x187 x188 x189 x190 x191)) else (some (x175,(AB.mk x180 x184 x185 x186 (Ab.mk x187 x188 x189 x190) x191)))
def BU(φ:AC)(a1:(List Bts)):Nat→(List AD)→Int→(List AX)→Int→Int→Int→Int→Int→Int→Int→Int→Option ((List AD)×AB)
 |0=>fun _ _ _ _ _ _ _ _ _ _ _=>none
 |k+1=>CL φ a1 (BU φ a1 k)
def CO(φ:AC)(N:Nat)(ao0:AB)(a1:(List Bts)):Option ((List AD)×AB):=
 BU φ a1 N ([]:List AD) (0:Int) ao0.marks ao0.at_ ao0.why ao0.where_ ao0.l.text ao0.l.funcs ao0.l.arity ao0.l.nest ao0.nest
def Bm(φ:AC)(_N:Nat)(ao0:AB)(ao1:AD):Option (AB×AD):=
 (φ.ref04_reader_expr ao0).bind fun x21=>(A4 x21.2 ([111,102]:List UInt8)).bind fun x57=>(A4 x57 ([110,105,108]:List UInt8)).bind fun x72=>(A4 x72 ([45,62]:List UInt8)).bind fun x87=>(φ.ref04_reader_expr x87).bind fun x102=>(A4 x102.2 ([124]:List UInt8)).bind fun x138=>(Bz x138).bind fun x153=>(A4 x153.2 ([58]:List UInt8)).bind fun x182=>(Bz x182).bind fun x197=>(A4 x197.2 ([45,62]:List UInt8)).bind fun x226=>(φ.ref04_reader_expr x226).bind fun x241=>some (x241.2,(AD.mk (20:Int) x153.1.text x197.1.text ao1.type_ ao1.num ([x21.1,x102.1,x241.1]:List AD) ao1.at_))
def Dt(φ:AC)(x16:(AD×AB))(x52:AX)(x77:Int)(x114:Bool)(x115:(List AX))(x119:Int)(x120:Int)(x121:Int)(x122:Int)(x123:Int)(x124:Int)(x125:Int)(x126:Int):Option (AD×AB):=
 bif x114 then (some (x16.1,(AB.mk x115 x119 x120 x121 (Ab.mk x122 x123 x124 x125) x126))) else ((φ.ref04_reader_sum (AB.mk x115 x119 x120 x121 (Ab.mk x122 x123 x124 x125) x126)).bind fun x145=>(H2 x77 x16.1 x145.1 x52).bind fun x183=>some (x183,x145.2))
def DU(φ:AC)(x16:(AD×AB))(x52:AX)(x77:Int):Option (AD×AB):=
 (Bc x16.2 ([61,61]:List UInt8)).bind fun x206=>bif (!x206.1) then ((Bc x206.2 ([60]:List UInt8)).bind fun x222=>Dt φ x16 x52 x77 (!x222.1) x222.2.marks x222.2.at_ x222.2.why x222.2.where_ x222.2.l.text x222.2.l.funcs x222.2.l.arity x222.2.l.nest x222.2.nest) else (Dt φ x16 x52 x77 false x206.2.marks x206.2.at_ x206.2.why x206.2.where_ x206.2.l.text x206.2.l.funcs x206.2.l.arity x206.2.l.nest x206.2.nest)
def Cg(φ:AC)(_N:Nat)(ao0:AB):Option (AD×AB):=
 (φ.ref04_reader_sum ao0).bind fun x16=>(BM x16.2).bind fun x52=>(BR x16.2 ([60]:List UInt8)).bind fun x239=>bif x239 then (DU φ x16 x52 (13:Int)) else (DU φ x16 x52 (12:Int))
def Dj(x212:Int)(x213:Bts)(x214:Bts)(x215:Int)(x216:(Nat×Nat))(x217:(List AD))(x221:Int)(self1:((List AX)→Int→Int→Int→Int→Int→Int→Int→Int→Int→Bts→Bts→Int→(Nat×Nat)→(List AD)→Int→Option (AD×AB)))(x408:AX)(x431:(AD×AB))(x467:Int):Option (AD×AB):=
 (H2 x467 (AD.mk x212 x213 x214 x215 x216 x217 x221) x431.1 x408).bind fun x476=>self1 x431.2.marks x431.2.at_ x431.2.why x431.2.where_ x431.2.l.text x431.2.l.funcs x431.2.l.arity x431.2.l.nest x431.2.nest x476.op x476.name x476.tail x476.type_ x476.num x476.args x476.at_
def Dk(φ:AC)(x200:(List AX))(x204:Int)(x205:Int)(x206:Int)(x207:Int)(x208:Int)(x209:Int)(x210:Int)(x211:Int)(x212:Int)(x213:Bts)(x214:Bts)(x215:Int)(x216:(Nat×Nat))(x217:(List AD))(x221:Int)(self1:((List AX)→Int→Int→Int→Int→Int→Int→Int→Int→Int→Bts→Bts→Int→(Nat×Nat)→(List AD)→Int→Option (AD×AB)))(x401:Bool):Option (AD×AB):=
 bif x401 then ((BM (AB.mk x200 x204 x205 x206 (Ab.mk x207 x208 x209 x210) x211)).bind fun x408=>(φ.ref04_reader_term (AB.mk x200 (i64.wrap (x204+(1:Int))) x205 x206 (Ab.mk x207 x208 x209 x210) x211)).bind fun x431=>bif (x408.text==([45]:List UInt8)) then (Dj x212 x213 x214 x215 x216 x217 x221 self1 x408 x431 (9:Int)) else (Dj x212 x213 x214 x215 x216 x217 x221 self1 x408 x431 (8:Int))) else (some ((AD.mk x212 x213 x214 x215 x216 x217 x221),(AB.mk x200 x204 x205 x206 (Ab.mk x207 x208 x209 x210) x211)))
def Ct(φ:AC)(self1:(List AX)→Int→Int→Int→Int→Int→Int→Int→Int→Int→Bts→Bts→Int→(Nat×Nat)→(List AD)→Int→Option (AD×AB))(x200:(List AX))(x204:Int)(x205:Int)(x206:Int)(x207:Int)(x208:Int)(x209:Int)(x210:Int)(x211:Int)(x212:Int)(x213:Bts)(x214:Bts)(x215:Int)(x216:(Nat×Nat))(x217:(List AD))(x221:Int):Option (AD×AB):=
 (BR (AB.mk x200 x204 x205 x206 (Ab.mk x207 x208 x209 x210) x211) ([43]:List UInt8)).bind fun x509=>bif x509 then (Dk φ x200 x204 x205 x206 x207 x208 x209 x210 x211 x212 x213 x214 x215 x216 x217 x221 self1 true) else ((BR (AB.mk x200 x204 x205 x206 (Ab.mk x207 x208 x209 x210) x211) ([45]:List UInt8)).bind fun x517=>Dk φ x200 x204 x205 x206 x207 x208 x209 x210 x211 x212 x213 x214 x215 x216 x217 x221 self1 x517)
def BZ(φ:AC):Nat→(List AX)→Int→Int→Int→Int→Int→Int→Int→Int→Int→Bts→Bts→Int→(Nat×Nat)→(List AD)→Int→Option (AD×AB)
 |0=>fun _ _ _ _ _ _ _ _ _ _ _ _ _ _ _ _=>none
 |k+1=>Ct φ (BZ φ k)
def C7(φ:AC)(N:Nat)(ao0:AB):Option (AD×AB):=
 (φ.ref04_reader_term ao0).bind fun x16=>BZ φ N x16.2.marks x16.2.at_ x16.2.why x16.2.where_ x16.2.l.text x16.2.l.funcs x16.2.l.arity x16.2.l.nest x16.2.nest x16.1.op x16.1.name x16.1.tail x16.1.type_ x16.1.num x16.1.args x16.1.at_
def DV(x212:Int)(x213:Bts)(x214:Bts)(x215:Int)(x216:(Nat×Nat))(x217:(List AD))(x221:Int)(self1:((List AX)→Int→Int→Int→Int→Int→Int→Int→Int→Int→Bts→Bts→Int→(Nat×Nat)→(List AD)→Int→Option (AD×AB)))(x408:AX)(x431:(AD×AB))(x467:Int):Option (AD×AB):=
 (H2 x467 (AD.mk x212 x213 x214 x215 x216 x217 x221) x431.1 x408).bind fun x476=>self1 x431.2.marks x431.2.at_ x431.2.why x431.2.where_ x431.2.l.text x431.2.l.funcs x431.2.l.arity x431.2.l.nest x431.2.nest x476.op x476.name x476.tail x476.type_ x476.num x476.args x476.at_
def DW(φ:AC)(x200:(List AX))(x204:Int)(x205:Int)(x206:Int)(x207:Int)(x208:Int)(x209:Int)(x210:Int)(x211:Int)(x212:Int)(x213:Bts)(x214:Bts)(x215:Int)(x216:(Nat×Nat))(x217:(List AD))(x221:Int)(self1:((List AX)→Int→Int→Int→Int→Int→Int→Int→Int→Int→Bts→Bts→Int→(Nat×Nat)→(List AD)→Int→Option (AD×AB)))(x401:Bool):Option (AD×AB):=
 bif x401 then ((BM (AB.mk x200 x204 x205 x206 (Ab.mk x207 x208 x209 x210) x211)).bind fun x408=>(φ.ref04_reader_unit (AB.mk x200 (i64.wrap (x204+(1:Int))) x205 x206 (Ab.mk x207 x208 x209 x210) x211)).bind fun x431=>bif (x408.text==([47]:List UInt8)) then (DV x212 x213 x214 x215 x216 x217 x221 self1 x408 x431 (11:Int)) else (DV x212 x213 x214 x215 x216 x217 x221 self1 x408 x431 (10:Int))) else (some ((AD.mk x212 x213 x214 x215 x216 x217 x221),(AB.mk x200 x204 x205 x206 (Ab.mk x207 x208 x209 x210) x211)))
def CV(φ:AC)(self1:(List AX)→Int→Int→Int→Int→Int→Int→Int→Int→Int→Bts→Bts→Int→(Nat×Nat)→(List AD)→Int→Option (AD×AB))(x200:(List AX))(x204:Int)(x205:Int)(x206:Int)(x207:Int)(x208:Int)(x209:Int)(x210:Int)(x211:Int)(x212:Int)(x213:Bts)(x214:Bts)(x215:Int)(x216:(Nat×Nat))(x217:(List AD))(x221:Int):Option (AD×AB):=
 (BR (AB.mk x200 x204 x205 x206 (Ab.mk x207 x208 x209 x210) x211) ([42]:List UInt8)).bind fun x509=>bif x509 then (DW φ x200 x204 x205 x206 x207 x208 x209 x210 x211 x212 x213 x214 x215 x216 x217 x221 self1 true) else ((BR (AB.mk x200 x204 x205 x206 (Ab.mk x207 x208 x209 x210) x211) ([47]:List UInt8)).bind fun x517=>DW φ x200 x204 x205 x206 x207 x208 x209 x210 x211 x212 x213 x214 x215 x216 x217 x221 self1 x517)
def BS(φ:AC):Nat→(List AX)→Int→Int→Int→Int→Int→Int→Int→Int→Int→Bts→Bts→Int→(Nat×Nat)→(List AD)→Int→Option (AD×AB)
 |0=>fun _ _ _ _ _ _ _ _ _ _ _ _ _ _ _ _=>none
 |k+1=>CV φ (BS φ k)
def Ch(φ:AC)(N:Nat)(ao0:AB):Option (AD×AB):=
 (φ.ref04_reader_unit ao0).bind fun x16=>BS φ N x16.2.marks x16.2.at_ x16.2.why x16.2.where_ x16.2.l.text x16.2.l.funcs x16.2.l.arity x16.2.l.nest x16.2.nest x16.1.op x16.1.name x16.1.tail x16.1.type_ x16.1.num x16.1.args x16.1.at_
def FT(x247:Int)(x248:Bts)(x249:Bts)(x251:(Nat×Nat))(x252:Int)(x377:(List AX))(x381:Int)(x382:Int)(x383:Int)(x384:Int)(x385:Int)(x386:Int)(x387:Int)(x388:Int)(x389:Int)(x390:(List AD)):Option (AD×AB):=
 some ((AD.mk x247 x248 x249 x389 x251 x390 x252),(AB.mk x377 x381 x382 x383 (Ab.mk x384 x385 x386 x387) x388))
def B5(φ:AC)(x94:(Bool×AB))(x247:Int)(x248:Bts)(x249:Bts)(x250:Int)(x251:(Nat×Nat))(x252:Int)(x446:Bool):Option (AD×AB):=
 bif x446 then ((A4 (AB.mk x94.2.marks (i64.wrap (x94.2.at_+(1:Int))) x94.2.why x94.2.where_ (Ab.mk x94.2.l.text x94.2.l.funcs x94.2.l.arity x94.2.l.nest) x94.2.nest) ([40]:List UInt8)).bind fun x453=>(φ.ref04_reader_expr x453).bind fun x468=>(A4 x468.2 ([41]:List UInt8)).bind fun x504=>FT x247 x248 x249 x251 x252 x504.marks x504.at_ x504.why x504.where_ x504.l.text x504.l.funcs x504.l.arity x504.l.nest x504.nest x250 ([x468.1]:List AD)) else (FT x247 x248 x249 x251 x252 x94.2.marks (i64.wrap (x94.2.at_+(1:Int))) x94.2.why x94.2.where_ x94.2.l.text x94.2.l.funcs x94.2.l.arity x94.2.l.nest x94.2.nest x250 ([]:List AD))
def EM(φ:AC)(N:Nat)(x94:(Bool×AB))(x247:Int)(x248:Bts)(x249:Bts)(x250:Int)(x251:(Nat×Nat))(x252:Int):Option (AD×AB):=
 bif (x247==(5:Int)) then ((B4 N (AB.mk x94.2.marks (i64.wrap (x94.2.at_+(1:Int))) x94.2.why x94.2.where_ (Ab.mk x94.2.l.text x94.2.l.funcs x94.2.l.arity x94.2.l.nest) x94.2.nest)).bind fun x421=>FT x247 x248 x249 x251 x252 x421.2.marks x421.2.at_ x421.2.why x421.2.where_ x421.2.l.text x421.2.l.funcs x421.2.l.arity x421.2.l.nest x421.2.nest x421.1 ([]:List AD)) else (bif (x247==(14:Int)) then (B5 φ x94 x247 x248 x249 x250 x251 x252 (x247==(14:Int))) else (bif (x247==(15:Int)) then (B5 φ x94 x247 x248 x249 x250 x251 x252 (x247==(15:Int))) else (bif (x247==(16:Int)) then (B5 φ x94 x247 x248 x249 x250 x251 x252 (x247==(16:Int))) else (B5 φ x94 x247 x248 x249 x250 x251 x252 (x247==(17:Int))))))
def Cu(φ:AC)(N:Nat)(x16:AX)(x94:(Bool×AB))(x178:Bool):Option (AD×AB):=
 bif x178 then ((Bb x94.2 (21:Int)).bind fun x185=>some ((AD.mk (0:Int) ([]:List UInt8) ([]:List UInt8) (0:Int) ((0,0):Nat×Nat) [] (0:Int)),x185)) else ((HE x16.text).bind fun x548=>EM φ N x94 x548 ([]:List UInt8) ([]:List UInt8) (0:Int) ((0,0):Nat×Nat) x16.at_)
def Ci(φ:AC)(N:Nat)(ao0:AB):Option (AD×AB):=
 (BM ao0).bind fun x16=>bif (ao0.why != (0:Int)) then (some ((AD.mk (0:Int) ([]:List UInt8) ([]:List UInt8) (0:Int) ((0,0):Nat×Nat) [] (0:Int)),ao0)) else (bif (x16.kind==(2:Int)) then (some ((AD.mk (1:Int) ([]:List UInt8) ([]:List UInt8) (0:Int) x16.num [] x16.at_),(AB.mk ao0.marks (i64.wrap (ao0.at_+(1:Int))) ao0.why ao0.where_ (Ab.mk ao0.l.text ao0.l.funcs ao0.l.arity ao0.l.nest) ao0.nest))) else (bif (x16.kind==(0:Int)) then ((φ.ref04_reader_named (AB.mk ao0.marks (i64.wrap (ao0.at_+(1:Int))) ao0.why ao0.where_ (Ab.mk ao0.l.text ao0.l.funcs ao0.l.arity ao0.l.nest) ao0.nest) x16).bind fun x62=>some (x62.1,x62.2)) else ((Bc ao0 ([40]:List UInt8)).bind fun x94=>bif x94.1 then ((φ.ref04_reader_expr x94.2).bind fun x110=>(A4 x110.2 ([41]:List UInt8)).bind fun x146=>some (x110.1,x146)) else (bif (x16.kind != (1:Int)) then (Cu φ N x16 x94 true) else ((HE x16.text).bind fun x581=>Cu φ N x16 x94 (x581==(0:Int)))))))
def DA(φ:AC)(x231:(List AD))(self1:((List AX)→Int→Int→Int→Int→Int→Int→Int→Int→(List AD)→Option (AD×AB)))(x455:(List AX))(x459:Int)(x460:Int)(x461:Int)(x462:Int)(x463:Int)(x464:Int)(x465:Int)(x466:Int):Option (AD×AB):=
 (φ.ref04_reader_expr (AB.mk x455 x459 x460 x461 (Ab.mk x462 x463 x464 x465) x466)).bind fun x474=>(GD 96 x231 ([x474.1]:List AD)).bind fun _=>self1 x474.2.marks x474.2.at_ x474.2.why x474.2.where_ x474.2.l.text x474.2.l.funcs x474.2.l.arity x474.2.l.nest x474.2.nest (x231++([x474.1]:List AD))
def DB(φ:AC)(a1:AX)(x219:(List AX))(x223:Int)(x224:Int)(x225:Int)(x226:Int)(x227:Int)(x228:Int)(x229:Int)(x230:Int)(x231:(List AD))(self1:((List AX)→Int→Int→Int→Int→Int→Int→Int→Int→(List AD)→Option (AD×AB)))(x427:Bool):Option (AD×AB):=
 bif x427 then (bif (decide ((x231.length:Int)>(0:Int))) then ((A4 (AB.mk x219 x223 x224 x225 (Ab.mk x226 x227 x228 x229) x230) ([44]:List UInt8)).bind fun x548=>DA φ x231 self1 x548.marks x548.at_ x548.why x548.where_ x548.l.text x548.l.funcs x548.l.arity x548.l.nest x548.nest) else (DA φ x231 self1 x219 x223 x224 x225 x226 x227 x228 x229 x230)) else ((A4 (AB.mk x219 x223 x224 x225 (Ab.mk x226 x227 x228 x229) x230) ([41]:List UInt8)).bind fun x567=>some ((AD.mk (7:Int) a1.text ([]:List UInt8) (0:Int) ((0,0):Nat×Nat) x231 a1.at_),x567))
def CM(φ:AC)(a1:AX)(self1:(List AX)→Int→Int→Int→Int→Int→Int→Int→Int→(List AD)→Option (AD×AB))(x219:(List AX))(x223:Int)(x224:Int)(x225:Int)(x226:Int)(x227:Int)(x228:Int)(x229:Int)(x230:Int)(x231:(List AD)):Option (AD×AB):=
 bif (x224==(0:Int)) then ((BR (AB.mk x219 x223 x224 x225 (Ab.mk x226 x227 x228 x229) x230) ([41]:List UInt8)).bind fun x598=>DB φ a1 x219 x223 x224 x225 x226 x227 x228 x229 x230 x231 self1 (!x598)) else (DB φ a1 x219 x223 x224 x225 x226 x227 x228 x229 x230 x231 self1 false)
def BP(φ:AC)(a1:AX):Nat→(List AX)→Int→Int→Int→Int→Int→Int→Int→Int→(List AD)→Option (AD×AB)
 |0=>fun _ _ _ _ _ _ _ _ _ _=>none
 |k+1=>CM φ a1 (BP φ a1 k)
def CP(φ:AC)(N:Nat)(ao0:AB)(a1:AX):Option (AD×AB):=
 (Bc ao0 ([40]:List UInt8)).bind fun x22=>bif (!x22.1) then (some ((AD.mk (6:Int) a1.text ([]:List UInt8) (0:Int) ((0,0):Nat×Nat) [] a1.at_),x22.2)) else (BP φ a1 N x22.2.marks x22.2.at_ x22.2.why x22.2.where_ x22.2.l.text x22.2.l.funcs x22.2.l.arity x22.2.l.nest x22.2.nest ([]:List AD))
def AC.at:Nat→AC
 |0=>⟨fun _=>none,fun _=>none,fun _ _=>none,fun _ _=>none,fun _=>none,fun _=>none,fun _=>none,fun _=>none,fun _ _=>none⟩
 |n+1=>⟨Ce (AC.at n) n,Cf (AC.at n) n,CO (AC.at n) n,Bm (AC.at n) n,Cg (AC.at n) n,C7 (AC.at n) n,Ch (AC.at n) n,Ci (AC.at n) n,CP (AC.at n) n⟩
def ref04_reader_expr(N:Nat):AB→Option (AD×AB):=(AC.at N).ref04_reader_expr
def ref04_reader_cons(N:Nat):AB→Option (AD×AB):=(AC.at N).ref04_reader_cons
def ref04_reader_parts(N:Nat):AB→(List Bts)→Option ((List AD)×AB):=(AC.at N).ref04_reader_parts
def ref04_reader_branches(N:Nat):AB→AD→Option (AB×AD):=(AC.at N).ref04_reader_branches
def ref04_reader_comp(N:Nat):AB→Option (AD×AB):=(AC.at N).ref04_reader_comp
def ref04_reader_sum(N:Nat):AB→Option (AD×AB):=(AC.at N).ref04_reader_sum
def ref04_reader_term(N:Nat):AB→Option (AD×AB):=(AC.at N).ref04_reader_term
def ref04_reader_unit(N:Nat):AB→Option (AD×AB):=(AC.at N).ref04_reader_unit
def ref04_reader_named(N:Nat):AB→AX→Option (AD×AB):=(AC.at N).ref04_reader_named
def Dl(N:Nat)(x432:(List AH))(self1:((List AX)→Int→Int→Int→Int→Int→Int→Int→Int→(List AH)→Option (AK×AB)))(x868:(List AX))(x872:Int)(x873:Int)(x874:Int)(x875:Int)(x876:Int)(x877:Int)(x878:Int)(x879:Int):Option (AK×AB):=
 (Bz (AB.mk x868 x872 x873 x874 (Ab.mk x875 x876 x877 x878) x879)).bind fun x887=>(B4 N x887.2).bind fun x916=>(GD 32 x432 ([(AH.mk x887.1.text x916.1 x887.1.at_)]:List AH)).bind fun _=>self1 x916.2.marks x916.2.at_ x916.2.why x916.2.where_ x916.2.l.text x916.2.l.funcs x916.2.l.arity x916.2.l.nest x916.2.nest (x432++([(AH.mk x887.1.text x916.1 x887.1.at_)]:List AH))
def DF(N:Nat)(x432:(List AH))(self1:((List AX)→Int→Int→Int→Int→Int→Int→Int→Int→(List AH)→Option (AK×AB)))(x795:(List AX))(x799:Int)(x800:Int)(x801:Int)(x802:Int)(x803:Int)(x804:Int)(x805:Int)(x806:Int)(x979:Bool):Option (AK×AB):=
 bif x979 then ((Bb (AB.mk x795 x799 x800 x801 (Ab.mk x802 x803 x804 x805) x806) (22:Int)).bind fun x986=>Dl N x432 self1 x986.marks x986.at_ x986.why x986.where_ x986.l.text x986.l.funcs x986.l.arity x986.l.nest x986.nest) else (Dl N x432 self1 x795 x799 x800 x801 x802 x803 x804 x805 x806)
def Dm(N:Nat)(x432:(List AH))(self1:((List AX)→Int→Int→Int→Int→Int→Int→Int→Int→(List AH)→Option (AK×AB)))(x795:(List AX))(x799:Int)(x800:Int)(x801:Int)(x802:Int)(x803:Int)(x804:Int)(x805:Int)(x806:Int):Option (AK×AB):=
 bif (x800==(0:Int)) then ((BM (AB.mk x795 x799 x800 x801 (Ab.mk x802 x803 x804 x805) x806)).bind fun x1008=>bif (x1008.kind==(0:Int)) then (DF N x432 self1 x795 x799 x800 x801 x802 x803 x804 x805 x806 (decide ((x432.length:Int)≥x804))) else (DF N x432 self1 x795 x799 x800 x801 x802 x803 x804 x805 x806 false)) else (DF N x432 self1 x795 x799 x800 x801 x802 x803 x804 x805 x806 false)
def DG(N:Nat)(x77:(AX×AB))(x420:(List AX))(x424:Int)(x425:Int)(x426:Int)(x427:Int)(x428:Int)(x429:Int)(x430:Int)(x431:Int)(x432:(List AH))(self1:((List AX)→Int→Int→Int→Int→Int→Int→Int→Int→(List AH)→Option (AK×AB)))(x767:Bool):Option (AK×AB):=
 bif x767 then (bif (decide ((x432.length:Int)>(0:Int))) then ((A4 (AB.mk x420 x424 x425 x426 (Ab.mk x427 x428 x429 x430) x431) ([44]:List UInt8)).bind fun x1027=>Dm N x432 self1 x1027.marks x1027.at_ x1027.why x1027.where_ x1027.l.text x1027.l.funcs x1027.l.arity x1027.l.nest x1027.nest) else (Dm N x432 self1 x420 x424 x425 x426 x427 x428 x429 x430 x431)) else ((A4 (AB.mk x420 x424 x425 x426 (Ab.mk x427 x428 x429 x430) x431) ([41]:List UInt8)).bind fun x1046=>(A4 x1046 ([58]:List UInt8)).bind fun x1061=>(B4 N x1061).bind fun x1076=>(A4 x1076.2 ([61]:List UInt8)).bind fun x1098=>(ref04_reader_expr N x1098).bind fun x1113=>(A4 x1113.2 ([59]:List UInt8)).bind fun x1143=>some ((AK.mk x77.1.text x432 x1076.1 x1113.1 x77.1.at_),x1143))
def Cv(N:Nat)(x77:(AX×AB))(self1:(List AX)→Int→Int→Int→Int→Int→Int→Int→Int→(List AH)→Option (AK×AB))(x420:(List AX))(x424:Int)(x425:Int)(x426:Int)(x427:Int)(x428:Int)(x429:Int)(x430:Int)(x431:Int)(x432:(List AH)):Option (AK×AB):=
 bif (x425==(0:Int)) then ((BR (AB.mk x420 x424 x425 x426 (Ab.mk x427 x428 x429 x430) x431) ([41]:List UInt8)).bind fun x1176=>DG N x77 x420 x424 x425 x426 x427 x428 x429 x430 x431 x432 self1 (!x1176)) else (DG N x77 x420 x424 x425 x426 x427 x428 x429 x430 x431 x432 self1 false)
def BO(N:Nat)(x77:(AX×AB)):Nat→(List AX)→Int→Int→Int→Int→Int→Int→Int→Int→(List AH)→Option (AK×AB)
 |0=>fun _ _ _ _ _ _ _ _ _ _=>none
 |k+1=>Cv N x77 (BO N x77 k)
def Dn(N:Nat)(x58:(List AX))(x62:Int)(x63:Int)(x64:Int)(x65:Int)(x66:Int)(x67:Int)(x68:Int)(x69:Int):Option (AK×AB):=
 (Bz (AB.mk x58 x62 x63 x64 (Ab.mk x65 x66 x67 x68) x69)).bind fun x77=>(A4 x77.2 ([40]:List UInt8)).bind fun x116=>BO N x77 N x116.marks x116.at_ x116.why x116.where_ x116.l.text x116.l.funcs x116.l.arity x116.l.nest x116.nest ([]:List AH)
def Do(N:Nat)(ao0:AB)(x1193:Bool):Option (AK×AB):=
 bif x1193 then ((Bb ao0 (22:Int)).bind fun x1200=>Dn N x1200.marks x1200.at_ x1200.why x1200.where_ x1200.l.text x1200.l.funcs x1200.l.arity x1200.l.nest x1200.nest) else (Dn N ao0.marks ao0.at_ ao0.why ao0.where_ ao0.l.text ao0.l.funcs ao0.l.arity ao0.l.nest ao0.nest)
def CU(N:Nat)(ao0:AB)(a1:Int):Option (AK×AB):=
 (BM ao0).bind fun x1219=>bif (x1219.kind==(0:Int)) then (Do N ao0 (decide (a1≥ao0.l.funcs))) else (Do N ao0 false)
def Bn(N:Nat)(x142:(List AX))(x146:Int)(x147:Int)(x148:Int)(x149:Int)(x150:Int)(x151:Int)(x152:Int)(x153:Int)(x154:(List AK))(self1:((List AX)→Int→Int→Int→Int→Int→Int→Int→Int→(List AK)→Option (AN×AB)))(x316:Bool):Option (AN×AB):=
 bif x316 then ((CU N (AB.mk x142 x146 x147 x148 (Ab.mk x149 x150 x151 x152) x153) (x154.length:Int)).bind fun x328=>(GD 152 x154 ([x328.1]:List AK)).bind fun _=>self1 x328.2.marks x328.2.at_ x328.2.why x328.2.where_ x328.2.l.text x328.2.l.funcs x328.2.l.arity x328.2.l.nest x328.2.nest (x154++([x328.1]:List AK))) else (some ((AN.mk x154),(AB.mk x142 x146 x147 x148 (Ab.mk x149 x150 x151 x152) x153)))
def Bw(N:Nat)(self1:(List AX)→Int→Int→Int→Int→Int→Int→Int→Int→(List AK)→Option (AN×AB))(x142:(List AX))(x146:Int)(x147:Int)(x148:Int)(x149:Int)(x150:Int)(x151:Int)(x152:Int)(x153:Int)(x154:(List AK)):Option (AN×AB):=
 bif (x147==(0:Int)) then (bif ((x154.length:Int)==(0:Int)) then (Bn N x142 x146 x147 x148 x149 x150 x151 x152 x153 x154 self1 true) else ((BM (AB.mk x142 x146 x147 x148 (Ab.mk x149 x150 x151 x152) x153)).bind fun x422=>Bn N x142 x146 x147 x148 x149 x150 x151 x152 x153 x154 self1 (x422.kind != (4:Int)))) else (Bn N x142 x146 x147 x148 x149 x150 x151 x152 x153 x154 self1 false)
def BI(N:Nat):Nat→(List AX)→Int→Int→Int→Int→Int→Int→Int→Int→(List AK)→Option (AN×AB)
 |0=>fun _ _ _ _ _ _ _ _ _ _=>none
 |k+1=>Bw N (BI N k)
def Bd(N:Nat)(ao0:AB):Option (AN×AB):=
 BI N N ao0.marks ao0.at_ ao0.why ao0.where_ ao0.l.text ao0.l.funcs ao0.l.arity ao0.l.nest ao0.nest ([]:List AK)
def E4(N:Nat)(a0:Bts)(a1:Ab):Option (AN×AE):=
 bif (decide ((a0.length:Int)>(if (32768:Int)< (if a1.text< (0:Int) then (0:Int) else a1.text) then (32768:Int) else (if a1.text< (0:Int) then (0:Int) else a1.text)))) then (some ((AN.mk []),(AE.mk (22:Int) (if (32768:Int)< (if a1.text< (0:Int) then (0:Int) else a1.text) then (32768:Int) else (if a1.text< (0:Int) then (0:Int) else a1.text))))) else ((FR N a0).bind fun x54=>bif (decide (x54.2≥(0:Int))) then (some ((AN.mk []),(AE.mk (20:Int) x54.2))) else ((Bd N (AB.mk x54.1 (0:Int) (0:Int) (0:Int) (Ab.mk (if (32768:Int)< (if a1.text< (0:Int) then (0:Int) else a1.text) then (32768:Int) else (if a1.text< (0:Int) then (0:Int) else a1.text)) a1.funcs a1.arity a1.nest) (0:Int))).bind fun x85=>bif (x85.2.why != (0:Int)) then (some ((AN.mk []),(AE.mk x85.2.why x85.2.where_))) else (some (x85.1,(AE.mk (0:Int) (0:Int))))))
def Gs(x166:Int)(self1:((List Bts)→Int→Int→Option ((List Bts))))(x410:(List Bts))(x414:Int):Option ((List Bts)):=
 self1 x410 x414 (i64.wrap (x166+(1:Int)))
def Gt(x166:Int)(self1:((List Bts)→Int→Int→Option ((List Bts))))(x454:(List Bts)):Option ((List Bts)):=
 Gs x166 self1 x454 (i64.wrap (x166+(1:Int)))
def Fo(a0:Bts)(x161:(List Bts))(x165:Int)(x166:Int)(self1:((List Bts)→Int→Int→Option ((List Bts))))(x423:Bool):Option ((List Bts)):=
 bif x423 then (Gs x166 self1 x161 x165) else (bif (decide (x166>x165)) then ((sub a0 x165 x166).bind fun x464=>(GD 16 x161 ([x464]:List Bts)).bind fun _=>Gt x166 self1 (x161++([x464]:List Bts))) else (Gt x166 self1 x161))
def Eb(a0:Bts)(self1:(List Bts)→Int→Int→Option ((List Bts)))(x161:(List Bts))(x165:Int)(x166:Int):Option ((List Bts)):=
 bif (decide (x166≤(a0.length:Int))) then (bif (decide (x166< (a0.length:Int))) then ((idx a0 x166).bind fun x490=>Fo a0 x161 x165 x166 self1 (((x490).toNat:Int) != (((32:UInt8)).toNat:Int))) else (Fo a0 x161 x165 x166 self1 false)) else (some x161)
def D0(a0:Bts):Nat→(List Bts)→Int→Int→Option ((List Bts))
 |0=>fun _ _ _=>none
 |k+1=>Eb a0 (D0 a0 k)
def FU(N:Nat)(a0:Bts):Option ((List Bts)):=
 D0 a0 N ([]:List Bts) (0:Int) (0:Int)
def GX(a0:Nat)(x6:Bool):Option (Int×Bool):=
 bif x6 then (some ((0:Int),false)) else ((f2i .i64 a0).bind fun x11=>some (x11,(feq (FloatKind.f64.nearest x11) a0)))
def HF(a0:Nat):Option (Int×Bool):=
 bif (fge a0 (13938640846711685120:Nat)) then (bif (!(fle a0 (4715268809856909312:Nat))) then (GX a0 true) else (bif (feq a0 (0:Nat)) then (GX a0 (((a0:Nat):Int) != (0:Int))) else (GX a0 false))) else (bif (!false) then (GX a0 true) else (bif (feq a0 (0:Nat)) then (GX a0 (((a0:Nat):Int) != (0:Int))) else (GX a0 false)))
def MJ(x7:(Int×Bool))(x12:(Int×Bool))(x18:Bool):Option (Ad×Bool):=
 bif x18 then (some ((Ad.mk (0:Int) (0:Int)),false)) else (some ((Ad.mk x7.1 x12.1),true))
def EA(a0:(Nat×Nat)):Option (Ad×Bool):=
 (HF a0.1).bind fun x7=>(HF a0.2).bind fun x12=>bif (!x7.2) then (MJ x7 x12 true) else (MJ x7 x12 (!x12.2))
def Gu(x106:Int)(self1:(Bool→Int→Option (Bool)))(x222:Bool):Option (Bool):=
 self1 x222 (i64.wrap (x106+(1:Int)))
def IW(x262:Bool):Option (Bool):=
 some x262
def IX(x277:Bool):Option (Bool):=
 some x277
def IY(x289:Bool):Option (Bool):=
 some x289
def Ec(a0:AG)(self1:Bool→Int→Option (Bool))(x105:Bool)(x106:Int):Option (Bool):=
 bif (decide (x106< (a0.list.length:Int))) then ((idx a0.list x106).bind fun x226=>(EA x226).bind fun x238=>bif x105 then (Gu x106 self1 x238.2) else (Gu x106 self1 false)) else (bif (a0.type_==(1:Int)) then (bif x105 then (bif (!a0.bool) then (IW ((a0.list.length:Int)==(0:Int))) else (IW false)) else (IW false)) else (bif (a0.type_==(2:Int)) then (bif x105 then (bif (ceq a0.num ((0,0):Nat×Nat)) then (IX ((a0.list.length:Int)==(0:Int))) else (IX false)) else (IX false)) else (bif (a0.type_==(3:Int)) then (bif x105 then (bif (ceq a0.num ((0,0):Nat×Nat)) then (IY (!a0.bool)) else (IY false)) else (IY false)) else (some false))))
def EN(a0:AG):Nat→Bool→Int→Option (Bool)
 |0=>fun _ _=>none
 |k+1=>Ec a0 (EN a0 k)
def Bq(N:Nat)(a0:AG):Option (Bool):=
 (EA a0.num).bind fun x13=>EN a0 N x13.2 (0:Int)
def Du(N:Nat)(a0:(Nat×Nat)):Option (Bts):=
 (EA a0).bind fun x1=>(FP N x1.1).bind fun x18=>some x18
def GY(N:Nat)(a0:AG)(x133:Int)(self1:(Bts→Int→Option (Bts×Int)))(x271:Bts):Option (Bts×Int):=
 (idx a0.list x133).bind fun x281=>(Du N x281).bind fun x294=>(GD 1 x271 x294).bind fun _=>self1 (x271++x294) (i64.wrap (x133+(1:Int)))
def FC(N:Nat)(a0:AG)(self1:Bts→Int→Option (Bts×Int))(x129:Bts)(x133:Int):Option (Bts×Int):=
 bif (decide (x133< (a0.list.length:Int))) then (bif (decide (x133>(0:Int))) then ((GD 1 x129 ([(32:UInt8)]:List UInt8)).bind fun _=>GY N a0 x133 self1 (x129++([(32:UInt8)]:List UInt8))) else (GY N a0 x133 self1 x129)) else ((O4 ([91]:List UInt8) x129).bind fun x338=>(O4 x338 ([93]:List UInt8)).bind fun x340=>some (x340,(0:Int)))
def Ed(N:Nat)(a0:AG):Nat→Bts→Int→Option (Bts×Int)
 |0=>fun _ _=>none
 |k+1=>FC N a0 (Ed N a0 k)
def Fp(N:Nat)(a0:AG):Option (Bts×Int):=
 (Bq N a0).bind fun x14=>bif (!x14) then (some (([]:List UInt8),(3:Int))) else (bif (a0.type_==(1:Int)) then ((Du N a0.num).bind fun x22=>some (x22,(0:Int))) else (bif (a0.type_==(2:Int)) then (bif a0.bool then (some (([116,114,117,101]:List UInt8),(0:Int))) else (some (([102,97,108,115,101]:List UInt8),(0:Int)))) else (Ed N a0 N ([]:List UInt8) (0:Int))))
def Ee(N:Nat)(a0:Bts)(x74:((List Bts)))(self1:Int→Int→Int→(List (Nat×Nat))→Option (AG×Int))(x192:Int)(_x193:Int)(_x194:Int)(x195:(List (Nat×Nat))):Option (AG×Int):=
 bif (decide (x192< (x74.length:Int))) then ((idx x74 x192).bind fun x328=>(D6 N x328).bind fun x340=>bif (x340.2 != (0:Int)) then (some ((AG.mk (0:Int) ((0,0):Nat×Nat) false []),(11:Int))) else ((FQ x340.1).bind fun x389=>(GD 16 x195 ([x389]:List (Nat×Nat))).bind fun _=>self1 (i64.wrap (x192+(1:Int))) x340.1.re x340.1.im (x195++([x389]:List (Nat×Nat))))) else ((Fp N (AG.mk (3:Int) ((0,0):Nat×Nat) false x195)).bind fun x428=>bif (!(x428.1==a0)) then (some ((AG.mk (0:Int) ((0,0):Nat×Nat) false []),(11:Int))) else (some ((AG.mk (3:Int) ((0,0):Nat×Nat) false x195),(0:Int))))
def EO(N:Nat)(a0:Bts)(x74:((List Bts))):Nat→Int→Int→Int→(List (Nat×Nat))→Option (AG×Int)
 |0=>fun _ _ _ _=>none
 |k+1=>Ee N a0 x74 (EO N a0 x74 k)
def FD(N:Nat)(a0:Bts)(x18:(Ad×Int))(x52:Bool):Option (AG×Int):=
 bif x52 then (some ((AG.mk (0:Int) ((0,0):Nat×Nat) false []),(11:Int))) else ((sub a0 (1:Int) (i64.wrap ((a0.length:Int) - (1:Int)))).bind fun x72=>(FU N x72).bind fun x74=>EO N a0 x74 N (0:Int) x18.1.re x18.1.im ([]:List (Nat×Nat)))
def Fq(N:Nat)(a0:Bts)(x8:Bool):Option (AG×Int):=
 bif x8 then (some ((AG.mk (2:Int) ((0,0):Nat×Nat) (a0==([116,114,117,101]:List UInt8)) []),(0:Int))) else ((D6 N a0).bind fun x18=>bif (x18.2==(0:Int)) then ((FQ x18.1).bind fun x36=>some ((AG.mk (1:Int) x36 false []),(0:Int))) else (bif (decide ((a0.length:Int)< (2:Int))) then (FD N a0 x18 true) else ((idx a0 (0:Int)).bind fun x457=>bif (((x457).toNat:Int) != (((91:UInt8)).toNat:Int)) then (FD N a0 x18 true) else ((idx a0 (i64.wrap ((a0.length:Int) - (1:Int)))).bind fun x460=>FD N a0 x18 (((x460).toNat:Int) != (((93:UInt8)).toNat:Int))))))
def E5(N:Nat)(a0:Bts):Option (AG×Int):=
 bif (a0==([116,114,117,101]:List UInt8)) then (Fq N a0 true) else (Fq N a0 (a0==([102,97,108,115,101]:List UInt8)))
def Gv(x340:Int)(self4:(Int→Bool→Option ((List AG)×Int)))(x386:Bool):Option ((List AG)×Int):=
 self4 (i64.wrap (x340+(1:Int))) x386
def D1(N:Nat)(a0:Bts)(x148:(List AG))(x152:Int)(self3:((List AG)→Int→Option ((List AG)×Int)))(x340:Int)(x341:Bool)(self4:(Int→Bool→Option ((List AG)×Int)))(x378:Bool):Option ((List AG)×Int):=
 bif x378 then ((idx a0 x340).bind fun x390=>bif (((x390).toNat:Int)==(((93:UInt8)).toNat:Int)) then (Gv x340 self4 false) else (Gv x340 self4 x341)) else ((sub a0 x152 x340).bind fun x393=>(E5 N x393).bind fun x395=>bif (x395.2 != (0:Int)) then (some ([],(11:Int))) else ((GD 56 x148 ([x395.1]:List AG)).bind fun _=>self3 (x148++([x395.1]:List AG)) x340))
def Eg(N:Nat)(a0:Bts)(x148:(List AG))(x152:Int)(self3:((List AG)→Int→Option ((List AG)×Int)))(self4:Int→Bool→Option ((List AG)×Int))(x340:Int)(x341:Bool):Option ((List AG)×Int):=
 bif (decide (x340< (a0.length:Int))) then (bif x341 then (D1 N a0 x148 x152 self3 x340 x341 self4 true) else ((idx a0 x340).bind fun x445=>D1 N a0 x148 x152 self3 x340 x341 self4 (((x445).toNat:Int) != (((32:UInt8)).toNat:Int)))) else (D1 N a0 x148 x152 self3 x340 x341 self4 false)
def Dp(N:Nat)(a0:Bts)(x148:(List AG))(x152:Int)(self3:((List AG)→Int→Option ((List AG)×Int))):Nat→Int→Bool→Option ((List AG)×Int)
 |0=>fun _ _=>none
 |k+1=>Eg N a0 x148 x152 self3 (Dp N a0 x148 x152 self3 k)
def Eh(N:Nat)(a0:Bts)(self3:(List AG)→Int→Option ((List AG)×Int))(x148:(List AG))(x152:Int):Option ((List AG)×Int):=
 bif (decide (x152< (a0.length:Int))) then ((idx a0 x152).bind fun x309=>bif (((x309).toNat:Int)==(((32:UInt8)).toNat:Int)) then (self3 x148 (i64.wrap (x152+(1:Int)))) else ((idx a0 x152).bind fun x312=>Dp N a0 x148 x152 self3 N x152 (((x312).toNat:Int)==(((91:UInt8)).toNat:Int)))) else (some (x148,(0:Int)))
def CB(N:Nat)(a0:Bts):Nat→(List AG)→Int→Option ((List AG)×Int)
 |0=>fun _ _=>none
 |k+1=>Eh N a0 (CB N a0 k)
def FV(N:Nat)(a0:Bts):Option ((List AG)×Int):=
 CB N a0 N ([]:List AG) (0:Int)
def H6(x551:(List AG))(x555:Bool)(x556:(List AK)):Option (AN×(List AG)×Bool):=
 some ((AN.mk x556),x551,x555)
def Fr(N:Nat)(a0:Dy)(x509:(List AK))(x513:Int):Option (AN×(List AG)×Bool):=
 (FV N a0.args).bind fun x525=>bif (x513==(0:Int)) then (H6 x525.1 (x525.2==(0:Int)) x509) else (H6 x525.1 false x509)
def Br(N:Nat)(a0:Dy):Option (AN×(List AG)×Bool):=
 (Iz).bind fun x634=>(E4 N a0.text x634).bind fun x642=>Fr N a0 x642.1.funcs x642.2.why
def IZ(a0:Int)(a1:Int)(ao0:AE)(x3:Bool):Option (AE):=
 bif x3 then (some (AE.mk a0 a1)) else (some ao0)
def Db(a0:Int)(a1:Int)(ao0:AE):Option (AE):=
 bif (ao0.why==(0:Int)) then (IZ a0 a1 ao0 true) else (IZ a0 a1 ao0 (decide (a1<ao0.at_)))
def GN(a0:AD)(ao4:AE)(x102:Bool):Option (AE):=
 bif x102 then ((Db (33:Int) a0.at_ ao4).bind fun x110=>some x110) else (some ao4)
def FW(a0:AD)(ao2:Ae)(ao4:AE)(ao5:AN)(x48:Bool):Option (AE):=
 bif x48 then ((Db (32:Int) a0.at_ ao4).bind fun x56=>some x56) else (bif (a0.op==(7:Int)) then ((idx ao5.funcs (i64.wrap ((CJ ao2 a0.name) - (1:Int)))).bind fun x125=>GN a0 ao4 ((x125.params.length:Int) != (a0.args.length:Int))) else (GN a0 ao4 false))
def GO(a0:AD)(ao2:Ae)(ao4:AE)(ao5:AN)(x29:Bool):Option (AE):=
 bif x29 then ((Db (31:Int) a0.at_ ao4).bind fun x37=>some x37) else (bif (a0.op==(7:Int)) then (FW a0 ao2 ao4 ao5 ((CJ ao2 a0.name)==(0:Int))) else (FW a0 ao2 ao4 ao5 false))
def FE(a0:AD)(ao0:Ae)(ao2:Ae)(ao4:AE)(ao5:AN):Option (AE):=
 bif (a0.op==(6:Int)) then (GO a0 ao2 ao4 ao5 ((CJ ao0 a0.name)==(0:Int))) else (GO a0 ao2 ao4 ao5 false)
def JT(a0:AD)(x37:Bool):Option ((List Bts)):=
 bif x37 then (some ([a0.name,a0.tail]:List Bts)) else (some [])
def Ia(a0:AD)(a1:Int)(x15:Bool):Option ((List Bts)):=
 bif x15 then (some ([a0.name]:List Bts)) else (bif (a0.op==(20:Int)) then (JT a0 (a1==(2:Int))) else (JT a0 false))
def Gw(a0:AD)(a1:Int):Option ((List Bts)):=
 bif (a0.op==(21:Int)) then (Ia a0 a1 (a0.op==(21:Int))) else (bif (a0.op==(22:Int)) then (Ia a0 a1 (a1==(1:Int))) else (Ia a0 a1 false))
structure Aw where
 scope_walk:AD→Ae→Ae→AE→AN→Option (Ae×AE)
def Hl(x275:Int)(self5:(Int→Ae→Int→Int→Option (Ae×AE)))(x552:((List Bts)))(x649:(Ae×AE))(self7:Int→Ae→Option (Ae×AE))(x688:Int)(x689:Ae):Option (Ae×AE):=
 bif (decide (x688< (x552.length:Int))) then ((idx x552 x688).bind fun x722=>self7 (i64.wrap (x688+(1:Int))) (Ko x722 (i64.wrap ((CJ x689 x722) - (1:Int))) x689)) else (self5 (i64.wrap (x275+(1:Int))) x689 x649.2.why x649.2.at_)
def Ha(x275:Int)(self5:(Int→Ae→Int→Int→Option (Ae×AE)))(x552:((List Bts)))(x649:(Ae×AE)):Nat→Int→Ae→Option (Ae×AE)
 |0=>fun _ _=>none
 |k+1=>Hl x275 self5 x552 x649 (Ha x275 self5 x552 x649 k)
def Hm(φ:Aw)(N:Nat)(ao2:Ae)(ao5:AN)(x275:Int)(x277:Int)(x278:Int)(self5:(Int→Ae→Int→Int→Option (Ae×AE)))(x520:AD)(x552:((List Bts)))(self6:Int→Ae→Option (Ae×AE))(x590:Int)(x591:Ae):Option (Ae×AE):=
 bif (decide (x590< (x552.length:Int))) then ((idx x552 x590).bind fun x624=>self6 (i64.wrap (x590+(1:Int))) (Ko x624 (i64.wrap ((CJ x591 x624)+(1:Int))) x591)) else ((φ.scope_walk x520 x591 ao2 (AE.mk x277 x278) ao5).bind fun x649=>Ha x275 self5 x552 x649 N (0:Int) x649.1)
def Hb(φ:Aw)(N:Nat)(ao2:Ae)(ao5:AN)(x275:Int)(x277:Int)(x278:Int)(self5:(Int→Ae→Int→Int→Option (Ae×AE)))(x520:AD)(x552:((List Bts))):Nat→Int→Ae→Option (Ae×AE)
 |0=>fun _ _=>none
 |k+1=>Hm φ N ao2 ao5 x275 x277 x278 self5 x520 x552 (Hb φ N ao2 ao5 x275 x277 x278 self5 x520 x552 k)
def Hn(φ:Aw)(N:Nat)(a0:AD)(ao2:Ae)(ao5:AN)(self5:Int→Ae→Int→Int→Option (Ae×AE))(x275:Int)(x276:Ae)(x277:Int)(x278:Int):Option (Ae×AE):=
 bif (decide (x275< (a0.args.length:Int))) then ((idx a0.args x275).bind fun x520=>(Gw a0 x275).bind fun x552=>Hb φ N ao2 ao5 x275 x277 x278 self5 x520 x552 N (0:Int) x276) else (some (x276,(AE.mk x277 x278)))
def CN(φ:Aw)(N:Nat)(a0:AD)(ao2:Ae)(ao5:AN):Nat→Int→Ae→Int→Int→Option (Ae×AE)
 |0=>fun _ _ _ _=>none
 |k+1=>Hn φ N a0 ao2 ao5 (CN φ N a0 ao2 ao5 k)
def Jn(φ:Aw)(N:Nat)(a0:AD)(ao0:Ae)(ao2:Ae)(ao4:AE)(ao5:AN):Option (Ae×AE):=
 (FE a0 ao0 ao2 ao4 ao5).bind fun x33=>CN φ N a0 ao2 ao5 N (0:Int) ao0 x33.why x33.at_
def Aw.at:Nat→Aw
 |0=>⟨fun _ _ _ _ _=>none⟩
 |n+1=>⟨Jn (Aw.at n) n⟩
def scope_walk(N:Nat):AD→Ae→Ae→AE→AN→Option (Ae×AE):=(Aw.at N).scope_walk
def Ib(x186:Int)(self1:(Int→Int→Int→Ae→Option (AE)))(x388:Int)(x389:Int)(x390:Ae):Option (AE):=
 self1 (i64.wrap (x186+(1:Int))) x388 x389 x390
def Ic(x1185:Int)(x1188:Ae)(self5:(Int→Int→Int→Ae→Option (AE)))(x1273:AH)(x1309:Int)(x1310:Int):Option (AE):=
 self5 (i64.wrap (x1185+(1:Int))) x1309 x1310 (Ko x1273.name (i64.wrap ((CJ x1188 x1273.name)+(1:Int))) x1188)
def FL(N:Nat)(a0:AN)(x189:Ae)(x757:Int)(self4:(Int→Int→Int→Option (AE)))(x1066:AK)(self5:Int→Int→Int→Ae→Option (AE))(x1185:Int)(x1186:Int)(x1187:Int)(x1188:Ae):Option (AE):=
 bif (decide (x1185< (x1066.params.length:Int))) then ((idx x1066.params x1185).bind fun x1273=>bif (decide ((CJ x1188 x1273.name)>(0:Int))) then ((Db (30:Int) x1273.at_ (AE.mk x1186 x1187)).bind fun x1327=>Ic x1185 x1188 self5 x1273 x1327.why x1327.at_) else (Ic x1185 x1188 self5 x1273 x1186 x1187)) else ((scope_walk N (AD.mk x1066.body.op x1066.body.name x1066.body.tail x1066.body.type_ x1066.body.num x1066.body.args x1066.body.at_) x1188 x189 (AE.mk x1186 x1187) a0).bind fun x1344=>self4 (i64.wrap (x757+(1:Int))) x1344.2.why x1344.2.at_)
def FF(N:Nat)(a0:AN)(x189:Ae)(x757:Int)(self4:(Int→Int→Int→Option (AE)))(x1066:AK):Nat→Int→Int→Int→Ae→Option (AE)
 |0=>fun _ _ _ _=>none
 |k+1=>FL N a0 x189 x757 self4 x1066 (FF N a0 x189 x757 self4 x1066 k)
def HG(N:Nat)(a0:AN)(x189:Ae)(self4:Int→Int→Int→Option (AE))(x757:Int)(x758:Int)(x759:Int):Option (AE):=
 bif (decide (x757< (a0.funcs.length:Int))) then ((idx a0.funcs x757).bind fun x1066=>FF N a0 x189 x757 self4 x1066 N (0:Int) x758 x759 ([]:Ae)) else (some (AE.mk x758 x759))
def Cj(N:Nat)(a0:AN)(x189:Ae):Nat→Int→Int→Int→Option (AE)
 |0=>fun _ _ _=>none
 |k+1=>HG N a0 x189 (Cj N a0 x189 k)
def HH(N:Nat)(a0:AN)(self1:Int→Int→Int→Ae→Option (AE))(x186:Int)(x187:Int)(x188:Int)(x189:Ae):Option (AE):=
 bif (decide (x186< (a0.funcs.length:Int))) then ((idx a0.funcs x186).bind fun x398=>bif (decide ((CJ x189 x398.name)>(0:Int))) then ((Db (30:Int) x398.at_ (AE.mk x187 x188)).bind fun x440=>Ib x186 self1 x440.why x440.at_ x189) else (Ib x186 self1 x187 x188 (Ko x398.name (i64.wrap (x186+(1:Int))) x189))) else (Cj N a0 x189 N (0:Int) x187 x188)
def Gy(N:Nat)(a0:AN):Nat→Int→Int→Int→Ae→Option (AE)
 |0=>fun _ _ _ _=>none
 |k+1=>HH N a0 (Gy N a0 k)
def Hc(N:Nat)(a0:AN):Option (AE):=
 Gy N a0 N (0:Int) (0:Int) (0:Int) ([]:Ae)
def Hp(a0:AN)(self1:Int→Ae→Option (Ae×(List AK)×(List AH)×Ae))(x72:Int)(x73:Ae):Option (Ae×(List AK)×(List AH)×Ae):=
 bif (decide (x72≥(0:Int))) then ((idx a0.funcs x72).bind fun x127=>self1 (i64.wrap (x72 - (1:Int))) (Ko x127.name (i64.wrap (x72+(1:Int))) x73)) else (some (x73,a0.funcs,[],x73))
def Hd(a0:AN):Nat→Int→Ae→Option (Ae×(List AK)×(List AH)×Ae)
 |0=>fun _ _=>none
 |k+1=>Hp a0 (Hd a0 k)
def JU(N:Nat)(a0:AN)(_ao0:AE):Option (Ae×(List AK)×(List AH)×Ae):=
 Hd a0 N (i64.wrap ((a0.funcs.length:Int) - (1:Int))) ([]:Ae)
def Id(a0:Int)(ao0:AE)(x3:Bool):Option (AE):=
 bif x3 then (some (AE.mk (34:Int) a0)) else (some ao0)
def FG(a0:Int)(ao0:AE):Option (AE):=
 bif (ao0.why==(0:Int)) then (Id a0 ao0 true) else (Id a0 ao0 (decide (a0<ao0.at_)))
structure AF where
 types_checker_want:(List AK)→(List AH)→Ae→AE→AD→Int→Option ((List AK)×(List AH)×AE)
 types_checker_all:(List AK)→(List AH)→Ae→AE→Int→(List AD)→Option ((List AK)×(List AH)×AE)
 types_checker_in:(List AK)→(List AH)→Ae→AE→AD→Int→(List AH)→Option ((List AK)×(List AH)×AE)
 types_checker_in_2:(List AK)→(List AH)→Ae→AE→AD→Int→(List AH)→Option ((List AK)×(List AH)×AE)
 types_checker_in_3:(List AK)→(List AH)→Ae→AE→AD→Int→(List AH)→Option ((List AK)×(List AH)×AE)
 types_checker_own:(List AK)→(List AH)→Ae→AE→AD→Option (Int×(List AK)×(List AH)×AE)
 types_checker_want_1:(List AK)→(List AH)→Ae→AE→AD→Int→Option ((List AK)×(List AH)×AE)
 types_checker_want_2:(List AK)→(List AH)→Ae→AE→AD→Int→Option ((List AK)×(List AH)×AE)
 types_checker_want_3:(List AK)→(List AH)→Ae→AE→AD→Int→Option ((List AK)×(List AH)×AE)
 types_checker_call:(List AK)→(List AH)→Ae→AE→AD→Option (Int×(List AK)×(List AH)×AE)
def CC(a1:AD)(a2:Int)(x1084:Int)(x1085:(List AK))(x1089:(List AH))(x1093:Int)(x1094:Int):Option ((List AK)×(List AH)×AE):=
 bif (x1084 != a2) then ((FG a1.at_ (AE.mk x1093 x1094)).bind fun x1128=>some (x1085,x1089,x1128)) else (some (x1085,x1089,(AE.mk x1093 x1094)))
def FX(φ:AF)(_N:Nat)(ao0_1:(List AK))(ao0_2:(List AH))(ao1:Ae)(ao2:AE)(a1:AD)(a2:Int):Option ((List AK)×(List AH)×AE):=
 bif (a1.op==(19:Int)) then ((idx a1.args (0:Int)).bind fun x1269=>(φ.types_checker_want ao0_1 ao0_2 ao1 ao2 x1269 (2:Int)).bind fun x1293=>(sub a1.args (1:Int) (a1.args.length:Int)).bind fun x1441=>(φ.types_checker_all x1293.1 x1293.2.1 ao1 x1293.2.2 a2 x1441).bind fun x1463=>CC a1 a2 a2 x1463.1 x1463.2.1 x1463.2.2.why x1463.2.2.at_) else (bif (a1.op==(20:Int)) then ((idx a1.args (0:Int)).bind fun x1614=>(φ.types_checker_want ao0_1 ao0_2 ao1 ao2 x1614 (3:Int)).bind fun x1638=>(idx a1.args (1:Int)).bind fun x1791=>(φ.types_checker_want x1638.1 x1638.2.1 ao1 x1638.2.2 x1791 a2).bind fun x1816=>(φ.types_checker_in x1816.1 x1816.2.1 ao1 x1816.2.2 a1 a2 ([(AH.mk a1.name (1:Int) (0:Int)),(AH.mk a1.tail (3:Int) (0:Int))]:List AH)).bind fun x1864=>CC a1 a2 a2 x1864.1 x1864.2.1 x1864.2.2.why x1864.2.2.at_) else (bif (a1.op==(21:Int)) then ((φ.types_checker_in_2 ao0_1 ao0_2 ao1 ao2 a1 a2 ([(AH.mk a1.name a1.type_ (0:Int))]:List AH)).bind fun x1912=>CC a1 a2 a2 x1912.1 x1912.2.1 x1912.2.2.why x1912.2.2.at_) else (bif (a1.op==(22:Int)) then ((idx a1.args (0:Int)).bind fun x2063=>(φ.types_checker_want ao0_1 ao0_2 ao1 ao2 x2063 a1.type_).bind fun x2087=>(φ.types_checker_in_3 x2087.1 x2087.2.1 ao1 x2087.2.2 a1 a2 ([(AH.mk a1.name a1.type_ (0:Int))]:List AH)).bind fun x2135=>CC a1 a2 a2 x2135.1 x2135.2.1 x2135.2.2.why x2135.2.2.at_) else ((φ.types_checker_own ao0_1 ao0_2 ao1 ao2 a1).bind fun x2165=>CC a1 a2 x2165.1 x2165.2.1 x2165.2.2.1 x2165.2.2.2.why x2165.2.2.2.at_))))
def D7(φ:AF)(ao1:Ae)(a1:Int)(a2:(List AD))(self1:Int→(List AK)→(List AH)→Int→Int→Option ((List AK)×(List AH)×AE))(x93:Int)(x94:(List AK))(x98:(List AH))(x102:Int)(x103:Int):Option ((List AK)×(List AH)×AE):=
 bif (decide (x93< (a2.length:Int))) then ((idx a2 x93).bind fun x199=>(φ.types_checker_want x94 x98 ao1 (AE.mk x102 x103) x199 a1).bind fun x235=>self1 (i64.wrap (x93+(1:Int))) x235.1 x235.2.1 x235.2.2.why x235.2.2.at_) else (some (x94,x98,(AE.mk x102 x103)))
def DX(φ:AF)(ao1:Ae)(a1:Int)(a2:(List AD)):Nat→Int→(List AK)→(List AH)→Int→Int→Option ((List AK)×(List AH)×AE)
 |0=>fun _ _ _ _ _=>none
 |k+1=>D7 φ ao1 a1 a2 (DX φ ao1 a1 a2 k)
def IT(φ:AF)(N:Nat)(ao0_1:(List AK))(ao0_2:(List AH))(ao1:Ae)(ao2:AE)(a1:Int)(a2:(List AD)):Option ((List AK)×(List AH)×AE):=
 DX φ ao1 a1 a2 N (0:Int) ao0_1 ao0_2 ao2.why ao2.at_
def GP(φ:AF)(_N:Nat)(ao0_1:(List AK))(ao0_2:(List AH))(ao1:Ae)(ao2:AE)(ao4:AD)(ao5_0:Int)(a2:(List AH)):Option ((List AK)×(List AH)×AE):=
 (GD 32 ao0_2 a2).bind fun _=>(φ.types_checker_want_1 ao0_1 (ao0_2++a2) ao1 ao2 ao4 ao5_0).bind fun x52=>(sub x52.2.1 0 (ao0_2.length:Int)).bind fun x75=>some (x52.1,x75,x52.2.2)
def FY(φ:AF)(_N:Nat)(ao0_1:(List AK))(ao0_2:(List AH))(ao1:Ae)(ao2:AE)(ao4:AD)(ao5_0:Int)(a2:(List AH)):Option ((List AK)×(List AH)×AE):=
 (GD 32 ao0_2 a2).bind fun _=>(φ.types_checker_want_2 ao0_1 (ao0_2++a2) ao1 ao2 ao4 ao5_0).bind fun x52=>(sub x52.2.1 0 (ao0_2.length:Int)).bind fun x75=>some (x52.1,x75,x52.2.2)
def FZ(φ:AF)(_N:Nat)(ao0_1:(List AK))(ao0_2:(List AH))(ao1:Ae)(ao2:AE)(ao4:AD)(ao5_0:Int)(a2:(List AH)):Option ((List AK)×(List AH)×AE):=
 (GD 32 ao0_2 a2).bind fun _=>(φ.types_checker_want_3 ao0_1 (ao0_2++a2) ao1 ao2 ao4 ao5_0).bind fun x52=>(sub x52.2.1 0 (ao0_2.length:Int)).bind fun x75=>some (x52.1,x75,x52.2.2)
def GH(ao0_1:(List AK))(ao0_2:(List AH))(ao2:AE)(a1:AD)(self1:Int→Option (Int×(List AK)×(List AH)×AE))(x86:Int):Option (Int×(List AK)×(List AH)×AE):=
 bif (decide (x86≥(0:Int))) then ((idx ao0_2 x86).bind fun x130=>bif (x130.name==a1.name) then ((idx ao0_2 x86).bind fun x145=>some (x145.type_,ao0_1,ao0_2,ao2)) else (self1 (i64.wrap (x86 - (1:Int))))) else (some ((0:Int),ao0_1,ao0_2,ao2))
def EQ(ao0_1:(List AK))(ao0_2:(List AH))(ao2:AE)(a1:AD):Nat→Int→Option (Int×(List AK)×(List AH)×AE)
 |0=>fun _=>none
 |k+1=>GH ao0_1 ao0_2 ao2 a1 (EQ ao0_1 ao0_2 ao2 a1 k)
def Gz(x325:((List AK)×(List AH)×AE))(x350:Bool):Option (Int×(List AK)×(List AH)×AE):=
 bif x350 then (some ((2:Int),x325.1,x325.2.1,x325.2.2)) else (some ((1:Int),x325.1,x325.2.1,x325.2.2))
def ER(φ:AF)(N:Nat)(ao0_1:(List AK))(ao0_2:(List AH))(ao1:Ae)(ao2:AE)(a1:AD)(x25:Bool):Option (Int×(List AK)×(List AH)×AE):=
 bif x25 then (some ((2:Int),ao0_1,ao0_2,ao2)) else (bif (a1.op==(4:Int)) then (some ((3:Int),ao0_1,ao0_2,ao2)) else (bif (a1.op==(5:Int)) then (some (a1.type_,ao0_1,ao0_2,ao2)) else (bif (a1.op==(6:Int)) then (EQ ao0_1 ao0_2 ao2 a1 N (i64.wrap ((ao0_2.length:Int) - (1:Int)))) else (bif (a1.op==(7:Int)) then ((φ.types_checker_call ao0_1 ao0_2 ao1 ao2 a1).bind fun x171=>some (x171.1,x171.2.1,x171.2.2.1,x171.2.2.2)) else (bif (a1.op==(14:Int)) then ((φ.types_checker_all ao0_1 ao0_2 ao1 ao2 (2:Int) a1.args).bind fun x202=>some ((2:Int),x202.1,x202.2.1,x202.2.2)) else (bif (a1.op==(18:Int)) then ((idx a1.args (0:Int)).bind fun x227=>(φ.types_checker_want ao0_1 ao0_2 ao1 ao2 x227 (1:Int)).bind fun x251=>(idx a1.args (1:Int)).bind fun x275=>(φ.types_checker_want x251.1 x251.2.1 ao1 x251.2.2 x275 (3:Int)).bind fun x295=>some ((3:Int),x295.1,x295.2.1,x295.2.2)) else ((φ.types_checker_all ao0_1 ao0_2 ao1 ao2 (1:Int) a1.args).bind fun x325=>bif (a1.op==(12:Int)) then (Gz x325 true) else (Gz x325 (a1.op==(13:Int))))))))))
def F2(φ:AF)(N:Nat)(ao0_1:(List AK))(ao0_2:(List AH))(ao1:Ae)(ao2:AE)(a1:AD):Option (Int×(List AK)×(List AH)×AE):=
 bif (a1.op==(2:Int)) then (ER φ N ao0_1 ao0_2 ao1 ao2 a1 (a1.op==(2:Int))) else (ER φ N ao0_1 ao0_2 ao1 ao2 a1 (a1.op==(3:Int)))
def Ek(φ:AF)(_N:Nat)(ao1_1:(List AK))(ao1_2:(List AH))(ao2:Ae)(ao3:AE)(ao4:AD)(ao5_0:Int):Option ((List AK)×(List AH)×AE):=
 (idx ao4.args (2:Int)).bind fun x151=>(φ.types_checker_want ao1_1 ao1_2 ao2 ao3 x151 ao5_0).bind fun x176=>some (x176.1,x176.2.1,x176.2.2)
def El(φ:AF)(_N:Nat)(ao1_1:(List AK))(ao1_2:(List AH))(ao2:Ae)(ao3:AE)(ao4:AD)(ao5_0:Int):Option ((List AK)×(List AH)×AE):=
 (idx ao4.args (0:Int)).bind fun x148=>(φ.types_checker_want ao1_1 ao1_2 ao2 ao3 x148 ao4.type_).bind fun x172=>(idx ao4.args (1:Int)).bind fun x325=>(φ.types_checker_want x172.1 x172.2.1 ao2 x172.2.2 x325 ao5_0).bind fun x350=>some (x350.1,x350.2.1,x350.2.2)
def Em(φ:AF)(_N:Nat)(ao1_1:(List AK))(ao1_2:(List AH))(ao2:Ae)(ao3:AE)(ao4:AD)(ao5_0:Int):Option ((List AK)×(List AH)×AE):=
 (idx ao4.args (1:Int)).bind fun x151=>(φ.types_checker_want ao1_1 ao1_2 ao2 ao3 x151 ao5_0).bind fun x176=>some (x176.1,x176.2.1,x176.2.2)
def Dv(φ:AF)(ao1:Ae)(a1:AD)(x76:AK)(self1:Int→(List AK)→(List AH)→Int→Int→Option (Int×(List AK)×(List AH)×AE))(x316:Int)(x317:(List AK))(x321:(List AH))(x325:Int)(x326:Int):Option (Int×(List AK)×(List AH)×AE):=
 bif (decide (x316< (x76.params.length:Int))) then ((idx x76.params x316).bind fun x560=>(idx a1.args x316).bind fun x709=>(φ.types_checker_want x317 x321 ao1 (AE.mk x325 x326) x709 x560.type_).bind fun x734=>self1 (i64.wrap (x316+(1:Int))) x734.1 x734.2.1 x734.2.2.why x734.2.2.at_) else ((idx x317 (i64.wrap ((CJ ao1 a1.name) - (1:Int)))).bind fun x757=>some (x757.type_,x317,x321,(AE.mk x325 x326)))
def Dh(φ:AF)(ao1:Ae)(a1:AD)(x76:AK):Nat→Int→(List AK)→(List AH)→Int→Int→Option (Int×(List AK)×(List AH)×AE)
 |0=>fun _ _ _ _ _=>none
 |k+1=>Dv φ ao1 a1 x76 (Dh φ ao1 a1 x76 k)
def E8(φ:AF)(N:Nat)(ao0_1:(List AK))(ao0_2:(List AH))(ao1:Ae)(ao2:AE)(a1:AD)(x66:Bool):Option (Int×(List AK)×(List AH)×AE):=
 bif x66 then (some ((0:Int),ao0_1,ao0_2,ao2)) else ((idx ao0_1 (i64.wrap ((CJ ao1 a1.name) - (1:Int)))).bind fun x76=>Dh φ ao1 a1 x76 N (0:Int) ao0_1 ao0_2 ao2.why ao2.at_)
def Fa(φ:AF)(N:Nat)(ao0_1:(List AK))(ao0_2:(List AH))(ao1:Ae)(ao2:AE)(a1:AD):Option (Int×(List AK)×(List AH)×AE):=
 bif ((CJ ao1 a1.name)==(0:Int)) then (E8 φ N ao0_1 ao0_2 ao1 ao2 a1 true) else ((idx ao0_1 (i64.wrap ((CJ ao1 a1.name) - (1:Int)))).bind fun x787=>E8 φ N ao0_1 ao0_2 ao1 ao2 a1 ((x787.params.length:Int) != (a1.args.length:Int)))
def AF.at:Nat→AF
 |0=>⟨fun _ _ _ _ _ _=>none,fun _ _ _ _ _ _=>none,fun _ _ _ _ _ _ _=>none,fun _ _ _ _ _ _ _=>none,fun _ _ _ _ _ _ _=>none,fun _ _ _ _ _=>none,fun _ _ _ _ _ _=>none,fun _ _ _ _ _ _=>none,fun _ _ _ _ _ _=>none,fun _ _ _ _ _=>none⟩
 |n+1=>⟨FX (AF.at n) n,IT (AF.at n) n,GP (AF.at n) n,FY (AF.at n) n,FZ (AF.at n) n,F2 (AF.at n) n,Ek (AF.at n) n,El (AF.at n) n,Em (AF.at n) n,Fa (AF.at n) n⟩
def types_checker_want(N:Nat):(List AK)→(List AH)→Ae→AE→AD→Int→Option ((List AK)×(List AH)×AE):=(AF.at N).types_checker_want
def types_checker_all(N:Nat):(List AK)→(List AH)→Ae→AE→Int→(List AD)→Option ((List AK)×(List AH)×AE):=(AF.at N).types_checker_all
def types_checker_in(N:Nat):(List AK)→(List AH)→Ae→AE→AD→Int→(List AH)→Option ((List AK)×(List AH)×AE):=(AF.at N).types_checker_in
def types_checker_in_2(N:Nat):(List AK)→(List AH)→Ae→AE→AD→Int→(List AH)→Option ((List AK)×(List AH)×AE):=(AF.at N).types_checker_in_2
def types_checker_in_3(N:Nat):(List AK)→(List AH)→Ae→AE→AD→Int→(List AH)→Option ((List AK)×(List AH)×AE):=(AF.at N).types_checker_in_3
def types_checker_own(N:Nat):(List AK)→(List AH)→Ae→AE→AD→Option (Int×(List AK)×(List AH)×AE):=(AF.at N).types_checker_own
def types_checker_want_1(N:Nat):(List AK)→(List AH)→Ae→AE→AD→Int→Option ((List AK)×(List AH)×AE):=(AF.at N).types_checker_want_1
def types_checker_want_2(N:Nat):(List AK)→(List AH)→Ae→AE→AD→Int→Option ((List AK)×(List AH)×AE):=(AF.at N).types_checker_want_2
def types_checker_want_3(N:Nat):(List AK)→(List AH)→Ae→AE→AD→Int→Option ((List AK)×(List AH)×AE):=(AF.at N).types_checker_want_3
def types_checker_call(N:Nat):(List AK)→(List AH)→Ae→AE→AD→Option (Int×(List AK)×(List AH)×AE):=(AF.at N).types_checker_call
def HI(N:Nat)(a0:AN)(x46:(Ae×(List AK)×(List AH)×Ae))(self1:Int→Int→Int→(List AK)→(List AH)→Option (AE))(x175:Int)(x176:Int)(x177:Int)(x178:(List AK))(_x182:(List AH)):Option (AE):=
 bif (decide (x175< (a0.funcs.length:Int))) then ((idx a0.funcs x175).bind fun x306=>(GD 32 ([]:List AH) x306.params).bind fun _=>(types_checker_want N x178 (([]:List AH)++x306.params) x46.2.2.2 (AE.mk x176 x177) (AD.mk x306.body.op x306.body.name x306.body.tail x306.body.type_ x306.body.num x306.body.args x306.body.at_) x306.type_).bind fun x367=>self1 (i64.wrap (x175+(1:Int))) x367.2.2.why x367.2.2.at_ x367.1 x367.2.1) else (some (AE.mk x176 x177))
def G0(N:Nat)(a0:AN)(x46:(Ae×(List AK)×(List AH)×Ae)):Nat→Int→Int→Int→(List AK)→(List AH)→Option (AE)
 |0=>fun _ _ _ _ _=>none
 |k+1=>HI N a0 x46 (G0 N a0 x46 k)
def F7(N:Nat)(a0:AN):Option (AE):=
 (Hc N a0).bind fun x21=>bif (x21.why != (0:Int)) then (some x21) else ((JU N a0 x21).bind fun x46=>G0 N a0 x46 N (0:Int) x21.why x21.at_ x46.2.1 x46.2.2.1)
def Hq(a0:Nat):Option (Nat):=
 (Re a0).bind fun x1=>some x1
def HV(a0:Nat):Option (Bool):=
 some (decide ((i64.wrap (((a0:Nat):Int)))< (0:Int)))
def G3(x15:Bool):Option (Bool):=
 some x15
def F8(a0:Nat):Option (Bool):=
 bif (fge a0 (13938640846711685120:Nat)) then (bif (fle a0 (4715268809856909312:Nat)) then ((Hq a0).bind fun x21=>bif (feq a0 x21) then (bif (fne a0 (0:Nat)) then (G3 true) else ((HV a0).bind fun x28=>G3 (!x28))) else (G3 false)) else (G3 false)) else (G3 false)
def JV(x12:Bool):Option (Bool):=
 some x12
def Bh(a0:(Nat×Nat)):Option (Bool):=
 (F8 a0.1).bind fun x16=>bif x16 then ((F8 a0.2).bind fun x22=>JV x22) else (JV false)
def D2(x210:Bool):Option (Int):=
 bif (!x210) then (some (3:Int)) else (some (0:Int))
def JW(x308:Int)(self2:(Bool→Int→Option (Int)))(x381:Bool):Option (Int):=
 self2 x381 (i64.wrap (x308+(1:Int)))
def I5(a0:AG)(self2:Bool→Int→Option (Int))(x307:Bool)(x308:Int):Option (Int):=
 bif (decide (x308< (a0.list.length:Int))) then ((idx a0.list x308).bind fun x385=>bif x307 then ((Bh x385).bind fun x399=>JW x308 self2 x399) else (JW x308 self2 false)) else (D2 x307)
def Hr(a0:AG):Nat→Bool→Int→Option (Int)
 |0=>fun _ _=>none
 |k+1=>I5 a0 (Hr a0 k)
def Ie(N:Nat)(a0:AG)(x250:Bool):Option (Int):=
 Hr a0 N x250 (0:Int)
def Cw(N:Nat)(a0:AG):Option (Int):=
 bif (a0.type_==(1:Int)) then ((Bh a0.num).bind fun x216=>bif x216 then (bif (!a0.bool) then (D2 ((a0.list.length:Int)==(0:Int))) else (D2 false)) else (D2 false)) else (bif (a0.type_==(2:Int)) then ((Bh a0.num).bind fun x229=>bif x229 then (bif (ceq a0.num ((0,0):Nat×Nat)) then (D2 ((a0.list.length:Int)==(0:Int))) else (D2 false)) else (D2 false)) else (bif (a0.type_==(3:Int)) then ((Bh a0.num).bind fun x404=>bif x404 then (bif (ceq a0.num ((0,0):Nat×Nat)) then (Ie N a0 (!a0.bool)) else (Ie N a0 false)) else (Ie N a0 false)) else (D2 false)))
def Hg(a0:Ak):Option (Th):=
 some (Th.done (AG.mk a0.plain.type_ a0.plain.num a0.plain.bool a0.plain.list) a0.head a0.tail)
def JX(a0:AG)(self1:Th→Int→Option (Th))(x75:Th)(x78:Int):Option (Th):=
 bif (decide (x78≥(0:Int))) then ((idx a0.list x78).bind fun x126=>(Hg (Ak.mk (AG.mk (1:Int) x126 false []) Th.nil Th.nil)).bind fun x139=>(Hg (Ak.mk (AG.mk (0:Int) ((0,0):Nat×Nat) false []) x139 x75)).bind fun x148=>self1 x148 (i64.wrap (x78 - (1:Int)))) else (some x75)
def IG(a0:AG):Nat→Th→Int→Option (Th)
 |0=>fun _ _=>none
 |k+1=>JX a0 (IG a0 k)
def Hs(N:Nat)(a0:AG):Option (Th):=
 bif (a0.type_ != (3:Int)) then ((Hg (Ak.mk a0 Th.nil Th.nil)).bind fun x15=>some x15) else ((Hg (Ak.mk (AG.mk (3:Int) ((0,0):Nat×Nat) false []) Th.nil Th.nil)).bind fun x23=>IG a0 N x23 (i64.wrap ((a0.list.length:Int) - (1:Int))))
def Jt(a1:Bts)(self1:Nm→Option (Th))(x22:Nm):Option (Th):=
 (x22.view).bind fun x50=>bif (!(x50.1==a1)) then (self1 x50.2.2) else (some x50.2.1)
def Dw(a1:Bts):Nat→Nm→Option (Th)
 |0=>fun _=>none
 |k+1=>Jt a1 (Dw a1 k)
def DK(N:Nat)(a0:Nm)(a1:Bts):Option (Th):=
 Dw a1 N a0
def H7(a1:Ak):Option (Ak):=
 some a1
def IH(a0:AD):Option (AD):=
 some a0
def K7(x9:Bool):Option (Int×Int):=
 bif x9 then (some ((1:Int),(1:Int))) else (some ((0:Int),(0:Int)))
def K8(a0:Int)(x2:Bool):Option (Int×Int):=
 bif x2 then (some ((2:Int),(1:Int))) else (bif (a0==(14:Int)) then (some ((1:Int),(2:Int))) else (bif (decide (a0≥(15:Int))) then (K7 (decide (a0≤(17:Int)))) else (K7 false)))
def HJ(a0:Int):Option (Int×Int):=
 bif (decide (a0≥(8:Int))) then (K8 a0 (decide (a0≤(13:Int)))) else (K8 a0 false)
def Di(a0:(Nat×Nat))(a1:Int):Option (AG×Int):=
 bif (a1 != (0:Int)) then (some ((AG.mk (0:Int) ((0,0):Nat×Nat) false []),a1)) else (some ((AG.mk (1:Int) a0 false []),(0:Int)))
def ES(a0:(Nat×Nat)):Option ((Nat×Nat)×Int):=
 (FloatKind.f64.format.add a0.1 (0:Nat)).bind fun x1=>(FloatKind.f64.format.add a0.2 (0:Nat)).bind fun x3=>(Bh (x1,x3)).bind fun x5=>bif (!x5) then (some (((0,0):Nat×Nat),(50:Int))) else (some ((x1,x3),(0:Int)))
def HK(a0:(Nat×Nat)):Option ((Nat×Nat)×Int):=
 (Bh a0).bind fun x1=>bif (!x1) then (some (((0,0):Nat×Nat),(3:Int))) else ((ES (a0.1,(Op.negFloat .f64 a0.2))).bind fun x7=>some (x7.1,x7.2))
def KX(a0:(Nat×Nat))(a1:(Nat×Nat))(x12:Bool):Option ((Nat×Nat)×Int):=
 bif x12 then (some (((0,0):Nat×Nat),(3:Int))) else ((cadd a0 a1).bind fun x17=>(ES x17).bind fun x19=>some (x19.1,x19.2))
def If(a0:(Nat×Nat))(a1:(Nat×Nat)):Option ((Nat×Nat)×Int):=
 (Bh a0).bind fun x24=>bif (!x24) then (KX a0 a1 true) else ((Bh a1).bind fun x30=>KX a0 a1 (!x30))
def KY(a0:(Nat×Nat))(a1:(Nat×Nat))(x12:Bool):Option ((Nat×Nat)×Int):=
 bif x12 then (some (((0,0):Nat×Nat),(3:Int))) else ((csub a0 a1).bind fun x17=>(ES x17).bind fun x19=>some (x19.1,x19.2))
def Ig(a0:(Nat×Nat))(a1:(Nat×Nat)):Option ((Nat×Nat)×Int):=
 (Bh a0).bind fun x24=>bif (!x24) then (KY a0 a1 true) else ((Bh a1).bind fun x30=>KY a0 a1 (!x30))
def KZ(a0:(Nat×Nat))(a1:(Nat×Nat))(x12:Bool):Option ((Nat×Nat)×Int):=
 bif x12 then (some (((0,0):Nat×Nat),(3:Int))) else ((cmul a0 a1).bind fun x17=>(ES x17).bind fun x19=>some (x19.1,x19.2))
def Ih(a0:(Nat×Nat))(a1:(Nat×Nat)):Option ((Nat×Nat)×Int):=
 (Bh a0).bind fun x24=>bif (!x24) then (KZ a0 a1 true) else ((Bh a1).bind fun x30=>KZ a0 a1 (!x30))
def HO(a0:Nat):Option (Nat):=
 some (((CT .u64 ((a0:Nat):Int) (9223372036854775808:Int))).toNat)
def JG(x8:Nat):Option (Bool):=
 some (fgt x8 (9218868437227405311:Nat))
def GQ(a0:Nat)(a1:Int):Option (Bool):=
 bif (a1==(0:Int)) then ((HO a0).bind fun x13=>JG x13) else (bif (decide (a1< (0:Int))) then (JG (Op.negFloat .f64 a0)) else (JG a0))
def Fs(a0:Nat):Option (Bool):=
 some (fne a0 a0)
def Ka:Option (Nat):=
 some (((9221120237041090561:Int)).toNat)
def D3(a0:Nat):Option (Nat×Int):=
 (HO a0).bind fun x1=>bif (flt_ x1 (4503599627370496:Nat)) then ((FloatKind.f64.format.mul a0 (4841369599423283200:Nat)).bind fun x7=>some (x7,(-52:Int))) else (some (a0,(0:Int)))
def Jw(a0:Nat)(x13:Bool):Option (Nat×Int):=
 bif x13 then (some (a0,(0:Int))) else ((D3 a0).bind fun x18=>(nn (52:Int)).bind fun _=>some (((Kp .u64 (CT .u64 ((x18.1:Nat):Int) (9218868437227405312:Int)) (4602678819172646912:Int))).toNat,(i64.wrap (x18.2+(i64.wrap ((i64.wrap ((i64.wrap ((EG .u64 (shr .u64 ((x18.1:Nat):Int) (52:Int)) (2047:Int)))) - (1023:Int)))+(1:Int)))))))
def II(a0:Nat):Option (Nat×Int):=
 bif (feq a0 (0:Nat)) then (some (a0,(0:Int))) else ((GQ a0 (0:Int)).bind fun x25=>bif x25 then (Jw a0 true) else ((Fs a0).bind fun x31=>Jw a0 x31))
def HL(a0:Nat):Option (Nat×Int):=
 (II a0).bind fun x1=>some (x1.1,x1.2)
def GZ(a0:Nat)(a1:Nat):Option (Nat):=
 some (((Kp .u64 (CT .u64 ((a0:Nat):Int) (9223372036854775808:Int)) (EG .u64 ((a1:Nat):Int) (9223372036854775808:Int)))).toNat)
def MK(x2:Int):Option (Nat):=
 some ((x2).toNat)
def Jx(a0:Int):Option (Nat):=
 bif (decide (a0≥(0:Int))) then (MK (9218868437227405312:Int)) else (MK (18442240474082181120:Int))
def Jy(x18:(Nat×Int))(x44:Int)(x45:Nat):Option (Nat):=
 (nn (52:Int)).bind fun _=>(FloatKind.f64.format.mul x45 (((Kp .u64 (CT .u64 ((x18.1:Nat):Int) (9218868437227405312:Int)) (shl .u64 (IntKind.u64.wrap ((i64.wrap (x44+(1023:Int))))) (52:Int)))).toNat)).bind fun x51=>some x51
def Jz(a0:Nat)(a1:Int)(x13:Bool):Option (Nat):=
 bif x13 then (some a0) else ((D3 a0).bind fun x18=>(nn (52:Int)).bind fun _=>bif (decide ((i64.wrap ((i64.wrap (a1+x18.2))+(i64.wrap ((EG .i64 (i64.wrap ((shr .u64 ((x18.1:Nat):Int) (52:Int)))) (2047:Int)) - (1023:Int)))))< (-1075:Int))) then ((GZ (0:Nat) x18.1).bind fun x26=>some x26) else (bif (decide ((i64.wrap ((i64.wrap (a1+x18.2))+(i64.wrap ((EG .i64 (i64.wrap ((shr .u64 ((x18.1:Nat):Int) (52:Int)))) (2047:Int)) - (1023:Int)))))>(1023:Int))) then (bif (flt_ x18.1 (0:Nat)) then ((Jx (-1:Int)).bind fun x33=>some x33) else ((Jx (1:Int)).bind fun x38=>some x38)) else (bif (decide ((i64.wrap ((i64.wrap (a1+x18.2))+(i64.wrap ((EG .i64 (i64.wrap ((shr .u64 ((x18.1:Nat):Int) (52:Int)))) (2047:Int)) - (1023:Int)))))< (-1022:Int))) then (Jy x18 (i64.wrap ((i64.wrap ((i64.wrap (a1+x18.2))+(i64.wrap ((EG .i64 (i64.wrap ((shr .u64 ((x18.1:Nat):Int) (52:Int)))) (2047:Int)) - (1023:Int)))))+(53:Int))) (4368491638549381120:Nat)) else (Jy x18 (i64.wrap ((i64.wrap (a1+x18.2))+(i64.wrap ((EG .i64 (i64.wrap ((shr .u64 ((x18.1:Nat):Int) (52:Int)))) (2047:Int)) - (1023:Int))))) (4607182418800017408:Nat)))))
def IJ(a0:Nat)(a1:Int):Option (Nat):=
 bif (feq a0 (0:Nat)) then (some a0) else ((GQ a0 (0:Int)).bind fun x54=>bif x54 then (Jz a0 a1 true) else ((Fs a0).bind fun x60=>Jz a0 a1 x60))
def Ht(a0:Nat)(a1:Int):Option (Nat):=
 (IJ a0 a1).bind fun x1=>some x1
def JY(x29:Nat)(x34:(Nat×Int))(x67:Nat)(self1:(Nat→Option (Nat)))(x102:Int):Option (Nat):=
 (Ht x29 (i64.wrap (x102 - x34.2))).bind fun x106=>(FloatKind.f64.format.sub x67 x106).bind fun x111=>self1 x111
def ML(x115:Nat):Option (Nat):=
 some x115
def Kb(a0:Nat)(x29:Nat)(x34:(Nat×Int))(self1:Nat→Option (Nat))(x67:Nat):Option (Nat):=
 bif (fge x67 x29) then ((HL x67).bind fun x96=>bif (flt_ x96.1 x34.1) then (JY x29 x34 x67 self1 (i64.wrap (x96.2 - (1:Int)))) else (JY x29 x34 x67 self1 x96.2)) else (bif (flt_ a0 (0:Nat)) then (ML (Op.negFloat .f64 x67)) else (ML x67))
def Iw(a0:Nat)(x29:Nat)(x34:(Nat×Int)):Nat→Nat→Option (Nat)
 |0=>fun _=>none
 |k+1=>Kb a0 x29 x34 (Iw a0 x29 x34 k)
def KQ(N:Nat)(a0:Nat)(x29:Nat)(x34:(Nat×Int))(x40:Nat):Option (Nat):=
 Iw a0 x29 x34 N x40
def JZ(N:Nat)(a0:Nat)(a1:Nat)(x19:Bool):Option (Nat):=
 bif x19 then ((Ka).bind fun x24=>some x24) else ((HO a1).bind fun x29=>(HL x29).bind fun x34=>bif (flt_ a0 (0:Nat)) then (KQ N a0 x29 x34 (Op.negFloat .f64 a0)) else (KQ N a0 x29 x34 a0))
def J0(N:Nat)(a0:Nat)(a1:Nat):Option (Nat):=
 bif (feq a1 (0:Nat)) then (JZ N a0 a1 true) else ((GQ a0 (0:Int)).bind fun x122=>bif x122 then (JZ N a0 a1 true) else ((Fs a0).bind fun x128=>bif x128 then (JZ N a0 a1 true) else ((Fs a1).bind fun x134=>JZ N a0 a1 x134)))
def I6(N:Nat)(a0:Nat)(a1:Nat):Option (Nat):=
 (J0 N a0 a1).bind fun x1=>some x1
def Kc(x18:(Nat×Nat))(x20:(Nat×Nat))(x33:Bool):Option ((Nat×Nat)×Int):=
 bif x33 then (some (((0,0):Nat×Nat),(51:Int))) else ((FloatKind.f64.format.div x18.1 x20.1).bind fun x38=>(FloatKind.f64.format.div x18.2 x20.1).bind fun x40=>(ES (x38,x40)).bind fun x42=>some (x42.1,x42.2))
def Ke(N:Nat)(a0:(Nat×Nat))(a1:(Nat×Nat))(x12:Bool):Option ((Nat×Nat)×Int):=
 bif x12 then (some (((0,0):Nat×Nat),(3:Int))) else (bif (ceq a1 ((0,0):Nat×Nat)) then (some (((0,0):Nat×Nat),(51:Int))) else ((cmul a0 (a1.1,(Op.negFloat .f64 a1.2))).bind fun x18=>(cmul a1 (a1.1,(Op.negFloat .f64 a1.2))).bind fun x20=>(I6 N x18.1 x20.1).bind fun x47=>bif (fne x47 (0:Nat)) then (Kc x18 x20 true) else ((I6 N x18.2 x20.1).bind fun x53=>Kc x18 x20 (fne x53 (0:Nat)))))
def Ii(N:Nat)(a0:(Nat×Nat))(a1:(Nat×Nat)):Option ((Nat×Nat)×Int):=
 (Bh a0).bind fun x58=>bif (!x58) then (Ke N a0 a1 true) else ((Bh a1).bind fun x64=>Ke N a0 a1 (!x64))
def J1(a0:(Nat×Nat))(a1:(Nat×Nat))(x12:Bool):Option (Bool×Int):=
 bif x12 then (some (false,(3:Int))) else (bif (fne a0.1 a1.1) then (some ((flt_ a0.1 a1.1),(0:Int))) else (some ((flt_ a0.2 a1.2),(0:Int))))
def Hu(a0:(Nat×Nat))(a1:(Nat×Nat)):Option (Bool×Int):=
 (Bh a0).bind fun x18=>bif (!x18) then (J1 a0 a1 true) else ((Bh a1).bind fun x24=>J1 a0 a1 (!x24))
def I7(N:Nat)(a0:Int)(a1:(Nat×Nat))(a2:(Nat×Nat)):Option (AG×Int):=
 bif (a0==(8:Int)) then ((If a1 a2).bind fun x8=>(Di x8.1 x8.2).bind fun x13=>some (x13.1,x13.2)) else (bif (a0==(9:Int)) then ((Ig a1 a2).bind fun x33=>(Di x33.1 x33.2).bind fun x38=>some (x38.1,x38.2)) else (bif (a0==(10:Int)) then ((Ih a1 a2).bind fun x58=>(Di x58.1 x58.2).bind fun x63=>some (x63.1,x63.2)) else (bif (a0==(11:Int)) then ((Ii N a1 a2).bind fun x83=>(Di x83.1 x83.2).bind fun x88=>some (x88.1,x88.2)) else (bif (a0==(12:Int)) then (some ((AG.mk (2:Int) ((0,0):Nat×Nat) (ceq a1 a2) []),(0:Int))) else ((Hu a1 a2).bind fun x112=>some ((AG.mk (2:Int) ((0,0):Nat×Nat) x112.1 []),x112.2))))))
def He(x94:Int)(self1:(Int→Option (AG×Int)))(x196:Bool):Option (AG×Int):=
 bif x196 then (some ((AG.mk (0:Int) ((0,0):Nat×Nat) false []),(3:Int))) else (self1 (i64.wrap (x94+(1:Int))))
def CQ(N:Nat)(a0:Int)(a1:(List AG))(x11:(Int×Int))(self1:Int→Option (AG×Int))(x94:Int):Option (AG×Int):=
 bif (decide (x94< (a1.length:Int))) then ((idx a1 x94).bind fun x159=>bif (x159.type_ != x11.2) then (He x94 self1 true) else ((Cw N x159).bind fun x208=>He x94 self1 (x208 != (0:Int)))) else ((idx a1 (0:Int)).bind fun x213=>bif (a0==(14:Int)) then (some ((AG.mk (2:Int) ((0,0):Nat×Nat) (!x213.bool) []),(0:Int))) else (bif (a0==(15:Int)) then ((Di (x213.num.1,(0:Nat)) (0:Int)).bind fun x239=>some (x239.1,x239.2)) else (bif (a0==(16:Int)) then ((Di (x213.num.2,(0:Nat)) (0:Int)).bind fun x259=>some (x259.1,x259.2)) else (bif (a0==(17:Int)) then ((HK x213.num).bind fun x279=>(Di x279.1 x279.2).bind fun x284=>some (x284.1,x284.2)) else ((idx a1 (1:Int)).bind fun x303=>(I7 N a0 x213.num x303.num).bind fun x321=>some (x321.1,x321.2))))))
def DH(N:Nat)(a0:Int)(a1:(List AG))(x11:(Int×Int)):Nat→Int→Option (AG×Int)
 |0=>fun _=>none
 |k+1=>CQ N a0 a1 x11 (DH N a0 a1 x11 k)
def K9(N:Nat)(a0:Int)(a1:(List AG))(x11:(Int×Int))(x21:Bool):Option (AG×Int):=
 bif x21 then (some ((AG.mk (0:Int) ((0,0):Nat×Nat) false []),(3:Int))) else (DH N a0 a1 x11 N (0:Int))
def Dq(N:Nat)(a0:Int)(a1:(List AG)):Option (AG×Int):=
 (HJ a0).bind fun x11=>bif (x11.1==(0:Int)) then (K9 N a0 a1 x11 true) else (K9 N a0 a1 x11 ((a1.length:Int) != x11.1))
structure AT where
 mean_run_look:(List AK)→Int→Int→Ae→AD→Nm→Option ((Except Int Ak)×(List AK)×Int×Int)
 mean_later_1:(List AK)→Int→Int→Ae→AD→Nm→Option ((Except Int Ak)×(List AK)×Int×Int)
 mean_callth:(List AK)→Int→Int→Ae→Th→Option ((Except Int Ak)×(List AK)×Int×Int)
 mean_run_parts:(List AK)→Int→Int→Ae→AD→Nm→Option ((Except Int Ak)×(List AK)×Int×Int)
def Jo(φ:AT)(ao0_1:(List AK))(ao0_2:Int)(ao0_3:Int)(ao1:Ae)(a1:AD)(a2:Nm):Option ((Except Int Ak)×(List AK)×Int×Int):=
 (φ.mean_run_parts ao0_1 (i64.wrap (ao0_2+(1:Int))) ao0_3 ao1 a1 a2).bind fun x1007=>IR x1007.1 (fun y1021=>some ((Except.error y1021:Except Int Ak),x1007.2.1,x1007.2.2.1,x1007.2.2.2)) fun r1023=>some ((Except.ok r1023:Except Int Ak),x1007.2.1,x1007.2.2.1,x1007.2.2.2)
def H8(φ:AT)(ao0_1:(List AK))(ao0_2:Int)(ao0_3:Int)(ao1:Ae)(a1:AD)(a2:Nm)(x1151:AK)(self2:Nm→Int→Option ((Except Int Ak)×(List AK)×Int×Int))(x1339:Nm)(x1342:Int):Option ((Except Int Ak)×(List AK)×Int×Int):=
 bif (decide (x1342< (x1151.params.length:Int))) then ((idx x1151.params x1342).bind fun x1497=>(idx a1.args x1342).bind fun x1592=>(IH x1592).bind fun x1611=>self2 (Nm.bind x1497.name (Th.later x1611 a2) x1339) (i64.wrap (x1342+(1:Int)))) else ((φ.mean_run_look ao0_1 (i64.wrap (ao0_2+(1:Int))) ao0_3 ao1 (AD.mk x1151.body.op x1151.body.name x1151.body.tail x1151.body.type_ x1151.body.num x1151.body.args x1151.body.at_) x1339).bind fun x1655=>IR x1655.1 (fun y1669=>some ((Except.error y1669:Except Int Ak),x1655.2.1,x1655.2.2.1,x1655.2.2.2)) fun r1671=>some ((Except.ok r1671:Except Int Ak),x1655.2.1,x1655.2.2.1,x1655.2.2.2))
def Fb(φ:AT)(ao0_1:(List AK))(ao0_2:Int)(ao0_3:Int)(ao1:Ae)(a1:AD)(a2:Nm)(x1151:AK):Nat→Nm→Int→Option ((Except Int Ak)×(List AK)×Int×Int)
 |0=>fun _ _=>none
 |k+1=>H8 φ ao0_1 ao0_2 ao0_3 ao1 a1 a2 x1151 (Fb φ ao0_1 ao0_2 ao0_3 ao1 a1 a2 x1151 k)
def CG(φ:AT)(N:Nat)(ao0_1:(List AK))(ao0_2:Int)(ao0_3:Int)(ao1:Ae)(a1:AD)(a2:Nm):Option ((Except Int Ak)×(List AK)×Int×Int):=
 bif (a1.op==(1:Int)) then (some ((Except.ok (Ak.mk (AG.mk (1:Int) a1.num false []) Th.nil Th.nil):Except Int Ak),ao0_1,(i64.wrap (ao0_2+(1:Int))),ao0_3)) else (bif (a1.op==(2:Int)) then (some ((Except.ok (Ak.mk (AG.mk (2:Int) ((0,0):Nat×Nat) true []) Th.nil Th.nil):Except Int Ak),ao0_1,(i64.wrap (ao0_2+(1:Int))),ao0_3)) else (bif (a1.op==(3:Int)) then (some ((Except.ok (Ak.mk (AG.mk (2:Int) ((0,0):Nat×Nat) false []) Th.nil Th.nil):Except Int Ak),ao0_1,(i64.wrap (ao0_2+(1:Int))),ao0_3)) else (bif (a1.op==(4:Int)) then (some ((Except.ok (Ak.mk (AG.mk (3:Int) ((0,0):Nat×Nat) false []) Th.nil Th.nil):Except Int Ak),ao0_1,(i64.wrap (ao0_2+(1:Int))),ao0_3)) else (bif (a1.op==(5:Int)) then (some ((Except.error (52:Int):Except Int Ak),ao0_1,(i64.wrap (ao0_2+(1:Int))),ao0_3)) else (bif (a1.op==(6:Int)) then ((DK N a2 a1.name).bind fun x1087=>(φ.mean_callth ao0_1 (i64.wrap (ao0_2+(1:Int))) ao0_3 ao1 x1087).bind fun x1098=>IR x1098.1 (fun y1116=>some ((Except.error y1116:Except Int Ak),x1098.2.1,x1098.2.2.1,x1098.2.2.2)) fun r1118=>some ((Except.ok r1118:Except Int Ak),x1098.2.1,x1098.2.2.1,x1098.2.2.2)) else (bif (a1.op==(7:Int)) then ((idx ao0_1 (CJ ao1 a1.name)).bind fun x1151=>Fb φ ao0_1 ao0_2 ao0_3 ao1 a1 a2 x1151 N Nm.nil (0:Int)) else (bif (a1.op==(18:Int)) then ((idx a1.args (0:Int)).bind fun x1946=>(idx a1.args (1:Int)).bind fun x1965=>(IH x1946).bind fun x1983=>(IH x1965).bind fun x2003=>some ((Except.ok (Ak.mk (AG.mk (0:Int) ((0,0):Nat×Nat) false []) (Th.later x1983 a2) (Th.later x2003 a2)):Except Int Ak),ao0_1,(i64.wrap (ao0_2+(1:Int))),ao0_3)) else (Jo φ ao0_1 ao0_2 ao0_3 ao1 a1 a2))))))))
def A7(φ:AT)(N:Nat)(ao0_1:(List AK))(ao0_2:Int)(ao0_3:Int)(ao1:Ae)(a1:AD)(a2:Nm):Option ((Except Int Ak)×(List AK)×Int×Int):=
 bif (decide (ao0_2≥ao0_3)) then (some ((Except.error (60:Int):Except Int Ak),ao0_1,ao0_2,ao0_3)) else (CG φ N ao0_1 ao0_2 ao0_3 ao1 a1 a2)
def Kf(φ:AT)(_N:Nat)(ao0_1:(List AK))(ao0_2:Int)(ao0_3:Int)(ao1:Ae)(a1:AD)(a2:Nm):Option ((Except Int Ak)×(List AK)×Int×Int):=
 (φ.mean_run_look ao0_1 ao0_2 ao0_3 ao1 a1 a2).bind fun x29=>IR x29.1 (fun y43=>some ((Except.error y43:Except Int Ak),x29.2.1,x29.2.2.1,x29.2.2.2)) fun r45=>some ((Except.ok r45:Except Int Ak),x29.2.1,x29.2.2.1,x29.2.2.2)
def J2(φ:AT)(_N:Nat)(ao0_1:(List AK))(ao0_2:Int)(ao0_3:Int)(ao1:Ae)(a1:Th):Option ((Except Int Ak)×(List AK)×Int×Int):=
 match a1 with
 | .nil=>none
 | .done p h t=>(H7 ⟨p,h,t⟩).bind fun r=>some ((Except.ok r:Except Int Ak),ao0_1,ao0_2,ao0_3)
 | .later e env=>φ.mean_later_1 ao0_1 ao0_2 ao0_3 ao1 e env
def Kg(x1085:(List AK))(x1089:Int)(x1090:Int)(x1312:(AG×Int)):Option ((Except Int Ak)×(List AK)×Int×Int):=
 some ((Except.ok (Ak.mk x1312.1 Th.nil Th.nil):Except Int Ak),x1085,x1089,x1090)
def BE(φ:AT)(N:Nat)(ao1:Ae)(a1:AD)(a2:Nm)(self1:(List AG)→Int→(List AK)→Int→Int→Option ((Except Int Ak)×(List AK)×Int×Int))(x1080:(List AG))(x1084:Int)(x1085:(List AK))(x1089:Int)(x1090:Int):Option ((Except Int Ak)×(List AK)×Int×Int):=
 bif (decide (x1084< (a1.args.length:Int))) then ((idx a1.args x1084).bind fun x1214=>(φ.mean_run_look x1085 x1089 x1090 ao1 x1214 a2).bind fun x1249=>IR x1249.1 (fun y1263=>some ((Except.error y1263:Except Int Ak),x1249.2.1,x1249.2.2.1,x1249.2.2.2)) fun r1265=>(GD 56 x1080 ([(AG.mk r1265.plain.type_ r1265.plain.num r1265.plain.bool r1265.plain.list)]:List AG)).bind fun _=>self1 (x1080++([(AG.mk r1265.plain.type_ r1265.plain.num r1265.plain.bool r1265.plain.list)]:List AG)) (i64.wrap (x1084+(1:Int))) x1249.2.1 x1249.2.2.1 x1249.2.2.2) else ((Dq N a1.op x1080).bind fun x1312=>bif (x1312.2 != (0:Int)) then (some ((Except.error x1312.2:Except Int Ak),x1085,x1089,x1090)) else (Kg x1085 x1089 x1090 x1312))
def Cy(φ:AT)(N:Nat)(ao1:Ae)(a1:AD)(a2:Nm):Nat→(List AG)→Int→(List AK)→Int→Int→Option ((Except Int Ak)×(List AK)×Int×Int)
 |0=>fun _ _ _ _ _=>none
 |k+1=>BE φ N ao1 a1 a2 (Cy φ N ao1 a1 a2 k)
def Ay(φ:AT)(N:Nat)(ao0_1:(List AK))(ao0_2:Int)(ao0_3:Int)(ao1:Ae)(a1:AD)(a2:Nm):Option ((Except Int Ak)×(List AK)×Int×Int):=
 bif (a1.op==(19:Int)) then ((idx a1.args (0:Int)).bind fun x28=>(φ.mean_run_look ao0_1 ao0_2 ao0_3 ao1 x28 a2).bind fun x51=>IR x51.1 (fun y65=>some ((Except.error y65:Except Int Ak),x51.2.1,x51.2.2.1,x51.2.2.2)) fun r67=>bif r67.plain.bool then ((idx a1.args (1:Int)).bind fun x86=>(φ.mean_run_look x51.2.1 x51.2.2.1 x51.2.2.2 ao1 x86 a2).bind fun x107=>IR x107.1 (fun y121=>some ((Except.error y121:Except Int Ak),x107.2.1,x107.2.2.1,x107.2.2.2)) fun r123=>some ((Except.ok r123:Except Int Ak),x107.2.1,x107.2.2.1,x107.2.2.2)) else ((idx a1.args (2:Int)).bind fun x151=>(φ.mean_run_look x51.2.1 x51.2.2.1 x51.2.2.2 ao1 x151 a2).bind fun x172=>IR x172.1 (fun y186=>some ((Except.error y186:Except Int Ak),x172.2.1,x172.2.2.1,x172.2.2.2)) fun r188=>some ((Except.ok r188:Except Int Ak),x172.2.1,x172.2.2.1,x172.2.2.2))) else (bif (a1.op==(20:Int)) then ((idx a1.args (0:Int)).bind fun x216=>(φ.mean_run_look ao0_1 ao0_2 ao0_3 ao1 x216 a2).bind fun x239=>IR x239.1 (fun y253=>some ((Except.error y253:Except Int Ak),x239.2.1,x239.2.2.1,x239.2.2.2)) fun r255=>bif (Th.isNil r255.head) then ((idx a1.args (1:Int)).bind fun x286=>(φ.mean_run_look x239.2.1 x239.2.2.1 x239.2.2.2 ao1 x286 a2).bind fun x309=>IR x309.1 (fun y323=>some ((Except.error y323:Except Int Ak),x309.2.1,x309.2.2.1,x309.2.2.2)) fun r325=>some ((Except.ok r325:Except Int Ak),x309.2.1,x309.2.2.1,x309.2.2.2)) else ((idx a1.args (2:Int)).bind fun x493=>(φ.mean_run_look x239.2.1 x239.2.2.1 x239.2.2.2 ao1 x493 (Nm.bind a1.tail r255.tail (Nm.bind a1.name r255.head a2))).bind fun x536=>IR x536.1 (fun y550=>some ((Except.error y550:Except Int Ak),x536.2.1,x536.2.2.1,x536.2.2.2)) fun r552=>some ((Except.ok r552:Except Int Ak),x536.2.1,x536.2.2.1,x536.2.2.2))) else (bif (a1.op==(21:Int)) then ((idx a1.args (0:Int)).bind fun x587=>(IH x587).bind fun x606=>(idx a1.args (1:Int)).bind fun x631=>(φ.mean_run_look ao0_1 ao0_2 ao0_3 ao1 x631 (Nm.letrec a1.name x606 a2)).bind fun x662=>IR x662.1 (fun y676=>some ((Except.error y676:Except Int Ak),x662.2.1,x662.2.2.1,x662.2.2.2)) fun r678=>some ((Except.ok r678:Except Int Ak),x662.2.1,x662.2.2.1,x662.2.2.2)) else (bif (a1.op==(22:Int)) then ((idx a1.args (0:Int)).bind fun x706=>(φ.mean_run_look ao0_1 ao0_2 ao0_3 ao1 x706 a2).bind fun x729=>IR x729.1 (fun y743=>some ((Except.error y743:Except Int Ak),x729.2.1,x729.2.2.1,x729.2.2.2)) fun r745=>(idx a1.args (1:Int)).bind fun x880=>(Hg r745).bind fun x903=>(φ.mean_run_look x729.2.1 x729.2.2.1 x729.2.2.2 ao1 x880 (Nm.bind a1.name x903 a2)).bind fun x927=>IR x927.1 (fun y941=>some ((Except.error y941:Except Int Ak),x927.2.1,x927.2.2.1,x927.2.2.2)) fun r943=>some ((Except.ok r943:Except Int Ak),x927.2.1,x927.2.2.1,x927.2.2.2)) else (Cy φ N ao1 a1 a2 N ([]:List AG) (0:Int) ao0_1 ao0_2 ao0_3))))
def AT.at:Nat→AT
 |0=>⟨fun _ _ _ _ _ _=>none,fun _ _ _ _ _ _=>none,fun _ _ _ _ _=>none,fun _ _ _ _ _ _=>none⟩
 |n+1=>⟨A7 (AT.at n) n,Kf (AT.at n) n,J2 (AT.at n) n,Ay (AT.at n) n⟩
def mean_run_look(N:Nat):(List AK)→Int→Int→Ae→AD→Nm→Option ((Except Int Ak)×(List AK)×Int×Int):=(AT.at N).mean_run_look
def mean_later_1(N:Nat):(List AK)→Int→Int→Ae→AD→Nm→Option ((Except Int Ak)×(List AK)×Int×Int):=(AT.at N).mean_later_1
def mean_callth(N:Nat):(List AK)→Int→Int→Ae→Th→Option ((Except Int Ak)×(List AK)×Int×Int):=(AT.at N).mean_callth
def mean_run_parts(N:Nat):(List AK)→Int→Int→Ae→AD→Nm→Option ((Except Int Ak)×(List AK)×Int×Int):=(AT.at N).mean_run_parts
def CH(N:Nat)(ao1:Ae)(self1:(List AK)→Int→Int→Int→(Nat×Nat)→Bool→(List (Nat×Nat))→Th→Th→(List (Nat×Nat))→Option ((Except Int AG)×(List AK)×Int×Int))(x283:(List AK))(x287:Int)(x288:Int)(_x289:Int)(_x290:(Nat×Nat))(_x291:Bool)(_x292:(List (Nat×Nat)))(x296:Th)(x299:Th)(x302:(List (Nat×Nat))):Option ((Except Int AG)×(List AK)×Int×Int):=
 bif (!(Th.isNil x296)) then ((mean_callth N x283 x287 x288 ao1 x296).bind fun x661=>IR x661.1 (fun y679=>some ((Except.error y679:Except Int AG),x661.2.1,x661.2.2.1,x661.2.2.2)) fun r681=>(GD 16 x302 ([r681.plain.num]:List (Nat×Nat))).bind fun _=>(mean_callth N x661.2.1 x661.2.2.1 x661.2.2.2 ao1 x299).bind fun x730=>IR x730.1 (fun y748=>some ((Except.error y748:Except Int AG),x730.2.1,x730.2.2.1,x730.2.2.2)) fun r750=>self1 x730.2.1 x730.2.2.1 x730.2.2.2 r750.plain.type_ r750.plain.num r750.plain.bool r750.plain.list r750.head r750.tail (x302++([r681.plain.num]:List (Nat×Nat)))) else (some ((Except.ok (AG.mk (3:Int) ((0,0):Nat×Nat) false x302):Except Int AG),x283,x287,x288))
def DY(N:Nat)(ao1:Ae):Nat→(List AK)→Int→Int→Int→(Nat×Nat)→Bool→(List (Nat×Nat))→Th→Th→(List (Nat×Nat))→Option ((Except Int AG)×(List AK)×Int×Int)
 |0=>fun _ _ _ _ _ _ _ _ _ _=>none
 |k+1=>CH N ao1 (DY N ao1 k)
def Dr(N:Nat)(ao0_1:(List AK))(ao0_2:Int)(ao0_3:Int)(ao1:Ae)(a1:Ak):Option ((Except Int AG)×(List AK)×Int×Int):=
 bif (Th.isNil a1.head) then (some ((Except.ok (AG.mk a1.plain.type_ a1.plain.num a1.plain.bool a1.plain.list):Except Int AG),ao0_1,ao0_2,ao0_3)) else (DY N ao1 N ao0_1 ao0_2 ao0_3 a1.plain.type_ a1.plain.num a1.plain.bool a1.plain.list a1.head a1.tail ([]:List (Nat×Nat)))
def Kh(N:Nat)(x239:AK)(x421:Nm)(x424:Int)(self2:(Nm→Int→Option (Az)))(x560:AG)(x614:Bool):Option (Az):=
 bif x614 then (some (Az.mk (40:Int) (AG.mk (0:Int) ((0,0):Nat×Nat) false []) (0:Int) (0:Int) (0:Int) (0:Int))) else ((idx x239.params x424).bind fun x627=>(Hs N x560).bind fun x642=>self2 (Nm.bind x627.name x642 x421) (i64.wrap (x424+(1:Int))))
def FH(N:Nat)(a0:AN)(a2:(List AG))(a3:Int)(x120:Ae)(x239:AK)(self2:Nm→Int→Option (Az))(x421:Nm)(x424:Int):Option (Az):=
 bif (decide (x424< (a2.length:Int))) then ((idx a2 x424).bind fun x560=>(idx x239.params x424).bind fun x666=>bif (x560.type_ != x666.type_) then (Kh N x239 x421 x424 self2 x560 true) else ((Cw N x560).bind fun x681=>Kh N x239 x421 x424 self2 x560 (x681 != (0:Int)))) else ((mean_run_look N a0.funcs (0:Int) (if (16384:Int)< (if a3< (0:Int) then (0:Int) else a3) then (16384:Int) else (if a3< (0:Int) then (0:Int) else a3)) x120 (AD.mk x239.body.op x239.body.name x239.body.tail x239.body.type_ x239.body.num x239.body.args x239.body.at_) x421).bind fun x699=>IR x699.1 (fun y713=>some (Az.mk y713 (AG.mk (0:Int) ((0,0):Nat×Nat) false []) x699.2.2.1 (0:Int) (0:Int) (0:Int))) fun r715=>(Dr N x699.2.1 x699.2.2.1 x699.2.2.2 x120 r715).bind fun x757=>IR x757.1 (fun y771=>some (Az.mk y771 (AG.mk (0:Int) ((0,0):Nat×Nat) false []) x757.2.2.1 (0:Int) (0:Int) (0:Int))) fun r773=>some (Az.mk (0:Int) r773 x757.2.2.1 (0:Int) (0:Int) (0:Int)))
def EB(N:Nat)(a0:AN)(a2:(List AG))(a3:Int)(x120:Ae)(x239:AK):Nat→Nm→Int→Option (Az)
 |0=>fun _ _=>none
 |k+1=>FH N a0 a2 a3 x120 x239 (EB N a0 a2 a3 x120 x239 k)
def IK(N:Nat)(a0:AN)(a1:Bts)(a2:(List AG))(a3:Int)(self1:Int→Ae→Option (Az))(x119:Int)(x120:Ae):Option (Az):=
 bif (decide (x119< (a0.funcs.length:Int))) then ((idx a0.funcs x119).bind fun x183=>self1 (i64.wrap (x119+(1:Int))) (Ko x183.name x119 x120)) else (bif (!(Na x120 a1)) then (some (Az.mk (32:Int) (AG.mk (0:Int) ((0,0):Nat×Nat) false []) (0:Int) (0:Int) (0:Int) (0:Int))) else ((idx a0.funcs (CJ x120 a1)).bind fun x239=>bif ((a2.length:Int) != (x239.params.length:Int)) then (some (Az.mk (40:Int) (AG.mk (0:Int) ((0,0):Nat×Nat) false []) (0:Int) (0:Int) (0:Int) (0:Int))) else (EB N a0 a2 a3 x120 x239 N Nm.nil (0:Int))))
def H9(N:Nat)(a0:AN)(a1:Bts)(a2:(List AG))(a3:Int):Nat→Int→Ae→Option (Az)
 |0=>fun _ _=>none
 |k+1=>IK N a0 a1 a2 a3 (H9 N a0 a1 a2 a3 k)
def EE(N:Nat)(a0:AN)(a1:Bts)(a2:(List AG))(a3:Int):Option (Az):=
 (F7 N a0).bind fun x25=>bif (x25.why != (0:Int)) then (some (Az.mk (3:Int) (AG.mk (0:Int) ((0,0):Nat×Nat) false []) (0:Int) (0:Int) (0:Int) (0:Int))) else (H9 N a0 a1 a2 a3 N (0:Int) ([]:Ae))
def Ft(x106:Bool):Option (Bool):=
 some x106
def G4(N:Nat):Option (Bool):=
 (Br N (Dy.mk ([(102:UInt8),(40:UInt8),(120:UInt8),(32:UInt8),(78:UInt8),(41:UInt8),(58:UInt8),(78:UInt8),(61:UInt8),(120:UInt8),(43:UInt8),(120:UInt8),(59:UInt8),(103:UInt8),(40:UInt8),(41:UInt8),(58:UInt8),(78:UInt8),(61:UInt8),(102:UInt8),(40:UInt8),(49:UInt8),(43:UInt8),(50:UInt8),(41:UInt8),(59:UInt8)]:List UInt8) ([103]:List UInt8) ([]:List UInt8))).bind fun x16=>(EE N x16.1 ([103]:List UInt8) x16.2.1 (99:Int)).bind fun x48=>(EE N x16.1 ([103]:List UInt8) x16.2.1 (9:Int)).bind fun x75=>bif x16.2.2 then (bif (x48.why==(0:Int)) then (bif (x48.value.type_==(1:Int)) then (bif (ceq x48.value.num ((4618441417868443648,0):Nat×Nat)) then (bif (x48.moves==(10:Int)) then (bif (x75.why==(60:Int)) then (Ft (x75.moves==(9:Int))) else (Ft false)) else (Ft false)) else (Ft false)) else (Ft false)) else (Ft false)) else (Ft false)
def LL(a0:AN)(a1:Bts)(self1:Int→Option (Int))(x48:Int):Option (Int):=
 bif (decide (x48< (a0.funcs.length:Int))) then ((idx a0.funcs x48).bind fun x94=>bif (x94.name==a1) then (some x48) else (self1 (i64.wrap (x48+(1:Int))))) else (some (-1:Int))
def Ki(a0:AN)(a1:Bts):Nat→Int→Option (Int)
 |0=>fun _=>none
 |k+1=>LL a0 a1 (Ki a0 a1 k)
def MM(N:Nat)(a0:AN)(a1:Bts):Option (Int):=
 Ki a0 a1 N (0:Int)
def MW(a0:(List Bts))(a1:Bts)(self1:Int→Option (Bool))(x27:Int):Option (Bool):=
 bif (decide (x27< (a0.length:Int))) then ((idx a0 x27).bind fun x59=>bif (x59==a1) then (some true) else (self1 (i64.wrap (x27+(1:Int))))) else (some false)
def La(a0:(List Bts))(a1:Bts):Nat→Int→Option (Bool)
 |0=>fun _=>none
 |k+1=>MW a0 a1 (La a0 a1 k)
def Of(N:Nat)(a0:(List Bts))(a1:Bts):Option (Bool):=
 La a0 a1 N (0:Int)
def N5(a0:AD)(x37:Bool):Option ((List Bts)):=
 bif x37 then (some ([a0.name,a0.tail]:List Bts)) else (some [])
def Lp(a0:AD)(a1:Int)(x15:Bool):Option ((List Bts)):=
 bif x15 then (some ([a0.name]:List Bts)) else (bif (a0.op==(20:Int)) then (N5 a0 (a1==(2:Int))) else (N5 a0 false))
def Qf(a0:AD)(a1:Int):Option ((List Bts)):=
 bif (a0.op==(21:Int)) then (Lp a0 a1 (a0.op==(21:Int))) else (bif (a0.op==(22:Int)) then (Lp a0 a1 (a1==(1:Int))) else (Lp a0 a1 false))
def O8(a0:(List Bts))(a1:(List Bts)):Option ((List Bts)):=
 (GD 16 ([]:List Bts) a0).bind fun _=>(GD 16 (([]:List Bts)++a0) a1).bind fun _=>some ((([]:List Bts)++a0)++a1)
structure Ck where
 ref06_seen:AD→(List Bts)→Option ((List B8))
def Ja(φ:Ck)(a0:AD)(a1:(List Bts))(self1:(List B8)→Int→Option ((List B8)))(x197:(List B8))(x201:Int):Option ((List B8)):=
 bif (decide (x201< (a0.args.length:Int))) then ((Qf a0 x201).bind fun x296=>(O8 a1 x296).bind fun x308=>(idx a0.args x201).bind fun x320=>(φ.ref06_seen x320 x308).bind fun x339=>(GD 104 x197 x339).bind fun _=>self1 (x197++x339) (i64.wrap (x201+(1:Int)))) else (some x197)
def J3(φ:Ck)(a0:AD)(a1:(List Bts)):Nat→(List B8)→Int→Option ((List B8))
 |0=>fun _ _=>none
 |k+1=>Ja φ a0 a1 (J3 φ a0 a1 k)
def J4(φ:Ck)(N:Nat)(a0:AD)(a1:(List Bts))(x108:(List B8)):Option ((List B8)):=
 J3 φ a0 a1 N x108 (0:Int)
def MX(φ:Ck)(N:Nat)(a0:AD)(a1:(List Bts))(x367:Bool):Option ((List B8)):=
 bif x367 then (bif (a0.op==(6:Int)) then ((Of N a1 a0.name).bind fun x405=>(GD 104 ([]:List B8) ([(B8.mk a0 (!x405))]:List B8)).bind fun _=>J4 φ N a0 a1 (([]:List B8)++([(B8.mk a0 (!x405))]:List B8))) else ((GD 104 ([]:List B8) ([(B8.mk a0 false)]:List B8)).bind fun _=>J4 φ N a0 a1 (([]:List B8)++([(B8.mk a0 false)]:List B8)))) else (J4 φ N a0 a1 ([]:List B8))
def M4(φ:Ck)(N:Nat)(a0:AD)(a1:(List Bts)):Option ((List B8)):=
 bif (a0.op==(6:Int)) then (MX φ N a0 a1 true) else (MX φ N a0 a1 (a0.op==(7:Int)))
def Ck.at:Nat→Ck
 |0=>⟨fun _ _=>none⟩
 |n+1=>⟨M4 (Ck.at n) n⟩
def ref06_seen(N:Nat):AD→(List Bts)→Option ((List B8)):=(Ck.at N).ref06_seen
def KA(x3569:AK)(x3797:(List Bts))(x3801:Int)(self6:((List AE)→(List Bts)→Int→Option ((List AE))))(x4031:(List AE)):Option ((List AE)):=
 (idx x3569.params x3801).bind fun x4041=>(GD 16 x3797 ([x4041.name]:List Bts)).bind fun _=>self6 x4031 (x3797++([x4041.name]:List Bts)) (i64.wrap (x3801+(1:Int)))
def HM(x4528:Int)(self7:((List AE)→Int→Option ((List AE))))(x5102:(List AE)):Option ((List AE)):=
 self7 x5102 (i64.wrap (x4528+(1:Int)))
def HN(N:Nat)(a0:AN)(x4528:Int)(self7:((List AE)→Int→Option ((List AE))))(x5111:B8)(x5164:(List AE)):Option ((List AE)):=
 bif (x5111.e.op != (7:Int)) then (HM x4528 self7 x5164) else ((MM N a0 x5111.e.name).bind fun x5177=>bif (decide (x5177< (0:Int))) then ((GD 16 x5164 ([(AE.mk (32:Int) x5111.e.at_)]:List AE)).bind fun _=>HM x4528 self7 (x5164++([(AE.mk (32:Int) x5111.e.at_)]:List AE))) else ((idx a0.funcs x5177).bind fun x5209=>bif ((x5209.params.length:Int) != (x5111.e.args.length:Int)) then ((GD 16 x5164 ([(AE.mk (33:Int) x5111.e.at_)]:List AE)).bind fun _=>HM x4528 self7 (x5164++([(AE.mk (33:Int) x5111.e.at_)]:List AE))) else (HM x4528 self7 x5164)))
def GR(N:Nat)(a0:AN)(x1785:Int)(self5:((List AE)→Int→Option ((List AE))))(x4132:((List B8)))(self7:(List AE)→Int→Option ((List AE)))(x4524:(List AE))(x4528:Int):Option ((List AE)):=
 bif (decide (x4528< (x4132.length:Int))) then ((idx x4132 x4528).bind fun x5111=>bif x5111.free then ((GD 16 x4524 ([(AE.mk (31:Int) x5111.e.at_)]:List AE)).bind fun _=>HN N a0 x4528 self7 x5111 (x4524++([(AE.mk (31:Int) x5111.e.at_)]:List AE))) else (HN N a0 x4528 self7 x5111 x4524)) else (self5 x4524 (i64.wrap (x1785+(1:Int))))
def FM(N:Nat)(a0:AN)(x1785:Int)(self5:((List AE)→Int→Option ((List AE))))(x4132:((List B8))):Nat→(List AE)→Int→Option ((List AE))
 |0=>fun _ _=>none
 |k+1=>GR N a0 x1785 self5 x4132 (FM N a0 x1785 self5 x4132 k)
def GS(N:Nat)(a0:AN)(x1785:Int)(self5:((List AE)→Int→Option ((List AE))))(x3569:AK)(self6:(List AE)→(List Bts)→Int→Option ((List AE)))(x3793:(List AE))(x3797:(List Bts))(x3801:Int):Option ((List AE)):=
 bif (decide (x3801< (x3569.params.length:Int))) then ((idx x3569.params x3801).bind fun x4077=>(Of N x3797 x4077.name).bind fun x4094=>bif x4094 then ((GD 16 x3793 ([(AE.mk (30:Int) x4077.at_)]:List AE)).bind fun _=>KA x3569 x3797 x3801 self6 (x3793++([(AE.mk (30:Int) x4077.at_)]:List AE))) else (KA x3569 x3797 x3801 self6 x3793)) else ((ref06_seen N (AD.mk x3569.body.op x3569.body.name x3569.body.tail x3569.body.type_ x3569.body.num x3569.body.args x3569.body.at_) x3797).bind fun x4132=>FM N a0 x1785 self5 x4132 N x3793 (0:Int))
def F9(N:Nat)(a0:AN)(x1785:Int)(self5:((List AE)→Int→Option ((List AE))))(x3569:AK):Nat→(List AE)→(List Bts)→Int→Option ((List AE))
 |0=>fun _ _ _=>none
 |k+1=>GS N a0 x1785 self5 x3569 (F9 N a0 x1785 self5 x3569 k)
def KB(N:Nat)(a0:AN)(x1785:Int)(self5:((List AE)→Int→Option ((List AE))))(x3569:AK)(x3636:(List AE)):Option ((List AE)):=
 F9 N a0 x1785 self5 x3569 N x3636 ([]:List Bts) (0:Int)
def Ij(N:Nat)(a0:AN)(self5:(List AE)→Int→Option ((List AE)))(x1781:(List AE))(x1785:Int):Option ((List AE)):=
 bif (decide (x1785< (a0.funcs.length:Int))) then ((idx a0.funcs x1785).bind fun x3569=>(MM N a0 x3569.name).bind fun x5294=>bif (decide (x5294<x1785)) then ((GD 16 x1781 ([(AE.mk (30:Int) x3569.at_)]:List AE)).bind fun _=>KB N a0 x1785 self5 x3569 (x1781++([(AE.mk (30:Int) x3569.at_)]:List AE))) else (KB N a0 x1785 self5 x3569 x1781)) else (some x1781)
def GA(N:Nat)(a0:AN):Nat→(List AE)→Int→Option ((List AE))
 |0=>fun _ _=>none
 |k+1=>Ij N a0 (GA N a0 k)
def PQ(N:Nat)(a0:AN):Option ((List AE)):=
 GA N a0 N ([]:List AE) (0:Int)
def Lq(x171:Int)(self1:(Int→Int→Int→Option (AE)))(x377:Int)(x378:Int):Option (AE):=
 self1 (i64.wrap (x171+(1:Int))) x377 x378
def Lr(x21:((List AE)))(x171:Int)(x172:Int)(x173:Int)(self1:(Int→Int→Int→Option (AE)))(x401:Bool):Option (AE):=
 bif x401 then ((idx x21 x171).bind fun x406=>Lq x171 self1 x406.why x406.at_) else (Lq x171 self1 x172 x173)
def I8(x21:((List AE)))(self1:Int→Int→Int→Option (AE))(x171:Int)(x172:Int)(x173:Int):Option (AE):=
 bif (decide (x171< (x21.length:Int))) then (bif (x172==(0:Int)) then (Lr x21 x171 x172 x173 self1 true) else ((idx x21 x171).bind fun x429=>Lr x21 x171 x172 x173 self1 (decide (x429.at_<x173)))) else (some (AE.mk x172 x173))
def Jb(x21:((List AE))):Nat→Int→Int→Int→Option (AE)
 |0=>fun _ _ _=>none
 |k+1=>I8 x21 (Jb x21 k)
def N6(N:Nat)(a0:AN):Option (AE):=
 (PQ N a0).bind fun x21=>Jb x21 N (0:Int) (0:Int) (0:Int)
def Ls(a0:AN)(a1:Bts)(self1:Int→Option (AK×Bool))(x59:Int):Option (AK×Bool):=
 bif (decide (x59< (a0.funcs.length:Int))) then ((idx a0.funcs x59).bind fun x110=>bif (x110.name==a1) then (some (x110,true)) else (self1 (i64.wrap (x59+(1:Int))))) else (some ((AK.mk ([]:List UInt8) [] (0:Int) (AD.mk (0:Int) ([]:List UInt8) ([]:List UInt8) (0:Int) ((0,0):Nat×Nat) [] (0:Int)) (0:Int)),false))
def LB(a0:AN)(a1:Bts):Nat→Int→Option (AK×Bool)
 |0=>fun _=>none
 |k+1=>Ls a0 a1 (LB a0 a1 k)
def Kx(N:Nat)(a0:AN)(a1:Bts):Option (AK×Bool):=
 LB a0 a1 N (0:Int)
def MY(a1:(List AH))(a2:AD)(self1:Int→Option (Int))(x85:Int):Option (Int):=
 bif (decide (x85≥(0:Int))) then ((idx a1 x85).bind fun x115=>bif (x115.name==a2.name) then (some x115.type_) else (self1 (i64.wrap (x85 - (1:Int))))) else (some (-1:Int))
def Lb(a1:(List AH))(a2:AD):Nat→Int→Option (Int)
 |0=>fun _=>none
 |k+1=>MY a1 a2 (Lb a1 a2 k)
def M5(x134:(AK×Bool))(x175:Bool):Option (Int):=
 bif x175 then (some (-1:Int)) else (some x134.1.type_)
def Lc(N:Nat)(a0:AN)(a1:(List AH))(a2:AD)(x51:Bool):Option (Int):=
 bif x51 then (some (3:Int)) else (bif (a2.op==(5:Int)) then (some a2.type_) else (bif (a2.op==(6:Int)) then (Lb a1 a2 N (i64.wrap ((a1.length:Int) - (1:Int)))) else (bif (a2.op==(7:Int)) then ((Kx N a0 a2.name).bind fun x134=>bif (!x134.2) then (M5 x134 true) else (M5 x134 ((x134.1.params.length:Int) != (a2.args.length:Int)))) else (some (0:Int)))))
def I0(N:Nat)(a0:AN)(a1:(List AH))(a2:AD)(x45:Bool):Option (Int):=
 bif x45 then (some (2:Int)) else (bif (a2.op==(4:Int)) then (Lc N a0 a1 a2 (a2.op==(4:Int))) else (Lc N a0 a1 a2 (a2.op==(18:Int))))
def Fv(N:Nat)(a0:AN)(a1:(List AH))(a2:AD)(x36:Bool):Option (Int):=
 bif x36 then (some (1:Int)) else (bif (a2.op==(2:Int)) then (I0 N a0 a1 a2 (a2.op==(2:Int))) else (bif (a2.op==(3:Int)) then (I0 N a0 a1 a2 (a2.op==(3:Int))) else (bif (a2.op==(12:Int)) then (I0 N a0 a1 a2 (a2.op==(12:Int))) else (bif (a2.op==(13:Int)) then (I0 N a0 a1 a2 (a2.op==(13:Int))) else (I0 N a0 a1 a2 (a2.op==(14:Int)))))))
def P5(N:Nat)(a0:AN)(a1:(List AH))(a2:AD):Option (Int):=
 bif (a2.op==(1:Int)) then (Fv N a0 a1 a2 (a2.op==(1:Int))) else (bif (a2.op==(8:Int)) then (Fv N a0 a1 a2 (a2.op==(8:Int))) else (bif (a2.op==(9:Int)) then (Fv N a0 a1 a2 (a2.op==(9:Int))) else (bif (a2.op==(10:Int)) then (Fv N a0 a1 a2 (a2.op==(10:Int))) else (bif (a2.op==(11:Int)) then (Fv N a0 a1 a2 (a2.op==(11:Int))) else (bif (a2.op==(15:Int)) then (Fv N a0 a1 a2 (a2.op==(15:Int))) else (bif (a2.op==(16:Int)) then (Fv N a0 a1 a2 (a2.op==(16:Int))) else (Fv N a0 a1 a2 (a2.op==(17:Int)))))))))
def Lt(a0:(List AH))(a1:Bts)(a2:Int):Option ((List AH)):=
 (GD 32 ([]:List AH) a0).bind fun _=>(GD 32 (([]:List AH)++a0) ([(AH.mk a1 a2 (0:Int))]:List AH)).bind fun _=>some ((([]:List AH)++a0)++([(AH.mk a1 a2 (0:Int))]:List AH))
def LM(a0:(List AH))(a1:AD)(x39:Bool):Option ((List AH)):=
 bif x39 then ((Lt a0 a1.name (1:Int)).bind fun x46=>(Lt x46 a1.tail (3:Int)).bind fun x58=>some x58) else (some a0)
def KC(a0:(List AH))(a1:AD)(a2:Int)(x19:Bool):Option ((List AH)):=
 bif x19 then ((Lt a0 a1.name a1.type_).bind fun x26=>some x26) else (bif (a1.op==(20:Int)) then (LM a0 a1 (a2==(2:Int))) else (LM a0 a1 false))
def M6(a0:(List AH))(a1:AD)(a2:Int):Option ((List AH)):=
 bif (a1.op==(21:Int)) then (KC a0 a1 a2 (a1.op==(21:Int))) else (bif (a1.op==(22:Int)) then (KC a0 a1 a2 (a2==(1:Int))) else (KC a0 a1 a2 false))
def KD:Option (Int):=
 some (1:Int)
def LN(a2:Int)(x113:(AK×Bool))(x149:Bool):Option (Int):=
 bif x149 then ((idx x113.1.params a2).bind fun x155=>some x155.type_) else (KD)
def LO(a1:AD)(a2:Int)(a3:Int)(x178:Bool):Option (Int):=
 bif x178 then (bif (a2==(0:Int)) then (some a1.type_) else (some a3)) else (KD)
def M7(N:Nat)(a0:AN)(a1:AD)(a2:Int)(a3:Int):Option (Int):=
 bif (a1.op==(14:Int)) then (some (2:Int)) else (bif (a1.op==(18:Int)) then (bif (a2==(1:Int)) then (some (3:Int)) else (KD)) else (bif (a1.op==(7:Int)) then ((Kx N a0 a1.name).bind fun x113=>bif x113.2 then (LN a2 x113 (decide (a2< (x113.1.params.length:Int)))) else (LN a2 x113 false)) else (bif (a1.op==(19:Int)) then (bif (a2==(0:Int)) then (some (2:Int)) else (some a3)) else (bif (a1.op==(20:Int)) then (bif (a2==(0:Int)) then (some (3:Int)) else (some a3)) else (bif (a1.op==(21:Int)) then (LO a1 a2 a3 (a1.op==(21:Int))) else (LO a1 a2 a3 (a1.op==(22:Int))))))))
structure CK where
 ref07_wrong:AN→(List AH)→AD→Int→Option ((List Int))
def I9(φ:CK)(N:Nat)(a0:AN)(a1:(List AH))(a2:AD)(a3:Int)(self1:(List Int)→Int→Option ((List Int)))(x159:(List Int))(x163:Int):Option ((List Int)):=
 bif (decide (x163< (a2.args.length:Int))) then ((idx a2.args x163).bind fun x264=>(M6 a1 a2 x163).bind fun x284=>(M7 N a0 a2 x163 a3).bind fun x297=>(φ.ref07_wrong a0 x284 x264 x297).bind fun x305=>(GD 8 x159 x305).bind fun _=>self1 (x159++x305) (i64.wrap (x163+(1:Int)))) else (some x159)
def Jc(φ:CK)(N:Nat)(a0:AN)(a1:(List AH))(a2:AD)(a3:Int):Nat→(List Int)→Int→Option ((List Int))
 |0=>fun _ _=>none
 |k+1=>I9 φ N a0 a1 a2 a3 (Jc φ N a0 a1 a2 a3 k)
def Kj(φ:CK)(N:Nat)(a0:AN)(a1:(List AH))(a2:AD)(a3:Int)(x68:(List Int)):Option ((List Int)):=
 Jc φ N a0 a1 a2 a3 N x68 (0:Int)
def Lu(φ:CK)(N:Nat)(a0:AN)(a1:(List AH))(a2:AD)(a3:Int)(x333:Bool):Option ((List Int)):=
 bif x333 then ((GD 8 ([]:List Int) ([a2.at_]:List Int)).bind fun _=>Kj φ N a0 a1 a2 a3 (([]:List Int)++([a2.at_]:List Int))) else (Kj φ N a0 a1 a2 a3 ([]:List Int))
def MZ(φ:CK)(N:Nat)(a0:AN)(a1:(List AH))(a2:AD)(a3:Int):Option ((List Int)):=
 (P5 N a0 a1 a2).bind fun x33=>bif (x33 != (0:Int)) then (Lu φ N a0 a1 a2 a3 (x33 != a3)) else (Lu φ N a0 a1 a2 a3 false)
def CK.at:Nat→CK
 |0=>⟨fun _ _ _ _=>none⟩
 |n+1=>⟨MZ (CK.at n) n⟩
def ref07_wrong(N:Nat):AN→(List AH)→AD→Int→Option ((List Int)):=(CK.at N).ref07_wrong
def Jd(x1145:Int)(self4:(Int→Int→Int→Option (AE)))(x1351:Int)(x1352:Int):Option (AE):=
 self4 (i64.wrap (x1145+(1:Int))) x1351 x1352
def Je(x1001:((List Int)))(x1145:Int)(x1146:Int)(x1147:Int)(self4:(Int→Int→Int→Option (AE)))(x1375:Bool):Option (AE):=
 bif x1375 then ((idx x1001 x1145).bind fun x1380=>Jd x1145 self4 (34:Int) x1380) else (Jd x1145 self4 x1146 x1147)
def FO(x500:Int)(self3:(Int→Int→Int→Option (AE)))(x1001:((List Int)))(self4:Int→Int→Int→Option (AE))(x1145:Int)(x1146:Int)(x1147:Int):Option (AE):=
 bif (decide (x1145< (x1001.length:Int))) then (bif (x1146==(0:Int)) then (Je x1001 x1145 x1146 x1147 self4 true) else ((idx x1001 x1145).bind fun x1403=>Je x1001 x1145 x1146 x1147 self4 (decide (x1403<x1147)))) else (self3 (i64.wrap (x500+(1:Int))) x1146 x1147)
def G5(x500:Int)(self3:(Int→Int→Int→Option (AE)))(x1001:((List Int))):Nat→Int→Int→Int→Option (AE)
 |0=>fun _ _ _=>none
 |k+1=>FO x500 self3 x1001 (G5 x500 self3 x1001 k)
def JA(N:Nat)(a0:AN)(self3:Int→Int→Int→Option (AE))(x500:Int)(x501:Int)(x502:Int):Option (AE):=
 bif (decide (x500< (a0.funcs.length:Int))) then ((idx a0.funcs x500).bind fun x976=>(ref07_wrong N a0 x976.params (AD.mk x976.body.op x976.body.name x976.body.tail x976.body.type_ x976.body.num x976.body.args x976.body.at_) x976.type_).bind fun x1001=>G5 x500 self3 x1001 N (0:Int) x501 x502) else (some (AE.mk x501 x502))
def CR(N:Nat)(a0:AN):Nat→Int→Int→Int→Option (AE)
 |0=>fun _ _ _=>none
 |k+1=>JA N a0 (CR N a0 k)
def MN(N:Nat)(a0:AN):Option (AE):=
 (N6 N a0).bind fun x21=>bif (x21.why != (0:Int)) then (some x21) else (CR N a0 N (0:Int) x21.why x21.at_)
def Ma(x128:Int)(self1:(Int→Option (Bool)))(x275:Bool):Option (Bool):=
 bif x275 then (some false) else (self1 (i64.wrap (x128+(1:Int))))
def Jf(N:Nat)(a0:AK)(a1:(List AG))(self1:Int→Option (Bool))(x128:Int):Option (Bool):=
 bif (decide (x128< (a1.length:Int))) then ((idx a1 x128).bind fun x282=>(idx a0.params x128).bind fun x302=>bif (x282.type_ != x302.type_) then (Ma x128 self1 true) else ((Bq N x282).bind fun x316=>Ma x128 self1 (!x316))) else (some true)
def J5(N:Nat)(a0:AK)(a1:(List AG)):Nat→Int→Option (Bool)
 |0=>fun _=>none
 |k+1=>Jf N a0 a1 (J5 N a0 a1 k)
def Ky(N:Nat)(a0:AK)(a1:(List AG)):Option (Bool):=
 bif ((a1.length:Int) != (a0.params.length:Int)) then (some false) else (J5 N a0 a1 N (0:Int))
def LP(a0:AG)(self1:Th→Int→Option (Th))(x70:Th)(x73:Int):Option (Th):=
 bif (decide (x73≥(0:Int))) then ((idx a0.list x73).bind fun x116=>self1 (Th.done (AG.mk (0:Int) ((0,0):Nat×Nat) false []) (Th.done (AG.mk (1:Int) x116 false []) Th.nil Th.nil) x70) (i64.wrap (x73 - (1:Int)))) else (some x70)
def Kk(a0:AG):Nat→Th→Int→Option (Th)
 |0=>fun _ _=>none
 |k+1=>LP a0 (Kk a0 k)
def N7(N:Nat)(a0:AG):Option (Th):=
 bif (a0.type_ != (3:Int)) then (some (Th.done a0 Th.nil Th.nil)) else (Kk a0 N (Th.done (AG.mk (3:Int) ((0,0):Nat×Nat) false []) Th.nil Th.nil) (i64.wrap ((a0.list.length:Int) - (1:Int))))
def Kq(ao0:Af)(x13:Int):Option (Th×Af):=
 some ((Th.later (AD.mk (0:Int) ([]:List UInt8) ([]:List UInt8) (0:Int) ((0,0):Nat×Nat) [] (0:Int)) Nm.nil),(Af.mk (AN.mk ao0.p.funcs) ao0.most ao0.cost x13))
def KM(ao0:Af)(a1:Int):Option (Th×Af):=
 bif (ao0.why==(0:Int)) then (Kq ao0 a1) else (Kq ao0 ao0.why)
def Qq(a1:Bts)(self1:Nm→Option (Th))(x22:Nm):Option (Th):=
 (x22.view).bind fun x50=>bif (!(x50.1==a1)) then (self1 x50.2.2) else (some x50.2.1)
def Ik(a1:Bts):Nat→Nm→Option (Th)
 |0=>fun _=>none
 |k+1=>Qq a1 (Ik a1 k)
def LH(N:Nat)(a0:Nm)(a1:Bts):Option (Th):=
 Ik a1 N a0
def Lv(x14:Bool):Option (Int×Int):=
 bif x14 then (some ((1:Int),(1:Int))) else (some ((0:Int),(0:Int)))
def Il(a0:Int)(x6:Bool):Option (Int×Int):=
 bif x6 then (some ((2:Int),(1:Int))) else (bif (a0==(14:Int)) then (some ((1:Int),(2:Int))) else (bif (a0==(15:Int)) then (Lv (a0==(15:Int))) else (bif (a0==(16:Int)) then (Lv (a0==(16:Int))) else (Lv (a0==(17:Int))))))
def MO(a0:Int):Option (Int×Int):=
 bif (a0==(8:Int)) then (Il a0 (a0==(8:Int))) else (bif (a0==(9:Int)) then (Il a0 (a0==(9:Int))) else (bif (a0==(10:Int)) then (Il a0 (a0==(10:Int))) else (bif (a0==(11:Int)) then (Il a0 (a0==(11:Int))) else (bif (a0==(12:Int)) then (Il a0 (a0==(12:Int))) else (Il a0 (a0==(13:Int)))))))
def Og(a0:Ad)(a1:Ad):Option (Ad×Int):=
 (Gj (Ad.mk (i64.wrap (a0.re+a1.re)) (i64.wrap (a0.im+a1.im)))).bind fun x21=>some (x21.1,x21.2)
def EC(a0:Ad)(a1:Int):Option (AG×Int):=
 bif (a1 != (0:Int)) then (some ((AG.mk (0:Int) ((0,0):Nat×Nat) false []),a1)) else ((FQ a0).bind fun x19=>some ((AG.mk (1:Int) x19 false []),(0:Int)))
def Oh(a0:Ad)(a1:Ad):Option (Ad×Int):=
 (Gj (Ad.mk (i64.wrap (a0.re - a1.re)) (i64.wrap (a0.im - a1.im)))).bind fun x21=>some (x21.1,x21.2)
def Oi(a0:Ad)(a1:Ad):Option (Ad×Int):=
 (Gj (Ad.mk (i64.wrap ((i64.wrap (a0.re*a1.re)) - (i64.wrap (a0.im*a1.im)))) (i64.wrap ((i64.wrap (a0.re*a1.im))+(i64.wrap (a0.im*a1.re)))))).bind fun x21=>some (x21.1,x21.2)
def Ld(a0:Ad)(a1:Ad)(x27:Bool):Option (Ad×Int):=
 bif x27 then (some ((Ad.mk (0:Int) (0:Int)),(51:Int))) else ((nz (i64.wrap ((i64.wrap (a1.re*a1.re))+(i64.wrap (a1.im*a1.im))))).bind fun _=>(nz (i64.wrap ((i64.wrap (a1.re*a1.re))+(i64.wrap (a1.im*a1.im))))).bind fun _=>(Gj (Ad.mk (i64.wrap ((i64.wrap ((i64.wrap (a0.re*a1.re))+(i64.wrap (a0.im*a1.im)))).tdiv (i64.wrap ((i64.wrap (a1.re*a1.re))+(i64.wrap (a1.im*a1.im)))))) (i64.wrap ((i64.wrap ((i64.wrap (a0.im*a1.re)) - (i64.wrap (a0.re*a1.im)))).tdiv (i64.wrap ((i64.wrap (a1.re*a1.re))+(i64.wrap (a1.im*a1.im)))))))).bind fun x60=>some (x60.1,x60.2))
def Oj(a0:Ad)(a1:Ad):Option (Ad×Int):=
 bif ((i64.wrap ((i64.wrap (a1.re*a1.re))+(i64.wrap (a1.im*a1.im))))==(0:Int)) then (Ld a0 a1 true) else ((nz (i64.wrap ((i64.wrap (a1.re*a1.re))+(i64.wrap (a1.im*a1.im))))).bind fun _=>bif (((i64.wrap ((i64.wrap (a0.re*a1.re))+(i64.wrap (a0.im*a1.im)))).tmod (i64.wrap ((i64.wrap (a1.re*a1.re))+(i64.wrap (a1.im*a1.im))))) != (0:Int)) then (Ld a0 a1 true) else ((nz (i64.wrap ((i64.wrap (a1.re*a1.re))+(i64.wrap (a1.im*a1.im))))).bind fun _=>Ld a0 a1 (((i64.wrap ((i64.wrap (a0.im*a1.re)) - (i64.wrap (a0.re*a1.im)))).tmod (i64.wrap ((i64.wrap (a1.re*a1.re))+(i64.wrap (a1.im*a1.im))))) != (0:Int))))
def MP(a0:Bool):Option (AG×Int):=
 some ((AG.mk (2:Int) ((0,0):Nat×Nat) a0 []),(0:Int))
def LC(x16:Bool):Option (Bool):=
 some x16
def M8(a0:Ad)(a1:Ad):Option (Bool):=
 bif (decide (a0.re<a1.re)) then (LC true) else (bif (a0.re==a1.re) then (LC (decide (a0.im<a1.im))) else (LC false))
def FI(a1:(List AG))(x156:(List Ad))(x160:Int)(self1:(Bool→(List Ad)→Int→Option (AG×Int)))(x331:Bool):Option (AG×Int):=
 (idx a1 x160).bind fun x335=>(EA x335.num).bind fun x354=>(GD 16 x156 ([x354.1]:List Ad)).bind fun _=>self1 x331 (x156++([x354.1]:List Ad)) (i64.wrap (x160+(1:Int)))
def Lw(N:Nat)(a0:Int)(a1:(List AG))(x11:(Int×Int))(x155:Bool)(x156:(List Ad))(x160:Int)(self1:(Bool→(List Ad)→Int→Option (AG×Int)))(x300:Bool):Option (AG×Int):=
 bif x300 then ((idx a1 x160).bind fun x393=>(Bq N x393).bind fun x412=>bif x412 then (FI a1 x156 x160 self1 (x393.type_==x11.2)) else (FI a1 x156 x160 self1 false)) else (bif (!x155) then (some ((AG.mk (0:Int) ((0,0):Nat×Nat) false []),(3:Int))) else (bif (a0==(8:Int)) then ((idx x156 (0:Int)).bind fun x479=>(idx x156 (1:Int)).bind fun x492=>(Og x479 x492).bind fun x504=>(EC x504.1 x504.2).bind fun x511=>some (x511.1,x511.2)) else (bif (a0==(9:Int)) then ((idx x156 (0:Int)).bind fun x584=>(idx x156 (1:Int)).bind fun x597=>(Oh x584 x597).bind fun x609=>(EC x609.1 x609.2).bind fun x616=>some (x616.1,x616.2)) else (bif (a0==(10:Int)) then ((idx x156 (0:Int)).bind fun x689=>(idx x156 (1:Int)).bind fun x702=>(Oi x689 x702).bind fun x714=>(EC x714.1 x714.2).bind fun x721=>some (x721.1,x721.2)) else (bif (a0==(11:Int)) then ((idx x156 (0:Int)).bind fun x794=>(idx x156 (1:Int)).bind fun x807=>(Oj x794 x807).bind fun x819=>(EC x819.1 x819.2).bind fun x826=>some (x826.1,x826.2)) else (bif (a0==(12:Int)) then ((idx x156 (0:Int)).bind fun x892=>(idx x156 (1:Int)).bind fun x905=>(MP (x892.re==x905.re&&x892.im==x905.im)).bind fun x917=>some (x917.1,x917.2)) else (bif (a0==(13:Int)) then ((idx x156 (0:Int)).bind fun x988=>(idx x156 (1:Int)).bind fun x1001=>(M8 x988 x1001).bind fun x1013=>(MP x1013).bind fun x1018=>some (x1018.1,x1018.2)) else (bif (a0==(14:Int)) then ((idx a1 (0:Int)).bind fun x1038=>(MP (!x1038.bool)).bind fun x1057=>some (x1057.1,x1057.2)) else (bif (a0==(15:Int)) then ((idx x156 (0:Int)).bind fun x1077=>(EC (Ad.mk x1077.re (0:Int)) (0:Int)).bind fun x1090=>some (x1090.1,x1090.2)) else (bif (a0==(16:Int)) then ((idx x156 (0:Int)).bind fun x1110=>(EC (Ad.mk x1110.im (0:Int)) (0:Int)).bind fun x1123=>some (x1123.1,x1123.2)) else ((idx x156 (0:Int)).bind fun x1188=>(idx x156 (0:Int)).bind fun x1201=>(EC (Ad.mk x1188.re (i64.wrap (0 - x1201.im))) (0:Int)).bind fun x1213=>some (x1213.1,x1213.2))))))))))))
def CW(N:Nat)(a0:Int)(a1:(List AG))(x11:(Int×Int))(self1:Bool→(List Ad)→Int→Option (AG×Int))(x155:Bool)(x156:(List Ad))(x160:Int):Option (AG×Int):=
 bif x155 then (Lw N a0 a1 x11 x155 x156 x160 self1 (decide (x160<x11.1))) else (Lw N a0 a1 x11 x155 x156 x160 self1 false)
def Bg(N:Nat)(a0:Int)(a1:(List AG))(x11:(Int×Int)):Nat→Bool→(List Ad)→Int→Option (AG×Int)
 |0=>fun _ _ _=>none
 |k+1=>CW N a0 a1 x11 (Bg N a0 a1 x11 k)
def N8(N:Nat)(a0:Int)(a1:(List AG))(x11:(Int×Int))(x21:Bool):Option (AG×Int):=
 Bg N a0 a1 x11 N x21 ([]:List Ad) (0:Int)
def GB(N:Nat)(a0:Int)(a1:(List AG)):Option (AG×Int):=
 (MO a0).bind fun x11=>bif (decide (x11.1>(0:Int))) then (N8 N a0 a1 x11 ((a1.length:Int)==x11.1)) else (N8 N a0 a1 x11 false)
structure AR where
 ref11_Machine_look:Af→AD→Nm→Option (Th×Af)
 ref11_Machine_of:Af→Th→Option (Th×Af)
 ref11_Machine_inside:Af→AD→Nm→Option (Th×Af)
def I1(φ:AR)(ao0:Af)(a1:AD)(a2:Nm)(x265:(List AH))(x270:Int)(x271:Bts)(x272:Bts)(x273:Int)(x274:(Nat×Nat))(x275:(List AD))(x279:Int)(self1:Nm→Int→Option (Th×Af))(x351:Nm)(x354:Int):Option (Th×Af):=
 bif (decide (x354< (a1.args.length:Int))) then ((idx x265 x354).bind fun x431=>(idx a1.args x354).bind fun x445=>self1 (Nm.bind x431.name (Th.later x445 a2) x351) (i64.wrap (x354+(1:Int)))) else ((φ.ref11_Machine_look (Af.mk (AN.mk ao0.p.funcs) ao0.most (i64.wrap (ao0.cost+(1:Int))) ao0.why) (AD.mk x270 x271 x272 x273 x274 x275 x279) x351).bind fun x493=>some (x493.1,x493.2))
def Hw(φ:AR)(ao0:Af)(a1:AD)(a2:Nm)(x265:(List AH))(x270:Int)(x271:Bts)(x272:Bts)(x273:Int)(x274:(Nat×Nat))(x275:(List AD))(x279:Int):Nat→Nm→Int→Option (Th×Af)
 |0=>fun _ _=>none
 |k+1=>I1 φ ao0 a1 a2 x265 x270 x271 x272 x273 x274 x275 x279 (Hw φ ao0 a1 a2 x265 x270 x271 x272 x273 x274 x275 x279 k)
def Kr(φ:AR)(N:Nat)(ao0:Af)(a1:AD)(a2:Nm)(x265:(List AH))(x270:Int)(x271:Bts)(x272:Bts)(x273:Int)(x274:(Nat×Nat))(x275:(List AD))(x279:Int):Option (Th×Af):=
 Hw φ ao0 a1 a2 x265 x270 x271 x272 x273 x274 x275 x279 N Nm.nil (0:Int)
def Ks(ao0:Af)(x694:Th):Option (Th×Af):=
 some (x694,(Af.mk (AN.mk ao0.p.funcs) ao0.most (i64.wrap (ao0.cost+(1:Int))) ao0.why))
def Bv(φ:AR)(N:Nat)(ao0:Af)(a1:AD)(a2:Nm)(x77:Bool):Option (Th×Af):=
 bif x77 then (some ((Th.done (AG.mk (2:Int) ((0,0):Nat×Nat) (a1.op==(2:Int)) []) Th.nil Th.nil),(Af.mk (AN.mk ao0.p.funcs) ao0.most (i64.wrap (ao0.cost+(1:Int))) ao0.why))) else (bif (a1.op==(4:Int)) then (some ((Th.done (AG.mk (3:Int) ((0,0):Nat×Nat) false []) Th.nil Th.nil),(Af.mk (AN.mk ao0.p.funcs) ao0.most (i64.wrap (ao0.cost+(1:Int))) ao0.why))) else (bif (a1.op==(5:Int)) then ((KM (Af.mk (AN.mk ao0.p.funcs) ao0.most (i64.wrap (ao0.cost+(1:Int))) ao0.why) (52:Int)).bind fun x111=>some (x111.1,x111.2)) else (bif (a1.op==(6:Int)) then ((LH N a2 a1.name).bind fun x132=>(φ.ref11_Machine_of (Af.mk (AN.mk ao0.p.funcs) ao0.most (i64.wrap (ao0.cost+(1:Int))) ao0.why) x132).bind fun x142=>some (x142.1,x142.2)) else (bif (a1.op==(7:Int)) then ((Kx N (AN.mk ao0.p.funcs) a1.name).bind fun x551=>Kr φ N ao0 a1 a2 x551.1.params x551.1.body.op x551.1.body.name x551.1.body.tail x551.1.body.type_ x551.1.body.num x551.1.body.args x551.1.body.at_) else (bif (a1.op==(18:Int)) then ((idx a1.args (0:Int)).bind fun x706=>(idx a1.args (1:Int)).bind fun x725=>Ks ao0 (Th.done (AG.mk (0:Int) ((0,0):Nat×Nat) false []) (Th.later x706 a2) (Th.later x725 a2))) else ((φ.ref11_Machine_inside (Af.mk (AN.mk ao0.p.funcs) ao0.most (i64.wrap (ao0.cost+(1:Int))) ao0.why) a1 a2).bind fun x824=>some (x824.1,x824.2)))))))
def BD(φ:AR)(N:Nat)(ao0:Af)(a1:AD)(a2:Nm):Option (Th×Af):=
 bif (ao0.why != (0:Int)) then (some ((Th.later (AD.mk (0:Int) ([]:List UInt8) ([]:List UInt8) (0:Int) ((0,0):Nat×Nat) [] (0:Int)) Nm.nil),ao0)) else (bif (decide (ao0.cost≥ao0.most)) then ((KM ao0 (60:Int)).bind fun x40=>some (x40.1,x40.2)) else (bif (a1.op==(1:Int)) then (some ((Th.done (AG.mk (1:Int) a1.num false []) Th.nil Th.nil),(Af.mk (AN.mk ao0.p.funcs) ao0.most (i64.wrap (ao0.cost+(1:Int))) ao0.why))) else (bif (a1.op==(2:Int)) then (Bv φ N ao0 a1 a2 (a1.op==(2:Int))) else (Bv φ N ao0 a1 a2 (a1.op==(3:Int))))))
def LW(φ:AR)(ao0:Af)(a1:Th)(x41:Bool):Option (Th×Af):=
 bif x41 then (some (a1,ao0)) else ((a1.view).bind fun x98=>(φ.ref11_Machine_look ao0 x98.e x98.names).bind fun x131=>some (x131.1,x131.2))
def KN(φ:AR)(_N:Nat)(ao0:Af)(a1:Th):Option (Th×Af):=
 bif (ao0.why != (0:Int)) then (LW φ ao0 a1 true) else ((a1.view).bind fun x150=>LW φ ao0 a1 x150.known)
def DD(φ:AR)(a1:AD)(a2:Nm)(x195:(Th×Af))(x245:Bool):Option (Th×Af):=
 bif x245 then ((idx a1.args (1:Int)).bind fun x251=>(φ.ref11_Machine_look x195.2 x251 a2).bind fun x273=>some (x273.1,x273.2)) else ((idx a1.args (2:Int)).bind fun x536=>(x195.1.view).bind fun x556=>(φ.ref11_Machine_look x195.2 x536 (Nm.bind a1.tail x556.tail (Nm.bind a1.name x556.head a2))).bind fun x615=>some (x615.1,x615.2))
def As(φ:AR)(N:Nat)(a1:AD)(a2:Nm)(self1:(List AG)→Int→(List AK)→Int→Int→Int→Option (Th×Af))(x1043:(List AG))(x1047:Int)(x1048:(List AK))(x1052:Int)(x1053:Int)(x1054:Int):Option (Th×Af):=
 bif (decide (x1047< (a1.args.length:Int))) then ((idx a1.args x1047).bind fun x1189=>(φ.ref11_Machine_look (Af.mk (AN.mk x1048) x1052 x1053 x1054) x1189 a2).bind fun x1208=>(x1208.1.view).bind fun x1226=>(GD 56 x1043 ([x1226.value]:List AG)).bind fun _=>self1 (x1043++([x1226.value]:List AG)) (i64.wrap (x1047+(1:Int))) x1208.2.p.funcs x1208.2.most x1208.2.cost x1208.2.why) else (bif (x1054 != (0:Int)) then (some ((Th.later (AD.mk (0:Int) ([]:List UInt8) ([]:List UInt8) (0:Int) ((0,0):Nat×Nat) [] (0:Int)) Nm.nil),(Af.mk (AN.mk x1048) x1052 x1053 x1054))) else ((GB N a1.op x1043).bind fun x1299=>bif (x1299.2 != (0:Int)) then ((KM (Af.mk (AN.mk x1048) x1052 x1053 x1054) x1299.2).bind fun x1326=>some (x1326.1,x1326.2)) else (some ((Th.done x1299.1 Th.nil Th.nil),(Af.mk (AN.mk x1048) x1052 x1053 x1054)))))
def BJ(φ:AR)(N:Nat)(a1:AD)(a2:Nm):Nat→(List AG)→Int→(List AK)→Int→Int→Int→Option (Th×Af)
 |0=>fun _ _ _ _ _ _=>none
 |k+1=>As φ N a1 a2 (BJ φ N a1 a2 k)
def BH(φ:AR)(N:Nat)(ao0:Af)(a1:AD)(a2:Nm):Option (Th×Af):=
 bif (a1.op==(19:Int)) then ((idx a1.args (0:Int)).bind fun x22=>(φ.ref11_Machine_look ao0 x22 a2).bind fun x44=>(x44.1.view).bind fun x62=>bif x62.value.bool then ((idx a1.args (1:Int)).bind fun x95=>(φ.ref11_Machine_look x44.2 x95 a2).bind fun x115=>some (x115.1,x115.2)) else ((idx a1.args (2:Int)).bind fun x134=>(φ.ref11_Machine_look x44.2 x134 a2).bind fun x154=>some (x154.1,x154.2))) else (bif (a1.op==(20:Int)) then ((idx a1.args (0:Int)).bind fun x173=>(φ.ref11_Machine_look ao0 x173 a2).bind fun x195=>bif (x195.2.why != (0:Int)) then (DD φ a1 a2 x195 true) else ((x195.1.view).bind fun x634=>DD φ a1 a2 x195 (!x634.pair))) else (bif (a1.op==(21:Int)) then ((idx a1.args (0:Int)).bind fun x669=>(idx a1.args (1:Int)).bind fun x706=>(φ.ref11_Machine_look ao0 x706 (Nm.letrec a1.name x669 a2)).bind fun x735=>some (x735.1,x735.2)) else (bif (a1.op==(22:Int)) then ((idx a1.args (0:Int)).bind fun x754=>(φ.ref11_Machine_look ao0 x754 a2).bind fun x776=>(idx a1.args (1:Int)).bind fun x877=>(φ.ref11_Machine_look x776.2 x877 (Nm.bind a1.name x776.1 a2)).bind fun x911=>some (x911.1,x911.2)) else (BJ φ N a1 a2 N ([]:List AG) (0:Int) ao0.p.funcs ao0.most ao0.cost ao0.why))))
def AR.at:Nat→AR
 |0=>⟨fun _ _ _=>none,fun _ _=>none,fun _ _ _=>none⟩
 |n+1=>⟨BD (AR.at n) n,KN (AR.at n) n,BH (AR.at n) n⟩
def ref11_Machine_look(N:Nat):Af→AD→Nm→Option (Th×Af):=(AR.at N).ref11_Machine_look
def ref11_Machine_of(N:Nat):Af→Th→Option (Th×Af):=(AR.at N).ref11_Machine_of
def ref11_Machine_inside(N:Nat):Af→AD→Nm→Option (Th×Af):=(AR.at N).ref11_Machine_inside
def Bj(N:Nat)(x382:Th)(x385:(List AK))(x389:Int)(x390:Int)(x391:Int)(x392:(List (Nat×Nat)))(self1:(Th→(List AK)→Int→Int→Int→(List (Nat×Nat))→Option (AG×Af)))(x725:Bool):Option (AG×Af):=
 bif x725 then ((x382.view).bind fun x731=>(ref11_Machine_of N (Af.mk (AN.mk x385) x389 x390 x391) x731.head).bind fun x764=>(x764.1.view).bind fun x839=>(GD 16 x392 ([x839.value.num]:List (Nat×Nat))).bind fun _=>(ref11_Machine_of N x764.2 x731.tail).bind fun x901=>self1 x901.1 x901.2.p.funcs x901.2.most x901.2.cost x901.2.why (x392++([x839.value.num]:List (Nat×Nat)))) else (some ((AG.mk (3:Int) ((0,0):Nat×Nat) false x392),(Af.mk (AN.mk x385) x389 x390 x391)))
def Ds(N:Nat)(self1:Th→(List AK)→Int→Int→Int→(List (Nat×Nat))→Option (AG×Af))(x382:Th)(x385:(List AK))(x389:Int)(x390:Int)(x391:Int)(x392:(List (Nat×Nat))):Option (AG×Af):=
 bif (x391==(0:Int)) then ((x382.view).bind fun x937=>Bj N x382 x385 x389 x390 x391 x392 self1 x937.pair) else (Bj N x382 x385 x389 x390 x391 x392 self1 false)
def B0(N:Nat):Nat→Th→(List AK)→Int→Int→Int→(List (Nat×Nat))→Option (AG×Af)
 |0=>fun _ _ _ _ _ _=>none
 |k+1=>Ds N (B0 N k)
def Fw(N:Nat)(ao0:Af)(a1:Th)(x49:Bool):Option (AG×Af):=
 bif x49 then ((a1.view).bind fun x55=>some (x55.value,ao0)) else (B0 N N a1 ao0.p.funcs ao0.most ao0.cost ao0.why ([]:List (Nat×Nat)))
def HP(N:Nat)(ao0:Af)(a1:Th):Option (AG×Af):=
 bif (ao0.why==(0:Int)) then ((a1.view).bind fun x974=>Fw N ao0 a1 (!x974.pair)) else (Fw N ao0 a1 false)
def Fx(N:Nat)(a0:AN)(a2:(List AG))(a3:Int)(x40:(AK×Bool))(self1:Nm→Int→Option (Az))(x159:Nm)(x162:Int):Option (Az):=
 bif (decide (x162< (a2.length:Int))) then ((idx x40.1.params x162).bind fun x238=>(idx a2 x162).bind fun x251=>(N7 N x251).bind fun x270=>self1 (Nm.bind x238.name x270 x159) (i64.wrap (x162+(1:Int)))) else ((ref11_Machine_look N (Af.mk a0 (if (16384:Int)< (if a3< (0:Int) then (0:Int) else a3) then (16384:Int) else (if a3< (0:Int) then (0:Int) else a3)) (0:Int) (0:Int)) (AD.mk x40.1.body.op x40.1.body.name x40.1.body.tail x40.1.body.type_ x40.1.body.num x40.1.body.args x40.1.body.at_) x159).bind fun x294=>(HP N x294.2 x294.1).bind fun x312=>bif (x312.2.why != (0:Int)) then (some (Az.mk x312.2.why (AG.mk (0:Int) ((0,0):Nat×Nat) false []) x312.2.cost (0:Int) (0:Int) (0:Int))) else (some (Az.mk (0:Int) x312.1 x312.2.cost (0:Int) (0:Int) (0:Int))))
def IL(N:Nat)(a0:AN)(a2:(List AG))(a3:Int)(x40:(AK×Bool)):Nat→Nm→Int→Option (Az)
 |0=>fun _ _=>none
 |k+1=>Fx N a0 a2 a3 x40 (IL N a0 a2 a3 x40 k)
def Kz(N:Nat)(a0:AN)(a1:Bts)(a2:(List AG))(a3:Int):Option (Az):=
 (MN N a0).bind fun x25=>bif (x25.why != (0:Int)) then (some (Az.mk (3:Int) (AG.mk (0:Int) ((0,0):Nat×Nat) false []) (0:Int) (0:Int) (0:Int) (0:Int))) else ((Kx N a0 a1).bind fun x40=>bif (!x40.2) then (some (Az.mk (32:Int) (AG.mk (0:Int) ((0,0):Nat×Nat) false []) (0:Int) (0:Int) (0:Int) (0:Int))) else ((Ky N x40.1 a2).bind fun x80=>bif (!x80) then (some (Az.mk (40:Int) (AG.mk (0:Int) ((0,0):Nat×Nat) false []) (0:Int) (0:Int) (0:Int) (0:Int))) else (IL N a0 a2 a3 x40 N Nm.nil (0:Int))))
def Jg(a0:AG)(a1:AG)(self1:Int→Option (Bool))(x100:Int):Option (Bool):=
 bif (decide (x100< (a0.list.length:Int))) then ((idx a0.list x100).bind fun x155=>(idx a1.list x100).bind fun x169=>bif (cne x155 x169) then (some false) else (self1 (i64.wrap (x100+(1:Int))))) else (some true)
def IM(a0:AG)(a1:AG):Nat→Int→Option (Bool)
 |0=>fun _=>none
 |k+1=>Jg a0 a1 (IM a0 a1 k)
def Ga(N:Nat)(a0:AG)(a1:AG)(x54:Bool):Option (Bool):=
 bif x54 then (some false) else (IM a0 a1 N (0:Int))
def IN(N:Nat)(a0:AG)(a1:AG):Option (Bool):=
 (Bq N a0).bind fun x185=>bif (!x185) then (Ga N a0 a1 true) else ((Bq N a1).bind fun x193=>bif (!x193) then (Ga N a0 a1 true) else (bif (a0.type_ != a1.type_) then (Ga N a0 a1 true) else (bif (cne a0.num a1.num) then (Ga N a0 a1 true) else (bif (!(a0.bool==a1.bool)) then (Ga N a0 a1 true) else (Ga N a0 a1 ((a0.list.length:Int) != (a1.list.length:Int)))))))
def G6(x47:Bool):Option (Bool):=
 some x47
def Im(N:Nat)(a0:AG)(a1:AG)(x27:Bool):Option (Bool):=
 bif x27 then (bif (ceq a0.num ((0,0):Nat×Nat)) then (bif (ceq a1.num ((0,0):Nat×Nat)) then (bif (!a0.bool) then (bif (!a1.bool) then (bif ((a0.list.length:Int)==(0:Int)) then (G6 ((a1.list.length:Int)==(0:Int))) else (G6 false)) else (G6 false)) else (G6 false)) else (G6 false)) else (G6 false)) else ((IN N a0 a1).bind fun x70=>some x70)
def Fc(N:Nat)(a0:AG)(a1:AG):Option (Bool):=
 bif (a0.type_==(0:Int)) then (Im N a0 a1 (a1.type_==(0:Int))) else (Im N a0 a1 false)
def Gb(x40:Bool):Option (Bool):=
 some x40
def GT(N:Nat)(a0:Az)(a1:Az):Option (Bool):=
 bif (a0.why==a1.why) then ((Fc N (AG.mk a0.value.type_ a0.value.num a0.value.bool a0.value.list) (AG.mk a1.value.type_ a1.value.num a1.value.bool a1.value.list)).bind fun x48=>bif x48 then (bif (a0.moves==a1.moves) then (bif (a0.thunks==a1.thunks) then (bif (a0.updates==a1.updates) then (Gb (a0.calls==a1.calls)) else (Gb false)) else (Gb false)) else (Gb false)) else (Gb false)) else (Gb false)
def JL(x134:Bool):Option (Bool):=
 some x134
def IA(x192:Bool):Option (Bool):=
 some x192
def IB(x250:Bool):Option (Bool):=
 some x250
def E6(N:Nat)(a0:Dy)(a2:Int)(x21:(AN×(List AG)×Bool))(x55:Az)(x209:Bool):Option (Bool):=
 bif x209 then (some false) else ((nz x55.moves).bind fun _=>(nz x55.moves).bind fun _=>(EE N x21.1 a0.name x21.2.1 ((i64.wrap ((a2.tmod x55.moves)+x55.moves)).tmod x55.moves)).bind fun x225=>bif (x225.why==(60:Int)) then (IB (x225.moves==((i64.wrap ((a2.tmod x55.moves)+x55.moves)).tmod x55.moves))) else (IB false))
def HD(N:Nat)(a0:Dy)(a1:Int)(a2:Int)(x21:(AN×(List AG)×Bool))(x55:Az)(x91:Az)(x176:Bool):Option (Bool):=
 bif x176 then (some false) else (bif (decide ((if (16384:Int)< (if a1< (0:Int) then (0:Int) else a1) then (16384:Int) else (if a1< (0:Int) then (0:Int) else a1))≥x55.moves)) then (bif (decide (x55.moves>(0:Int))) then ((GT N x55 x91).bind fun x200=>IA x200) else (IA false)) else (bif (x91.why != (60:Int)) then (E6 N a0 a2 x21 x55 true) else (bif (x91.moves != (if (16384:Int)< (if a1< (0:Int) then (0:Int) else a1) then (16384:Int) else (if a1< (0:Int) then (0:Int) else a1))) then (E6 N a0 a2 x21 x55 true) else (bif (x91.value.type_ != (0:Int)) then (E6 N a0 a2 x21 x55 true) else (E6 N a0 a2 x21 x55 (x55.moves==(0:Int)))))))
def E7(N:Nat)(a0:Dy)(a1:Int)(a2:Int)(x21:(AN×(List AG)×Bool))(x55:Az)(x91:Az)(x118:Bool):Option (Bool):=
 bif x118 then ((GT N x55 x91).bind fun x142=>bif x142 then (JL (x55.moves==(0:Int))) else (JL false)) else (bif (x55.why != (60:Int)) then ((EE N x21.1 a0.name x21.2.1 x55.moves).bind fun x267=>(GT N x55 x267).bind fun x281=>HD N a0 a1 a2 x21 x55 x91 (!x281)) else (HD N a0 a1 a2 x21 x55 x91 false))
def ED(N:Nat)(a0:Dy)(a1:Int)(a2:Int)(x21:(AN×(List AG)×Bool))(x55:Az)(x82:Bool):Option (Bool):=
 bif x82 then (some false) else ((EE N x21.1 a0.name x21.2.1 a1).bind fun x91=>bif (x55.why==(3:Int)) then (E7 N a0 a1 a2 x21 x55 x91 true) else (bif (x55.why==(32:Int)) then (E7 N a0 a1 a2 x21 x55 x91 true) else (E7 N a0 a1 a2 x21 x55 x91 (x55.why==(40:Int)))))
def C8(N:Nat)(a0:Dy)(a1:Int)(a2:Int):Option (Bool):=
 (G4 N).bind fun x13=>bif (!x13) then (some false) else ((Br N a0).bind fun x21=>bif (!x21.2.2) then (some true) else ((EE N x21.1 a0.name x21.2.1 (16384:Int)).bind fun x55=>bif (decide (x55.moves< (0:Int))) then (ED N a0 a1 a2 x21 x55 true) else (bif (decide (x55.moves>(16384:Int))) then (ED N a0 a1 a2 x21 x55 true) else (bif (x55.why==(60:Int)) then (ED N a0 a1 a2 x21 x55 (x55.moves != (16384:Int))) else (ED N a0 a1 a2 x21 x55 false)))))
end Fth
