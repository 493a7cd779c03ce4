/- Part 2 of the proof: what it says holds of the given program; no condition. -/
import Derived.Test.YtiodboehkcmdnaaGreatCA
set_option linter.all false
set_option exponentiation.threshold 3000
namespace Fth
open Go Go.IntKind
set_option maxRecDepth 100000
def J7:Option (Ai):=
 some (Ai.mk (32768:Int) (32768:Int) (32768:Int) (32768:Int))
def Ic(x4:Bool):Option (Bool):=
 some x4
def Hc(a0:UInt8):Option (Bool):=
 bif (((a0).toNat:Int)==(((9:UInt8)).toNat:Int)) then (Ic true) else (bif (((a0).toNat:Int)==(((10:UInt8)).toNat:Int)) then (Ic true) else (bif (((a0).toNat:Int)==(((13:UInt8)).toNat:Int)) then (Ic true) else (Ic (((a0).toNat:Int)==(((32:UInt8)).toNat:Int)))))
def G0(x5:Bool):Option (Bool):=
 some x5
def Gb(a0:UInt8):Option (Bool):=
 bif (decide (((a0).toNat:Int)≥(((65:UInt8)).toNat:Int))) then (bif (decide (((a0).toNat:Int)≤(((90:UInt8)).toNat:Int))) then (G0 true) else (bif (decide (((a0).toNat:Int)≥(((97:UInt8)).toNat:Int))) then (G0 (decide (((a0).toNat:Int)≤(((122:UInt8)).toNat:Int)))) else (G0 false))) else (bif (decide (((a0).toNat:Int)≥(((97:UInt8)).toNat:Int))) then (G0 (decide (((a0).toNat:Int)≤(((122:UInt8)).toNat:Int)))) else (G0 false))
def Ke(x2:Bool):Option (Bool):=
 some x2
def G3(a0:UInt8):Option (Bool):=
 bif (decide (((a0).toNat:Int)≥(((48:UInt8)).toNat:Int))) then (Ke (decide (((a0).toNat:Int)≤(((57:UInt8)).toNat:Int)))) else (Ke false)
def Gc(x76:Int)(self1:(Int→Option (Int)))(x183:Bool):Option (Int):=
 bif x183 then (self1 (i64.wrap (x76+(1:Int)))) else (some x76)
def GX(a0:Bts)(a1:Int)(self1:Int→Option (Int))(x76:Int):Option (Int):=
 bif (decide ((i64.wrap (a1+x76))< (a0.length:Int))) then ((idx a0 (i64.wrap (a1+x76))).bind fun x193=>(Gb x193).bind fun x205=>bif x205 then (Gc x76 self1 true) else ((G3 x193).bind fun x212=>bif x212 then (Gc x76 self1 true) else (Gc x76 self1 (((x193).toNat:Int)==(((95:UInt8)).toNat:Int))))) else (Gc x76 self1 false)
def Ex(a0:Bts)(a1:Int):Nat→Int→Option (Int)
 |0=>fun _=>none
 |k+1=>GX a0 a1 (Ex a0 a1 k)
def IZ(N:Nat)(a0:Bts)(a1:Int):Option (Int):=
 Ex a0 a1 N (0:Int)
def Lj(x41 x85:Int):Option (Int×Int):=
 some (x85,x41)
def E5(a0:Bts)(x12 x40 x41:Int)(self1:(Int→Int→Option (Int×Int)))(x76:Bool):Option (Int×Int):=
 bif x76 then ((idx a0 x41).bind fun x81=>self1 (if (16777217:Int)< (i64.wrap ((i64.wrap ((10:Int)*x40))+(i64.wrap ((((u8c (((x81).toNat:Int) - (((48:UInt8)).toNat:Int)))).toNat:Int))))) then (16777217:Int) else (i64.wrap ((i64.wrap ((10:Int)*x40))+(i64.wrap ((((u8c (((x81).toNat:Int) - (((48:UInt8)).toNat:Int)))).toNat:Int)))))) (i64.wrap (x41+(1:Int)))) else (bif (x41==x12) then (some ((0:Int),(0:Int))) else (bif (x12==(1:Int)) then (Lj x41 (i64.wrap (0 - x40))) else (Lj x41 x40)))
def FM(a0:Bts)(x12:Int)(self1:Int→Int→Option (Int×Int))(x40 x41:Int):Option (Int×Int):=
 bif (decide (x41< (a0.length:Int))) then ((idx a0 x41).bind fun x91=>bif (decide (((x91).toNat:Int)≥(((48:UInt8)).toNat:Int))) then ((idx a0 x41).bind fun x94=>E5 a0 x12 x40 x41 self1 (decide (((x94).toNat:Int)≤(((57:UInt8)).toNat:Int)))) else (E5 a0 x12 x40 x41 self1 false)) else (E5 a0 x12 x40 x41 self1 false)
def Eb(a0:Bts)(x12:Int):Nat→Int→Int→Option (Int×Int)
 |0=>fun _ _=>none
 |k+1=>FM a0 x12 (Eb a0 x12 k)
def Id(N:Nat)(a0:Bts)(x12:Int):Option (Int×Int):=
 Eb a0 x12 N (0:Int) x12
def Hd(N:Nat)(a0:Bts)(x99:Bool):Option (Int×Int):=
 bif x99 then (Id N a0 (1:Int)) else (Id N a0 (0:Int))
def E6(N:Nat)(a0:Bts):Option (Int×Int):=
 bif (decide ((a0.length:Int)>(0:Int))) then ((idx a0 (0:Int)).bind fun x105=>Hd N a0 (((x105).toNat:Int)==(((45:UInt8)).toNat:Int))) else (Hd N a0 false)
def J3(a0:Ad)(x17:Bool):Option (Ad×Int):=
 bif x17 then (some ((Ad.mk (0:Int) (0:Int)),(50:Int))) else (some (a0,(0:Int)))
def He(a0:Ad):Option (Ad×Int):=
 bif (decide (a0.re< (-16777216:Int))) then (J3 a0 true) else (bif (decide (a0.re>(16777216:Int))) then (J3 a0 true) else (bif (decide (a0.im< (-16777216:Int))) then (J3 a0 true) else (J3 a0 (decide (a0.im>(16777216:Int))))))
structure BF where
 ref01_digits:Int→Option (Bts)
def LU(x35:Bts):Option (Bts):=
 some x35
def DW(φ:BF)(_N:Nat)(a0:Int):Option (Bts):=
 bif (decide (a0< (0:Int))) then ((φ.ref01_digits (i64.wrap (0 - a0))).bind fun x2=>(Ph ([45]:List UInt8) x2).bind fun x7=>some x7) else ((nz (10:Int)).bind fun _=>bif (decide (a0≥(10:Int))) then ((nz (10:Int)).bind fun _=>(φ.ref01_digits (i64.wrap (a0.tdiv (10:Int)))).bind fun x42=>(Ph x42 ([(u8c ((i64.wrap ((48:Int)+(a0.tmod (10:Int))))))]:List UInt8)).bind fun x47=>LU x47) else (LU ([(u8c ((i64.wrap ((48:Int)+(a0.tmod (10:Int))))))]:List UInt8)))
def BF.at:Nat→BF
 |0=>⟨fun _=>none⟩
 |n+1=>⟨DW (BF.at n) n⟩
def ref01_digits(N:Nat):Int→Option (Bts):=(BF.at N).ref01_digits
def F6(N:Nat)(a0:Ad):Option (Bts):=
 bif (a0.im==(0:Int)) then ((ref01_digits N a0.re).bind fun x8=>some x8) else (bif (a0.re==(0:Int)) then ((ref01_digits N a0.im).bind fun x14=>(Ph x14 ([105]:List UInt8)).bind fun x19=>some x19) else (bif (decide (a0.im>(0:Int))) then ((ref01_digits N a0.re).bind fun x25=>(Ph x25 ([43]:List UInt8)).bind fun x30=>(ref01_digits N a0.im).bind fun x32=>(Ph x30 x32).bind fun x37=>(Ph x37 ([105]:List UInt8)).bind fun x39=>some x39) else ((ref01_digits N a0.re).bind fun x44=>(ref01_digits N a0.im).bind fun x49=>(Ph x44 x49).bind fun x54=>(Ph x54 ([105]:List UInt8)).bind fun x56=>some x56)))
def Lm(x60 x61:Int)(x91:Bool):Option (Ad×Int):=
 bif x91 then (some ((Ad.mk (0:Int) (0:Int)),(10:Int))) else (some ((Ad.mk x60 x61),(0:Int)))
def Fq(N:Nat)(a0:Bts)(x60 x61:Int):Option (Ad×Int):=
 (He (Ad.mk x60 x61)).bind fun x67=>bif (x67.2 != (0:Int)) then (Lm x60 x61 true) else ((F6 N (Ad.mk x60 x61)).bind fun x109=>Lm x60 x61 (!(x109==a0)))
def Hf(N:Nat)(a0:Bts)(x7:(Int×Int))(x125:Bts):Option (Ad×Int):=
 (E6 N x125).bind fun x129=>Fq N a0 x7.1 x129.1
def Em(N:Nat)(a0:Bts):Option (Ad×Int):=
 (E6 N a0).bind fun x7=>bif (x7.2==(0:Int)) then (some ((Ad.mk (0:Int) (0:Int)),(10:Int))) else ((sub a0 x7.2 (a0.length:Int)).bind fun x28=>bif (x28==([105]:List UInt8)) then (Fq N a0 (0:Int) x7.1) else (bif (!(x28==([]:List UInt8))) then ((idx x28 (0:Int)).bind fun x139=>bif (((x139).toNat:Int)==(((43:UInt8)).toNat:Int)) then ((sub x28 (1:Int) (x28.length:Int)).bind fun x142=>Hf N a0 x7 x142) else (Hf N a0 x7 x28)) else (Fq N a0 x7.1 (0:Int))))
def F9(a0:Ad):Option ((Nat×Nat)):=
 some ((FloatKind.f64.nearest a0.re),(FloatKind.f64.nearest a0.im))
def JI:Option ((List Bts)):=
 some ([([66]:List UInt8),([76]:List UInt8),([78]:List UInt8),([99,97,115,101]:List UInt8),([99,111,110,106]:List UInt8),([101,108,115,101]:List UInt8),([102,97,105,108]:List UInt8),([102,97,108,115,101]:List UInt8),([105,102]:List UInt8),([105,109]:List UInt8),([105,110]:List UInt8),([108,101,116]:List UInt8),([110,105,108]:List UInt8),([110,111,116]:List UInt8),([111,102]:List UInt8),([114,101]:List UInt8),([115,116,114,105,99,116]:List UInt8),([116,104,101,110]:List UInt8),([116,114,117,101]:List UInt8)]:List Bts)
def D0(a0:Bts)(x1:((List Bts)))(self1:Int→Option (Bool))(x34:Int):Option (Bool):=
 bif (decide (x34< (x1.length:Int))) then ((idx x1 x34).bind fun x66=>bif (x66==a0) then (some true) else (self1 (i64.wrap (x34+(1:Int))))) else (some false)
def Dm(a0:Bts)(x1:((List Bts))):Nat→Int→Option (Bool)
 |0=>fun _=>none
 |k+1=>D0 a0 x1 (Dm a0 x1 k)
def Dn(N:Nat)(a0:Bts):Option (Bool):=
 (JI).bind fun x1=>Dm a0 x1 N (0:Int)
def D1(x78:Bool):Option (Int):=
 bif x78 then (some (1:Int)) else (some (0:Int))
def Fr(a0:Bts)(a1:Int)(x49:Bool):Option (Int):=
 bif x49 then (some (2:Int)) else ((idx a0 a1).bind fun x54=>bif (((x54).toNat:Int)==(((40:UInt8)).toNat:Int)) then (D1 (((x54).toNat:Int)==(((40:UInt8)).toNat:Int))) else (bif (((x54).toNat:Int)==(((41:UInt8)).toNat:Int)) then (D1 (((x54).toNat:Int)==(((41:UInt8)).toNat:Int))) else (bif (((x54).toNat:Int)==(((44:UInt8)).toNat:Int)) then (D1 (((x54).toNat:Int)==(((44:UInt8)).toNat:Int))) else (bif (((x54).toNat:Int)==(((58:UInt8)).toNat:Int)) then (D1 (((x54).toNat:Int)==(((58:UInt8)).toNat:Int))) else (bif (((x54).toNat:Int)==(((59:UInt8)).toNat:Int)) then (D1 (((x54).toNat:Int)==(((59:UInt8)).toNat:Int))) else (bif (((x54).toNat:Int)==(((61:UInt8)).toNat:Int)) then (D1 (((x54).toNat:Int)==(((61:UInt8)).toNat:Int))) else (bif (((x54).toNat:Int)==(((43:UInt8)).toNat:Int)) then (D1 (((x54).toNat:Int)==(((43:UInt8)).toNat:Int))) else (bif (((x54).toNat:Int)==(((45:UInt8)).toNat:Int)) then (D1 (((x54).toNat:Int)==(((45:UInt8)).toNat:Int))) else (bif (((x54).toNat:Int)==(((42:UInt8)).toNat:Int)) then (D1 (((x54).toNat:Int)==(((42:UInt8)).toNat:Int))) else (bif (((x54).toNat:Int)==(((47:UInt8)).toNat:Int)) then (D1 (((x54).toNat:Int)==(((47:UInt8)).toNat:Int))) else (bif (((x54).toNat:Int)==(((60:UInt8)).toNat:Int)) then (D1 (((x54).toNat:Int)==(((60:UInt8)).toNat:Int))) else (D1 (((x54).toNat:Int)==(((124:UInt8)).toNat:Int))))))))))))))
def Ie(a0:Bts)(a1:Int):Option (Int):=
 bif (decide ((i64.wrap (a1+(1:Int)))< (a0.length:Int))) then ((idx a0 a1).bind fun x98=>bif (((x98).toNat:Int)==(((45:UInt8)).toNat:Int)) then ((idx a0 (i64.wrap (a1+(1:Int)))).bind fun x111=>bif (((x111).toNat:Int)==(((62:UInt8)).toNat:Int)) then (Fr a0 a1 true) else (bif (((x98).toNat:Int)==(((61:UInt8)).toNat:Int)) then (Fr a0 a1 (((x111).toNat:Int)==(((61:UInt8)).toNat:Int))) else (Fr a0 a1 false))) else (bif (((x98).toNat:Int)==(((61:UInt8)).toNat:Int)) then ((idx a0 (i64.wrap (a1+(1:Int)))).bind fun x126=>Fr a0 a1 (((x126).toNat:Int)==(((61:UInt8)).toNat:Int))) else (Fr a0 a1 false))) else (Fr a0 a1 false)
def Mc(a1:Int)(x17:Bts)(x145:Int):Option (Aj×Bool):=
 some ((Aj.mk x145 x17 ((0,0):Nat×Nat) a1),true)
def IJ(N:Nat)(a0:Bts)(a1 x12:Int)(x17:Bts)(x121:Bool):Option (Aj×Bool):=
 bif x121 then (some ((Aj.mk (0:Int) x17 ((0,0):Nat×Nat) a1),false)) else (bif (decide (x12>(0:Int))) then ((Dn N x17).bind fun x157=>bif x157 then (Mc a1 x17 (1:Int)) else (Mc a1 x17 (0:Int))) else ((Ie a0 a1).bind fun x170=>(sub a0 a1 (i64.wrap (a1+x170))).bind fun x180=>some ((Aj.mk (3:Int) x180 ((0,0):Nat×Nat) a1),(decide (x170>(0:Int))))))
def IK(N:Nat)(a0:Bts)(a1 x12:Int)(x17:Bts)(x63:Bool):Option (Aj×Bool):=
 bif x63 then ((Em N x17).bind fun x69=>(F9 x69.1).bind fun x92=>some ((Aj.mk (2:Int) x17 x92 a1),(x69.2==(0:Int)))) else (bif (decide (x12>(0:Int))) then ((idx a0 a1).bind fun x207=>IJ N a0 a1 x12 x17 (((x207).toNat:Int)==(((95:UInt8)).toNat:Int))) else (IJ N a0 a1 x12 x17 false))
def H1(N:Nat)(a0:Bts)(a1:Int):Option (Aj×Bool):=
 (IZ N a0 a1).bind fun x12=>(sub a0 a1 (i64.wrap (a1+x12))).bind fun x17=>bif (decide (x12>(0:Int))) then ((idx a0 a1).bind fun x221=>(G3 x221).bind fun x234=>IK N a0 a1 x12 x17 x234) else (IK N a0 a1 x12 x17 false)
def Hg(x186:(List Aj))(self3:((List Aj)→Int→Option ((List Aj)×Int)))(x425:Int)(self4:(Int→Option ((List Aj)×Int)))(x490:Bool):Option ((List Aj)×Int):=
 bif x490 then (self4 (i64.wrap (x425+(1:Int)))) else (self3 x186 x425)
def FO(a0:Bts)(x186:(List Aj))(self3:((List Aj)→Int→Option ((List Aj)×Int)))(self4:Int→Option ((List Aj)×Int))(x425:Int):Option ((List Aj)×Int):=
 bif (decide (x425< (a0.length:Int))) then ((idx a0 x425).bind fun x501=>Hg x186 self3 x425 self4 (((x501).toNat:Int) != (((10:UInt8)).toNat:Int))) else (Hg x186 self3 x425 self4 false)
def E7(a0:Bts)(x186:(List Aj))(self3:((List Aj)→Int→Option ((List Aj)×Int))):Nat→Int→Option ((List Aj)×Int)
 |0=>fun _=>none
 |k+1=>FO a0 x186 self3 (E7 a0 x186 self3 k)
def FP(N:Nat)(a0:Bts)(self3:(List Aj)→Int→Option ((List Aj)×Int))(x186:(List Aj))(x190:Int):Option ((List Aj)×Int):=
 bif (decide (x190< (a0.length:Int))) then ((idx a0 x190).bind fun x385=>(Hc x385).bind fun x397=>bif x397 then (self3 x186 (i64.wrap (x190+(1:Int)))) else (bif (((x385).toNat:Int)==(((35:UInt8)).toNat:Int)) then (E7 a0 x186 self3 N x190) else ((H1 N a0 x190).bind fun x514=>bif (!x514.2) then (some ([],x190)) else ((HF 48 x186 ([x514.1]:List Aj)).bind fun _=>self3 (x186++([x514.1]:List Aj)) (i64.wrap (x190+(x514.1.text.length:Int))))))) else ((HF 48 x186 ([(Aj.mk (4:Int) ([]:List UInt8) ((0,0):Nat×Nat) (a0.length:Int))]:List Aj)).bind fun _=>some ((x186++([(Aj.mk (4:Int) ([]:List UInt8) ((0,0):Nat×Nat) (a0.length:Int))]:List Aj)),(-1:Int)))
def Do(N:Nat)(a0:Bts):Nat→(List Aj)→Int→Option ((List Aj)×Int)
 |0=>fun _ _=>none
 |k+1=>FP N a0 (Do N a0 k)
def GA(N:Nat)(a0:Bts):Option ((List Aj)×Int):=
 Do N a0 N ([]:List Aj) (0:Int)
def Be(ao0:AC):Option (Aj):=
 (idx ao0.marks ao0.at_).bind fun x17=>some x17
def B3(ao0:AC)(a1:Int):Option (AC):=
 bif (ao0.why==(0:Int)) then ((Be (AC.mk ao0.marks ao0.at_ a1 ao0.where_ (Ai.mk ao0.l.text ao0.l.funcs ao0.l.arity ao0.l.nest) ao0.nest)).bind fun x14=>some (AC.mk ao0.marks ao0.at_ a1 x14.at_ (Ai.mk ao0.l.text ao0.l.funcs ao0.l.arity ao0.l.nest) ao0.nest)) else (some ao0)
def GB(ao0:AC)(x16:Aj)(x35:Bool):Option (Aj×AC):=
 bif x35 then ((B3 ao0 (21:Int)).bind fun x42=>some ((Aj.mk (0:Int) ([]:List UInt8) ((0,0):Nat×Nat) (0:Int)),x42)) else (some (x16,(AC.mk ao0.marks (i64.wrap (ao0.at_+(1:Int))) ao0.why ao0.where_ (Ai.mk ao0.l.text ao0.l.funcs ao0.l.arity ao0.l.nest) ao0.nest)))
def CK(ao0:AC):Option (Aj×AC):=
 (Be ao0).bind fun x16=>bif (ao0.why != (0:Int)) then (GB ao0 x16 true) else (GB ao0 x16 (x16.kind != (0:Int)))
def HK(x29:Bool):Option (Bool):=
 some x29
def Br(ao0:AC)(a1:Bts):Option (Bool):=
 (Be ao0).bind fun x8=>bif (ao0.why==(0:Int)) then (bif (x8.kind==(1:Int)) then (HK (x8.text==a1)) else (bif (x8.kind==(3:Int)) then (HK (x8.text==a1)) else (HK false))) else (HK false)
def B4(ao0:AC)(a1:Bts):Option (Bool×AC):=
 (Br ao0 a1).bind fun x8=>bif (!x8) then (some (false,ao0)) else (some (true,(AC.mk ao0.marks (i64.wrap (ao0.at_+(1:Int))) ao0.why ao0.where_ (Ai.mk ao0.l.text ao0.l.funcs ao0.l.arity ao0.l.nest) ao0.nest)))
def BA(ao0:AC)(a1:Bts):Option (AC):=
 (B4 ao0 a1).bind fun x8=>bif (!x8.1) then ((B3 x8.2 (21:Int)).bind fun x24=>some x24) else (some x8.2)
def DM(self1:Int→(List Aj)→Int→Int→Int→Int→Int→Int→Int→Int→Option (Int×AC))(x69:Int)(x70:(List Aj))(x74 x75 x76 x77 x78 x79 x80 x81:Int):Option (Int×AC):=
 bif (decide (x69< (([([78]:List UInt8),([66]:List UInt8),([76]:List UInt8)]:List Bts).length:Int))) then ((idx ([([78]:List UInt8),([66]:List UInt8),([76]:List UInt8)]:List Bts) x69).bind fun x148=>(B4 (AC.mk x70 x74 x75 x76 (Ai.mk x77 x78 x79 x80) x81) x148).bind fun x160=>bif x160.1 then (some ((i64.wrap (x69+(1:Int))),x160.2)) else (self1 (i64.wrap (x69+(1:Int))) x160.2.marks x160.2.at_ x160.2.why x160.2.where_ x160.2.l.text x160.2.l.funcs x160.2.l.arity x160.2.l.nest x160.2.nest)) else ((B3 (AC.mk x70 x74 x75 x76 (Ai.mk x77 x78 x79 x80) x81) (21:Int)).bind fun x176=>some ((0:Int),x176))
def CM:Nat→Int→(List Aj)→Int→Int→Int→Int→Int→Int→Int→Int→Option (Int×AC)
 |0=>fun _ _ _ _ _ _ _ _ _ _=>none
 |k+1=>DM (CM k)
def CN(N:Nat)(ao0:AC):Option (Int×AC):=
 CM N (0:Int) ao0.marks ao0.at_ ao0.why ao0.where_ ao0.l.text ao0.l.funcs ao0.l.arity ao0.l.nest ao0.nest
def I5(a0:Int)(a1 a2:AE)(a3:Aj):Option (AE):=
 some (AE.mk a0 ([]:List UInt8) ([]:List UInt8) (0:Int) ((0,0):Nat×Nat) ([a1,a2]:List AE) a3.at_)
def H2(a0:Bts):Option (Int):=
 bif (a0==([116,114,117,101]:List UInt8)) then (some (2:Int)) else (bif (a0==([102,97,108,115,101]:List UInt8)) then (some (3:Int)) else (bif (a0==([110,105,108]:List UInt8)) then (some (4:Int)) else (bif (a0==([102,97,105,108]:List UInt8)) then (some (5:Int)) else (bif (a0==([110,111,116]:List UInt8)) then (some (14:Int)) else (bif (a0==([114,101]:List UInt8)) then (some (15:Int)) else (bif (a0==([105,109]:List UInt8)) then (some (16:Int)) else (bif (a0==([99,111,110,106]:List UInt8)) then (some (17:Int)) else (some (0:Int)))))))))
structure AB where
 ref04_reader_expr:AC→Option (AE×AC)
 ref04_reader_cons:AC→Option (AE×AC)
 ref04_reader_parts:AC→(List Bts)→Option ((List AE)×AC)
 ref04_reader_branches:AC→AE→Option (AC×AE)
 ref04_reader_comp:AC→Option (AE×AC)
 ref04_reader_sum:AC→Option (AE×AC)
 ref04_reader_term:AC→Option (AE×AC)
 ref04_reader_unit:AC→Option (AE×AC)
 ref04_reader_named:AC→Aj→Option (AE×AC)
def Hh(x384:(List Aj))(x388 x389 x390 x391 x392 x393 x394 x396:Int)(x397 x398:Bts)(x399:Int)(x400:(Nat×Nat))(x401:(List AE))(x405 x422:Int):Option (AE×AC):=
 some ((AE.mk x396 x397 x398 x399 x400 x401 x405),(AC.mk x384 x388 x389 x390 (Ai.mk x391 x392 x393 x394) x422))
def E8(x56:Bool)(x384:(List Aj))(x388 x389 x390 x391 x392 x393 x394 x395 x396:Int)(x397 x398:Bts)(x399:Int)(x400:(Nat×Nat))(x401:(List AE))(x405:Int):Option (AE×AC):=
 bif x56 then (Hh x384 x388 x389 x390 x391 x392 x393 x394 x396 x397 x398 x399 x400 x401 x405 (i64.wrap (x395 - (1:Int)))) else (Hh x384 x388 x389 x390 x391 x392 x393 x394 x396 x397 x398 x399 x400 x401 x405 x395)
def Dp(φ:AB)(N:Nat)(x16:Aj)(x56:Bool)(x90:(List Aj))(x94 x95 x96 x97 x98 x99 x100 x167 x532:Int):Option (AE×AC):=
 (CK (AC.mk x90 (i64.wrap (x94+(1:Int))) x95 x96 (Ai.mk x97 x98 x99 x100) x167)).bind fun x540=>(CN N x540.2).bind fun x574=>(φ.ref04_reader_parts x574.2 ([([61]:List UInt8),([105,110]:List UInt8)]:List Bts)).bind fun x610=>E8 x56 x610.2.marks x610.2.at_ x610.2.why x610.2.where_ x610.2.l.text x610.2.l.funcs x610.2.l.arity x610.2.l.nest x610.2.nest x532 x540.1.text ([]:List UInt8) x574.1 ((0,0):Nat×Nat) x610.1 x16.at_
def Dq(φ:AB)(N:Nat)(x16:Aj)(x56:Bool)(x90:(List Aj))(x94 x95 x96 x97 x98 x99 x100 x167:Int):Option (AE×AC):=
 bif (x16.text==([105,102]:List UInt8)) then ((φ.ref04_reader_parts (AC.mk x90 (i64.wrap (x94+(1:Int))) x95 x96 (Ai.mk x97 x98 x99 x100) x167) ([([]:List UInt8),([116,104,101,110]:List UInt8),([101,108,115,101]:List UInt8)]:List Bts)).bind fun x465=>E8 x56 x465.2.marks x465.2.at_ x465.2.why x465.2.where_ x465.2.l.text x465.2.l.funcs x465.2.l.arity x465.2.l.nest x465.2.nest (19:Int) ([]:List UInt8) ([]:List UInt8) (0:Int) ((0,0):Nat×Nat) x465.1 x16.at_) else (bif (x16.text==([99,97,115,101]:List UInt8)) then ((φ.ref04_reader_branches (AC.mk x90 (i64.wrap (x94+(1:Int))) x95 x96 (Ai.mk x97 x98 x99 x100) x167) (AE.mk (0:Int) ([]:List UInt8) ([]:List UInt8) (0:Int) ((0,0):Nat×Nat) [] x16.at_)).bind fun x497=>E8 x56 x497.1.marks x497.1.at_ x497.1.why x497.1.where_ x497.1.l.text x497.1.l.funcs x497.1.l.arity x497.1.l.nest x497.1.nest x497.2.op x497.2.name x497.2.tail x497.2.type_ x497.2.num x497.2.args x497.2.at_) else (bif (x16.text==([115,116,114,105,99,116]:List UInt8)) then (Dp φ N x16 x56 x90 x94 x95 x96 x97 x98 x99 x100 x167 (22:Int)) else (Dp φ N x16 x56 x90 x94 x95 x96 x97 x98 x99 x100 x167 (21:Int))))
def Dr(φ:AB)(N:Nat)(x16:Aj)(x56:Bool)(x90:(List Aj))(x94 x95 x96 x97 x98 x99 x100 x101:Int)(x123:Bool):Option (AE×AC):=
 bif x123 then ((φ.ref04_reader_cons (AC.mk x90 x94 x95 x96 (Ai.mk x97 x98 x99 x100) x101)).bind fun x130=>some (x130.1,x130.2)) else (bif x56 then (Dq φ N x16 x56 x90 x94 x95 x96 x97 x98 x99 x100 (i64.wrap (x101+(1:Int)))) else (Dq φ N x16 x56 x90 x94 x95 x96 x97 x98 x99 x100 x101))
def Ds(φ:AB)(N:Nat)(x16:Aj)(x56:Bool)(x90:(List Aj))(x94 x95 x96 x97 x98 x99 x100 x101:Int):Option (AE×AC):=
 bif (x95 != (0:Int)) then (some ((AE.mk (0:Int) ([]:List UInt8) ([]:List UInt8) (0:Int) ((0,0):Nat×Nat) [] (0:Int)),(AC.mk x90 x94 x95 x96 (Ai.mk x97 x98 x99 x100) x101))) else (bif (!x56) then ((Br (AC.mk x90 x94 x95 x96 (Ai.mk x97 x98 x99 x100) x101) ([105,102]:List UInt8)).bind fun x653=>Dr φ N x16 x56 x90 x94 x95 x96 x97 x98 x99 x100 x101 (!x653)) else (Dr φ N x16 x56 x90 x94 x95 x96 x97 x98 x99 x100 x101 false))
def Dt(φ:AB)(N:Nat)(ao0:AC)(x16:Aj)(x56 x662:Bool):Option (AE×AC):=
 bif x662 then ((B3 ao0 (23:Int)).bind fun x669=>Ds φ N x16 x56 x669.marks x669.at_ x669.why x669.where_ x669.l.text x669.l.funcs x669.l.arity x669.l.nest x669.nest) else (Ds φ N x16 x56 ao0.marks ao0.at_ ao0.why ao0.where_ ao0.l.text ao0.l.funcs ao0.l.arity ao0.l.nest ao0.nest)
def DN(φ:AB)(N:Nat)(ao0:AC)(x16:Aj)(x56:Bool):Option (AE×AC):=
 bif x56 then (Dt φ N ao0 x16 x56 (decide (ao0.nest≥ao0.l.nest))) else (Dt φ N ao0 x16 x56 false)
def C9(φ:AB)(N:Nat)(ao0:AC):Option (AE×AC):=
 (Be ao0).bind fun x16=>(Br ao0 ([108,101,116]:List UInt8)).bind fun x692=>bif x692 then (DN φ N ao0 x16 true) else ((Br ao0 ([115,116,114,105,99,116]:List UInt8)).bind fun x700=>bif x700 then (DN φ N ao0 x16 true) else ((Br ao0 ([99,97,115,101]:List UInt8)).bind fun x708=>DN φ N ao0 x16 x708))
def DA(φ:AB)(_N:Nat)(ao0:AC):Option (AE×AC):=
 (φ.ref04_reader_comp ao0).bind fun x16=>(Be x16.2).bind fun x52=>(B4 x16.2 ([58]:List UInt8)).bind fun x71=>bif (!x71.1) then (some (x16.1,x71.2)) else ((φ.ref04_reader_cons x71.2).bind fun x97=>(I5 (18:Int) x16.1 x97.1 x52).bind fun x135=>some (x135,x97.2))
def DZ(φ:AB)(x175:(List AE))(x179:Int)(self1:((List AE)→Int→(List Aj)→Int→Int→Int→Int→Int→Int→Int→Int→Option ((List AE)×AC)))(x398:(List Aj))(x402 x403 x404 x405 x406 x407 x408 x409:Int):Option ((List AE)×AC):=
 (φ.ref04_reader_expr (AC.mk x398 x402 x403 x404 (Ai.mk x405 x406 x407 x408) x409)).bind fun x417=>(HF 96 x175 ([x417.1]:List AE)).bind fun _=>self1 (x175++([x417.1]:List AE)) (i64.wrap (x179+(1:Int))) x417.2.marks x417.2.at_ x417.2.why x417.2.where_ x417.2.l.text x417.2.l.funcs x417.2.l.arity x417.2.l.nest x417.2.nest
def Ch(φ:AB)(a1:(List Bts))(self1:(List AE)→Int→(List Aj)→Int→Int→Int→Int→Int→Int→Int→Int→Option ((List AE)×AC))(x175:(List AE))(x179:Int)(x180:(List Aj))(x184 x185 x186 x187 x188 x189 x190 x191:Int):Option ((List AE)×AC):=
 bif (decide (x179< (a1.length:Int))) then ((idx a1 x179).bind fun x476=>bif (!(x476==([]:List UInt8))) then ((BA (AC.mk x180 x184 x185 x186 (Ai.mk x187 x188 x189 x190) x191) x476).bind fun x489=>DZ φ x175 x179 self1 x489.marks x489.at_ x489.why x489.where_ x489.l.text x489.l.funcs x489.l.arity x489.l.nest x489.nest) else (DZ φ x175 x179 self1 x180 x184 x185 x186 x187 x188 x189 x190 x191)) else (some (x175,(AC.mk x180 x184 x185 x186 (Ai.mk x187 x188 x189 x190) x191)))
def Bu(φ:AB)(a1:(List Bts)):Nat→(List AE)→Int→(List Aj)→Int→Int→Int→Int→Int→Int→Int→Int→Option ((List AE)×AC)
 |0=>fun _ _ _ _ _ _ _ _ _ _ _=>none
 |k+1=>Ch φ a1 (Bu φ a1 k)
def Cl(φ:AB)(N:Nat)(ao0:AC)(a1:(List Bts)):Option ((List AE)×AC):=
 Bu φ a1 N ([]:List AE) (0:Int) ao0.marks ao0.at_ ao0.why ao0.where_ ao0.l.text ao0.l.funcs ao0.l.arity ao0.l.nest ao0.nest
def CA(φ:AB)(_N:Nat)(ao0:AC)(ao1:AE):Option (AC×AE):=
 (φ.ref04_reader_expr ao0).bind fun x21=>(BA x21.2 ([111,102]:List UInt8)).bind fun x57=>(BA x57 ([110,105,108]:List UInt8)).bind fun x72=>(BA x72 ([45,62]:List UInt8)).bind fun x87=>(φ.ref04_reader_expr x87).bind fun x102=>(BA x102.2 ([124]:List UInt8)).bind fun x138=>(CK x138).bind fun x153=>(BA x153.2 ([58]:List UInt8)).bind fun x182=>(CK x182).bind fun x197=>(BA x197.2 ([45,62]:List UInt8)).bind fun x226=>(φ.ref04_reader_expr x226).bind fun x241=>some (x241.2,(AE.mk (20:Int) x153.1.text x197.1.text ao1.type_ ao1.num ([x21.1,x102.1,x241.1]:List AE) ao1.at_))
def EQ(φ:AB)(x16:(AE×AC))(x52:Aj)(x77:Int)(x114:Bool)(x115:(List Aj))(x119 x120 x121 x122 x123 x124 x125 x126:Int):Option (AE×AC):=
 bif x114 then (some (x16.1,(AC.mk x115 x119 x120 x121 (Ai.mk x122 x123 x124 x125) x126))) else ((φ.ref04_reader_sum (AC.mk x115 x119 x120 x121 (Ai.mk x122 x123 x124 x125) x126)).bind fun x145=>(I5 x77 x16.1 x145.1 x52).bind fun x183=>some (x183,x145.2))
def Du(φ:AB)(x16:(AE×AC))(x52:Aj)(x77:Int):Option (AE×AC):=
 (B4 x16.2 ([61,61]:List UInt8)).bind fun x206=>bif (!x206.1) then ((B4 x206.2 ([60]:List UInt8)).bind fun x222=>EQ φ x16 x52 x77 (!x222.1) x222.2.marks x222.2.at_ x222.2.why x222.2.where_ x222.2.l.text x222.2.l.funcs x222.2.l.arity x222.2.l.nest x222.2.nest) else (EQ φ x16 x52 x77 false x206.2.marks x206.2.at_ x206.2.why x206.2.where_ x206.2.l.text x206.2.l.funcs x206.2.l.arity x206.2.l.nest x206.2.nest)
def DB(φ:AB)(_N:Nat)(ao0:AC):Option (AE×AC):=
 (φ.ref04_reader_sum ao0).bind fun x16=>(Be x16.2).bind fun x52=>(Br x16.2 ([60]:List UInt8)).bind fun x239=>bif x239 then (Du φ x16 x52 (13:Int)) else (Du φ x16 x52 (12:Int))
def EB(x212:Int)(x213 x214:Bts)(x215:Int)(x216:(Nat×Nat))(x217:(List AE))(x221:Int)(self1:((List Aj)→Int→Int→Int→Int→Int→Int→Int→Int→Int→Bts→Bts→Int→(Nat×Nat)→(List AE)→Int→Option (AE×AC)))(x408:Aj)(x431:(AE×AC))(x467:Int):Option (AE×AC):=
 (I5 x467 (AE.mk x212 x213 x214 x215 x216 x217 x221) x431.1 x408).bind fun x476=>self1 x431.2.marks x431.2.at_ x431.2.why x431.2.where_ x431.2.l.text x431.2.l.funcs x431.2.l.arity x431.2.l.nest x431.2.nest x476.op x476.name x476.tail x476.type_ x476.num x476.args x476.at_
def EC(φ:AB)(x200:(List Aj))(x204 x205 x206 x207 x208 x209 x210 x211 x212:Int)(x213 x214:Bts)(x215:Int)(x216:(Nat×Nat))(x217:(List AE))(x221:Int)(self1:((List Aj)→Int→Int→Int→Int→Int→Int→Int→Int→Int→Bts→Bts→Int→(Nat×Nat)→(List AE)→Int→Option (AE×AC)))(x401:Bool):Option (AE×AC):=
 bif x401 then ((Be (AC.mk x200 x204 x205 x206 (Ai.mk x207 x208 x209 x210) x211)).bind fun x408=>(φ.ref04_reader_term (AC.mk x200 (i64.wrap (x204+(1:Int))) x205 x206 (Ai.mk x207 x208 x209 x210) x211)).bind fun x431=>bif (x408.text==([45]:List UInt8)) then (EB x212 x213 x214 x215 x216 x217 x221 self1 x408 x431 (9:Int)) else (EB x212 x213 x214 x215 x216 x217 x221 self1 x408 x431 (8:Int))) else (some ((AE.mk x212 x213 x214 x215 x216 x217 x221),(AC.mk x200 x204 x205 x206 (Ai.mk x207 x208 x209 x210) x211)))
def DO(φ:AB)(self1:(List Aj)→Int→Int→Int→Int→Int→Int→Int→Int→Int→Bts→Bts→Int→(Nat×Nat)→(List AE)→Int→Option (AE×AC))(x200:(List Aj))(x204 x205 x206 x207 x208 x209 x210 x211 x212:Int)(x213 x214:Bts)(x215:Int)(x216:(Nat×Nat))(x217:(List AE))(x221:Int):Option (AE×AC):=
 (Br (AC.mk x200 x204 x205 x206 (Ai.mk x207 x208 x209 x210) x211) ([43]:List UInt8)).bind fun x509=>bif x509 then (EC φ x200 x204 x205 x206 x207 x208 x209 x210 x211 x212 x213 x214 x215 x216 x217 x221 self1 true) else ((Br (AC.mk x200 x204 x205 x206 (Ai.mk x207 x208 x209 x210) x211) ([45]:List UInt8)).bind fun x517=>EC φ x200 x204 x205 x206 x207 x208 x209 x210 x211 x212 x213 x214 x215 x216 x217 x221 self1 x517)
def B1(φ:AB):Nat→(List Aj)→Int→Int→Int→Int→Int→Int→Int→Int→Int→Bts→Bts→Int→(Nat×Nat)→(List AE)→Int→Option (AE×AC)
 |0=>fun _ _ _ _ _ _ _ _ _ _ _ _ _ _ _ _=>none
 |k+1=>DO φ (B1 φ k)
def DX(φ:AB)(N:Nat)(ao0:AC):Option (AE×AC):=
 (φ.ref04_reader_term ao0).bind fun x16=>B1 φ N x16.2.marks x16.2.at_ x16.2.why x16.2.where_ x16.2.l.text x16.2.l.funcs x16.2.l.arity x16.2.l.nest x16.2.nest x16.1.op x16.1.name x16.1.tail x16.1.type_ x16.1.num x16.1.args x16.1.at_
def Dv(x212:Int)(x213 x214:Bts)(x215:Int)(x216:(Nat×Nat))(x217:(List AE))(x221:Int)(self1:((List Aj)→Int→Int→Int→Int→Int→Int→Int→Int→Int→Bts→Bts→Int→(Nat×Nat)→(List AE)→Int→Option (AE×AC)))(x408:Aj)(x431:(AE×AC))(x467:Int):Option (AE×AC):=
 (I5 x467 (AE.mk x212 x213 x214 x215 x216 x217 x221) x431.1 x408).bind fun x476=>self1 x431.2.marks x431.2.at_ x431.2.why x431.2.where_ x431.2.l.text x431.2.l.funcs x431.2.l.arity x431.2.l.nest x431.2.nest x476.op x476.name x476.tail x476.type_ x476.num x476.args x476.at_
def Dw(φ:AB)(x200:(List Aj))(x204 x205 x206 x207 x208 x209 x210 x211 x212:Int)(x213 x214:Bts)(x215:Int)(x216:(Nat×Nat))(x217:(List AE))(x221:Int)(self1:((List Aj)→Int→Int→Int→Int→Int→Int→Int→Int→Int→Bts→Bts→Int→(Nat×Nat)→(List AE)→Int→Option (AE×AC)))(x401:Bool):Option (AE×AC):=
 bif x401 then ((Be (AC.mk x200 x204 x205 x206 (Ai.mk x207 x208 x209 x210) x211)).bind fun x408=>(φ.ref04_reader_unit (AC.mk x200 (i64.wrap (x204+(1:Int))) x205 x206 (Ai.mk x207 x208 x209 x210) x211)).bind fun x431=>bif (x408.text==([47]:List UInt8)) then (Dv x212 x213 x214 x215 x216 x217 x221 self1 x408 x431 (11:Int)) else (Dv x212 x213 x214 x215 x216 x217 x221 self1 x408 x431 (10:Int))) else (some ((AE.mk x212 x213 x214 x215 x216 x217 x221),(AC.mk x200 x204 x205 x206 (Ai.mk x207 x208 x209 x210) x211)))
def Cz(φ:AB)(self1:(List Aj)→Int→Int→Int→Int→Int→Int→Int→Int→Int→Bts→Bts→Int→(Nat×Nat)→(List AE)→Int→Option (AE×AC))(x200:(List Aj))(x204 x205 x206 x207 x208 x209 x210 x211 x212:Int)(x213 x214:Bts)(x215:Int)(x216:(Nat×Nat))(x217:(List AE))(x221:Int):Option (AE×AC):=
 (Br (AC.mk x200 x204 x205 x206 (Ai.mk x207 x208 x209 x210) x211) ([42]:List UInt8)).bind fun x509=>bif x509 then (Dw φ x200 x204 x205 x206 x207 x208 x209 x210 x211 x212 x213 x214 x215 x216 x217 x221 self1 true) else ((Br (AC.mk x200 x204 x205 x206 (Ai.mk x207 x208 x209 x210) x211) ([47]:List UInt8)).bind fun x517=>Dw φ x200 x204 x205 x206 x207 x208 x209 x210 x211 x212 x213 x214 x215 x216 x217 x221 self1 x517)
def Bt(φ:AB):Nat→(List Aj)→Int→Int→Int→Int→Int→Int→Int→Int→Int→Bts→Bts→Int→(Nat×Nat)→(List AE)→Int→Option (AE×AC)
 |0=>fun _ _ _ _ _ _ _ _ _ _ _ _ _ _ _ _=>none
 |k+1=>Cz φ (Bt φ k)
def DC(φ:AB)(N:Nat)(ao0:AC):Option (AE×AC):=
 (φ.ref04_reader_unit ao0).bind fun x16=>Bt φ N x16.2.marks x16.2.at_ x16.2.why x16.2.where_ x16.2.l.text x16.2.l.funcs x16.2.l.arity x16.2.l.nest x16.2.nest x16.1.op x16.1.name x16.1.tail x16.1.type_ x16.1.num x16.1.args x16.1.at_
def GC(x247:Int)(x248 x249:Bts)(x251:(Nat×Nat))(x252:Int)(x377:(List Aj))(x381 x382 x383 x384 x385 x386 x387 x388 x389:Int)(x390:(List AE)):Option (AE×AC):=
 some ((AE.mk x247 x248 x249 x389 x251 x390 x252),(AC.mk x377 x381 x382 x383 (Ai.mk x384 x385 x386 x387) x388))
def CS(φ:AB)(x94:(Bool×AC))(x247:Int)(x248 x249:Bts)(x250:Int)(x251:(Nat×Nat))(x252:Int)(x446:Bool):Option (AE×AC):=
 bif x446 then ((BA (AC.mk x94.2.marks (i64.wrap (x94.2.at_+(1:Int))) x94.2.why x94.2.where_ (Ai.mk x94.2.l.text x94.2.l.funcs x94.2.l.arity x94.2.l.nest) x94.2.nest) ([40]:List UInt8)).bind fun x453=>(φ.ref04_reader_expr x453).bind fun x468=>(BA x468.2 ([41]:List UInt8)).bind fun x504=>GC x247 x248 x249 x251 x252 x504.marks x504.at_ x504.why x504.where_ x504.l.text x504.l.funcs x504.l.arity x504.l.nest x504.nest x250 ([x468.1]:List AE)) else (GC x247 x248 x249 x251 x252 x94.2.marks (i64.wrap (x94.2.at_+(1:Int))) x94.2.why x94.2.where_ x94.2.l.text x94.2.l.funcs x94.2.l.arity x94.2.l.nest x94.2.nest x250 ([]:List AE))
def E9(φ:AB)(N:Nat)(x94:(Bool×AC))(x247:Int)(x248 x249:Bts)(x250:Int)(x251:(Nat×Nat))(x252:Int):Option (AE×AC):=
 bif (x247==(5:Int)) then ((CN N (AC.mk x94.2.marks (i64.wrap (x94.2.at_+(1:Int))) x94.2.why x94.2.where_ (Ai.mk x94.2.l.text x94.2.l.funcs x94.2.l.arity x94.2.l.nest) x94.2.nest)).bind fun x421=>GC x247 x248 x249 x251 x252 x421.2.marks x421.2.at_ x421.2.why x421.2.where_ x421.2.l.text x421.2.l.funcs x421.2.l.arity x421.2.l.nest x421.2.nest x421.1 ([]:List AE)) else (bif (x247==(14:Int)) then (CS φ x94 x247 x248 x249 x250 x251 x252 (x247==(14:Int))) else (bif (x247==(15:Int)) then (CS φ x94 x247 x248 x249 x250 x251 x252 (x247==(15:Int))) else (bif (x247==(16:Int)) then (CS φ x94 x247 x248 x249 x250 x251 x252 (x247==(16:Int))) else (CS φ x94 x247 x248 x249 x250 x251 x252 (x247==(17:Int))))))
def DP(φ:AB)(N:Nat)(x16:Aj)(x94:(Bool×AC))(x178:Bool):Option (AE×AC):=
 bif x178 then ((B3 x94.2 (21:Int)).bind fun x185=>some ((AE.mk (0:Int) ([]:List UInt8) ([]:List UInt8) (0:Int) ((0,0):Nat×Nat) [] (0:Int)),x185)) else ((H2 x16.text).bind fun x548=>E9 φ N x94 x548 ([]:List UInt8) ([]:List UInt8) (0:Int) ((0,0):Nat×Nat) x16.at_)
def DD(φ:AB)(N:Nat)(ao0:AC):Option (AE×AC):=
 (Be ao0).bind fun x16=>bif (ao0.why != (0:Int)) then (some ((AE.mk (0:Int) ([]:List UInt8) ([]:List UInt8) (0:Int) ((0,0):Nat×Nat) [] (0:Int)),ao0)) else (bif (x16.kind==(2:Int)) then (some ((AE.mk (1:Int) ([]:List UInt8) ([]:List UInt8) (0:Int) x16.num [] x16.at_),(AC.mk ao0.marks (i64.wrap (ao0.at_+(1:Int))) ao0.why ao0.where_ (Ai.mk ao0.l.text ao0.l.funcs ao0.l.arity ao0.l.nest) ao0.nest))) else (bif (x16.kind==(0:Int)) then ((φ.ref04_reader_named (AC.mk ao0.marks (i64.wrap (ao0.at_+(1:Int))) ao0.why ao0.where_ (Ai.mk ao0.l.text ao0.l.funcs ao0.l.arity ao0.l.nest) ao0.nest) x16).bind fun x62=>some (x62.1,x62.2)) else ((B4 ao0 ([40]:List UInt8)).bind fun x94=>bif x94.1 then ((φ.ref04_reader_expr x94.2).bind fun x110=>(BA x110.2 ([41]:List UInt8)).bind fun x146=>some (x110.1,x146)) else (bif (x16.kind != (1:Int)) then (DP φ N x16 x94 true) else ((H2 x16.text).bind fun x581=>DP φ N x16 x94 (x581==(0:Int)))))))
def Da(φ:AB)(x231:(List AE))(self1:((List Aj)→Int→Int→Int→Int→Int→Int→Int→Int→(List AE)→Option (AE×AC)))(x455:(List Aj))(x459 x460 x461 x462 x463 x464 x465 x466:Int):Option (AE×AC):=
 (φ.ref04_reader_expr (AC.mk x455 x459 x460 x461 (Ai.mk x462 x463 x464 x465) x466)).bind fun x474=>(HF 96 x231 ([x474.1]:List AE)).bind fun _=>self1 x474.2.marks x474.2.at_ x474.2.why x474.2.where_ x474.2.l.text x474.2.l.funcs x474.2.l.arity x474.2.l.nest x474.2.nest (x231++([x474.1]:List AE))
def Db(φ:AB)(a1:Aj)(x219:(List Aj))(x223 x224 x225 x226 x227 x228 x229 x230:Int)(x231:(List AE))(self1:((List Aj)→Int→Int→Int→Int→Int→Int→Int→Int→(List AE)→Option (AE×AC)))(x427:Bool):Option (AE×AC):=
 bif x427 then (bif (decide ((x231.length:Int)>(0:Int))) then ((BA (AC.mk x219 x223 x224 x225 (Ai.mk x226 x227 x228 x229) x230) ([44]:List UInt8)).bind fun x548=>Da φ x231 self1 x548.marks x548.at_ x548.why x548.where_ x548.l.text x548.l.funcs x548.l.arity x548.l.nest x548.nest) else (Da φ x231 self1 x219 x223 x224 x225 x226 x227 x228 x229 x230)) else ((BA (AC.mk x219 x223 x224 x225 (Ai.mk x226 x227 x228 x229) x230) ([41]:List UInt8)).bind fun x567=>some ((AE.mk (7:Int) a1.text ([]:List UInt8) (0:Int) ((0,0):Nat×Nat) x231 a1.at_),x567))
def Ci(φ:AB)(a1:Aj)(self1:(List Aj)→Int→Int→Int→Int→Int→Int→Int→Int→(List AE)→Option (AE×AC))(x219:(List Aj))(x223 x224 x225 x226 x227 x228 x229 x230:Int)(x231:(List AE)):Option (AE×AC):=
 bif (x224==(0:Int)) then ((Br (AC.mk x219 x223 x224 x225 (Ai.mk x226 x227 x228 x229) x230) ([41]:List UInt8)).bind fun x598=>Db φ a1 x219 x223 x224 x225 x226 x227 x228 x229 x230 x231 self1 (!x598)) else (Db φ a1 x219 x223 x224 x225 x226 x227 x228 x229 x230 x231 self1 false)
def Bl(φ:AB)(a1:Aj):Nat→(List Aj)→Int→Int→Int→Int→Int→Int→Int→Int→(List AE)→Option (AE×AC)
 |0=>fun _ _ _ _ _ _ _ _ _ _=>none
 |k+1=>Ci φ a1 (Bl φ a1 k)
def Cm(φ:AB)(N:Nat)(ao0:AC)(a1:Aj):Option (AE×AC):=
 (B4 ao0 ([40]:List UInt8)).bind fun x22=>bif (!x22.1) then (some ((AE.mk (6:Int) a1.text ([]:List UInt8) (0:Int) ((0,0):Nat×Nat) [] a1.at_),x22.2)) else (Bl φ a1 N x22.2.marks x22.2.at_ x22.2.why x22.2.where_ x22.2.l.text x22.2.l.funcs x22.2.l.arity x22.2.l.nest x22.2.nest ([]:List AE))
def AB.at:Nat→AB
 |0=>⟨fun _=>none,fun _=>none,fun _ _=>none,fun _ _=>none,fun _=>none,fun _=>none,fun _=>none,fun _=>none,fun _ _=>none⟩
 |n+1=>⟨C9 (AB.at n) n,DA (AB.at n) n,Cl (AB.at n) n,CA (AB.at n) n,DB (AB.at n) n,DX (AB.at n) n,DC (AB.at n) n,DD (AB.at n) n,Cm (AB.at n) n⟩
def ref04_reader_expr(N:Nat):AC→Option (AE×AC):=(AB.at N).ref04_reader_expr
def ref04_reader_cons(N:Nat):AC→Option (AE×AC):=(AB.at N).ref04_reader_cons
def ref04_reader_parts(N:Nat):AC→(List Bts)→Option ((List AE)×AC):=(AB.at N).ref04_reader_parts
def ref04_reader_branches(N:Nat):AC→AE→Option (AC×AE):=(AB.at N).ref04_reader_branches
def ref04_reader_comp(N:Nat):AC→Option (AE×AC):=(AB.at N).ref04_reader_comp
def ref04_reader_sum(N:Nat):AC→Option (AE×AC):=(AB.at N).ref04_reader_sum
def ref04_reader_term(N:Nat):AC→Option (AE×AC):=(AB.at N).ref04_reader_term
def ref04_reader_unit(N:Nat):AC→Option (AE×AC):=(AB.at N).ref04_reader_unit
def ref04_reader_named(N:Nat):AC→Aj→Option (AE×AC):=(AB.at N).ref04_reader_named
def ED(N:Nat)(x432:(List AJ))(self1:((List Aj)→Int→Int→Int→Int→Int→Int→Int→Int→(List AJ)→Option (AO×AC)))(x868:(List Aj))(x872 x873 x874 x875 x876 x877 x878 x879:Int):Option (AO×AC):=
 (CK (AC.mk x868 x872 x873 x874 (Ai.mk x875 x876 x877 x878) x879)).bind fun x887=>(CN N x887.2).bind fun x916=>(HF 32 x432 ([(AJ.mk x887.1.text x916.1 x887.1.at_)]:List AJ)).bind fun _=>self1 x916.2.marks x916.2.at_ x916.2.why x916.2.where_ x916.2.l.text x916.2.l.funcs x916.2.l.arity x916.2.l.nest x916.2.nest (x432++([(AJ.mk x887.1.text x916.1 x887.1.at_)]:List AJ))
def Df(N:Nat)(x432:(List AJ))(self1:((List Aj)→Int→Int→Int→Int→Int→Int→Int→Int→(List AJ)→Option (AO×AC)))(x795:(List Aj))(x799 x800 x801 x802 x803 x804 x805 x806:Int)(x979:Bool):Option (AO×AC):=
 bif x979 then ((B3 (AC.mk x795 x799 x800 x801 (Ai.mk x802 x803 x804 x805) x806) (22:Int)).bind fun x986=>ED N x432 self1 x986.marks x986.at_ x986.why x986.where_ x986.l.text x986.l.funcs x986.l.arity x986.l.nest x986.nest) else (ED N x432 self1 x795 x799 x800 x801 x802 x803 x804 x805 x806)
def EE(N:Nat)(x432:(List AJ))(self1:((List Aj)→Int→Int→Int→Int→Int→Int→Int→Int→(List AJ)→Option (AO×AC)))(x795:(List Aj))(x799 x800 x801 x802 x803 x804 x805 x806:Int):Option (AO×AC):=
 bif (x800==(0:Int)) then ((Be (AC.mk x795 x799 x800 x801 (Ai.mk x802 x803 x804 x805) x806)).bind fun x1008=>bif (x1008.kind==(0:Int)) then (Df N x432 self1 x795 x799 x800 x801 x802 x803 x804 x805 x806 (decide ((x432.length:Int)≥x804))) else (Df N x432 self1 x795 x799 x800 x801 x802 x803 x804 x805 x806 false)) else (Df N x432 self1 x795 x799 x800 x801 x802 x803 x804 x805 x806 false)
def Dg(N:Nat)(x77:(Aj×AC))(x420:(List Aj))(x424 x425 x426 x427 x428 x429 x430 x431:Int)(x432:(List AJ))(self1:((List Aj)→Int→Int→Int→Int→Int→Int→Int→Int→(List AJ)→Option (AO×AC)))(x767:Bool):Option (AO×AC):=
 bif x767 then (bif (decide ((x432.length:Int)>(0:Int))) then ((BA (AC.mk x420 x424 x425 x426 (Ai.mk x427 x428 x429 x430) x431) ([44]:List UInt8)).bind fun x1027=>EE N x432 self1 x1027.marks x1027.at_ x1027.why x1027.where_ x1027.l.text x1027.l.funcs x1027.l.arity x1027.l.nest x1027.nest) else (EE N x432 self1 x420 x424 x425 x426 x427 x428 x429 x430 x431)) else ((BA (AC.mk x420 x424 x425 x426 (Ai.mk x427 x428 x429 x430) x431) ([41]:List UInt8)).bind fun x1046=>(BA x1046 ([58]:List UInt8)).bind fun x1061=>(CN N x1061).bind fun x1076=>(BA x1076.2 ([61]:List UInt8)).bind fun x1098=>(ref04_reader_expr N x1098).bind fun x1113=>(BA x1113.2 ([59]:List UInt8)).bind fun x1143=>some ((AO.mk x77.1.text x432 x1076.1 x1113.1 x77.1.at_),x1143))
def DQ(N:Nat)(x77:(Aj×AC))(self1:(List Aj)→Int→Int→Int→Int→Int→Int→Int→Int→(List AJ)→Option (AO×AC))(x420:(List Aj))(x424 x425 x426 x427 x428 x429 x430 x431:Int)(x432:(List AJ)):Option (AO×AC):=
 bif (x425==(0:Int)) then ((Br (AC.mk x420 x424 x425 x426 (Ai.mk x427 x428 x429 x430) x431) ([41]:List UInt8)).bind fun x1176=>Dg N x77 x420 x424 x425 x426 x427 x428 x429 x430 x431 x432 self1 (!x1176)) else (Dg N x77 x420 x424 x425 x426 x427 x428 x429 x430 x431 x432 self1 false)
def Bh(N:Nat)(x77:(Aj×AC)):Nat→(List Aj)→Int→Int→Int→Int→Int→Int→Int→Int→(List AJ)→Option (AO×AC)
 |0=>fun _ _ _ _ _ _ _ _ _ _=>none
 |k+1=>DQ N x77 (Bh N x77 k)
def EF(N:Nat)(x58:(List Aj))(x62 x63 x64 x65 x66 x67 x68 x69:Int):Option (AO×AC):=
 (CK (AC.mk x58 x62 x63 x64 (Ai.mk x65 x66 x67 x68) x69)).bind fun x77=>(BA x77.2 ([40]:List UInt8)).bind fun x116=>Bh N x77 N x116.marks x116.at_ x116.why x116.where_ x116.l.text x116.l.funcs x116.l.arity x116.l.nest x116.nest ([]:List AJ)
def EG(N:Nat)(ao0:AC)(x1193:Bool):Option (AO×AC):=
 bif x1193 then ((B3 ao0 (22:Int)).bind fun x1200=>EF N x1200.marks x1200.at_ x1200.why x1200.where_ x1200.l.text x1200.l.funcs x1200.l.arity x1200.l.nest x1200.nest) else (EF N ao0.marks ao0.at_ ao0.why ao0.where_ ao0.l.text ao0.l.funcs ao0.l.arity ao0.l.nest ao0.nest)
def Cv(N:Nat)(ao0:AC)(a1:Int):Option (AO×AC):=
 (Be ao0).bind fun x1219=>bif (x1219.kind==(0:Int)) then (EG N ao0 (decide (a1≥ao0.l.funcs))) else (EG N ao0 false)
def CB(N:Nat)(x142:(List Aj))(x146 x147 x148 x149 x150 x151 x152 x153:Int)(x154:(List AO))(self1:((List Aj)→Int→Int→Int→Int→Int→Int→Int→Int→(List AO)→Option (AM×AC)))(x316:Bool):Option (AM×AC):=
 bif x316 then ((Cv N (AC.mk x142 x146 x147 x148 (Ai.mk x149 x150 x151 x152) x153) (x154.length:Int)).bind fun x328=>(HF 152 x154 ([x328.1]:List AO)).bind fun _=>self1 x328.2.marks x328.2.at_ x328.2.why x328.2.where_ x328.2.l.text x328.2.l.funcs x328.2.l.arity x328.2.l.nest x328.2.nest (x154++([x328.1]:List AO))) else (some ((AM.mk x154),(AC.mk x142 x146 x147 x148 (Ai.mk x149 x150 x151 x152) x153)))
def CJ(N:Nat)(self1:(List Aj)→Int→Int→Int→Int→Int→Int→Int→Int→(List AO)→Option (AM×AC))(x142:(List Aj))(x146 x147 x148 x149 x150 x151 x152 x153:Int)(x154:(List AO)):Option (AM×AC):=
 bif (x147==(0:Int)) then (bif ((x154.length:Int)==(0:Int)) then (CB N x142 x146 x147 x148 x149 x150 x151 x152 x153 x154 self1 true) else ((Be (AC.mk x142 x146 x147 x148 (Ai.mk x149 x150 x151 x152) x153)).bind fun x422=>CB N x142 x146 x147 x148 x149 x150 x151 x152 x153 x154 self1 (x422.kind != (4:Int)))) else (CB N x142 x146 x147 x148 x149 x150 x151 x152 x153 x154 self1 false)
def Ba(N:Nat):Nat→(List Aj)→Int→Int→Int→Int→Int→Int→Int→Int→(List AO)→Option (AM×AC)
 |0=>fun _ _ _ _ _ _ _ _ _ _=>none
 |k+1=>CJ N (Ba N k)
def B5(N:Nat)(ao0:AC):Option (AM×AC):=
 Ba N N ao0.marks ao0.at_ ao0.why ao0.where_ ao0.l.text ao0.l.funcs ao0.l.arity ao0.l.nest ao0.nest ([]:List AO)
def Fk(N:Nat)(a0:Bts)(a1:Ai):Option (AM×AD):=
 bif (decide ((a0.length:Int)>(if (32768:Int)< (if a1.text< (0:Int) then (0:Int) else a1.text) then (32768:Int) else (if a1.text< (0:Int) then (0:Int) else a1.text)))) then (some ((AM.mk []),(AD.mk (22:Int) (if (32768:Int)< (if a1.text< (0:Int) then (0:Int) else a1.text) then (32768:Int) else (if a1.text< (0:Int) then (0:Int) else a1.text))))) else ((GA N a0).bind fun x54=>bif (decide (x54.2≥(0:Int))) then (some ((AM.mk []),(AD.mk (20:Int) x54.2))) else ((B5 N (AC.mk x54.1 (0:Int) (0:Int) (0:Int) (Ai.mk (if (32768:Int)< (if a1.text< (0:Int) then (0:Int) else a1.text) then (32768:Int) else (if a1.text< (0:Int) then (0:Int) else a1.text)) a1.funcs a1.arity a1.nest) (0:Int))).bind fun x85=>bif (x85.2.why != (0:Int)) then (some ((AM.mk []),(AD.mk x85.2.why x85.2.where_))) else (some (x85.1,(AD.mk (0:Int) (0:Int))))))
def Hi(x166:Int)(self1:((List Bts)→Int→Int→Option ((List Bts))))(x410:(List Bts))(x414:Int):Option ((List Bts)):=
 self1 x410 x414 (i64.wrap (x166+(1:Int)))
def Hj(x166:Int)(self1:((List Bts)→Int→Int→Option ((List Bts))))(x454:(List Bts)):Option ((List Bts)):=
 Hi x166 self1 x454 (i64.wrap (x166+(1:Int)))
def Gd(a0:Bts)(x161:(List Bts))(x165 x166:Int)(self1:((List Bts)→Int→Int→Option ((List Bts))))(x423:Bool):Option ((List Bts)):=
 bif x423 then (Hi x166 self1 x161 x165) else (bif (decide (x166>x165)) then ((sub a0 x165 x166).bind fun x464=>(HF 16 x161 ([x464]:List Bts)).bind fun _=>Hj x166 self1 (x161++([x464]:List Bts))) else (Hj x166 self1 x161))
def FQ(a0:Bts)(self1:(List Bts)→Int→Int→Option ((List Bts)))(x161:(List Bts))(x165 x166:Int):Option ((List Bts)):=
 bif (decide (x166≤(a0.length:Int))) then (bif (decide (x166< (a0.length:Int))) then ((idx a0 x166).bind fun x490=>Gd a0 x161 x165 x166 self1 (((x490).toNat:Int) != (((32:UInt8)).toNat:Int))) else (Gd a0 x161 x165 x166 self1 false)) else (some x161)
def Ec(a0:Bts):Nat→(List Bts)→Int→Int→Option ((List Bts))
 |0=>fun _ _ _=>none
 |k+1=>FQ a0 (Ec a0 k)
def GD(N:Nat)(a0:Bts):Option ((List Bts)):=
 Ec a0 N ([]:List Bts) (0:Int) (0:Int)
def HT(a0:Nat)(x6:Bool):Option (Int×Bool):=
 bif x6 then (some ((0:Int),false)) else ((f2i .i64 a0).bind fun x11=>some (x11,(feq (FloatKind.f64.nearest x11) a0)))
def H3(a0:Nat):Option (Int×Bool):=
 bif (fge a0 (13938640846711685120:Nat)) then (bif (!(fle a0 (4715268809856909312:Nat))) then (HT a0 true) else (bif (feq a0 (0:Nat)) then (HT a0 (((a0:Nat):Int) != (0:Int))) else (HT a0 false))) else (bif (!false) then (HT a0 true) else (bif (feq a0 (0:Nat)) then (HT a0 (((a0:Nat):Int) != (0:Int))) else (HT a0 false)))
def M9(x7:(Int×Bool))(x12:(Int×Bool))(x18:Bool):Option (Ad×Bool):=
 bif x18 then (some ((Ad.mk (0:Int) (0:Int)),false)) else (some ((Ad.mk x7.1 x12.1),true))
def Ey(a0:(Nat×Nat)):Option (Ad×Bool):=
 (H3 a0.1).bind fun x7=>(H3 a0.2).bind fun x12=>bif (!x7.2) then (M9 x7 x12 true) else (M9 x7 x12 (!x12.2))
def Hk(x106:Int)(self1:(Bool→Int→Option (Bool)))(x222:Bool):Option (Bool):=
 self1 x222 (i64.wrap (x106+(1:Int)))
def Jj(x262:Bool):Option (Bool):=
 some x262
def Jk(x277:Bool):Option (Bool):=
 some x277
def Jl(x289:Bool):Option (Bool):=
 some x289
def FR(a0:AG)(self1:Bool→Int→Option (Bool))(x105:Bool)(x106:Int):Option (Bool):=
 bif (decide (x106< (a0.list.length:Int))) then ((idx a0.list x106).bind fun x226=>(Ey x226).bind fun x238=>bif x105 then (Hk x106 self1 x238.2) else (Hk x106 self1 false)) else (bif (a0.type_==(1:Int)) then (bif x105 then (bif (!a0.bool) then (Jj ((a0.list.length:Int)==(0:Int))) else (Jj false)) else (Jj false)) else (bif (a0.type_==(2:Int)) then (bif x105 then (bif (ceq a0.num ((0,0):Nat×Nat)) then (Jk ((a0.list.length:Int)==(0:Int))) else (Jk false)) else (Jk false)) else (bif (a0.type_==(3:Int)) then (bif x105 then (bif (ceq a0.num ((0,0):Nat×Nat)) then (Jl (!a0.bool)) else (Jl false)) else (Jl false)) else (some false))))
def FA(a0:AG):Nat→Bool→Int→Option (Bool)
 |0=>fun _ _=>none
 |k+1=>FR a0 (FA a0 k)
def CC(N:Nat)(a0:AG):Option (Bool):=
 (Ey a0.num).bind fun x13=>FA a0 N x13.2 (0:Int)
def EV(N:Nat)(a0:(Nat×Nat)):Option (Bts):=
 (Ey a0).bind fun x1=>(F6 N x1.1).bind fun x18=>some x18
def HU(N:Nat)(a0:AG)(x133:Int)(self1:(Bts→Int→Option (Bts×Int)))(x271:Bts):Option (Bts×Int):=
 (idx a0.list x133).bind fun x281=>(EV N x281).bind fun x294=>(HF 1 x271 x294).bind fun _=>self1 (x271++x294) (i64.wrap (x133+(1:Int)))
def Fs(N:Nat)(a0:AG)(self1:Bts→Int→Option (Bts×Int))(x129:Bts)(x133:Int):Option (Bts×Int):=
 bif (decide (x133< (a0.list.length:Int))) then (bif (decide (x133>(0:Int))) then ((HF 1 x129 ([(32:UInt8)]:List UInt8)).bind fun _=>HU N a0 x133 self1 (x129++([(32:UInt8)]:List UInt8))) else (HU N a0 x133 self1 x129)) else ((Ph ([91]:List UInt8) x129).bind fun x338=>(Ph x338 ([93]:List UInt8)).bind fun x340=>some (x340,(0:Int)))
def FS(N:Nat)(a0:AG):Nat→Bts→Int→Option (Bts×Int)
 |0=>fun _ _=>none
 |k+1=>Fs N a0 (FS N a0 k)
def Ge(N:Nat)(a0:AG):Option (Bts×Int):=
 (CC N a0).bind fun x14=>bif (!x14) then (some (([]:List UInt8),(3:Int))) else (bif (a0.type_==(1:Int)) then ((EV N a0.num).bind fun x22=>some (x22,(0:Int))) else (bif (a0.type_==(2:Int)) then (bif a0.bool then (some (([116,114,117,101]:List UInt8),(0:Int))) else (some (([102,97,108,115,101]:List UInt8),(0:Int)))) else (FS N a0 N ([]:List UInt8) (0:Int))))
def FT(N:Nat)(a0:Bts)(x74:((List Bts)))(self1:Int→Int→Int→(List (Nat×Nat))→Option (AG×Int))(x192 _x193 _x194:Int)(x195:(List (Nat×Nat))):Option (AG×Int):=
 bif (decide (x192< (x74.length:Int))) then ((idx x74 x192).bind fun x328=>(Em N x328).bind fun x340=>bif (x340.2 != (0:Int)) then (some ((AG.mk (0:Int) ((0,0):Nat×Nat) false []),(11:Int))) else ((F9 x340.1).bind fun x389=>(HF 16 x195 ([x389]:List (Nat×Nat))).bind fun _=>self1 (i64.wrap (x192+(1:Int))) x340.1.re x340.1.im (x195++([x389]:List (Nat×Nat))))) else ((Ge N (AG.mk (3:Int) ((0,0):Nat×Nat) false x195)).bind fun x428=>bif (!(x428.1==a0)) then (some ((AG.mk (0:Int) ((0,0):Nat×Nat) false []),(11:Int))) else (some ((AG.mk (3:Int) ((0,0):Nat×Nat) false x195),(0:Int))))
def FB(N:Nat)(a0:Bts)(x74:((List Bts))):Nat→Int→Int→Int→(List (Nat×Nat))→Option (AG×Int)
 |0=>fun _ _ _ _=>none
 |k+1=>FT N a0 x74 (FB N a0 x74 k)
def Ft(N:Nat)(a0:Bts)(x18:(Ad×Int))(x52:Bool):Option (AG×Int):=
 bif x52 then (some ((AG.mk (0:Int) ((0,0):Nat×Nat) false []),(11:Int))) else ((sub a0 (1:Int) (i64.wrap ((a0.length:Int) - (1:Int)))).bind fun x72=>(GD N x72).bind fun x74=>FB N a0 x74 N (0:Int) x18.1.re x18.1.im ([]:List (Nat×Nat)))
def Gg(N:Nat)(a0:Bts)(x8:Bool):Option (AG×Int):=
 bif x8 then (some ((AG.mk (2:Int) ((0,0):Nat×Nat) (a0==([116,114,117,101]:List UInt8)) []),(0:Int))) else ((Em N a0).bind fun x18=>bif (x18.2==(0:Int)) then ((F9 x18.1).bind fun x36=>some ((AG.mk (1:Int) x36 false []),(0:Int))) else (bif (decide ((a0.length:Int)< (2:Int))) then (Ft N a0 x18 true) else ((idx a0 (0:Int)).bind fun x457=>bif (((x457).toNat:Int) != (((91:UInt8)).toNat:Int)) then (Ft N a0 x18 true) else ((idx a0 (i64.wrap ((a0.length:Int) - (1:Int)))).bind fun x460=>Ft N a0 x18 (((x460).toNat:Int) != (((93:UInt8)).toNat:Int))))))
def Fm(N:Nat)(a0:Bts):Option (AG×Int):=
 bif (a0==([116,114,117,101]:List UInt8)) then (Gg N a0 true) else (Gg N a0 (a0==([102,97,108,115,101]:List UInt8)))
def Hl(x340:Int)(self4:(Int→Bool→Option ((List AG)×Int)))(x386:Bool):Option ((List AG)×Int):=
 self4 (i64.wrap (x340+(1:Int))) x386
def Ed(N:Nat)(a0:Bts)(x148:(List AG))(x152:Int)(self3:((List AG)→Int→Option ((List AG)×Int)))(x340:Int)(x341:Bool)(self4:(Int→Bool→Option ((List AG)×Int)))(x378:Bool):Option ((List AG)×Int):=
 bif x378 then ((idx a0 x340).bind fun x390=>bif (((x390).toNat:Int)==(((93:UInt8)).toNat:Int)) then (Hl x340 self4 false) else (Hl x340 self4 x341)) else ((sub a0 x152 x340).bind fun x393=>(Fm N x393).bind fun x395=>bif (x395.2 != (0:Int)) then (some ([],(11:Int))) else ((HF 56 x148 ([x395.1]:List AG)).bind fun _=>self3 (x148++([x395.1]:List AG)) x340))
def FU(N:Nat)(a0:Bts)(x148:(List AG))(x152:Int)(self3:((List AG)→Int→Option ((List AG)×Int)))(self4:Int→Bool→Option ((List AG)×Int))(x340:Int)(x341:Bool):Option ((List AG)×Int):=
 bif (decide (x340< (a0.length:Int))) then (bif x341 then (Ed N a0 x148 x152 self3 x340 x341 self4 true) else ((idx a0 x340).bind fun x445=>Ed N a0 x148 x152 self3 x340 x341 self4 (((x445).toNat:Int) != (((32:UInt8)).toNat:Int)))) else (Ed N a0 x148 x152 self3 x340 x341 self4 false)
def EJ(N:Nat)(a0:Bts)(x148:(List AG))(x152:Int)(self3:((List AG)→Int→Option ((List AG)×Int))):Nat→Int→Bool→Option ((List AG)×Int)
 |0=>fun _ _=>none
 |k+1=>FU N a0 x148 x152 self3 (EJ N a0 x148 x152 self3 k)
def FV(N:Nat)(a0:Bts)(self3:(List AG)→Int→Option ((List AG)×Int))(x148:(List AG))(x152:Int):Option ((List AG)×Int):=
 bif (decide (x152< (a0.length:Int))) then ((idx a0 x152).bind fun x309=>bif (((x309).toNat:Int)==(((32:UInt8)).toNat:Int)) then (self3 x148 (i64.wrap (x152+(1:Int)))) else ((idx a0 x152).bind fun x312=>EJ N a0 x148 x152 self3 N x152 (((x312).toNat:Int)==(((91:UInt8)).toNat:Int)))) else (some (x148,(0:Int)))
def CX(N:Nat)(a0:Bts):Nat→(List AG)→Int→Option ((List AG)×Int)
 |0=>fun _ _=>none
 |k+1=>FV N a0 (CX N a0 k)
def GE(N:Nat)(a0:Bts):Option ((List AG)×Int):=
 CX N a0 N ([]:List AG) (0:Int)
def JJ(x551:(List AG))(x555:Bool)(x556:(List AO)):Option (AM×(List AG)×Bool):=
 some ((AM.mk x556),x551,x555)
def Gh(N:Nat)(a0:GZ)(x509:(List AO))(x513:Int):Option (AM×(List AG)×Bool):=
 (GE N a0.args).bind fun x525=>bif (x513==(0:Int)) then (JJ x525.1 (x525.2==(0:Int)) x509) else (JJ x525.1 false x509)
def CD(N:Nat)(a0:GZ):Option (AM×(List AG)×Bool):=
 (J7).bind fun x634=>(Fk N a0.text x634).bind fun x642=>Gh N a0 x642.1.funcs x642.2.why
def Jm(a0 a1:Int)(ao0:AD)(x3:Bool):Option (AD):=
 bif x3 then (some (AD.mk a0 a1)) else (some ao0)
def D2(a0 a1:Int)(ao0:AD):Option (AD):=
 bif (ao0.why==(0:Int)) then (Jm a0 a1 ao0 true) else (Jm a0 a1 ao0 (decide (a1<ao0.at_)))
def HL(a0:AE)(ao4:AD)(x102:Bool):Option (AD):=
 bif x102 then ((D2 (33:Int) a0.at_ ao4).bind fun x110=>some x110) else (some ao4)
def GG(a0:AE)(ao2:Aq)(ao4:AD)(ao5:AM)(x48:Bool):Option (AD):=
 bif x48 then ((D2 (32:Int) a0.at_ ao4).bind fun x56=>some x56) else (bif (a0.op==(7:Int)) then ((idx ao5.funcs (i64.wrap ((Cr ao2 a0.name) - (1:Int)))).bind fun x125=>HL a0 ao4 ((x125.params.length:Int) != (a0.args.length:Int))) else (HL a0 ao4 false))
def HM(a0:AE)(ao2:Aq)(ao4:AD)(ao5:AM)(x29:Bool):Option (AD):=
 bif x29 then ((D2 (31:Int) a0.at_ ao4).bind fun x37=>some x37) else (bif (a0.op==(7:Int)) then (GG a0 ao2 ao4 ao5 ((Cr ao2 a0.name)==(0:Int))) else (GG a0 ao2 ao4 ao5 false))
def Fv(a0:AE)(ao0 ao2:Aq)(ao4:AD)(ao5:AM):Option (AD):=
 bif (a0.op==(6:Int)) then (HM a0 ao2 ao4 ao5 ((Cr ao0 a0.name)==(0:Int))) else (HM a0 ao2 ao4 ao5 false)
def Kf(a0:AE)(x37:Bool):Option ((List Bts)):=
 bif x37 then (some ([a0.name,a0.tail]:List Bts)) else (some [])
def Jn(a0:AE)(a1:Int)(x15:Bool):Option ((List Bts)):=
 bif x15 then (some ([a0.name]:List Bts)) else (bif (a0.op==(20:Int)) then (Kf a0 (a1==(2:Int))) else (Kf a0 false))
def Hm(a0:AE)(a1:Int):Option ((List Bts)):=
 bif (a0.op==(21:Int)) then (Jn a0 a1 (a0.op==(21:Int))) else (bif (a0.op==(22:Int)) then (Jn a0 a1 (a1==(1:Int))) else (Jn a0 a1 false))
structure A1 where
 scope_walk:AE→Aq→Aq→AD→AM→Option (Aq×AD)
def If(x275:Int)(self5:(Int→Aq→Int→Int→Option (Aq×AD)))(x552:((List Bts)))(x649:(Aq×AD))(self7:Int→Aq→Option (Aq×AD))(x688:Int)(x689:Aq):Option (Aq×AD):=
 bif (decide (x688< (x552.length:Int))) then ((idx x552 x688).bind fun x722=>self7 (i64.wrap (x688+(1:Int))) (L7 x722 (i64.wrap ((Cr x689 x722) - (1:Int))) x689)) else (self5 (i64.wrap (x275+(1:Int))) x689 x649.2.why x649.2.at_)
def IQ(x275:Int)(self5:(Int→Aq→Int→Int→Option (Aq×AD)))(x552:((List Bts)))(x649:(Aq×AD)):Nat→Int→Aq→Option (Aq×AD)
 |0=>fun _ _=>none
 |k+1=>If x275 self5 x552 x649 (IQ x275 self5 x552 x649 k)
def Ig(φ:A1)(N:Nat)(ao2:Aq)(ao5:AM)(x275 x277 x278:Int)(self5:(Int→Aq→Int→Int→Option (Aq×AD)))(x520:AE)(x552:((List Bts)))(self6:Int→Aq→Option (Aq×AD))(x590:Int)(x591:Aq):Option (Aq×AD):=
 bif (decide (x590< (x552.length:Int))) then ((idx x552 x590).bind fun x624=>self6 (i64.wrap (x590+(1:Int))) (L7 x624 (i64.wrap ((Cr x591 x624)+(1:Int))) x591)) else ((φ.scope_walk x520 x591 ao2 (AD.mk x277 x278) ao5).bind fun x649=>IQ x275 self5 x552 x649 N (0:Int) x649.1)
def IR(φ:A1)(N:Nat)(ao2:Aq)(ao5:AM)(x275 x277 x278:Int)(self5:(Int→Aq→Int→Int→Option (Aq×AD)))(x520:AE)(x552:((List Bts))):Nat→Int→Aq→Option (Aq×AD)
 |0=>fun _ _=>none
 |k+1=>Ig φ N ao2 ao5 x275 x277 x278 self5 x520 x552 (IR φ N ao2 ao5 x275 x277 x278 self5 x520 x552 k)
def Ih(φ:A1)(N:Nat)(a0:AE)(ao2:Aq)(ao5:AM)(self5:Int→Aq→Int→Int→Option (Aq×AD))(x275:Int)(x276:Aq)(x277 x278:Int):Option (Aq×AD):=
 bif (decide (x275< (a0.args.length:Int))) then ((idx a0.args x275).bind fun x520=>(Hm a0 x275).bind fun x552=>IR φ N ao2 ao5 x275 x277 x278 self5 x520 x552 N (0:Int) x276) else (some (x276,(AD.mk x277 x278)))
def Cj(φ:A1)(N:Nat)(a0:AE)(ao2:Aq)(ao5:AM):Nat→Int→Aq→Int→Int→Option (Aq×AD)
 |0=>fun _ _ _ _=>none
 |k+1=>Ih φ N a0 ao2 ao5 (Cj φ N a0 ao2 ao5 k)
def K5(φ:A1)(N:Nat)(a0:AE)(ao0 ao2:Aq)(ao4:AD)(ao5:AM):Option (Aq×AD):=
 (Fv a0 ao0 ao2 ao4 ao5).bind fun x33=>Cj φ N a0 ao2 ao5 N (0:Int) ao0 x33.why x33.at_
def A1.at:Nat→A1
 |0=>⟨fun _ _ _ _ _=>none⟩
 |n+1=>⟨K5 (A1.at n) n⟩
def scope_walk(N:Nat):AE→Aq→Aq→AD→AM→Option (Aq×AD):=(A1.at N).scope_walk
def Jo(x186:Int)(self1:(Int→Int→Int→Aq→Option (AD)))(x388 x389:Int)(x390:Aq):Option (AD):=
 self1 (i64.wrap (x186+(1:Int))) x388 x389 x390
def Jp(x1185:Int)(x1188:Aq)(self5:(Int→Int→Int→Aq→Option (AD)))(x1273:AJ)(x1309 x1310:Int):Option (AD):=
 self5 (i64.wrap (x1185+(1:Int))) x1309 x1310 (L7 x1273.name (i64.wrap ((Cr x1188 x1273.name)+(1:Int))) x1188)
def F1(N:Nat)(a0:AM)(x189:Aq)(x757:Int)(self4:(Int→Int→Int→Option (AD)))(x1066:AO)(self5:Int→Int→Int→Aq→Option (AD))(x1185 x1186 x1187:Int)(x1188:Aq):Option (AD):=
 bif (decide (x1185< (x1066.params.length:Int))) then ((idx x1066.params x1185).bind fun x1273=>bif (decide ((Cr x1188 x1273.name)>(0:Int))) then ((D2 (30:Int) x1273.at_ (AD.mk x1186 x1187)).bind fun x1327=>Jp x1185 x1188 self5 x1273 x1327.why x1327.at_) else (Jp x1185 x1188 self5 x1273 x1186 x1187)) else ((scope_walk N (AE.mk x1066.body.op x1066.body.name x1066.body.tail x1066.body.type_ x1066.body.num x1066.body.args x1066.body.at_) x1188 x189 (AD.mk x1186 x1187) a0).bind fun x1344=>self4 (i64.wrap (x757+(1:Int))) x1344.2.why x1344.2.at_)
def Fw(N:Nat)(a0:AM)(x189:Aq)(x757:Int)(self4:(Int→Int→Int→Option (AD)))(x1066:AO):Nat→Int→Int→Int→Aq→Option (AD)
 |0=>fun _ _ _ _=>none
 |k+1=>F1 N a0 x189 x757 self4 x1066 (Fw N a0 x189 x757 self4 x1066 k)
def H4(N:Nat)(a0:AM)(x189:Aq)(self4:Int→Int→Int→Option (AD))(x757 x758 x759:Int):Option (AD):=
 bif (decide (x757< (a0.funcs.length:Int))) then ((idx a0.funcs x757).bind fun x1066=>Fw N a0 x189 x757 self4 x1066 N (0:Int) x758 x759 ([]:Aq)) else (some (AD.mk x758 x759))
def DE(N:Nat)(a0:AM)(x189:Aq):Nat→Int→Int→Int→Option (AD)
 |0=>fun _ _ _=>none
 |k+1=>H4 N a0 x189 (DE N a0 x189 k)
def H5(N:Nat)(a0:AM)(self1:Int→Int→Int→Aq→Option (AD))(x186 x187 x188:Int)(x189:Aq):Option (AD):=
 bif (decide (x186< (a0.funcs.length:Int))) then ((idx a0.funcs x186).bind fun x398=>bif (decide ((Cr x189 x398.name)>(0:Int))) then ((D2 (30:Int) x398.at_ (AD.mk x187 x188)).bind fun x440=>Jo x186 self1 x440.why x440.at_ x189) else (Jo x186 self1 x187 x188 (L7 x398.name (i64.wrap (x186+(1:Int))) x189))) else (DE N a0 x189 N (0:Int) x187 x188)
def Hn(N:Nat)(a0:AM):Nat→Int→Int→Int→Aq→Option (AD)
 |0=>fun _ _ _ _=>none
 |k+1=>H5 N a0 (Hn N a0 k)
def IS(N:Nat)(a0:AM):Option (AD):=
 Hn N a0 N (0:Int) (0:Int) (0:Int) ([]:Aq)
def Ii(a0:AM)(self1:Int→Aq→Option (Aq×(List AO)×(List AJ)×Aq))(x72:Int)(x73:Aq):Option (Aq×(List AO)×(List AJ)×Aq):=
 bif (decide (x72≥(0:Int))) then ((idx a0.funcs x72).bind fun x127=>self1 (i64.wrap (x72 - (1:Int))) (L7 x127.name (i64.wrap (x72+(1:Int))) x73)) else (some (x73,a0.funcs,[],x73))
def IT(a0:AM):Nat→Int→Aq→Option (Aq×(List AO)×(List AJ)×Aq)
 |0=>fun _ _=>none
 |k+1=>Ii a0 (IT a0 k)
def Kg(N:Nat)(a0:AM)(_ao0:AD):Option (Aq×(List AO)×(List AJ)×Aq):=
 IT a0 N (i64.wrap ((a0.funcs.length:Int) - (1:Int))) ([]:Aq)
def Jq(a0:Int)(ao0:AD)(x3:Bool):Option (AD):=
 bif x3 then (some (AD.mk (34:Int) a0)) else (some ao0)
def Fx(a0:Int)(ao0:AD):Option (AD):=
 bif (ao0.why==(0:Int)) then (Jq a0 ao0 true) else (Jq a0 ao0 (decide (a0<ao0.at_)))
structure AF where
 types_checker_want:(List AO)→(List AJ)→Aq→AD→AE→Int→Option ((List AO)×(List AJ)×AD)
 types_checker_all:(List AO)→(List AJ)→Aq→AD→Int→(List AE)→Option ((List AO)×(List AJ)×AD)
 types_checker_in:(List AO)→(List AJ)→Aq→AD→AE→Int→(List AJ)→Option ((List AO)×(List AJ)×AD)
 types_checker_in_2:(List AO)→(List AJ)→Aq→AD→AE→Int→(List AJ)→Option ((List AO)×(List AJ)×AD)
 types_checker_in_3:(List AO)→(List AJ)→Aq→AD→AE→Int→(List AJ)→Option ((List AO)×(List AJ)×AD)
 types_checker_own:(List AO)→(List AJ)→Aq→AD→AE→Option (Int×(List AO)×(List AJ)×AD)
 types_checker_want_1:(List AO)→(List AJ)→Aq→AD→AE→Int→Option ((List AO)×(List AJ)×AD)
 types_checker_want_2:(List AO)→(List AJ)→Aq→AD→AE→Int→Option ((List AO)×(List AJ)×AD)
 types_checker_want_3:(List AO)→(List AJ)→Aq→AD→AE→Int→Option ((List AO)×(List AJ)×AD)
 types_checker_call:(List AO)→(List AJ)→Aq→AD→AE→Option (Int×(List AO)×(List AJ)×AD)
def CY(a1:AE)(a2 x1084:Int)(x1085:(List AO))(x1089:(List AJ))(x1093 x1094:Int):Option ((List AO)×(List AJ)×AD):=
 bif (x1084 != a2) then ((Fx a1.at_ (AD.mk x1093 x1094)).bind fun x1128=>some (x1085,x1089,x1128)) else (some (x1085,x1089,(AD.mk x1093 x1094)))
def GH(φ:AF)(_N:Nat)(ao0_1:(List AO))(ao0_2:(List AJ))(ao1:Aq)(ao2:AD)(a1:AE)(a2:Int):Option ((List AO)×(List AJ)×AD):=
 bif (a1.op==(19:Int)) then ((idx a1.args (0:Int)).bind fun x1269=>(φ.types_checker_want ao0_1 ao0_2 ao1 ao2 x1269 (2:Int)).bind fun x1293=>(sub a1.args (1:Int) (a1.args.length:Int)).bind fun x1441=>(φ.types_checker_all x1293.1 x1293.2.1 ao1 x1293.2.2 a2 x1441).bind fun x1463=>CY a1 a2 a2 x1463.1 x1463.2.1 x1463.2.2.why x1463.2.2.at_) else (bif (a1.op==(20:Int)) then ((idx a1.args (0:Int)).bind fun x1614=>(φ.types_checker_want ao0_1 ao0_2 ao1 ao2 x1614 (3:Int)).bind fun x1638=>(idx a1.args (1:Int)).bind fun x1791=>(φ.types_checker_want x1638.1 x1638.2.1 ao1 x1638.2.2 x1791 a2).bind fun x1816=>(φ.types_checker_in x1816.1 x1816.2.1 ao1 x1816.2.2 a1 a2 ([(AJ.mk a1.name (1:Int) (0:Int)),(AJ.mk a1.tail (3:Int) (0:Int))]:List AJ)).bind fun x1864=>CY a1 a2 a2 x1864.1 x1864.2.1 x1864.2.2.why x1864.2.2.at_) else (bif (a1.op==(21:Int)) then ((φ.types_checker_in_2 ao0_1 ao0_2 ao1 ao2 a1 a2 ([(AJ.mk a1.name a1.type_ (0:Int))]:List AJ)).bind fun x1912=>CY a1 a2 a2 x1912.1 x1912.2.1 x1912.2.2.why x1912.2.2.at_) else (bif (a1.op==(22:Int)) then ((idx a1.args (0:Int)).bind fun x2063=>(φ.types_checker_want ao0_1 ao0_2 ao1 ao2 x2063 a1.type_).bind fun x2087=>(φ.types_checker_in_3 x2087.1 x2087.2.1 ao1 x2087.2.2 a1 a2 ([(AJ.mk a1.name a1.type_ (0:Int))]:List AJ)).bind fun x2135=>CY a1 a2 a2 x2135.1 x2135.2.1 x2135.2.2.why x2135.2.2.at_) else ((φ.types_checker_own ao0_1 ao0_2 ao1 ao2 a1).bind fun x2165=>CY a1 a2 x2165.1 x2165.2.1 x2165.2.2.1 x2165.2.2.2.why x2165.2.2.2.at_))))
def En(φ:AF)(ao1:Aq)(a1:Int)(a2:(List AE))(self1:Int→(List AO)→(List AJ)→Int→Int→Option ((List AO)×(List AJ)×AD))(x93:Int)(x94:(List AO))(x98:(List AJ))(x102 x103:Int):Option ((List AO)×(List AJ)×AD):=
 bif (decide (x93< (a2.length:Int))) then ((idx a2 x93).bind fun x199=>(φ.types_checker_want x94 x98 ao1 (AD.mk x102 x103) x199 a1).bind fun x235=>self1 (i64.wrap (x93+(1:Int))) x235.1 x235.2.1 x235.2.2.why x235.2.2.at_) else (some (x94,x98,(AD.mk x102 x103)))
def Dx(φ:AF)(ao1:Aq)(a1:Int)(a2:(List AE)):Nat→Int→(List AO)→(List AJ)→Int→Int→Option ((List AO)×(List AJ)×AD)
 |0=>fun _ _ _ _ _=>none
 |k+1=>En φ ao1 a1 a2 (Dx φ ao1 a1 a2 k)
def Jf(φ:AF)(N:Nat)(ao0_1:(List AO))(ao0_2:(List AJ))(ao1:Aq)(ao2:AD)(a1:Int)(a2:(List AE)):Option ((List AO)×(List AJ)×AD):=
 Dx φ ao1 a1 a2 N (0:Int) ao0_1 ao0_2 ao2.why ao2.at_
def HN(φ:AF)(_N:Nat)(ao0_1:(List AO))(ao0_2:(List AJ))(ao1:Aq)(ao2:AD)(ao4:AE)(ao5_0:Int)(a2:(List AJ)):Option ((List AO)×(List AJ)×AD):=
 (HF 32 ao0_2 a2).bind fun _=>(φ.types_checker_want_1 ao0_1 (ao0_2++a2) ao1 ao2 ao4 ao5_0).bind fun x52=>(sub x52.2.1 0 (ao0_2.length:Int)).bind fun x75=>some (x52.1,x75,x52.2.2)
def GI(φ:AF)(_N:Nat)(ao0_1:(List AO))(ao0_2:(List AJ))(ao1:Aq)(ao2:AD)(ao4:AE)(ao5_0:Int)(a2:(List AJ)):Option ((List AO)×(List AJ)×AD):=
 (HF 32 ao0_2 a2).bind fun _=>(φ.types_checker_want_2 ao0_1 (ao0_2++a2) ao1 ao2 ao4 ao5_0).bind fun x52=>(sub x52.2.1 0 (ao0_2.length:Int)).bind fun x75=>some (x52.1,x75,x52.2.2)
def GJ(φ:AF)(_N:Nat)(ao0_1:(List AO))(ao0_2:(List AJ))(ao1:Aq)(ao2:AD)(ao4:AE)(ao5_0:Int)(a2:(List AJ)):Option ((List AO)×(List AJ)×AD):=
 (HF 32 ao0_2 a2).bind fun _=>(φ.types_checker_want_3 ao0_1 (ao0_2++a2) ao1 ao2 ao4 ao5_0).bind fun x52=>(sub x52.2.1 0 (ao0_2.length:Int)).bind fun x75=>some (x52.1,x75,x52.2.2)
def HH(ao0_1:(List AO))(ao0_2:(List AJ))(ao2:AD)(a1:AE)(self1:Int→Option (Int×(List AO)×(List AJ)×AD))(x86:Int):Option (Int×(List AO)×(List AJ)×AD):=
 bif (decide (x86≥(0:Int))) then ((idx ao0_2 x86).bind fun x130=>bif (x130.name==a1.name) then ((idx ao0_2 x86).bind fun x145=>some (x145.type_,ao0_1,ao0_2,ao2)) else (self1 (i64.wrap (x86 - (1:Int))))) else (some ((0:Int),ao0_1,ao0_2,ao2))
def FC(ao0_1:(List AO))(ao0_2:(List AJ))(ao2:AD)(a1:AE):Nat→Int→Option (Int×(List AO)×(List AJ)×AD)
 |0=>fun _=>none
 |k+1=>HH ao0_1 ao0_2 ao2 a1 (FC ao0_1 ao0_2 ao2 a1 k)
def Hp(x325:((List AO)×(List AJ)×AD))(x350:Bool):Option (Int×(List AO)×(List AJ)×AD):=
 bif x350 then (some ((2:Int),x325.1,x325.2.1,x325.2.2)) else (some ((1:Int),x325.1,x325.2.1,x325.2.2))
def FD(φ:AF)(N:Nat)(ao0_1:(List AO))(ao0_2:(List AJ))(ao1:Aq)(ao2:AD)(a1:AE)(x25:Bool):Option (Int×(List AO)×(List AJ)×AD):=
 bif x25 then (some ((2:Int),ao0_1,ao0_2,ao2)) else (bif (a1.op==(4:Int)) then (some ((3:Int),ao0_1,ao0_2,ao2)) else (bif (a1.op==(5:Int)) then (some (a1.type_,ao0_1,ao0_2,ao2)) else (bif (a1.op==(6:Int)) then (FC ao0_1 ao0_2 ao2 a1 N (i64.wrap ((ao0_2.length:Int) - (1:Int)))) else (bif (a1.op==(7:Int)) then ((φ.types_checker_call ao0_1 ao0_2 ao1 ao2 a1).bind fun x171=>some (x171.1,x171.2.1,x171.2.2.1,x171.2.2.2)) else (bif (a1.op==(14:Int)) then ((φ.types_checker_all ao0_1 ao0_2 ao1 ao2 (2:Int) a1.args).bind fun x202=>some ((2:Int),x202.1,x202.2.1,x202.2.2)) else (bif (a1.op==(18:Int)) then ((idx a1.args (0:Int)).bind fun x227=>(φ.types_checker_want ao0_1 ao0_2 ao1 ao2 x227 (1:Int)).bind fun x251=>(idx a1.args (1:Int)).bind fun x275=>(φ.types_checker_want x251.1 x251.2.1 ao1 x251.2.2 x275 (3:Int)).bind fun x295=>some ((3:Int),x295.1,x295.2.1,x295.2.2)) else ((φ.types_checker_all ao0_1 ao0_2 ao1 ao2 (1:Int) a1.args).bind fun x325=>bif (a1.op==(12:Int)) then (Hp x325 true) else (Hp x325 (a1.op==(13:Int))))))))))
def Gz(φ:AF)(N:Nat)(ao0_1:(List AO))(ao0_2:(List AJ))(ao1:Aq)(ao2:AD)(a1:AE):Option (Int×(List AO)×(List AJ)×AD):=
 bif (a1.op==(2:Int)) then (FD φ N ao0_1 ao0_2 ao1 ao2 a1 (a1.op==(2:Int))) else (FD φ N ao0_1 ao0_2 ao1 ao2 a1 (a1.op==(3:Int)))
def FZ(φ:AF)(_N:Nat)(ao1_1:(List AO))(ao1_2:(List AJ))(ao2:Aq)(ao3:AD)(ao4:AE)(ao5_0:Int):Option ((List AO)×(List AJ)×AD):=
 (idx ao4.args (2:Int)).bind fun x151=>(φ.types_checker_want ao1_1 ao1_2 ao2 ao3 x151 ao5_0).bind fun x176=>some (x176.1,x176.2.1,x176.2.2)
def Fa(φ:AF)(_N:Nat)(ao1_1:(List AO))(ao1_2:(List AJ))(ao2:Aq)(ao3:AD)(ao4:AE)(ao5_0:Int):Option ((List AO)×(List AJ)×AD):=
 (idx ao4.args (0:Int)).bind fun x148=>(φ.types_checker_want ao1_1 ao1_2 ao2 ao3 x148 ao4.type_).bind fun x172=>(idx ao4.args (1:Int)).bind fun x325=>(φ.types_checker_want x172.1 x172.2.1 ao2 x172.2.2 x325 ao5_0).bind fun x350=>some (x350.1,x350.2.1,x350.2.2)
def Fb(φ:AF)(_N:Nat)(ao1_1:(List AO))(ao1_2:(List AJ))(ao2:Aq)(ao3:AD)(ao4:AE)(ao5_0:Int):Option ((List AO)×(List AJ)×AD):=
 (idx ao4.args (1:Int)).bind fun x151=>(φ.types_checker_want ao1_1 ao1_2 ao2 ao3 x151 ao5_0).bind fun x176=>some (x176.1,x176.2.1,x176.2.2)
def EW(φ:AF)(ao1:Aq)(a1:AE)(x76:AO)(self1:Int→(List AO)→(List AJ)→Int→Int→Option (Int×(List AO)×(List AJ)×AD))(x316:Int)(x317:(List AO))(x321:(List AJ))(x325 x326:Int):Option (Int×(List AO)×(List AJ)×AD):=
 bif (decide (x316< (x76.params.length:Int))) then ((idx x76.params x316).bind fun x560=>(idx a1.args x316).bind fun x709=>(φ.types_checker_want x317 x321 ao1 (AD.mk x325 x326) x709 x560.type_).bind fun x734=>self1 (i64.wrap (x316+(1:Int))) x734.1 x734.2.1 x734.2.2.why x734.2.2.at_) else ((idx x317 (i64.wrap ((Cr ao1 a1.name) - (1:Int)))).bind fun x757=>some (x757.type_,x317,x321,(AD.mk x325 x326)))
def D8(φ:AF)(ao1:Aq)(a1:AE)(x76:AO):Nat→Int→(List AO)→(List AJ)→Int→Int→Option (Int×(List AO)×(List AJ)×AD)
 |0=>fun _ _ _ _ _=>none
 |k+1=>EW φ ao1 a1 x76 (D8 φ ao1 a1 x76 k)
def Fn(φ:AF)(N:Nat)(ao0_1:(List AO))(ao0_2:(List AJ))(ao1:Aq)(ao2:AD)(a1:AE)(x66:Bool):Option (Int×(List AO)×(List AJ)×AD):=
 bif x66 then (some ((0:Int),ao0_1,ao0_2,ao2)) else ((idx ao0_1 (i64.wrap ((Cr ao1 a1.name) - (1:Int)))).bind fun x76=>D8 φ ao1 a1 x76 N (0:Int) ao0_1 ao0_2 ao2.why ao2.at_)
def GK(φ:AF)(N:Nat)(ao0_1:(List AO))(ao0_2:(List AJ))(ao1:Aq)(ao2:AD)(a1:AE):Option (Int×(List AO)×(List AJ)×AD):=
 bif ((Cr ao1 a1.name)==(0:Int)) then (Fn φ N ao0_1 ao0_2 ao1 ao2 a1 true) else ((idx ao0_1 (i64.wrap ((Cr ao1 a1.name) - (1:Int)))).bind fun x787=>Fn φ N ao0_1 ao0_2 ao1 ao2 a1 ((x787.params.length:Int) != (a1.args.length:Int)))
def AF.at:Nat→AF
 |0=>⟨fun _ _ _ _ _ _=>none,fun _ _ _ _ _ _=>none,fun _ _ _ _ _ _ _=>none,fun _ _ _ _ _ _ _=>none,fun _ _ _ _ _ _ _=>none,fun _ _ _ _ _=>none,fun _ _ _ _ _ _=>none,fun _ _ _ _ _ _=>none,fun _ _ _ _ _ _=>none,fun _ _ _ _ _=>none⟩
 |n+1=>⟨GH (AF.at n) n,Jf (AF.at n) n,HN (AF.at n) n,GI (AF.at n) n,GJ (AF.at n) n,Gz (AF.at n) n,FZ (AF.at n) n,Fa (AF.at n) n,Fb (AF.at n) n,GK (AF.at n) n⟩
def types_checker_want(N:Nat):(List AO)→(List AJ)→Aq→AD→AE→Int→Option ((List AO)×(List AJ)×AD):=(AF.at N).types_checker_want
def types_checker_all(N:Nat):(List AO)→(List AJ)→Aq→AD→Int→(List AE)→Option ((List AO)×(List AJ)×AD):=(AF.at N).types_checker_all
def types_checker_in(N:Nat):(List AO)→(List AJ)→Aq→AD→AE→Int→(List AJ)→Option ((List AO)×(List AJ)×AD):=(AF.at N).types_checker_in
def types_checker_in_2(N:Nat):(List AO)→(List AJ)→Aq→AD→AE→Int→(List AJ)→Option ((List AO)×(List AJ)×AD):=(AF.at N).types_checker_in_2
def types_checker_in_3(N:Nat):(List AO)→(List AJ)→Aq→AD→AE→Int→(List AJ)→Option ((List AO)×(List AJ)×AD):=(AF.at N).types_checker_in_3
def types_checker_own(N:Nat):(List AO)→(List AJ)→Aq→AD→AE→Option (Int×(List AO)×(List AJ)×AD):=(AF.at N).types_checker_own
def types_checker_want_1(N:Nat):(List AO)→(List AJ)→Aq→AD→AE→Int→Option ((List AO)×(List AJ)×AD):=(AF.at N).types_checker_want_1
def types_checker_want_2(N:Nat):(List AO)→(List AJ)→Aq→AD→AE→Int→Option ((List AO)×(List AJ)×AD):=(AF.at N).types_checker_want_2
def types_checker_want_3(N:Nat):(List AO)→(List AJ)→Aq→AD→AE→Int→Option ((List AO)×(List AJ)×AD):=(AF.at N).types_checker_want_3
def types_checker_call(N:Nat):(List AO)→(List AJ)→Aq→AD→AE→Option (Int×(List AO)×(List AJ)×AD):=(AF.at N).types_checker_call
def H6(N:Nat)(a0:AM)(x46:(Aq×(List AO)×(List AJ)×Aq))(self1:Int→Int→Int→(List AO)→(List AJ)→Option (AD))(x175 x176 x177:Int)(x178:(List AO))(_x182:(List AJ)):Option (AD):=
 bif (decide (x175< (a0.funcs.length:Int))) then ((idx a0.funcs x175).bind fun x306=>(HF 32 ([]:List AJ) x306.params).bind fun _=>(types_checker_want N x178 (([]:List AJ)++x306.params) x46.2.2.2 (AD.mk x176 x177) (AE.mk x306.body.op x306.body.name x306.body.tail x306.body.type_ x306.body.num x306.body.args x306.body.at_) x306.type_).bind fun x367=>self1 (i64.wrap (x175+(1:Int))) x367.2.2.why x367.2.2.at_ x367.1 x367.2.1) else (some (AD.mk x176 x177))
def Hq(N:Nat)(a0:AM)(x46:(Aq×(List AO)×(List AJ)×Aq)):Nat→Int→Int→Int→(List AO)→(List AJ)→Option (AD)
 |0=>fun _ _ _ _ _=>none
 |k+1=>H6 N a0 x46 (Hq N a0 x46 k)
def G4(N:Nat)(a0:AM):Option (AD):=
 (IS N a0).bind fun x21=>bif (x21.why != (0:Int)) then (some x21) else ((Kg N a0 x21).bind fun x46=>Hq N a0 x46 N (0:Int) x21.why x21.at_ x46.2.1 x46.2.2.1)
def Ij(a0:Nat):Option (Nat):=
 (SO a0).bind fun x1=>some x1
def IL(a0:Nat):Option (Bool):=
 some (decide ((i64.wrap (((a0:Nat):Int)))< (0:Int)))
def Hr(x15:Bool):Option (Bool):=
 some x15
def G5(a0:Nat):Option (Bool):=
 bif (fge a0 (13938640846711685120:Nat)) then (bif (fle a0 (4715268809856909312:Nat)) then ((Ij a0).bind fun x21=>bif (feq a0 x21) then (bif (fne a0 (0:Nat)) then (Hr true) else ((IL a0).bind fun x28=>Hr (!x28))) else (Hr false)) else (Hr false)) else (Hr false)
def Kh(x12:Bool):Option (Bool):=
 some x12
def B6(a0:(Nat×Nat)):Option (Bool):=
 (G5 a0.1).bind fun x16=>bif x16 then ((G5 a0.2).bind fun x22=>Kh x22) else (Kh false)
def Ee(x210:Bool):Option (Int):=
 bif (!x210) then (some (3:Int)) else (some (0:Int))
def Ki(x308:Int)(self2:(Bool→Int→Option (Int)))(x381:Bool):Option (Int):=
 self2 x381 (i64.wrap (x308+(1:Int)))
def KE(a0:AG)(self2:Bool→Int→Option (Int))(x307:Bool)(x308:Int):Option (Int):=
 bif (decide (x308< (a0.list.length:Int))) then ((idx a0.list x308).bind fun x385=>bif x307 then ((B6 x385).bind fun x399=>Ki x308 self2 x399) else (Ki x308 self2 false)) else (Ee x307)
def Ik(a0:AG):Nat→Bool→Int→Option (Int)
 |0=>fun _ _=>none
 |k+1=>KE a0 (Ik a0 k)
def Jr(N:Nat)(a0:AG)(x250:Bool):Option (Int):=
 Ik a0 N x250 (0:Int)
def DR(N:Nat)(a0:AG):Option (Int):=
 bif (a0.type_==(1:Int)) then ((B6 a0.num).bind fun x216=>bif x216 then (bif (!a0.bool) then (Ee ((a0.list.length:Int)==(0:Int))) else (Ee false)) else (Ee false)) else (bif (a0.type_==(2:Int)) then ((B6 a0.num).bind fun x229=>bif x229 then (bif (ceq a0.num ((0,0):Nat×Nat)) then (Ee ((a0.list.length:Int)==(0:Int))) else (Ee false)) else (Ee false)) else (bif (a0.type_==(3:Int)) then ((B6 a0.num).bind fun x404=>bif x404 then (bif (ceq a0.num ((0,0):Nat×Nat)) then (Jr N a0 (!a0.bool)) else (Jr N a0 false)) else (Jr N a0 false)) else (Ee false)))
def Ia(a0:Aw):Option (Th):=
 some (Th.done (AG.mk a0.plain.type_ a0.plain.num a0.plain.bool a0.plain.list) a0.head a0.tail)
def Kj(a0:AG)(self1:Th→Int→Option (Th))(x75:Th)(x78:Int):Option (Th):=
 bif (decide (x78≥(0:Int))) then ((idx a0.list x78).bind fun x126=>(Ia (Aw.mk (AG.mk (1:Int) x126 false []) Th.nil Th.nil)).bind fun x139=>(Ia (Aw.mk (AG.mk (0:Int) ((0,0):Nat×Nat) false []) x139 x75)).bind fun x148=>self1 x148 (i64.wrap (x78 - (1:Int)))) else (some x75)
def JT(a0:AG):Nat→Th→Int→Option (Th)
 |0=>fun _ _=>none
 |k+1=>Kj a0 (JT a0 k)
def Il(N:Nat)(a0:AG):Option (Th):=
 bif (a0.type_ != (3:Int)) then ((Ia (Aw.mk a0 Th.nil Th.nil)).bind fun x15=>some x15) else ((Ia (Aw.mk (AG.mk (3:Int) ((0,0):Nat×Nat) false []) Th.nil Th.nil)).bind fun x23=>JT a0 N x23 (i64.wrap ((a0.list.length:Int) - (1:Int))))
def LC(a1:Bts)(self1:Nm→Option (Th))(x22:Nm):Option (Th):=
 (x22.view).bind fun x50=>bif (!(x50.1==a1)) then (self1 x50.2.2) else (some x50.2.1)
def EX(a1:Bts):Nat→Nm→Option (Th)
 |0=>fun _=>none
 |k+1=>LC a1 (EX a1 k)
def Dk(N:Nat)(a0:Nm)(a1:Bts):Option (Th):=
 EX a1 N a0
def JK(a1:Aw):Option (Aw):=
 some a1
def JU(a0:AE):Option (AE):=
 some a0
def MG(x9:Bool):Option (Int×Int):=
 bif x9 then (some ((1:Int),(1:Int))) else (some ((0:Int),(0:Int)))
def MH(a0:Int)(x2:Bool):Option (Int×Int):=
 bif x2 then (some ((2:Int),(1:Int))) else (bif (a0==(14:Int)) then (some ((1:Int),(2:Int))) else (bif (decide (a0≥(15:Int))) then (MG (decide (a0≤(17:Int)))) else (MG false)))
def H7(a0:Int):Option (Int×Int):=
 bif (decide (a0≥(8:Int))) then (MH a0 (decide (a0≤(13:Int)))) else (MH a0 false)
def D9(a0:(Nat×Nat))(a1:Int):Option (AG×Int):=
 bif (a1 != (0:Int)) then (some ((AG.mk (0:Int) ((0,0):Nat×Nat) false []),a1)) else (some ((AG.mk (1:Int) a0 false []),(0:Int)))
def FE(a0:(Nat×Nat)):Option ((Nat×Nat)×Int):=
 (FloatKind.f64.format.add a0.1 (0:Nat)).bind fun x1=>(FloatKind.f64.format.add a0.2 (0:Nat)).bind fun x3=>(B6 (x1,x3)).bind fun x5=>bif (!x5) then (some (((0,0):Nat×Nat),(50:Int))) else (some ((x1,x3),(0:Int)))
def H8(a0:(Nat×Nat)):Option ((Nat×Nat)×Int):=
 (B6 a0).bind fun x1=>bif (!x1) then (some (((0,0):Nat×Nat),(3:Int))) else ((FE (a0.1,(Op.negFloat .f64 a0.2))).bind fun x7=>some (x7.1,x7.2))
def Ln(a0:(Nat×Nat))(a1:(Nat×Nat))(x12:Bool):Option ((Nat×Nat)×Int):=
 bif x12 then (some (((0,0):Nat×Nat),(3:Int))) else ((cadd a0 a1).bind fun x17=>(FE x17).bind fun x19=>some (x19.1,x19.2))
def Js(a0:(Nat×Nat))(a1:(Nat×Nat)):Option ((Nat×Nat)×Int):=
 (B6 a0).bind fun x24=>bif (!x24) then (Ln a0 a1 true) else ((B6 a1).bind fun x30=>Ln a0 a1 (!x30))
def Lo(a0:(Nat×Nat))(a1:(Nat×Nat))(x12:Bool):Option ((Nat×Nat)×Int):=
 bif x12 then (some (((0,0):Nat×Nat),(3:Int))) else ((csub a0 a1).bind fun x17=>(FE x17).bind fun x19=>some (x19.1,x19.2))
def Jt(a0:(Nat×Nat))(a1:(Nat×Nat)):Option ((Nat×Nat)×Int):=
 (B6 a0).bind fun x24=>bif (!x24) then (Lo a0 a1 true) else ((B6 a1).bind fun x30=>Lo a0 a1 (!x30))
def Lp(a0:(Nat×Nat))(a1:(Nat×Nat))(x12:Bool):Option ((Nat×Nat)×Int):=
 bif x12 then (some (((0,0):Nat×Nat),(3:Int))) else ((cmul a0 a1).bind fun x17=>(FE x17).bind fun x19=>some (x19.1,x19.2))
def Ju(a0:(Nat×Nat))(a1:(Nat×Nat)):Option ((Nat×Nat)×Int):=
 (B6 a0).bind fun x24=>bif (!x24) then (Lp a0 a1 true) else ((B6 a1).bind fun x30=>Lp a0 a1 (!x30))
def IG(a0:Nat):Option (Nat):=
 some (((Cu .u64 ((a0:Nat):Int) (9223372036854775808:Int))).toNat)
def KR(x8:Nat):Option (Bool):=
 some (fgt x8 (9218868437227405311:Nat))
def HO(a0:Nat)(a1:Int):Option (Bool):=
 bif (a1==(0:Int)) then ((IG a0).bind fun x13=>KR x13) else (bif (decide (a1< (0:Int))) then (KR (Op.negFloat .f64 a0)) else (KR a0))
def Gi(a0:Nat):Option (Bool):=
 some (fne a0 a0)
def Lq:Option (Nat):=
 some (((9221120237041090561:Int)).toNat)
def Eg(a0:Nat):Option (Nat×Int):=
 (IG a0).bind fun x1=>bif (flt_ x1 (4503599627370496:Nat)) then ((FloatKind.f64.format.mul a0 (4841369599423283200:Nat)).bind fun x7=>some (x7,(-52:Int))) else (some (a0,(0:Int)))
def LE(a0:Nat)(x13:Bool):Option (Nat×Int):=
 bif x13 then (some (a0,(0:Int))) else ((Eg a0).bind fun x18=>(nn (52:Int)).bind fun _=>some (((L8 .u64 (Cu .u64 ((x18.1:Nat):Int) (9218868437227405312:Int)) (4602678819172646912:Int))).toNat,(i64.wrap (x18.2+(i64.wrap ((i64.wrap ((i64.wrap ((E4 .u64 (shr .u64 ((x18.1:Nat):Int) (52:Int)) (2047:Int)))) - (1023:Int)))+(1:Int)))))))
def JV(a0:Nat):Option (Nat×Int):=
 bif (feq a0 (0:Nat)) then (some (a0,(0:Int))) else ((HO a0 (0:Int)).bind fun x25=>bif x25 then (LE a0 true) else ((Gi a0).bind fun x31=>LE a0 x31))
def H9(a0:Nat):Option (Nat×Int):=
 (JV a0).bind fun x1=>some (x1.1,x1.2)
def HV(a0 a1:Nat):Option (Nat):=
 some (((L8 .u64 (Cu .u64 ((a0:Nat):Int) (9223372036854775808:Int)) (E4 .u64 ((a1:Nat):Int) (9223372036854775808:Int)))).toNat)
def NA(x2:Int):Option (Nat):=
 some ((x2).toNat)
def LF(a0:Int):Option (Nat):=
 bif (decide (a0≥(0:Int))) then (NA (9218868437227405312:Int)) else (NA (18442240474082181120:Int))
def LG(x18:(Nat×Int))(x44:Int)(x45:Nat):Option (Nat):=
 (nn (52:Int)).bind fun _=>(FloatKind.f64.format.mul x45 (((L8 .u64 (Cu .u64 ((x18.1:Nat):Int) (9218868437227405312:Int)) (shl .u64 (IntKind.u64.wrap ((i64.wrap (x44+(1023:Int))))) (52:Int)))).toNat)).bind fun x51=>some x51
def LH(a0:Nat)(a1:Int)(x13:Bool):Option (Nat):=
 bif x13 then (some a0) else ((Eg a0).bind fun x18=>(nn (52:Int)).bind fun _=>bif (decide ((i64.wrap ((i64.wrap (a1+x18.2))+(i64.wrap ((E4 .i64 (i64.wrap ((shr .u64 ((x18.1:Nat):Int) (52:Int)))) (2047:Int)) - (1023:Int)))))< (-1075:Int))) then ((HV (0:Nat) x18.1).bind fun x26=>some x26) else (bif (decide ((i64.wrap ((i64.wrap (a1+x18.2))+(i64.wrap ((E4 .i64 (i64.wrap ((shr .u64 ((x18.1:Nat):Int) (52:Int)))) (2047:Int)) - (1023:Int)))))>(1023:Int))) then (bif (flt_ x18.1 (0:Nat)) then ((LF (-1:Int)).bind fun x33=>some x33) else ((LF (1:Int)).bind fun x38=>some x38)) else (bif (decide ((i64.wrap ((i64.wrap (a1+x18.2))+(i64.wrap ((E4 .i64 (i64.wrap ((shr .u64 ((x18.1:Nat):Int) (52:Int)))) (2047:Int)) - (1023:Int)))))< (-1022:Int))) then (LG x18 (i64.wrap ((i64.wrap ((i64.wrap (a1+x18.2))+(i64.wrap ((E4 .i64 (i64.wrap ((shr .u64 ((x18.1:Nat):Int) (52:Int)))) (2047:Int)) - (1023:Int)))))+(53:Int))) (4368491638549381120:Nat)) else (LG x18 (i64.wrap ((i64.wrap (a1+x18.2))+(i64.wrap ((E4 .i64 (i64.wrap ((shr .u64 ((x18.1:Nat):Int) (52:Int)))) (2047:Int)) - (1023:Int))))) (4607182418800017408:Nat)))))
def JW(a0:Nat)(a1:Int):Option (Nat):=
 bif (feq a0 (0:Nat)) then (some a0) else ((HO a0 (0:Int)).bind fun x54=>bif x54 then (LH a0 a1 true) else ((Gi a0).bind fun x60=>LH a0 a1 x60))
def Im(a0:Nat)(a1:Int):Option (Nat):=
 (JW a0 a1).bind fun x1=>some x1
def Kk(x29:Nat)(x34:(Nat×Int))(x67:Nat)(self1:(Nat→Option (Nat)))(x102:Int):Option (Nat):=
 (Im x29 (i64.wrap (x102 - x34.2))).bind fun x106=>(FloatKind.f64.format.sub x67 x106).bind fun x111=>self1 x111
def NB(x115:Nat):Option (Nat):=
 some x115
def Lr(a0 x29:Nat)(x34:(Nat×Int))(self1:Nat→Option (Nat))(x67:Nat):Option (Nat):=
 bif (fge x67 x29) then ((H9 x67).bind fun x96=>bif (flt_ x96.1 x34.1) then (Kk x29 x34 x67 self1 (i64.wrap (x96.2 - (1:Int)))) else (Kk x29 x34 x67 self1 x96.2)) else (bif (flt_ a0 (0:Nat)) then (NB (Op.negFloat .f64 x67)) else (NB x67))
def J4(a0 x29:Nat)(x34:(Nat×Int)):Nat→Nat→Option (Nat)
 |0=>fun _=>none
 |k+1=>Lr a0 x29 x34 (J4 a0 x29 x34 k)
def Lb(N a0 x29:Nat)(x34:(Nat×Int))(x40:Nat):Option (Nat):=
 J4 a0 x29 x34 N x40
def Kl(N a0 a1:Nat)(x19:Bool):Option (Nat):=
 bif x19 then ((Lq).bind fun x24=>some x24) else ((IG a1).bind fun x29=>(H9 x29).bind fun x34=>bif (flt_ a0 (0:Nat)) then (Lb N a0 x29 x34 (Op.negFloat .f64 a0)) else (Lb N a0 x29 x34 a0))
def LI(N a0 a1:Nat):Option (Nat):=
 bif (feq a1 (0:Nat)) then (Kl N a0 a1 true) else ((HO a0 (0:Int)).bind fun x122=>bif x122 then (Kl N a0 a1 true) else ((Gi a0).bind fun x128=>bif x128 then (Kl N a0 a1 true) else ((Gi a1).bind fun x134=>Kl N a0 a1 x134)))
def KF(N a0 a1:Nat):Option (Nat):=
 (LI N a0 a1).bind fun x1=>some x1
def Ls(x18:(Nat×Nat))(x20:(Nat×Nat))(x33:Bool):Option ((Nat×Nat)×Int):=
 bif x33 then (some (((0,0):Nat×Nat),(51:Int))) else ((FloatKind.f64.format.div x18.1 x20.1).bind fun x38=>(FloatKind.f64.format.div x18.2 x20.1).bind fun x40=>(FE (x38,x40)).bind fun x42=>some (x42.1,x42.2))
def Lt(N:Nat)(a0:(Nat×Nat))(a1:(Nat×Nat))(x12:Bool):Option ((Nat×Nat)×Int):=
 bif x12 then (some (((0,0):Nat×Nat),(3:Int))) else (bif (ceq a1 ((0,0):Nat×Nat)) then (some (((0,0):Nat×Nat),(51:Int))) else ((cmul a0 (a1.1,(Op.negFloat .f64 a1.2))).bind fun x18=>(cmul a1 (a1.1,(Op.negFloat .f64 a1.2))).bind fun x20=>(KF N x18.1 x20.1).bind fun x47=>bif (fne x47 (0:Nat)) then (Ls x18 x20 true) else ((KF N x18.2 x20.1).bind fun x53=>Ls x18 x20 (fne x53 (0:Nat)))))
def Jv(N:Nat)(a0:(Nat×Nat))(a1:(Nat×Nat)):Option ((Nat×Nat)×Int):=
 (B6 a0).bind fun x58=>bif (!x58) then (Lt N a0 a1 true) else ((B6 a1).bind fun x64=>Lt N a0 a1 (!x64))
def LJ(a0:(Nat×Nat))(a1:(Nat×Nat))(x12:Bool):Option (Bool×Int):=
 bif x12 then (some (false,(3:Int))) else (bif (fne a0.1 a1.1) then (some ((flt_ a0.1 a1.1),(0:Int))) else (some ((flt_ a0.2 a1.2),(0:Int))))
def In(a0:(Nat×Nat))(a1:(Nat×Nat)):Option (Bool×Int):=
 (B6 a0).bind fun x18=>bif (!x18) then (LJ a0 a1 true) else ((B6 a1).bind fun x24=>LJ a0 a1 (!x24))
def KG(N:Nat)(a0:Int)(a1:(Nat×Nat))(a2:(Nat×Nat)):Option (AG×Int):=
 bif (a0==(8:Int)) then ((Js a1 a2).bind fun x8=>(D9 x8.1 x8.2).bind fun x13=>some (x13.1,x13.2)) else (bif (a0==(9:Int)) then ((Jt a1 a2).bind fun x33=>(D9 x33.1 x33.2).bind fun x38=>some (x38.1,x38.2)) else (bif (a0==(10:Int)) then ((Ju a1 a2).bind fun x58=>(D9 x58.1 x58.2).bind fun x63=>some (x63.1,x63.2)) else (bif (a0==(11:Int)) then ((Jv N a1 a2).bind fun x83=>(D9 x83.1 x83.2).bind fun x88=>some (x88.1,x88.2)) else (bif (a0==(12:Int)) then (some ((AG.mk (2:Int) ((0,0):Nat×Nat) (ceq a1 a2) []),(0:Int))) else ((In a1 a2).bind fun x112=>some ((AG.mk (2:Int) ((0,0):Nat×Nat) x112.1 []),x112.2))))))
def IU(x94:Int)(self1:(Int→Option (AG×Int)))(x196:Bool):Option (AG×Int):=
 bif x196 then (some ((AG.mk (0:Int) ((0,0):Nat×Nat) false []),(3:Int))) else (self1 (i64.wrap (x94+(1:Int))))
def Cp(N:Nat)(a0:Int)(a1:(List AG))(x11:(Int×Int))(self1:Int→Option (AG×Int))(x94:Int):Option (AG×Int):=
 bif (decide (x94< (a1.length:Int))) then ((idx a1 x94).bind fun x159=>bif (x159.type_ != x11.2) then (IU x94 self1 true) else ((DR N x159).bind fun x208=>IU x94 self1 (x208 != (0:Int)))) else ((idx a1 (0:Int)).bind fun x213=>bif (a0==(14:Int)) then (some ((AG.mk (2:Int) ((0,0):Nat×Nat) (!x213.bool) []),(0:Int))) else (bif (a0==(15:Int)) then ((D9 (x213.num.1,(0:Nat)) (0:Int)).bind fun x239=>some (x239.1,x239.2)) else (bif (a0==(16:Int)) then ((D9 (x213.num.2,(0:Nat)) (0:Int)).bind fun x259=>some (x259.1,x259.2)) else (bif (a0==(17:Int)) then ((H8 x213.num).bind fun x279=>(D9 x279.1 x279.2).bind fun x284=>some (x284.1,x284.2)) else ((idx a1 (1:Int)).bind fun x303=>(KG N a0 x213.num x303.num).bind fun x321=>some (x321.1,x321.2))))))
def Dh(N:Nat)(a0:Int)(a1:(List AG))(x11:(Int×Int)):Nat→Int→Option (AG×Int)
 |0=>fun _=>none
 |k+1=>Cp N a0 a1 x11 (Dh N a0 a1 x11 k)
def MI(N:Nat)(a0:Int)(a1:(List AG))(x11:(Int×Int))(x21:Bool):Option (AG×Int):=
 bif x21 then (some ((AG.mk (0:Int) ((0,0):Nat×Nat) false []),(3:Int))) else (Dh N a0 a1 x11 N (0:Int))
def EK(N:Nat)(a0:Int)(a1:(List AG)):Option (AG×Int):=
 (H7 a0).bind fun x11=>bif (x11.1==(0:Int)) then (MI N a0 a1 x11 true) else (MI N a0 a1 x11 ((a1.length:Int) != x11.1))
structure Ac where
 mean_run_look:(List AO)→Int→Int→Aq→AE→Nm→Option ((Except Int Aw)×(List AO)×Int×Int)
 mean_later_1:(List AO)→Int→Int→Aq→AE→Nm→Option ((Except Int Aw)×(List AO)×Int×Int)
 mean_callth:(List AO)→Int→Int→Aq→Th→Option ((Except Int Aw)×(List AO)×Int×Int)
 mean_run_parts:(List AO)→Int→Int→Aq→AE→Nm→Option ((Except Int Aw)×(List AO)×Int×Int)
def K6(φ:Ac)(ao0_1:(List AO))(ao0_2 ao0_3:Int)(ao1:Aq)(a1:AE)(a2:Nm):Option ((Except Int Aw)×(List AO)×Int×Int):=
 (φ.mean_run_parts ao0_1 (i64.wrap (ao0_2+(1:Int))) ao0_3 ao1 a1 a2).bind fun x1007=>Jd x1007.1 (fun y1021=>some ((Except.error y1021:Except Int Aw),x1007.2.1,x1007.2.2.1,x1007.2.2.2)) fun r1023=>some ((Except.ok r1023:Except Int Aw),x1007.2.1,x1007.2.2.1,x1007.2.2.2)
def JL(φ:Ac)(ao0_1:(List AO))(ao0_2 ao0_3:Int)(ao1:Aq)(a1:AE)(a2:Nm)(x1151:AO)(self2:Nm→Int→Option ((Except Int Aw)×(List AO)×Int×Int))(x1339:Nm)(x1342:Int):Option ((Except Int Aw)×(List AO)×Int×Int):=
 bif (decide (x1342< (x1151.params.length:Int))) then ((idx x1151.params x1342).bind fun x1497=>(idx a1.args x1342).bind fun x1592=>(JU x1592).bind fun x1611=>self2 (Nm.bind x1497.name (Th.later x1611 a2) x1339) (i64.wrap (x1342+(1:Int)))) else ((φ.mean_run_look ao0_1 (i64.wrap (ao0_2+(1:Int))) ao0_3 ao1 (AE.mk x1151.body.op x1151.body.name x1151.body.tail x1151.body.type_ x1151.body.num x1151.body.args x1151.body.at_) x1339).bind fun x1655=>Jd x1655.1 (fun y1669=>some ((Except.error y1669:Except Int Aw),x1655.2.1,x1655.2.2.1,x1655.2.2.2)) fun r1671=>some ((Except.ok r1671:Except Int Aw),x1655.2.1,x1655.2.2.1,x1655.2.2.2))
def GL(φ:Ac)(ao0_1:(List AO))(ao0_2 ao0_3:Int)(ao1:Aq)(a1:AE)(a2:Nm)(x1151:AO):Nat→Nm→Int→Option ((Except Int Aw)×(List AO)×Int×Int)
 |0=>fun _ _=>none
 |k+1=>JL φ ao0_1 ao0_2 ao0_3 ao1 a1 a2 x1151 (GL φ ao0_1 ao0_2 ao0_3 ao1 a1 a2 x1151 k)
def Cd(φ:Ac)(N:Nat)(ao0_1:(List AO))(ao0_2 ao0_3:Int)(ao1:Aq)(a1:AE)(a2:Nm):Option ((Except Int Aw)×(List AO)×Int×Int):=
 bif (a1.op==(1:Int)) then (some ((Except.ok (Aw.mk (AG.mk (1:Int) a1.num false []) Th.nil Th.nil):Except Int Aw),ao0_1,(i64.wrap (ao0_2+(1:Int))),ao0_3)) else (bif (a1.op==(2:Int)) then (some ((Except.ok (Aw.mk (AG.mk (2:Int) ((0,0):Nat×Nat) true []) Th.nil Th.nil):Except Int Aw),ao0_1,(i64.wrap (ao0_2+(1:Int))),ao0_3)) else (bif (a1.op==(3:Int)) then (some ((Except.ok (Aw.mk (AG.mk (2:Int) ((0,0):Nat×Nat) false []) Th.nil Th.nil):Except Int Aw),ao0_1,(i64.wrap (ao0_2+(1:Int))),ao0_3)) else (bif (a1.op==(4:Int)) then (some ((Except.ok (Aw.mk (AG.mk (3:Int) ((0,0):Nat×Nat) false []) Th.nil Th.nil):Except Int Aw),ao0_1,(i64.wrap (ao0_2+(1:Int))),ao0_3)) else (bif (a1.op==(5:Int)) then (some ((Except.error (52:Int):Except Int Aw),ao0_1,(i64.wrap (ao0_2+(1:Int))),ao0_3)) else (bif (a1.op==(6:Int)) then ((Dk N a2 a1.name).bind fun x1087=>(φ.mean_callth ao0_1 (i64.wrap (ao0_2+(1:Int))) ao0_3 ao1 x1087).bind fun x1098=>Jd x1098.1 (fun y1116=>some ((Except.error y1116:Except Int Aw),x1098.2.1,x1098.2.2.1,x1098.2.2.2)) fun r1118=>some ((Except.ok r1118:Except Int Aw),x1098.2.1,x1098.2.2.1,x1098.2.2.2)) else (bif (a1.op==(7:Int)) then ((idx ao0_1 (Cr ao1 a1.name)).bind fun x1151=>GL φ ao0_1 ao0_2 ao0_3 ao1 a1 a2 x1151 N Nm.nil (0:Int)) else (bif (a1.op==(18:Int)) then ((idx a1.args (0:Int)).bind fun x1946=>(idx a1.args (1:Int)).bind fun x1965=>(JU x1946).bind fun x1983=>(JU x1965).bind fun x2003=>some ((Except.ok (Aw.mk (AG.mk (0:Int) ((0,0):Nat×Nat) false []) (Th.later x1983 a2) (Th.later x2003 a2)):Except Int Aw),ao0_1,(i64.wrap (ao0_2+(1:Int))),ao0_3)) else (K6 φ ao0_1 ao0_2 ao0_3 ao1 a1 a2))))))))
def BH(φ:Ac)(N:Nat)(ao0_1:(List AO))(ao0_2 ao0_3:Int)(ao1:Aq)(a1:AE)(a2:Nm):Option ((Except Int Aw)×(List AO)×Int×Int):=
 bif (decide (ao0_2≥ao0_3)) then (some ((Except.error (60:Int):Except Int Aw),ao0_1,ao0_2,ao0_3)) else (Cd φ N ao0_1 ao0_2 ao0_3 ao1 a1 a2)
def Lu(φ:Ac)(_N:Nat)(ao0_1:(List AO))(ao0_2 ao0_3:Int)(ao1:Aq)(a1:AE)(a2:Nm):Option ((Except Int Aw)×(List AO)×Int×Int):=
 (φ.mean_run_look ao0_1 ao0_2 ao0_3 ao1 a1 a2).bind fun x29=>Jd x29.1 (fun y43=>some ((Except.error y43:Except Int Aw),x29.2.1,x29.2.2.1,x29.2.2.2)) fun r45=>some ((Except.ok r45:Except Int Aw),x29.2.1,x29.2.2.1,x29.2.2.2)
def LK(φ:Ac)(_N:Nat)(ao0_1:(List AO))(ao0_2 ao0_3:Int)(ao1:Aq)(a1:Th):Option ((Except Int Aw)×(List AO)×Int×Int):=
 match a1 with
 | .nil=>none
 | .done p h t=>(JK ⟨p,h,t⟩).bind fun r=>some ((Except.ok r:Except Int Aw),ao0_1,ao0_2,ao0_3)
 | .later e env=>φ.mean_later_1 ao0_1 ao0_2 ao0_3 ao1 e env
def Lv(x1085:(List AO))(x1089 x1090:Int)(x1312:(AG×Int)):Option ((Except Int Aw)×(List AO)×Int×Int):=
 some ((Except.ok (Aw.mk x1312.1 Th.nil Th.nil):Except Int Aw),x1085,x1089,x1090)
def BW(φ:Ac)(N:Nat)(ao1:Aq)(a1:AE)(a2:Nm)(self1:(List AG)→Int→(List AO)→Int→Int→Option ((Except Int Aw)×(List AO)×Int×Int))(x1080:(List AG))(x1084:Int)(x1085:(List AO))(x1089 x1090:Int):Option ((Except Int Aw)×(List AO)×Int×Int):=
 bif (decide (x1084< (a1.args.length:Int))) then ((idx a1.args x1084).bind fun x1214=>(φ.mean_run_look x1085 x1089 x1090 ao1 x1214 a2).bind fun x1249=>Jd x1249.1 (fun y1263=>some ((Except.error y1263:Except Int Aw),x1249.2.1,x1249.2.2.1,x1249.2.2.2)) fun r1265=>(HF 56 x1080 ([(AG.mk r1265.plain.type_ r1265.plain.num r1265.plain.bool r1265.plain.list)]:List AG)).bind fun _=>self1 (x1080++([(AG.mk r1265.plain.type_ r1265.plain.num r1265.plain.bool r1265.plain.list)]:List AG)) (i64.wrap (x1084+(1:Int))) x1249.2.1 x1249.2.2.1 x1249.2.2.2) else ((EK N a1.op x1080).bind fun x1312=>bif (x1312.2 != (0:Int)) then (some ((Except.error x1312.2:Except Int Aw),x1085,x1089,x1090)) else (Lv x1085 x1089 x1090 x1312))
def DU(φ:Ac)(N:Nat)(ao1:Aq)(a1:AE)(a2:Nm):Nat→(List AG)→Int→(List AO)→Int→Int→Option ((Except Int Aw)×(List AO)×Int×Int)
 |0=>fun _ _ _ _ _=>none
 |k+1=>BW φ N ao1 a1 a2 (DU φ N ao1 a1 a2 k)
def A6(φ:Ac)(N:Nat)(ao0_1:(List AO))(ao0_2 ao0_3:Int)(ao1:Aq)(a1:AE)(a2:Nm):Option ((Except Int Aw)×(List AO)×Int×Int):=
 bif (a1.op==(19:Int)) then ((idx a1.args (0:Int)).bind fun x28=>(φ.mean_run_look ao0_1 ao0_2 ao0_3 ao1 x28 a2).bind fun x51=>Jd x51.1 (fun y65=>some ((Except.error y65:Except Int Aw),x51.2.1,x51.2.2.1,x51.2.2.2)) fun r67=>bif r67.plain.bool then ((idx a1.args (1:Int)).bind fun x86=>(φ.mean_run_look x51.2.1 x51.2.2.1 x51.2.2.2 ao1 x86 a2).bind fun x107=>Jd x107.1 (fun y121=>some ((Except.error y121:Except Int Aw),x107.2.1,x107.2.2.1,x107.2.2.2)) fun r123=>some ((Except.ok r123:Except Int Aw),x107.2.1,x107.2.2.1,x107.2.2.2)) else ((idx a1.args (2:Int)).bind fun x151=>(φ.mean_run_look x51.2.1 x51.2.2.1 x51.2.2.2 ao1 x151 a2).bind fun x172=>Jd x172.1 (fun y186=>some ((Except.error y186:Except Int Aw),x172.2.1,x172.2.2.1,x172.2.2.2)) fun r188=>some ((Except.ok r188:Except Int Aw),x172.2.1,x172.2.2.1,x172.2.2.2))) else (bif (a1.op==(20:Int)) then ((idx a1.args (0:Int)).bind fun x216=>(φ.mean_run_look ao0_1 ao0_2 ao0_3 ao1 x216 a2).bind fun x239=>Jd x239.1 (fun y253=>some ((Except.error y253:Except Int Aw),x239.2.1,x239.2.2.1,x239.2.2.2)) fun r255=>bif (Th.isNil r255.head) then ((idx a1.args (1:Int)).bind fun x286=>(φ.mean_run_look x239.2.1 x239.2.2.1 x239.2.2.2 ao1 x286 a2).bind fun x309=>Jd x309.1 (fun y323=>some ((Except.error y323:Except Int Aw),x309.2.1,x309.2.2.1,x309.2.2.2)) fun r325=>some ((Except.ok r325:Except Int Aw),x309.2.1,x309.2.2.1,x309.2.2.2)) else ((idx a1.args (2:Int)).bind fun x493=>(φ.mean_run_look x239.2.1 x239.2.2.1 x239.2.2.2 ao1 x493 (Nm.bind a1.tail r255.tail (Nm.bind a1.name r255.head a2))).bind fun x536=>Jd x536.1 (fun y550=>some ((Except.error y550:Except Int Aw),x536.2.1,x536.2.2.1,x536.2.2.2)) fun r552=>some ((Except.ok r552:Except Int Aw),x536.2.1,x536.2.2.1,x536.2.2.2))) else (bif (a1.op==(21:Int)) then ((idx a1.args (0:Int)).bind fun x587=>(JU x587).bind fun x606=>(idx a1.args (1:Int)).bind fun x631=>(φ.mean_run_look ao0_1 ao0_2 ao0_3 ao1 x631 (Nm.letrec a1.name x606 a2)).bind fun x662=>Jd x662.1 (fun y676=>some ((Except.error y676:Except Int Aw),x662.2.1,x662.2.2.1,x662.2.2.2)) fun r678=>some ((Except.ok r678:Except Int Aw),x662.2.1,x662.2.2.1,x662.2.2.2)) else (bif (a1.op==(22:Int)) then ((idx a1.args (0:Int)).bind fun x706=>(φ.mean_run_look ao0_1 ao0_2 ao0_3 ao1 x706 a2).bind fun x729=>Jd x729.1 (fun y743=>some ((Except.error y743:Except Int Aw),x729.2.1,x729.2.2.1,x729.2.2.2)) fun r745=>(idx a1.args (1:Int)).bind fun x880=>(Ia r745).bind fun x903=>(φ.mean_run_look x729.2.1 x729.2.2.1 x729.2.2.2 ao1 x880 (Nm.bind a1.name x903 a2)).bind fun x927=>Jd x927.1 (fun y941=>some ((Except.error y941:Except Int Aw),x927.2.1,x927.2.2.1,x927.2.2.2)) fun r943=>some ((Except.ok r943:Except Int Aw),x927.2.1,x927.2.2.1,x927.2.2.2)) else (DU φ N ao1 a1 a2 N ([]:List AG) (0:Int) ao0_1 ao0_2 ao0_3))))
def Ac.at:Nat→Ac
 |0=>⟨fun _ _ _ _ _ _=>none,fun _ _ _ _ _ _=>none,fun _ _ _ _ _=>none,fun _ _ _ _ _ _=>none⟩
 |n+1=>⟨BH (Ac.at n) n,Lu (Ac.at n) n,LK (Ac.at n) n,A6 (Ac.at n) n⟩
def mean_run_look(N:Nat):(List AO)→Int→Int→Aq→AE→Nm→Option ((Except Int Aw)×(List AO)×Int×Int):=(Ac.at N).mean_run_look
def mean_later_1(N:Nat):(List AO)→Int→Int→Aq→AE→Nm→Option ((Except Int Aw)×(List AO)×Int×Int):=(Ac.at N).mean_later_1
def mean_callth(N:Nat):(List AO)→Int→Int→Aq→Th→Option ((Except Int Aw)×(List AO)×Int×Int):=(Ac.at N).mean_callth
def mean_run_parts(N:Nat):(List AO)→Int→Int→Aq→AE→Nm→Option ((Except Int Aw)×(List AO)×Int×Int):=(Ac.at N).mean_run_parts
def Ce(N:Nat)(ao1:Aq)(self1:(List AO)→Int→Int→Int→(Nat×Nat)→Bool→(List (Nat×Nat))→Th→Th→(List (Nat×Nat))→Option ((Except Int AG)×(List AO)×Int×Int))(x283:(List AO))(x287 x288 _x289:Int)(_x290:(Nat×Nat))(_x291:Bool)(_x292:(List (Nat×Nat)))(x296 x299:Th)(x302:(List (Nat×Nat))):Option ((Except Int AG)×(List AO)×Int×Int):=
 bif (!(Th.isNil x296)) then ((mean_callth N x283 x287 x288 ao1 x296).bind fun x661=>Jd x661.1 (fun y679=>some ((Except.error y679:Except Int AG),x661.2.1,x661.2.2.1,x661.2.2.2)) fun r681=>(HF 16 x302 ([r681.plain.num]:List (Nat×Nat))).bind fun _=>(mean_callth N x661.2.1 x661.2.2.1 x661.2.2.2 ao1 x299).bind fun x730=>Jd x730.1 (fun y748=>some ((Except.error y748:Except Int AG),x730.2.1,x730.2.2.1,x730.2.2.2)) fun r750=>self1 x730.2.1 x730.2.2.1 x730.2.2.2 r750.plain.type_ r750.plain.num r750.plain.bool r750.plain.list r750.head r750.tail (x302++([r681.plain.num]:List (Nat×Nat)))) else (some ((Except.ok (AG.mk (3:Int) ((0,0):Nat×Nat) false x302):Except Int AG),x283,x287,x288))
def Dy(N:Nat)(ao1:Aq):Nat→(List AO)→Int→Int→Int→(Nat×Nat)→Bool→(List (Nat×Nat))→Th→Th→(List (Nat×Nat))→Option ((Except Int AG)×(List AO)×Int×Int)
 |0=>fun _ _ _ _ _ _ _ _ _ _=>none
 |k+1=>Ce N ao1 (Dy N ao1 k)
def EM(N:Nat)(ao0_1:(List AO))(ao0_2 ao0_3:Int)(ao1:Aq)(a1:Aw):Option ((Except Int AG)×(List AO)×Int×Int):=
 bif (Th.isNil a1.head) then (some ((Except.ok (AG.mk a1.plain.type_ a1.plain.num a1.plain.bool a1.plain.list):Except Int AG),ao0_1,ao0_2,ao0_3)) else (Dy N ao1 N ao0_1 ao0_2 ao0_3 a1.plain.type_ a1.plain.num a1.plain.bool a1.plain.list a1.head a1.tail ([]:List (Nat×Nat)))
def Lw(N:Nat)(x239:AO)(x421:Nm)(x424:Int)(self2:(Nm→Int→Option (BC)))(x560:AG)(x614:Bool):Option (BC):=
 bif x614 then (some (BC.mk (40:Int) (AG.mk (0:Int) ((0,0):Nat×Nat) false []) (0:Int) (0:Int) (0:Int) (0:Int))) else ((idx x239.params x424).bind fun x627=>(Il N x560).bind fun x642=>self2 (Nm.bind x627.name x642 x421) (i64.wrap (x424+(1:Int))))
def Fy(N:Nat)(a0:AM)(a2:(List AG))(a3:Int)(x120:Aq)(x239:AO)(self2:Nm→Int→Option (BC))(x421:Nm)(x424:Int):Option (BC):=
 bif (decide (x424< (a2.length:Int))) then ((idx a2 x424).bind fun x560=>(idx x239.params x424).bind fun x666=>bif (x560.type_ != x666.type_) then (Lw N x239 x421 x424 self2 x560 true) else ((DR N x560).bind fun x681=>Lw N x239 x421 x424 self2 x560 (x681 != (0:Int)))) else ((mean_run_look N a0.funcs (0:Int) (if (16384:Int)< (if a3< (0:Int) then (0:Int) else a3) then (16384:Int) else (if a3< (0:Int) then (0:Int) else a3)) x120 (AE.mk x239.body.op x239.body.name x239.body.tail x239.body.type_ x239.body.num x239.body.args x239.body.at_) x421).bind fun x699=>Jd x699.1 (fun y713=>some (BC.mk y713 (AG.mk (0:Int) ((0,0):Nat×Nat) false []) x699.2.2.1 (0:Int) (0:Int) (0:Int))) fun r715=>(EM N x699.2.1 x699.2.2.1 x699.2.2.2 x120 r715).bind fun x757=>Jd x757.1 (fun y771=>some (BC.mk y771 (AG.mk (0:Int) ((0,0):Nat×Nat) false []) x757.2.2.1 (0:Int) (0:Int) (0:Int))) fun r773=>some (BC.mk (0:Int) r773 x757.2.2.1 (0:Int) (0:Int) (0:Int)))
def Ez(N:Nat)(a0:AM)(a2:(List AG))(a3:Int)(x120:Aq)(x239:AO):Nat→Nm→Int→Option (BC)
 |0=>fun _ _=>none
 |k+1=>Fy N a0 a2 a3 x120 x239 (Ez N a0 a2 a3 x120 x239 k)
def JX(N:Nat)(a0:AM)(a1:Bts)(a2:(List AG))(a3:Int)(self1:Int→Aq→Option (BC))(x119:Int)(x120:Aq):Option (BC):=
 bif (decide (x119< (a0.funcs.length:Int))) then ((idx a0.funcs x119).bind fun x183=>self1 (i64.wrap (x119+(1:Int))) (L7 x183.name x119 x120)) else (bif (!(OE x120 a1)) then (some (BC.mk (32:Int) (AG.mk (0:Int) ((0,0):Nat×Nat) false []) (0:Int) (0:Int) (0:Int) (0:Int))) else ((idx a0.funcs (Cr x120 a1)).bind fun x239=>bif ((a2.length:Int) != (x239.params.length:Int)) then (some (BC.mk (40:Int) (AG.mk (0:Int) ((0,0):Nat×Nat) false []) (0:Int) (0:Int) (0:Int) (0:Int))) else (Ez N a0 a2 a3 x120 x239 N Nm.nil (0:Int))))
def JM(N:Nat)(a0:AM)(a1:Bts)(a2:(List AG))(a3:Int):Nat→Int→Aq→Option (BC)
 |0=>fun _ _=>none
 |k+1=>JX N a0 a1 a2 a3 (JM N a0 a1 a2 a3 k)
def GN(N:Nat)(a0:AM)(a1:Bts)(a2:(List AG))(a3:Int):Option (BC):=
 (G4 N a0).bind fun x25=>bif (x25.why != (0:Int)) then (some (BC.mk (3:Int) (AG.mk (0:Int) ((0,0):Nat×Nat) false []) (0:Int) (0:Int) (0:Int) (0:Int))) else (JM N a0 a1 a2 a3 N (0:Int) ([]:Aq))
def Gj(x106:Bool):Option (Bool):=
 some x106
def Hs(N:Nat):Option (Bool):=
 (CD N (GZ.mk ([(102:UInt8),(40:UInt8),(120:UInt8),(32:UInt8),(78:UInt8),(41:UInt8),(58:UInt8),(78:UInt8),(61:UInt8),(120:UInt8),(43:UInt8),(120:UInt8),(59:UInt8),(103:UInt8),(40:UInt8),(41:UInt8),(58:UInt8),(78:UInt8),(61:UInt8),(102:UInt8),(40:UInt8),(49:UInt8),(43:UInt8),(50:UInt8),(41:UInt8),(59:UInt8)]:List UInt8) ([103]:List UInt8) ([]:List UInt8))).bind fun x16=>(GN N x16.1 ([103]:List UInt8) x16.2.1 (99:Int)).bind fun x48=>(GN N x16.1 ([103]:List UInt8) x16.2.1 (9:Int)).bind fun x75=>bif x16.2.2 then (bif (x48.why==(0:Int)) then (bif (x48.value.type_==(1:Int)) then (bif (ceq x48.value.num ((4618441417868443648,0):Nat×Nat)) then (bif (x48.moves==(10:Int)) then (bif (x75.why==(60:Int)) then (Gj (x75.moves==(9:Int))) else (Gj false)) else (Gj false)) else (Gj false)) else (Gj false)) else (Gj false)) else (Gj false)
def KH(a0:AM)(a1:Bts)(self1:Int→Option (Int))(x48:Int):Option (Int):=
 bif (decide (x48< (a0.funcs.length:Int))) then ((idx a0.funcs x48).bind fun x94=>bif (x94.name==a1) then (some x48) else (self1 (i64.wrap (x48+(1:Int))))) else (some (-1:Int))
def Io(a0:AM)(a1:Bts):Nat→Int→Option (Int)
 |0=>fun _=>none
 |k+1=>KH a0 a1 (Io a0 a1 k)
def G6(N:Nat)(a0:AM)(a1:Bts):Option (Int):=
 Io a0 a1 N (0:Int)
def LL(a0:(List Bts))(a1:Bts)(self1:Int→Option (Bool))(x27:Int):Option (Bool):=
 bif (decide (x27< (a0.length:Int))) then ((idx a0 x27).bind fun x59=>bif (x59==a1) then (some true) else (self1 (i64.wrap (x27+(1:Int))))) else (some false)
def J8(a0:(List Bts))(a1:Bts):Nat→Int→Option (Bool)
 |0=>fun _=>none
 |k+1=>LL a0 a1 (J8 a0 a1 k)
def I6(N:Nat)(a0:(List Bts))(a1:Bts):Option (Bool):=
 J8 a0 a1 N (0:Int)
def Ly(a0:AE)(x37:Bool):Option ((List Bts)):=
 bif x37 then (some ([a0.name,a0.tail]:List Bts)) else (some [])
def Km(a0:AE)(a1:Int)(x15:Bool):Option ((List Bts)):=
 bif x15 then (some ([a0.name]:List Bts)) else (bif (a0.op==(20:Int)) then (Ly a0 (a1==(2:Int))) else (Ly a0 false))
def IV(a0:AE)(a1:Int):Option ((List Bts)):=
 bif (a0.op==(21:Int)) then (Km a0 a1 (a0.op==(21:Int))) else (bif (a0.op==(22:Int)) then (Km a0 a1 (a1==(1:Int))) else (Km a0 a1 false))
def Ip(a0:(List Bts))(a1:(List Bts)):Option ((List Bts)):=
 (HF 16 ([]:List Bts) a0).bind fun _=>(HF 16 (([]:List Bts)++a0) a1).bind fun _=>some ((([]:List Bts)++a0)++a1)
structure Bb where
 ref06_seen:AE→(List Bts)→Option ((List BE))
def Iq(φ:Bb)(a0:AE)(a1:(List Bts))(self1:(List BE)→Int→Option ((List BE)))(x197:(List BE))(x201:Int):Option ((List BE)):=
 bif (decide (x201< (a0.args.length:Int))) then ((IV a0 x201).bind fun x296=>(Ip a1 x296).bind fun x308=>(idx a0.args x201).bind fun x320=>(φ.ref06_seen x320 x308).bind fun x339=>(HF 104 x197 x339).bind fun _=>self1 (x197++x339) (i64.wrap (x201+(1:Int)))) else (some x197)
def IW(φ:Bb)(a0:AE)(a1:(List Bts)):Nat→(List BE)→Int→Option ((List BE))
 |0=>fun _ _=>none
 |k+1=>Iq φ a0 a1 (IW φ a0 a1 k)
def JY(φ:Bb)(N:Nat)(a0:AE)(a1:(List Bts))(x108:(List BE)):Option ((List BE)):=
 IW φ a0 a1 N x108 (0:Int)
def LM(φ:Bb)(N:Nat)(a0:AE)(a1:(List Bts))(x367:Bool):Option ((List BE)):=
 bif x367 then (bif (a0.op==(6:Int)) then ((I6 N a1 a0.name).bind fun x405=>(HF 104 ([]:List BE) ([(BE.mk a0 (!x405))]:List BE)).bind fun _=>JY φ N a0 a1 (([]:List BE)++([(BE.mk a0 (!x405))]:List BE))) else ((HF 104 ([]:List BE) ([(BE.mk a0 false)]:List BE)).bind fun _=>JY φ N a0 a1 (([]:List BE)++([(BE.mk a0 false)]:List BE)))) else (JY φ N a0 a1 ([]:List BE))
def K7(φ:Bb)(N:Nat)(a0:AE)(a1:(List Bts)):Option ((List BE)):=
 bif (a0.op==(6:Int)) then (LM φ N a0 a1 true) else (LM φ N a0 a1 (a0.op==(7:Int)))
def Bb.at:Nat→Bb
 |0=>⟨fun _ _=>none⟩
 |n+1=>⟨K7 (Bb.at n) n⟩
def ref06_seen(N:Nat):AE→(List Bts)→Option ((List BE)):=(Bb.at N).ref06_seen
def I7(x3569:AO)(x3797:(List Bts))(x3801:Int)(self6:((List AD)→(List Bts)→Int→Option ((List AD))))(x4031:(List AD)):Option ((List AD)):=
 (idx x3569.params x3801).bind fun x4041=>(HF 16 x3797 ([x4041.name]:List Bts)).bind fun _=>self6 x4031 (x3797++([x4041.name]:List Bts)) (i64.wrap (x3801+(1:Int)))
def F2(x4528:Int)(self7:((List AD)→Int→Option ((List AD))))(x5102:(List AD)):Option ((List AD)):=
 self7 x5102 (i64.wrap (x4528+(1:Int)))
def F3(N:Nat)(a0:AM)(x4528:Int)(self7:((List AD)→Int→Option ((List AD))))(x5111:BE)(x5164:(List AD)):Option ((List AD)):=
 bif (x5111.e.op != (7:Int)) then (F2 x4528 self7 x5164) else ((G6 N a0 x5111.e.name).bind fun x5177=>bif (decide (x5177< (0:Int))) then ((HF 16 x5164 ([(AD.mk (32:Int) x5111.e.at_)]:List AD)).bind fun _=>F2 x4528 self7 (x5164++([(AD.mk (32:Int) x5111.e.at_)]:List AD))) else ((idx a0.funcs x5177).bind fun x5209=>bif ((x5209.params.length:Int) != (x5111.e.args.length:Int)) then ((HF 16 x5164 ([(AD.mk (33:Int) x5111.e.at_)]:List AD)).bind fun _=>F2 x4528 self7 (x5164++([(AD.mk (33:Int) x5111.e.at_)]:List AD))) else (F2 x4528 self7 x5164)))
def Fc(N:Nat)(a0:AM)(x1785:Int)(self5:((List AD)→Int→Option ((List AD))))(x4132:((List BE)))(self7:(List AD)→Int→Option ((List AD)))(x4524:(List AD))(x4528:Int):Option ((List AD)):=
 bif (decide (x4528< (x4132.length:Int))) then ((idx x4132 x4528).bind fun x5111=>bif x5111.free then ((HF 16 x4524 ([(AD.mk (31:Int) x5111.e.at_)]:List AD)).bind fun _=>F3 N a0 x4528 self7 x5111 (x4524++([(AD.mk (31:Int) x5111.e.at_)]:List AD))) else (F3 N a0 x4528 self7 x5111 x4524)) else (self5 x4524 (i64.wrap (x1785+(1:Int))))
def EH(N:Nat)(a0:AM)(x1785:Int)(self5:((List AD)→Int→Option ((List AD))))(x4132:((List BE))):Nat→(List AD)→Int→Option ((List AD))
 |0=>fun _ _=>none
 |k+1=>Fc N a0 x1785 self5 x4132 (EH N a0 x1785 self5 x4132 k)
def Fe(N:Nat)(a0:AM)(x1785:Int)(self5:((List AD)→Int→Option ((List AD))))(x3569:AO)(self6:(List AD)→(List Bts)→Int→Option ((List AD)))(x3793:(List AD))(x3797:(List Bts))(x3801:Int):Option ((List AD)):=
 bif (decide (x3801< (x3569.params.length:Int))) then ((idx x3569.params x3801).bind fun x4077=>(I6 N x3797 x4077.name).bind fun x4094=>bif x4094 then ((HF 16 x3793 ([(AD.mk (30:Int) x4077.at_)]:List AD)).bind fun _=>I7 x3569 x3797 x3801 self6 (x3793++([(AD.mk (30:Int) x4077.at_)]:List AD))) else (I7 x3569 x3797 x3801 self6 x3793)) else ((ref06_seen N (AE.mk x3569.body.op x3569.body.name x3569.body.tail x3569.body.type_ x3569.body.num x3569.body.args x3569.body.at_) x3797).bind fun x4132=>EH N a0 x1785 self5 x4132 N x3793 (0:Int))
def Eh(N:Nat)(a0:AM)(x1785:Int)(self5:((List AD)→Int→Option ((List AD))))(x3569:AO):Nat→(List AD)→(List Bts)→Int→Option ((List AD))
 |0=>fun _ _ _=>none
 |k+1=>Fe N a0 x1785 self5 x3569 (Eh N a0 x1785 self5 x3569 k)
def I8(N:Nat)(a0:AM)(x1785:Int)(self5:((List AD)→Int→Option ((List AD))))(x3569:AO)(x3636:(List AD)):Option ((List AD)):=
 Eh N a0 x1785 self5 x3569 N x3636 ([]:List Bts) (0:Int)
def HP(N:Nat)(a0:AM)(self5:(List AD)→Int→Option ((List AD)))(x1781:(List AD))(x1785:Int):Option ((List AD)):=
 bif (decide (x1785< (a0.funcs.length:Int))) then ((idx a0.funcs x1785).bind fun x3569=>(G6 N a0 x3569.name).bind fun x5294=>bif (decide (x5294<x1785)) then ((HF 16 x1781 ([(AD.mk (30:Int) x3569.at_)]:List AD)).bind fun _=>I8 N a0 x1785 self5 x3569 (x1781++([(AD.mk (30:Int) x3569.at_)]:List AD))) else (I8 N a0 x1785 self5 x3569 x1781)) else (some x1781)
def Ei(N:Nat)(a0:AM):Nat→(List AD)→Int→Option ((List AD))
 |0=>fun _ _=>none
 |k+1=>HP N a0 (Ei N a0 k)
def HW(N:Nat)(a0:AM):Option ((List AD)):=
 Ei N a0 N ([]:List AD) (0:Int)
def Kn(x171:Int)(self1:(Int→Int→Int→Option (AD)))(x377 x378:Int):Option (AD):=
 self1 (i64.wrap (x171+(1:Int))) x377 x378
def Ko(x21:((List AD)))(x171 x172 x173:Int)(self1:(Int→Int→Int→Option (AD)))(x401:Bool):Option (AD):=
 bif x401 then ((idx x21 x171).bind fun x406=>Kn x171 self1 x406.why x406.at_) else (Kn x171 self1 x172 x173)
def IA(x21:((List AD)))(self1:Int→Int→Int→Option (AD))(x171 x172 x173:Int):Option (AD):=
 bif (decide (x171< (x21.length:Int))) then (bif (x172==(0:Int)) then (Ko x21 x171 x172 x173 self1 true) else ((idx x21 x171).bind fun x429=>Ko x21 x171 x172 x173 self1 (decide (x429.at_<x173)))) else (some (AD.mk x172 x173))
def Ht(x21:((List AD))):Nat→Int→Int→Int→Option (AD)
 |0=>fun _ _ _=>none
 |k+1=>IA x21 (Ht x21 k)
def Hu(N:Nat)(a0:AM):Option (AD):=
 (HW N a0).bind fun x21=>Ht x21 N (0:Int) (0:Int) (0:Int)
def Kp(a0:AM)(a1:Bts)(self1:Int→Option (AO×Bool))(x59:Int):Option (AO×Bool):=
 bif (decide (x59< (a0.funcs.length:Int))) then ((idx a0.funcs x59).bind fun x110=>bif (x110.name==a1) then (some (x110,true)) else (self1 (i64.wrap (x59+(1:Int))))) else (some ((AO.mk ([]:List UInt8) [] (0:Int) (AE.mk (0:Int) ([]:List UInt8) ([]:List UInt8) (0:Int) ((0,0):Nat×Nat) [] (0:Int)) (0:Int)),false))
def JZ(a0:AM)(a1:Bts):Nat→Int→Option (AO×Bool)
 |0=>fun _=>none
 |k+1=>Kp a0 a1 (JZ a0 a1 k)
def Gk(N:Nat)(a0:AM)(a1:Bts):Option (AO×Bool):=
 JZ a0 a1 N (0:Int)
def LN(a1:(List AJ))(a2:AE)(self1:Int→Option (Int))(x85:Int):Option (Int):=
 bif (decide (x85≥(0:Int))) then ((idx a1 x85).bind fun x115=>bif (x115.name==a2.name) then (some x115.type_) else (self1 (i64.wrap (x85 - (1:Int))))) else (some (-1:Int))
def J9(a1:(List AJ))(a2:AE):Nat→Int→Option (Int)
 |0=>fun _=>none
 |k+1=>LN a1 a2 (J9 a1 a2 k)
def Lz(x134:(AO×Bool))(x175:Bool):Option (Int):=
 bif x175 then (some (-1:Int)) else (some x134.1.type_)
def K8(N:Nat)(a0:AM)(a1:(List AJ))(a2:AE)(x51:Bool):Option (Int):=
 bif x51 then (some (3:Int)) else (bif (a2.op==(5:Int)) then (some a2.type_) else (bif (a2.op==(6:Int)) then (J9 a1 a2 N (i64.wrap ((a1.length:Int) - (1:Int)))) else (bif (a2.op==(7:Int)) then ((Gk N a0 a2.name).bind fun x134=>bif (!x134.2) then (Lz x134 true) else (Lz x134 ((x134.1.params.length:Int) != (a2.args.length:Int)))) else (some (0:Int)))))
def IM(N:Nat)(a0:AM)(a1:(List AJ))(a2:AE)(x45:Bool):Option (Int):=
 bif x45 then (some (2:Int)) else (bif (a2.op==(4:Int)) then (K8 N a0 a1 a2 (a2.op==(4:Int))) else (K8 N a0 a1 a2 (a2.op==(18:Int))))
def Ff(N:Nat)(a0:AM)(a1:(List AJ))(a2:AE)(x36:Bool):Option (Int):=
 bif x36 then (some (1:Int)) else (bif (a2.op==(2:Int)) then (IM N a0 a1 a2 (a2.op==(2:Int))) else (bif (a2.op==(3:Int)) then (IM N a0 a1 a2 (a2.op==(3:Int))) else (bif (a2.op==(12:Int)) then (IM N a0 a1 a2 (a2.op==(12:Int))) else (bif (a2.op==(13:Int)) then (IM N a0 a1 a2 (a2.op==(13:Int))) else (IM N a0 a1 a2 (a2.op==(14:Int)))))))
def Jw(N:Nat)(a0:AM)(a1:(List AJ))(a2:AE):Option (Int):=
 bif (a2.op==(1:Int)) then (Ff N a0 a1 a2 (a2.op==(1:Int))) else (bif (a2.op==(8:Int)) then (Ff N a0 a1 a2 (a2.op==(8:Int))) else (bif (a2.op==(9:Int)) then (Ff N a0 a1 a2 (a2.op==(9:Int))) else (bif (a2.op==(10:Int)) then (Ff N a0 a1 a2 (a2.op==(10:Int))) else (bif (a2.op==(11:Int)) then (Ff N a0 a1 a2 (a2.op==(11:Int))) else (bif (a2.op==(15:Int)) then (Ff N a0 a1 a2 (a2.op==(15:Int))) else (bif (a2.op==(16:Int)) then (Ff N a0 a1 a2 (a2.op==(16:Int))) else (Ff N a0 a1 a2 (a2.op==(17:Int)))))))))
def HQ(a0:(List AJ))(a1:Bts)(a2:Int):Option ((List AJ)):=
 (HF 32 ([]:List AJ) a0).bind fun _=>(HF 32 (([]:List AJ)++a0) ([(AJ.mk a1 a2 (0:Int))]:List AJ)).bind fun _=>some ((([]:List AJ)++a0)++([(AJ.mk a1 a2 (0:Int))]:List AJ))
def KI(a0:(List AJ))(a1:AE)(x39:Bool):Option ((List AJ)):=
 bif x39 then ((HQ a0 a1.name (1:Int)).bind fun x46=>(HQ x46 a1.tail (3:Int)).bind fun x58=>some x58) else (some a0)
def I9(a0:(List AJ))(a1:AE)(a2:Int)(x19:Bool):Option ((List AJ)):=
 bif x19 then ((HQ a0 a1.name a1.type_).bind fun x26=>some x26) else (bif (a1.op==(20:Int)) then (KI a0 a1 (a2==(2:Int))) else (KI a0 a1 false))
def Gl(a0:(List AJ))(a1:AE)(a2:Int):Option ((List AJ)):=
 bif (a1.op==(21:Int)) then (I9 a0 a1 a2 (a1.op==(21:Int))) else (bif (a1.op==(22:Int)) then (I9 a0 a1 a2 (a2==(1:Int))) else (I9 a0 a1 a2 false))
def JA:Option (Int):=
 some (1:Int)
def KJ(a2:Int)(x113:(AO×Bool))(x149:Bool):Option (Int):=
 bif x149 then ((idx x113.1.params a2).bind fun x155=>some x155.type_) else (JA)
def KK(a1:AE)(a2 a3:Int)(x178:Bool):Option (Int):=
 bif x178 then (bif (a2==(0:Int)) then (some a1.type_) else (some a3)) else (JA)
def Gq(N:Nat)(a0:AM)(a1:AE)(a2 a3:Int):Option (Int):=
 bif (a1.op==(14:Int)) then (some (2:Int)) else (bif (a1.op==(18:Int)) then (bif (a2==(1:Int)) then (some (3:Int)) else (JA)) else (bif (a1.op==(7:Int)) then ((Gk N a0 a1.name).bind fun x113=>bif x113.2 then (KJ a2 x113 (decide (a2< (x113.1.params.length:Int)))) else (KJ a2 x113 false)) else (bif (a1.op==(19:Int)) then (bif (a2==(0:Int)) then (some (2:Int)) else (some a3)) else (bif (a1.op==(20:Int)) then (bif (a2==(0:Int)) then (some (3:Int)) else (some a3)) else (bif (a1.op==(21:Int)) then (KK a1 a2 a3 (a1.op==(21:Int))) else (KK a1 a2 a3 (a1.op==(22:Int))))))))
structure BT where
 ref07_wrong:AM→(List AJ)→AE→Int→Option ((List Int))
def IB(φ:BT)(N:Nat)(a0:AM)(a1:(List AJ))(a2:AE)(a3:Int)(self1:(List Int)→Int→Option ((List Int)))(x159:(List Int))(x163:Int):Option ((List Int)):=
 bif (decide (x163< (a2.args.length:Int))) then ((idx a2.args x163).bind fun x264=>(Gl a1 a2 x163).bind fun x284=>(Gq N a0 a2 x163 a3).bind fun x297=>(φ.ref07_wrong a0 x284 x264 x297).bind fun x305=>(HF 8 x159 x305).bind fun _=>self1 (x159++x305) (i64.wrap (x163+(1:Int)))) else (some x159)
def Hv(φ:BT)(N:Nat)(a0:AM)(a1:(List AJ))(a2:AE)(a3:Int):Nat→(List Int)→Int→Option ((List Int))
 |0=>fun _ _=>none
 |k+1=>IB φ N a0 a1 a2 a3 (Hv φ N a0 a1 a2 a3 k)
def Jx(φ:BT)(N:Nat)(a0:AM)(a1:(List AJ))(a2:AE)(a3:Int)(x68:(List Int)):Option ((List Int)):=
 Hv φ N a0 a1 a2 a3 N x68 (0:Int)
def Kq(φ:BT)(N:Nat)(a0:AM)(a1:(List AJ))(a2:AE)(a3:Int)(x333:Bool):Option ((List Int)):=
 bif x333 then ((HF 8 ([]:List Int) ([a2.at_]:List Int)).bind fun _=>Jx φ N a0 a1 a2 a3 (([]:List Int)++([a2.at_]:List Int))) else (Jx φ N a0 a1 a2 a3 ([]:List Int))
def KS(φ:BT)(N:Nat)(a0:AM)(a1:(List AJ))(a2:AE)(a3:Int):Option ((List Int)):=
 (Jw N a0 a1 a2).bind fun x33=>bif (x33 != (0:Int)) then (Kq φ N a0 a1 a2 a3 (x33 != a3)) else (Kq φ N a0 a1 a2 a3 false)
def BT.at:Nat→BT
 |0=>⟨fun _ _ _ _=>none⟩
 |n+1=>⟨KS (BT.at n) n⟩
def ref07_wrong(N:Nat):AM→(List AJ)→AE→Int→Option ((List Int)):=(BT.at N).ref07_wrong
def Ir(x1145:Int)(self4:(Int→Int→Int→Option (AD)))(x1351 x1352:Int):Option (AD):=
 self4 (i64.wrap (x1145+(1:Int))) x1351 x1352
def Is(x1001:((List Int)))(x1145 x1146 x1147:Int)(self4:(Int→Int→Int→Option (AD)))(x1375:Bool):Option (AD):=
 bif x1375 then ((idx x1001 x1145).bind fun x1380=>Ir x1145 self4 (34:Int) x1380) else (Ir x1145 self4 x1146 x1147)
def Ej(x500:Int)(self3:(Int→Int→Int→Option (AD)))(x1001:((List Int)))(self4:Int→Int→Int→Option (AD))(x1145 x1146 x1147:Int):Option (AD):=
 bif (decide (x1145< (x1001.length:Int))) then (bif (x1146==(0:Int)) then (Is x1001 x1145 x1146 x1147 self4 true) else ((idx x1001 x1145).bind fun x1403=>Is x1001 x1145 x1146 x1147 self4 (decide (x1403<x1147)))) else (self3 (i64.wrap (x500+(1:Int))) x1146 x1147)
def FF(x500:Int)(self3:(Int→Int→Int→Option (AD)))(x1001:((List Int))):Nat→Int→Int→Int→Option (AD)
 |0=>fun _ _ _=>none
 |k+1=>Ej x500 self3 x1001 (FF x500 self3 x1001 k)
def IC(N:Nat)(a0:AM)(self3:Int→Int→Int→Option (AD))(x500 x501 x502:Int):Option (AD):=
 bif (decide (x500< (a0.funcs.length:Int))) then ((idx a0.funcs x500).bind fun x976=>(ref07_wrong N a0 x976.params (AE.mk x976.body.op x976.body.name x976.body.tail x976.body.type_ x976.body.num x976.body.args x976.body.at_) x976.type_).bind fun x1001=>FF x500 self3 x1001 N (0:Int) x501 x502) else (some (AD.mk x501 x502))
def CE(N:Nat)(a0:AM):Nat→Int→Int→Int→Option (AD)
 |0=>fun _ _ _=>none
 |k+1=>IC N a0 (CE N a0 k)
def G7(N:Nat)(a0:AM):Option (AD):=
 (Hu N a0).bind fun x21=>bif (x21.why != (0:Int)) then (some x21) else (CE N a0 N (0:Int) x21.why x21.at_)
def LO(x128:Int)(self1:(Int→Option (Bool)))(x275:Bool):Option (Bool):=
 bif x275 then (some false) else (self1 (i64.wrap (x128+(1:Int))))
def It(N:Nat)(a0:AO)(a1:(List AG))(self1:Int→Option (Bool))(x128:Int):Option (Bool):=
 bif (decide (x128< (a1.length:Int))) then ((idx a1 x128).bind fun x282=>(idx a0.params x128).bind fun x302=>bif (x282.type_ != x302.type_) then (LO x128 self1 true) else ((CC N x282).bind fun x316=>LO x128 self1 (!x316))) else (some true)
def IX(N:Nat)(a0:AO)(a1:(List AG)):Nat→Int→Option (Bool)
 |0=>fun _=>none
 |k+1=>It N a0 a1 (IX N a0 a1 k)
def Gs(N:Nat)(a0:AO)(a1:(List AG)):Option (Bool):=
 bif ((a1.length:Int) != (a0.params.length:Int)) then (some false) else (IX N a0 a1 N (0:Int))
def KL(a0:AG)(self1:Th→Int→Option (Th))(x70:Th)(x73:Int):Option (Th):=
 bif (decide (x73≥(0:Int))) then ((idx a0.list x73).bind fun x116=>self1 (Th.done (AG.mk (0:Int) ((0,0):Nat×Nat) false []) (Th.done (AG.mk (1:Int) x116 false []) Th.nil Th.nil) x70) (i64.wrap (x73 - (1:Int)))) else (some x70)
def Iu(a0:AG):Nat→Th→Int→Option (Th)
 |0=>fun _ _=>none
 |k+1=>KL a0 (Iu a0 k)
def Hw(N:Nat)(a0:AG):Option (Th):=
 bif (a0.type_ != (3:Int)) then (some (Th.done a0 Th.nil Th.nil)) else (Iu a0 N (Th.done (AG.mk (3:Int) ((0,0):Nat×Nat) false []) Th.nil Th.nil) (i64.wrap ((a0.list.length:Int) - (1:Int))))
def I0(ao0:AT)(x13:Int):Option (Th×AT):=
 some ((Th.later (AE.mk (0:Int) ([]:List UInt8) ([]:List UInt8) (0:Int) ((0,0):Nat×Nat) [] (0:Int)) Nm.nil),(AT.mk (AM.mk ao0.p.funcs) ao0.most ao0.cost x13))
def DY(ao0:AT)(a1:Int):Option (Th×AT):=
 bif (ao0.why==(0:Int)) then (I0 ao0 a1) else (I0 ao0 ao0.why)
def MW(a1:Bts)(self1:Nm→Option (Th))(x22:Nm):Option (Th):=
 (x22.view).bind fun x50=>bif (!(x50.1==a1)) then (self1 x50.2.2) else (some x50.2.1)
def Gt(a1:Bts):Nat→Nm→Option (Th)
 |0=>fun _=>none
 |k+1=>MW a1 (Gt a1 k)
def GO(N:Nat)(a0:Nm)(a1:Bts):Option (Th):=
 Gt a1 N a0
def Kr(x14:Bool):Option (Int×Int):=
 bif x14 then (some ((1:Int),(1:Int))) else (some ((0:Int),(0:Int)))
def Hx(a0:Int)(x6:Bool):Option (Int×Int):=
 bif x6 then (some ((2:Int),(1:Int))) else (bif (a0==(14:Int)) then (some ((1:Int),(2:Int))) else (bif (a0==(15:Int)) then (Kr (a0==(15:Int))) else (bif (a0==(16:Int)) then (Kr (a0==(16:Int))) else (Kr (a0==(17:Int))))))
def G8(a0:Int):Option (Int×Int):=
 bif (a0==(8:Int)) then (Hx a0 (a0==(8:Int))) else (bif (a0==(9:Int)) then (Hx a0 (a0==(9:Int))) else (bif (a0==(10:Int)) then (Hx a0 (a0==(10:Int))) else (bif (a0==(11:Int)) then (Hx a0 (a0==(11:Int))) else (bif (a0==(12:Int)) then (Hx a0 (a0==(12:Int))) else (Hx a0 (a0==(13:Int)))))))
def JB(a0 a1:Ad):Option (Ad×Int):=
 (He (Ad.mk (i64.wrap (a0.re+a1.re)) (i64.wrap (a0.im+a1.im)))).bind fun x21=>some (x21.1,x21.2)
def CW(a0:Ad)(a1:Int):Option (AG×Int):=
 bif (a1 != (0:Int)) then (some ((AG.mk (0:Int) ((0,0):Nat×Nat) false []),a1)) else ((F9 a0).bind fun x19=>some ((AG.mk (1:Int) x19 false []),(0:Int)))
def JC(a0 a1:Ad):Option (Ad×Int):=
 (He (Ad.mk (i64.wrap (a0.re - a1.re)) (i64.wrap (a0.im - a1.im)))).bind fun x21=>some (x21.1,x21.2)
def JD(a0 a1:Ad):Option (Ad×Int):=
 (He (Ad.mk (i64.wrap ((i64.wrap (a0.re*a1.re)) - (i64.wrap (a0.im*a1.im)))) (i64.wrap ((i64.wrap (a0.re*a1.im))+(i64.wrap (a0.im*a1.re)))))).bind fun x21=>some (x21.1,x21.2)
def K9(a0 a1:Ad)(x27:Bool):Option (Ad×Int):=
 bif x27 then (some ((Ad.mk (0:Int) (0:Int)),(51:Int))) else ((nz (i64.wrap ((i64.wrap (a1.re*a1.re))+(i64.wrap (a1.im*a1.im))))).bind fun _=>(nz (i64.wrap ((i64.wrap (a1.re*a1.re))+(i64.wrap (a1.im*a1.im))))).bind fun _=>(He (Ad.mk (i64.wrap ((i64.wrap ((i64.wrap (a0.re*a1.re))+(i64.wrap (a0.im*a1.im)))).tdiv (i64.wrap ((i64.wrap (a1.re*a1.re))+(i64.wrap (a1.im*a1.im)))))) (i64.wrap ((i64.wrap ((i64.wrap (a0.im*a1.re)) - (i64.wrap (a0.re*a1.im)))).tdiv (i64.wrap ((i64.wrap (a1.re*a1.re))+(i64.wrap (a1.im*a1.im)))))))).bind fun x60=>some (x60.1,x60.2))
def JE(a0 a1:Ad):Option (Ad×Int):=
 bif ((i64.wrap ((i64.wrap (a1.re*a1.re))+(i64.wrap (a1.im*a1.im))))==(0:Int)) then (K9 a0 a1 true) else ((nz (i64.wrap ((i64.wrap (a1.re*a1.re))+(i64.wrap (a1.im*a1.im))))).bind fun _=>bif (((i64.wrap ((i64.wrap (a0.re*a1.re))+(i64.wrap (a0.im*a1.im)))).tmod (i64.wrap ((i64.wrap (a1.re*a1.re))+(i64.wrap (a1.im*a1.im))))) != (0:Int)) then (K9 a0 a1 true) else ((nz (i64.wrap ((i64.wrap (a1.re*a1.re))+(i64.wrap (a1.im*a1.im))))).bind fun _=>K9 a0 a1 (((i64.wrap ((i64.wrap (a0.im*a1.re)) - (i64.wrap (a0.re*a1.im)))).tmod (i64.wrap ((i64.wrap (a1.re*a1.re))+(i64.wrap (a1.im*a1.im))))) != (0:Int))))
def G9(a0:Bool):Option (AG×Int):=
 some ((AG.mk (2:Int) ((0,0):Nat×Nat) a0 []),(0:Int))
def KT(x16:Bool):Option (Bool):=
 some x16
def ID(a0 a1:Ad):Option (Bool):=
 bif (decide (a0.re<a1.re)) then (KT true) else (bif (a0.re==a1.re) then (KT (decide (a0.im<a1.im))) else (KT false))
def Ek(a1:(List AG))(x156:(List Ad))(x160:Int)(self1:(Bool→(List Ad)→Int→Option (AG×Int)))(x331:Bool):Option (AG×Int):=
 (idx a1 x160).bind fun x335=>(Ey x335.num).bind fun x354=>(HF 16 x156 ([x354.1]:List Ad)).bind fun _=>self1 x331 (x156++([x354.1]:List Ad)) (i64.wrap (x160+(1:Int)))
def Ks(N:Nat)(a0:Int)(a1:(List AG))(x11:(Int×Int))(x155:Bool)(x156:(List Ad))(x160:Int)(self1:(Bool→(List Ad)→Int→Option (AG×Int)))(x300:Bool):Option (AG×Int):=
 bif x300 then ((idx a1 x160).bind fun x393=>(CC N x393).bind fun x412=>bif x412 then (Ek a1 x156 x160 self1 (x393.type_==x11.2)) else (Ek a1 x156 x160 self1 false)) else (bif (!x155) then (some ((AG.mk (0:Int) ((0,0):Nat×Nat) false []),(3:Int))) else (bif (a0==(8:Int)) then ((idx x156 (0:Int)).bind fun x479=>(idx x156 (1:Int)).bind fun x492=>(JB x479 x492).bind fun x504=>(CW x504.1 x504.2).bind fun x511=>some (x511.1,x511.2)) else (bif (a0==(9:Int)) then ((idx x156 (0:Int)).bind fun x584=>(idx x156 (1:Int)).bind fun x597=>(JC x584 x597).bind fun x609=>(CW x609.1 x609.2).bind fun x616=>some (x616.1,x616.2)) else (bif (a0==(10:Int)) then ((idx x156 (0:Int)).bind fun x689=>(idx x156 (1:Int)).bind fun x702=>(JD x689 x702).bind fun x714=>(CW x714.1 x714.2).bind fun x721=>some (x721.1,x721.2)) else (bif (a0==(11:Int)) then ((idx x156 (0:Int)).bind fun x794=>(idx x156 (1:Int)).bind fun x807=>(JE x794 x807).bind fun x819=>(CW x819.1 x819.2).bind fun x826=>some (x826.1,x826.2)) else (bif (a0==(12:Int)) then ((idx x156 (0:Int)).bind fun x892=>(idx x156 (1:Int)).bind fun x905=>(G9 (x892.re==x905.re&&x892.im==x905.im)).bind fun x917=>some (x917.1,x917.2)) else (bif (a0==(13:Int)) then ((idx x156 (0:Int)).bind fun x988=>(idx x156 (1:Int)).bind fun x1001=>(ID x988 x1001).bind fun x1013=>(G9 x1013).bind fun x1018=>some (x1018.1,x1018.2)) else (bif (a0==(14:Int)) then ((idx a1 (0:Int)).bind fun x1038=>(G9 (!x1038.bool)).bind fun x1057=>some (x1057.1,x1057.2)) else (bif (a0==(15:Int)) then ((idx x156 (0:Int)).bind fun x1077=>(CW (Ad.mk x1077.re (0:Int)) (0:Int)).bind fun x1090=>some (x1090.1,x1090.2)) else (bif (a0==(16:Int)) then ((idx x156 (0:Int)).bind fun x1110=>(CW (Ad.mk x1110.im (0:Int)) (0:Int)).bind fun x1123=>some (x1123.1,x1123.2)) else ((idx x156 (0:Int)).bind fun x1188=>(idx x156 (0:Int)).bind fun x1201=>(CW (Ad.mk x1188.re (i64.wrap (0 - x1201.im))) (0:Int)).bind fun x1213=>some (x1213.1,x1213.2))))))))))))
def CT(N:Nat)(a0:Int)(a1:(List AG))(x11:(Int×Int))(self1:Bool→(List Ad)→Int→Option (AG×Int))(x155:Bool)(x156:(List Ad))(x160:Int):Option (AG×Int):=
 bif x155 then (Ks N a0 a1 x11 x155 x156 x160 self1 (decide (x160<x11.1))) else (Ks N a0 a1 x11 x155 x156 x160 self1 false)
def Bm(N:Nat)(a0:Int)(a1:(List AG))(x11:(Int×Int)):Nat→Bool→(List Ad)→Int→Option (AG×Int)
 |0=>fun _ _ _=>none
 |k+1=>CT N a0 a1 x11 (Bm N a0 a1 x11 k)
def L0(N:Nat)(a0:Int)(a1:(List AG))(x11:(Int×Int))(x21:Bool):Option (AG×Int):=
 Bm N a0 a1 x11 N x21 ([]:List Ad) (0:Int)
def Dc(N:Nat)(a0:Int)(a1:(List AG)):Option (AG×Int):=
 (G8 a0).bind fun x11=>bif (decide (x11.1>(0:Int))) then (L0 N a0 a1 x11 ((a1.length:Int)==x11.1)) else (L0 N a0 a1 x11 false)
structure AP where
 ref11_Machine_look:AT→AE→Nm→Option (Th×AT)
 ref11_Machine_of:AT→Th→Option (Th×AT)
 ref11_Machine_inside:AT→AE→Nm→Option (Th×AT)
def Gu(φ:AP)(ao0:AT)(a1:AE)(a2:Nm)(x265:(List AJ))(x270:Int)(x271 x272:Bts)(x273:Int)(x274:(Nat×Nat))(x275:(List AE))(x279:Int)(self1:Nm→Int→Option (Th×AT))(x351:Nm)(x354:Int):Option (Th×AT):=
 bif (decide (x354< (a1.args.length:Int))) then ((idx x265 x354).bind fun x431=>(idx a1.args x354).bind fun x445=>self1 (Nm.bind x431.name (Th.later x445 a2) x351) (i64.wrap (x354+(1:Int)))) else ((φ.ref11_Machine_look (AT.mk (AM.mk ao0.p.funcs) ao0.most (i64.wrap (ao0.cost+(1:Int))) ao0.why) (AE.mk x270 x271 x272 x273 x274 x275 x279) x351).bind fun x493=>some (x493.1,x493.2))
def Eo(φ:AP)(ao0:AT)(a1:AE)(a2:Nm)(x265:(List AJ))(x270:Int)(x271 x272:Bts)(x273:Int)(x274:(Nat×Nat))(x275:(List AE))(x279:Int):Nat→Nm→Int→Option (Th×AT)
 |0=>fun _ _=>none
 |k+1=>Gu φ ao0 a1 a2 x265 x270 x271 x272 x273 x274 x275 x279 (Eo φ ao0 a1 a2 x265 x270 x271 x272 x273 x274 x275 x279 k)
def I1(φ:AP)(N:Nat)(ao0:AT)(a1:AE)(a2:Nm)(x265:(List AJ))(x270:Int)(x271 x272:Bts)(x273:Int)(x274:(Nat×Nat))(x275:(List AE))(x279:Int):Option (Th×AT):=
 Eo φ ao0 a1 a2 x265 x270 x271 x272 x273 x274 x275 x279 N Nm.nil (0:Int)
def I2(ao0:AT)(x694:Th):Option (Th×AT):=
 some (x694,(AT.mk (AM.mk ao0.p.funcs) ao0.most (i64.wrap (ao0.cost+(1:Int))) ao0.why))
def Bv(φ:AP)(N:Nat)(ao0:AT)(a1:AE)(a2:Nm)(x77:Bool):Option (Th×AT):=
 bif x77 then (some ((Th.done (AG.mk (2:Int) ((0,0):Nat×Nat) (a1.op==(2:Int)) []) Th.nil Th.nil),(AT.mk (AM.mk ao0.p.funcs) ao0.most (i64.wrap (ao0.cost+(1:Int))) ao0.why))) else (bif (a1.op==(4:Int)) then (some ((Th.done (AG.mk (3:Int) ((0,0):Nat×Nat) false []) Th.nil Th.nil),(AT.mk (AM.mk ao0.p.funcs) ao0.most (i64.wrap (ao0.cost+(1:Int))) ao0.why))) else (bif (a1.op==(5:Int)) then ((DY (AT.mk (AM.mk ao0.p.funcs) ao0.most (i64.wrap (ao0.cost+(1:Int))) ao0.why) (52:Int)).bind fun x111=>some (x111.1,x111.2)) else (bif (a1.op==(6:Int)) then ((GO N a2 a1.name).bind fun x132=>(φ.ref11_Machine_of (AT.mk (AM.mk ao0.p.funcs) ao0.most (i64.wrap (ao0.cost+(1:Int))) ao0.why) x132).bind fun x142=>some (x142.1,x142.2)) else (bif (a1.op==(7:Int)) then ((Gk N (AM.mk ao0.p.funcs) a1.name).bind fun x551=>I1 φ N ao0 a1 a2 x551.1.params x551.1.body.op x551.1.body.name x551.1.body.tail x551.1.body.type_ x551.1.body.num x551.1.body.args x551.1.body.at_) else (bif (a1.op==(18:Int)) then ((idx a1.args (0:Int)).bind fun x706=>(idx a1.args (1:Int)).bind fun x725=>I2 ao0 (Th.done (AG.mk (0:Int) ((0,0):Nat×Nat) false []) (Th.later x706 a2) (Th.later x725 a2))) else ((φ.ref11_Machine_inside (AT.mk (AM.mk ao0.p.funcs) ao0.most (i64.wrap (ao0.cost+(1:Int))) ao0.why) a1 a2).bind fun x824=>some (x824.1,x824.2)))))))
def BI(φ:AP)(N:Nat)(ao0:AT)(a1:AE)(a2:Nm):Option (Th×AT):=
 bif (ao0.why != (0:Int)) then (some ((Th.later (AE.mk (0:Int) ([]:List UInt8) ([]:List UInt8) (0:Int) ((0,0):Nat×Nat) [] (0:Int)) Nm.nil),ao0)) else (bif (decide (ao0.cost≥ao0.most)) then ((DY ao0 (60:Int)).bind fun x40=>some (x40.1,x40.2)) else (bif (a1.op==(1:Int)) then (some ((Th.done (AG.mk (1:Int) a1.num false []) Th.nil Th.nil),(AT.mk (AM.mk ao0.p.funcs) ao0.most (i64.wrap (ao0.cost+(1:Int))) ao0.why))) else (bif (a1.op==(2:Int)) then (Bv φ N ao0 a1 a2 (a1.op==(2:Int))) else (Bv φ N ao0 a1 a2 (a1.op==(3:Int))))))
def Jg(φ:AP)(ao0:AT)(a1:Th)(x41:Bool):Option (Th×AT):=
 bif x41 then (some (a1,ao0)) else ((a1.view).bind fun x98=>(φ.ref11_Machine_look ao0 x98.e x98.names).bind fun x131=>some (x131.1,x131.2))
def HR(φ:AP)(_N:Nat)(ao0:AT)(a1:Th):Option (Th×AT):=
 bif (ao0.why != (0:Int)) then (Jg φ ao0 a1 true) else ((a1.view).bind fun x150=>Jg φ ao0 a1 x150.known)
def CV(φ:AP)(a1:AE)(a2:Nm)(x195:(Th×AT))(x245:Bool):Option (Th×AT):=
 bif x245 then ((idx a1.args (1:Int)).bind fun x251=>(φ.ref11_Machine_look x195.2 x251 a2).bind fun x273=>some (x273.1,x273.2)) else ((idx a1.args (2:Int)).bind fun x536=>(x195.1.view).bind fun x556=>(φ.ref11_Machine_look x195.2 x536 (Nm.bind a1.tail x556.tail (Nm.bind a1.name x556.head a2))).bind fun x615=>some (x615.1,x615.2))
def Au(φ:AP)(N:Nat)(a1:AE)(a2:Nm)(self1:(List AG)→Int→(List AO)→Int→Int→Int→Option (Th×AT))(x1043:(List AG))(x1047:Int)(x1048:(List AO))(x1052 x1053 x1054:Int):Option (Th×AT):=
 bif (decide (x1047< (a1.args.length:Int))) then ((idx a1.args x1047).bind fun x1189=>(φ.ref11_Machine_look (AT.mk (AM.mk x1048) x1052 x1053 x1054) x1189 a2).bind fun x1208=>(x1208.1.view).bind fun x1226=>(HF 56 x1043 ([x1226.value]:List AG)).bind fun _=>self1 (x1043++([x1226.value]:List AG)) (i64.wrap (x1047+(1:Int))) x1208.2.p.funcs x1208.2.most x1208.2.cost x1208.2.why) else (bif (x1054 != (0:Int)) then (some ((Th.later (AE.mk (0:Int) ([]:List UInt8) ([]:List UInt8) (0:Int) ((0,0):Nat×Nat) [] (0:Int)) Nm.nil),(AT.mk (AM.mk x1048) x1052 x1053 x1054))) else ((Dc N a1.op x1043).bind fun x1299=>bif (x1299.2 != (0:Int)) then ((DY (AT.mk (AM.mk x1048) x1052 x1053 x1054) x1299.2).bind fun x1326=>some (x1326.1,x1326.2)) else (some ((Th.done x1299.1 Th.nil Th.nil),(AT.mk (AM.mk x1048) x1052 x1053 x1054)))))
def BM(φ:AP)(N:Nat)(a1:AE)(a2:Nm):Nat→(List AG)→Int→(List AO)→Int→Int→Int→Option (Th×AT)
 |0=>fun _ _ _ _ _ _=>none
 |k+1=>Au φ N a1 a2 (BM φ N a1 a2 k)
def BL(φ:AP)(N:Nat)(ao0:AT)(a1:AE)(a2:Nm):Option (Th×AT):=
 bif (a1.op==(19:Int)) then ((idx a1.args (0:Int)).bind fun x22=>(φ.ref11_Machine_look ao0 x22 a2).bind fun x44=>(x44.1.view).bind fun x62=>bif x62.value.bool then ((idx a1.args (1:Int)).bind fun x95=>(φ.ref11_Machine_look x44.2 x95 a2).bind fun x115=>some (x115.1,x115.2)) else ((idx a1.args (2:Int)).bind fun x134=>(φ.ref11_Machine_look x44.2 x134 a2).bind fun x154=>some (x154.1,x154.2))) else (bif (a1.op==(20:Int)) then ((idx a1.args (0:Int)).bind fun x173=>(φ.ref11_Machine_look ao0 x173 a2).bind fun x195=>bif (x195.2.why != (0:Int)) then (CV φ a1 a2 x195 true) else ((x195.1.view).bind fun x634=>CV φ a1 a2 x195 (!x634.pair))) else (bif (a1.op==(21:Int)) then ((idx a1.args (0:Int)).bind fun x669=>(idx a1.args (1:Int)).bind fun x706=>(φ.ref11_Machine_look ao0 x706 (Nm.letrec a1.name x669 a2)).bind fun x735=>some (x735.1,x735.2)) else (bif (a1.op==(22:Int)) then ((idx a1.args (0:Int)).bind fun x754=>(φ.ref11_Machine_look ao0 x754 a2).bind fun x776=>(idx a1.args (1:Int)).bind fun x877=>(φ.ref11_Machine_look x776.2 x877 (Nm.bind a1.name x776.1 a2)).bind fun x911=>some (x911.1,x911.2)) else (BM φ N a1 a2 N ([]:List AG) (0:Int) ao0.p.funcs ao0.most ao0.cost ao0.why))))
def AP.at:Nat→AP
 |0=>⟨fun _ _ _=>none,fun _ _=>none,fun _ _ _=>none⟩
 |n+1=>⟨BI (AP.at n) n,HR (AP.at n) n,BL (AP.at n) n⟩
def ref11_Machine_look(N:Nat):AT→AE→Nm→Option (Th×AT):=(AP.at N).ref11_Machine_look
def ref11_Machine_of(N:Nat):AT→Th→Option (Th×AT):=(AP.at N).ref11_Machine_of
def ref11_Machine_inside(N:Nat):AT→AE→Nm→Option (Th×AT):=(AP.at N).ref11_Machine_inside
def Bn(N:Nat)(x382:Th)(x385:(List AO))(x389 x390 x391:Int)(x392:(List (Nat×Nat)))(self1:(Th→(List AO)→Int→Int→Int→(List (Nat×Nat))→Option (AG×AT)))(x725:Bool):Option (AG×AT):=
 bif x725 then ((x382.view).bind fun x731=>(ref11_Machine_of N (AT.mk (AM.mk x385) x389 x390 x391) x731.head).bind fun x764=>(x764.1.view).bind fun x839=>(HF 16 x392 ([x839.value.num]:List (Nat×Nat))).bind fun _=>(ref11_Machine_of N x764.2 x731.tail).bind fun x901=>self1 x901.1 x901.2.p.funcs x901.2.most x901.2.cost x901.2.why (x392++([x839.value.num]:List (Nat×Nat)))) else (some ((AG.mk (3:Int) ((0,0):Nat×Nat) false x392),(AT.mk (AM.mk x385) x389 x390 x391)))
def Cw(N:Nat)(self1:Th→(List AO)→Int→Int→Int→(List (Nat×Nat))→Option (AG×AT))(x382:Th)(x385:(List AO))(x389 x390 x391:Int)(x392:(List (Nat×Nat))):Option (AG×AT):=
 bif (x391==(0:Int)) then ((x382.view).bind fun x937=>Bn N x382 x385 x389 x390 x391 x392 self1 x937.pair) else (Bn N x382 x385 x389 x390 x391 x392 self1 false)
def Bq(N:Nat):Nat→Th→(List AO)→Int→Int→Int→(List (Nat×Nat))→Option (AG×AT)
 |0=>fun _ _ _ _ _ _=>none
 |k+1=>Cw N (Bq N k)
def EY(N:Nat)(ao0:AT)(a1:Th)(x49:Bool):Option (AG×AT):=
 bif x49 then ((a1.view).bind fun x55=>some (x55.value,ao0)) else (Bq N N a1 ao0.p.funcs ao0.most ao0.cost ao0.why ([]:List (Nat×Nat)))
def CO(N:Nat)(ao0:AT)(a1:Th):Option (AG×AT):=
 bif (ao0.why==(0:Int)) then ((a1.view).bind fun x974=>EY N ao0 a1 (!x974.pair)) else (EY N ao0 a1 false)
def FG(N:Nat)(a0:AM)(a2:(List AG))(a3:Int)(x40:(AO×Bool))(self1:Nm→Int→Option (BC))(x159:Nm)(x162:Int):Option (BC):=
 bif (decide (x162< (a2.length:Int))) then ((idx x40.1.params x162).bind fun x238=>(idx a2 x162).bind fun x251=>(Hw N x251).bind fun x270=>self1 (Nm.bind x238.name x270 x159) (i64.wrap (x162+(1:Int)))) else ((ref11_Machine_look N (AT.mk a0 (if (16384:Int)< (if a3< (0:Int) then (0:Int) else a3) then (16384:Int) else (if a3< (0:Int) then (0:Int) else a3)) (0:Int) (0:Int)) (AE.mk x40.1.body.op x40.1.body.name x40.1.body.tail x40.1.body.type_ x40.1.body.num x40.1.body.args x40.1.body.at_) x159).bind fun x294=>(CO N x294.2 x294.1).bind fun x312=>bif (x312.2.why != (0:Int)) then (some (BC.mk x312.2.why (AG.mk (0:Int) ((0,0):Nat×Nat) false []) x312.2.cost (0:Int) (0:Int) (0:Int))) else (some (BC.mk (0:Int) x312.1 x312.2.cost (0:Int) (0:Int) (0:Int))))
def GY(N:Nat)(a0:AM)(a2:(List AG))(a3:Int)(x40:(AO×Bool)):Nat→Nm→Int→Option (BC)
 |0=>fun _ _=>none
 |k+1=>FG N a0 a2 a3 x40 (GY N a0 a2 a3 x40 k)
def F7(N:Nat)(a0:AM)(a1:Bts)(a2:(List AG))(a3:Int):Option (BC):=
 (G7 N a0).bind fun x25=>bif (x25.why != (0:Int)) then (some (BC.mk (3:Int) (AG.mk (0:Int) ((0,0):Nat×Nat) false []) (0:Int) (0:Int) (0:Int) (0:Int))) else ((Gk N a0 a1).bind fun x40=>bif (!x40.2) then (some (BC.mk (32:Int) (AG.mk (0:Int) ((0,0):Nat×Nat) false []) (0:Int) (0:Int) (0:Int) (0:Int))) else ((Gs N x40.1 a2).bind fun x80=>bif (!x80) then (some (BC.mk (40:Int) (AG.mk (0:Int) ((0,0):Nat×Nat) false []) (0:Int) (0:Int) (0:Int) (0:Int))) else (GY N a0 a2 a3 x40 N Nm.nil (0:Int))))
def Kt(a0 a1:AG)(self1:Int→Option (Bool))(x100:Int):Option (Bool):=
 bif (decide (x100< (a0.list.length:Int))) then ((idx a0.list x100).bind fun x155=>(idx a1.list x100).bind fun x169=>bif (cne x155 x169) then (some false) else (self1 (i64.wrap (x100+(1:Int))))) else (some true)
def Ja(a0 a1:AG):Nat→Int→Option (Bool)
 |0=>fun _=>none
 |k+1=>Kt a0 a1 (Ja a0 a1 k)
def HX(N:Nat)(a0 a1:AG)(x54:Bool):Option (Bool):=
 bif x54 then (some false) else (Ja a0 a1 N (0:Int))
def Jb(N:Nat)(a0 a1:AG):Option (Bool):=
 (CC N a0).bind fun x185=>bif (!x185) then (HX N a0 a1 true) else ((CC N a1).bind fun x193=>bif (!x193) then (HX N a0 a1 true) else (bif (a0.type_ != a1.type_) then (HX N a0 a1 true) else (bif (cne a0.num a1.num) then (HX N a0 a1 true) else (bif (!(a0.bool==a1.bool)) then (HX N a0 a1 true) else (HX N a0 a1 ((a0.list.length:Int) != (a1.list.length:Int)))))))
def Hy(x47:Bool):Option (Bool):=
 some x47
def Jy(N:Nat)(a0 a1:AG)(x27:Bool):Option (Bool):=
 bif x27 then (bif (ceq a0.num ((0,0):Nat×Nat)) then (bif (ceq a1.num ((0,0):Nat×Nat)) then (bif (!a0.bool) then (bif (!a1.bool) then (bif ((a0.list.length:Int)==(0:Int)) then (Hy ((a1.list.length:Int)==(0:Int))) else (Hy false)) else (Hy false)) else (Hy false)) else (Hy false)) else (Hy false)) else ((Jb N a0 a1).bind fun x70=>some x70)
def GP(N:Nat)(a0 a1:AG):Option (Bool):=
 bif (a0.type_==(0:Int)) then (Jy N a0 a1 (a1.type_==(0:Int))) else (Jy N a0 a1 false)
def HY(x40:Bool):Option (Bool):=
 some x40
def Iv(N:Nat)(a0 a1:BC):Option (Bool):=
 bif (a0.why==a1.why) then ((GP N (AG.mk a0.value.type_ a0.value.num a0.value.bool a0.value.list) (AG.mk a1.value.type_ a1.value.num a1.value.bool a1.value.list)).bind fun x48=>bif x48 then (bif (a0.moves==a1.moves) then (bif (a0.thunks==a1.thunks) then (bif (a0.updates==a1.updates) then (HY (a0.calls==a1.calls)) else (HY false)) else (HY false)) else (HY false)) else (HY false)) else (HY false)
def KA(x92:Bool):Option (Bool):=
 some x92
def Dl(N:Nat)(a0:GZ)(a1:Int):Option (Bool):=
 (Hs N).bind fun x13=>bif (!x13) then (some false) else ((CD N a0).bind fun x21=>bif (!x21.2.2) then (KA true) else ((GN N x21.1 a0.name x21.2.1 a1).bind fun x103=>(F7 N x21.1 a0.name x21.2.1 a1).bind fun x118=>(Iv N x103 x118).bind fun x132=>KA x132))
end Fth
