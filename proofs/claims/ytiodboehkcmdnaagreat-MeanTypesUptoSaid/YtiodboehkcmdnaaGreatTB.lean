/- Part 2 of the proof: what it says holds of the given program; no condition. -/
import Derived.Test.YtiodboehkcmdnaaGreatTA
set_option linter.all false
set_option exponentiation.threshold 3000
namespace Fth
open Go Go.IntKind
set_option maxRecDepth 100000
def JO:Option (Af):=
 some (Af.mk (32768:Int) (32768:Int) (32768:Int) (32768:Int))
def H4(x4:Bool):Option (Bool):=
 some x4
def G9(a0:UInt8):Option (Bool):=
 bif (((a0).toNat:Int)==(((9:UInt8)).toNat:Int)) then (H4 true) else (bif (((a0).toNat:Int)==(((10:UInt8)).toNat:Int)) then (H4 true) else (bif (((a0).toNat:Int)==(((13:UInt8)).toNat:Int)) then (H4 true) else (H4 (((a0).toNat:Int)==(((32:UInt8)).toNat:Int)))))
def GU(x5:Bool):Option (Bool):=
 some x5
def GC(a0:UInt8):Option (Bool):=
 bif (decide (((a0).toNat:Int)≥(((65:UInt8)).toNat:Int))) then (bif (decide (((a0).toNat:Int)≤(((90:UInt8)).toNat:Int))) then (GU true) else (bif (decide (((a0).toNat:Int)≥(((97:UInt8)).toNat:Int))) then (GU (decide (((a0).toNat:Int)≤(((122:UInt8)).toNat:Int)))) else (GU false))) else (bif (decide (((a0).toNat:Int)≥(((97:UInt8)).toNat:Int))) then (GU (decide (((a0).toNat:Int)≤(((122:UInt8)).toNat:Int)))) else (GU false))
def Ju(x2:Bool):Option (Bool):=
 some x2
def GW(a0:UInt8):Option (Bool):=
 bif (decide (((a0).toNat:Int)≥(((48:UInt8)).toNat:Int))) then (Ju (decide (((a0).toNat:Int)≤(((57:UInt8)).toNat:Int)))) else (Ju false)
def GD(x76:Int)(self1:(Int→Option (Int)))(x183:Bool):Option (Int):=
 bif x183 then (self1 (i64.wrap (x76+(1:Int)))) else (some x76)
def F8(a0:Bts)(a1:Int)(self1:Int→Option (Int))(x76:Int):Option (Int):=
 bif (decide ((i64.wrap (a1+x76))< (a0.length:Int))) then ((idx a0 (i64.wrap (a1+x76))).bind fun x193=>(GC x193).bind fun x205=>bif x205 then (GD x76 self1 true) else ((GW x193).bind fun x212=>bif x212 then (GD x76 self1 true) else (GD x76 self1 (((x193).toNat:Int)==(((95:UInt8)).toNat:Int))))) else (GD x76 self1 false)
def ES(a0:Bts)(a1:Int):Nat→Int→Option (Int)
 |0=>fun _=>none
 |k+1=>F8 a0 a1 (ES a0 a1 k)
def H1(N:Nat)(a0:Bts)(a1:Int):Option (Int):=
 ES a0 a1 N (0:Int)
def Kr(x41:Int)(x85:Int):Option (Int×Int):=
 some (x85,x41)
def Ea(a0:Bts)(x12:Int)(x40:Int)(x41:Int)(self1:(Int→Int→Option (Int×Int)))(x76:Bool):Option (Int×Int):=
 bif x76 then ((idx a0 x41).bind fun x81=>self1 (if (16777217:Int)< (i64.wrap ((i64.wrap ((10:Int)*x40))+(i64.wrap ((((u8c (((x81).toNat:Int) - (((48:UInt8)).toNat:Int)))).toNat:Int))))) then (16777217:Int) else (i64.wrap ((i64.wrap ((10:Int)*x40))+(i64.wrap ((((u8c (((x81).toNat:Int) - (((48:UInt8)).toNat:Int)))).toNat:Int)))))) (i64.wrap (x41+(1:Int)))) else (bif (x41==x12) then (some ((0:Int),(0:Int))) else (bif (x12==(1:Int)) then (Kr x41 (i64.wrap (0 - x40))) else (Kr x41 x40)))
def Ey(a0:Bts)(x12:Int)(self1:Int→Int→Option (Int×Int))(x40:Int)(x41:Int):Option (Int×Int):=
 bif (decide (x41< (a0.length:Int))) then ((idx a0 x41).bind fun x91=>bif (decide (((x91).toNat:Int)≥(((48:UInt8)).toNat:Int))) then ((idx a0 x41).bind fun x94=>Ea a0 x12 x40 x41 self1 (decide (((x94).toNat:Int)≤(((57:UInt8)).toNat:Int)))) else (Ea a0 x12 x40 x41 self1 false)) else (Ea a0 x12 x40 x41 self1 false)
def EE(a0:Bts)(x12:Int):Nat→Int→Int→Option (Int×Int)
 |0=>fun _ _=>none
 |k+1=>Ey a0 x12 (EE a0 x12 k)
def H5(N:Nat)(a0:Bts)(x12:Int):Option (Int×Int):=
 EE a0 x12 N (0:Int) x12
def HA(N:Nat)(a0:Bts)(x99:Bool):Option (Int×Int):=
 bif x99 then (H5 N a0 (1:Int)) else (H5 N a0 (0:Int))
def Eb(N:Nat)(a0:Bts):Option (Int×Int):=
 bif (decide ((a0.length:Int)>(0:Int))) then ((idx a0 (0:Int)).bind fun x105=>HA N a0 (((x105).toNat:Int)==(((45:UInt8)).toNat:Int))) else (HA N a0 false)
def JL(a0:Ai)(x17:Bool):Option (Ai×Int):=
 bif x17 then (some ((Ai.mk (0:Int) (0:Int)),(50:Int))) else (some (a0,(0:Int)))
def HB(a0:Ai):Option (Ai×Int):=
 bif (decide (a0.re< (-16777216:Int))) then (JL a0 true) else (bif (decide (a0.re>(16777216:Int))) then (JL a0 true) else (bif (decide (a0.im< (-16777216:Int))) then (JL a0 true) else (JL a0 (decide (a0.im>(16777216:Int))))))
structure A9 where
 ref01_digits:Int→Option (Bts)
def Ka(x35:Bts):Option (Bts):=
 some x35
def DF(φ:A9)(_N:Nat)(a0:Int):Option (Bts):=
 bif (decide (a0< (0:Int))) then ((φ.ref01_digits (i64.wrap (0 - a0))).bind fun x2=>(O3 ([45]:List UInt8) x2).bind fun x7=>some x7) else ((nz (10:Int)).bind fun _=>bif (decide (a0≥(10:Int))) then ((nz (10:Int)).bind fun _=>(φ.ref01_digits (i64.wrap (a0.tdiv (10:Int)))).bind fun x42=>(O3 x42 ([(u8c ((i64.wrap ((48:Int)+(a0.tmod (10:Int))))))]:List UInt8)).bind fun x47=>Ka x47) else (Ka ([(u8c ((i64.wrap ((48:Int)+(a0.tmod (10:Int))))))]:List UInt8)))
def A9.at:Nat→A9
 |0=>⟨fun _=>none⟩
 |n+1=>⟨DF (A9.at n) n⟩
def ref01_digits(N:Nat):Int→Option (Bts):=(A9.at N).ref01_digits
def Fn(N:Nat)(a0:Ai):Option (Bts):=
 bif (a0.im==(0:Int)) then ((ref01_digits N a0.re).bind fun x8=>some x8) else (bif (a0.re==(0:Int)) then ((ref01_digits N a0.im).bind fun x14=>(O3 x14 ([105]:List UInt8)).bind fun x19=>some x19) else (bif (decide (a0.im>(0:Int))) then ((ref01_digits N a0.re).bind fun x25=>(O3 x25 ([43]:List UInt8)).bind fun x30=>(ref01_digits N a0.im).bind fun x32=>(O3 x30 x32).bind fun x37=>(O3 x37 ([105]:List UInt8)).bind fun x39=>some x39) else ((ref01_digits N a0.re).bind fun x44=>(ref01_digits N a0.im).bind fun x49=>(O3 x44 x49).bind fun x54=>(O3 x54 ([105]:List UInt8)).bind fun x56=>some x56)))
def Ks(x60:Int)(x61:Int)(x91:Bool):Option (Ai×Int):=
 bif x91 then (some ((Ai.mk (0:Int) (0:Int)),(10:Int))) else (some ((Ai.mk x60 x61),(0:Int)))
def FX(N:Nat)(a0:Bts)(x60:Int)(x61:Int):Option (Ai×Int):=
 (HB (Ai.mk x60 x61)).bind fun x67=>bif (x67.2 != (0:Int)) then (Ks x60 x61 true) else ((Fn N (Ai.mk x60 x61)).bind fun x109=>Ks x60 x61 (!(x109==a0)))
def HC(N:Nat)(a0:Bts)(x7:(Int×Int))(x125:Bts):Option (Ai×Int):=
 (Eb N x125).bind fun x129=>FX N a0 x7.1 x129.1
def EO(N:Nat)(a0:Bts):Option (Ai×Int):=
 (Eb N a0).bind fun x7=>bif (x7.2==(0:Int)) then (some ((Ai.mk (0:Int) (0:Int)),(10:Int))) else ((sub a0 x7.2 (a0.length:Int)).bind fun x28=>bif (x28==([105]:List UInt8)) then (FX N a0 (0:Int) x7.1) else (bif (!(x28==([]:List UInt8))) then ((idx x28 (0:Int)).bind fun x139=>bif (((x139).toNat:Int)==(((43:UInt8)).toNat:Int)) then ((sub x28 (1:Int) (x28.length:Int)).bind fun x142=>HC N a0 x7 x142) else (HC N a0 x7 x28)) else (FX N a0 x7.1 (0:Int))))
def Fq(a0:Ai):Option ((Nat×Nat)):=
 some ((FloatKind.f64.nearest a0.re),(FloatKind.f64.nearest a0.im))
def Ic:Option ((List Bts)):=
 some ([([66]:List UInt8),([76]:List UInt8),([78]:List UInt8),([99,97,115,101]:List UInt8),([99,111,110,106]:List UInt8),([101,108,115,101]:List UInt8),([102,97,105,108]:List UInt8),([102,97,108,115,101]:List UInt8),([105,102]:List UInt8),([105,109]:List UInt8),([105,110]:List UInt8),([108,101,116]:List UInt8),([110,105,108]:List UInt8),([110,111,116]:List UInt8),([111,102]:List UInt8),([114,101]:List UInt8),([115,116,114,105,99,116]:List UInt8),([116,104,101,110]:List UInt8),([116,114,117,101]:List UInt8)]:List Bts)
def Dk(a0:Bts)(x1:((List Bts)))(self1:Int→Option (Bool))(x34:Int):Option (Bool):=
 bif (decide (x34< (x1.length:Int))) then ((idx x1 x34).bind fun x66=>bif (x66==a0) then (some true) else (self1 (i64.wrap (x34+(1:Int))))) else (some false)
def DW(a0:Bts)(x1:((List Bts))):Nat→Int→Option (Bool)
 |0=>fun _=>none
 |k+1=>Dk a0 x1 (DW a0 x1 k)
def DX(N:Nat)(a0:Bts):Option (Bool):=
 (Ic).bind fun x1=>DW a0 x1 N (0:Int)
def Dl(x78:Bool):Option (Int):=
 bif x78 then (some (1:Int)) else (some (0:Int))
def FY(a0:Bts)(a1:Int)(x49:Bool):Option (Int):=
 bif x49 then (some (2:Int)) else ((idx a0 a1).bind fun x54=>bif (((x54).toNat:Int)==(((40:UInt8)).toNat:Int)) then (Dl (((x54).toNat:Int)==(((40:UInt8)).toNat:Int))) else (bif (((x54).toNat:Int)==(((41:UInt8)).toNat:Int)) then (Dl (((x54).toNat:Int)==(((41:UInt8)).toNat:Int))) else (bif (((x54).toNat:Int)==(((44:UInt8)).toNat:Int)) then (Dl (((x54).toNat:Int)==(((44:UInt8)).toNat:Int))) else (bif (((x54).toNat:Int)==(((58:UInt8)).toNat:Int)) then (Dl (((x54).toNat:Int)==(((58:UInt8)).toNat:Int))) else (bif (((x54).toNat:Int)==(((59:UInt8)).toNat:Int)) then (Dl (((x54).toNat:Int)==(((59:UInt8)).toNat:Int))) else (bif (((x54).toNat:Int)==(((61:UInt8)).toNat:Int)) then (Dl (((x54).toNat:Int)==(((61:UInt8)).toNat:Int))) else (bif (((x54).toNat:Int)==(((43:UInt8)).toNat:Int)) then (Dl (((x54).toNat:Int)==(((43:UInt8)).toNat:Int))) else (bif (((x54).toNat:Int)==(((45:UInt8)).toNat:Int)) then (Dl (((x54).toNat:Int)==(((45:UInt8)).toNat:Int))) else (bif (((x54).toNat:Int)==(((42:UInt8)).toNat:Int)) then (Dl (((x54).toNat:Int)==(((42:UInt8)).toNat:Int))) else (bif (((x54).toNat:Int)==(((47:UInt8)).toNat:Int)) then (Dl (((x54).toNat:Int)==(((47:UInt8)).toNat:Int))) else (bif (((x54).toNat:Int)==(((60:UInt8)).toNat:Int)) then (Dl (((x54).toNat:Int)==(((60:UInt8)).toNat:Int))) else (Dl (((x54).toNat:Int)==(((124:UInt8)).toNat:Int))))))))))))))
def H6(a0:Bts)(a1:Int):Option (Int):=
 bif (decide ((i64.wrap (a1+(1:Int)))< (a0.length:Int))) then ((idx a0 a1).bind fun x98=>bif (((x98).toNat:Int)==(((45:UInt8)).toNat:Int)) then ((idx a0 (i64.wrap (a1+(1:Int)))).bind fun x111=>bif (((x111).toNat:Int)==(((62:UInt8)).toNat:Int)) then (FY a0 a1 true) else (bif (((x98).toNat:Int)==(((61:UInt8)).toNat:Int)) then (FY a0 a1 (((x111).toNat:Int)==(((61:UInt8)).toNat:Int))) else (FY a0 a1 false))) else (bif (((x98).toNat:Int)==(((61:UInt8)).toNat:Int)) then ((idx a0 (i64.wrap (a1+(1:Int)))).bind fun x126=>FY a0 a1 (((x126).toNat:Int)==(((61:UInt8)).toNat:Int))) else (FY a0 a1 false))) else (FY a0 a1 false)
def Lu(a1:Int)(x17:Bts)(x145:Int):Option (Ac×Bool):=
 some ((Ac.mk x145 x17 ((0,0):Nat×Nat) a1),true)
def Hn(N:Nat)(a0:Bts)(a1:Int)(x12:Int)(x17:Bts)(x121:Bool):Option (Ac×Bool):=
 bif x121 then (some ((Ac.mk (0:Int) x17 ((0,0):Nat×Nat) a1),false)) else (bif (decide (x12>(0:Int))) then ((DX N x17).bind fun x157=>bif x157 then (Lu a1 x17 (1:Int)) else (Lu a1 x17 (0:Int))) else ((H6 a0 a1).bind fun x170=>(sub a0 a1 (i64.wrap (a1+x170))).bind fun x180=>some ((Ac.mk (3:Int) x180 ((0,0):Nat×Nat) a1),(decide (x170>(0:Int))))))
def Hp(N:Nat)(a0:Bts)(a1:Int)(x12:Int)(x17:Bts)(x63:Bool):Option (Ac×Bool):=
 bif x63 then ((EO N x17).bind fun x69=>(Fq x69.1).bind fun x92=>some ((Ac.mk (2:Int) x17 x92 a1),(x69.2==(0:Int)))) else (bif (decide (x12>(0:Int))) then ((idx a0 a1).bind fun x207=>Hn N a0 a1 x12 x17 (((x207).toNat:Int)==(((95:UInt8)).toNat:Int))) else (Hn N a0 a1 x12 x17 false))
def HW(N:Nat)(a0:Bts)(a1:Int):Option (Ac×Bool):=
 (H1 N a0 a1).bind fun x12=>(sub a0 a1 (i64.wrap (a1+x12))).bind fun x17=>bif (decide (x12>(0:Int))) then ((idx a0 a1).bind fun x221=>(GW x221).bind fun x234=>Hp N a0 a1 x12 x17 x234) else (Hp N a0 a1 x12 x17 false)
def HD(x186:(List Ac))(self3:((List Ac)→Int→Option ((List Ac)×Int)))(x425:Int)(self4:(Int→Option ((List Ac)×Int)))(x490:Bool):Option ((List Ac)×Int):=
 bif x490 then (self4 (i64.wrap (x425+(1:Int)))) else (self3 x186 x425)
def Ez(a0:Bts)(x186:(List Ac))(self3:((List Ac)→Int→Option ((List Ac)×Int)))(self4:Int→Option ((List Ac)×Int))(x425:Int):Option ((List Ac)×Int):=
 bif (decide (x425< (a0.length:Int))) then ((idx a0 x425).bind fun x501=>HD x186 self3 x425 self4 (((x501).toNat:Int) != (((10:UInt8)).toNat:Int))) else (HD x186 self3 x425 self4 false)
def Ec(a0:Bts)(x186:(List Ac))(self3:((List Ac)→Int→Option ((List Ac)×Int))):Nat→Int→Option ((List Ac)×Int)
 |0=>fun _=>none
 |k+1=>Ez a0 x186 self3 (Ec a0 x186 self3 k)
def E0(N:Nat)(a0:Bts)(self3:(List Ac)→Int→Option ((List Ac)×Int))(x186:(List Ac))(x190:Int):Option ((List Ac)×Int):=
 bif (decide (x190< (a0.length:Int))) then ((idx a0 x190).bind fun x385=>(G9 x385).bind fun x397=>bif x397 then (self3 x186 (i64.wrap (x190+(1:Int)))) else (bif (((x385).toNat:Int)==(((35:UInt8)).toNat:Int)) then (Ec a0 x186 self3 N x190) else ((HW N a0 x190).bind fun x514=>bif (!x514.2) then (some ([],x190)) else ((Gd 48 x186 ([x514.1]:List Ac)).bind fun _=>self3 (x186++([x514.1]:List Ac)) (i64.wrap (x190+(x514.1.text.length:Int))))))) else ((Gd 48 x186 ([(Ac.mk (4:Int) ([]:List UInt8) ((0,0):Nat×Nat) (a0.length:Int))]:List Ac)).bind fun _=>some ((x186++([(Ac.mk (4:Int) ([]:List UInt8) ((0,0):Nat×Nat) (a0.length:Int))]:List Ac)),(-1:Int)))
def DY(N:Nat)(a0:Bts):Nat→(List Ac)→Int→Option ((List Ac)×Int)
 |0=>fun _ _=>none
 |k+1=>E0 N a0 (DY N a0 k)
def Fr(N:Nat)(a0:Bts):Option ((List Ac)×Int):=
 DY N a0 N ([]:List Ac) (0:Int)
def BW(ao0:AB):Option (Ac):=
 (idx ao0.marks ao0.at_).bind fun x17=>some x17
def Bl(ao0:AB)(a1:Int):Option (AB):=
 bif (ao0.why==(0:Int)) then ((BW (AB.mk ao0.marks ao0.at_ a1 ao0.where_ (Af.mk ao0.l.text ao0.l.funcs ao0.l.arity ao0.l.nest) ao0.nest)).bind fun x14=>some (AB.mk ao0.marks ao0.at_ a1 x14.at_ (Af.mk ao0.l.text ao0.l.funcs ao0.l.arity ao0.l.nest) ao0.nest)) else (some ao0)
def Fs(ao0:AB)(x16:Ac)(x35:Bool):Option (Ac×AB):=
 bif x35 then ((Bl ao0 (21:Int)).bind fun x42=>some ((Ac.mk (0:Int) ([]:List UInt8) ((0,0):Nat×Nat) (0:Int)),x42)) else (some (x16,(AB.mk ao0.marks (i64.wrap (ao0.at_+(1:Int))) ao0.why ao0.where_ (Af.mk ao0.l.text ao0.l.funcs ao0.l.arity ao0.l.nest) ao0.nest)))
def B9(ao0:AB):Option (Ac×AB):=
 (BW ao0).bind fun x16=>bif (ao0.why != (0:Int)) then (Fs ao0 x16 true) else (Fs ao0 x16 (x16.kind != (0:Int)))
def Gj(x29:Bool):Option (Bool):=
 some x29
def Ba(ao0:AB)(a1:Bts):Option (Bool):=
 (BW ao0).bind fun x8=>bif (ao0.why==(0:Int)) then (bif (x8.kind==(1:Int)) then (Gj (x8.text==a1)) else (bif (x8.kind==(3:Int)) then (Gj (x8.text==a1)) else (Gj false))) else (Gj false)
def Bm(ao0:AB)(a1:Bts):Option (Bool×AB):=
 (Ba ao0 a1).bind fun x8=>bif (!x8) then (some (false,ao0)) else (some (true,(AB.mk ao0.marks (i64.wrap (ao0.at_+(1:Int))) ao0.why ao0.where_ (Af.mk ao0.l.text ao0.l.funcs ao0.l.arity ao0.l.nest) ao0.nest)))
def A7(ao0:AB)(a1:Bts):Option (AB):=
 (Bm ao0 a1).bind fun x8=>bif (!x8.1) then ((Bl x8.2 (21:Int)).bind fun x24=>some x24) else (some x8.2)
def Cz(self1:Int→(List Ac)→Int→Int→Int→Int→Int→Int→Int→Int→Option (Int×AB))(x69:Int)(x70:(List Ac))(x74:Int)(x75:Int)(x76:Int)(x77:Int)(x78:Int)(x79:Int)(x80:Int)(x81:Int):Option (Int×AB):=
 bif (decide (x69< (([([78]:List UInt8),([66]:List UInt8),([76]:List UInt8)]:List Bts).length:Int))) then ((idx ([([78]:List UInt8),([66]:List UInt8),([76]:List UInt8)]:List Bts) x69).bind fun x148=>(Bm (AB.mk x70 x74 x75 x76 (Af.mk x77 x78 x79 x80) x81) x148).bind fun x160=>bif x160.1 then (some ((i64.wrap (x69+(1:Int))),x160.2)) else (self1 (i64.wrap (x69+(1:Int))) x160.2.marks x160.2.at_ x160.2.why x160.2.where_ x160.2.l.text x160.2.l.funcs x160.2.l.arity x160.2.l.nest x160.2.nest)) else ((Bl (AB.mk x70 x74 x75 x76 (Af.mk x77 x78 x79 x80) x81) (21:Int)).bind fun x176=>some ((0:Int),x176))
def CB:Nat→Int→(List Ac)→Int→Int→Int→Int→Int→Int→Int→Int→Option (Int×AB)
 |0=>fun _ _ _ _ _ _ _ _ _ _=>none
 |k+1=>Cz (CB k)
def CC(N:Nat)(ao0:AB):Option (Int×AB):=
 CB N (0:Int) ao0.marks ao0.at_ ao0.why ao0.where_ ao0.l.text ao0.l.funcs ao0.l.arity ao0.l.nest ao0.nest
def IU(a0:Int)(a1:AE)(a2:AE)(a3:Ac):Option (AE):=
 some (AE.mk a0 ([]:List UInt8) ([]:List UInt8) (0:Int) ((0,0):Nat×Nat) ([a1,a2]:List AE) a3.at_)
def HX(a0:Bts):Option (Int):=
 bif (a0==([116,114,117,101]:List UInt8)) then (some (2:Int)) else (bif (a0==([102,97,108,115,101]:List UInt8)) then (some (3:Int)) else (bif (a0==([110,105,108]:List UInt8)) then (some (4:Int)) else (bif (a0==([102,97,105,108]:List UInt8)) then (some (5:Int)) else (bif (a0==([110,111,116]:List UInt8)) then (some (14:Int)) else (bif (a0==([114,101]:List UInt8)) then (some (15:Int)) else (bif (a0==([105,109]:List UInt8)) then (some (16:Int)) else (bif (a0==([99,111,110,106]:List UInt8)) then (some (17:Int)) else (some (0:Int)))))))))
structure AC where
 ref04_reader_expr:AB→Option (AE×AB)
 ref04_reader_cons:AB→Option (AE×AB)
 ref04_reader_parts:AB→(List Bts)→Option ((List AE)×AB)
 ref04_reader_branches:AB→AE→Option (AB×AE)
 ref04_reader_comp:AB→Option (AE×AB)
 ref04_reader_sum:AB→Option (AE×AB)
 ref04_reader_term:AB→Option (AE×AB)
 ref04_reader_unit:AB→Option (AE×AB)
 ref04_reader_named:AB→Ac→Option (AE×AB)
def HE(x384:(List Ac))(x388:Int)(x389:Int)(x390:Int)(x391:Int)(x392:Int)(x393:Int)(x394:Int)(x396:Int)(x397:Bts)(x398:Bts)(x399:Int)(x400:(Nat×Nat))(x401:(List AE))(x405:Int)(x422:Int):Option (AE×AB):=
 some ((AE.mk x396 x397 x398 x399 x400 x401 x405),(AB.mk x384 x388 x389 x390 (Af.mk x391 x392 x393 x394) x422))
def Ed(x56:Bool)(x384:(List Ac))(x388:Int)(x389:Int)(x390:Int)(x391:Int)(x392:Int)(x393:Int)(x394:Int)(x395:Int)(x396:Int)(x397:Bts)(x398:Bts)(x399:Int)(x400:(Nat×Nat))(x401:(List AE))(x405:Int):Option (AE×AB):=
 bif x56 then (HE x384 x388 x389 x390 x391 x392 x393 x394 x396 x397 x398 x399 x400 x401 x405 (i64.wrap (x395 - (1:Int)))) else (HE x384 x388 x389 x390 x391 x392 x393 x394 x396 x397 x398 x399 x400 x401 x405 x395)
def DZ(φ:AC)(N:Nat)(x16:Ac)(x56:Bool)(x90:(List Ac))(x94:Int)(x95:Int)(x96:Int)(x97:Int)(x98:Int)(x99:Int)(x100:Int)(x167:Int)(x532:Int):Option (AE×AB):=
 (B9 (AB.mk x90 (i64.wrap (x94+(1:Int))) x95 x96 (Af.mk x97 x98 x99 x100) x167)).bind fun x540=>(CC N x540.2).bind fun x574=>(φ.ref04_reader_parts x574.2 ([([61]:List UInt8),([105,110]:List UInt8)]:List Bts)).bind fun x610=>Ed x56 x610.2.marks x610.2.at_ x610.2.why x610.2.where_ x610.2.l.text x610.2.l.funcs x610.2.l.arity x610.2.l.nest x610.2.nest x532 x540.1.text ([]:List UInt8) x574.1 ((0,0):Nat×Nat) x610.1 x16.at_
def Da(φ:AC)(N:Nat)(x16:Ac)(x56:Bool)(x90:(List Ac))(x94:Int)(x95:Int)(x96:Int)(x97:Int)(x98:Int)(x99:Int)(x100:Int)(x167:Int):Option (AE×AB):=
 bif (x16.text==([105,102]:List UInt8)) then ((φ.ref04_reader_parts (AB.mk x90 (i64.wrap (x94+(1:Int))) x95 x96 (Af.mk x97 x98 x99 x100) x167) ([([]:List UInt8),([116,104,101,110]:List UInt8),([101,108,115,101]:List UInt8)]:List Bts)).bind fun x465=>Ed x56 x465.2.marks x465.2.at_ x465.2.why x465.2.where_ x465.2.l.text x465.2.l.funcs x465.2.l.arity x465.2.l.nest x465.2.nest (19:Int) ([]:List UInt8) ([]:List UInt8) (0:Int) ((0,0):Nat×Nat) x465.1 x16.at_) else (bif (x16.text==([99,97,115,101]:List UInt8)) then ((φ.ref04_reader_branches (AB.mk x90 (i64.wrap (x94+(1:Int))) x95 x96 (Af.mk x97 x98 x99 x100) x167) (AE.mk (0:Int) ([]:List UInt8) ([]:List UInt8) (0:Int) ((0,0):Nat×Nat) [] x16.at_)).bind fun x497=>Ed x56 x497.1.marks x497.1.at_ x497.1.why x497.1.where_ x497.1.l.text x497.1.l.funcs x497.1.l.arity x497.1.l.nest x497.1.nest x497.2.op x497.2.name x497.2.tail x497.2.type_ x497.2.num x497.2.args x497.2.at_) else (bif (x16.text==([115,116,114,105,99,116]:List UInt8)) then (DZ φ N x16 x56 x90 x94 x95 x96 x97 x98 x99 x100 x167 (22:Int)) else (DZ φ N x16 x56 x90 x94 x95 x96 x97 x98 x99 x100 x167 (21:Int))))
def Db(φ:AC)(N:Nat)(x16:Ac)(x56:Bool)(x90:(List Ac))(x94:Int)(x95:Int)(x96:Int)(x97:Int)(x98:Int)(x99:Int)(x100:Int)(x101:Int)(x123:Bool):Option (AE×AB):=
 bif x123 then ((φ.ref04_reader_cons (AB.mk x90 x94 x95 x96 (Af.mk x97 x98 x99 x100) x101)).bind fun x130=>some (x130.1,x130.2)) else (bif x56 then (Da φ N x16 x56 x90 x94 x95 x96 x97 x98 x99 x100 (i64.wrap (x101+(1:Int)))) else (Da φ N x16 x56 x90 x94 x95 x96 x97 x98 x99 x100 x101))
def Dc(φ:AC)(N:Nat)(x16:Ac)(x56:Bool)(x90:(List Ac))(x94:Int)(x95:Int)(x96:Int)(x97:Int)(x98:Int)(x99:Int)(x100:Int)(x101:Int):Option (AE×AB):=
 bif (x95 != (0:Int)) then (some ((AE.mk (0:Int) ([]:List UInt8) ([]:List UInt8) (0:Int) ((0,0):Nat×Nat) [] (0:Int)),(AB.mk x90 x94 x95 x96 (Af.mk x97 x98 x99 x100) x101))) else (bif (!x56) then ((Ba (AB.mk x90 x94 x95 x96 (Af.mk x97 x98 x99 x100) x101) ([105,102]:List UInt8)).bind fun x653=>Db φ N x16 x56 x90 x94 x95 x96 x97 x98 x99 x100 x101 (!x653)) else (Db φ N x16 x56 x90 x94 x95 x96 x97 x98 x99 x100 x101 false))
def Dd(φ:AC)(N:Nat)(ao0:AB)(x16:Ac)(x56:Bool)(x662:Bool):Option (AE×AB):=
 bif x662 then ((Bl ao0 (23:Int)).bind fun x669=>Dc φ N x16 x56 x669.marks x669.at_ x669.why x669.where_ x669.l.text x669.l.funcs x669.l.arity x669.l.nest x669.nest) else (Dc φ N x16 x56 ao0.marks ao0.at_ ao0.why ao0.where_ ao0.l.text ao0.l.funcs ao0.l.arity ao0.l.nest ao0.nest)
def C7(φ:AC)(N:Nat)(ao0:AB)(x16:Ac)(x56:Bool):Option (AE×AB):=
 bif x56 then (Dd φ N ao0 x16 x56 (decide (ao0.nest≥ao0.l.nest))) else (Dd φ N ao0 x16 x56 false)
def Cm(φ:AC)(N:Nat)(ao0:AB):Option (AE×AB):=
 (BW ao0).bind fun x16=>(Ba ao0 ([108,101,116]:List UInt8)).bind fun x692=>bif x692 then (C7 φ N ao0 x16 true) else ((Ba ao0 ([115,116,114,105,99,116]:List UInt8)).bind fun x700=>bif x700 then (C7 φ N ao0 x16 true) else ((Ba ao0 ([99,97,115,101]:List UInt8)).bind fun x708=>C7 φ N ao0 x16 x708))
def Co(φ:AC)(_N:Nat)(ao0:AB):Option (AE×AB):=
 (φ.ref04_reader_comp ao0).bind fun x16=>(BW x16.2).bind fun x52=>(Bm x16.2 ([58]:List UInt8)).bind fun x71=>bif (!x71.1) then (some (x16.1,x71.2)) else ((φ.ref04_reader_cons x71.2).bind fun x97=>(IU (18:Int) x16.1 x97.1 x52).bind fun x135=>some (x135,x97.2))
def DI(φ:AC)(x175:(List AE))(x179:Int)(self1:((List AE)→Int→(List Ac)→Int→Int→Int→Int→Int→Int→Int→Int→Option ((List AE)×AB)))(x398:(List Ac))(x402:Int)(x403:Int)(x404:Int)(x405:Int)(x406:Int)(x407:Int)(x408:Int)(x409:Int):Option ((List AE)×AB):=
 (φ.ref04_reader_expr (AB.mk x398 x402 x403 x404 (Af.mk x405 x406 x407 x408) x409)).bind fun x417=>(Gd 96 x175 ([x417.1]:List AE)).bind fun _=>self1 (x175++([x417.1]:List AE)) (i64.wrap (x179+(1:Int))) x417.2.marks x417.2.at_ x417.2.why x417.2.where_ x417.2.l.text x417.2.l.funcs x417.2.l.arity x417.2.l.nest x417.2.nest
def CV(φ:AC)(a1:(List Bts))(self1:(List AE)→Int→(List Ac)→Int→Int→Int→Int→Int→Int→Int→Int→Option ((List AE)×AB))(x175:(List AE))(x179:Int)(x180:(List Ac))(x184:Int)(x185:Int)(x186:Int)(x187:Int)(x188:Int)(x189:Int)(x190:Int)(x191:Int):Option ((List AE)×AB):=
 bif (decide (x179< (a1.length:Int))) then ((idx a1 x179).bind fun x476=>bif (!(x476==([]:List UInt8))) then ((A7 (AB.mk x180 x184 x185 x186 (Af.mk x187 x188 x189 x190) x191) x476).bind fun x489=>DI φ x175 x179 self1 x489.marks x489.at_ x489.why x489.where_ x489.l.text x489.l.funcs x489.l.arity x489.l.nest x489.nest) else (DI φ x175 x179 self1 x180 x184 x185 x186 x187 x188 x189 x190 x191)) else (some (x175,(AB.mk x180 x184 x185 x186 (Af.mk x187 x188 x189 x190) x191)))
def Bg(φ:AC)(a1:(List Bts)):Nat→(List AE)→Int→(List Ac)→Int→Int→Int→Int→Int→Int→Int→Int→Option ((List AE)×AB)
 |0=>fun _ _ _ _ _ _ _ _ _ _ _=>none
 |k+1=>CV φ a1 (Bg φ a1 k)
def CY(φ:AC)(N:Nat)(ao0:AB)(a1:(List Bts)):Option ((List AE)×AB):=
 Bg φ a1 N ([]:List AE) (0:Int) ao0.marks ao0.at_ ao0.why ao0.where_ ao0.l.text ao0.l.funcs ao0.l.arity ao0.l.nest ao0.nest
def Bz(φ:AC)(_N:Nat)(ao0:AB)(ao1:AE):Option (AB×AE):=
 (φ.ref04_reader_expr ao0).bind fun x21=>(A7 x21.2 ([111,102]:List UInt8)).bind fun x57=>(A7 x57 ([110,105,108]:List UInt8)).bind fun x72=>(A7 x72 ([45,62]:List UInt8)).bind fun x87=>(φ.ref04_reader_expr x87).bind fun x102=>(A7 x102.2 ([124]:List UInt8)).bind fun x138=>(B9 x138).bind fun x153=>(A7 x153.2 ([58]:List UInt8)).bind fun x182=>(B9 x182).bind fun x197=>(A7 x197.2 ([45,62]:List UInt8)).bind fun x226=>(φ.ref04_reader_expr x226).bind fun x241=>some (x241.2,(AE.mk (20:Int) x153.1.text x197.1.text ao1.type_ ao1.num ([x21.1,x102.1,x241.1]:List AE) ao1.at_))
def D4(φ:AC)(x16:(AE×AB))(x52:Ac)(x77:Int)(x114:Bool)(x115:(List Ac))(x119:Int)(x120:Int)(x121:Int)(x122:Int)(x123:Int)(x124:Int)(x125:Int)(x126:Int):Option (AE×AB):=
 bif x114 then (some (x16.1,(AB.mk x115 x119 x120 x121 (Af.mk x122 x123 x124 x125) x126))) else ((φ.ref04_reader_sum (AB.mk x115 x119 x120 x121 (Af.mk x122 x123 x124 x125) x126)).bind fun x145=>(IU x77 x16.1 x145.1 x52).bind fun x183=>some (x183,x145.2))
def De(φ:AC)(x16:(AE×AB))(x52:Ac)(x77:Int):Option (AE×AB):=
 (Bm x16.2 ([61,61]:List UInt8)).bind fun x206=>bif (!x206.1) then ((Bm x206.2 ([60]:List UInt8)).bind fun x222=>D4 φ x16 x52 x77 (!x222.1) x222.2.marks x222.2.at_ x222.2.why x222.2.where_ x222.2.l.text x222.2.l.funcs x222.2.l.arity x222.2.l.nest x222.2.nest) else (D4 φ x16 x52 x77 false x206.2.marks x206.2.at_ x206.2.why x206.2.where_ x206.2.l.text x206.2.l.funcs x206.2.l.arity x206.2.l.nest x206.2.nest)
def Cp(φ:AC)(_N:Nat)(ao0:AB):Option (AE×AB):=
 (φ.ref04_reader_sum ao0).bind fun x16=>(BW x16.2).bind fun x52=>(Ba x16.2 ([60]:List UInt8)).bind fun x239=>bif x239 then (De φ x16 x52 (13:Int)) else (De φ x16 x52 (12:Int))
def Dr(x212:Int)(x213:Bts)(x214:Bts)(x215:Int)(x216:(Nat×Nat))(x217:(List AE))(x221:Int)(self1:((List Ac)→Int→Int→Int→Int→Int→Int→Int→Int→Int→Bts→Bts→Int→(Nat×Nat)→(List AE)→Int→Option (AE×AB)))(x408:Ac)(x431:(AE×AB))(x467:Int):Option (AE×AB):=
 (IU x467 (AE.mk x212 x213 x214 x215 x216 x217 x221) x431.1 x408).bind fun x476=>self1 x431.2.marks x431.2.at_ x431.2.why x431.2.where_ x431.2.l.text x431.2.l.funcs x431.2.l.arity x431.2.l.nest x431.2.nest x476.op x476.name x476.tail x476.type_ x476.num x476.args x476.at_
def Ds(φ:AC)(x200:(List Ac))(x204:Int)(x205:Int)(x206:Int)(x207:Int)(x208:Int)(x209:Int)(x210:Int)(x211:Int)(x212:Int)(x213:Bts)(x214:Bts)(x215:Int)(x216:(Nat×Nat))(x217:(List AE))(x221:Int)(self1:((List Ac)→Int→Int→Int→Int→Int→Int→Int→Int→Int→Bts→Bts→Int→(Nat×Nat)→(List AE)→Int→Option (AE×AB)))(x401:Bool):Option (AE×AB):=
 bif x401 then ((BW (AB.mk x200 x204 x205 x206 (Af.mk x207 x208 x209 x210) x211)).bind fun x408=>(φ.ref04_reader_term (AB.mk x200 (i64.wrap (x204+(1:Int))) x205 x206 (Af.mk x207 x208 x209 x210) x211)).bind fun x431=>bif (x408.text==([45]:List UInt8)) then (Dr x212 x213 x214 x215 x216 x217 x221 self1 x408 x431 (9:Int)) else (Dr x212 x213 x214 x215 x216 x217 x221 self1 x408 x431 (8:Int))) else (some ((AE.mk x212 x213 x214 x215 x216 x217 x221),(AB.mk x200 x204 x205 x206 (Af.mk x207 x208 x209 x210) x211)))
def C8(φ:AC)(self1:(List Ac)→Int→Int→Int→Int→Int→Int→Int→Int→Int→Bts→Bts→Int→(Nat×Nat)→(List AE)→Int→Option (AE×AB))(x200:(List Ac))(x204:Int)(x205:Int)(x206:Int)(x207:Int)(x208:Int)(x209:Int)(x210:Int)(x211:Int)(x212:Int)(x213:Bts)(x214:Bts)(x215:Int)(x216:(Nat×Nat))(x217:(List AE))(x221:Int):Option (AE×AB):=
 (Ba (AB.mk x200 x204 x205 x206 (Af.mk x207 x208 x209 x210) x211) ([43]:List UInt8)).bind fun x509=>bif x509 then (Ds φ x200 x204 x205 x206 x207 x208 x209 x210 x211 x212 x213 x214 x215 x216 x217 x221 self1 true) else ((Ba (AB.mk x200 x204 x205 x206 (Af.mk x207 x208 x209 x210) x211) ([45]:List UInt8)).bind fun x517=>Ds φ x200 x204 x205 x206 x207 x208 x209 x210 x211 x212 x213 x214 x215 x216 x217 x221 self1 x517)
def Bj(φ:AC):Nat→(List Ac)→Int→Int→Int→Int→Int→Int→Int→Int→Int→Bts→Bts→Int→(Nat×Nat)→(List AE)→Int→Option (AE×AB)
 |0=>fun _ _ _ _ _ _ _ _ _ _ _ _ _ _ _ _=>none
 |k+1=>C8 φ (Bj φ k)
def DG(φ:AC)(N:Nat)(ao0:AB):Option (AE×AB):=
 (φ.ref04_reader_term ao0).bind fun x16=>Bj φ N x16.2.marks x16.2.at_ x16.2.why x16.2.where_ x16.2.l.text x16.2.l.funcs x16.2.l.arity x16.2.l.nest x16.2.nest x16.1.op x16.1.name x16.1.tail x16.1.type_ x16.1.num x16.1.args x16.1.at_
def Df(x212:Int)(x213:Bts)(x214:Bts)(x215:Int)(x216:(Nat×Nat))(x217:(List AE))(x221:Int)(self1:((List Ac)→Int→Int→Int→Int→Int→Int→Int→Int→Int→Bts→Bts→Int→(Nat×Nat)→(List AE)→Int→Option (AE×AB)))(x408:Ac)(x431:(AE×AB))(x467:Int):Option (AE×AB):=
 (IU x467 (AE.mk x212 x213 x214 x215 x216 x217 x221) x431.1 x408).bind fun x476=>self1 x431.2.marks x431.2.at_ x431.2.why x431.2.where_ x431.2.l.text x431.2.l.funcs x431.2.l.arity x431.2.l.nest x431.2.nest x476.op x476.name x476.tail x476.type_ x476.num x476.args x476.at_
def Dg(φ:AC)(x200:(List Ac))(x204:Int)(x205:Int)(x206:Int)(x207:Int)(x208:Int)(x209:Int)(x210:Int)(x211:Int)(x212:Int)(x213:Bts)(x214:Bts)(x215:Int)(x216:(Nat×Nat))(x217:(List AE))(x221:Int)(self1:((List Ac)→Int→Int→Int→Int→Int→Int→Int→Int→Int→Bts→Bts→Int→(Nat×Nat)→(List AE)→Int→Option (AE×AB)))(x401:Bool):Option (AE×AB):=
 bif x401 then ((BW (AB.mk x200 x204 x205 x206 (Af.mk x207 x208 x209 x210) x211)).bind fun x408=>(φ.ref04_reader_unit (AB.mk x200 (i64.wrap (x204+(1:Int))) x205 x206 (Af.mk x207 x208 x209 x210) x211)).bind fun x431=>bif (x408.text==([47]:List UInt8)) then (Df x212 x213 x214 x215 x216 x217 x221 self1 x408 x431 (11:Int)) else (Df x212 x213 x214 x215 x216 x217 x221 self1 x408 x431 (10:Int))) else (some ((AE.mk x212 x213 x214 x215 x216 x217 x221),(AB.mk x200 x204 x205 x206 (Af.mk x207 x208 x209 x210) x211)))
def Cg(φ:AC)(self1:(List Ac)→Int→Int→Int→Int→Int→Int→Int→Int→Int→Bts→Bts→Int→(Nat×Nat)→(List AE)→Int→Option (AE×AB))(x200:(List Ac))(x204:Int)(x205:Int)(x206:Int)(x207:Int)(x208:Int)(x209:Int)(x210:Int)(x211:Int)(x212:Int)(x213:Bts)(x214:Bts)(x215:Int)(x216:(Nat×Nat))(x217:(List AE))(x221:Int):Option (AE×AB):=
 (Ba (AB.mk x200 x204 x205 x206 (Af.mk x207 x208 x209 x210) x211) ([42]:List UInt8)).bind fun x509=>bif x509 then (Dg φ x200 x204 x205 x206 x207 x208 x209 x210 x211 x212 x213 x214 x215 x216 x217 x221 self1 true) else ((Ba (AB.mk x200 x204 x205 x206 (Af.mk x207 x208 x209 x210) x211) ([47]:List UInt8)).bind fun x517=>Dg φ x200 x204 x205 x206 x207 x208 x209 x210 x211 x212 x213 x214 x215 x216 x217 x221 self1 x517)
def Bd(φ:AC):Nat→(List Ac)→Int→Int→Int→Int→Int→Int→Int→Int→Int→Bts→Bts→Int→(Nat×Nat)→(List AE)→Int→Option (AE×AB)
 |0=>fun _ _ _ _ _ _ _ _ _ _ _ _ _ _ _ _=>none
 |k+1=>Cg φ (Bd φ k)
def Cq(φ:AC)(N:Nat)(ao0:AB):Option (AE×AB):=
 (φ.ref04_reader_unit ao0).bind fun x16=>Bd φ N x16.2.marks x16.2.at_ x16.2.why x16.2.where_ x16.2.l.text x16.2.l.funcs x16.2.l.arity x16.2.l.nest x16.2.nest x16.1.op x16.1.name x16.1.tail x16.1.type_ x16.1.num x16.1.args x16.1.at_
def Ft(x247:Int)(x248:Bts)(x249:Bts)(x251:(Nat×Nat))(x252:Int)(x377:(List Ac))(x381:Int)(x382:Int)(x383:Int)(x384:Int)(x385:Int)(x386:Int)(x387:Int)(x388:Int)(x389:Int)(x390:(List AE)):Option (AE×AB):=
 some ((AE.mk x247 x248 x249 x389 x251 x390 x252),(AB.mk x377 x381 x382 x383 (Af.mk x384 x385 x386 x387) x388))
def CF(φ:AC)(x94:(Bool×AB))(x247:Int)(x248:Bts)(x249:Bts)(x250:Int)(x251:(Nat×Nat))(x252:Int)(x446:Bool):Option (AE×AB):=
 bif x446 then ((A7 (AB.mk x94.2.marks (i64.wrap (x94.2.at_+(1:Int))) x94.2.why x94.2.where_ (Af.mk x94.2.l.text x94.2.l.funcs x94.2.l.arity x94.2.l.nest) x94.2.nest) ([40]:List UInt8)).bind fun x453=>(φ.ref04_reader_expr x453).bind fun x468=>(A7 x468.2 ([41]:List UInt8)).bind fun x504=>Ft x247 x248 x249 x251 x252 x504.marks x504.at_ x504.why x504.where_ x504.l.text x504.l.funcs x504.l.arity x504.l.nest x504.nest x250 ([x468.1]:List AE)) else (Ft x247 x248 x249 x251 x252 x94.2.marks (i64.wrap (x94.2.at_+(1:Int))) x94.2.why x94.2.where_ x94.2.l.text x94.2.l.funcs x94.2.l.arity x94.2.l.nest x94.2.nest x250 ([]:List AE))
def Ee(φ:AC)(N:Nat)(x94:(Bool×AB))(x247:Int)(x248:Bts)(x249:Bts)(x250:Int)(x251:(Nat×Nat))(x252:Int):Option (AE×AB):=
 bif (x247==(5:Int)) then ((CC N (AB.mk x94.2.marks (i64.wrap (x94.2.at_+(1:Int))) x94.2.why x94.2.where_ (Af.mk x94.2.l.text x94.2.l.funcs x94.2.l.arity x94.2.l.nest) x94.2.nest)).bind fun x421=>Ft x247 x248 x249 x251 x252 x421.2.marks x421.2.at_ x421.2.why x421.2.where_ x421.2.l.text x421.2.l.funcs x421.2.l.arity x421.2.l.nest x421.2.nest x421.1 ([]:List AE)) else (bif (x247==(14:Int)) then (CF φ x94 x247 x248 x249 x250 x251 x252 (x247==(14:Int))) else (bif (x247==(15:Int)) then (CF φ x94 x247 x248 x249 x250 x251 x252 (x247==(15:Int))) else (bif (x247==(16:Int)) then (CF φ x94 x247 x248 x249 x250 x251 x252 (x247==(16:Int))) else (CF φ x94 x247 x248 x249 x250 x251 x252 (x247==(17:Int))))))
def C9(φ:AC)(N:Nat)(x16:Ac)(x94:(Bool×AB))(x178:Bool):Option (AE×AB):=
 bif x178 then ((Bl x94.2 (21:Int)).bind fun x185=>some ((AE.mk (0:Int) ([]:List UInt8) ([]:List UInt8) (0:Int) ((0,0):Nat×Nat) [] (0:Int)),x185)) else ((HX x16.text).bind fun x548=>Ee φ N x94 x548 ([]:List UInt8) ([]:List UInt8) (0:Int) ((0,0):Nat×Nat) x16.at_)
def Cr(φ:AC)(N:Nat)(ao0:AB):Option (AE×AB):=
 (BW ao0).bind fun x16=>bif (ao0.why != (0:Int)) then (some ((AE.mk (0:Int) ([]:List UInt8) ([]:List UInt8) (0:Int) ((0,0):Nat×Nat) [] (0:Int)),ao0)) else (bif (x16.kind==(2:Int)) then (some ((AE.mk (1:Int) ([]:List UInt8) ([]:List UInt8) (0:Int) x16.num [] x16.at_),(AB.mk ao0.marks (i64.wrap (ao0.at_+(1:Int))) ao0.why ao0.where_ (Af.mk ao0.l.text ao0.l.funcs ao0.l.arity ao0.l.nest) ao0.nest))) else (bif (x16.kind==(0:Int)) then ((φ.ref04_reader_named (AB.mk ao0.marks (i64.wrap (ao0.at_+(1:Int))) ao0.why ao0.where_ (Af.mk ao0.l.text ao0.l.funcs ao0.l.arity ao0.l.nest) ao0.nest) x16).bind fun x62=>some (x62.1,x62.2)) else ((Bm ao0 ([40]:List UInt8)).bind fun x94=>bif x94.1 then ((φ.ref04_reader_expr x94.2).bind fun x110=>(A7 x110.2 ([41]:List UInt8)).bind fun x146=>some (x110.1,x146)) else (bif (x16.kind != (1:Int)) then (C9 φ N x16 x94 true) else ((HX x16.text).bind fun x581=>C9 φ N x16 x94 (x581==(0:Int)))))))
def DJ(φ:AC)(x231:(List AE))(self1:((List Ac)→Int→Int→Int→Int→Int→Int→Int→Int→(List AE)→Option (AE×AB)))(x455:(List Ac))(x459:Int)(x460:Int)(x461:Int)(x462:Int)(x463:Int)(x464:Int)(x465:Int)(x466:Int):Option (AE×AB):=
 (φ.ref04_reader_expr (AB.mk x455 x459 x460 x461 (Af.mk x462 x463 x464 x465) x466)).bind fun x474=>(Gd 96 x231 ([x474.1]:List AE)).bind fun _=>self1 x474.2.marks x474.2.at_ x474.2.why x474.2.where_ x474.2.l.text x474.2.l.funcs x474.2.l.arity x474.2.l.nest x474.2.nest (x231++([x474.1]:List AE))
def DK(φ:AC)(a1:Ac)(x219:(List Ac))(x223:Int)(x224:Int)(x225:Int)(x226:Int)(x227:Int)(x228:Int)(x229:Int)(x230:Int)(x231:(List AE))(self1:((List Ac)→Int→Int→Int→Int→Int→Int→Int→Int→(List AE)→Option (AE×AB)))(x427:Bool):Option (AE×AB):=
 bif x427 then (bif (decide ((x231.length:Int)>(0:Int))) then ((A7 (AB.mk x219 x223 x224 x225 (Af.mk x226 x227 x228 x229) x230) ([44]:List UInt8)).bind fun x548=>DJ φ x231 self1 x548.marks x548.at_ x548.why x548.where_ x548.l.text x548.l.funcs x548.l.arity x548.l.nest x548.nest) else (DJ φ x231 self1 x219 x223 x224 x225 x226 x227 x228 x229 x230)) else ((A7 (AB.mk x219 x223 x224 x225 (Af.mk x226 x227 x228 x229) x230) ([41]:List UInt8)).bind fun x567=>some ((AE.mk (7:Int) a1.text ([]:List UInt8) (0:Int) ((0,0):Nat×Nat) x231 a1.at_),x567))
def CW(φ:AC)(a1:Ac)(self1:(List Ac)→Int→Int→Int→Int→Int→Int→Int→Int→(List AE)→Option (AE×AB))(x219:(List Ac))(x223:Int)(x224:Int)(x225:Int)(x226:Int)(x227:Int)(x228:Int)(x229:Int)(x230:Int)(x231:(List AE)):Option (AE×AB):=
 bif (x224==(0:Int)) then ((Ba (AB.mk x219 x223 x224 x225 (Af.mk x226 x227 x228 x229) x230) ([41]:List UInt8)).bind fun x598=>DK φ a1 x219 x223 x224 x225 x226 x227 x228 x229 x230 x231 self1 (!x598)) else (DK φ a1 x219 x223 x224 x225 x226 x227 x228 x229 x230 x231 self1 false)
def BZ(φ:AC)(a1:Ac):Nat→(List Ac)→Int→Int→Int→Int→Int→Int→Int→Int→(List AE)→Option (AE×AB)
 |0=>fun _ _ _ _ _ _ _ _ _ _=>none
 |k+1=>CW φ a1 (BZ φ a1 k)
def CZ(φ:AC)(N:Nat)(ao0:AB)(a1:Ac):Option (AE×AB):=
 (Bm ao0 ([40]:List UInt8)).bind fun x22=>bif (!x22.1) then (some ((AE.mk (6:Int) a1.text ([]:List UInt8) (0:Int) ((0,0):Nat×Nat) [] a1.at_),x22.2)) else (BZ φ a1 N x22.2.marks x22.2.at_ x22.2.why x22.2.where_ x22.2.l.text x22.2.l.funcs x22.2.l.arity x22.2.l.nest x22.2.nest ([]:List AE))
def AC.at:Nat→AC
 |0=>⟨fun _=>none,fun _=>none,fun _ _=>none,fun _ _=>none,fun _=>none,fun _=>none,fun _=>none,fun _=>none,fun _ _=>none⟩
 |n+1=>⟨Cm (AC.at n) n,Co (AC.at n) n,CY (AC.at n) n,Bz (AC.at n) n,Cp (AC.at n) n,DG (AC.at n) n,Cq (AC.at n) n,Cr (AC.at n) n,CZ (AC.at n) n⟩
def ref04_reader_expr(N:Nat):AB→Option (AE×AB):=(AC.at N).ref04_reader_expr
def ref04_reader_cons(N:Nat):AB→Option (AE×AB):=(AC.at N).ref04_reader_cons
def ref04_reader_parts(N:Nat):AB→(List Bts)→Option ((List AE)×AB):=(AC.at N).ref04_reader_parts
def ref04_reader_branches(N:Nat):AB→AE→Option (AB×AE):=(AC.at N).ref04_reader_branches
def ref04_reader_comp(N:Nat):AB→Option (AE×AB):=(AC.at N).ref04_reader_comp
def ref04_reader_sum(N:Nat):AB→Option (AE×AB):=(AC.at N).ref04_reader_sum
def ref04_reader_term(N:Nat):AB→Option (AE×AB):=(AC.at N).ref04_reader_term
def ref04_reader_unit(N:Nat):AB→Option (AE×AB):=(AC.at N).ref04_reader_unit
def ref04_reader_named(N:Nat):AB→Ac→Option (AE×AB):=(AC.at N).ref04_reader_named
def Dt(N:Nat)(x432:(List AH))(self1:((List Ac)→Int→Int→Int→Int→Int→Int→Int→Int→(List AH)→Option (AK×AB)))(x868:(List Ac))(x872:Int)(x873:Int)(x874:Int)(x875:Int)(x876:Int)(x877:Int)(x878:Int)(x879:Int):Option (AK×AB):=
 (B9 (AB.mk x868 x872 x873 x874 (Af.mk x875 x876 x877 x878) x879)).bind fun x887=>(CC N x887.2).bind fun x916=>(Gd 32 x432 ([(AH.mk x887.1.text x916.1 x887.1.at_)]:List AH)).bind fun _=>self1 x916.2.marks x916.2.at_ x916.2.why x916.2.where_ x916.2.l.text x916.2.l.funcs x916.2.l.arity x916.2.l.nest x916.2.nest (x432++([(AH.mk x887.1.text x916.1 x887.1.at_)]:List AH))
def DO(N:Nat)(x432:(List AH))(self1:((List Ac)→Int→Int→Int→Int→Int→Int→Int→Int→(List AH)→Option (AK×AB)))(x795:(List Ac))(x799:Int)(x800:Int)(x801:Int)(x802:Int)(x803:Int)(x804:Int)(x805:Int)(x806:Int)(x979:Bool):Option (AK×AB):=
 bif x979 then ((Bl (AB.mk x795 x799 x800 x801 (Af.mk x802 x803 x804 x805) x806) (22:Int)).bind fun x986=>Dt N x432 self1 x986.marks x986.at_ x986.why x986.where_ x986.l.text x986.l.funcs x986.l.arity x986.l.nest x986.nest) else (Dt N x432 self1 x795 x799 x800 x801 x802 x803 x804 x805 x806)
def Du(N:Nat)(x432:(List AH))(self1:((List Ac)→Int→Int→Int→Int→Int→Int→Int→Int→(List AH)→Option (AK×AB)))(x795:(List Ac))(x799:Int)(x800:Int)(x801:Int)(x802:Int)(x803:Int)(x804:Int)(x805:Int)(x806:Int):Option (AK×AB):=
 bif (x800==(0:Int)) then ((BW (AB.mk x795 x799 x800 x801 (Af.mk x802 x803 x804 x805) x806)).bind fun x1008=>bif (x1008.kind==(0:Int)) then (DO N x432 self1 x795 x799 x800 x801 x802 x803 x804 x805 x806 (decide ((x432.length:Int)≥x804))) else (DO N x432 self1 x795 x799 x800 x801 x802 x803 x804 x805 x806 false)) else (DO N x432 self1 x795 x799 x800 x801 x802 x803 x804 x805 x806 false)
def DP(N:Nat)(x77:(Ac×AB))(x420:(List Ac))(x424:Int)(x425:Int)(x426:Int)(x427:Int)(x428:Int)(x429:Int)(x430:Int)(x431:Int)(x432:(List AH))(self1:((List Ac)→Int→Int→Int→Int→Int→Int→Int→Int→(List AH)→Option (AK×AB)))(x767:Bool):Option (AK×AB):=
 bif x767 then (bif (decide ((x432.length:Int)>(0:Int))) then ((A7 (AB.mk x420 x424 x425 x426 (Af.mk x427 x428 x429 x430) x431) ([44]:List UInt8)).bind fun x1027=>Du N x432 self1 x1027.marks x1027.at_ x1027.why x1027.where_ x1027.l.text x1027.l.funcs x1027.l.arity x1027.l.nest x1027.nest) else (Du N x432 self1 x420 x424 x425 x426 x427 x428 x429 x430 x431)) else ((A7 (AB.mk x420 x424 x425 x426 (Af.mk x427 x428 x429 x430) x431) ([41]:List UInt8)).bind fun x1046=>(A7 x1046 ([58]:List UInt8)).bind fun x1061=>(CC N x1061).bind fun x1076=>(A7 x1076.2 ([61]:List UInt8)).bind fun x1098=>(ref04_reader_expr N x1098).bind fun x1113=>(A7 x1113.2 ([59]:List UInt8)).bind fun x1143=>some ((AK.mk x77.1.text x432 x1076.1 x1113.1 x77.1.at_),x1143))
def DA(N:Nat)(x77:(Ac×AB))(self1:(List Ac)→Int→Int→Int→Int→Int→Int→Int→Int→(List AH)→Option (AK×AB))(x420:(List Ac))(x424:Int)(x425:Int)(x426:Int)(x427:Int)(x428:Int)(x429:Int)(x430:Int)(x431:Int)(x432:(List AH)):Option (AK×AB):=
 bif (x425==(0:Int)) then ((Ba (AB.mk x420 x424 x425 x426 (Af.mk x427 x428 x429 x430) x431) ([41]:List UInt8)).bind fun x1176=>DP N x77 x420 x424 x425 x426 x427 x428 x429 x430 x431 x432 self1 (!x1176)) else (DP N x77 x420 x424 x425 x426 x427 x428 x429 x430 x431 x432 self1 false)
def BY(N:Nat)(x77:(Ac×AB)):Nat→(List Ac)→Int→Int→Int→Int→Int→Int→Int→Int→(List AH)→Option (AK×AB)
 |0=>fun _ _ _ _ _ _ _ _ _ _=>none
 |k+1=>DA N x77 (BY N x77 k)
def Dv(N:Nat)(x58:(List Ac))(x62:Int)(x63:Int)(x64:Int)(x65:Int)(x66:Int)(x67:Int)(x68:Int)(x69:Int):Option (AK×AB):=
 (B9 (AB.mk x58 x62 x63 x64 (Af.mk x65 x66 x67 x68) x69)).bind fun x77=>(A7 x77.2 ([40]:List UInt8)).bind fun x116=>BY N x77 N x116.marks x116.at_ x116.why x116.where_ x116.l.text x116.l.funcs x116.l.arity x116.l.nest x116.nest ([]:List AH)
def Dw(N:Nat)(ao0:AB)(x1193:Bool):Option (AK×AB):=
 bif x1193 then ((Bl ao0 (22:Int)).bind fun x1200=>Dv N x1200.marks x1200.at_ x1200.why x1200.where_ x1200.l.text x1200.l.funcs x1200.l.arity x1200.l.nest x1200.nest) else (Dv N ao0.marks ao0.at_ ao0.why ao0.where_ ao0.l.text ao0.l.funcs ao0.l.arity ao0.l.nest ao0.nest)
def Cf(N:Nat)(ao0:AB)(a1:Int):Option (AK×AB):=
 (BW ao0).bind fun x1219=>bif (x1219.kind==(0:Int)) then (Dw N ao0 (decide (a1≥ao0.l.funcs))) else (Dw N ao0 false)
def B0(N:Nat)(x142:(List Ac))(x146:Int)(x147:Int)(x148:Int)(x149:Int)(x150:Int)(x151:Int)(x152:Int)(x153:Int)(x154:(List AK))(self1:((List Ac)→Int→Int→Int→Int→Int→Int→Int→Int→(List AK)→Option (AM×AB)))(x316:Bool):Option (AM×AB):=
 bif x316 then ((Cf N (AB.mk x142 x146 x147 x148 (Af.mk x149 x150 x151 x152) x153) (x154.length:Int)).bind fun x328=>(Gd 152 x154 ([x328.1]:List AK)).bind fun _=>self1 x328.2.marks x328.2.at_ x328.2.why x328.2.where_ x328.2.l.text x328.2.l.funcs x328.2.l.arity x328.2.l.nest x328.2.nest (x154++([x328.1]:List AK))) else (some ((AM.mk x154),(AB.mk x142 x146 x147 x148 (Af.mk x149 x150 x151 x152) x153)))
def B8(N:Nat)(self1:(List Ac)→Int→Int→Int→Int→Int→Int→Int→Int→(List AK)→Option (AM×AB))(x142:(List Ac))(x146:Int)(x147:Int)(x148:Int)(x149:Int)(x150:Int)(x151:Int)(x152:Int)(x153:Int)(x154:(List AK)):Option (AM×AB):=
 bif (x147==(0:Int)) then (bif ((x154.length:Int)==(0:Int)) then (B0 N x142 x146 x147 x148 x149 x150 x151 x152 x153 x154 self1 true) else ((BW (AB.mk x142 x146 x147 x148 (Af.mk x149 x150 x151 x152) x153)).bind fun x422=>B0 N x142 x146 x147 x148 x149 x150 x151 x152 x153 x154 self1 (x422.kind != (4:Int)))) else (B0 N x142 x146 x147 x148 x149 x150 x151 x152 x153 x154 self1 false)
def BT(N:Nat):Nat→(List Ac)→Int→Int→Int→Int→Int→Int→Int→Int→(List AK)→Option (AM×AB)
 |0=>fun _ _ _ _ _ _ _ _ _ _=>none
 |k+1=>B8 N (BT N k)
def Bn(N:Nat)(ao0:AB):Option (AM×AB):=
 BT N N ao0.marks ao0.at_ ao0.why ao0.where_ ao0.l.text ao0.l.funcs ao0.l.arity ao0.l.nest ao0.nest ([]:List AK)
def FS(N:Nat)(a0:Bts)(a1:Af):Option (AM×AD):=
 bif (decide ((a0.length:Int)>(if (32768:Int)< (if a1.text< (0:Int) then (0:Int) else a1.text) then (32768:Int) else (if a1.text< (0:Int) then (0:Int) else a1.text)))) then (some ((AM.mk []),(AD.mk (22:Int) (if (32768:Int)< (if a1.text< (0:Int) then (0:Int) else a1.text) then (32768:Int) else (if a1.text< (0:Int) then (0:Int) else a1.text))))) else ((Fr N a0).bind fun x54=>bif (decide (x54.2≥(0:Int))) then (some ((AM.mk []),(AD.mk (20:Int) x54.2))) else ((Bn N (AB.mk x54.1 (0:Int) (0:Int) (0:Int) (Af.mk (if (32768:Int)< (if a1.text< (0:Int) then (0:Int) else a1.text) then (32768:Int) else (if a1.text< (0:Int) then (0:Int) else a1.text)) a1.funcs a1.arity a1.nest) (0:Int))).bind fun x85=>bif (x85.2.why != (0:Int)) then (some ((AM.mk []),(AD.mk x85.2.why x85.2.where_))) else (some (x85.1,(AD.mk (0:Int) (0:Int))))))
def HF(x166:Int)(self1:((List Bts)→Int→Int→Option ((List Bts))))(x410:(List Bts))(x414:Int):Option ((List Bts)):=
 self1 x410 x414 (i64.wrap (x166+(1:Int)))
def HG(x166:Int)(self1:((List Bts)→Int→Int→Option ((List Bts))))(x454:(List Bts)):Option ((List Bts)):=
 HF x166 self1 x454 (i64.wrap (x166+(1:Int)))
def GE(a0:Bts)(x161:(List Bts))(x165:Int)(x166:Int)(self1:((List Bts)→Int→Int→Option ((List Bts))))(x423:Bool):Option ((List Bts)):=
 bif x423 then (HF x166 self1 x161 x165) else (bif (decide (x166>x165)) then ((sub a0 x165 x166).bind fun x464=>(Gd 16 x161 ([x464]:List Bts)).bind fun _=>HG x166 self1 (x161++([x464]:List Bts))) else (HG x166 self1 x161))
def E1(a0:Bts)(self1:(List Bts)→Int→Int→Option ((List Bts)))(x161:(List Bts))(x165:Int)(x166:Int):Option ((List Bts)):=
 bif (decide (x166≤(a0.length:Int))) then (bif (decide (x166< (a0.length:Int))) then ((idx a0 x166).bind fun x490=>GE a0 x161 x165 x166 self1 (((x490).toNat:Int) != (((32:UInt8)).toNat:Int))) else (GE a0 x161 x165 x166 self1 false)) else (some x161)
def EF(a0:Bts):Nat→(List Bts)→Int→Int→Option ((List Bts))
 |0=>fun _ _ _=>none
 |k+1=>E1 a0 (EF a0 k)
def Fv(N:Nat)(a0:Bts):Option ((List Bts)):=
 EF a0 N ([]:List Bts) (0:Int) (0:Int)
def G0(a0:Nat)(x6:Bool):Option (Int×Bool):=
 bif x6 then (some ((0:Int),false)) else ((f2i .i64 a0).bind fun x11=>some (x11,(feq (FloatKind.f64.nearest x11) a0)))
def HY(a0:Nat):Option (Int×Bool):=
 bif (fge a0 (13938640846711685120:Nat)) then (bif (!(fle a0 (4715268809856909312:Nat))) then (G0 a0 true) else (bif (feq a0 (0:Nat)) then (G0 a0 (((a0:Nat):Int) != (0:Int))) else (G0 a0 false))) else (bif (!false) then (G0 a0 true) else (bif (feq a0 (0:Nat)) then (G0 a0 (((a0:Nat):Int) != (0:Int))) else (G0 a0 false)))
def MQ(x7:(Int×Bool))(x12:(Int×Bool))(x18:Bool):Option (Ai×Bool):=
 bif x18 then (some ((Ai.mk (0:Int) (0:Int)),false)) else (some ((Ai.mk x7.1 x12.1),true))
def EU(a0:(Nat×Nat)):Option (Ai×Bool):=
 (HY a0.1).bind fun x7=>(HY a0.2).bind fun x12=>bif (!x7.2) then (MQ x7 x12 true) else (MQ x7 x12 (!x12.2))
def HH(x106:Int)(self1:(Bool→Int→Option (Bool)))(x222:Bool):Option (Bool):=
 self1 x222 (i64.wrap (x106+(1:Int)))
def Iz(x262:Bool):Option (Bool):=
 some x262
def I0(x277:Bool):Option (Bool):=
 some x277
def I1(x289:Bool):Option (Bool):=
 some x289
def E3(a0:AI)(self1:Bool→Int→Option (Bool))(x105:Bool)(x106:Int):Option (Bool):=
 bif (decide (x106< (a0.list.length:Int))) then ((idx a0.list x106).bind fun x226=>(EU x226).bind fun x238=>bif x105 then (HH x106 self1 x238.2) else (HH x106 self1 false)) else (bif (a0.type_==(1:Int)) then (bif x105 then (bif (!a0.bool) then (Iz ((a0.list.length:Int)==(0:Int))) else (Iz false)) else (Iz false)) else (bif (a0.type_==(2:Int)) then (bif x105 then (bif (ceq a0.num ((0,0):Nat×Nat)) then (I0 ((a0.list.length:Int)==(0:Int))) else (I0 false)) else (I0 false)) else (bif (a0.type_==(3:Int)) then (bif x105 then (bif (ceq a0.num ((0,0):Nat×Nat)) then (I1 (!a0.bool)) else (I1 false)) else (I1 false)) else (some false))))
def Eg(a0:AI):Nat→Bool→Int→Option (Bool)
 |0=>fun _ _=>none
 |k+1=>E3 a0 (Eg a0 k)
def B1(N:Nat)(a0:AI):Option (Bool):=
 (EU a0.num).bind fun x13=>Eg a0 N x13.2 (0:Int)
def D6(N:Nat)(a0:(Nat×Nat)):Option (Bts):=
 (EU a0).bind fun x1=>(Fn N x1.1).bind fun x18=>some x18
def G3(N:Nat)(a0:AI)(x133:Int)(self1:(Bts→Int→Option (Bts×Int)))(x271:Bts):Option (Bts×Int):=
 (idx a0.list x133).bind fun x281=>(D6 N x281).bind fun x294=>(Gd 1 x271 x294).bind fun _=>self1 (x271++x294) (i64.wrap (x133+(1:Int)))
def FZ(N:Nat)(a0:AI)(self1:Bts→Int→Option (Bts×Int))(x129:Bts)(x133:Int):Option (Bts×Int):=
 bif (decide (x133< (a0.list.length:Int))) then (bif (decide (x133>(0:Int))) then ((Gd 1 x129 ([(32:UInt8)]:List UInt8)).bind fun _=>G3 N a0 x133 self1 (x129++([(32:UInt8)]:List UInt8))) else (G3 N a0 x133 self1 x129)) else ((O3 ([91]:List UInt8) x129).bind fun x338=>(O3 x338 ([93]:List UInt8)).bind fun x340=>some (x340,(0:Int)))
def E4(N:Nat)(a0:AI):Nat→Bts→Int→Option (Bts×Int)
 |0=>fun _ _=>none
 |k+1=>FZ N a0 (E4 N a0 k)
def GG(N:Nat)(a0:AI):Option (Bts×Int):=
 (B1 N a0).bind fun x14=>bif (!x14) then (some (([]:List UInt8),(3:Int))) else (bif (a0.type_==(1:Int)) then ((D6 N a0.num).bind fun x22=>some (x22,(0:Int))) else (bif (a0.type_==(2:Int)) then (bif a0.bool then (some (([116,114,117,101]:List UInt8),(0:Int))) else (some (([102,97,108,115,101]:List UInt8),(0:Int)))) else (E4 N a0 N ([]:List UInt8) (0:Int))))
def E5(N:Nat)(a0:Bts)(x74:((List Bts)))(self1:Int→Int→Int→(List (Nat×Nat))→Option (AI×Int))(x192:Int)(_x193:Int)(_x194:Int)(x195:(List (Nat×Nat))):Option (AI×Int):=
 bif (decide (x192< (x74.length:Int))) then ((idx x74 x192).bind fun x328=>(EO N x328).bind fun x340=>bif (x340.2 != (0:Int)) then (some ((AI.mk (0:Int) ((0,0):Nat×Nat) false []),(11:Int))) else ((Fq x340.1).bind fun x389=>(Gd 16 x195 ([x389]:List (Nat×Nat))).bind fun _=>self1 (i64.wrap (x192+(1:Int))) x340.1.re x340.1.im (x195++([x389]:List (Nat×Nat))))) else ((GG N (AI.mk (3:Int) ((0,0):Nat×Nat) false x195)).bind fun x428=>bif (!(x428.1==a0)) then (some ((AI.mk (0:Int) ((0,0):Nat×Nat) false []),(11:Int))) else (some ((AI.mk (3:Int) ((0,0):Nat×Nat) false x195),(0:Int))))
def Eh(N:Nat)(a0:Bts)(x74:((List Bts))):Nat→Int→Int→Int→(List (Nat×Nat))→Option (AI×Int)
 |0=>fun _ _ _ _=>none
 |k+1=>E5 N a0 x74 (Eh N a0 x74 k)
def Fa(N:Nat)(a0:Bts)(x18:(Ai×Int))(x52:Bool):Option (AI×Int):=
 bif x52 then (some ((AI.mk (0:Int) ((0,0):Nat×Nat) false []),(11:Int))) else ((sub a0 (1:Int) (i64.wrap ((a0.length:Int) - (1:Int)))).bind fun x72=>(Fv N x72).bind fun x74=>Eh N a0 x74 N (0:Int) x18.1.re x18.1.im ([]:List (Nat×Nat)))
def GH(N:Nat)(a0:Bts)(x8:Bool):Option (AI×Int):=
 bif x8 then (some ((AI.mk (2:Int) ((0,0):Nat×Nat) (a0==([116,114,117,101]:List UInt8)) []),(0:Int))) else ((EO N a0).bind fun x18=>bif (x18.2==(0:Int)) then ((Fq x18.1).bind fun x36=>some ((AI.mk (1:Int) x36 false []),(0:Int))) else (bif (decide ((a0.length:Int)< (2:Int))) then (Fa N a0 x18 true) else ((idx a0 (0:Int)).bind fun x457=>bif (((x457).toNat:Int) != (((91:UInt8)).toNat:Int)) then (Fa N a0 x18 true) else ((idx a0 (i64.wrap ((a0.length:Int) - (1:Int)))).bind fun x460=>Fa N a0 x18 (((x460).toNat:Int) != (((93:UInt8)).toNat:Int))))))
def FT(N:Nat)(a0:Bts):Option (AI×Int):=
 bif (a0==([116,114,117,101]:List UInt8)) then (GH N a0 true) else (GH N a0 (a0==([102,97,108,115,101]:List UInt8)))
def HI(x340:Int)(self4:(Int→Bool→Option ((List AI)×Int)))(x386:Bool):Option ((List AI)×Int):=
 self4 (i64.wrap (x340+(1:Int))) x386
def EG(N:Nat)(a0:Bts)(x148:(List AI))(x152:Int)(self3:((List AI)→Int→Option ((List AI)×Int)))(x340:Int)(x341:Bool)(self4:(Int→Bool→Option ((List AI)×Int)))(x378:Bool):Option ((List AI)×Int):=
 bif x378 then ((idx a0 x340).bind fun x390=>bif (((x390).toNat:Int)==(((93:UInt8)).toNat:Int)) then (HI x340 self4 false) else (HI x340 self4 x341)) else ((sub a0 x152 x340).bind fun x393=>(FT N x393).bind fun x395=>bif (x395.2 != (0:Int)) then (some ([],(11:Int))) else ((Gd 56 x148 ([x395.1]:List AI)).bind fun _=>self3 (x148++([x395.1]:List AI)) x340))
def E6(N:Nat)(a0:Bts)(x148:(List AI))(x152:Int)(self3:((List AI)→Int→Option ((List AI)×Int)))(self4:Int→Bool→Option ((List AI)×Int))(x340:Int)(x341:Bool):Option ((List AI)×Int):=
 bif (decide (x340< (a0.length:Int))) then (bif x341 then (EG N a0 x148 x152 self3 x340 x341 self4 true) else ((idx a0 x340).bind fun x445=>EG N a0 x148 x152 self3 x340 x341 self4 (((x445).toNat:Int) != (((32:UInt8)).toNat:Int)))) else (EG N a0 x148 x152 self3 x340 x341 self4 false)
def Dz(N:Nat)(a0:Bts)(x148:(List AI))(x152:Int)(self3:((List AI)→Int→Option ((List AI)×Int))):Nat→Int→Bool→Option ((List AI)×Int)
 |0=>fun _ _=>none
 |k+1=>E6 N a0 x148 x152 self3 (Dz N a0 x148 x152 self3 k)
def E7(N:Nat)(a0:Bts)(self3:(List AI)→Int→Option ((List AI)×Int))(x148:(List AI))(x152:Int):Option ((List AI)×Int):=
 bif (decide (x152< (a0.length:Int))) then ((idx a0 x152).bind fun x309=>bif (((x309).toNat:Int)==(((32:UInt8)).toNat:Int)) then (self3 x148 (i64.wrap (x152+(1:Int)))) else ((idx a0 x152).bind fun x312=>Dz N a0 x148 x152 self3 N x152 (((x312).toNat:Int)==(((91:UInt8)).toNat:Int)))) else (some (x148,(0:Int)))
def CL(N:Nat)(a0:Bts):Nat→(List AI)→Int→Option ((List AI)×Int)
 |0=>fun _ _=>none
 |k+1=>E7 N a0 (CL N a0 k)
def Fw(N:Nat)(a0:Bts):Option ((List AI)×Int):=
 CL N a0 N ([]:List AI) (0:Int)
def Id(x551:(List AI))(x555:Bool)(x556:(List AK)):Option (AM×(List AI)×Bool):=
 some ((AM.mk x556),x551,x555)
def GI(N:Nat)(a0:FK)(x509:(List AK))(x513:Int):Option (AM×(List AI)×Bool):=
 (Fw N a0.args).bind fun x525=>bif (x513==(0:Int)) then (Id x525.1 (x525.2==(0:Int)) x509) else (Id x525.1 false x509)
def B3(N:Nat)(a0:FK):Option (AM×(List AI)×Bool):=
 (JO).bind fun x634=>(FS N a0.text x634).bind fun x642=>GI N a0 x642.1.funcs x642.2.why
def I2(a0:Int)(a1:Int)(ao0:AD)(x3:Bool):Option (AD):=
 bif x3 then (some (AD.mk a0 a1)) else (some ao0)
def Dm(a0:Int)(a1:Int)(ao0:AD):Option (AD):=
 bif (ao0.why==(0:Int)) then (I2 a0 a1 ao0 true) else (I2 a0 a1 ao0 (decide (a1<ao0.at_)))
def Gk(a0:AE)(ao4:AD)(x102:Bool):Option (AD):=
 bif x102 then ((Dm (33:Int) a0.at_ ao4).bind fun x110=>some x110) else (some ao4)
def Fx(a0:AE)(ao2:Ak)(ao4:AD)(ao5:AM)(x48:Bool):Option (AD):=
 bif x48 then ((Dm (32:Int) a0.at_ ao4).bind fun x56=>some x56) else (bif (a0.op==(7:Int)) then ((idx ao5.funcs (i64.wrap ((CR ao2 a0.name) - (1:Int)))).bind fun x125=>Gk a0 ao4 ((x125.params.length:Int) != (a0.args.length:Int))) else (Gk a0 ao4 false))
def Gl(a0:AE)(ao2:Ak)(ao4:AD)(ao5:AM)(x29:Bool):Option (AD):=
 bif x29 then ((Dm (31:Int) a0.at_ ao4).bind fun x37=>some x37) else (bif (a0.op==(7:Int)) then (Fx a0 ao2 ao4 ao5 ((CR ao2 a0.name)==(0:Int))) else (Fx a0 ao2 ao4 ao5 false))
def Fb(a0:AE)(ao0:Ak)(ao2:Ak)(ao4:AD)(ao5:AM):Option (AD):=
 bif (a0.op==(6:Int)) then (Gl a0 ao2 ao4 ao5 ((CR ao0 a0.name)==(0:Int))) else (Gl a0 ao2 ao4 ao5 false)
def Jv(a0:AE)(x37:Bool):Option ((List Bts)):=
 bif x37 then (some ([a0.name,a0.tail]:List Bts)) else (some [])
def I3(a0:AE)(a1:Int)(x15:Bool):Option ((List Bts)):=
 bif x15 then (some ([a0.name]:List Bts)) else (bif (a0.op==(20:Int)) then (Jv a0 (a1==(2:Int))) else (Jv a0 false))
def HJ(a0:AE)(a1:Int):Option ((List Bts)):=
 bif (a0.op==(21:Int)) then (I3 a0 a1 (a0.op==(21:Int))) else (bif (a0.op==(22:Int)) then (I3 a0 a1 (a1==(1:Int))) else (I3 a0 a1 false))
structure Aw where
 scope_walk:AE→Ak→Ak→AD→AM→Option (Ak×AD)
def H7(x275:Int)(self5:(Int→Ak→Int→Int→Option (Ak×AD)))(x552:((List Bts)))(x649:(Ak×AD))(self7:Int→Ak→Option (Ak×AD))(x688:Int)(x689:Ak):Option (Ak×AD):=
 bif (decide (x688< (x552.length:Int))) then ((idx x552 x688).bind fun x722=>self7 (i64.wrap (x688+(1:Int))) (LF x722 (i64.wrap ((CR x689 x722) - (1:Int))) x689)) else (self5 (i64.wrap (x275+(1:Int))) x689 x649.2.why x649.2.at_)
def Ht(x275:Int)(self5:(Int→Ak→Int→Int→Option (Ak×AD)))(x552:((List Bts)))(x649:(Ak×AD)):Nat→Int→Ak→Option (Ak×AD)
 |0=>fun _ _=>none
 |k+1=>H7 x275 self5 x552 x649 (Ht x275 self5 x552 x649 k)
def H8(φ:Aw)(N:Nat)(ao2:Ak)(ao5:AM)(x275:Int)(x277:Int)(x278:Int)(self5:(Int→Ak→Int→Int→Option (Ak×AD)))(x520:AE)(x552:((List Bts)))(self6:Int→Ak→Option (Ak×AD))(x590:Int)(x591:Ak):Option (Ak×AD):=
 bif (decide (x590< (x552.length:Int))) then ((idx x552 x590).bind fun x624=>self6 (i64.wrap (x590+(1:Int))) (LF x624 (i64.wrap ((CR x591 x624)+(1:Int))) x591)) else ((φ.scope_walk x520 x591 ao2 (AD.mk x277 x278) ao5).bind fun x649=>Ht x275 self5 x552 x649 N (0:Int) x649.1)
def Hu(φ:Aw)(N:Nat)(ao2:Ak)(ao5:AM)(x275:Int)(x277:Int)(x278:Int)(self5:(Int→Ak→Int→Int→Option (Ak×AD)))(x520:AE)(x552:((List Bts))):Nat→Int→Ak→Option (Ak×AD)
 |0=>fun _ _=>none
 |k+1=>H8 φ N ao2 ao5 x275 x277 x278 self5 x520 x552 (Hu φ N ao2 ao5 x275 x277 x278 self5 x520 x552 k)
def H9(φ:Aw)(N:Nat)(a0:AE)(ao2:Ak)(ao5:AM)(self5:Int→Ak→Int→Int→Option (Ak×AD))(x275:Int)(x276:Ak)(x277:Int)(x278:Int):Option (Ak×AD):=
 bif (decide (x275< (a0.args.length:Int))) then ((idx a0.args x275).bind fun x520=>(HJ a0 x275).bind fun x552=>Hu φ N ao2 ao5 x275 x277 x278 self5 x520 x552 N (0:Int) x276) else (some (x276,(AD.mk x277 x278)))
def CX(φ:Aw)(N:Nat)(a0:AE)(ao2:Ak)(ao5:AM):Nat→Int→Ak→Int→Int→Option (Ak×AD)
 |0=>fun _ _ _ _=>none
 |k+1=>H9 φ N a0 ao2 ao5 (CX φ N a0 ao2 ao5 k)
def KE(φ:Aw)(N:Nat)(a0:AE)(ao0:Ak)(ao2:Ak)(ao4:AD)(ao5:AM):Option (Ak×AD):=
 (Fb a0 ao0 ao2 ao4 ao5).bind fun x33=>CX φ N a0 ao2 ao5 N (0:Int) ao0 x33.why x33.at_
def Aw.at:Nat→Aw
 |0=>⟨fun _ _ _ _ _=>none⟩
 |n+1=>⟨KE (Aw.at n) n⟩
def scope_walk(N:Nat):AE→Ak→Ak→AD→AM→Option (Ak×AD):=(Aw.at N).scope_walk
def I4(x186:Int)(self1:(Int→Int→Int→Ak→Option (AD)))(x388:Int)(x389:Int)(x390:Ak):Option (AD):=
 self1 (i64.wrap (x186+(1:Int))) x388 x389 x390
def I5(x1185:Int)(x1188:Ak)(self5:(Int→Int→Int→Ak→Option (AD)))(x1273:AH)(x1309:Int)(x1310:Int):Option (AD):=
 self5 (i64.wrap (x1185+(1:Int))) x1309 x1310 (LF x1273.name (i64.wrap ((CR x1188 x1273.name)+(1:Int))) x1188)
def Fh(N:Nat)(a0:AM)(x189:Ak)(x757:Int)(self4:(Int→Int→Int→Option (AD)))(x1066:AK)(self5:Int→Int→Int→Ak→Option (AD))(x1185:Int)(x1186:Int)(x1187:Int)(x1188:Ak):Option (AD):=
 bif (decide (x1185< (x1066.params.length:Int))) then ((idx x1066.params x1185).bind fun x1273=>bif (decide ((CR x1188 x1273.name)>(0:Int))) then ((Dm (30:Int) x1273.at_ (AD.mk x1186 x1187)).bind fun x1327=>I5 x1185 x1188 self5 x1273 x1327.why x1327.at_) else (I5 x1185 x1188 self5 x1273 x1186 x1187)) else ((scope_walk N (AE.mk x1066.body.op x1066.body.name x1066.body.tail x1066.body.type_ x1066.body.num x1066.body.args x1066.body.at_) x1188 x189 (AD.mk x1186 x1187) a0).bind fun x1344=>self4 (i64.wrap (x757+(1:Int))) x1344.2.why x1344.2.at_)
def Fc(N:Nat)(a0:AM)(x189:Ak)(x757:Int)(self4:(Int→Int→Int→Option (AD)))(x1066:AK):Nat→Int→Int→Int→Ak→Option (AD)
 |0=>fun _ _ _ _=>none
 |k+1=>Fh N a0 x189 x757 self4 x1066 (Fc N a0 x189 x757 self4 x1066 k)
def HZ(N:Nat)(a0:AM)(x189:Ak)(self4:Int→Int→Int→Option (AD))(x757:Int)(x758:Int)(x759:Int):Option (AD):=
 bif (decide (x757< (a0.funcs.length:Int))) then ((idx a0.funcs x757).bind fun x1066=>Fc N a0 x189 x757 self4 x1066 N (0:Int) x758 x759 ([]:Ak)) else (some (AD.mk x758 x759))
def Cs(N:Nat)(a0:AM)(x189:Ak):Nat→Int→Int→Int→Option (AD)
 |0=>fun _ _ _=>none
 |k+1=>HZ N a0 x189 (Cs N a0 x189 k)
def Ha(N:Nat)(a0:AM)(self1:Int→Int→Int→Ak→Option (AD))(x186:Int)(x187:Int)(x188:Int)(x189:Ak):Option (AD):=
 bif (decide (x186< (a0.funcs.length:Int))) then ((idx a0.funcs x186).bind fun x398=>bif (decide ((CR x189 x398.name)>(0:Int))) then ((Dm (30:Int) x398.at_ (AD.mk x187 x188)).bind fun x440=>I4 x186 self1 x440.why x440.at_ x189) else (I4 x186 self1 x187 x188 (LF x398.name (i64.wrap (x186+(1:Int))) x189))) else (Cs N a0 x189 N (0:Int) x187 x188)
def HK(N:Nat)(a0:AM):Nat→Int→Int→Int→Ak→Option (AD)
 |0=>fun _ _ _ _=>none
 |k+1=>Ha N a0 (HK N a0 k)
def Hv(N:Nat)(a0:AM):Option (AD):=
 HK N a0 N (0:Int) (0:Int) (0:Int) ([]:Ak)
def IA(a0:AM)(self1:Int→Ak→Option (Ak×(List AK)×(List AH)×Ak))(x72:Int)(x73:Ak):Option (Ak×(List AK)×(List AH)×Ak):=
 bif (decide (x72≥(0:Int))) then ((idx a0.funcs x72).bind fun x127=>self1 (i64.wrap (x72 - (1:Int))) (LF x127.name (i64.wrap (x72+(1:Int))) x73)) else (some (x73,a0.funcs,[],x73))
def Hw(a0:AM):Nat→Int→Ak→Option (Ak×(List AK)×(List AH)×Ak)
 |0=>fun _ _=>none
 |k+1=>IA a0 (Hw a0 k)
def Jw(N:Nat)(a0:AM)(_ao0:AD):Option (Ak×(List AK)×(List AH)×Ak):=
 Hw a0 N (i64.wrap ((a0.funcs.length:Int) - (1:Int))) ([]:Ak)
def I6(a0:Int)(ao0:AD)(x3:Bool):Option (AD):=
 bif x3 then (some (AD.mk (34:Int) a0)) else (some ao0)
def Fd(a0:Int)(ao0:AD):Option (AD):=
 bif (ao0.why==(0:Int)) then (I6 a0 ao0 true) else (I6 a0 ao0 (decide (a0<ao0.at_)))
structure AF where
 types_checker_want:(List AK)→(List AH)→Ak→AD→AE→Int→Option ((List AK)×(List AH)×AD)
 types_checker_all:(List AK)→(List AH)→Ak→AD→Int→(List AE)→Option ((List AK)×(List AH)×AD)
 types_checker_in:(List AK)→(List AH)→Ak→AD→AE→Int→(List AH)→Option ((List AK)×(List AH)×AD)
 types_checker_in_2:(List AK)→(List AH)→Ak→AD→AE→Int→(List AH)→Option ((List AK)×(List AH)×AD)
 types_checker_in_3:(List AK)→(List AH)→Ak→AD→AE→Int→(List AH)→Option ((List AK)×(List AH)×AD)
 types_checker_own:(List AK)→(List AH)→Ak→AD→AE→Option (Int×(List AK)×(List AH)×AD)
 types_checker_want_1:(List AK)→(List AH)→Ak→AD→AE→Int→Option ((List AK)×(List AH)×AD)
 types_checker_want_2:(List AK)→(List AH)→Ak→AD→AE→Int→Option ((List AK)×(List AH)×AD)
 types_checker_want_3:(List AK)→(List AH)→Ak→AD→AE→Int→Option ((List AK)×(List AH)×AD)
 types_checker_call:(List AK)→(List AH)→Ak→AD→AE→Option (Int×(List AK)×(List AH)×AD)
def CM(a1:AE)(a2:Int)(x1084:Int)(x1085:(List AK))(x1089:(List AH))(x1093:Int)(x1094:Int):Option ((List AK)×(List AH)×AD):=
 bif (x1084 != a2) then ((Fd a1.at_ (AD.mk x1093 x1094)).bind fun x1128=>some (x1085,x1089,x1128)) else (some (x1085,x1089,(AD.mk x1093 x1094)))
def Fy(φ:AF)(_N:Nat)(ao0_1:(List AK))(ao0_2:(List AH))(ao1:Ak)(ao2:AD)(a1:AE)(a2:Int):Option ((List AK)×(List AH)×AD):=
 bif (a1.op==(19:Int)) then ((idx a1.args (0:Int)).bind fun x1269=>(φ.types_checker_want ao0_1 ao0_2 ao1 ao2 x1269 (2:Int)).bind fun x1293=>(sub a1.args (1:Int) (a1.args.length:Int)).bind fun x1441=>(φ.types_checker_all x1293.1 x1293.2.1 ao1 x1293.2.2 a2 x1441).bind fun x1463=>CM a1 a2 a2 x1463.1 x1463.2.1 x1463.2.2.why x1463.2.2.at_) else (bif (a1.op==(20:Int)) then ((idx a1.args (0:Int)).bind fun x1614=>(φ.types_checker_want ao0_1 ao0_2 ao1 ao2 x1614 (3:Int)).bind fun x1638=>(idx a1.args (1:Int)).bind fun x1791=>(φ.types_checker_want x1638.1 x1638.2.1 ao1 x1638.2.2 x1791 a2).bind fun x1816=>(φ.types_checker_in x1816.1 x1816.2.1 ao1 x1816.2.2 a1 a2 ([(AH.mk a1.name (1:Int) (0:Int)),(AH.mk a1.tail (3:Int) (0:Int))]:List AH)).bind fun x1864=>CM a1 a2 a2 x1864.1 x1864.2.1 x1864.2.2.why x1864.2.2.at_) else (bif (a1.op==(21:Int)) then ((φ.types_checker_in_2 ao0_1 ao0_2 ao1 ao2 a1 a2 ([(AH.mk a1.name a1.type_ (0:Int))]:List AH)).bind fun x1912=>CM a1 a2 a2 x1912.1 x1912.2.1 x1912.2.2.why x1912.2.2.at_) else (bif (a1.op==(22:Int)) then ((idx a1.args (0:Int)).bind fun x2063=>(φ.types_checker_want ao0_1 ao0_2 ao1 ao2 x2063 a1.type_).bind fun x2087=>(φ.types_checker_in_3 x2087.1 x2087.2.1 ao1 x2087.2.2 a1 a2 ([(AH.mk a1.name a1.type_ (0:Int))]:List AH)).bind fun x2135=>CM a1 a2 a2 x2135.1 x2135.2.1 x2135.2.2.why x2135.2.2.at_) else ((φ.types_checker_own ao0_1 ao0_2 ao1 ao2 a1).bind fun x2165=>CM a1 a2 x2165.1 x2165.2.1 x2165.2.2.1 x2165.2.2.2.why x2165.2.2.2.at_))))
def EQ(φ:AF)(ao1:Ak)(a1:Int)(a2:(List AE))(self1:Int→(List AK)→(List AH)→Int→Int→Option ((List AK)×(List AH)×AD))(x93:Int)(x94:(List AK))(x98:(List AH))(x102:Int)(x103:Int):Option ((List AK)×(List AH)×AD):=
 bif (decide (x93< (a2.length:Int))) then ((idx a2 x93).bind fun x199=>(φ.types_checker_want x94 x98 ao1 (AD.mk x102 x103) x199 a1).bind fun x235=>self1 (i64.wrap (x93+(1:Int))) x235.1 x235.2.1 x235.2.2.why x235.2.2.at_) else (some (x94,x98,(AD.mk x102 x103)))
def Dh(φ:AF)(ao1:Ak)(a1:Int)(a2:(List AE)):Nat→Int→(List AK)→(List AH)→Int→Int→Option ((List AK)×(List AH)×AD)
 |0=>fun _ _ _ _ _=>none
 |k+1=>EQ φ ao1 a1 a2 (Dh φ ao1 a1 a2 k)
def Iw(φ:AF)(N:Nat)(ao0_1:(List AK))(ao0_2:(List AH))(ao1:Ak)(ao2:AD)(a1:Int)(a2:(List AE)):Option ((List AK)×(List AH)×AD):=
 Dh φ ao1 a1 a2 N (0:Int) ao0_1 ao0_2 ao2.why ao2.at_
def Gq(φ:AF)(_N:Nat)(ao0_1:(List AK))(ao0_2:(List AH))(ao1:Ak)(ao2:AD)(ao4:AE)(ao5_0:Int)(a2:(List AH)):Option ((List AK)×(List AH)×AD):=
 (Gd 32 ao0_2 a2).bind fun _=>(φ.types_checker_want_1 ao0_1 (ao0_2++a2) ao1 ao2 ao4 ao5_0).bind fun x52=>(sub x52.2.1 0 (ao0_2.length:Int)).bind fun x75=>some (x52.1,x75,x52.2.2)
def F0(φ:AF)(_N:Nat)(ao0_1:(List AK))(ao0_2:(List AH))(ao1:Ak)(ao2:AD)(ao4:AE)(ao5_0:Int)(a2:(List AH)):Option ((List AK)×(List AH)×AD):=
 (Gd 32 ao0_2 a2).bind fun _=>(φ.types_checker_want_2 ao0_1 (ao0_2++a2) ao1 ao2 ao4 ao5_0).bind fun x52=>(sub x52.2.1 0 (ao0_2.length:Int)).bind fun x75=>some (x52.1,x75,x52.2.2)
def F1(φ:AF)(_N:Nat)(ao0_1:(List AK))(ao0_2:(List AH))(ao1:Ak)(ao2:AD)(ao4:AE)(ao5_0:Int)(a2:(List AH)):Option ((List AK)×(List AH)×AD):=
 (Gd 32 ao0_2 a2).bind fun _=>(φ.types_checker_want_3 ao0_1 (ao0_2++a2) ao1 ao2 ao4 ao5_0).bind fun x52=>(sub x52.2.1 0 (ao0_2.length:Int)).bind fun x75=>some (x52.1,x75,x52.2.2)
def Gh(ao0_1:(List AK))(ao0_2:(List AH))(ao2:AD)(a1:AE)(self1:Int→Option (Int×(List AK)×(List AH)×AD))(x86:Int):Option (Int×(List AK)×(List AH)×AD):=
 bif (decide (x86≥(0:Int))) then ((idx ao0_2 x86).bind fun x130=>bif (x130.name==a1.name) then ((idx ao0_2 x86).bind fun x145=>some (x145.type_,ao0_1,ao0_2,ao2)) else (self1 (i64.wrap (x86 - (1:Int))))) else (some ((0:Int),ao0_1,ao0_2,ao2))
def Ei(ao0_1:(List AK))(ao0_2:(List AH))(ao2:AD)(a1:AE):Nat→Int→Option (Int×(List AK)×(List AH)×AD)
 |0=>fun _=>none
 |k+1=>Gh ao0_1 ao0_2 ao2 a1 (Ei ao0_1 ao0_2 ao2 a1 k)
def HL(x325:((List AK)×(List AH)×AD))(x350:Bool):Option (Int×(List AK)×(List AH)×AD):=
 bif x350 then (some ((2:Int),x325.1,x325.2.1,x325.2.2)) else (some ((1:Int),x325.1,x325.2.1,x325.2.2))
def Ej(φ:AF)(N:Nat)(ao0_1:(List AK))(ao0_2:(List AH))(ao1:Ak)(ao2:AD)(a1:AE)(x25:Bool):Option (Int×(List AK)×(List AH)×AD):=
 bif x25 then (some ((2:Int),ao0_1,ao0_2,ao2)) else (bif (a1.op==(4:Int)) then (some ((3:Int),ao0_1,ao0_2,ao2)) else (bif (a1.op==(5:Int)) then (some (a1.type_,ao0_1,ao0_2,ao2)) else (bif (a1.op==(6:Int)) then (Ei ao0_1 ao0_2 ao2 a1 N (i64.wrap ((ao0_2.length:Int) - (1:Int)))) else (bif (a1.op==(7:Int)) then ((φ.types_checker_call ao0_1 ao0_2 ao1 ao2 a1).bind fun x171=>some (x171.1,x171.2.1,x171.2.2.1,x171.2.2.2)) else (bif (a1.op==(14:Int)) then ((φ.types_checker_all ao0_1 ao0_2 ao1 ao2 (2:Int) a1.args).bind fun x202=>some ((2:Int),x202.1,x202.2.1,x202.2.2)) else (bif (a1.op==(18:Int)) then ((idx a1.args (0:Int)).bind fun x227=>(φ.types_checker_want ao0_1 ao0_2 ao1 ao2 x227 (1:Int)).bind fun x251=>(idx a1.args (1:Int)).bind fun x275=>(φ.types_checker_want x251.1 x251.2.1 ao1 x251.2.2 x275 (3:Int)).bind fun x295=>some ((3:Int),x295.1,x295.2.1,x295.2.2)) else ((φ.types_checker_all ao0_1 ao0_2 ao1 ao2 (1:Int) a1.args).bind fun x325=>bif (a1.op==(12:Int)) then (HL x325 true) else (HL x325 (a1.op==(13:Int))))))))))
def GT(φ:AF)(N:Nat)(ao0_1:(List AK))(ao0_2:(List AH))(ao1:Ak)(ao2:AD)(a1:AE):Option (Int×(List AK)×(List AH)×AD):=
 bif (a1.op==(2:Int)) then (Ej φ N ao0_1 ao0_2 ao1 ao2 a1 (a1.op==(2:Int))) else (Ej φ N ao0_1 ao0_2 ao1 ao2 a1 (a1.op==(3:Int)))
def FA(φ:AF)(_N:Nat)(ao1_1:(List AK))(ao1_2:(List AH))(ao2:Ak)(ao3:AD)(ao4:AE)(ao5_0:Int):Option ((List AK)×(List AH)×AD):=
 (idx ao4.args (2:Int)).bind fun x151=>(φ.types_checker_want ao1_1 ao1_2 ao2 ao3 x151 ao5_0).bind fun x176=>some (x176.1,x176.2.1,x176.2.2)
def FB(φ:AF)(_N:Nat)(ao1_1:(List AK))(ao1_2:(List AH))(ao2:Ak)(ao3:AD)(ao4:AE)(ao5_0:Int):Option ((List AK)×(List AH)×AD):=
 (idx ao4.args (0:Int)).bind fun x148=>(φ.types_checker_want ao1_1 ao1_2 ao2 ao3 x148 ao4.type_).bind fun x172=>(idx ao4.args (1:Int)).bind fun x325=>(φ.types_checker_want x172.1 x172.2.1 ao2 x172.2.2 x325 ao5_0).bind fun x350=>some (x350.1,x350.2.1,x350.2.2)
def FC(φ:AF)(_N:Nat)(ao1_1:(List AK))(ao1_2:(List AH))(ao2:Ak)(ao3:AD)(ao4:AE)(ao5_0:Int):Option ((List AK)×(List AH)×AD):=
 (idx ao4.args (1:Int)).bind fun x151=>(φ.types_checker_want ao1_1 ao1_2 ao2 ao3 x151 ao5_0).bind fun x176=>some (x176.1,x176.2.1,x176.2.2)
def D7(φ:AF)(ao1:Ak)(a1:AE)(x76:AK)(self1:Int→(List AK)→(List AH)→Int→Int→Option (Int×(List AK)×(List AH)×AD))(x316:Int)(x317:(List AK))(x321:(List AH))(x325:Int)(x326:Int):Option (Int×(List AK)×(List AH)×AD):=
 bif (decide (x316< (x76.params.length:Int))) then ((idx x76.params x316).bind fun x560=>(idx a1.args x316).bind fun x709=>(φ.types_checker_want x317 x321 ao1 (AD.mk x325 x326) x709 x560.type_).bind fun x734=>self1 (i64.wrap (x316+(1:Int))) x734.1 x734.2.1 x734.2.2.why x734.2.2.at_) else ((idx x317 (i64.wrap ((CR ao1 a1.name) - (1:Int)))).bind fun x757=>some (x757.type_,x317,x321,(AD.mk x325 x326)))
def Dp(φ:AF)(ao1:Ak)(a1:AE)(x76:AK):Nat→Int→(List AK)→(List AH)→Int→Int→Option (Int×(List AK)×(List AH)×AD)
 |0=>fun _ _ _ _ _=>none
 |k+1=>D7 φ ao1 a1 x76 (Dp φ ao1 a1 x76 k)
def FV(φ:AF)(N:Nat)(ao0_1:(List AK))(ao0_2:(List AH))(ao1:Ak)(ao2:AD)(a1:AE)(x66:Bool):Option (Int×(List AK)×(List AH)×AD):=
 bif x66 then (some ((0:Int),ao0_1,ao0_2,ao2)) else ((idx ao0_1 (i64.wrap ((CR ao1 a1.name) - (1:Int)))).bind fun x76=>Dp φ ao1 a1 x76 N (0:Int) ao0_1 ao0_2 ao2.why ao2.at_)
def F2(φ:AF)(N:Nat)(ao0_1:(List AK))(ao0_2:(List AH))(ao1:Ak)(ao2:AD)(a1:AE):Option (Int×(List AK)×(List AH)×AD):=
 bif ((CR ao1 a1.name)==(0:Int)) then (FV φ N ao0_1 ao0_2 ao1 ao2 a1 true) else ((idx ao0_1 (i64.wrap ((CR ao1 a1.name) - (1:Int)))).bind fun x787=>FV φ N ao0_1 ao0_2 ao1 ao2 a1 ((x787.params.length:Int) != (a1.args.length:Int)))
def AF.at:Nat→AF
 |0=>⟨fun _ _ _ _ _ _=>none,fun _ _ _ _ _ _=>none,fun _ _ _ _ _ _ _=>none,fun _ _ _ _ _ _ _=>none,fun _ _ _ _ _ _ _=>none,fun _ _ _ _ _=>none,fun _ _ _ _ _ _=>none,fun _ _ _ _ _ _=>none,fun _ _ _ _ _ _=>none,fun _ _ _ _ _=>none⟩
 |n+1=>⟨Fy (AF.at n) n,Iw (AF.at n) n,Gq (AF.at n) n,F0 (AF.at n) n,F1 (AF.at n) n,GT (AF.at n) n,FA (AF.at n) n,FB (AF.at n) n,FC (AF.at n) n,F2 (AF.at n) n⟩
def types_checker_want(N:Nat):(List AK)→(List AH)→Ak→AD→AE→Int→Option ((List AK)×(List AH)×AD):=(AF.at N).types_checker_want
def types_checker_all(N:Nat):(List AK)→(List AH)→Ak→AD→Int→(List AE)→Option ((List AK)×(List AH)×AD):=(AF.at N).types_checker_all
def types_checker_in(N:Nat):(List AK)→(List AH)→Ak→AD→AE→Int→(List AH)→Option ((List AK)×(List AH)×AD):=(AF.at N).types_checker_in
def types_checker_in_2(N:Nat):(List AK)→(List AH)→Ak→AD→AE→Int→(List AH)→Option ((List AK)×(List AH)×AD):=(AF.at N).types_checker_in_2
def types_checker_in_3(N:Nat):(List AK)→(List AH)→Ak→AD→AE→Int→(List AH)→Option ((List AK)×(List AH)×AD):=(AF.at N).types_checker_in_3
def types_checker_own(N:Nat):(List AK)→(List AH)→Ak→AD→AE→Option (Int×(List AK)×(List AH)×AD):=(AF.at N).types_checker_own
def types_checker_want_1(N:Nat):(List AK)→(List AH)→Ak→AD→AE→Int→Option ((List AK)×(List AH)×AD):=(AF.at N).types_checker_want_1
def types_checker_want_2(N:Nat):(List AK)→(List AH)→Ak→AD→AE→Int→Option ((List AK)×(List AH)×AD):=(AF.at N).types_checker_want_2
def types_checker_want_3(N:Nat):(List AK)→(List AH)→Ak→AD→AE→Int→Option ((List AK)×(List AH)×AD):=(AF.at N).types_checker_want_3
def types_checker_call(N:Nat):(List AK)→(List AH)→Ak→AD→AE→Option (Int×(List AK)×(List AH)×AD):=(AF.at N).types_checker_call
def Hb(N:Nat)(a0:AM)(x46:(Ak×(List AK)×(List AH)×Ak))(self1:Int→Int→Int→(List AK)→(List AH)→Option (AD))(x175:Int)(x176:Int)(x177:Int)(x178:(List AK))(_x182:(List AH)):Option (AD):=
 bif (decide (x175< (a0.funcs.length:Int))) then ((idx a0.funcs x175).bind fun x306=>(Gd 32 ([]:List AH) x306.params).bind fun _=>(types_checker_want N x178 (([]:List AH)++x306.params) x46.2.2.2 (AD.mk x176 x177) (AE.mk x306.body.op x306.body.name x306.body.tail x306.body.type_ x306.body.num x306.body.args x306.body.at_) x306.type_).bind fun x367=>self1 (i64.wrap (x175+(1:Int))) x367.2.2.why x367.2.2.at_ x367.1 x367.2.1) else (some (AD.mk x176 x177))
def HM(N:Nat)(a0:AM)(x46:(Ak×(List AK)×(List AH)×Ak)):Nat→Int→Int→Int→(List AK)→(List AH)→Option (AD)
 |0=>fun _ _ _ _ _=>none
 |k+1=>Hb N a0 x46 (HM N a0 x46 k)
def GX(N:Nat)(a0:AM):Option (AD):=
 (Hv N a0).bind fun x21=>bif (x21.why != (0:Int)) then (some x21) else ((Jw N a0 x21).bind fun x46=>HM N a0 x46 N (0:Int) x21.why x21.at_ x46.2.1 x46.2.2.1)
def IB(a0:Nat):Option (Nat):=
 (Rc a0).bind fun x1=>some x1
def Hq(a0:Nat):Option (Bool):=
 some (decide ((i64.wrap (((a0:Nat):Int)))< (0:Int)))
def HN(x15:Bool):Option (Bool):=
 some x15
def GY(a0:Nat):Option (Bool):=
 bif (fge a0 (13938640846711685120:Nat)) then (bif (fle a0 (4715268809856909312:Nat)) then ((IB a0).bind fun x21=>bif (feq a0 x21) then (bif (fne a0 (0:Nat)) then (HN true) else ((Hq a0).bind fun x28=>HN (!x28))) else (HN false)) else (HN false)) else (HN false)
def Jx(x12:Bool):Option (Bool):=
 some x12
def Bv(a0:(Nat×Nat)):Option (Bool):=
 (GY a0.1).bind fun x16=>bif x16 then ((GY a0.2).bind fun x22=>Jx x22) else (Jx false)
def EH(x210:Bool):Option (Int):=
 bif (!x210) then (some (3:Int)) else (some (0:Int))
def Jy(x308:Int)(self2:(Bool→Int→Option (Int)))(x381:Bool):Option (Int):=
 self2 x381 (i64.wrap (x308+(1:Int)))
def JY(a0:AI)(self2:Bool→Int→Option (Int))(x307:Bool)(x308:Int):Option (Int):=
 bif (decide (x308< (a0.list.length:Int))) then ((idx a0.list x308).bind fun x385=>bif x307 then ((Bv x385).bind fun x399=>Jy x308 self2 x399) else (Jy x308 self2 false)) else (EH x307)
def IC(a0:AI):Nat→Bool→Int→Option (Int)
 |0=>fun _ _=>none
 |k+1=>JY a0 (IC a0 k)
def I7(N:Nat)(a0:AI)(x250:Bool):Option (Int):=
 IC a0 N x250 (0:Int)
def DB(N:Nat)(a0:AI):Option (Int):=
 bif (a0.type_==(1:Int)) then ((Bv a0.num).bind fun x216=>bif x216 then (bif (!a0.bool) then (EH ((a0.list.length:Int)==(0:Int))) else (EH false)) else (EH false)) else (bif (a0.type_==(2:Int)) then ((Bv a0.num).bind fun x229=>bif x229 then (bif (ceq a0.num ((0,0):Nat×Nat)) then (EH ((a0.list.length:Int)==(0:Int))) else (EH false)) else (EH false)) else (bif (a0.type_==(3:Int)) then ((Bv a0.num).bind fun x404=>bif x404 then (bif (ceq a0.num ((0,0):Nat×Nat)) then (I7 N a0 (!a0.bool)) else (I7 N a0 false)) else (I7 N a0 false)) else (EH false)))
def H2(a0:Aq):Option (Th):=
 some (Th.done (AI.mk a0.plain.type_ a0.plain.num a0.plain.bool a0.plain.list) a0.head a0.tail)
def Jz(a0:AI)(self1:Th→Int→Option (Th))(x75:Th)(x78:Int):Option (Th):=
 bif (decide (x78≥(0:Int))) then ((idx a0.list x78).bind fun x126=>(H2 (Aq.mk (AI.mk (1:Int) x126 false []) Th.nil Th.nil)).bind fun x139=>(H2 (Aq.mk (AI.mk (0:Int) ((0,0):Nat×Nat) false []) x139 x75)).bind fun x148=>self1 x148 (i64.wrap (x78 - (1:Int)))) else (some x75)
def Il(a0:AI):Nat→Th→Int→Option (Th)
 |0=>fun _ _=>none
 |k+1=>Jz a0 (Il a0 k)
def ID(N:Nat)(a0:AI):Option (Th):=
 bif (a0.type_ != (3:Int)) then ((H2 (Aq.mk a0 Th.nil Th.nil)).bind fun x15=>some x15) else ((H2 (Aq.mk (AI.mk (3:Int) ((0,0):Nat×Nat) false []) Th.nil Th.nil)).bind fun x23=>Il a0 N x23 (i64.wrap ((a0.list.length:Int) - (1:Int))))
def KK(a1:Bts)(self1:Nm→Option (Th))(x22:Nm):Option (Th):=
 (x22.view).bind fun x50=>bif (!(x50.1==a1)) then (self1 x50.2.2) else (some x50.2.1)
def D8(a1:Bts):Nat→Nm→Option (Th)
 |0=>fun _=>none
 |k+1=>KK a1 (D8 a1 k)
def DU(N:Nat)(a0:Nm)(a1:Bts):Option (Th):=
 D8 a1 N a0
def Ie(a1:Aq):Option (Aq):=
 some a1
def Im(a0:AE):Option (AE):=
 some a0
def LW(x9:Bool):Option (Int×Int):=
 bif x9 then (some ((1:Int),(1:Int))) else (some ((0:Int),(0:Int)))
def LX(a0:Int)(x2:Bool):Option (Int×Int):=
 bif x2 then (some ((2:Int),(1:Int))) else (bif (a0==(14:Int)) then (some ((1:Int),(2:Int))) else (bif (decide (a0≥(15:Int))) then (LW (decide (a0≤(17:Int)))) else (LW false)))
def Hc(a0:Int):Option (Int×Int):=
 bif (decide (a0≥(8:Int))) then (LX a0 (decide (a0≤(13:Int)))) else (LX a0 false)
def Dq(a0:(Nat×Nat))(a1:Int):Option (AI×Int):=
 bif (a1 != (0:Int)) then (some ((AI.mk (0:Int) ((0,0):Nat×Nat) false []),a1)) else (some ((AI.mk (1:Int) a0 false []),(0:Int)))
def Ek(a0:(Nat×Nat)):Option ((Nat×Nat)×Int):=
 (FloatKind.f64.format.add a0.1 (0:Nat)).bind fun x1=>(FloatKind.f64.format.add a0.2 (0:Nat)).bind fun x3=>(Bv (x1,x3)).bind fun x5=>bif (!x5) then (some (((0,0):Nat×Nat),(50:Int))) else (some ((x1,x3),(0:Int)))
def Hd(a0:(Nat×Nat)):Option ((Nat×Nat)×Int):=
 (Bv a0).bind fun x1=>bif (!x1) then (some (((0,0):Nat×Nat),(3:Int))) else ((Ek (a0.1,(Op.negFloat .f64 a0.2))).bind fun x7=>some (x7.1,x7.2))
def Kt(a0:(Nat×Nat))(a1:(Nat×Nat))(x12:Bool):Option ((Nat×Nat)×Int):=
 bif x12 then (some (((0,0):Nat×Nat),(3:Int))) else ((cadd a0 a1).bind fun x17=>(Ek x17).bind fun x19=>some (x19.1,x19.2))
def I8(a0:(Nat×Nat))(a1:(Nat×Nat)):Option ((Nat×Nat)×Int):=
 (Bv a0).bind fun x24=>bif (!x24) then (Kt a0 a1 true) else ((Bv a1).bind fun x30=>Kt a0 a1 (!x30))
def Ku(a0:(Nat×Nat))(a1:(Nat×Nat))(x12:Bool):Option ((Nat×Nat)×Int):=
 bif x12 then (some (((0,0):Nat×Nat),(3:Int))) else ((csub a0 a1).bind fun x17=>(Ek x17).bind fun x19=>some (x19.1,x19.2))
def I9(a0:(Nat×Nat))(a1:(Nat×Nat)):Option ((Nat×Nat)×Int):=
 (Bv a0).bind fun x24=>bif (!x24) then (Ku a0 a1 true) else ((Bv a1).bind fun x30=>Ku a0 a1 (!x30))
def Kv(a0:(Nat×Nat))(a1:(Nat×Nat))(x12:Bool):Option ((Nat×Nat)×Int):=
 bif x12 then (some (((0,0):Nat×Nat),(3:Int))) else ((cmul a0 a1).bind fun x17=>(Ek x17).bind fun x19=>some (x19.1,x19.2))
def JA(a0:(Nat×Nat))(a1:(Nat×Nat)):Option ((Nat×Nat)×Int):=
 (Bv a0).bind fun x24=>bif (!x24) then (Kv a0 a1 true) else ((Bv a1).bind fun x30=>Kv a0 a1 (!x30))
def Hj(a0:Nat):Option (Nat):=
 some (((Ce .u64 ((a0:Nat):Int) (9223372036854775808:Int))).toNat)
def Jk(x8:Nat):Option (Bool):=
 some (fgt x8 (9218868437227405311:Nat))
def Gs(a0:Nat)(a1:Int):Option (Bool):=
 bif (a1==(0:Int)) then ((Hj a0).bind fun x13=>Jk x13) else (bif (decide (a1< (0:Int))) then (Jk (Op.negFloat .f64 a0)) else (Jk a0))
def GJ(a0:Nat):Option (Bool):=
 some (fne a0 a0)
def Kw:Option (Nat):=
 some (((9221120237041090561:Int)).toNat)
def EI(a0:Nat):Option (Nat×Int):=
 (Hj a0).bind fun x1=>bif (flt_ x1 (4503599627370496:Nat)) then ((FloatKind.f64.format.mul a0 (4841369599423283200:Nat)).bind fun x7=>some (x7,(-52:Int))) else (some (a0,(0:Int)))
def KN(a0:Nat)(x13:Bool):Option (Nat×Int):=
 bif x13 then (some (a0,(0:Int))) else ((EI a0).bind fun x18=>(nn (52:Int)).bind fun _=>some (((LG .u64 (Ce .u64 ((x18.1:Nat):Int) (9218868437227405312:Int)) (4602678819172646912:Int))).toNat,(i64.wrap (x18.2+(i64.wrap ((i64.wrap ((i64.wrap ((EZ .u64 (shr .u64 ((x18.1:Nat):Int) (52:Int)) (2047:Int)))) - (1023:Int)))+(1:Int)))))))
def In(a0:Nat):Option (Nat×Int):=
 bif (feq a0 (0:Nat)) then (some (a0,(0:Int))) else ((Gs a0 (0:Int)).bind fun x25=>bif x25 then (KN a0 true) else ((GJ a0).bind fun x31=>KN a0 x31))
def He(a0:Nat):Option (Nat×Int):=
 (In a0).bind fun x1=>some (x1.1,x1.2)
def G4(a0:Nat)(a1:Nat):Option (Nat):=
 some (((LG .u64 (Ce .u64 ((a0:Nat):Int) (9223372036854775808:Int)) (EZ .u64 ((a1:Nat):Int) (9223372036854775808:Int)))).toNat)
def MR(x2:Int):Option (Nat):=
 some ((x2).toNat)
def KO(a0:Int):Option (Nat):=
 bif (decide (a0≥(0:Int))) then (MR (9218868437227405312:Int)) else (MR (18442240474082181120:Int))
def KP(x18:(Nat×Int))(x44:Int)(x45:Nat):Option (Nat):=
 (nn (52:Int)).bind fun _=>(FloatKind.f64.format.mul x45 (((LG .u64 (Ce .u64 ((x18.1:Nat):Int) (9218868437227405312:Int)) (shl .u64 (IntKind.u64.wrap ((i64.wrap (x44+(1023:Int))))) (52:Int)))).toNat)).bind fun x51=>some x51
def KQ(a0:Nat)(a1:Int)(x13:Bool):Option (Nat):=
 bif x13 then (some a0) else ((EI a0).bind fun x18=>(nn (52:Int)).bind fun _=>bif (decide ((i64.wrap ((i64.wrap (a1+x18.2))+(i64.wrap ((EZ .i64 (i64.wrap ((shr .u64 ((x18.1:Nat):Int) (52:Int)))) (2047:Int)) - (1023:Int)))))< (-1075:Int))) then ((G4 (0:Nat) x18.1).bind fun x26=>some x26) else (bif (decide ((i64.wrap ((i64.wrap (a1+x18.2))+(i64.wrap ((EZ .i64 (i64.wrap ((shr .u64 ((x18.1:Nat):Int) (52:Int)))) (2047:Int)) - (1023:Int)))))>(1023:Int))) then (bif (flt_ x18.1 (0:Nat)) then ((KO (-1:Int)).bind fun x33=>some x33) else ((KO (1:Int)).bind fun x38=>some x38)) else (bif (decide ((i64.wrap ((i64.wrap (a1+x18.2))+(i64.wrap ((EZ .i64 (i64.wrap ((shr .u64 ((x18.1:Nat):Int) (52:Int)))) (2047:Int)) - (1023:Int)))))< (-1022:Int))) then (KP x18 (i64.wrap ((i64.wrap ((i64.wrap (a1+x18.2))+(i64.wrap ((EZ .i64 (i64.wrap ((shr .u64 ((x18.1:Nat):Int) (52:Int)))) (2047:Int)) - (1023:Int)))))+(53:Int))) (4368491638549381120:Nat)) else (KP x18 (i64.wrap ((i64.wrap (a1+x18.2))+(i64.wrap ((EZ .i64 (i64.wrap ((shr .u64 ((x18.1:Nat):Int) (52:Int)))) (2047:Int)) - (1023:Int))))) (4607182418800017408:Nat)))))
def Io(a0:Nat)(a1:Int):Option (Nat):=
 bif (feq a0 (0:Nat)) then (some a0) else ((Gs a0 (0:Int)).bind fun x54=>bif x54 then (KQ a0 a1 true) else ((GJ a0).bind fun x60=>KQ a0 a1 x60))
def IE(a0:Nat)(a1:Int):Option (Nat):=
 (Io a0 a1).bind fun x1=>some x1
def J0(x29:Nat)(x34:(Nat×Int))(x67:Nat)(self1:(Nat→Option (Nat)))(x102:Int):Option (Nat):=
 (IE x29 (i64.wrap (x102 - x34.2))).bind fun x106=>(FloatKind.f64.format.sub x67 x106).bind fun x111=>self1 x111
def MS(x115:Nat):Option (Nat):=
 some x115
def Kx(a0:Nat)(x29:Nat)(x34:(Nat×Int))(self1:Nat→Option (Nat))(x67:Nat):Option (Nat):=
 bif (fge x67 x29) then ((He x67).bind fun x96=>bif (flt_ x96.1 x34.1) then (J0 x29 x34 x67 self1 (i64.wrap (x96.2 - (1:Int)))) else (J0 x29 x34 x67 self1 x96.2)) else (bif (flt_ a0 (0:Nat)) then (MS (Op.negFloat .f64 x67)) else (MS x67))
def JM(a0:Nat)(x29:Nat)(x34:(Nat×Int)):Nat→Nat→Option (Nat)
 |0=>fun _=>none
 |k+1=>Kx a0 x29 x34 (JM a0 x29 x34 k)
def Km(N:Nat)(a0:Nat)(x29:Nat)(x34:(Nat×Int))(x40:Nat):Option (Nat):=
 JM a0 x29 x34 N x40
def J1(N:Nat)(a0:Nat)(a1:Nat)(x19:Bool):Option (Nat):=
 bif x19 then ((Kw).bind fun x24=>some x24) else ((Hj a1).bind fun x29=>(He x29).bind fun x34=>bif (flt_ a0 (0:Nat)) then (Km N a0 x29 x34 (Op.negFloat .f64 a0)) else (Km N a0 x29 x34 a0))
def KR(N:Nat)(a0:Nat)(a1:Nat):Option (Nat):=
 bif (feq a1 (0:Nat)) then (J1 N a0 a1 true) else ((Gs a0 (0:Int)).bind fun x122=>bif x122 then (J1 N a0 a1 true) else ((GJ a0).bind fun x128=>bif x128 then (J1 N a0 a1 true) else ((GJ a1).bind fun x134=>J1 N a0 a1 x134)))
def JZ(N:Nat)(a0:Nat)(a1:Nat):Option (Nat):=
 (KR N a0 a1).bind fun x1=>some x1
def Ky(x18:(Nat×Nat))(x20:(Nat×Nat))(x33:Bool):Option ((Nat×Nat)×Int):=
 bif x33 then (some (((0,0):Nat×Nat),(51:Int))) else ((FloatKind.f64.format.div x18.1 x20.1).bind fun x38=>(FloatKind.f64.format.div x18.2 x20.1).bind fun x40=>(Ek (x38,x40)).bind fun x42=>some (x42.1,x42.2))
def Kz(N:Nat)(a0:(Nat×Nat))(a1:(Nat×Nat))(x12:Bool):Option ((Nat×Nat)×Int):=
 bif x12 then (some (((0,0):Nat×Nat),(3:Int))) else (bif (ceq a1 ((0,0):Nat×Nat)) then (some (((0,0):Nat×Nat),(51:Int))) else ((cmul a0 (a1.1,(Op.negFloat .f64 a1.2))).bind fun x18=>(cmul a1 (a1.1,(Op.negFloat .f64 a1.2))).bind fun x20=>(JZ N x18.1 x20.1).bind fun x47=>bif (fne x47 (0:Nat)) then (Ky x18 x20 true) else ((JZ N x18.2 x20.1).bind fun x53=>Ky x18 x20 (fne x53 (0:Nat)))))
def JB(N:Nat)(a0:(Nat×Nat))(a1:(Nat×Nat)):Option ((Nat×Nat)×Int):=
 (Bv a0).bind fun x58=>bif (!x58) then (Kz N a0 a1 true) else ((Bv a1).bind fun x64=>Kz N a0 a1 (!x64))
def KS(a0:(Nat×Nat))(a1:(Nat×Nat))(x12:Bool):Option (Bool×Int):=
 bif x12 then (some (false,(3:Int))) else (bif (fne a0.1 a1.1) then (some ((flt_ a0.1 a1.1),(0:Int))) else (some ((flt_ a0.2 a1.2),(0:Int))))
def IF(a0:(Nat×Nat))(a1:(Nat×Nat)):Option (Bool×Int):=
 (Bv a0).bind fun x18=>bif (!x18) then (KS a0 a1 true) else ((Bv a1).bind fun x24=>KS a0 a1 (!x24))
def Ja(N:Nat)(a0:Int)(a1:(Nat×Nat))(a2:(Nat×Nat)):Option (AI×Int):=
 bif (a0==(8:Int)) then ((I8 a1 a2).bind fun x8=>(Dq x8.1 x8.2).bind fun x13=>some (x13.1,x13.2)) else (bif (a0==(9:Int)) then ((I9 a1 a2).bind fun x33=>(Dq x33.1 x33.2).bind fun x38=>some (x38.1,x38.2)) else (bif (a0==(10:Int)) then ((JA a1 a2).bind fun x58=>(Dq x58.1 x58.2).bind fun x63=>some (x63.1,x63.2)) else (bif (a0==(11:Int)) then ((JB N a1 a2).bind fun x83=>(Dq x83.1 x83.2).bind fun x88=>some (x88.1,x88.2)) else (bif (a0==(12:Int)) then (some ((AI.mk (2:Int) ((0,0):Nat×Nat) (ceq a1 a2) []),(0:Int))) else ((IF a1 a2).bind fun x112=>some ((AI.mk (2:Int) ((0,0):Nat×Nat) x112.1 []),x112.2))))))
def Hx(x94:Int)(self1:(Int→Option (AI×Int)))(x196:Bool):Option (AI×Int):=
 bif x196 then (some ((AI.mk (0:Int) ((0,0):Nat×Nat) false []),(3:Int))) else (self1 (i64.wrap (x94+(1:Int))))
def Cc(N:Nat)(a0:Int)(a1:(List AI))(x11:(Int×Int))(self1:Int→Option (AI×Int))(x94:Int):Option (AI×Int):=
 bif (decide (x94< (a1.length:Int))) then ((idx a1 x94).bind fun x159=>bif (x159.type_ != x11.2) then (Hx x94 self1 true) else ((DB N x159).bind fun x208=>Hx x94 self1 (x208 != (0:Int)))) else ((idx a1 (0:Int)).bind fun x213=>bif (a0==(14:Int)) then (some ((AI.mk (2:Int) ((0,0):Nat×Nat) (!x213.bool) []),(0:Int))) else (bif (a0==(15:Int)) then ((Dq (x213.num.1,(0:Nat)) (0:Int)).bind fun x239=>some (x239.1,x239.2)) else (bif (a0==(16:Int)) then ((Dq (x213.num.2,(0:Nat)) (0:Int)).bind fun x259=>some (x259.1,x259.2)) else (bif (a0==(17:Int)) then ((Hd x213.num).bind fun x279=>(Dq x279.1 x279.2).bind fun x284=>some (x284.1,x284.2)) else ((idx a1 (1:Int)).bind fun x303=>(Ja N a0 x213.num x303.num).bind fun x321=>some (x321.1,x321.2))))))
def DQ(N:Nat)(a0:Int)(a1:(List AI))(x11:(Int×Int)):Nat→Int→Option (AI×Int)
 |0=>fun _=>none
 |k+1=>Cc N a0 a1 x11 (DQ N a0 a1 x11 k)
def LY(N:Nat)(a0:Int)(a1:(List AI))(x11:(Int×Int))(x21:Bool):Option (AI×Int):=
 bif x21 then (some ((AI.mk (0:Int) ((0,0):Nat×Nat) false []),(3:Int))) else (DQ N a0 a1 x11 N (0:Int))
def D0(N:Nat)(a0:Int)(a1:(List AI)):Option (AI×Int):=
 (Hc a0).bind fun x11=>bif (x11.1==(0:Int)) then (LY N a0 a1 x11 true) else (LY N a0 a1 x11 ((a1.length:Int) != x11.1))
structure AU where
 mean_run_look:(List AK)→Int→Int→Ak→AE→Nm→Option ((Except Int Aq)×(List AK)×Int×Int)
 mean_later_1:(List AK)→Int→Int→Ak→AE→Nm→Option ((Except Int Aq)×(List AK)×Int×Int)
 mean_callth:(List AK)→Int→Int→Ak→Th→Option ((Except Int Aq)×(List AK)×Int×Int)
 mean_run_parts:(List AK)→Int→Int→Ak→AE→Nm→Option ((Except Int Aq)×(List AK)×Int×Int)
def KF(φ:AU)(ao0_1:(List AK))(ao0_2:Int)(ao0_3:Int)(ao1:Ak)(a1:AE)(a2:Nm):Option ((Except Int Aq)×(List AK)×Int×Int):=
 (φ.mean_run_parts ao0_1 (i64.wrap (ao0_2+(1:Int))) ao0_3 ao1 a1 a2).bind fun x1007=>Iu x1007.1 (fun y1021=>some ((Except.error y1021:Except Int Aq),x1007.2.1,x1007.2.2.1,x1007.2.2.2)) fun r1023=>some ((Except.ok r1023:Except Int Aq),x1007.2.1,x1007.2.2.1,x1007.2.2.2)
def If(φ:AU)(ao0_1:(List AK))(ao0_2:Int)(ao0_3:Int)(ao1:Ak)(a1:AE)(a2:Nm)(x1151:AK)(self2:Nm→Int→Option ((Except Int Aq)×(List AK)×Int×Int))(x1339:Nm)(x1342:Int):Option ((Except Int Aq)×(List AK)×Int×Int):=
 bif (decide (x1342< (x1151.params.length:Int))) then ((idx x1151.params x1342).bind fun x1497=>(idx a1.args x1342).bind fun x1592=>(Im x1592).bind fun x1611=>self2 (Nm.bind x1497.name (Th.later x1611 a2) x1339) (i64.wrap (x1342+(1:Int)))) else ((φ.mean_run_look ao0_1 (i64.wrap (ao0_2+(1:Int))) ao0_3 ao1 (AE.mk x1151.body.op x1151.body.name x1151.body.tail x1151.body.type_ x1151.body.num x1151.body.args x1151.body.at_) x1339).bind fun x1655=>Iu x1655.1 (fun y1669=>some ((Except.error y1669:Except Int Aq),x1655.2.1,x1655.2.2.1,x1655.2.2.2)) fun r1671=>some ((Except.ok r1671:Except Int Aq),x1655.2.1,x1655.2.2.1,x1655.2.2.2))
def F3(φ:AU)(ao0_1:(List AK))(ao0_2:Int)(ao0_3:Int)(ao1:Ak)(a1:AE)(a2:Nm)(x1151:AK):Nat→Nm→Int→Option ((Except Int Aq)×(List AK)×Int×Int)
 |0=>fun _ _=>none
 |k+1=>If φ ao0_1 ao0_2 ao0_3 ao1 a1 a2 x1151 (F3 φ ao0_1 ao0_2 ao0_3 ao1 a1 a2 x1151 k)
def CO(φ:AU)(N:Nat)(ao0_1:(List AK))(ao0_2:Int)(ao0_3:Int)(ao1:Ak)(a1:AE)(a2:Nm):Option ((Except Int Aq)×(List AK)×Int×Int):=
 bif (a1.op==(1:Int)) then (some ((Except.ok (Aq.mk (AI.mk (1:Int) a1.num false []) Th.nil Th.nil):Except Int Aq),ao0_1,(i64.wrap (ao0_2+(1:Int))),ao0_3)) else (bif (a1.op==(2:Int)) then (some ((Except.ok (Aq.mk (AI.mk (2:Int) ((0,0):Nat×Nat) true []) Th.nil Th.nil):Except Int Aq),ao0_1,(i64.wrap (ao0_2+(1:Int))),ao0_3)) else (bif (a1.op==(3:Int)) then (some ((Except.ok (Aq.mk (AI.mk (2:Int) ((0,0):Nat×Nat) false []) Th.nil Th.nil):Except Int Aq),ao0_1,(i64.wrap (ao0_2+(1:Int))),ao0_3)) else (bif (a1.op==(4:Int)) then (some ((Except.ok (Aq.mk (AI.mk (3:Int) ((0,0):Nat×Nat) false []) Th.nil Th.nil):Except Int Aq),ao0_1,(i64.wrap (ao0_2+(1:Int))),ao0_3)) else (bif (a1.op==(5:Int)) then (some ((Except.error (52:Int):Except Int Aq),ao0_1,(i64.wrap (ao0_2+(1:Int))),ao0_3)) else (bif (a1.op==(6:Int)) then ((DU N a2 a1.name).bind fun x1087=>(φ.mean_callth ao0_1 (i64.wrap (ao0_2+(1:Int))) ao0_3 ao1 x1087).bind fun x1098=>Iu x1098.1 (fun y1116=>some ((Except.error y1116:Except Int Aq),x1098.2.1,x1098.2.2.1,x1098.2.2.2)) fun r1118=>some ((Except.ok r1118:Except Int Aq),x1098.2.1,x1098.2.2.1,x1098.2.2.2)) else (bif (a1.op==(7:Int)) then ((idx ao0_1 (CR ao1 a1.name)).bind fun x1151=>F3 φ ao0_1 ao0_2 ao0_3 ao1 a1 a2 x1151 N Nm.nil (0:Int)) else (bif (a1.op==(18:Int)) then ((idx a1.args (0:Int)).bind fun x1946=>(idx a1.args (1:Int)).bind fun x1965=>(Im x1946).bind fun x1983=>(Im x1965).bind fun x2003=>some ((Except.ok (Aq.mk (AI.mk (0:Int) ((0,0):Nat×Nat) false []) (Th.later x1983 a2) (Th.later x2003 a2)):Except Int Aq),ao0_1,(i64.wrap (ao0_2+(1:Int))),ao0_3)) else (KF φ ao0_1 ao0_2 ao0_3 ao1 a1 a2))))))))
def BA(φ:AU)(N:Nat)(ao0_1:(List AK))(ao0_2:Int)(ao0_3:Int)(ao1:Ak)(a1:AE)(a2:Nm):Option ((Except Int Aq)×(List AK)×Int×Int):=
 bif (decide (ao0_2≥ao0_3)) then (some ((Except.error (60:Int):Except Int Aq),ao0_1,ao0_2,ao0_3)) else (CO φ N ao0_1 ao0_2 ao0_3 ao1 a1 a2)
def K0(φ:AU)(_N:Nat)(ao0_1:(List AK))(ao0_2:Int)(ao0_3:Int)(ao1:Ak)(a1:AE)(a2:Nm):Option ((Except Int Aq)×(List AK)×Int×Int):=
 (φ.mean_run_look ao0_1 ao0_2 ao0_3 ao1 a1 a2).bind fun x29=>Iu x29.1 (fun y43=>some ((Except.error y43:Except Int Aq),x29.2.1,x29.2.2.1,x29.2.2.2)) fun r45=>some ((Except.ok r45:Except Int Aq),x29.2.1,x29.2.2.1,x29.2.2.2)
def KT(φ:AU)(_N:Nat)(ao0_1:(List AK))(ao0_2:Int)(ao0_3:Int)(ao1:Ak)(a1:Th):Option ((Except Int Aq)×(List AK)×Int×Int):=
 match a1 with
 | .nil=>none
 | .done p h t=>(Ie ⟨p,h,t⟩).bind fun r=>some ((Except.ok r:Except Int Aq),ao0_1,ao0_2,ao0_3)
 | .later e env=>φ.mean_later_1 ao0_1 ao0_2 ao0_3 ao1 e env
def K1(x1085:(List AK))(x1089:Int)(x1090:Int)(x1312:(AI×Int)):Option ((Except Int Aq)×(List AK)×Int×Int):=
 some ((Except.ok (Aq.mk x1312.1 Th.nil Th.nil):Except Int Aq),x1085,x1089,x1090)
def BJ(φ:AU)(N:Nat)(ao1:Ak)(a1:AE)(a2:Nm)(self1:(List AI)→Int→(List AK)→Int→Int→Option ((Except Int Aq)×(List AK)×Int×Int))(x1080:(List AI))(x1084:Int)(x1085:(List AK))(x1089:Int)(x1090:Int):Option ((Except Int Aq)×(List AK)×Int×Int):=
 bif (decide (x1084< (a1.args.length:Int))) then ((idx a1.args x1084).bind fun x1214=>(φ.mean_run_look x1085 x1089 x1090 ao1 x1214 a2).bind fun x1249=>Iu x1249.1 (fun y1263=>some ((Except.error y1263:Except Int Aq),x1249.2.1,x1249.2.2.1,x1249.2.2.2)) fun r1265=>(Gd 56 x1080 ([(AI.mk r1265.plain.type_ r1265.plain.num r1265.plain.bool r1265.plain.list)]:List AI)).bind fun _=>self1 (x1080++([(AI.mk r1265.plain.type_ r1265.plain.num r1265.plain.bool r1265.plain.list)]:List AI)) (i64.wrap (x1084+(1:Int))) x1249.2.1 x1249.2.2.1 x1249.2.2.2) else ((D0 N a1.op x1080).bind fun x1312=>bif (x1312.2 != (0:Int)) then (some ((Except.error x1312.2:Except Int Aq),x1085,x1089,x1090)) else (K1 x1085 x1089 x1090 x1312))
def DD(φ:AU)(N:Nat)(ao1:Ak)(a1:AE)(a2:Nm):Nat→(List AI)→Int→(List AK)→Int→Int→Option ((Except Int Aq)×(List AK)×Int×Int)
 |0=>fun _ _ _ _ _=>none
 |k+1=>BJ φ N ao1 a1 a2 (DD φ N ao1 a1 a2 k)
def A3(φ:AU)(N:Nat)(ao0_1:(List AK))(ao0_2:Int)(ao0_3:Int)(ao1:Ak)(a1:AE)(a2:Nm):Option ((Except Int Aq)×(List AK)×Int×Int):=
 bif (a1.op==(19:Int)) then ((idx a1.args (0:Int)).bind fun x28=>(φ.mean_run_look ao0_1 ao0_2 ao0_3 ao1 x28 a2).bind fun x51=>Iu x51.1 (fun y65=>some ((Except.error y65:Except Int Aq),x51.2.1,x51.2.2.1,x51.2.2.2)) fun r67=>bif r67.plain.bool then ((idx a1.args (1:Int)).bind fun x86=>(φ.mean_run_look x51.2.1 x51.2.2.1 x51.2.2.2 ao1 x86 a2).bind fun x107=>Iu x107.1 (fun y121=>some ((Except.error y121:Except Int Aq),x107.2.1,x107.2.2.1,x107.2.2.2)) fun r123=>some ((Except.ok r123:Except Int Aq),x107.2.1,x107.2.2.1,x107.2.2.2)) else ((idx a1.args (2:Int)).bind fun x151=>(φ.mean_run_look x51.2.1 x51.2.2.1 x51.2.2.2 ao1 x151 a2).bind fun x172=>Iu x172.1 (fun y186=>some ((Except.error y186:Except Int Aq),x172.2.1,x172.2.2.1,x172.2.2.2)) fun r188=>some ((Except.ok r188:Except Int Aq),x172.2.1,x172.2.2.1,x172.2.2.2))) else (bif (a1.op==(20:Int)) then ((idx a1.args (0:Int)).bind fun x216=>(φ.mean_run_look ao0_1 ao0_2 ao0_3 ao1 x216 a2).bind fun x239=>Iu x239.1 (fun y253=>some ((Except.error y253:Except Int Aq),x239.2.1,x239.2.2.1,x239.2.2.2)) fun r255=>bif (Th.isNil r255.head) then ((idx a1.args (1:Int)).bind fun x286=>(φ.mean_run_look x239.2.1 x239.2.2.1 x239.2.2.2 ao1 x286 a2).bind fun x309=>Iu x309.1 (fun y323=>some ((Except.error y323:Except Int Aq),x309.2.1,x309.2.2.1,x309.2.2.2)) fun r325=>some ((Except.ok r325:Except Int Aq),x309.2.1,x309.2.2.1,x309.2.2.2)) else ((idx a1.args (2:Int)).bind fun x493=>(φ.mean_run_look x239.2.1 x239.2.2.1 x239.2.2.2 ao1 x493 (Nm.bind a1.tail r255.tail (Nm.bind a1.name r255.head a2))).bind fun x536=>Iu x536.1 (fun y550=>some ((Except.error y550:Except Int Aq),x536.2.1,x536.2.2.1,x536.2.2.2)) fun r552=>some ((Except.ok r552:Except Int Aq),x536.2.1,x536.2.2.1,x536.2.2.2))) else (bif (a1.op==(21:Int)) then ((idx a1.args (0:Int)).bind fun x587=>(Im x587).bind fun x606=>(idx a1.args (1:Int)).bind fun x631=>(φ.mean_run_look ao0_1 ao0_2 ao0_3 ao1 x631 (Nm.letrec a1.name x606 a2)).bind fun x662=>Iu x662.1 (fun y676=>some ((Except.error y676:Except Int Aq),x662.2.1,x662.2.2.1,x662.2.2.2)) fun r678=>some ((Except.ok r678:Except Int Aq),x662.2.1,x662.2.2.1,x662.2.2.2)) else (bif (a1.op==(22:Int)) then ((idx a1.args (0:Int)).bind fun x706=>(φ.mean_run_look ao0_1 ao0_2 ao0_3 ao1 x706 a2).bind fun x729=>Iu x729.1 (fun y743=>some ((Except.error y743:Except Int Aq),x729.2.1,x729.2.2.1,x729.2.2.2)) fun r745=>(idx a1.args (1:Int)).bind fun x880=>(H2 r745).bind fun x903=>(φ.mean_run_look x729.2.1 x729.2.2.1 x729.2.2.2 ao1 x880 (Nm.bind a1.name x903 a2)).bind fun x927=>Iu x927.1 (fun y941=>some ((Except.error y941:Except Int Aq),x927.2.1,x927.2.2.1,x927.2.2.2)) fun r943=>some ((Except.ok r943:Except Int Aq),x927.2.1,x927.2.2.1,x927.2.2.2)) else (DD φ N ao1 a1 a2 N ([]:List AI) (0:Int) ao0_1 ao0_2 ao0_3))))
def AU.at:Nat→AU
 |0=>⟨fun _ _ _ _ _ _=>none,fun _ _ _ _ _ _=>none,fun _ _ _ _ _=>none,fun _ _ _ _ _ _=>none⟩
 |n+1=>⟨BA (AU.at n) n,K0 (AU.at n) n,KT (AU.at n) n,A3 (AU.at n) n⟩
def mean_run_look(N:Nat):(List AK)→Int→Int→Ak→AE→Nm→Option ((Except Int Aq)×(List AK)×Int×Int):=(AU.at N).mean_run_look
def mean_later_1(N:Nat):(List AK)→Int→Int→Ak→AE→Nm→Option ((Except Int Aq)×(List AK)×Int×Int):=(AU.at N).mean_later_1
def mean_callth(N:Nat):(List AK)→Int→Int→Ak→Th→Option ((Except Int Aq)×(List AK)×Int×Int):=(AU.at N).mean_callth
def mean_run_parts(N:Nat):(List AK)→Int→Int→Ak→AE→Nm→Option ((Except Int Aq)×(List AK)×Int×Int):=(AU.at N).mean_run_parts
def CP(N:Nat)(ao1:Ak)(self1:(List AK)→Int→Int→Int→(Nat×Nat)→Bool→(List (Nat×Nat))→Th→Th→(List (Nat×Nat))→Option ((Except Int AI)×(List AK)×Int×Int))(x283:(List AK))(x287:Int)(x288:Int)(_x289:Int)(_x290:(Nat×Nat))(_x291:Bool)(_x292:(List (Nat×Nat)))(x296:Th)(x299:Th)(x302:(List (Nat×Nat))):Option ((Except Int AI)×(List AK)×Int×Int):=
 bif (!(Th.isNil x296)) then ((mean_callth N x283 x287 x288 ao1 x296).bind fun x661=>Iu x661.1 (fun y679=>some ((Except.error y679:Except Int AI),x661.2.1,x661.2.2.1,x661.2.2.2)) fun r681=>(Gd 16 x302 ([r681.plain.num]:List (Nat×Nat))).bind fun _=>(mean_callth N x661.2.1 x661.2.2.1 x661.2.2.2 ao1 x299).bind fun x730=>Iu x730.1 (fun y748=>some ((Except.error y748:Except Int AI),x730.2.1,x730.2.2.1,x730.2.2.2)) fun r750=>self1 x730.2.1 x730.2.2.1 x730.2.2.2 r750.plain.type_ r750.plain.num r750.plain.bool r750.plain.list r750.head r750.tail (x302++([r681.plain.num]:List (Nat×Nat)))) else (some ((Except.ok (AI.mk (3:Int) ((0,0):Nat×Nat) false x302):Except Int AI),x283,x287,x288))
def Di(N:Nat)(ao1:Ak):Nat→(List AK)→Int→Int→Int→(Nat×Nat)→Bool→(List (Nat×Nat))→Th→Th→(List (Nat×Nat))→Option ((Except Int AI)×(List AK)×Int×Int)
 |0=>fun _ _ _ _ _ _ _ _ _ _=>none
 |k+1=>CP N ao1 (Di N ao1 k)
def D1(N:Nat)(ao0_1:(List AK))(ao0_2:Int)(ao0_3:Int)(ao1:Ak)(a1:Aq):Option ((Except Int AI)×(List AK)×Int×Int):=
 bif (Th.isNil a1.head) then (some ((Except.ok (AI.mk a1.plain.type_ a1.plain.num a1.plain.bool a1.plain.list):Except Int AI),ao0_1,ao0_2,ao0_3)) else (Di N ao1 N ao0_1 ao0_2 ao0_3 a1.plain.type_ a1.plain.num a1.plain.bool a1.plain.list a1.head a1.tail ([]:List (Nat×Nat)))
def K5(N:Nat)(x239:AK)(x421:Nm)(x424:Int)(self2:(Nm→Int→Option (BM)))(x560:AI)(x614:Bool):Option (BM):=
 bif x614 then (some (BM.mk (40:Int) (AI.mk (0:Int) ((0,0):Nat×Nat) false []) (0:Int) (0:Int) (0:Int) (0:Int))) else ((idx x239.params x424).bind fun x627=>(ID N x560).bind fun x642=>self2 (Nm.bind x627.name x642 x421) (i64.wrap (x424+(1:Int))))
def Fe(N:Nat)(a0:AM)(a2:(List AI))(a3:Int)(x120:Ak)(x239:AK)(self2:Nm→Int→Option (BM))(x421:Nm)(x424:Int):Option (BM):=
 bif (decide (x424< (a2.length:Int))) then ((idx a2 x424).bind fun x560=>(idx x239.params x424).bind fun x666=>bif (x560.type_ != x666.type_) then (K5 N x239 x421 x424 self2 x560 true) else ((DB N x560).bind fun x681=>K5 N x239 x421 x424 self2 x560 (x681 != (0:Int)))) else ((mean_run_look N a0.funcs (0:Int) (if (16384:Int)< (if a3< (0:Int) then (0:Int) else a3) then (16384:Int) else (if a3< (0:Int) then (0:Int) else a3)) x120 (AE.mk x239.body.op x239.body.name x239.body.tail x239.body.type_ x239.body.num x239.body.args x239.body.at_) x421).bind fun x699=>Iu x699.1 (fun y713=>some (BM.mk y713 (AI.mk (0:Int) ((0,0):Nat×Nat) false []) x699.2.2.1 (0:Int) (0:Int) (0:Int))) fun r715=>(D1 N x699.2.1 x699.2.2.1 x699.2.2.2 x120 r715).bind fun x757=>Iu x757.1 (fun y771=>some (BM.mk y771 (AI.mk (0:Int) ((0,0):Nat×Nat) false []) x757.2.2.1 (0:Int) (0:Int) (0:Int))) fun r773=>some (BM.mk (0:Int) r773 x757.2.2.1 (0:Int) (0:Int) (0:Int)))
def EV(N:Nat)(a0:AM)(a2:(List AI))(a3:Int)(x120:Ak)(x239:AK):Nat→Nm→Int→Option (BM)
 |0=>fun _ _=>none
 |k+1=>Fe N a0 a2 a3 x120 x239 (EV N a0 a2 a3 x120 x239 k)
def Ip(N:Nat)(a0:AM)(a1:Bts)(a2:(List AI))(a3:Int)(self1:Int→Ak→Option (BM))(x119:Int)(x120:Ak):Option (BM):=
 bif (decide (x119< (a0.funcs.length:Int))) then ((idx a0.funcs x119).bind fun x183=>self1 (i64.wrap (x119+(1:Int))) (LF x183.name x119 x120)) else (bif (!(Nf x120 a1)) then (some (BM.mk (32:Int) (AI.mk (0:Int) ((0,0):Nat×Nat) false []) (0:Int) (0:Int) (0:Int) (0:Int))) else ((idx a0.funcs (CR x120 a1)).bind fun x239=>bif ((a2.length:Int) != (x239.params.length:Int)) then (some (BM.mk (40:Int) (AI.mk (0:Int) ((0,0):Nat×Nat) false []) (0:Int) (0:Int) (0:Int) (0:Int))) else (EV N a0 a2 a3 x120 x239 N Nm.nil (0:Int))))
def Ig(N:Nat)(a0:AM)(a1:Bts)(a2:(List AI))(a3:Int):Nat→Int→Ak→Option (BM)
 |0=>fun _ _=>none
 |k+1=>Ip N a0 a1 a2 a3 (Ig N a0 a1 a2 a3 k)
def F4(N:Nat)(a0:AM)(a1:Bts)(a2:(List AI))(a3:Int):Option (BM):=
 (GX N a0).bind fun x25=>bif (x25.why != (0:Int)) then (some (BM.mk (3:Int) (AI.mk (0:Int) ((0,0):Nat×Nat) false []) (0:Int) (0:Int) (0:Int) (0:Int))) else (Ig N a0 a1 a2 a3 N (0:Int) ([]:Ak))
def GK(x106:Bool):Option (Bool):=
 some x106
def HO(N:Nat):Option (Bool):=
 (B3 N (FK.mk ([(102:UInt8),(40:UInt8),(120:UInt8),(32:UInt8),(78:UInt8),(41:UInt8),(58:UInt8),(78:UInt8),(61:UInt8),(120:UInt8),(43:UInt8),(120:UInt8),(59:UInt8),(103:UInt8),(40:UInt8),(41:UInt8),(58:UInt8),(78:UInt8),(61:UInt8),(102:UInt8),(40:UInt8),(49:UInt8),(43:UInt8),(50:UInt8),(41:UInt8),(59:UInt8)]:List UInt8) ([103]:List UInt8) ([]:List UInt8))).bind fun x16=>(F4 N x16.1 ([103]:List UInt8) x16.2.1 (99:Int)).bind fun x48=>(F4 N x16.1 ([103]:List UInt8) x16.2.1 (9:Int)).bind fun x75=>bif x16.2.2 then (bif (x48.why==(0:Int)) then (bif (x48.value.type_==(1:Int)) then (bif (ceq x48.value.num ((4618441417868443648,0):Nat×Nat)) then (bif (x48.moves==(10:Int)) then (bif (x75.why==(60:Int)) then (GK (x75.moves==(9:Int))) else (GK false)) else (GK false)) else (GK false)) else (GK false)) else (GK false)) else (GK false)
def Jb(a0:AM)(a1:Bts)(self1:Int→Option (Int))(x48:Int):Option (Int):=
 bif (decide (x48< (a0.funcs.length:Int))) then ((idx a0.funcs x48).bind fun x94=>bif (x94.name==a1) then (some x48) else (self1 (i64.wrap (x48+(1:Int))))) else (some (-1:Int))
def IG(a0:AM)(a1:Bts):Nat→Int→Option (Int)
 |0=>fun _=>none
 |k+1=>Jb a0 a1 (IG a0 a1 k)
def GZ(N:Nat)(a0:AM)(a1:Bts):Option (Int):=
 IG a0 a1 N (0:Int)
def KU(a0:(List Bts))(a1:Bts)(self1:Int→Option (Bool))(x27:Int):Option (Bool):=
 bif (decide (x27< (a0.length:Int))) then ((idx a0 x27).bind fun x59=>bif (x59==a1) then (some true) else (self1 (i64.wrap (x27+(1:Int))))) else (some false)
def JP(a0:(List Bts))(a1:Bts):Nat→Int→Option (Bool)
 |0=>fun _=>none
 |k+1=>KU a0 a1 (JP a0 a1 k)
def IV(N:Nat)(a0:(List Bts))(a1:Bts):Option (Bool):=
 JP a0 a1 N (0:Int)
def K6(a0:AE)(x37:Bool):Option ((List Bts)):=
 bif x37 then (some ([a0.name,a0.tail]:List Bts)) else (some [])
def J2(a0:AE)(a1:Int)(x15:Bool):Option ((List Bts)):=
 bif x15 then (some ([a0.name]:List Bts)) else (bif (a0.op==(20:Int)) then (K6 a0 (a1==(2:Int))) else (K6 a0 false))
def Hy(a0:AE)(a1:Int):Option ((List Bts)):=
 bif (a0.op==(21:Int)) then (J2 a0 a1 (a0.op==(21:Int))) else (bif (a0.op==(22:Int)) then (J2 a0 a1 (a1==(1:Int))) else (J2 a0 a1 false))
def IH(a0:(List Bts))(a1:(List Bts)):Option ((List Bts)):=
 (Gd 16 ([]:List Bts) a0).bind fun _=>(Gd 16 (([]:List Bts)++a0) a1).bind fun _=>some ((([]:List Bts)++a0)++a1)
structure BU where
 ref06_seen:AE→(List Bts)→Option ((List A5))
def II(φ:BU)(a0:AE)(a1:(List Bts))(self1:(List A5)→Int→Option ((List A5)))(x197:(List A5))(x201:Int):Option ((List A5)):=
 bif (decide (x201< (a0.args.length:Int))) then ((Hy a0 x201).bind fun x296=>(IH a1 x296).bind fun x308=>(idx a0.args x201).bind fun x320=>(φ.ref06_seen x320 x308).bind fun x339=>(Gd 104 x197 x339).bind fun _=>self1 (x197++x339) (i64.wrap (x201+(1:Int)))) else (some x197)
def Hz(φ:BU)(a0:AE)(a1:(List Bts)):Nat→(List A5)→Int→Option ((List A5))
 |0=>fun _ _=>none
 |k+1=>II φ a0 a1 (Hz φ a0 a1 k)
def Iq(φ:BU)(N:Nat)(a0:AE)(a1:(List Bts))(x108:(List A5)):Option ((List A5)):=
 Hz φ a0 a1 N x108 (0:Int)
def KV(φ:BU)(N:Nat)(a0:AE)(a1:(List Bts))(x367:Bool):Option ((List A5)):=
 bif x367 then (bif (a0.op==(6:Int)) then ((IV N a1 a0.name).bind fun x405=>(Gd 104 ([]:List A5) ([(A5.mk a0 (!x405))]:List A5)).bind fun _=>Iq φ N a0 a1 (([]:List A5)++([(A5.mk a0 (!x405))]:List A5))) else ((Gd 104 ([]:List A5) ([(A5.mk a0 false)]:List A5)).bind fun _=>Iq φ N a0 a1 (([]:List A5)++([(A5.mk a0 false)]:List A5)))) else (Iq φ N a0 a1 ([]:List A5))
def KG(φ:BU)(N:Nat)(a0:AE)(a1:(List Bts)):Option ((List A5)):=
 bif (a0.op==(6:Int)) then (KV φ N a0 a1 true) else (KV φ N a0 a1 (a0.op==(7:Int)))
def BU.at:Nat→BU
 |0=>⟨fun _ _=>none⟩
 |n+1=>⟨KG (BU.at n) n⟩
def ref06_seen(N:Nat):AE→(List Bts)→Option ((List A5)):=(BU.at N).ref06_seen
def IW(x3569:AK)(x3797:(List Bts))(x3801:Int)(self6:((List AD)→(List Bts)→Int→Option ((List AD))))(x4031:(List AD)):Option ((List AD)):=
 (idx x3569.params x3801).bind fun x4041=>(Gd 16 x3797 ([x4041.name]:List Bts)).bind fun _=>self6 x4031 (x3797++([x4041.name]:List Bts)) (i64.wrap (x3801+(1:Int)))
def Fi(x4528:Int)(self7:((List AD)→Int→Option ((List AD))))(x5102:(List AD)):Option ((List AD)):=
 self7 x5102 (i64.wrap (x4528+(1:Int)))
def Fj(N:Nat)(a0:AM)(x4528:Int)(self7:((List AD)→Int→Option ((List AD))))(x5111:A5)(x5164:(List AD)):Option ((List AD)):=
 bif (x5111.e.op != (7:Int)) then (Fi x4528 self7 x5164) else ((GZ N a0 x5111.e.name).bind fun x5177=>bif (decide (x5177< (0:Int))) then ((Gd 16 x5164 ([(AD.mk (32:Int) x5111.e.at_)]:List AD)).bind fun _=>Fi x4528 self7 (x5164++([(AD.mk (32:Int) x5111.e.at_)]:List AD))) else ((idx a0.funcs x5177).bind fun x5209=>bif ((x5209.params.length:Int) != (x5111.e.args.length:Int)) then ((Gd 16 x5164 ([(AD.mk (33:Int) x5111.e.at_)]:List AD)).bind fun _=>Fi x4528 self7 (x5164++([(AD.mk (33:Int) x5111.e.at_)]:List AD))) else (Fi x4528 self7 x5164)))
def FD(N:Nat)(a0:AM)(x1785:Int)(self5:((List AD)→Int→Option ((List AD))))(x4132:((List A5)))(self7:(List AD)→Int→Option ((List AD)))(x4524:(List AD))(x4528:Int):Option ((List AD)):=
 bif (decide (x4528< (x4132.length:Int))) then ((idx x4132 x4528).bind fun x5111=>bif x5111.free then ((Gd 16 x4524 ([(AD.mk (31:Int) x5111.e.at_)]:List AD)).bind fun _=>Fj N a0 x4528 self7 x5111 (x4524++([(AD.mk (31:Int) x5111.e.at_)]:List AD))) else (Fj N a0 x4528 self7 x5111 x4524)) else (self5 x4524 (i64.wrap (x1785+(1:Int))))
def Dx(N:Nat)(a0:AM)(x1785:Int)(self5:((List AD)→Int→Option ((List AD))))(x4132:((List A5))):Nat→(List AD)→Int→Option ((List AD))
 |0=>fun _ _=>none
 |k+1=>FD N a0 x1785 self5 x4132 (Dx N a0 x1785 self5 x4132 k)
def FE(N:Nat)(a0:AM)(x1785:Int)(self5:((List AD)→Int→Option ((List AD))))(x3569:AK)(self6:(List AD)→(List Bts)→Int→Option ((List AD)))(x3793:(List AD))(x3797:(List Bts))(x3801:Int):Option ((List AD)):=
 bif (decide (x3801< (x3569.params.length:Int))) then ((idx x3569.params x3801).bind fun x4077=>(IV N x3797 x4077.name).bind fun x4094=>bif x4094 then ((Gd 16 x3793 ([(AD.mk (30:Int) x4077.at_)]:List AD)).bind fun _=>IW x3569 x3797 x3801 self6 (x3793++([(AD.mk (30:Int) x4077.at_)]:List AD))) else (IW x3569 x3797 x3801 self6 x3793)) else ((ref06_seen N (AE.mk x3569.body.op x3569.body.name x3569.body.tail x3569.body.type_ x3569.body.num x3569.body.args x3569.body.at_) x3797).bind fun x4132=>Dx N a0 x1785 self5 x4132 N x3793 (0:Int))
def EJ(N:Nat)(a0:AM)(x1785:Int)(self5:((List AD)→Int→Option ((List AD))))(x3569:AK):Nat→(List AD)→(List Bts)→Int→Option ((List AD))
 |0=>fun _ _ _=>none
 |k+1=>FE N a0 x1785 self5 x3569 (EJ N a0 x1785 self5 x3569 k)
def IX(N:Nat)(a0:AM)(x1785:Int)(self5:((List AD)→Int→Option ((List AD))))(x3569:AK)(x3636:(List AD)):Option ((List AD)):=
 EJ N a0 x1785 self5 x3569 N x3636 ([]:List Bts) (0:Int)
def Gt(N:Nat)(a0:AM)(self5:(List AD)→Int→Option ((List AD)))(x1781:(List AD))(x1785:Int):Option ((List AD)):=
 bif (decide (x1785< (a0.funcs.length:Int))) then ((idx a0.funcs x1785).bind fun x3569=>(GZ N a0 x3569.name).bind fun x5294=>bif (decide (x5294<x1785)) then ((Gd 16 x1781 ([(AD.mk (30:Int) x3569.at_)]:List AD)).bind fun _=>IX N a0 x1785 self5 x3569 (x1781++([(AD.mk (30:Int) x3569.at_)]:List AD))) else (IX N a0 x1785 self5 x3569 x1781)) else (some x1781)
def EK(N:Nat)(a0:AM):Nat→(List AD)→Int→Option ((List AD))
 |0=>fun _ _=>none
 |k+1=>Gt N a0 (EK N a0 k)
def G5(N:Nat)(a0:AM):Option ((List AD)):=
 EK N a0 N ([]:List AD) (0:Int)
def J3(x171:Int)(self1:(Int→Int→Int→Option (AD)))(x377:Int)(x378:Int):Option (AD):=
 self1 (i64.wrap (x171+(1:Int))) x377 x378
def J4(x21:((List AD)))(x171:Int)(x172:Int)(x173:Int)(self1:(Int→Int→Int→Option (AD)))(x401:Bool):Option (AD):=
 bif x401 then ((idx x21 x171).bind fun x406=>J3 x171 self1 x406.why x406.at_) else (J3 x171 self1 x172 x173)
def Hf(x21:((List AD)))(self1:Int→Int→Int→Option (AD))(x171:Int)(x172:Int)(x173:Int):Option (AD):=
 bif (decide (x171< (x21.length:Int))) then (bif (x172==(0:Int)) then (J4 x21 x171 x172 x173 self1 true) else ((idx x21 x171).bind fun x429=>J4 x21 x171 x172 x173 self1 (decide (x429.at_<x173)))) else (some (AD.mk x172 x173))
def HP(x21:((List AD))):Nat→Int→Int→Int→Option (AD)
 |0=>fun _ _ _=>none
 |k+1=>Hf x21 (HP x21 k)
def HQ(N:Nat)(a0:AM):Option (AD):=
 (G5 N a0).bind fun x21=>HP x21 N (0:Int) (0:Int) (0:Int)
def J5(a0:AM)(a1:Bts)(self1:Int→Option (AK×Bool))(x59:Int):Option (AK×Bool):=
 bif (decide (x59< (a0.funcs.length:Int))) then ((idx a0.funcs x59).bind fun x110=>bif (x110.name==a1) then (some (x110,true)) else (self1 (i64.wrap (x59+(1:Int))))) else (some ((AK.mk ([]:List UInt8) [] (0:Int) (AE.mk (0:Int) ([]:List UInt8) ([]:List UInt8) (0:Int) ((0,0):Nat×Nat) [] (0:Int)) (0:Int)),false))
def Ir(a0:AM)(a1:Bts):Nat→Int→Option (AK×Bool)
 |0=>fun _=>none
 |k+1=>J5 a0 a1 (Ir a0 a1 k)
def FO(N:Nat)(a0:AM)(a1:Bts):Option (AK×Bool):=
 Ir a0 a1 N (0:Int)
def KW(a1:(List AH))(a2:AE)(self1:Int→Option (Int))(x85:Int):Option (Int):=
 bif (decide (x85≥(0:Int))) then ((idx a1 x85).bind fun x115=>bif (x115.name==a2.name) then (some x115.type_) else (self1 (i64.wrap (x85 - (1:Int))))) else (some (-1:Int))
def JQ(a1:(List AH))(a2:AE):Nat→Int→Option (Int)
 |0=>fun _=>none
 |k+1=>KW a1 a2 (JQ a1 a2 k)
def K7(x134:(AK×Bool))(x175:Bool):Option (Int):=
 bif x175 then (some (-1:Int)) else (some x134.1.type_)
def KH(N:Nat)(a0:AM)(a1:(List AH))(a2:AE)(x51:Bool):Option (Int):=
 bif x51 then (some (3:Int)) else (bif (a2.op==(5:Int)) then (some a2.type_) else (bif (a2.op==(6:Int)) then (JQ a1 a2 N (i64.wrap ((a1.length:Int) - (1:Int)))) else (bif (a2.op==(7:Int)) then ((FO N a0 a2.name).bind fun x134=>bif (!x134.2) then (K7 x134 true) else (K7 x134 ((x134.1.params.length:Int) != (a2.args.length:Int)))) else (some (0:Int)))))
def Hr(N:Nat)(a0:AM)(a1:(List AH))(a2:AE)(x45:Bool):Option (Int):=
 bif x45 then (some (2:Int)) else (bif (a2.op==(4:Int)) then (KH N a0 a1 a2 (a2.op==(4:Int))) else (KH N a0 a1 a2 (a2.op==(18:Int))))
def FF(N:Nat)(a0:AM)(a1:(List AH))(a2:AE)(x36:Bool):Option (Int):=
 bif x36 then (some (1:Int)) else (bif (a2.op==(2:Int)) then (Hr N a0 a1 a2 (a2.op==(2:Int))) else (bif (a2.op==(3:Int)) then (Hr N a0 a1 a2 (a2.op==(3:Int))) else (bif (a2.op==(12:Int)) then (Hr N a0 a1 a2 (a2.op==(12:Int))) else (bif (a2.op==(13:Int)) then (Hr N a0 a1 a2 (a2.op==(13:Int))) else (Hr N a0 a1 a2 (a2.op==(14:Int)))))))
def JC(N:Nat)(a0:AM)(a1:(List AH))(a2:AE):Option (Int):=
 bif (a2.op==(1:Int)) then (FF N a0 a1 a2 (a2.op==(1:Int))) else (bif (a2.op==(8:Int)) then (FF N a0 a1 a2 (a2.op==(8:Int))) else (bif (a2.op==(9:Int)) then (FF N a0 a1 a2 (a2.op==(9:Int))) else (bif (a2.op==(10:Int)) then (FF N a0 a1 a2 (a2.op==(10:Int))) else (bif (a2.op==(11:Int)) then (FF N a0 a1 a2 (a2.op==(11:Int))) else (bif (a2.op==(15:Int)) then (FF N a0 a1 a2 (a2.op==(15:Int))) else (bif (a2.op==(16:Int)) then (FF N a0 a1 a2 (a2.op==(16:Int))) else (FF N a0 a1 a2 (a2.op==(17:Int)))))))))
def Gu(a0:(List AH))(a1:Bts)(a2:Int):Option ((List AH)):=
 (Gd 32 ([]:List AH) a0).bind fun _=>(Gd 32 (([]:List AH)++a0) ([(AH.mk a1 a2 (0:Int))]:List AH)).bind fun _=>some ((([]:List AH)++a0)++([(AH.mk a1 a2 (0:Int))]:List AH))
def Jc(a0:(List AH))(a1:AE)(x39:Bool):Option ((List AH)):=
 bif x39 then ((Gu a0 a1.name (1:Int)).bind fun x46=>(Gu x46 a1.tail (3:Int)).bind fun x58=>some x58) else (some a0)
def IY(a0:(List AH))(a1:AE)(a2:Int)(x19:Bool):Option ((List AH)):=
 bif x19 then ((Gu a0 a1.name a1.type_).bind fun x26=>some x26) else (bif (a1.op==(20:Int)) then (Jc a0 a1 (a2==(2:Int))) else (Jc a0 a1 false))
def GL(a0:(List AH))(a1:AE)(a2:Int):Option ((List AH)):=
 bif (a1.op==(21:Int)) then (IY a0 a1 a2 (a1.op==(21:Int))) else (bif (a1.op==(22:Int)) then (IY a0 a1 a2 (a2==(1:Int))) else (IY a0 a1 a2 false))
def IZ:Option (Int):=
 some (1:Int)
def Jd(a2:Int)(x113:(AK×Bool))(x149:Bool):Option (Int):=
 bif x149 then ((idx x113.1.params a2).bind fun x155=>some x155.type_) else (IZ)
def Je(a1:AE)(a2:Int)(a3:Int)(x178:Bool):Option (Int):=
 bif x178 then (bif (a2==(0:Int)) then (some a1.type_) else (some a3)) else (IZ)
def GN(N:Nat)(a0:AM)(a1:AE)(a2:Int)(a3:Int):Option (Int):=
 bif (a1.op==(14:Int)) then (some (2:Int)) else (bif (a1.op==(18:Int)) then (bif (a2==(1:Int)) then (some (3:Int)) else (IZ)) else (bif (a1.op==(7:Int)) then ((FO N a0 a1.name).bind fun x113=>bif x113.2 then (Jd a2 x113 (decide (a2< (x113.1.params.length:Int)))) else (Jd a2 x113 false)) else (bif (a1.op==(19:Int)) then (bif (a2==(0:Int)) then (some (2:Int)) else (some a3)) else (bif (a1.op==(20:Int)) then (bif (a2==(0:Int)) then (some (3:Int)) else (some a3)) else (bif (a1.op==(21:Int)) then (Je a1 a2 a3 (a1.op==(21:Int))) else (Je a1 a2 a3 (a1.op==(22:Int))))))))
structure BH where
 ref07_wrong:AM→(List AH)→AE→Int→Option ((List Int))
def Hg(φ:BH)(N:Nat)(a0:AM)(a1:(List AH))(a2:AE)(a3:Int)(self1:(List Int)→Int→Option ((List Int)))(x159:(List Int))(x163:Int):Option ((List Int)):=
 bif (decide (x163< (a2.args.length:Int))) then ((idx a2.args x163).bind fun x264=>(GL a1 a2 x163).bind fun x284=>(GN N a0 a2 x163 a3).bind fun x297=>(φ.ref07_wrong a0 x284 x264 x297).bind fun x305=>(Gd 8 x159 x305).bind fun _=>self1 (x159++x305) (i64.wrap (x163+(1:Int)))) else (some x159)
def HR(φ:BH)(N:Nat)(a0:AM)(a1:(List AH))(a2:AE)(a3:Int):Nat→(List Int)→Int→Option ((List Int))
 |0=>fun _ _=>none
 |k+1=>Hg φ N a0 a1 a2 a3 (HR φ N a0 a1 a2 a3 k)
def JD(φ:BH)(N:Nat)(a0:AM)(a1:(List AH))(a2:AE)(a3:Int)(x68:(List Int)):Option ((List Int)):=
 HR φ N a0 a1 a2 a3 N x68 (0:Int)
def J6(φ:BH)(N:Nat)(a0:AM)(a1:(List AH))(a2:AE)(a3:Int)(x333:Bool):Option ((List Int)):=
 bif x333 then ((Gd 8 ([]:List Int) ([a2.at_]:List Int)).bind fun _=>JD φ N a0 a1 a2 a3 (([]:List Int)++([a2.at_]:List Int))) else (JD φ N a0 a1 a2 a3 ([]:List Int))
def Jl(φ:BH)(N:Nat)(a0:AM)(a1:(List AH))(a2:AE)(a3:Int):Option ((List Int)):=
 (JC N a0 a1 a2).bind fun x33=>bif (x33 != (0:Int)) then (J6 φ N a0 a1 a2 a3 (x33 != a3)) else (J6 φ N a0 a1 a2 a3 false)
def BH.at:Nat→BH
 |0=>⟨fun _ _ _ _=>none⟩
 |n+1=>⟨Jl (BH.at n) n⟩
def ref07_wrong(N:Nat):AM→(List AH)→AE→Int→Option ((List Int)):=(BH.at N).ref07_wrong
def IJ(x1145:Int)(self4:(Int→Int→Int→Option (AD)))(x1351:Int)(x1352:Int):Option (AD):=
 self4 (i64.wrap (x1145+(1:Int))) x1351 x1352
def IK(x1001:((List Int)))(x1145:Int)(x1146:Int)(x1147:Int)(self4:(Int→Int→Int→Option (AD)))(x1375:Bool):Option (AD):=
 bif x1375 then ((idx x1001 x1145).bind fun x1380=>IJ x1145 self4 (34:Int) x1380) else (IJ x1145 self4 x1146 x1147)
def EM(x500:Int)(self3:(Int→Int→Int→Option (AD)))(x1001:((List Int)))(self4:Int→Int→Int→Option (AD))(x1145:Int)(x1146:Int)(x1147:Int):Option (AD):=
 bif (decide (x1145< (x1001.length:Int))) then (bif (x1146==(0:Int)) then (IK x1001 x1145 x1146 x1147 self4 true) else ((idx x1001 x1145).bind fun x1403=>IK x1001 x1145 x1146 x1147 self4 (decide (x1403<x1147)))) else (self3 (i64.wrap (x500+(1:Int))) x1146 x1147)
def El(x500:Int)(self3:(Int→Int→Int→Option (AD)))(x1001:((List Int))):Nat→Int→Int→Int→Option (AD)
 |0=>fun _ _ _=>none
 |k+1=>EM x500 self3 x1001 (El x500 self3 x1001 k)
def Hh(N:Nat)(a0:AM)(self3:Int→Int→Int→Option (AD))(x500:Int)(x501:Int)(x502:Int):Option (AD):=
 bif (decide (x500< (a0.funcs.length:Int))) then ((idx a0.funcs x500).bind fun x976=>(ref07_wrong N a0 x976.params (AE.mk x976.body.op x976.body.name x976.body.tail x976.body.type_ x976.body.num x976.body.args x976.body.at_) x976.type_).bind fun x1001=>El x500 self3 x1001 N (0:Int) x501 x502) else (some (AD.mk x501 x502))
def B4(N:Nat)(a0:AM):Nat→Int→Int→Int→Option (AD)
 |0=>fun _ _ _=>none
 |k+1=>Hh N a0 (B4 N a0 k)
def Em(N:Nat)(a0:AM):Option (AD):=
 (HQ N a0).bind fun x21=>bif (x21.why != (0:Int)) then (some x21) else (B4 N a0 N (0:Int) x21.why x21.at_)
def KX(x128:Int)(self1:(Int→Option (Bool)))(x275:Bool):Option (Bool):=
 bif x275 then (some false) else (self1 (i64.wrap (x128+(1:Int))))
def IL(N:Nat)(a0:AK)(a1:(List AI))(self1:Int→Option (Bool))(x128:Int):Option (Bool):=
 bif (decide (x128< (a1.length:Int))) then ((idx a1 x128).bind fun x282=>(idx a0.params x128).bind fun x302=>bif (x282.type_ != x302.type_) then (KX x128 self1 true) else ((B1 N x282).bind fun x316=>KX x128 self1 (!x316))) else (some true)
def H0(N:Nat)(a0:AK)(a1:(List AI)):Nat→Int→Option (Bool)
 |0=>fun _=>none
 |k+1=>IL N a0 a1 (H0 N a0 a1 k)
def En(N:Nat)(a0:AK)(a1:(List AI)):Option (Bool):=
 bif ((a1.length:Int) != (a0.params.length:Int)) then (some false) else (H0 N a0 a1 N (0:Int))
def Lo(a0:AI)(self1:Th→Int→Option (Th))(x70:Th)(x73:Int):Option (Th):=
 bif (decide (x73≥(0:Int))) then ((idx a0.list x73).bind fun x116=>self1 (Th.done (AI.mk (0:Int) ((0,0):Nat×Nat) false []) (Th.done (AI.mk (1:Int) x116 false []) Th.nil Th.nil) x70) (i64.wrap (x73 - (1:Int)))) else (some x70)
def K8(a0:AI):Nat→Th→Int→Option (Th)
 |0=>fun _ _=>none
 |k+1=>Lo a0 (K8 a0 k)
def N7(N:Nat)(a0:AI):Option (Th):=
 bif (a0.type_ != (3:Int)) then (some (Th.done a0 Th.nil Th.nil)) else (K8 a0 N (Th.done (AI.mk (3:Int) ((0,0):Nat×Nat) false []) Th.nil Th.nil) (i64.wrap ((a0.list.length:Int) - (1:Int))))
def LH(ao0:Al)(x13:Int):Option (Th×Al):=
 some ((Th.later (AE.mk (0:Int) ([]:List UInt8) ([]:List UInt8) (0:Int) ((0,0):Nat×Nat) [] (0:Int)) Nm.nil),(Al.mk (AM.mk ao0.p.funcs) ao0.most ao0.cost x13))
def Kh(ao0:Al)(a1:Int):Option (Th×Al):=
 bif (ao0.why==(0:Int)) then (LH ao0 a1) else (LH ao0 ao0.why)
def Qg(a1:Bts)(self1:Nm→Option (Th))(x22:Nm):Option (Th):=
 (x22.view).bind fun x50=>bif (!(x50.1==a1)) then (self1 x50.2.2) else (some x50.2.1)
def JE(a1:Bts):Nat→Nm→Option (Th)
 |0=>fun _=>none
 |k+1=>Qg a1 (JE a1 k)
def Lg(N:Nat)(a0:Nm)(a1:Bts):Option (Th):=
 JE a1 N a0
def L5(x14:Bool):Option (Int×Int):=
 bif x14 then (some ((1:Int),(1:Int))) else (some ((0:Int),(0:Int)))
def JF(a0:Int)(x6:Bool):Option (Int×Int):=
 bif x6 then (some ((2:Int),(1:Int))) else (bif (a0==(14:Int)) then (some ((1:Int),(2:Int))) else (bif (a0==(15:Int)) then (L5 (a0==(15:Int))) else (bif (a0==(16:Int)) then (L5 (a0==(16:Int))) else (L5 (a0==(17:Int))))))
def MT(a0:Int):Option (Int×Int):=
 bif (a0==(8:Int)) then (JF a0 (a0==(8:Int))) else (bif (a0==(9:Int)) then (JF a0 (a0==(9:Int))) else (bif (a0==(10:Int)) then (JF a0 (a0==(10:Int))) else (bif (a0==(11:Int)) then (JF a0 (a0==(11:Int))) else (bif (a0==(12:Int)) then (JF a0 (a0==(12:Int))) else (JF a0 (a0==(13:Int)))))))
def Oe(a0:Ai)(a1:Ai):Option (Ai×Int):=
 (HB (Ai.mk (i64.wrap (a0.re+a1.re)) (i64.wrap (a0.im+a1.im)))).bind fun x21=>some (x21.1,x21.2)
def EW(a0:Ai)(a1:Int):Option (AI×Int):=
 bif (a1 != (0:Int)) then (some ((AI.mk (0:Int) ((0,0):Nat×Nat) false []),a1)) else ((Fq a0).bind fun x19=>some ((AI.mk (1:Int) x19 false []),(0:Int)))
def Of(a0:Ai)(a1:Ai):Option (Ai×Int):=
 (HB (Ai.mk (i64.wrap (a0.re - a1.re)) (i64.wrap (a0.im - a1.im)))).bind fun x21=>some (x21.1,x21.2)
def Og(a0:Ai)(a1:Ai):Option (Ai×Int):=
 (HB (Ai.mk (i64.wrap ((i64.wrap (a0.re*a1.re)) - (i64.wrap (a0.im*a1.im)))) (i64.wrap ((i64.wrap (a0.re*a1.im))+(i64.wrap (a0.im*a1.re)))))).bind fun x21=>some (x21.1,x21.2)
def Lv(a0:Ai)(a1:Ai)(x27:Bool):Option (Ai×Int):=
 bif x27 then (some ((Ai.mk (0:Int) (0:Int)),(51:Int))) else ((nz (i64.wrap ((i64.wrap (a1.re*a1.re))+(i64.wrap (a1.im*a1.im))))).bind fun _=>(nz (i64.wrap ((i64.wrap (a1.re*a1.re))+(i64.wrap (a1.im*a1.im))))).bind fun _=>(HB (Ai.mk (i64.wrap ((i64.wrap ((i64.wrap (a0.re*a1.re))+(i64.wrap (a0.im*a1.im)))).tdiv (i64.wrap ((i64.wrap (a1.re*a1.re))+(i64.wrap (a1.im*a1.im)))))) (i64.wrap ((i64.wrap ((i64.wrap (a0.im*a1.re)) - (i64.wrap (a0.re*a1.im)))).tdiv (i64.wrap ((i64.wrap (a1.re*a1.re))+(i64.wrap (a1.im*a1.im)))))))).bind fun x60=>some (x60.1,x60.2))
def Oh(a0:Ai)(a1:Ai):Option (Ai×Int):=
 bif ((i64.wrap ((i64.wrap (a1.re*a1.re))+(i64.wrap (a1.im*a1.im))))==(0:Int)) then (Lv a0 a1 true) else ((nz (i64.wrap ((i64.wrap (a1.re*a1.re))+(i64.wrap (a1.im*a1.im))))).bind fun _=>bif (((i64.wrap ((i64.wrap (a0.re*a1.re))+(i64.wrap (a0.im*a1.im)))).tmod (i64.wrap ((i64.wrap (a1.re*a1.re))+(i64.wrap (a1.im*a1.im))))) != (0:Int)) then (Lv a0 a1 true) else ((nz (i64.wrap ((i64.wrap (a1.re*a1.re))+(i64.wrap (a1.im*a1.im))))).bind fun _=>Lv a0 a1 (((i64.wrap ((i64.wrap (a0.im*a1.re)) - (i64.wrap (a0.re*a1.im)))).tmod (i64.wrap ((i64.wrap (a1.re*a1.re))+(i64.wrap (a1.im*a1.im))))) != (0:Int))))
def MU(a0:Bool):Option (AI×Int):=
 some ((AI.mk (2:Int) ((0,0):Nat×Nat) a0 []),(0:Int))
def LZ(x16:Bool):Option (Bool):=
 some x16
def ND(a0:Ai)(a1:Ai):Option (Bool):=
 bif (decide (a0.re<a1.re)) then (LZ true) else (bif (a0.re==a1.re) then (LZ (decide (a0.im<a1.im))) else (LZ false))
def Ff(a1:(List AI))(x156:(List Ai))(x160:Int)(self1:(Bool→(List Ai)→Int→Option (AI×Int)))(x331:Bool):Option (AI×Int):=
 (idx a1 x160).bind fun x335=>(EU x335.num).bind fun x354=>(Gd 16 x156 ([x354.1]:List Ai)).bind fun _=>self1 x331 (x156++([x354.1]:List Ai)) (i64.wrap (x160+(1:Int)))
def L6(N:Nat)(a0:Int)(a1:(List AI))(x11:(Int×Int))(x155:Bool)(x156:(List Ai))(x160:Int)(self1:(Bool→(List Ai)→Int→Option (AI×Int)))(x300:Bool):Option (AI×Int):=
 bif x300 then ((idx a1 x160).bind fun x393=>(B1 N x393).bind fun x412=>bif x412 then (Ff a1 x156 x160 self1 (x393.type_==x11.2)) else (Ff a1 x156 x160 self1 false)) else (bif (!x155) then (some ((AI.mk (0:Int) ((0,0):Nat×Nat) false []),(3:Int))) else (bif (a0==(8:Int)) then ((idx x156 (0:Int)).bind fun x479=>(idx x156 (1:Int)).bind fun x492=>(Oe x479 x492).bind fun x504=>(EW x504.1 x504.2).bind fun x511=>some (x511.1,x511.2)) else (bif (a0==(9:Int)) then ((idx x156 (0:Int)).bind fun x584=>(idx x156 (1:Int)).bind fun x597=>(Of x584 x597).bind fun x609=>(EW x609.1 x609.2).bind fun x616=>some (x616.1,x616.2)) else (bif (a0==(10:Int)) then ((idx x156 (0:Int)).bind fun x689=>(idx x156 (1:Int)).bind fun x702=>(Og x689 x702).bind fun x714=>(EW x714.1 x714.2).bind fun x721=>some (x721.1,x721.2)) else (bif (a0==(11:Int)) then ((idx x156 (0:Int)).bind fun x794=>(idx x156 (1:Int)).bind fun x807=>(Oh x794 x807).bind fun x819=>(EW x819.1 x819.2).bind fun x826=>some (x826.1,x826.2)) else (bif (a0==(12:Int)) then ((idx x156 (0:Int)).bind fun x892=>(idx x156 (1:Int)).bind fun x905=>(MU (x892.re==x905.re&&x892.im==x905.im)).bind fun x917=>some (x917.1,x917.2)) else (bif (a0==(13:Int)) then ((idx x156 (0:Int)).bind fun x988=>(idx x156 (1:Int)).bind fun x1001=>(ND x988 x1001).bind fun x1013=>(MU x1013).bind fun x1018=>some (x1018.1,x1018.2)) else (bif (a0==(14:Int)) then ((idx a1 (0:Int)).bind fun x1038=>(MU (!x1038.bool)).bind fun x1057=>some (x1057.1,x1057.2)) else (bif (a0==(15:Int)) then ((idx x156 (0:Int)).bind fun x1077=>(EW (Ai.mk x1077.re (0:Int)) (0:Int)).bind fun x1090=>some (x1090.1,x1090.2)) else (bif (a0==(16:Int)) then ((idx x156 (0:Int)).bind fun x1110=>(EW (Ai.mk x1110.im (0:Int)) (0:Int)).bind fun x1123=>some (x1123.1,x1123.2)) else ((idx x156 (0:Int)).bind fun x1188=>(idx x156 (0:Int)).bind fun x1201=>(EW (Ai.mk x1188.re (i64.wrap (0 - x1201.im))) (0:Int)).bind fun x1213=>some (x1213.1,x1213.2))))))))))))
def Ch(N:Nat)(a0:Int)(a1:(List AI))(x11:(Int×Int))(self1:Bool→(List Ai)→Int→Option (AI×Int))(x155:Bool)(x156:(List Ai))(x160:Int):Option (AI×Int):=
 bif x155 then (L6 N a0 a1 x11 x155 x156 x160 self1 (decide (x160<x11.1))) else (L6 N a0 a1 x11 x155 x156 x160 self1 false)
def Bu(N:Nat)(a0:Int)(a1:(List AI))(x11:(Int×Int)):Nat→Bool→(List Ai)→Int→Option (AI×Int)
 |0=>fun _ _ _=>none
 |k+1=>Ch N a0 a1 x11 (Bu N a0 a1 x11 k)
def N8(N:Nat)(a0:Int)(a1:(List AI))(x11:(Int×Int))(x21:Bool):Option (AI×Int):=
 Bu N a0 a1 x11 N x21 ([]:List Ai) (0:Int)
def Ga(N:Nat)(a0:Int)(a1:(List AI)):Option (AI×Int):=
 (MT a0).bind fun x11=>bif (decide (x11.1>(0:Int))) then (N8 N a0 a1 x11 ((a1.length:Int)==x11.1)) else (N8 N a0 a1 x11 false)
structure AR where
 ref11_Machine_look:Al→AE→Nm→Option (Th×Al)
 ref11_Machine_of:Al→Th→Option (Th×Al)
 ref11_Machine_inside:Al→AE→Nm→Option (Th×Al)
def JR(φ:AR)(ao0:Al)(a1:AE)(a2:Nm)(x265:(List AH))(x270:Int)(x271:Bts)(x272:Bts)(x273:Int)(x274:(Nat×Nat))(x275:(List AE))(x279:Int)(self1:Nm→Int→Option (Th×Al))(x351:Nm)(x354:Int):Option (Th×Al):=
 bif (decide (x354< (a1.args.length:Int))) then ((idx x265 x354).bind fun x431=>(idx a1.args x354).bind fun x445=>self1 (Nm.bind x431.name (Th.later x445 a2) x351) (i64.wrap (x354+(1:Int)))) else ((φ.ref11_Machine_look (Al.mk (AM.mk ao0.p.funcs) ao0.most (i64.wrap (ao0.cost+(1:Int))) ao0.why) (AE.mk x270 x271 x272 x273 x274 x275 x279) x351).bind fun x493=>some (x493.1,x493.2))
def IP(φ:AR)(ao0:Al)(a1:AE)(a2:Nm)(x265:(List AH))(x270:Int)(x271:Bts)(x272:Bts)(x273:Int)(x274:(Nat×Nat))(x275:(List AE))(x279:Int):Nat→Nm→Int→Option (Th×Al)
 |0=>fun _ _=>none
 |k+1=>JR φ ao0 a1 a2 x265 x270 x271 x272 x273 x274 x275 x279 (IP φ ao0 a1 a2 x265 x270 x271 x272 x273 x274 x275 x279 k)
def LI(φ:AR)(N:Nat)(ao0:Al)(a1:AE)(a2:Nm)(x265:(List AH))(x270:Int)(x271:Bts)(x272:Bts)(x273:Int)(x274:(Nat×Nat))(x275:(List AE))(x279:Int):Option (Th×Al):=
 IP φ ao0 a1 a2 x265 x270 x271 x272 x273 x274 x275 x279 N Nm.nil (0:Int)
def LJ(ao0:Al)(x694:Th):Option (Th×Al):=
 some (x694,(Al.mk (AM.mk ao0.p.funcs) ao0.most (i64.wrap (ao0.cost+(1:Int))) ao0.why))
def B6(φ:AR)(N:Nat)(ao0:Al)(a1:AE)(a2:Nm)(x77:Bool):Option (Th×Al):=
 bif x77 then (some ((Th.done (AI.mk (2:Int) ((0,0):Nat×Nat) (a1.op==(2:Int)) []) Th.nil Th.nil),(Al.mk (AM.mk ao0.p.funcs) ao0.most (i64.wrap (ao0.cost+(1:Int))) ao0.why))) else (bif (a1.op==(4:Int)) then (some ((Th.done (AI.mk (3:Int) ((0,0):Nat×Nat) false []) Th.nil Th.nil),(Al.mk (AM.mk ao0.p.funcs) ao0.most (i64.wrap (ao0.cost+(1:Int))) ao0.why))) else (bif (a1.op==(5:Int)) then ((Kh (Al.mk (AM.mk ao0.p.funcs) ao0.most (i64.wrap (ao0.cost+(1:Int))) ao0.why) (52:Int)).bind fun x111=>some (x111.1,x111.2)) else (bif (a1.op==(6:Int)) then ((Lg N a2 a1.name).bind fun x132=>(φ.ref11_Machine_of (Al.mk (AM.mk ao0.p.funcs) ao0.most (i64.wrap (ao0.cost+(1:Int))) ao0.why) x132).bind fun x142=>some (x142.1,x142.2)) else (bif (a1.op==(7:Int)) then ((FO N (AM.mk ao0.p.funcs) a1.name).bind fun x551=>LI φ N ao0 a1 a2 x551.1.params x551.1.body.op x551.1.body.name x551.1.body.tail x551.1.body.type_ x551.1.body.num x551.1.body.args x551.1.body.at_) else (bif (a1.op==(18:Int)) then ((idx a1.args (0:Int)).bind fun x706=>(idx a1.args (1:Int)).bind fun x725=>LJ ao0 (Th.done (AI.mk (0:Int) ((0,0):Nat×Nat) false []) (Th.later x706 a2) (Th.later x725 a2))) else ((φ.ref11_Machine_inside (Al.mk (AM.mk ao0.p.funcs) ao0.most (i64.wrap (ao0.cost+(1:Int))) ao0.why) a1 a2).bind fun x824=>some (x824.1,x824.2)))))))
def BI(φ:AR)(N:Nat)(ao0:Al)(a1:AE)(a2:Nm):Option (Th×Al):=
 bif (ao0.why != (0:Int)) then (some ((Th.later (AE.mk (0:Int) ([]:List UInt8) ([]:List UInt8) (0:Int) ((0,0):Nat×Nat) [] (0:Int)) Nm.nil),ao0)) else (bif (decide (ao0.cost≥ao0.most)) then ((Kh ao0 (60:Int)).bind fun x40=>some (x40.1,x40.2)) else (bif (a1.op==(1:Int)) then (some ((Th.done (AI.mk (1:Int) a1.num false []) Th.nil Th.nil),(Al.mk (AM.mk ao0.p.funcs) ao0.most (i64.wrap (ao0.cost+(1:Int))) ao0.why))) else (bif (a1.op==(2:Int)) then (B6 φ N ao0 a1 a2 (a1.op==(2:Int))) else (B6 φ N ao0 a1 a2 (a1.op==(3:Int))))))
def Lr(φ:AR)(ao0:Al)(a1:Th)(x41:Bool):Option (Th×Al):=
 bif x41 then (some (a1,ao0)) else ((a1.view).bind fun x98=>(φ.ref11_Machine_look ao0 x98.e x98.names).bind fun x131=>some (x131.1,x131.2))
def Ki(φ:AR)(_N:Nat)(ao0:Al)(a1:Th):Option (Th×Al):=
 bif (ao0.why != (0:Int)) then (Lr φ ao0 a1 true) else ((a1.view).bind fun x150=>Lr φ ao0 a1 x150.known)
def DL(φ:AR)(a1:AE)(a2:Nm)(x195:(Th×Al))(x245:Bool):Option (Th×Al):=
 bif x245 then ((idx a1.args (1:Int)).bind fun x251=>(φ.ref11_Machine_look x195.2 x251 a2).bind fun x273=>some (x273.1,x273.2)) else ((idx a1.args (2:Int)).bind fun x536=>(x195.1.view).bind fun x556=>(φ.ref11_Machine_look x195.2 x536 (Nm.bind a1.tail x556.tail (Nm.bind a1.name x556.head a2))).bind fun x615=>some (x615.1,x615.2))
def Av(φ:AR)(N:Nat)(a1:AE)(a2:Nm)(self1:(List AI)→Int→(List AK)→Int→Int→Int→Option (Th×Al))(x1043:(List AI))(x1047:Int)(x1048:(List AK))(x1052:Int)(x1053:Int)(x1054:Int):Option (Th×Al):=
 bif (decide (x1047< (a1.args.length:Int))) then ((idx a1.args x1047).bind fun x1189=>(φ.ref11_Machine_look (Al.mk (AM.mk x1048) x1052 x1053 x1054) x1189 a2).bind fun x1208=>(x1208.1.view).bind fun x1226=>(Gd 56 x1043 ([x1226.value]:List AI)).bind fun _=>self1 (x1043++([x1226.value]:List AI)) (i64.wrap (x1047+(1:Int))) x1208.2.p.funcs x1208.2.most x1208.2.cost x1208.2.why) else (bif (x1054 != (0:Int)) then (some ((Th.later (AE.mk (0:Int) ([]:List UInt8) ([]:List UInt8) (0:Int) ((0,0):Nat×Nat) [] (0:Int)) Nm.nil),(Al.mk (AM.mk x1048) x1052 x1053 x1054))) else ((Ga N a1.op x1043).bind fun x1299=>bif (x1299.2 != (0:Int)) then ((Kh (Al.mk (AM.mk x1048) x1052 x1053 x1054) x1299.2).bind fun x1326=>some (x1326.1,x1326.2)) else (some ((Th.done x1299.1 Th.nil Th.nil),(Al.mk (AM.mk x1048) x1052 x1053 x1054)))))
def BV(φ:AR)(N:Nat)(a1:AE)(a2:Nm):Nat→(List AI)→Int→(List AK)→Int→Int→Int→Option (Th×Al)
 |0=>fun _ _ _ _ _ _=>none
 |k+1=>Av φ N a1 a2 (BV φ N a1 a2 k)
def BQ(φ:AR)(N:Nat)(ao0:Al)(a1:AE)(a2:Nm):Option (Th×Al):=
 bif (a1.op==(19:Int)) then ((idx a1.args (0:Int)).bind fun x22=>(φ.ref11_Machine_look ao0 x22 a2).bind fun x44=>(x44.1.view).bind fun x62=>bif x62.value.bool then ((idx a1.args (1:Int)).bind fun x95=>(φ.ref11_Machine_look x44.2 x95 a2).bind fun x115=>some (x115.1,x115.2)) else ((idx a1.args (2:Int)).bind fun x134=>(φ.ref11_Machine_look x44.2 x134 a2).bind fun x154=>some (x154.1,x154.2))) else (bif (a1.op==(20:Int)) then ((idx a1.args (0:Int)).bind fun x173=>(φ.ref11_Machine_look ao0 x173 a2).bind fun x195=>bif (x195.2.why != (0:Int)) then (DL φ a1 a2 x195 true) else ((x195.1.view).bind fun x634=>DL φ a1 a2 x195 (!x634.pair))) else (bif (a1.op==(21:Int)) then ((idx a1.args (0:Int)).bind fun x669=>(idx a1.args (1:Int)).bind fun x706=>(φ.ref11_Machine_look ao0 x706 (Nm.letrec a1.name x669 a2)).bind fun x735=>some (x735.1,x735.2)) else (bif (a1.op==(22:Int)) then ((idx a1.args (0:Int)).bind fun x754=>(φ.ref11_Machine_look ao0 x754 a2).bind fun x776=>(idx a1.args (1:Int)).bind fun x877=>(φ.ref11_Machine_look x776.2 x877 (Nm.bind a1.name x776.1 a2)).bind fun x911=>some (x911.1,x911.2)) else (BV φ N a1 a2 N ([]:List AI) (0:Int) ao0.p.funcs ao0.most ao0.cost ao0.why))))
def AR.at:Nat→AR
 |0=>⟨fun _ _ _=>none,fun _ _=>none,fun _ _ _=>none⟩
 |n+1=>⟨BI (AR.at n) n,Ki (AR.at n) n,BQ (AR.at n) n⟩
def ref11_Machine_look(N:Nat):Al→AE→Nm→Option (Th×Al):=(AR.at N).ref11_Machine_look
def ref11_Machine_of(N:Nat):Al→Th→Option (Th×Al):=(AR.at N).ref11_Machine_of
def ref11_Machine_inside(N:Nat):Al→AE→Nm→Option (Th×Al):=(AR.at N).ref11_Machine_inside
def Bw(N:Nat)(x382:Th)(x385:(List AK))(x389:Int)(x390:Int)(x391:Int)(x392:(List (Nat×Nat)))(self1:(Th→(List AK)→Int→Int→Int→(List (Nat×Nat))→Option (AI×Al)))(x725:Bool):Option (AI×Al):=
 bif x725 then ((x382.view).bind fun x731=>(ref11_Machine_of N (Al.mk (AM.mk x385) x389 x390 x391) x731.head).bind fun x764=>(x764.1.view).bind fun x839=>(Gd 16 x392 ([x839.value.num]:List (Nat×Nat))).bind fun _=>(ref11_Machine_of N x764.2 x731.tail).bind fun x901=>self1 x901.1 x901.2.p.funcs x901.2.most x901.2.cost x901.2.why (x392++([x839.value.num]:List (Nat×Nat)))) else (some ((AI.mk (3:Int) ((0,0):Nat×Nat) false x392),(Al.mk (AM.mk x385) x389 x390 x391)))
def D2(N:Nat)(self1:Th→(List AK)→Int→Int→Int→(List (Nat×Nat))→Option (AI×Al))(x382:Th)(x385:(List AK))(x389:Int)(x390:Int)(x391:Int)(x392:(List (Nat×Nat))):Option (AI×Al):=
 bif (x391==(0:Int)) then ((x382.view).bind fun x937=>Bw N x382 x385 x389 x390 x391 x392 self1 x937.pair) else (Bw N x382 x385 x389 x390 x391 x392 self1 false)
def CA(N:Nat):Nat→Th→(List AK)→Int→Int→Int→(List (Nat×Nat))→Option (AI×Al)
 |0=>fun _ _ _ _ _ _=>none
 |k+1=>D2 N (CA N k)
def GO(N:Nat)(ao0:Al)(a1:Th)(x49:Bool):Option (AI×Al):=
 bif x49 then ((a1.view).bind fun x55=>some (x55.value,ao0)) else (CA N N a1 ao0.p.funcs ao0.most ao0.cost ao0.why ([]:List (Nat×Nat)))
def Hk(N:Nat)(ao0:Al)(a1:Th):Option (AI×Al):=
 bif (ao0.why==(0:Int)) then ((a1.view).bind fun x974=>GO N ao0 a1 (!x974.pair)) else (GO N ao0 a1 false)
def GP(N:Nat)(a0:AM)(a2:(List AI))(a3:Int)(x40:(AK×Bool))(self1:Nm→Int→Option (BM))(x159:Nm)(x162:Int):Option (BM):=
 bif (decide (x162< (a2.length:Int))) then ((idx x40.1.params x162).bind fun x238=>(idx a2 x162).bind fun x251=>(N7 N x251).bind fun x270=>self1 (Nm.bind x238.name x270 x159) (i64.wrap (x162+(1:Int)))) else ((ref11_Machine_look N (Al.mk a0 (if (16384:Int)< (if a3< (0:Int) then (0:Int) else a3) then (16384:Int) else (if a3< (0:Int) then (0:Int) else a3)) (0:Int) (0:Int)) (AE.mk x40.1.body.op x40.1.body.name x40.1.body.tail x40.1.body.type_ x40.1.body.num x40.1.body.args x40.1.body.at_) x159).bind fun x294=>(Hk N x294.2 x294.1).bind fun x312=>bif (x312.2.why != (0:Int)) then (some (BM.mk x312.2.why (AI.mk (0:Int) ((0,0):Nat×Nat) false []) x312.2.cost (0:Int) (0:Int) (0:Int))) else (some (BM.mk (0:Int) x312.1 x312.2.cost (0:Int) (0:Int) (0:Int))))
def Is(N:Nat)(a0:AM)(a2:(List AI))(a3:Int)(x40:(AK×Bool)):Nat→Nm→Int→Option (BM)
 |0=>fun _ _=>none
 |k+1=>GP N a0 a2 a3 x40 (Is N a0 a2 a3 x40 k)
def LO(N:Nat)(a0:AM)(a1:Bts)(a2:(List AI))(a3:Int):Option (BM):=
 (Em N a0).bind fun x25=>bif (x25.why != (0:Int)) then (some (BM.mk (3:Int) (AI.mk (0:Int) ((0,0):Nat×Nat) false []) (0:Int) (0:Int) (0:Int) (0:Int))) else ((FO N a0 a1).bind fun x40=>bif (!x40.2) then (some (BM.mk (32:Int) (AI.mk (0:Int) ((0,0):Nat×Nat) false []) (0:Int) (0:Int) (0:Int) (0:Int))) else ((En N x40.1 a2).bind fun x80=>bif (!x80) then (some (BM.mk (40:Int) (AI.mk (0:Int) ((0,0):Nat×Nat) false []) (0:Int) (0:Int) (0:Int) (0:Int))) else (Is N a0 a2 a3 x40 N Nm.nil (0:Int))))
def Fo(x132:Bool):Option (Bool):=
 some x132
def JS(x158:Bool):Option (Bool):=
 some x158
def JT(x175:Bool):Option (Bool):=
 some x175
def JU(x191:Bool):Option (Bool):=
 some x191
def Gv(x55:BM)(x208:Bool):Option (Bool):=
 bif x208 then (some (x55.value.type_==(0:Int))) else (some false)
def DH(N:Nat)(a0:FK)(x21:(AM×(List AI)×Bool))(x55:BM)(x81:Bool):Option (Bool):=
 bif x81 then (some false) else ((FO N x21.1 a0.name).bind fun x89=>bif (x55.why==(0:Int)) then (bif x89.2 then (bif (x55.value.type_==x89.1.type_) then ((B1 N (AI.mk x55.value.type_ x55.value.num x55.value.bool x55.value.list)).bind fun x139=>bif x139 then (Fo (decide (x55.moves>(0:Int)))) else (Fo false)) else (Fo false)) else (Fo false)) else (bif (x55.why==(3:Int)) then ((Em N x21.1).bind fun x164=>bif (x164.why != (0:Int)) then (JS (x55.value.type_==(0:Int))) else (JS false)) else (bif (x55.why==(32:Int)) then (bif (!x89.2) then (JT (x55.value.type_==(0:Int))) else (JT false)) else (bif (x55.why==(40:Int)) then ((En N x89.1 x21.2.1).bind fun x198=>bif (!x198) then (JU (x55.value.type_==(0:Int))) else (JU false)) else (bif (x55.why==(50:Int)) then (Gv x55 (x55.why==(50:Int))) else (bif (x55.why==(51:Int)) then (Gv x55 (x55.why==(51:Int))) else (bif (x55.why==(52:Int)) then (Gv x55 (x55.why==(52:Int))) else (Gv x55 (x55.why==(60:Int))))))))))
def DE(N:Nat)(a0:FK):Option (Bool):=
 (HO N).bind fun x13=>bif (!x13) then (some false) else ((B3 N a0).bind fun x21=>bif (!x21.2.2) then (some true) else ((F4 N x21.1 a0.name x21.2.1 (16384:Int)).bind fun x55=>bif (x55.thunks != (0:Int)) then (DH N a0 x21 x55 true) else (bif (x55.updates != (0:Int)) then (DH N a0 x21 x55 true) else (DH N a0 x21 x55 (x55.calls != (0:Int))))))
end Fth
