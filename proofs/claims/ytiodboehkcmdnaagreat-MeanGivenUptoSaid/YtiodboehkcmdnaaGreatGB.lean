/- Part 2 of the proof: what it says holds of the given program; no condition. -/
import Derived.Test.YtiodboehkcmdnaaGreatGA
set_option linter.all false
set_option exponentiation.threshold 3000
namespace Fth
open Go Go.IntKind
set_option maxRecDepth 100000
def Ju:Option (Ae):=
 some (Ae.mk (32768:Int) (32768:Int) (32768:Int) (32768:Int))
def IV(x4:Bool):Option (Bool):=
 some x4
def HU(a0:UInt8):Option (Bool):=
 bif (((a0).toNat:Int)==(((9:UInt8)).toNat:Int)) then (IV true) else (bif (((a0).toNat:Int)==(((10:UInt8)).toNat:Int)) then (IV true) else (bif (((a0).toNat:Int)==(((13:UInt8)).toNat:Int)) then (IV true) else (IV (((a0).toNat:Int)==(((32:UInt8)).toNat:Int)))))
def Gw(x5:Bool):Option (Bool):=
 some x5
def GW(a0:UInt8):Option (Bool):=
 bif (decide (((a0).toNat:Int)≥(((65:UInt8)).toNat:Int))) then (bif (decide (((a0).toNat:Int)≤(((90:UInt8)).toNat:Int))) then (Gw true) else (bif (decide (((a0).toNat:Int)≥(((97:UInt8)).toNat:Int))) then (Gw (decide (((a0).toNat:Int)≤(((122:UInt8)).toNat:Int)))) else (Gw false))) else (bif (decide (((a0).toNat:Int)≥(((97:UInt8)).toNat:Int))) then (Gw (decide (((a0).toNat:Int)≤(((122:UInt8)).toNat:Int)))) else (Gw false))
def KL(x2:Bool):Option (Bool):=
 some x2
def Gy(a0:UInt8):Option (Bool):=
 bif (decide (((a0).toNat:Int)≥(((48:UInt8)).toNat:Int))) then (KL (decide (((a0).toNat:Int)≤(((57:UInt8)).toNat:Int)))) else (KL false)
def GX(x76:Int)(self1:(Int→Option (Int)))(x183:Bool):Option (Int):=
 bif x183 then (self1 (i64.wrap (x76+(1:Int)))) else (some x76)
def GR(a0:Bts)(a1:Int)(self1:Int→Option (Int))(x76:Int):Option (Int):=
 bif (decide ((i64.wrap (a1+x76))< (a0.length:Int))) then ((idx a0 (i64.wrap (a1+x76))).bind fun x193=>(GW x193).bind fun x205=>bif x205 then (GX x76 self1 true) else ((Gy x193).bind fun x212=>bif x212 then (GX x76 self1 true) else (GX x76 self1 (((x193).toNat:Int)==(((95:UInt8)).toNat:Int))))) else (GX x76 self1 false)
def Eb(a0:Bts)(a1:Int):Nat→Int→Option (Int)
 |0=>fun _=>none
 |k+1=>GR a0 a1 (Eb a0 a1 k)
def IS(N:Nat)(a0:Bts)(a1:Int):Option (Int):=
 Eb a0 a1 N (0:Int)
def LL(x41 x85:Int):Option (Int×Int):=
 some (x85,x41)
def Ek(a0:Bts)(x12 x40 x41:Int)(self1:(Int→Int→Option (Int×Int)))(x76:Bool):Option (Int×Int):=
 bif x76 then ((idx a0 x41).bind fun x81=>self1 (if (16777217:Int)< (i64.wrap ((i64.wrap ((10:Int)*x40))+(i64.wrap ((((u8c (((x81).toNat:Int) - (((48:UInt8)).toNat:Int)))).toNat:Int))))) then (16777217:Int) else (i64.wrap ((i64.wrap ((10:Int)*x40))+(i64.wrap ((((u8c (((x81).toNat:Int) - (((48:UInt8)).toNat:Int)))).toNat:Int)))))) (i64.wrap (x41+(1:Int)))) else (bif (x41==x12) then (some ((0:Int),(0:Int))) else (bif (x12==(1:Int)) then (LL x41 (i64.wrap (0 - x40))) else (LL x41 x40)))
def E8(a0:Bts)(x12:Int)(self1:Int→Int→Option (Int×Int))(x40 x41:Int):Option (Int×Int):=
 bif (decide (x41< (a0.length:Int))) then ((idx a0 x41).bind fun x91=>bif (decide (((x91).toNat:Int)≥(((48:UInt8)).toNat:Int))) then ((idx a0 x41).bind fun x94=>Ek a0 x12 x40 x41 self1 (decide (((x94).toNat:Int)≤(((57:UInt8)).toNat:Int)))) else (Ek a0 x12 x40 x41 self1 false)) else (Ek a0 x12 x40 x41 self1 false)
def EJ(a0:Bts)(x12:Int):Nat→Int→Int→Option (Int×Int)
 |0=>fun _ _=>none
 |k+1=>E8 a0 x12 (EJ a0 x12 k)
def IW(N:Nat)(a0:Bts)(x12:Int):Option (Int×Int):=
 EJ a0 x12 N (0:Int) x12
def HV(N:Nat)(a0:Bts)(x99:Bool):Option (Int×Int):=
 bif x99 then (IW N a0 (1:Int)) else (IW N a0 (0:Int))
def El(N:Nat)(a0:Bts):Option (Int×Int):=
 bif (decide ((a0.length:Int)>(0:Int))) then ((idx a0 (0:Int)).bind fun x105=>HV N a0 (((x105).toNat:Int)==(((45:UInt8)).toNat:Int))) else (HV N a0 false)
def Jq(a0:Aj)(x17:Bool):Option (Aj×Int):=
 bif x17 then (some ((Aj.mk (0:Int) (0:Int)),(50:Int))) else (some (a0,(0:Int)))
def HW(a0:Aj):Option (Aj×Int):=
 bif (decide (a0.re< (-16777216:Int))) then (Jq a0 true) else (bif (decide (a0.re>(16777216:Int))) then (Jq a0 true) else (bif (decide (a0.im< (-16777216:Int))) then (Jq a0 true) else (Jq a0 (decide (a0.im>(16777216:Int))))))
structure A8 where
 ref01_digits:Int→Option (Bts)
def K5(x35:Bts):Option (Bts):=
 some x35
def DL(φ:A8)(_N:Nat)(a0:Int):Option (Bts):=
 bif (decide (a0< (0:Int))) then ((φ.ref01_digits (i64.wrap (0 - a0))).bind fun x2=>(Pc ([45]:List UInt8) x2).bind fun x7=>some x7) else ((nz (10:Int)).bind fun _=>bif (decide (a0≥(10:Int))) then ((nz (10:Int)).bind fun _=>(φ.ref01_digits (i64.wrap (a0.tdiv (10:Int)))).bind fun x42=>(Pc x42 ([(u8c ((i64.wrap ((48:Int)+(a0.tmod (10:Int))))))]:List UInt8)).bind fun x47=>K5 x47) else (K5 ([(u8c ((i64.wrap ((48:Int)+(a0.tmod (10:Int))))))]:List UInt8)))
def A8.at:Nat→A8
 |0=>⟨fun _=>none⟩
 |n+1=>⟨DL (A8.at n) n⟩
def ref01_digits(N:Nat):Int→Option (Bts):=(A8.at N).ref01_digits
def F2(N:Nat)(a0:Aj):Option (Bts):=
 bif (a0.im==(0:Int)) then ((ref01_digits N a0.re).bind fun x8=>some x8) else (bif (a0.re==(0:Int)) then ((ref01_digits N a0.im).bind fun x14=>(Pc x14 ([105]:List UInt8)).bind fun x19=>some x19) else (bif (decide (a0.im>(0:Int))) then ((ref01_digits N a0.re).bind fun x25=>(Pc x25 ([43]:List UInt8)).bind fun x30=>(ref01_digits N a0.im).bind fun x32=>(Pc x30 x32).bind fun x37=>(Pc x37 ([105]:List UInt8)).bind fun x39=>some x39) else ((ref01_digits N a0.re).bind fun x44=>(ref01_digits N a0.im).bind fun x49=>(Pc x44 x49).bind fun x54=>(Pc x54 ([105]:List UInt8)).bind fun x56=>some x56)))
def LM(x60 x61:Int)(x91:Bool):Option (Aj×Int):=
 bif x91 then (some ((Aj.mk (0:Int) (0:Int)),(10:Int))) else (some ((Aj.mk x60 x61),(0:Int)))
def Fi(N:Nat)(a0:Bts)(x60 x61:Int):Option (Aj×Int):=
 (HW (Aj.mk x60 x61)).bind fun x67=>bif (x67.2 != (0:Int)) then (LM x60 x61 true) else ((F2 N (Aj.mk x60 x61)).bind fun x109=>LM x60 x61 (!(x109==a0)))
def HX(N:Nat)(a0:Bts)(x7:(Int×Int))(x125:Bts):Option (Aj×Int):=
 (El N x125).bind fun x129=>Fi N a0 x7.1 x129.1
def EX(N:Nat)(a0:Bts):Option (Aj×Int):=
 (El N a0).bind fun x7=>bif (x7.2==(0:Int)) then (some ((Aj.mk (0:Int) (0:Int)),(10:Int))) else ((sub a0 x7.2 (a0.length:Int)).bind fun x28=>bif (x28==([105]:List UInt8)) then (Fi N a0 (0:Int) x7.1) else (bif (!(x28==([]:List UInt8))) then ((idx x28 (0:Int)).bind fun x139=>bif (((x139).toNat:Int)==(((43:UInt8)).toNat:Int)) then ((sub x28 (1:Int) (x28.length:Int)).bind fun x142=>HX N a0 x7 x142) else (HX N a0 x7 x28)) else (Fi N a0 x7.1 (0:Int))))
def F7(a0:Aj):Option ((Nat×Nat)):=
 some ((FloatKind.f64.nearest a0.re),(FloatKind.f64.nearest a0.im))
def I1:Option ((List Bts)):=
 some ([([66]:List UInt8),([76]:List UInt8),([78]:List UInt8),([99,97,115,101]:List UInt8),([99,111,110,106]:List UInt8),([101,108,115,101]:List UInt8),([102,97,105,108]:List UInt8),([102,97,108,115,101]:List UInt8),([105,102]:List UInt8),([105,109]:List UInt8),([105,110]:List UInt8),([108,101,116]:List UInt8),([110,105,108]:List UInt8),([110,111,116]:List UInt8),([111,102]:List UInt8),([114,101]:List UInt8),([115,116,114,105,99,116]:List UInt8),([116,104,101,110]:List UInt8),([116,114,117,101]:List UInt8)]:List Bts)
def Dp(a0:Bts)(x1:((List Bts)))(self1:Int→Option (Bool))(x34:Int):Option (Bool):=
 bif (decide (x34< (x1.length:Int))) then ((idx x1 x34).bind fun x66=>bif (x66==a0) then (some true) else (self1 (i64.wrap (x34+(1:Int))))) else (some false)
def Db(a0:Bts)(x1:((List Bts))):Nat→Int→Option (Bool)
 |0=>fun _=>none
 |k+1=>Dp a0 x1 (Db a0 x1 k)
def Dc(N:Nat)(a0:Bts):Option (Bool):=
 (I1).bind fun x1=>Db a0 x1 N (0:Int)
def Dq(x78:Bool):Option (Int):=
 bif x78 then (some (1:Int)) else (some (0:Int))
def Fj(a0:Bts)(a1:Int)(x49:Bool):Option (Int):=
 bif x49 then (some (2:Int)) else ((idx a0 a1).bind fun x54=>bif (((x54).toNat:Int)==(((40:UInt8)).toNat:Int)) then (Dq (((x54).toNat:Int)==(((40:UInt8)).toNat:Int))) else (bif (((x54).toNat:Int)==(((41:UInt8)).toNat:Int)) then (Dq (((x54).toNat:Int)==(((41:UInt8)).toNat:Int))) else (bif (((x54).toNat:Int)==(((44:UInt8)).toNat:Int)) then (Dq (((x54).toNat:Int)==(((44:UInt8)).toNat:Int))) else (bif (((x54).toNat:Int)==(((58:UInt8)).toNat:Int)) then (Dq (((x54).toNat:Int)==(((58:UInt8)).toNat:Int))) else (bif (((x54).toNat:Int)==(((59:UInt8)).toNat:Int)) then (Dq (((x54).toNat:Int)==(((59:UInt8)).toNat:Int))) else (bif (((x54).toNat:Int)==(((61:UInt8)).toNat:Int)) then (Dq (((x54).toNat:Int)==(((61:UInt8)).toNat:Int))) else (bif (((x54).toNat:Int)==(((43:UInt8)).toNat:Int)) then (Dq (((x54).toNat:Int)==(((43:UInt8)).toNat:Int))) else (bif (((x54).toNat:Int)==(((45:UInt8)).toNat:Int)) then (Dq (((x54).toNat:Int)==(((45:UInt8)).toNat:Int))) else (bif (((x54).toNat:Int)==(((42:UInt8)).toNat:Int)) then (Dq (((x54).toNat:Int)==(((42:UInt8)).toNat:Int))) else (bif (((x54).toNat:Int)==(((47:UInt8)).toNat:Int)) then (Dq (((x54).toNat:Int)==(((47:UInt8)).toNat:Int))) else (bif (((x54).toNat:Int)==(((60:UInt8)).toNat:Int)) then (Dq (((x54).toNat:Int)==(((60:UInt8)).toNat:Int))) else (Dq (((x54).toNat:Int)==(((124:UInt8)).toNat:Int))))))))))))))
def IX(a0:Bts)(a1:Int):Option (Int):=
 bif (decide ((i64.wrap (a1+(1:Int)))< (a0.length:Int))) then ((idx a0 a1).bind fun x98=>bif (((x98).toNat:Int)==(((45:UInt8)).toNat:Int)) then ((idx a0 (i64.wrap (a1+(1:Int)))).bind fun x111=>bif (((x111).toNat:Int)==(((62:UInt8)).toNat:Int)) then (Fj a0 a1 true) else (bif (((x98).toNat:Int)==(((61:UInt8)).toNat:Int)) then (Fj a0 a1 (((x111).toNat:Int)==(((61:UInt8)).toNat:Int))) else (Fj a0 a1 false))) else (bif (((x98).toNat:Int)==(((61:UInt8)).toNat:Int)) then ((idx a0 (i64.wrap (a1+(1:Int)))).bind fun x126=>Fj a0 a1 (((x126).toNat:Int)==(((61:UInt8)).toNat:Int))) else (Fj a0 a1 false))) else (Fj a0 a1 false)
def MM(a1:Int)(x17:Bts)(x145:Int):Option (Af×Bool):=
 some ((Af.mk x145 x17 ((0,0):Nat×Nat) a1),true)
def IC(N:Nat)(a0:Bts)(a1 x12:Int)(x17:Bts)(x121:Bool):Option (Af×Bool):=
 bif x121 then (some ((Af.mk (0:Int) x17 ((0,0):Nat×Nat) a1),false)) else (bif (decide (x12>(0:Int))) then ((Dc N x17).bind fun x157=>bif x157 then (MM a1 x17 (1:Int)) else (MM a1 x17 (0:Int))) else ((IX a0 a1).bind fun x170=>(sub a0 a1 (i64.wrap (a1+x170))).bind fun x180=>some ((Af.mk (3:Int) x180 ((0,0):Nat×Nat) a1),(decide (x170>(0:Int))))))
def ID(N:Nat)(a0:Bts)(a1 x12:Int)(x17:Bts)(x63:Bool):Option (Af×Bool):=
 bif x63 then ((EX N x17).bind fun x69=>(F7 x69.1).bind fun x92=>some ((Af.mk (2:Int) x17 x92 a1),(x69.2==(0:Int)))) else (bif (decide (x12>(0:Int))) then ((idx a0 a1).bind fun x207=>IC N a0 a1 x12 x17 (((x207).toNat:Int)==(((95:UInt8)).toNat:Int))) else (IC N a0 a1 x12 x17 false))
def Hv(N:Nat)(a0:Bts)(a1:Int):Option (Af×Bool):=
 (IS N a0 a1).bind fun x12=>(sub a0 a1 (i64.wrap (a1+x12))).bind fun x17=>bif (decide (x12>(0:Int))) then ((idx a0 a1).bind fun x221=>(Gy x221).bind fun x234=>ID N a0 a1 x12 x17 x234) else (ID N a0 a1 x12 x17 false)
def HY(x186:(List Af))(self3:((List Af)→Int→Option ((List Af)×Int)))(x425:Int)(self4:(Int→Option ((List Af)×Int)))(x490:Bool):Option ((List Af)×Int):=
 bif x490 then (self4 (i64.wrap (x425+(1:Int)))) else (self3 x186 x425)
def E9(a0:Bts)(x186:(List Af))(self3:((List Af)→Int→Option ((List Af)×Int)))(self4:Int→Option ((List Af)×Int))(x425:Int):Option ((List Af)×Int):=
 bif (decide (x425< (a0.length:Int))) then ((idx a0 x425).bind fun x501=>HY x186 self3 x425 self4 (((x501).toNat:Int) != (((10:UInt8)).toNat:Int))) else (HY x186 self3 x425 self4 false)
def Em(a0:Bts)(x186:(List Af))(self3:((List Af)→Int→Option ((List Af)×Int))):Nat→Int→Option ((List Af)×Int)
 |0=>fun _=>none
 |k+1=>E9 a0 x186 self3 (Em a0 x186 self3 k)
def FA(N:Nat)(a0:Bts)(self3:(List Af)→Int→Option ((List Af)×Int))(x186:(List Af))(x190:Int):Option ((List Af)×Int):=
 bif (decide (x190< (a0.length:Int))) then ((idx a0 x190).bind fun x385=>(HU x385).bind fun x397=>bif x397 then (self3 x186 (i64.wrap (x190+(1:Int)))) else (bif (((x385).toNat:Int)==(((35:UInt8)).toNat:Int)) then (Em a0 x186 self3 N x190) else ((Hv N a0 x190).bind fun x514=>bif (!x514.2) then (some ([],x190)) else ((GS 48 x186 ([x514.1]:List Af)).bind fun _=>self3 (x186++([x514.1]:List Af)) (i64.wrap (x190+(x514.1.text.length:Int))))))) else ((GS 48 x186 ([(Af.mk (4:Int) ([]:List UInt8) ((0,0):Nat×Nat) (a0.length:Int))]:List Af)).bind fun _=>some ((x186++([(Af.mk (4:Int) ([]:List UInt8) ((0,0):Nat×Nat) (a0.length:Int))]:List Af)),(-1:Int)))
def Dd(N:Nat)(a0:Bts):Nat→(List Af)→Int→Option ((List Af)×Int)
 |0=>fun _ _=>none
 |k+1=>FA N a0 (Dd N a0 k)
def F8(N:Nat)(a0:Bts):Option ((List Af)×Int):=
 Dd N a0 N ([]:List Af) (0:Int)
def BW(ao0:AD):Option (Af):=
 (idx ao0.marks ao0.at_).bind fun x17=>some x17
def Br(ao0:AD)(a1:Int):Option (AD):=
 bif (ao0.why==(0:Int)) then ((BW (AD.mk ao0.marks ao0.at_ a1 ao0.where_ (Ae.mk ao0.l.text ao0.l.funcs ao0.l.arity ao0.l.nest) ao0.nest)).bind fun x14=>some (AD.mk ao0.marks ao0.at_ a1 x14.at_ (Ae.mk ao0.l.text ao0.l.funcs ao0.l.arity ao0.l.nest) ao0.nest)) else (some ao0)
def F9(ao0:AD)(x16:Af)(x35:Bool):Option (Af×AD):=
 bif x35 then ((Br ao0 (21:Int)).bind fun x42=>some ((Af.mk (0:Int) ([]:List UInt8) ((0,0):Nat×Nat) (0:Int)),x42)) else (some (x16,(AD.mk ao0.marks (i64.wrap (ao0.at_+(1:Int))) ao0.why ao0.where_ (Ae.mk ao0.l.text ao0.l.funcs ao0.l.arity ao0.l.nest) ao0.nest)))
def CG(ao0:AD):Option (Af×AD):=
 (BW ao0).bind fun x16=>bif (ao0.why != (0:Int)) then (F9 ao0 x16 true) else (F9 ao0 x16 (x16.kind != (0:Int)))
def HC(x29:Bool):Option (Bool):=
 some x29
def Bb(ao0:AD)(a1:Bts):Option (Bool):=
 (BW ao0).bind fun x8=>bif (ao0.why==(0:Int)) then (bif (x8.kind==(1:Int)) then (HC (x8.text==a1)) else (bif (x8.kind==(3:Int)) then (HC (x8.text==a1)) else (HC false))) else (HC false)
def Bt(ao0:AD)(a1:Bts):Option (Bool×AD):=
 (Bb ao0 a1).bind fun x8=>bif (!x8) then (some (false,ao0)) else (some (true,(AD.mk ao0.marks (i64.wrap (ao0.at_+(1:Int))) ao0.why ao0.where_ (Ae.mk ao0.l.text ao0.l.funcs ao0.l.arity ao0.l.nest) ao0.nest)))
def A4(ao0:AD)(a1:Bts):Option (AD):=
 (Bt ao0 a1).bind fun x8=>bif (!x8.1) then ((Br x8.2 (21:Int)).bind fun x24=>some x24) else (some x8.2)
def DC(self1:Int→(List Af)→Int→Int→Int→Int→Int→Int→Int→Int→Option (Int×AD))(x69:Int)(x70:(List Af))(x74 x75 x76 x77 x78 x79 x80 x81:Int):Option (Int×AD):=
 bif (decide (x69< (([([78]:List UInt8),([66]:List UInt8),([76]:List UInt8)]:List Bts).length:Int))) then ((idx ([([78]:List UInt8),([66]:List UInt8),([76]:List UInt8)]:List Bts) x69).bind fun x148=>(Bt (AD.mk x70 x74 x75 x76 (Ae.mk x77 x78 x79 x80) x81) x148).bind fun x160=>bif x160.1 then (some ((i64.wrap (x69+(1:Int))),x160.2)) else (self1 (i64.wrap (x69+(1:Int))) x160.2.marks x160.2.at_ x160.2.why x160.2.where_ x160.2.l.text x160.2.l.funcs x160.2.l.arity x160.2.l.nest x160.2.nest)) else ((Br (AD.mk x70 x74 x75 x76 (Ae.mk x77 x78 x79 x80) x81) (21:Int)).bind fun x176=>some ((0:Int),x176))
def CI:Nat→Int→(List Af)→Int→Int→Int→Int→Int→Int→Int→Int→Option (Int×AD)
 |0=>fun _ _ _ _ _ _ _ _ _ _=>none
 |k+1=>DC (CI k)
def CJ(N:Nat)(ao0:AD):Option (Int×AD):=
 CI N (0:Int) ao0.marks ao0.at_ ao0.why ao0.where_ ao0.l.text ao0.l.funcs ao0.l.arity ao0.l.nest ao0.nest
def Is(a0:Int)(a1 a2:AB)(a3:Af):Option (AB):=
 some (AB.mk a0 ([]:List UInt8) ([]:List UInt8) (0:Int) ((0,0):Nat×Nat) ([a1,a2]:List AB) a3.at_)
def Hx(a0:Bts):Option (Int):=
 bif (a0==([116,114,117,101]:List UInt8)) then (some (2:Int)) else (bif (a0==([102,97,108,115,101]:List UInt8)) then (some (3:Int)) else (bif (a0==([110,105,108]:List UInt8)) then (some (4:Int)) else (bif (a0==([102,97,105,108]:List UInt8)) then (some (5:Int)) else (bif (a0==([110,111,116]:List UInt8)) then (some (14:Int)) else (bif (a0==([114,101]:List UInt8)) then (some (15:Int)) else (bif (a0==([105,109]:List UInt8)) then (some (16:Int)) else (bif (a0==([99,111,110,106]:List UInt8)) then (some (17:Int)) else (some (0:Int)))))))))
structure AC where
 ref04_reader_expr:AD→Option (AB×AD)
 ref04_reader_cons:AD→Option (AB×AD)
 ref04_reader_parts:AD→(List Bts)→Option ((List AB)×AD)
 ref04_reader_branches:AD→AB→Option (AD×AB)
 ref04_reader_comp:AD→Option (AB×AD)
 ref04_reader_sum:AD→Option (AB×AD)
 ref04_reader_term:AD→Option (AB×AD)
 ref04_reader_unit:AD→Option (AB×AD)
 ref04_reader_named:AD→Af→Option (AB×AD)
def HZ(x384:(List Af))(x388 x389 x390 x391 x392 x393 x394 x396:Int)(x397 x398:Bts)(x399:Int)(x400:(Nat×Nat))(x401:(List AB))(x405 x422:Int):Option (AB×AD):=
 some ((AB.mk x396 x397 x398 x399 x400 x401 x405),(AD.mk x384 x388 x389 x390 (Ae.mk x391 x392 x393 x394) x422))
def En(x56:Bool)(x384:(List Af))(x388 x389 x390 x391 x392 x393 x394 x395 x396:Int)(x397 x398:Bts)(x399:Int)(x400:(Nat×Nat))(x401:(List AB))(x405:Int):Option (AB×AD):=
 bif x56 then (HZ x384 x388 x389 x390 x391 x392 x393 x394 x396 x397 x398 x399 x400 x401 x405 (i64.wrap (x395 - (1:Int)))) else (HZ x384 x388 x389 x390 x391 x392 x393 x394 x396 x397 x398 x399 x400 x401 x405 x395)
def De(φ:AC)(N:Nat)(x16:Af)(x56:Bool)(x90:(List Af))(x94 x95 x96 x97 x98 x99 x100 x167 x532:Int):Option (AB×AD):=
 (CG (AD.mk x90 (i64.wrap (x94+(1:Int))) x95 x96 (Ae.mk x97 x98 x99 x100) x167)).bind fun x540=>(CJ N x540.2).bind fun x574=>(φ.ref04_reader_parts x574.2 ([([61]:List UInt8),([105,110]:List UInt8)]:List Bts)).bind fun x610=>En x56 x610.2.marks x610.2.at_ x610.2.why x610.2.where_ x610.2.l.text x610.2.l.funcs x610.2.l.arity x610.2.l.nest x610.2.nest x532 x540.1.text ([]:List UInt8) x574.1 ((0,0):Nat×Nat) x610.1 x16.at_
def Df(φ:AC)(N:Nat)(x16:Af)(x56:Bool)(x90:(List Af))(x94 x95 x96 x97 x98 x99 x100 x167:Int):Option (AB×AD):=
 bif (x16.text==([105,102]:List UInt8)) then ((φ.ref04_reader_parts (AD.mk x90 (i64.wrap (x94+(1:Int))) x95 x96 (Ae.mk x97 x98 x99 x100) x167) ([([]:List UInt8),([116,104,101,110]:List UInt8),([101,108,115,101]:List UInt8)]:List Bts)).bind fun x465=>En x56 x465.2.marks x465.2.at_ x465.2.why x465.2.where_ x465.2.l.text x465.2.l.funcs x465.2.l.arity x465.2.l.nest x465.2.nest (19:Int) ([]:List UInt8) ([]:List UInt8) (0:Int) ((0,0):Nat×Nat) x465.1 x16.at_) else (bif (x16.text==([99,97,115,101]:List UInt8)) then ((φ.ref04_reader_branches (AD.mk x90 (i64.wrap (x94+(1:Int))) x95 x96 (Ae.mk x97 x98 x99 x100) x167) (AB.mk (0:Int) ([]:List UInt8) ([]:List UInt8) (0:Int) ((0,0):Nat×Nat) [] x16.at_)).bind fun x497=>En x56 x497.1.marks x497.1.at_ x497.1.why x497.1.where_ x497.1.l.text x497.1.l.funcs x497.1.l.arity x497.1.l.nest x497.1.nest x497.2.op x497.2.name x497.2.tail x497.2.type_ x497.2.num x497.2.args x497.2.at_) else (bif (x16.text==([115,116,114,105,99,116]:List UInt8)) then (De φ N x16 x56 x90 x94 x95 x96 x97 x98 x99 x100 x167 (22:Int)) else (De φ N x16 x56 x90 x94 x95 x96 x97 x98 x99 x100 x167 (21:Int))))
def Dg(φ:AC)(N:Nat)(x16:Af)(x56:Bool)(x90:(List Af))(x94 x95 x96 x97 x98 x99 x100 x101:Int)(x123:Bool):Option (AB×AD):=
 bif x123 then ((φ.ref04_reader_cons (AD.mk x90 x94 x95 x96 (Ae.mk x97 x98 x99 x100) x101)).bind fun x130=>some (x130.1,x130.2)) else (bif x56 then (Df φ N x16 x56 x90 x94 x95 x96 x97 x98 x99 x100 (i64.wrap (x101+(1:Int)))) else (Df φ N x16 x56 x90 x94 x95 x96 x97 x98 x99 x100 x101))
def Dh(φ:AC)(N:Nat)(x16:Af)(x56:Bool)(x90:(List Af))(x94 x95 x96 x97 x98 x99 x100 x101:Int):Option (AB×AD):=
 bif (x95 != (0:Int)) then (some ((AB.mk (0:Int) ([]:List UInt8) ([]:List UInt8) (0:Int) ((0,0):Nat×Nat) [] (0:Int)),(AD.mk x90 x94 x95 x96 (Ae.mk x97 x98 x99 x100) x101))) else (bif (!x56) then ((Bb (AD.mk x90 x94 x95 x96 (Ae.mk x97 x98 x99 x100) x101) ([105,102]:List UInt8)).bind fun x653=>Dg φ N x16 x56 x90 x94 x95 x96 x97 x98 x99 x100 x101 (!x653)) else (Dg φ N x16 x56 x90 x94 x95 x96 x97 x98 x99 x100 x101 false))
def Di(φ:AC)(N:Nat)(ao0:AD)(x16:Af)(x56 x662:Bool):Option (AB×AD):=
 bif x662 then ((Br ao0 (23:Int)).bind fun x669=>Dh φ N x16 x56 x669.marks x669.at_ x669.why x669.where_ x669.l.text x669.l.funcs x669.l.arity x669.l.nest x669.nest) else (Dh φ N x16 x56 ao0.marks ao0.at_ ao0.why ao0.where_ ao0.l.text ao0.l.funcs ao0.l.arity ao0.l.nest ao0.nest)
def DD(φ:AC)(N:Nat)(ao0:AD)(x16:Af)(x56:Bool):Option (AB×AD):=
 bif x56 then (Di φ N ao0 x16 x56 (decide (ao0.nest≥ao0.l.nest))) else (Di φ N ao0 x16 x56 false)
def Ct(φ:AC)(N:Nat)(ao0:AD):Option (AB×AD):=
 (BW ao0).bind fun x16=>(Bb ao0 ([108,101,116]:List UInt8)).bind fun x692=>bif x692 then (DD φ N ao0 x16 true) else ((Bb ao0 ([115,116,114,105,99,116]:List UInt8)).bind fun x700=>bif x700 then (DD φ N ao0 x16 true) else ((Bb ao0 ([99,97,115,101]:List UInt8)).bind fun x708=>DD φ N ao0 x16 x708))
def Cu(φ:AC)(_N:Nat)(ao0:AD):Option (AB×AD):=
 (φ.ref04_reader_comp ao0).bind fun x16=>(BW x16.2).bind fun x52=>(Bt x16.2 ([58]:List UInt8)).bind fun x71=>bif (!x71.1) then (some (x16.1,x71.2)) else ((φ.ref04_reader_cons x71.2).bind fun x97=>(Is (18:Int) x16.1 x97.1 x52).bind fun x135=>some (x135,x97.2))
def DN(φ:AC)(x175:(List AB))(x179:Int)(self1:((List AB)→Int→(List Af)→Int→Int→Int→Int→Int→Int→Int→Int→Option ((List AB)×AD)))(x398:(List Af))(x402 x403 x404 x405 x406 x407 x408 x409:Int):Option ((List AB)×AD):=
 (φ.ref04_reader_expr (AD.mk x398 x402 x403 x404 (Ae.mk x405 x406 x407 x408) x409)).bind fun x417=>(GS 96 x175 ([x417.1]:List AB)).bind fun _=>self1 (x175++([x417.1]:List AB)) (i64.wrap (x179+(1:Int))) x417.2.marks x417.2.at_ x417.2.why x417.2.where_ x417.2.l.text x417.2.l.funcs x417.2.l.arity x417.2.l.nest x417.2.nest
def CY(φ:AC)(a1:(List Bts))(self1:(List AB)→Int→(List Af)→Int→Int→Int→Int→Int→Int→Int→Int→Option ((List AB)×AD))(x175:(List AB))(x179:Int)(x180:(List Af))(x184 x185 x186 x187 x188 x189 x190 x191:Int):Option ((List AB)×AD):=
 bif (decide (x179< (a1.length:Int))) then ((idx a1 x179).bind fun x476=>bif (!(x476==([]:List UInt8))) then ((A4 (AD.mk x180 x184 x185 x186 (Ae.mk x187 x188 x189 x190) x191) x476).bind fun x489=>DN φ x175 x179 self1 x489.marks x489.at_ x489.why x489.where_ x489.l.text x489.l.funcs x489.l.arity x489.l.nest x489.nest) else (DN φ x175 x179 self1 x180 x184 x185 x186 x187 x188 x189 x190 x191)) else (some (x175,(AD.mk x180 x184 x185 x186 (Ae.mk x187 x188 x189 x190) x191)))
def Bg(φ:AC)(a1:(List Bts)):Nat→(List AB)→Int→(List Af)→Int→Int→Int→Int→Int→Int→Int→Int→Option ((List AB)×AD)
 |0=>fun _ _ _ _ _ _ _ _ _ _ _=>none
 |k+1=>CY φ a1 (Bg φ a1 k)
def Ce(φ:AC)(N:Nat)(ao0:AD)(a1:(List Bts)):Option ((List AB)×AD):=
 Bg φ a1 N ([]:List AB) (0:Int) ao0.marks ao0.at_ ao0.why ao0.where_ ao0.l.text ao0.l.funcs ao0.l.arity ao0.l.nest ao0.nest
def B1(φ:AC)(_N:Nat)(ao0:AD)(ao1:AB):Option (AD×AB):=
 (φ.ref04_reader_expr ao0).bind fun x21=>(A4 x21.2 ([111,102]:List UInt8)).bind fun x57=>(A4 x57 ([110,105,108]:List UInt8)).bind fun x72=>(A4 x72 ([45,62]:List UInt8)).bind fun x87=>(φ.ref04_reader_expr x87).bind fun x102=>(A4 x102.2 ([124]:List UInt8)).bind fun x138=>(CG x138).bind fun x153=>(A4 x153.2 ([58]:List UInt8)).bind fun x182=>(CG x182).bind fun x197=>(A4 x197.2 ([45,62]:List UInt8)).bind fun x226=>(φ.ref04_reader_expr x226).bind fun x241=>some (x241.2,(AB.mk (20:Int) x153.1.text x197.1.text ao1.type_ ao1.num ([x21.1,x102.1,x241.1]:List AB) ao1.at_))
def EE(φ:AC)(x16:(AB×AD))(x52:Af)(x77:Int)(x114:Bool)(x115:(List Af))(x119 x120 x121 x122 x123 x124 x125 x126:Int):Option (AB×AD):=
 bif x114 then (some (x16.1,(AD.mk x115 x119 x120 x121 (Ae.mk x122 x123 x124 x125) x126))) else ((φ.ref04_reader_sum (AD.mk x115 x119 x120 x121 (Ae.mk x122 x123 x124 x125) x126)).bind fun x145=>(Is x77 x16.1 x145.1 x52).bind fun x183=>some (x183,x145.2))
def Dj(φ:AC)(x16:(AB×AD))(x52:Af)(x77:Int):Option (AB×AD):=
 (Bt x16.2 ([61,61]:List UInt8)).bind fun x206=>bif (!x206.1) then ((Bt x206.2 ([60]:List UInt8)).bind fun x222=>EE φ x16 x52 x77 (!x222.1) x222.2.marks x222.2.at_ x222.2.why x222.2.where_ x222.2.l.text x222.2.l.funcs x222.2.l.arity x222.2.l.nest x222.2.nest) else (EE φ x16 x52 x77 false x206.2.marks x206.2.at_ x206.2.why x206.2.where_ x206.2.l.text x206.2.l.funcs x206.2.l.arity x206.2.l.nest x206.2.nest)
def Cv(φ:AC)(_N:Nat)(ao0:AD):Option (AB×AD):=
 (φ.ref04_reader_sum ao0).bind fun x16=>(BW x16.2).bind fun x52=>(Bb x16.2 ([60]:List UInt8)).bind fun x239=>bif x239 then (Dj φ x16 x52 (13:Int)) else (Dj φ x16 x52 (12:Int))
def Dy(x212:Int)(x213 x214:Bts)(x215:Int)(x216:(Nat×Nat))(x217:(List AB))(x221:Int)(self1:((List Af)→Int→Int→Int→Int→Int→Int→Int→Int→Int→Bts→Bts→Int→(Nat×Nat)→(List AB)→Int→Option (AB×AD)))(x408:Af)(x431:(AB×AD))(x467:Int):Option (AB×AD):=
 (Is x467 (AB.mk x212 x213 x214 x215 x216 x217 x221) x431.1 x408).bind fun x476=>self1 x431.2.marks x431.2.at_ x431.2.why x431.2.where_ x431.2.l.text x431.2.l.funcs x431.2.l.arity x431.2.l.nest x431.2.nest x476.op x476.name x476.tail x476.type_ x476.num x476.args x476.at_
def Dz(φ:AC)(x200:(List Af))(x204 x205 x206 x207 x208 x209 x210 x211 x212:Int)(x213 x214:Bts)(x215:Int)(x216:(Nat×Nat))(x217:(List AB))(x221:Int)(self1:((List Af)→Int→Int→Int→Int→Int→Int→Int→Int→Int→Bts→Bts→Int→(Nat×Nat)→(List AB)→Int→Option (AB×AD)))(x401:Bool):Option (AB×AD):=
 bif x401 then ((BW (AD.mk x200 x204 x205 x206 (Ae.mk x207 x208 x209 x210) x211)).bind fun x408=>(φ.ref04_reader_term (AD.mk x200 (i64.wrap (x204+(1:Int))) x205 x206 (Ae.mk x207 x208 x209 x210) x211)).bind fun x431=>bif (x408.text==([45]:List UInt8)) then (Dy x212 x213 x214 x215 x216 x217 x221 self1 x408 x431 (9:Int)) else (Dy x212 x213 x214 x215 x216 x217 x221 self1 x408 x431 (8:Int))) else (some ((AB.mk x212 x213 x214 x215 x216 x217 x221),(AD.mk x200 x204 x205 x206 (Ae.mk x207 x208 x209 x210) x211)))
def DE(φ:AC)(self1:(List Af)→Int→Int→Int→Int→Int→Int→Int→Int→Int→Bts→Bts→Int→(Nat×Nat)→(List AB)→Int→Option (AB×AD))(x200:(List Af))(x204 x205 x206 x207 x208 x209 x210 x211 x212:Int)(x213 x214:Bts)(x215:Int)(x216:(Nat×Nat))(x217:(List AB))(x221:Int):Option (AB×AD):=
 (Bb (AD.mk x200 x204 x205 x206 (Ae.mk x207 x208 x209 x210) x211) ([43]:List UInt8)).bind fun x509=>bif x509 then (Dz φ x200 x204 x205 x206 x207 x208 x209 x210 x211 x212 x213 x214 x215 x216 x217 x221 self1 true) else ((Bb (AD.mk x200 x204 x205 x206 (Ae.mk x207 x208 x209 x210) x211) ([45]:List UInt8)).bind fun x517=>Dz φ x200 x204 x205 x206 x207 x208 x209 x210 x211 x212 x213 x214 x215 x216 x217 x221 self1 x517)
def Bq(φ:AC):Nat→(List Af)→Int→Int→Int→Int→Int→Int→Int→Int→Int→Bts→Bts→Int→(Nat×Nat)→(List AB)→Int→Option (AB×AD)
 |0=>fun _ _ _ _ _ _ _ _ _ _ _ _ _ _ _ _=>none
 |k+1=>DE φ (Bq φ k)
def DM(φ:AC)(N:Nat)(ao0:AD):Option (AB×AD):=
 (φ.ref04_reader_term ao0).bind fun x16=>Bq φ N x16.2.marks x16.2.at_ x16.2.why x16.2.where_ x16.2.l.text x16.2.l.funcs x16.2.l.arity x16.2.l.nest x16.2.nest x16.1.op x16.1.name x16.1.tail x16.1.type_ x16.1.num x16.1.args x16.1.at_
def Dk(x212:Int)(x213 x214:Bts)(x215:Int)(x216:(Nat×Nat))(x217:(List AB))(x221:Int)(self1:((List Af)→Int→Int→Int→Int→Int→Int→Int→Int→Int→Bts→Bts→Int→(Nat×Nat)→(List AB)→Int→Option (AB×AD)))(x408:Af)(x431:(AB×AD))(x467:Int):Option (AB×AD):=
 (Is x467 (AB.mk x212 x213 x214 x215 x216 x217 x221) x431.1 x408).bind fun x476=>self1 x431.2.marks x431.2.at_ x431.2.why x431.2.where_ x431.2.l.text x431.2.l.funcs x431.2.l.arity x431.2.l.nest x431.2.nest x476.op x476.name x476.tail x476.type_ x476.num x476.args x476.at_
def Dl(φ:AC)(x200:(List Af))(x204 x205 x206 x207 x208 x209 x210 x211 x212:Int)(x213 x214:Bts)(x215:Int)(x216:(Nat×Nat))(x217:(List AB))(x221:Int)(self1:((List Af)→Int→Int→Int→Int→Int→Int→Int→Int→Int→Bts→Bts→Int→(Nat×Nat)→(List AB)→Int→Option (AB×AD)))(x401:Bool):Option (AB×AD):=
 bif x401 then ((BW (AD.mk x200 x204 x205 x206 (Ae.mk x207 x208 x209 x210) x211)).bind fun x408=>(φ.ref04_reader_unit (AD.mk x200 (i64.wrap (x204+(1:Int))) x205 x206 (Ae.mk x207 x208 x209 x210) x211)).bind fun x431=>bif (x408.text==([47]:List UInt8)) then (Dk x212 x213 x214 x215 x216 x217 x221 self1 x408 x431 (11:Int)) else (Dk x212 x213 x214 x215 x216 x217 x221 self1 x408 x431 (10:Int))) else (some ((AB.mk x212 x213 x214 x215 x216 x217 x221),(AD.mk x200 x204 x205 x206 (Ae.mk x207 x208 x209 x210) x211)))
def Cq(φ:AC)(self1:(List Af)→Int→Int→Int→Int→Int→Int→Int→Int→Int→Bts→Bts→Int→(Nat×Nat)→(List AB)→Int→Option (AB×AD))(x200:(List Af))(x204 x205 x206 x207 x208 x209 x210 x211 x212:Int)(x213 x214:Bts)(x215:Int)(x216:(Nat×Nat))(x217:(List AB))(x221:Int):Option (AB×AD):=
 (Bb (AD.mk x200 x204 x205 x206 (Ae.mk x207 x208 x209 x210) x211) ([42]:List UInt8)).bind fun x509=>bif x509 then (Dl φ x200 x204 x205 x206 x207 x208 x209 x210 x211 x212 x213 x214 x215 x216 x217 x221 self1 true) else ((Bb (AD.mk x200 x204 x205 x206 (Ae.mk x207 x208 x209 x210) x211) ([47]:List UInt8)).bind fun x517=>Dl φ x200 x204 x205 x206 x207 x208 x209 x210 x211 x212 x213 x214 x215 x216 x217 x221 self1 x517)
def Be(φ:AC):Nat→(List Af)→Int→Int→Int→Int→Int→Int→Int→Int→Int→Bts→Bts→Int→(Nat×Nat)→(List AB)→Int→Option (AB×AD)
 |0=>fun _ _ _ _ _ _ _ _ _ _ _ _ _ _ _ _=>none
 |k+1=>Cq φ (Be φ k)
def Cw(φ:AC)(N:Nat)(ao0:AD):Option (AB×AD):=
 (φ.ref04_reader_unit ao0).bind fun x16=>Be φ N x16.2.marks x16.2.at_ x16.2.why x16.2.where_ x16.2.l.text x16.2.l.funcs x16.2.l.arity x16.2.l.nest x16.2.nest x16.1.op x16.1.name x16.1.tail x16.1.type_ x16.1.num x16.1.args x16.1.at_
def GA(x247:Int)(x248 x249:Bts)(x251:(Nat×Nat))(x252:Int)(x377:(List Af))(x381 x382 x383 x384 x385 x386 x387 x388 x389:Int)(x390:(List AB)):Option (AB×AD):=
 some ((AB.mk x247 x248 x249 x389 x251 x390 x252),(AD.mk x377 x381 x382 x383 (Ae.mk x384 x385 x386 x387) x388))
def CM(φ:AC)(x94:(Bool×AD))(x247:Int)(x248 x249:Bts)(x250:Int)(x251:(Nat×Nat))(x252:Int)(x446:Bool):Option (AB×AD):=
 bif x446 then ((A4 (AD.mk x94.2.marks (i64.wrap (x94.2.at_+(1:Int))) x94.2.why x94.2.where_ (Ae.mk x94.2.l.text x94.2.l.funcs x94.2.l.arity x94.2.l.nest) x94.2.nest) ([40]:List UInt8)).bind fun x453=>(φ.ref04_reader_expr x453).bind fun x468=>(A4 x468.2 ([41]:List UInt8)).bind fun x504=>GA x247 x248 x249 x251 x252 x504.marks x504.at_ x504.why x504.where_ x504.l.text x504.l.funcs x504.l.arity x504.l.nest x504.nest x250 ([x468.1]:List AB)) else (GA x247 x248 x249 x251 x252 x94.2.marks (i64.wrap (x94.2.at_+(1:Int))) x94.2.why x94.2.where_ x94.2.l.text x94.2.l.funcs x94.2.l.arity x94.2.l.nest x94.2.nest x250 ([]:List AB))
def Eo(φ:AC)(N:Nat)(x94:(Bool×AD))(x247:Int)(x248 x249:Bts)(x250:Int)(x251:(Nat×Nat))(x252:Int):Option (AB×AD):=
 bif (x247==(5:Int)) then ((CJ N (AD.mk x94.2.marks (i64.wrap (x94.2.at_+(1:Int))) x94.2.why x94.2.where_ (Ae.mk x94.2.l.text x94.2.l.funcs x94.2.l.arity x94.2.l.nest) x94.2.nest)).bind fun x421=>GA x247 x248 x249 x251 x252 x421.2.marks x421.2.at_ x421.2.why x421.2.where_ x421.2.l.text x421.2.l.funcs x421.2.l.arity x421.2.l.nest x421.2.nest x421.1 ([]:List AB)) else (bif (x247==(14:Int)) then (CM φ x94 x247 x248 x249 x250 x251 x252 (x247==(14:Int))) else (bif (x247==(15:Int)) then (CM φ x94 x247 x248 x249 x250 x251 x252 (x247==(15:Int))) else (bif (x247==(16:Int)) then (CM φ x94 x247 x248 x249 x250 x251 x252 (x247==(16:Int))) else (CM φ x94 x247 x248 x249 x250 x251 x252 (x247==(17:Int))))))
def DF(φ:AC)(N:Nat)(x16:Af)(x94:(Bool×AD))(x178:Bool):Option (AB×AD):=
 bif x178 then ((Br x94.2 (21:Int)).bind fun x185=>some ((AB.mk (0:Int) ([]:List UInt8) ([]:List UInt8) (0:Int) ((0,0):Nat×Nat) [] (0:Int)),x185)) else ((Hx x16.text).bind fun x548=>Eo φ N x94 x548 ([]:List UInt8) ([]:List UInt8) (0:Int) ((0,0):Nat×Nat) x16.at_)
def Cy(φ:AC)(N:Nat)(ao0:AD):Option (AB×AD):=
 (BW ao0).bind fun x16=>bif (ao0.why != (0:Int)) then (some ((AB.mk (0:Int) ([]:List UInt8) ([]:List UInt8) (0:Int) ((0,0):Nat×Nat) [] (0:Int)),ao0)) else (bif (x16.kind==(2:Int)) then (some ((AB.mk (1:Int) ([]:List UInt8) ([]:List UInt8) (0:Int) x16.num [] x16.at_),(AD.mk ao0.marks (i64.wrap (ao0.at_+(1:Int))) ao0.why ao0.where_ (Ae.mk ao0.l.text ao0.l.funcs ao0.l.arity ao0.l.nest) ao0.nest))) else (bif (x16.kind==(0:Int)) then ((φ.ref04_reader_named (AD.mk ao0.marks (i64.wrap (ao0.at_+(1:Int))) ao0.why ao0.where_ (Ae.mk ao0.l.text ao0.l.funcs ao0.l.arity ao0.l.nest) ao0.nest) x16).bind fun x62=>some (x62.1,x62.2)) else ((Bt ao0 ([40]:List UInt8)).bind fun x94=>bif x94.1 then ((φ.ref04_reader_expr x94.2).bind fun x110=>(A4 x110.2 ([41]:List UInt8)).bind fun x146=>some (x110.1,x146)) else (bif (x16.kind != (1:Int)) then (DF φ N x16 x94 true) else ((Hx x16.text).bind fun x581=>DF φ N x16 x94 (x581==(0:Int)))))))
def DO(φ:AC)(x231:(List AB))(self1:((List Af)→Int→Int→Int→Int→Int→Int→Int→Int→(List AB)→Option (AB×AD)))(x455:(List Af))(x459 x460 x461 x462 x463 x464 x465 x466:Int):Option (AB×AD):=
 (φ.ref04_reader_expr (AD.mk x455 x459 x460 x461 (Ae.mk x462 x463 x464 x465) x466)).bind fun x474=>(GS 96 x231 ([x474.1]:List AB)).bind fun _=>self1 x474.2.marks x474.2.at_ x474.2.why x474.2.where_ x474.2.l.text x474.2.l.funcs x474.2.l.arity x474.2.l.nest x474.2.nest (x231++([x474.1]:List AB))
def DP(φ:AC)(a1:Af)(x219:(List Af))(x223 x224 x225 x226 x227 x228 x229 x230:Int)(x231:(List AB))(self1:((List Af)→Int→Int→Int→Int→Int→Int→Int→Int→(List AB)→Option (AB×AD)))(x427:Bool):Option (AB×AD):=
 bif x427 then (bif (decide ((x231.length:Int)>(0:Int))) then ((A4 (AD.mk x219 x223 x224 x225 (Ae.mk x226 x227 x228 x229) x230) ([44]:List UInt8)).bind fun x548=>DO φ x231 self1 x548.marks x548.at_ x548.why x548.where_ x548.l.text x548.l.funcs x548.l.arity x548.l.nest x548.nest) else (DO φ x231 self1 x219 x223 x224 x225 x226 x227 x228 x229 x230)) else ((A4 (AD.mk x219 x223 x224 x225 (Ae.mk x226 x227 x228 x229) x230) ([41]:List UInt8)).bind fun x567=>some ((AB.mk (7:Int) a1.text ([]:List UInt8) (0:Int) ((0,0):Nat×Nat) x231 a1.at_),x567))
def CZ(φ:AC)(a1:Af)(self1:(List Af)→Int→Int→Int→Int→Int→Int→Int→Int→(List AB)→Option (AB×AD))(x219:(List Af))(x223 x224 x225 x226 x227 x228 x229 x230:Int)(x231:(List AB)):Option (AB×AD):=
 bif (x224==(0:Int)) then ((Bb (AD.mk x219 x223 x224 x225 (Ae.mk x226 x227 x228 x229) x230) ([41]:List UInt8)).bind fun x598=>DP φ a1 x219 x223 x224 x225 x226 x227 x228 x229 x230 x231 self1 (!x598)) else (DP φ a1 x219 x223 x224 x225 x226 x227 x228 x229 x230 x231 self1 false)
def Ba(φ:AC)(a1:Af):Nat→(List Af)→Int→Int→Int→Int→Int→Int→Int→Int→(List AB)→Option (AB×AD)
 |0=>fun _ _ _ _ _ _ _ _ _ _=>none
 |k+1=>CZ φ a1 (Ba φ a1 k)
def Cf(φ:AC)(N:Nat)(ao0:AD)(a1:Af):Option (AB×AD):=
 (Bt ao0 ([40]:List UInt8)).bind fun x22=>bif (!x22.1) then (some ((AB.mk (6:Int) a1.text ([]:List UInt8) (0:Int) ((0,0):Nat×Nat) [] a1.at_),x22.2)) else (Ba φ a1 N x22.2.marks x22.2.at_ x22.2.why x22.2.where_ x22.2.l.text x22.2.l.funcs x22.2.l.arity x22.2.l.nest x22.2.nest ([]:List AB))
def AC.at:Nat→AC
 |0=>⟨fun _=>none,fun _=>none,fun _ _=>none,fun _ _=>none,fun _=>none,fun _=>none,fun _=>none,fun _=>none,fun _ _=>none⟩
 |n+1=>⟨Ct (AC.at n) n,Cu (AC.at n) n,Ce (AC.at n) n,B1 (AC.at n) n,Cv (AC.at n) n,DM (AC.at n) n,Cw (AC.at n) n,Cy (AC.at n) n,Cf (AC.at n) n⟩
def ref04_reader_expr(N:Nat):AD→Option (AB×AD):=(AC.at N).ref04_reader_expr
def ref04_reader_cons(N:Nat):AD→Option (AB×AD):=(AC.at N).ref04_reader_cons
def ref04_reader_parts(N:Nat):AD→(List Bts)→Option ((List AB)×AD):=(AC.at N).ref04_reader_parts
def ref04_reader_branches(N:Nat):AD→AB→Option (AD×AB):=(AC.at N).ref04_reader_branches
def ref04_reader_comp(N:Nat):AD→Option (AB×AD):=(AC.at N).ref04_reader_comp
def ref04_reader_sum(N:Nat):AD→Option (AB×AD):=(AC.at N).ref04_reader_sum
def ref04_reader_term(N:Nat):AD→Option (AB×AD):=(AC.at N).ref04_reader_term
def ref04_reader_unit(N:Nat):AD→Option (AB×AD):=(AC.at N).ref04_reader_unit
def ref04_reader_named(N:Nat):AD→Af→Option (AB×AD):=(AC.at N).ref04_reader_named
def D0(N:Nat)(x432:(List AK))(self1:((List Af)→Int→Int→Int→Int→Int→Int→Int→Int→(List AK)→Option (AE×AD)))(x868:(List Af))(x872 x873 x874 x875 x876 x877 x878 x879:Int):Option (AE×AD):=
 (CG (AD.mk x868 x872 x873 x874 (Ae.mk x875 x876 x877 x878) x879)).bind fun x887=>(CJ N x887.2).bind fun x916=>(GS 32 x432 ([(AK.mk x887.1.text x916.1 x887.1.at_)]:List AK)).bind fun _=>self1 x916.2.marks x916.2.at_ x916.2.why x916.2.where_ x916.2.l.text x916.2.l.funcs x916.2.l.arity x916.2.l.nest x916.2.nest (x432++([(AK.mk x887.1.text x916.1 x887.1.at_)]:List AK))
def DT(N:Nat)(x432:(List AK))(self1:((List Af)→Int→Int→Int→Int→Int→Int→Int→Int→(List AK)→Option (AE×AD)))(x795:(List Af))(x799 x800 x801 x802 x803 x804 x805 x806:Int)(x979:Bool):Option (AE×AD):=
 bif x979 then ((Br (AD.mk x795 x799 x800 x801 (Ae.mk x802 x803 x804 x805) x806) (22:Int)).bind fun x986=>D0 N x432 self1 x986.marks x986.at_ x986.why x986.where_ x986.l.text x986.l.funcs x986.l.arity x986.l.nest x986.nest) else (D0 N x432 self1 x795 x799 x800 x801 x802 x803 x804 x805 x806)
def D1(N:Nat)(x432:(List AK))(self1:((List Af)→Int→Int→Int→Int→Int→Int→Int→Int→(List AK)→Option (AE×AD)))(x795:(List Af))(x799 x800 x801 x802 x803 x804 x805 x806:Int):Option (AE×AD):=
 bif (x800==(0:Int)) then ((BW (AD.mk x795 x799 x800 x801 (Ae.mk x802 x803 x804 x805) x806)).bind fun x1008=>bif (x1008.kind==(0:Int)) then (DT N x432 self1 x795 x799 x800 x801 x802 x803 x804 x805 x806 (decide ((x432.length:Int)≥x804))) else (DT N x432 self1 x795 x799 x800 x801 x802 x803 x804 x805 x806 false)) else (DT N x432 self1 x795 x799 x800 x801 x802 x803 x804 x805 x806 false)
def DU(N:Nat)(x77:(Af×AD))(x420:(List Af))(x424 x425 x426 x427 x428 x429 x430 x431:Int)(x432:(List AK))(self1:((List Af)→Int→Int→Int→Int→Int→Int→Int→Int→(List AK)→Option (AE×AD)))(x767:Bool):Option (AE×AD):=
 bif x767 then (bif (decide ((x432.length:Int)>(0:Int))) then ((A4 (AD.mk x420 x424 x425 x426 (Ae.mk x427 x428 x429 x430) x431) ([44]:List UInt8)).bind fun x1027=>D1 N x432 self1 x1027.marks x1027.at_ x1027.why x1027.where_ x1027.l.text x1027.l.funcs x1027.l.arity x1027.l.nest x1027.nest) else (D1 N x432 self1 x420 x424 x425 x426 x427 x428 x429 x430 x431)) else ((A4 (AD.mk x420 x424 x425 x426 (Ae.mk x427 x428 x429 x430) x431) ([41]:List UInt8)).bind fun x1046=>(A4 x1046 ([58]:List UInt8)).bind fun x1061=>(CJ N x1061).bind fun x1076=>(A4 x1076.2 ([61]:List UInt8)).bind fun x1098=>(ref04_reader_expr N x1098).bind fun x1113=>(A4 x1113.2 ([59]:List UInt8)).bind fun x1143=>some ((AE.mk x77.1.text x432 x1076.1 x1113.1 x77.1.at_),x1143))
def DG(N:Nat)(x77:(Af×AD))(self1:(List Af)→Int→Int→Int→Int→Int→Int→Int→Int→(List AK)→Option (AE×AD))(x420:(List Af))(x424 x425 x426 x427 x428 x429 x430 x431:Int)(x432:(List AK)):Option (AE×AD):=
 bif (x425==(0:Int)) then ((Bb (AD.mk x420 x424 x425 x426 (Ae.mk x427 x428 x429 x430) x431) ([41]:List UInt8)).bind fun x1176=>DU N x77 x420 x424 x425 x426 x427 x428 x429 x430 x431 x432 self1 (!x1176)) else (DU N x77 x420 x424 x425 x426 x427 x428 x429 x430 x431 x432 self1 false)
def BY(N:Nat)(x77:(Af×AD)):Nat→(List Af)→Int→Int→Int→Int→Int→Int→Int→Int→(List AK)→Option (AE×AD)
 |0=>fun _ _ _ _ _ _ _ _ _ _=>none
 |k+1=>DG N x77 (BY N x77 k)
def D2(N:Nat)(x58:(List Af))(x62 x63 x64 x65 x66 x67 x68 x69:Int):Option (AE×AD):=
 (CG (AD.mk x58 x62 x63 x64 (Ae.mk x65 x66 x67 x68) x69)).bind fun x77=>(A4 x77.2 ([40]:List UInt8)).bind fun x116=>BY N x77 N x116.marks x116.at_ x116.why x116.where_ x116.l.text x116.l.funcs x116.l.arity x116.l.nest x116.nest ([]:List AK)
def D3(N:Nat)(ao0:AD)(x1193:Bool):Option (AE×AD):=
 bif x1193 then ((Br ao0 (22:Int)).bind fun x1200=>D2 N x1200.marks x1200.at_ x1200.why x1200.where_ x1200.l.text x1200.l.funcs x1200.l.arity x1200.l.nest x1200.nest) else (D2 N ao0.marks ao0.at_ ao0.why ao0.where_ ao0.l.text ao0.l.funcs ao0.l.arity ao0.l.nest ao0.nest)
def Cp(N:Nat)(ao0:AD)(a1:Int):Option (AE×AD):=
 (BW ao0).bind fun x1219=>bif (x1219.kind==(0:Int)) then (D3 N ao0 (decide (a1≥ao0.l.funcs))) else (D3 N ao0 false)
def B3(N:Nat)(x142:(List Af))(x146 x147 x148 x149 x150 x151 x152 x153:Int)(x154:(List AE))(self1:((List Af)→Int→Int→Int→Int→Int→Int→Int→Int→(List AE)→Option (AL×AD)))(x316:Bool):Option (AL×AD):=
 bif x316 then ((Cp N (AD.mk x142 x146 x147 x148 (Ae.mk x149 x150 x151 x152) x153) (x154.length:Int)).bind fun x328=>(GS 152 x154 ([x328.1]:List AE)).bind fun _=>self1 x328.2.marks x328.2.at_ x328.2.why x328.2.where_ x328.2.l.text x328.2.l.funcs x328.2.l.arity x328.2.l.nest x328.2.nest (x154++([x328.1]:List AE))) else (some ((AL.mk x154),(AD.mk x142 x146 x147 x148 (Ae.mk x149 x150 x151 x152) x153)))
def CE(N:Nat)(self1:(List Af)→Int→Int→Int→Int→Int→Int→Int→Int→(List AE)→Option (AL×AD))(x142:(List Af))(x146 x147 x148 x149 x150 x151 x152 x153:Int)(x154:(List AE)):Option (AL×AD):=
 bif (x147==(0:Int)) then (bif ((x154.length:Int)==(0:Int)) then (B3 N x142 x146 x147 x148 x149 x150 x151 x152 x153 x154 self1 true) else ((BW (AD.mk x142 x146 x147 x148 (Ae.mk x149 x150 x151 x152) x153)).bind fun x422=>B3 N x142 x146 x147 x148 x149 x150 x151 x152 x153 x154 self1 (x422.kind != (4:Int)))) else (B3 N x142 x146 x147 x148 x149 x150 x151 x152 x153 x154 self1 false)
def BS(N:Nat):Nat→(List Af)→Int→Int→Int→Int→Int→Int→Int→Int→(List AE)→Option (AL×AD)
 |0=>fun _ _ _ _ _ _ _ _ _ _=>none
 |k+1=>CE N (BS N k)
def Bu(N:Nat)(ao0:AD):Option (AL×AD):=
 BS N N ao0.marks ao0.at_ ao0.why ao0.where_ ao0.l.text ao0.l.funcs ao0.l.arity ao0.l.nest ao0.nest ([]:List AE)
def Fc(N:Nat)(a0:Bts)(a1:Ae):Option (AL×AF):=
 bif (decide ((a0.length:Int)>(if (32768:Int)< (if a1.text< (0:Int) then (0:Int) else a1.text) then (32768:Int) else (if a1.text< (0:Int) then (0:Int) else a1.text)))) then (some ((AL.mk []),(AF.mk (22:Int) (if (32768:Int)< (if a1.text< (0:Int) then (0:Int) else a1.text) then (32768:Int) else (if a1.text< (0:Int) then (0:Int) else a1.text))))) else ((F8 N a0).bind fun x54=>bif (decide (x54.2≥(0:Int))) then (some ((AL.mk []),(AF.mk (20:Int) x54.2))) else ((Bu N (AD.mk x54.1 (0:Int) (0:Int) (0:Int) (Ae.mk (if (32768:Int)< (if a1.text< (0:Int) then (0:Int) else a1.text) then (32768:Int) else (if a1.text< (0:Int) then (0:Int) else a1.text)) a1.funcs a1.arity a1.nest) (0:Int))).bind fun x85=>bif (x85.2.why != (0:Int)) then (some ((AL.mk []),(AF.mk x85.2.why x85.2.where_))) else (some (x85.1,(AF.mk (0:Int) (0:Int))))))
def Ha(x166:Int)(self1:((List Bts)→Int→Int→Option ((List Bts))))(x410:(List Bts))(x414:Int):Option ((List Bts)):=
 self1 x410 x414 (i64.wrap (x166+(1:Int)))
def Hb(x166:Int)(self1:((List Bts)→Int→Int→Option ((List Bts))))(x454:(List Bts)):Option ((List Bts)):=
 Ha x166 self1 x454 (i64.wrap (x166+(1:Int)))
def GY(a0:Bts)(x161:(List Bts))(x165 x166:Int)(self1:((List Bts)→Int→Int→Option ((List Bts))))(x423:Bool):Option ((List Bts)):=
 bif x423 then (Ha x166 self1 x161 x165) else (bif (decide (x166>x165)) then ((sub a0 x165 x166).bind fun x464=>(GS 16 x161 ([x464]:List Bts)).bind fun _=>Hb x166 self1 (x161++([x464]:List Bts))) else (Hb x166 self1 x161))
def FB(a0:Bts)(self1:(List Bts)→Int→Int→Option ((List Bts)))(x161:(List Bts))(x165 x166:Int):Option ((List Bts)):=
 bif (decide (x166≤(a0.length:Int))) then (bif (decide (x166< (a0.length:Int))) then ((idx a0 x166).bind fun x490=>GY a0 x161 x165 x166 self1 (((x490).toNat:Int) != (((32:UInt8)).toNat:Int))) else (GY a0 x161 x165 x166 self1 false)) else (some x161)
def EK(a0:Bts):Nat→(List Bts)→Int→Int→Option ((List Bts))
 |0=>fun _ _ _=>none
 |k+1=>FB a0 (EK a0 k)
def GB(N:Nat)(a0:Bts):Option ((List Bts)):=
 EK a0 N ([]:List Bts) (0:Int) (0:Int)
def HN(a0:Nat)(x6:Bool):Option (Int×Bool):=
 bif x6 then (some ((0:Int),false)) else ((f2i .i64 a0).bind fun x11=>some (x11,(feq (FloatKind.f64.nearest x11) a0)))
def Hy(a0:Nat):Option (Int×Bool):=
 bif (fge a0 (13938640846711685120:Nat)) then (bif (!(fle a0 (4715268809856909312:Nat))) then (HN a0 true) else (bif (feq a0 (0:Nat)) then (HN a0 (((a0:Nat):Int) != (0:Int))) else (HN a0 false))) else (bif (!false) then (HN a0 true) else (bif (feq a0 (0:Nat)) then (HN a0 (((a0:Nat):Int) != (0:Int))) else (HN a0 false)))
def Mx(x7:(Int×Bool))(x12:(Int×Bool))(x18:Bool):Option (Aj×Bool):=
 bif x18 then (some ((Aj.mk (0:Int) (0:Int)),false)) else (some ((Aj.mk x7.1 x12.1),true))
def Ec(a0:(Nat×Nat)):Option (Aj×Bool):=
 (Hy a0.1).bind fun x7=>(Hy a0.2).bind fun x12=>bif (!x7.2) then (Mx x7 x12 true) else (Mx x7 x12 (!x12.2))
def Hc(x106:Int)(self1:(Bool→Int→Option (Bool)))(x222:Bool):Option (Bool):=
 self1 x222 (i64.wrap (x106+(1:Int)))
def JT(x262:Bool):Option (Bool):=
 some x262
def JU(x277:Bool):Option (Bool):=
 some x277
def JV(x289:Bool):Option (Bool):=
 some x289
def FC(a0:AH)(self1:Bool→Int→Option (Bool))(x105:Bool)(x106:Int):Option (Bool):=
 bif (decide (x106< (a0.list.length:Int))) then ((idx a0.list x106).bind fun x226=>(Ec x226).bind fun x238=>bif x105 then (Hc x106 self1 x238.2) else (Hc x106 self1 false)) else (bif (a0.type_==(1:Int)) then (bif x105 then (bif (!a0.bool) then (JT ((a0.list.length:Int)==(0:Int))) else (JT false)) else (JT false)) else (bif (a0.type_==(2:Int)) then (bif x105 then (bif (ceq a0.num ((0,0):Nat×Nat)) then (JU ((a0.list.length:Int)==(0:Int))) else (JU false)) else (JU false)) else (bif (a0.type_==(3:Int)) then (bif x105 then (bif (ceq a0.num ((0,0):Nat×Nat)) then (JV (!a0.bool)) else (JV false)) else (JV false)) else (some false))))
def Ep(a0:AH):Nat→Bool→Int→Option (Bool)
 |0=>fun _ _=>none
 |k+1=>FC a0 (Ep a0 k)
def B4(N:Nat)(a0:AH):Option (Bool):=
 (Ec a0.num).bind fun x13=>Ep a0 N x13.2 (0:Int)
def EF(N:Nat)(a0:(Nat×Nat)):Option (Bts):=
 (Ec a0).bind fun x1=>(F2 N x1.1).bind fun x18=>some x18
def HO(N:Nat)(a0:AH)(x133:Int)(self1:(Bts→Int→Option (Bts×Int)))(x271:Bts):Option (Bts×Int):=
 (idx a0.list x133).bind fun x281=>(EF N x281).bind fun x294=>(GS 1 x271 x294).bind fun _=>self1 (x271++x294) (i64.wrap (x133+(1:Int)))
def Fk(N:Nat)(a0:AH)(self1:Bts→Int→Option (Bts×Int))(x129:Bts)(x133:Int):Option (Bts×Int):=
 bif (decide (x133< (a0.list.length:Int))) then (bif (decide (x133>(0:Int))) then ((GS 1 x129 ([(32:UInt8)]:List UInt8)).bind fun _=>HO N a0 x133 self1 (x129++([(32:UInt8)]:List UInt8))) else (HO N a0 x133 self1 x129)) else ((Pc ([91]:List UInt8) x129).bind fun x338=>(Pc x338 ([93]:List UInt8)).bind fun x340=>some (x340,(0:Int)))
def FD(N:Nat)(a0:AH):Nat→Bts→Int→Option (Bts×Int)
 |0=>fun _ _=>none
 |k+1=>Fk N a0 (FD N a0 k)
def GZ(N:Nat)(a0:AH):Option (Bts×Int):=
 (B4 N a0).bind fun x14=>bif (!x14) then (some (([]:List UInt8),(3:Int))) else (bif (a0.type_==(1:Int)) then ((EF N a0.num).bind fun x22=>some (x22,(0:Int))) else (bif (a0.type_==(2:Int)) then (bif a0.bool then (some (([116,114,117,101]:List UInt8),(0:Int))) else (some (([102,97,108,115,101]:List UInt8),(0:Int)))) else (FD N a0 N ([]:List UInt8) (0:Int))))
def FE(N:Nat)(a0:Bts)(x74:((List Bts)))(self1:Int→Int→Int→(List (Nat×Nat))→Option (AH×Int))(x192 _x193 _x194:Int)(x195:(List (Nat×Nat))):Option (AH×Int):=
 bif (decide (x192< (x74.length:Int))) then ((idx x74 x192).bind fun x328=>(EX N x328).bind fun x340=>bif (x340.2 != (0:Int)) then (some ((AH.mk (0:Int) ((0,0):Nat×Nat) false []),(11:Int))) else ((F7 x340.1).bind fun x389=>(GS 16 x195 ([x389]:List (Nat×Nat))).bind fun _=>self1 (i64.wrap (x192+(1:Int))) x340.1.re x340.1.im (x195++([x389]:List (Nat×Nat))))) else ((GZ N (AH.mk (3:Int) ((0,0):Nat×Nat) false x195)).bind fun x428=>bif (!(x428.1==a0)) then (some ((AH.mk (0:Int) ((0,0):Nat×Nat) false []),(11:Int))) else (some ((AH.mk (3:Int) ((0,0):Nat×Nat) false x195),(0:Int))))
def Er(N:Nat)(a0:Bts)(x74:((List Bts))):Nat→Int→Int→Int→(List (Nat×Nat))→Option (AH×Int)
 |0=>fun _ _ _ _=>none
 |k+1=>FE N a0 x74 (Er N a0 x74 k)
def Fm(N:Nat)(a0:Bts)(x18:(Aj×Int))(x52:Bool):Option (AH×Int):=
 bif x52 then (some ((AH.mk (0:Int) ((0,0):Nat×Nat) false []),(11:Int))) else ((sub a0 (1:Int) (i64.wrap ((a0.length:Int) - (1:Int)))).bind fun x72=>(GB N x72).bind fun x74=>Er N a0 x74 N (0:Int) x18.1.re x18.1.im ([]:List (Nat×Nat)))
def Ga(N:Nat)(a0:Bts)(x8:Bool):Option (AH×Int):=
 bif x8 then (some ((AH.mk (2:Int) ((0,0):Nat×Nat) (a0==([116,114,117,101]:List UInt8)) []),(0:Int))) else ((EX N a0).bind fun x18=>bif (x18.2==(0:Int)) then ((F7 x18.1).bind fun x36=>some ((AH.mk (1:Int) x36 false []),(0:Int))) else (bif (decide ((a0.length:Int)< (2:Int))) then (Fm N a0 x18 true) else ((idx a0 (0:Int)).bind fun x457=>bif (((x457).toNat:Int) != (((91:UInt8)).toNat:Int)) then (Fm N a0 x18 true) else ((idx a0 (i64.wrap ((a0.length:Int) - (1:Int)))).bind fun x460=>Fm N a0 x18 (((x460).toNat:Int) != (((93:UInt8)).toNat:Int))))))
def Fe(N:Nat)(a0:Bts):Option (AH×Int):=
 bif (a0==([116,114,117,101]:List UInt8)) then (Ga N a0 true) else (Ga N a0 (a0==([102,97,108,115,101]:List UInt8)))
def Hd(x340:Int)(self4:(Int→Bool→Option ((List AH)×Int)))(x386:Bool):Option ((List AH)×Int):=
 self4 (i64.wrap (x340+(1:Int))) x386
def EM(N:Nat)(a0:Bts)(x148:(List AH))(x152:Int)(self3:((List AH)→Int→Option ((List AH)×Int)))(x340:Int)(x341:Bool)(self4:(Int→Bool→Option ((List AH)×Int)))(x378:Bool):Option ((List AH)×Int):=
 bif x378 then ((idx a0 x340).bind fun x390=>bif (((x390).toNat:Int)==(((93:UInt8)).toNat:Int)) then (Hd x340 self4 false) else (Hd x340 self4 x341)) else ((sub a0 x152 x340).bind fun x393=>(Fe N x393).bind fun x395=>bif (x395.2 != (0:Int)) then (some ([],(11:Int))) else ((GS 56 x148 ([x395.1]:List AH)).bind fun _=>self3 (x148++([x395.1]:List AH)) x340))
def FF(N:Nat)(a0:Bts)(x148:(List AH))(x152:Int)(self3:((List AH)→Int→Option ((List AH)×Int)))(self4:Int→Bool→Option ((List AH)×Int))(x340:Int)(x341:Bool):Option ((List AH)×Int):=
 bif (decide (x340< (a0.length:Int))) then (bif x341 then (EM N a0 x148 x152 self3 x340 x341 self4 true) else ((idx a0 x340).bind fun x445=>EM N a0 x148 x152 self3 x340 x341 self4 (((x445).toNat:Int) != (((32:UInt8)).toNat:Int)))) else (EM N a0 x148 x152 self3 x340 x341 self4 false)
def D6(N:Nat)(a0:Bts)(x148:(List AH))(x152:Int)(self3:((List AH)→Int→Option ((List AH)×Int))):Nat→Int→Bool→Option ((List AH)×Int)
 |0=>fun _ _=>none
 |k+1=>FF N a0 x148 x152 self3 (D6 N a0 x148 x152 self3 k)
def FG(N:Nat)(a0:Bts)(self3:(List AH)→Int→Option ((List AH)×Int))(x148:(List AH))(x152:Int):Option ((List AH)×Int):=
 bif (decide (x152< (a0.length:Int))) then ((idx a0 x152).bind fun x309=>bif (((x309).toNat:Int)==(((32:UInt8)).toNat:Int)) then (self3 x148 (i64.wrap (x152+(1:Int)))) else ((idx a0 x152).bind fun x312=>D6 N a0 x148 x152 self3 N x152 (((x312).toNat:Int)==(((91:UInt8)).toNat:Int)))) else (some (x148,(0:Int)))
def CQ(N:Nat)(a0:Bts):Nat→(List AH)→Int→Option ((List AH)×Int)
 |0=>fun _ _=>none
 |k+1=>FG N a0 (CQ N a0 k)
def GC(N:Nat)(a0:Bts):Option ((List AH)×Int):=
 CQ N a0 N ([]:List AH) (0:Int)
def I2(x551:(List AH))(x555:Bool)(x556:(List AE)):Option (AL×(List AH)×Bool):=
 some ((AL.mk x556),x551,x555)
def Gb(N:Nat)(a0:D5)(x509:(List AE))(x513:Int):Option (AL×(List AH)×Bool):=
 (GC N a0.args).bind fun x525=>bif (x513==(0:Int)) then (I2 x525.1 (x525.2==(0:Int)) x509) else (I2 x525.1 false x509)
def B5(N:Nat)(a0:D5):Option (AL×(List AH)×Bool):=
 (Ju).bind fun x634=>(Fc N a0.text x634).bind fun x642=>Gb N a0 x642.1.funcs x642.2.why
def JW(a0 a1:Int)(ao0:AF)(x3:Bool):Option (AF):=
 bif x3 then (some (AF.mk a0 a1)) else (some ao0)
def Dr(a0 a1:Int)(ao0:AF):Option (AF):=
 bif (ao0.why==(0:Int)) then (JW a0 a1 ao0 true) else (JW a0 a1 ao0 (decide (a1<ao0.at_)))
def HD(a0:AB)(ao4:AF)(x102:Bool):Option (AF):=
 bif x102 then ((Dr (33:Int) a0.at_ ao4).bind fun x110=>some x110) else (some ao4)
def GD(a0:AB)(ao2:Ao)(ao4:AF)(ao5:AL)(x48:Bool):Option (AF):=
 bif x48 then ((Dr (32:Int) a0.at_ ao4).bind fun x56=>some x56) else (bif (a0.op==(7:Int)) then ((idx ao5.funcs (i64.wrap ((Ck ao2 a0.name) - (1:Int)))).bind fun x125=>HD a0 ao4 ((x125.params.length:Int) != (a0.args.length:Int))) else (HD a0 ao4 false))
def HE(a0:AB)(ao2:Ao)(ao4:AF)(ao5:AL)(x29:Bool):Option (AF):=
 bif x29 then ((Dr (31:Int) a0.at_ ao4).bind fun x37=>some x37) else (bif (a0.op==(7:Int)) then (GD a0 ao2 ao4 ao5 ((Ck ao2 a0.name)==(0:Int))) else (GD a0 ao2 ao4 ao5 false))
def Fn(a0:AB)(ao0 ao2:Ao)(ao4:AF)(ao5:AL):Option (AF):=
 bif (a0.op==(6:Int)) then (HE a0 ao2 ao4 ao5 ((Ck ao0 a0.name)==(0:Int))) else (HE a0 ao2 ao4 ao5 false)
def KM(a0:AB)(x37:Bool):Option ((List Bts)):=
 bif x37 then (some ([a0.name,a0.tail]:List Bts)) else (some [])
def JX(a0:AB)(a1:Int)(x15:Bool):Option ((List Bts)):=
 bif x15 then (some ([a0.name]:List Bts)) else (bif (a0.op==(20:Int)) then (KM a0 (a1==(2:Int))) else (KM a0 false))
def He(a0:AB)(a1:Int):Option ((List Bts)):=
 bif (a0.op==(21:Int)) then (JX a0 a1 (a0.op==(21:Int))) else (bif (a0.op==(22:Int)) then (JX a0 a1 (a1==(1:Int))) else (JX a0 a1 false))
structure Ax where
 scope_walk:AB→Ao→Ao→AF→AL→Option (Ao×AF)
def IY(x275:Int)(self5:(Int→Ao→Int→Int→Option (Ao×AF)))(x552:((List Bts)))(x649:(Ao×AF))(self7:Int→Ao→Option (Ao×AF))(x688:Int)(x689:Ao):Option (Ao×AF):=
 bif (decide (x688< (x552.length:Int))) then ((idx x552 x688).bind fun x722=>self7 (i64.wrap (x688+(1:Int))) (Lm x722 (i64.wrap ((Ck x689 x722) - (1:Int))) x689)) else (self5 (i64.wrap (x275+(1:Int))) x689 x649.2.why x649.2.at_)
def II(x275:Int)(self5:(Int→Ao→Int→Int→Option (Ao×AF)))(x552:((List Bts)))(x649:(Ao×AF)):Nat→Int→Ao→Option (Ao×AF)
 |0=>fun _ _=>none
 |k+1=>IY x275 self5 x552 x649 (II x275 self5 x552 x649 k)
def IZ(φ:Ax)(N:Nat)(ao2:Ao)(ao5:AL)(x275 x277 x278:Int)(self5:(Int→Ao→Int→Int→Option (Ao×AF)))(x520:AB)(x552:((List Bts)))(self6:Int→Ao→Option (Ao×AF))(x590:Int)(x591:Ao):Option (Ao×AF):=
 bif (decide (x590< (x552.length:Int))) then ((idx x552 x590).bind fun x624=>self6 (i64.wrap (x590+(1:Int))) (Lm x624 (i64.wrap ((Ck x591 x624)+(1:Int))) x591)) else ((φ.scope_walk x520 x591 ao2 (AF.mk x277 x278) ao5).bind fun x649=>II x275 self5 x552 x649 N (0:Int) x649.1)
def IJ(φ:Ax)(N:Nat)(ao2:Ao)(ao5:AL)(x275 x277 x278:Int)(self5:(Int→Ao→Int→Int→Option (Ao×AF)))(x520:AB)(x552:((List Bts))):Nat→Int→Ao→Option (Ao×AF)
 |0=>fun _ _=>none
 |k+1=>IZ φ N ao2 ao5 x275 x277 x278 self5 x520 x552 (IJ φ N ao2 ao5 x275 x277 x278 self5 x520 x552 k)
def Ia(φ:Ax)(N:Nat)(a0:AB)(ao2:Ao)(ao5:AL)(self5:Int→Ao→Int→Int→Option (Ao×AF))(x275:Int)(x276:Ao)(x277 x278:Int):Option (Ao×AF):=
 bif (decide (x275< (a0.args.length:Int))) then ((idx a0.args x275).bind fun x520=>(He a0 x275).bind fun x552=>IJ φ N ao2 ao5 x275 x277 x278 self5 x520 x552 N (0:Int) x276) else (some (x276,(AF.mk x277 x278)))
def Cc(φ:Ax)(N:Nat)(a0:AB)(ao2:Ao)(ao5:AL):Nat→Int→Ao→Int→Int→Option (Ao×AF)
 |0=>fun _ _ _ _=>none
 |k+1=>Ia φ N a0 ao2 ao5 (Cc φ N a0 ao2 ao5 k)
def Kh(φ:Ax)(N:Nat)(a0:AB)(ao0 ao2:Ao)(ao4:AF)(ao5:AL):Option (Ao×AF):=
 (Fn a0 ao0 ao2 ao4 ao5).bind fun x33=>Cc φ N a0 ao2 ao5 N (0:Int) ao0 x33.why x33.at_
def Ax.at:Nat→Ax
 |0=>⟨fun _ _ _ _ _=>none⟩
 |n+1=>⟨Kh (Ax.at n) n⟩
def scope_walk(N:Nat):AB→Ao→Ao→AF→AL→Option (Ao×AF):=(Ax.at N).scope_walk
def JY(x186:Int)(self1:(Int→Int→Int→Ao→Option (AF)))(x388 x389:Int)(x390:Ao):Option (AF):=
 self1 (i64.wrap (x186+(1:Int))) x388 x389 x390
def JZ(x1185:Int)(x1188:Ao)(self5:(Int→Int→Int→Ao→Option (AF)))(x1273:AK)(x1309 x1310:Int):Option (AF):=
 self5 (i64.wrap (x1185+(1:Int))) x1309 x1310 (Lm x1273.name (i64.wrap ((Ck x1188 x1273.name)+(1:Int))) x1188)
def Fw(N:Nat)(a0:AL)(x189:Ao)(x757:Int)(self4:(Int→Int→Int→Option (AF)))(x1066:AE)(self5:Int→Int→Int→Ao→Option (AF))(x1185 x1186 x1187:Int)(x1188:Ao):Option (AF):=
 bif (decide (x1185< (x1066.params.length:Int))) then ((idx x1066.params x1185).bind fun x1273=>bif (decide ((Ck x1188 x1273.name)>(0:Int))) then ((Dr (30:Int) x1273.at_ (AF.mk x1186 x1187)).bind fun x1327=>JZ x1185 x1188 self5 x1273 x1327.why x1327.at_) else (JZ x1185 x1188 self5 x1273 x1186 x1187)) else ((scope_walk N (AB.mk x1066.body.op x1066.body.name x1066.body.tail x1066.body.type_ x1066.body.num x1066.body.args x1066.body.at_) x1188 x189 (AF.mk x1186 x1187) a0).bind fun x1344=>self4 (i64.wrap (x757+(1:Int))) x1344.2.why x1344.2.at_)
def Fo(N:Nat)(a0:AL)(x189:Ao)(x757:Int)(self4:(Int→Int→Int→Option (AF)))(x1066:AE):Nat→Int→Int→Int→Ao→Option (AF)
 |0=>fun _ _ _ _=>none
 |k+1=>Fw N a0 x189 x757 self4 x1066 (Fo N a0 x189 x757 self4 x1066 k)
def Hz(N:Nat)(a0:AL)(x189:Ao)(self4:Int→Int→Int→Option (AF))(x757 x758 x759:Int):Option (AF):=
 bif (decide (x757< (a0.funcs.length:Int))) then ((idx a0.funcs x757).bind fun x1066=>Fo N a0 x189 x757 self4 x1066 N (0:Int) x758 x759 ([]:Ao)) else (some (AF.mk x758 x759))
def Cz(N:Nat)(a0:AL)(x189:Ao):Nat→Int→Int→Int→Option (AF)
 |0=>fun _ _ _=>none
 |k+1=>Hz N a0 x189 (Cz N a0 x189 k)
def H0(N:Nat)(a0:AL)(self1:Int→Int→Int→Ao→Option (AF))(x186 x187 x188:Int)(x189:Ao):Option (AF):=
 bif (decide (x186< (a0.funcs.length:Int))) then ((idx a0.funcs x186).bind fun x398=>bif (decide ((Ck x189 x398.name)>(0:Int))) then ((Dr (30:Int) x398.at_ (AF.mk x187 x188)).bind fun x440=>JY x186 self1 x440.why x440.at_ x189) else (JY x186 self1 x187 x188 (Lm x398.name (i64.wrap (x186+(1:Int))) x189))) else (Cz N a0 x189 N (0:Int) x187 x188)
def Hf(N:Nat)(a0:AL):Nat→Int→Int→Int→Ao→Option (AF)
 |0=>fun _ _ _ _=>none
 |k+1=>H0 N a0 (Hf N a0 k)
def IK(N:Nat)(a0:AL):Option (AF):=
 Hf N a0 N (0:Int) (0:Int) (0:Int) ([]:Ao)
def Ib(a0:AL)(self1:Int→Ao→Option (Ao×(List AE)×(List AK)×Ao))(x72:Int)(x73:Ao):Option (Ao×(List AE)×(List AK)×Ao):=
 bif (decide (x72≥(0:Int))) then ((idx a0.funcs x72).bind fun x127=>self1 (i64.wrap (x72 - (1:Int))) (Lm x127.name (i64.wrap (x72+(1:Int))) x73)) else (some (x73,a0.funcs,[],x73))
def IL(a0:AL):Nat→Int→Ao→Option (Ao×(List AE)×(List AK)×Ao)
 |0=>fun _ _=>none
 |k+1=>Ib a0 (IL a0 k)
def KN(N:Nat)(a0:AL)(_ao0:AF):Option (Ao×(List AE)×(List AK)×Ao):=
 IL a0 N (i64.wrap ((a0.funcs.length:Int) - (1:Int))) ([]:Ao)
def Ja(a0:Int)(ao0:AF)(x3:Bool):Option (AF):=
 bif x3 then (some (AF.mk (34:Int) a0)) else (some ao0)
def Fp(a0:Int)(ao0:AF):Option (AF):=
 bif (ao0.why==(0:Int)) then (Ja a0 ao0 true) else (Ja a0 ao0 (decide (a0<ao0.at_)))
structure AG where
 types_checker_want:(List AE)→(List AK)→Ao→AF→AB→Int→Option ((List AE)×(List AK)×AF)
 types_checker_all:(List AE)→(List AK)→Ao→AF→Int→(List AB)→Option ((List AE)×(List AK)×AF)
 types_checker_in:(List AE)→(List AK)→Ao→AF→AB→Int→(List AK)→Option ((List AE)×(List AK)×AF)
 types_checker_in_2:(List AE)→(List AK)→Ao→AF→AB→Int→(List AK)→Option ((List AE)×(List AK)×AF)
 types_checker_in_3:(List AE)→(List AK)→Ao→AF→AB→Int→(List AK)→Option ((List AE)×(List AK)×AF)
 types_checker_own:(List AE)→(List AK)→Ao→AF→AB→Option (Int×(List AE)×(List AK)×AF)
 types_checker_want_1:(List AE)→(List AK)→Ao→AF→AB→Int→Option ((List AE)×(List AK)×AF)
 types_checker_want_2:(List AE)→(List AK)→Ao→AF→AB→Int→Option ((List AE)×(List AK)×AF)
 types_checker_want_3:(List AE)→(List AK)→Ao→AF→AB→Int→Option ((List AE)×(List AK)×AF)
 types_checker_call:(List AE)→(List AK)→Ao→AF→AB→Option (Int×(List AE)×(List AK)×AF)
def CR(a1:AB)(a2 x1084:Int)(x1085:(List AE))(x1089:(List AK))(x1093 x1094:Int):Option ((List AE)×(List AK)×AF):=
 bif (x1084 != a2) then ((Fp a1.at_ (AF.mk x1093 x1094)).bind fun x1128=>some (x1085,x1089,x1128)) else (some (x1085,x1089,(AF.mk x1093 x1094)))
def GE(φ:AG)(_N:Nat)(ao0_1:(List AE))(ao0_2:(List AK))(ao1:Ao)(ao2:AF)(a1:AB)(a2:Int):Option ((List AE)×(List AK)×AF):=
 bif (a1.op==(19:Int)) then ((idx a1.args (0:Int)).bind fun x1269=>(φ.types_checker_want ao0_1 ao0_2 ao1 ao2 x1269 (2:Int)).bind fun x1293=>(sub a1.args (1:Int) (a1.args.length:Int)).bind fun x1441=>(φ.types_checker_all x1293.1 x1293.2.1 ao1 x1293.2.2 a2 x1441).bind fun x1463=>CR a1 a2 a2 x1463.1 x1463.2.1 x1463.2.2.why x1463.2.2.at_) else (bif (a1.op==(20:Int)) then ((idx a1.args (0:Int)).bind fun x1614=>(φ.types_checker_want ao0_1 ao0_2 ao1 ao2 x1614 (3:Int)).bind fun x1638=>(idx a1.args (1:Int)).bind fun x1791=>(φ.types_checker_want x1638.1 x1638.2.1 ao1 x1638.2.2 x1791 a2).bind fun x1816=>(φ.types_checker_in x1816.1 x1816.2.1 ao1 x1816.2.2 a1 a2 ([(AK.mk a1.name (1:Int) (0:Int)),(AK.mk a1.tail (3:Int) (0:Int))]:List AK)).bind fun x1864=>CR a1 a2 a2 x1864.1 x1864.2.1 x1864.2.2.why x1864.2.2.at_) else (bif (a1.op==(21:Int)) then ((φ.types_checker_in_2 ao0_1 ao0_2 ao1 ao2 a1 a2 ([(AK.mk a1.name a1.type_ (0:Int))]:List AK)).bind fun x1912=>CR a1 a2 a2 x1912.1 x1912.2.1 x1912.2.2.why x1912.2.2.at_) else (bif (a1.op==(22:Int)) then ((idx a1.args (0:Int)).bind fun x2063=>(φ.types_checker_want ao0_1 ao0_2 ao1 ao2 x2063 a1.type_).bind fun x2087=>(φ.types_checker_in_3 x2087.1 x2087.2.1 ao1 x2087.2.2 a1 a2 ([(AK.mk a1.name a1.type_ (0:Int))]:List AK)).bind fun x2135=>CR a1 a2 a2 x2135.1 x2135.2.1 x2135.2.2.why x2135.2.2.at_) else ((φ.types_checker_own ao0_1 ao0_2 ao1 ao2 a1).bind fun x2165=>CR a1 a2 x2165.1 x2165.2.1 x2165.2.2.1 x2165.2.2.2.why x2165.2.2.2.at_))))
def EY(φ:AG)(ao1:Ao)(a1:Int)(a2:(List AB))(self1:Int→(List AE)→(List AK)→Int→Int→Option ((List AE)×(List AK)×AF))(x93:Int)(x94:(List AE))(x98:(List AK))(x102 x103:Int):Option ((List AE)×(List AK)×AF):=
 bif (decide (x93< (a2.length:Int))) then ((idx a2 x93).bind fun x199=>(φ.types_checker_want x94 x98 ao1 (AF.mk x102 x103) x199 a1).bind fun x235=>self1 (i64.wrap (x93+(1:Int))) x235.1 x235.2.1 x235.2.2.why x235.2.2.at_) else (some (x94,x98,(AF.mk x102 x103)))
def Dm(φ:AG)(ao1:Ao)(a1:Int)(a2:(List AB)):Nat→Int→(List AE)→(List AK)→Int→Int→Option ((List AE)×(List AK)×AF)
 |0=>fun _ _ _ _ _=>none
 |k+1=>EY φ ao1 a1 a2 (Dm φ ao1 a1 a2 k)
def JQ(φ:AG)(N:Nat)(ao0_1:(List AE))(ao0_2:(List AK))(ao1:Ao)(ao2:AF)(a1:Int)(a2:(List AB)):Option ((List AE)×(List AK)×AF):=
 Dm φ ao1 a1 a2 N (0:Int) ao0_1 ao0_2 ao2.why ao2.at_
def HF(φ:AG)(_N:Nat)(ao0_1:(List AE))(ao0_2:(List AK))(ao1:Ao)(ao2:AF)(ao4:AB)(ao5_0:Int)(a2:(List AK)):Option ((List AE)×(List AK)×AF):=
 (GS 32 ao0_2 a2).bind fun _=>(φ.types_checker_want_1 ao0_1 (ao0_2++a2) ao1 ao2 ao4 ao5_0).bind fun x52=>(sub x52.2.1 0 (ao0_2.length:Int)).bind fun x75=>some (x52.1,x75,x52.2.2)
def GG(φ:AG)(_N:Nat)(ao0_1:(List AE))(ao0_2:(List AK))(ao1:Ao)(ao2:AF)(ao4:AB)(ao5_0:Int)(a2:(List AK)):Option ((List AE)×(List AK)×AF):=
 (GS 32 ao0_2 a2).bind fun _=>(φ.types_checker_want_2 ao0_1 (ao0_2++a2) ao1 ao2 ao4 ao5_0).bind fun x52=>(sub x52.2.1 0 (ao0_2.length:Int)).bind fun x75=>some (x52.1,x75,x52.2.2)
def GH(φ:AG)(_N:Nat)(ao0_1:(List AE))(ao0_2:(List AK))(ao1:Ao)(ao2:AF)(ao4:AB)(ao5_0:Int)(a2:(List AK)):Option ((List AE)×(List AK)×AF):=
 (GS 32 ao0_2 a2).bind fun _=>(φ.types_checker_want_3 ao0_1 (ao0_2++a2) ao1 ao2 ao4 ao5_0).bind fun x52=>(sub x52.2.1 0 (ao0_2.length:Int)).bind fun x75=>some (x52.1,x75,x52.2.2)
def HA(ao0_1:(List AE))(ao0_2:(List AK))(ao2:AF)(a1:AB)(self1:Int→Option (Int×(List AE)×(List AK)×AF))(x86:Int):Option (Int×(List AE)×(List AK)×AF):=
 bif (decide (x86≥(0:Int))) then ((idx ao0_2 x86).bind fun x130=>bif (x130.name==a1.name) then ((idx ao0_2 x86).bind fun x145=>some (x145.type_,ao0_1,ao0_2,ao2)) else (self1 (i64.wrap (x86 - (1:Int))))) else (some ((0:Int),ao0_1,ao0_2,ao2))
def Et(ao0_1:(List AE))(ao0_2:(List AK))(ao2:AF)(a1:AB):Nat→Int→Option (Int×(List AE)×(List AK)×AF)
 |0=>fun _=>none
 |k+1=>HA ao0_1 ao0_2 ao2 a1 (Et ao0_1 ao0_2 ao2 a1 k)
def Hg(x325:((List AE)×(List AK)×AF))(x350:Bool):Option (Int×(List AE)×(List AK)×AF):=
 bif x350 then (some ((2:Int),x325.1,x325.2.1,x325.2.2)) else (some ((1:Int),x325.1,x325.2.1,x325.2.2))
def Ew(φ:AG)(N:Nat)(ao0_1:(List AE))(ao0_2:(List AK))(ao1:Ao)(ao2:AF)(a1:AB)(x25:Bool):Option (Int×(List AE)×(List AK)×AF):=
 bif x25 then (some ((2:Int),ao0_1,ao0_2,ao2)) else (bif (a1.op==(4:Int)) then (some ((3:Int),ao0_1,ao0_2,ao2)) else (bif (a1.op==(5:Int)) then (some (a1.type_,ao0_1,ao0_2,ao2)) else (bif (a1.op==(6:Int)) then (Et ao0_1 ao0_2 ao2 a1 N (i64.wrap ((ao0_2.length:Int) - (1:Int)))) else (bif (a1.op==(7:Int)) then ((φ.types_checker_call ao0_1 ao0_2 ao1 ao2 a1).bind fun x171=>some (x171.1,x171.2.1,x171.2.2.1,x171.2.2.2)) else (bif (a1.op==(14:Int)) then ((φ.types_checker_all ao0_1 ao0_2 ao1 ao2 (2:Int) a1.args).bind fun x202=>some ((2:Int),x202.1,x202.2.1,x202.2.2)) else (bif (a1.op==(18:Int)) then ((idx a1.args (0:Int)).bind fun x227=>(φ.types_checker_want ao0_1 ao0_2 ao1 ao2 x227 (1:Int)).bind fun x251=>(idx a1.args (1:Int)).bind fun x275=>(φ.types_checker_want x251.1 x251.2.1 ao1 x251.2.2 x275 (3:Int)).bind fun x295=>some ((3:Int),x295.1,x295.2.1,x295.2.2)) else ((φ.types_checker_all ao0_1 ao0_2 ao1 ao2 (1:Int) a1.args).bind fun x325=>bif (a1.op==(12:Int)) then (Hg x325 true) else (Hg x325 (a1.op==(13:Int))))))))))
def Gv(φ:AG)(N:Nat)(ao0_1:(List AE))(ao0_2:(List AK))(ao1:Ao)(ao2:AF)(a1:AB):Option (Int×(List AE)×(List AK)×AF):=
 bif (a1.op==(2:Int)) then (Ew φ N ao0_1 ao0_2 ao1 ao2 a1 (a1.op==(2:Int))) else (Ew φ N ao0_1 ao0_2 ao1 ao2 a1 (a1.op==(3:Int)))
def FJ(φ:AG)(_N:Nat)(ao1_1:(List AE))(ao1_2:(List AK))(ao2:Ao)(ao3:AF)(ao4:AB)(ao5_0:Int):Option ((List AE)×(List AK)×AF):=
 (idx ao4.args (2:Int)).bind fun x151=>(φ.types_checker_want ao1_1 ao1_2 ao2 ao3 x151 ao5_0).bind fun x176=>some (x176.1,x176.2.1,x176.2.2)
def FK(φ:AG)(_N:Nat)(ao1_1:(List AE))(ao1_2:(List AK))(ao2:Ao)(ao3:AF)(ao4:AB)(ao5_0:Int):Option ((List AE)×(List AK)×AF):=
 (idx ao4.args (0:Int)).bind fun x148=>(φ.types_checker_want ao1_1 ao1_2 ao2 ao3 x148 ao4.type_).bind fun x172=>(idx ao4.args (1:Int)).bind fun x325=>(φ.types_checker_want x172.1 x172.2.1 ao2 x172.2.2 x325 ao5_0).bind fun x350=>some (x350.1,x350.2.1,x350.2.2)
def FL(φ:AG)(_N:Nat)(ao1_1:(List AE))(ao1_2:(List AK))(ao2:Ao)(ao3:AF)(ao4:AB)(ao5_0:Int):Option ((List AE)×(List AK)×AF):=
 (idx ao4.args (1:Int)).bind fun x151=>(φ.types_checker_want ao1_1 ao1_2 ao2 ao3 x151 ao5_0).bind fun x176=>some (x176.1,x176.2.1,x176.2.2)
def EG(φ:AG)(ao1:Ao)(a1:AB)(x76:AE)(self1:Int→(List AE)→(List AK)→Int→Int→Option (Int×(List AE)×(List AK)×AF))(x316:Int)(x317:(List AE))(x321:(List AK))(x325 x326:Int):Option (Int×(List AE)×(List AK)×AF):=
 bif (decide (x316< (x76.params.length:Int))) then ((idx x76.params x316).bind fun x560=>(idx a1.args x316).bind fun x709=>(φ.types_checker_want x317 x321 ao1 (AF.mk x325 x326) x709 x560.type_).bind fun x734=>self1 (i64.wrap (x316+(1:Int))) x734.1 x734.2.1 x734.2.2.why x734.2.2.at_) else ((idx x317 (i64.wrap ((Ck ao1 a1.name) - (1:Int)))).bind fun x757=>some (x757.type_,x317,x321,(AF.mk x325 x326)))
def Dv(φ:AG)(ao1:Ao)(a1:AB)(x76:AE):Nat→Int→(List AE)→(List AK)→Int→Int→Option (Int×(List AE)×(List AK)×AF)
 |0=>fun _ _ _ _ _=>none
 |k+1=>EG φ ao1 a1 x76 (Dv φ ao1 a1 x76 k)
def Fg(φ:AG)(N:Nat)(ao0_1:(List AE))(ao0_2:(List AK))(ao1:Ao)(ao2:AF)(a1:AB)(x66:Bool):Option (Int×(List AE)×(List AK)×AF):=
 bif x66 then (some ((0:Int),ao0_1,ao0_2,ao2)) else ((idx ao0_1 (i64.wrap ((Ck ao1 a1.name) - (1:Int)))).bind fun x76=>Dv φ ao1 a1 x76 N (0:Int) ao0_1 ao0_2 ao2.why ao2.at_)
def GI(φ:AG)(N:Nat)(ao0_1:(List AE))(ao0_2:(List AK))(ao1:Ao)(ao2:AF)(a1:AB):Option (Int×(List AE)×(List AK)×AF):=
 bif ((Ck ao1 a1.name)==(0:Int)) then (Fg φ N ao0_1 ao0_2 ao1 ao2 a1 true) else ((idx ao0_1 (i64.wrap ((Ck ao1 a1.name) - (1:Int)))).bind fun x787=>Fg φ N ao0_1 ao0_2 ao1 ao2 a1 ((x787.params.length:Int) != (a1.args.length:Int)))
def AG.at:Nat→AG
 |0=>⟨fun _ _ _ _ _ _=>none,fun _ _ _ _ _ _=>none,fun _ _ _ _ _ _ _=>none,fun _ _ _ _ _ _ _=>none,fun _ _ _ _ _ _ _=>none,fun _ _ _ _ _=>none,fun _ _ _ _ _ _=>none,fun _ _ _ _ _ _=>none,fun _ _ _ _ _ _=>none,fun _ _ _ _ _=>none⟩
 |n+1=>⟨GE (AG.at n) n,JQ (AG.at n) n,HF (AG.at n) n,GG (AG.at n) n,GH (AG.at n) n,Gv (AG.at n) n,FJ (AG.at n) n,FK (AG.at n) n,FL (AG.at n) n,GI (AG.at n) n⟩
def types_checker_want(N:Nat):(List AE)→(List AK)→Ao→AF→AB→Int→Option ((List AE)×(List AK)×AF):=(AG.at N).types_checker_want
def types_checker_all(N:Nat):(List AE)→(List AK)→Ao→AF→Int→(List AB)→Option ((List AE)×(List AK)×AF):=(AG.at N).types_checker_all
def types_checker_in(N:Nat):(List AE)→(List AK)→Ao→AF→AB→Int→(List AK)→Option ((List AE)×(List AK)×AF):=(AG.at N).types_checker_in
def types_checker_in_2(N:Nat):(List AE)→(List AK)→Ao→AF→AB→Int→(List AK)→Option ((List AE)×(List AK)×AF):=(AG.at N).types_checker_in_2
def types_checker_in_3(N:Nat):(List AE)→(List AK)→Ao→AF→AB→Int→(List AK)→Option ((List AE)×(List AK)×AF):=(AG.at N).types_checker_in_3
def types_checker_own(N:Nat):(List AE)→(List AK)→Ao→AF→AB→Option (Int×(List AE)×(List AK)×AF):=(AG.at N).types_checker_own
def types_checker_want_1(N:Nat):(List AE)→(List AK)→Ao→AF→AB→Int→Option ((List AE)×(List AK)×AF):=(AG.at N).types_checker_want_1
def types_checker_want_2(N:Nat):(List AE)→(List AK)→Ao→AF→AB→Int→Option ((List AE)×(List AK)×AF):=(AG.at N).types_checker_want_2
def types_checker_want_3(N:Nat):(List AE)→(List AK)→Ao→AF→AB→Int→Option ((List AE)×(List AK)×AF):=(AG.at N).types_checker_want_3
def types_checker_call(N:Nat):(List AE)→(List AK)→Ao→AF→AB→Option (Int×(List AE)×(List AK)×AF):=(AG.at N).types_checker_call
def H1(N:Nat)(a0:AL)(x46:(Ao×(List AE)×(List AK)×Ao))(self1:Int→Int→Int→(List AE)→(List AK)→Option (AF))(x175 x176 x177:Int)(x178:(List AE))(_x182:(List AK)):Option (AF):=
 bif (decide (x175< (a0.funcs.length:Int))) then ((idx a0.funcs x175).bind fun x306=>(GS 32 ([]:List AK) x306.params).bind fun _=>(types_checker_want N x178 (([]:List AK)++x306.params) x46.2.2.2 (AF.mk x176 x177) (AB.mk x306.body.op x306.body.name x306.body.tail x306.body.type_ x306.body.num x306.body.args x306.body.at_) x306.type_).bind fun x367=>self1 (i64.wrap (x175+(1:Int))) x367.2.2.why x367.2.2.at_ x367.1 x367.2.1) else (some (AF.mk x176 x177))
def Hh(N:Nat)(a0:AL)(x46:(Ao×(List AE)×(List AK)×Ao)):Nat→Int→Int→Int→(List AE)→(List AK)→Option (AF)
 |0=>fun _ _ _ _ _=>none
 |k+1=>H1 N a0 x46 (Hh N a0 x46 k)
def Gz(N:Nat)(a0:AL):Option (AF):=
 (IK N a0).bind fun x21=>bif (x21.why != (0:Int)) then (some x21) else ((KN N a0 x21).bind fun x46=>Hh N a0 x46 N (0:Int) x21.why x21.at_ x46.2.1 x46.2.2.1)
def Ic(a0:Nat):Option (Nat):=
 (SS a0).bind fun x1=>some x1
def IE(a0:Nat):Option (Bool):=
 some (decide ((i64.wrap (((a0:Nat):Int)))< (0:Int)))
def Hi(x15:Bool):Option (Bool):=
 some x15
def G0(a0:Nat):Option (Bool):=
 bif (fge a0 (13938640846711685120:Nat)) then (bif (fle a0 (4715268809856909312:Nat)) then ((Ic a0).bind fun x21=>bif (feq a0 x21) then (bif (fne a0 (0:Nat)) then (Hi true) else ((IE a0).bind fun x28=>Hi (!x28))) else (Hi false)) else (Hi false)) else (Hi false)
def KO(x12:Bool):Option (Bool):=
 some x12
def Bz(a0:(Nat×Nat)):Option (Bool):=
 (G0 a0.1).bind fun x16=>bif x16 then ((G0 a0.2).bind fun x22=>KO x22) else (KO false)
def EN(x210:Bool):Option (Int):=
 bif (!x210) then (some (3:Int)) else (some (0:Int))
def KP(x308:Int)(self2:(Bool→Int→Option (Int)))(x381:Bool):Option (Int):=
 self2 x381 (i64.wrap (x308+(1:Int)))
def J1(a0:AH)(self2:Bool→Int→Option (Int))(x307:Bool)(x308:Int):Option (Int):=
 bif (decide (x308< (a0.list.length:Int))) then ((idx a0.list x308).bind fun x385=>bif x307 then ((Bz x385).bind fun x399=>KP x308 self2 x399) else (KP x308 self2 false)) else (EN x307)
def Id(a0:AH):Nat→Bool→Int→Option (Int)
 |0=>fun _ _=>none
 |k+1=>J1 a0 (Id a0 k)
def Jb(N:Nat)(a0:AH)(x250:Bool):Option (Int):=
 Id a0 N x250 (0:Int)
def DH(N:Nat)(a0:AH):Option (Int):=
 bif (a0.type_==(1:Int)) then ((Bz a0.num).bind fun x216=>bif x216 then (bif (!a0.bool) then (EN ((a0.list.length:Int)==(0:Int))) else (EN false)) else (EN false)) else (bif (a0.type_==(2:Int)) then ((Bz a0.num).bind fun x229=>bif x229 then (bif (ceq a0.num ((0,0):Nat×Nat)) then (EN ((a0.list.length:Int)==(0:Int))) else (EN false)) else (EN false)) else (bif (a0.type_==(3:Int)) then ((Bz a0.num).bind fun x404=>bif x404 then (bif (ceq a0.num ((0,0):Nat×Nat)) then (Jb N a0 (!a0.bool)) else (Jb N a0 false)) else (Jb N a0 false)) else (EN false)))
def IT(a0:Al):Option (Th):=
 some (Th.done (AH.mk a0.plain.type_ a0.plain.num a0.plain.bool a0.plain.list) a0.head a0.tail)
def KQ(a0:AH)(self1:Th→Int→Option (Th))(x75:Th)(x78:Int):Option (Th):=
 bif (decide (x78≥(0:Int))) then ((idx a0.list x78).bind fun x126=>(IT (Al.mk (AH.mk (1:Int) x126 false []) Th.nil Th.nil)).bind fun x139=>(IT (Al.mk (AH.mk (0:Int) ((0,0):Nat×Nat) false []) x139 x75)).bind fun x148=>self1 x148 (i64.wrap (x78 - (1:Int)))) else (some x75)
def JC(a0:AH):Nat→Th→Int→Option (Th)
 |0=>fun _ _=>none
 |k+1=>KQ a0 (JC a0 k)
def Ie(N:Nat)(a0:AH):Option (Th):=
 bif (a0.type_ != (3:Int)) then ((IT (Al.mk a0 Th.nil Th.nil)).bind fun x15=>some x15) else ((IT (Al.mk (AH.mk (3:Int) ((0,0):Nat×Nat) false []) Th.nil Th.nil)).bind fun x23=>JC a0 N x23 (i64.wrap ((a0.list.length:Int) - (1:Int))))
def Kn(a1:Bts)(self1:Nm→Option (Th))(x22:Nm):Option (Th):=
 (x22.view).bind fun x50=>bif (!(x50.1==a1)) then (self1 x50.2.2) else (some x50.2.1)
def EH(a1:Bts):Nat→Nm→Option (Th)
 |0=>fun _=>none
 |k+1=>Kn a1 (EH a1 k)
def Da(N:Nat)(a0:Nm)(a1:Bts):Option (Th):=
 EH a1 N a0
def I3(a1:Al):Option (Al):=
 some a1
def JD(a0:AB):Option (AB):=
 some a0
def Ly(x9:Bool):Option (Int×Int):=
 bif x9 then (some ((1:Int),(1:Int))) else (some ((0:Int),(0:Int)))
def Lz(a0:Int)(x2:Bool):Option (Int×Int):=
 bif x2 then (some ((2:Int),(1:Int))) else (bif (a0==(14:Int)) then (some ((1:Int),(2:Int))) else (bif (decide (a0≥(15:Int))) then (Ly (decide (a0≤(17:Int)))) else (Ly false)))
def H2(a0:Int):Option (Int×Int):=
 bif (decide (a0≥(8:Int))) then (Lz a0 (decide (a0≤(13:Int)))) else (Lz a0 false)
def Dw(a0:(Nat×Nat))(a1:Int):Option (AH×Int):=
 bif (a1 != (0:Int)) then (some ((AH.mk (0:Int) ((0,0):Nat×Nat) false []),a1)) else (some ((AH.mk (1:Int) a0 false []),(0:Int)))
def Ex(a0:(Nat×Nat)):Option ((Nat×Nat)×Int):=
 (FloatKind.f64.format.add a0.1 (0:Nat)).bind fun x1=>(FloatKind.f64.format.add a0.2 (0:Nat)).bind fun x3=>(Bz (x1,x3)).bind fun x5=>bif (!x5) then (some (((0,0):Nat×Nat),(50:Int))) else (some ((x1,x3),(0:Int)))
def H3(a0:(Nat×Nat)):Option ((Nat×Nat)×Int):=
 (Bz a0).bind fun x1=>bif (!x1) then (some (((0,0):Nat×Nat),(3:Int))) else ((Ex (a0.1,(Op.negFloat .f64 a0.2))).bind fun x7=>some (x7.1,x7.2))
def LN(a0:(Nat×Nat))(a1:(Nat×Nat))(x12:Bool):Option ((Nat×Nat)×Int):=
 bif x12 then (some (((0,0):Nat×Nat),(3:Int))) else ((cadd a0 a1).bind fun x17=>(Ex x17).bind fun x19=>some (x19.1,x19.2))
def Jc(a0:(Nat×Nat))(a1:(Nat×Nat)):Option ((Nat×Nat)×Int):=
 (Bz a0).bind fun x24=>bif (!x24) then (LN a0 a1 true) else ((Bz a1).bind fun x30=>LN a0 a1 (!x30))
def LO(a0:(Nat×Nat))(a1:(Nat×Nat))(x12:Bool):Option ((Nat×Nat)×Int):=
 bif x12 then (some (((0,0):Nat×Nat),(3:Int))) else ((csub a0 a1).bind fun x17=>(Ex x17).bind fun x19=>some (x19.1,x19.2))
def Jd(a0:(Nat×Nat))(a1:(Nat×Nat)):Option ((Nat×Nat)×Int):=
 (Bz a0).bind fun x24=>bif (!x24) then (LO a0 a1 true) else ((Bz a1).bind fun x30=>LO a0 a1 (!x30))
def LP(a0:(Nat×Nat))(a1:(Nat×Nat))(x12:Bool):Option ((Nat×Nat)×Int):=
 bif x12 then (some (((0,0):Nat×Nat),(3:Int))) else ((cmul a0 a1).bind fun x17=>(Ex x17).bind fun x19=>some (x19.1,x19.2))
def Je(a0:(Nat×Nat))(a1:(Nat×Nat)):Option ((Nat×Nat)×Int):=
 (Bz a0).bind fun x24=>bif (!x24) then (LP a0 a1 true) else ((Bz a1).bind fun x30=>LP a0 a1 (!x30))
def H9(a0:Nat):Option (Nat):=
 some (((Cm .u64 ((a0:Nat):Int) (9223372036854775808:Int))).toNat)
def KC(x8:Nat):Option (Bool):=
 some (fgt x8 (9218868437227405311:Nat))
def HG(a0:Nat)(a1:Int):Option (Bool):=
 bif (a1==(0:Int)) then ((H9 a0).bind fun x13=>KC x13) else (bif (decide (a1< (0:Int))) then (KC (Op.negFloat .f64 a0)) else (KC a0))
def Gc(a0:Nat):Option (Bool):=
 some (fne a0 a0)
def LQ:Option (Nat):=
 some (((9221120237041090561:Int)).toNat)
def EO(a0:Nat):Option (Nat×Int):=
 (H9 a0).bind fun x1=>bif (flt_ x1 (4503599627370496:Nat)) then ((FloatKind.f64.format.mul a0 (4841369599423283200:Nat)).bind fun x7=>some (x7,(-52:Int))) else (some (a0,(0:Int)))
def Kp(a0:Nat)(x13:Bool):Option (Nat×Int):=
 bif x13 then (some (a0,(0:Int))) else ((EO a0).bind fun x18=>(nn (52:Int)).bind fun _=>some (((Ln .u64 (Cm .u64 ((x18.1:Nat):Int) (9218868437227405312:Int)) (4602678819172646912:Int))).toNat,(i64.wrap (x18.2+(i64.wrap ((i64.wrap ((i64.wrap ((Ej .u64 (shr .u64 ((x18.1:Nat):Int) (52:Int)) (2047:Int)))) - (1023:Int)))+(1:Int)))))))
def JE(a0:Nat):Option (Nat×Int):=
 bif (feq a0 (0:Nat)) then (some (a0,(0:Int))) else ((HG a0 (0:Int)).bind fun x25=>bif x25 then (Kp a0 true) else ((Gc a0).bind fun x31=>Kp a0 x31))
def H4(a0:Nat):Option (Nat×Int):=
 (JE a0).bind fun x1=>some (x1.1,x1.2)
def HP(a0 a1:Nat):Option (Nat):=
 some (((Ln .u64 (Cm .u64 ((a0:Nat):Int) (9223372036854775808:Int)) (Ej .u64 ((a1:Nat):Int) (9223372036854775808:Int)))).toNat)
def My(x2:Int):Option (Nat):=
 some ((x2).toNat)
def Kq(a0:Int):Option (Nat):=
 bif (decide (a0≥(0:Int))) then (My (9218868437227405312:Int)) else (My (18442240474082181120:Int))
def Kr(x18:(Nat×Int))(x44:Int)(x45:Nat):Option (Nat):=
 (nn (52:Int)).bind fun _=>(FloatKind.f64.format.mul x45 (((Ln .u64 (Cm .u64 ((x18.1:Nat):Int) (9218868437227405312:Int)) (shl .u64 (IntKind.u64.wrap ((i64.wrap (x44+(1023:Int))))) (52:Int)))).toNat)).bind fun x51=>some x51
def Ks(a0:Nat)(a1:Int)(x13:Bool):Option (Nat):=
 bif x13 then (some a0) else ((EO a0).bind fun x18=>(nn (52:Int)).bind fun _=>bif (decide ((i64.wrap ((i64.wrap (a1+x18.2))+(i64.wrap ((Ej .i64 (i64.wrap ((shr .u64 ((x18.1:Nat):Int) (52:Int)))) (2047:Int)) - (1023:Int)))))< (-1075:Int))) then ((HP (0:Nat) x18.1).bind fun x26=>some x26) else (bif (decide ((i64.wrap ((i64.wrap (a1+x18.2))+(i64.wrap ((Ej .i64 (i64.wrap ((shr .u64 ((x18.1:Nat):Int) (52:Int)))) (2047:Int)) - (1023:Int)))))>(1023:Int))) then (bif (flt_ x18.1 (0:Nat)) then ((Kq (-1:Int)).bind fun x33=>some x33) else ((Kq (1:Int)).bind fun x38=>some x38)) else (bif (decide ((i64.wrap ((i64.wrap (a1+x18.2))+(i64.wrap ((Ej .i64 (i64.wrap ((shr .u64 ((x18.1:Nat):Int) (52:Int)))) (2047:Int)) - (1023:Int)))))< (-1022:Int))) then (Kr x18 (i64.wrap ((i64.wrap ((i64.wrap (a1+x18.2))+(i64.wrap ((Ej .i64 (i64.wrap ((shr .u64 ((x18.1:Nat):Int) (52:Int)))) (2047:Int)) - (1023:Int)))))+(53:Int))) (4368491638549381120:Nat)) else (Kr x18 (i64.wrap ((i64.wrap (a1+x18.2))+(i64.wrap ((Ej .i64 (i64.wrap ((shr .u64 ((x18.1:Nat):Int) (52:Int)))) (2047:Int)) - (1023:Int))))) (4607182418800017408:Nat)))))
def JF(a0:Nat)(a1:Int):Option (Nat):=
 bif (feq a0 (0:Nat)) then (some a0) else ((HG a0 (0:Int)).bind fun x54=>bif x54 then (Ks a0 a1 true) else ((Gc a0).bind fun x60=>Ks a0 a1 x60))
def If(a0:Nat)(a1:Int):Option (Nat):=
 (JF a0 a1).bind fun x1=>some x1
def KR(x29:Nat)(x34:(Nat×Int))(x67:Nat)(self1:(Nat→Option (Nat)))(x102:Int):Option (Nat):=
 (If x29 (i64.wrap (x102 - x34.2))).bind fun x106=>(FloatKind.f64.format.sub x67 x106).bind fun x111=>self1 x111
def Mz(x115:Nat):Option (Nat):=
 some x115
def LR(a0 x29:Nat)(x34:(Nat×Int))(self1:Nat→Option (Nat))(x67:Nat):Option (Nat):=
 bif (fge x67 x29) then ((H4 x67).bind fun x96=>bif (flt_ x96.1 x34.1) then (KR x29 x34 x67 self1 (i64.wrap (x96.2 - (1:Int)))) else (KR x29 x34 x67 self1 x96.2)) else (bif (flt_ a0 (0:Nat)) then (Mz (Op.negFloat .f64 x67)) else (Mz x67))
def Jr(a0 x29:Nat)(x34:(Nat×Int)):Nat→Nat→Option (Nat)
 |0=>fun _=>none
 |k+1=>LR a0 x29 x34 (Jr a0 x29 x34 k)
def LH(N a0 x29:Nat)(x34:(Nat×Int))(x40:Nat):Option (Nat):=
 Jr a0 x29 x34 N x40
def KS(N a0 a1:Nat)(x19:Bool):Option (Nat):=
 bif x19 then ((LQ).bind fun x24=>some x24) else ((H9 a1).bind fun x29=>(H4 x29).bind fun x34=>bif (flt_ a0 (0:Nat)) then (LH N a0 x29 x34 (Op.negFloat .f64 a0)) else (LH N a0 x29 x34 a0))
def Kt(N a0 a1:Nat):Option (Nat):=
 bif (feq a1 (0:Nat)) then (KS N a0 a1 true) else ((HG a0 (0:Int)).bind fun x122=>bif x122 then (KS N a0 a1 true) else ((Gc a0).bind fun x128=>bif x128 then (KS N a0 a1 true) else ((Gc a1).bind fun x134=>KS N a0 a1 x134)))
def J2(N a0 a1:Nat):Option (Nat):=
 (Kt N a0 a1).bind fun x1=>some x1
def LT(x18:(Nat×Nat))(x20:(Nat×Nat))(x33:Bool):Option ((Nat×Nat)×Int):=
 bif x33 then (some (((0,0):Nat×Nat),(51:Int))) else ((FloatKind.f64.format.div x18.1 x20.1).bind fun x38=>(FloatKind.f64.format.div x18.2 x20.1).bind fun x40=>(Ex (x38,x40)).bind fun x42=>some (x42.1,x42.2))
def LU(N:Nat)(a0:(Nat×Nat))(a1:(Nat×Nat))(x12:Bool):Option ((Nat×Nat)×Int):=
 bif x12 then (some (((0,0):Nat×Nat),(3:Int))) else (bif (ceq a1 ((0,0):Nat×Nat)) then (some (((0,0):Nat×Nat),(51:Int))) else ((cmul a0 (a1.1,(Op.negFloat .f64 a1.2))).bind fun x18=>(cmul a1 (a1.1,(Op.negFloat .f64 a1.2))).bind fun x20=>(J2 N x18.1 x20.1).bind fun x47=>bif (fne x47 (0:Nat)) then (LT x18 x20 true) else ((J2 N x18.2 x20.1).bind fun x53=>LT x18 x20 (fne x53 (0:Nat)))))
def Jf(N:Nat)(a0:(Nat×Nat))(a1:(Nat×Nat)):Option ((Nat×Nat)×Int):=
 (Bz a0).bind fun x58=>bif (!x58) then (LU N a0 a1 true) else ((Bz a1).bind fun x64=>LU N a0 a1 (!x64))
def Ku(a0:(Nat×Nat))(a1:(Nat×Nat))(x12:Bool):Option (Bool×Int):=
 bif x12 then (some (false,(3:Int))) else (bif (fne a0.1 a1.1) then (some ((flt_ a0.1 a1.1),(0:Int))) else (some ((flt_ a0.2 a1.2),(0:Int))))
def Ig(a0:(Nat×Nat))(a1:(Nat×Nat)):Option (Bool×Int):=
 (Bz a0).bind fun x18=>bif (!x18) then (Ku a0 a1 true) else ((Bz a1).bind fun x24=>Ku a0 a1 (!x24))
def J3(N:Nat)(a0:Int)(a1:(Nat×Nat))(a2:(Nat×Nat)):Option (AH×Int):=
 bif (a0==(8:Int)) then ((Jc a1 a2).bind fun x8=>(Dw x8.1 x8.2).bind fun x13=>some (x13.1,x13.2)) else (bif (a0==(9:Int)) then ((Jd a1 a2).bind fun x33=>(Dw x33.1 x33.2).bind fun x38=>some (x38.1,x38.2)) else (bif (a0==(10:Int)) then ((Je a1 a2).bind fun x58=>(Dw x58.1 x58.2).bind fun x63=>some (x63.1,x63.2)) else (bif (a0==(11:Int)) then ((Jf N a1 a2).bind fun x83=>(Dw x83.1 x83.2).bind fun x88=>some (x88.1,x88.2)) else (bif (a0==(12:Int)) then (some ((AH.mk (2:Int) ((0,0):Nat×Nat) (ceq a1 a2) []),(0:Int))) else ((Ig a1 a2).bind fun x112=>some ((AH.mk (2:Int) ((0,0):Nat×Nat) x112.1 []),x112.2))))))
def IM(x94:Int)(self1:(Int→Option (AH×Int)))(x196:Bool):Option (AH×Int):=
 bif x196 then (some ((AH.mk (0:Int) ((0,0):Nat×Nat) false []),(3:Int))) else (self1 (i64.wrap (x94+(1:Int))))
def Ch(N:Nat)(a0:Int)(a1:(List AH))(x11:(Int×Int))(self1:Int→Option (AH×Int))(x94:Int):Option (AH×Int):=
 bif (decide (x94< (a1.length:Int))) then ((idx a1 x94).bind fun x159=>bif (x159.type_ != x11.2) then (IM x94 self1 true) else ((DH N x159).bind fun x208=>IM x94 self1 (x208 != (0:Int)))) else ((idx a1 (0:Int)).bind fun x213=>bif (a0==(14:Int)) then (some ((AH.mk (2:Int) ((0,0):Nat×Nat) (!x213.bool) []),(0:Int))) else (bif (a0==(15:Int)) then ((Dw (x213.num.1,(0:Nat)) (0:Int)).bind fun x239=>some (x239.1,x239.2)) else (bif (a0==(16:Int)) then ((Dw (x213.num.2,(0:Nat)) (0:Int)).bind fun x259=>some (x259.1,x259.2)) else (bif (a0==(17:Int)) then ((H3 x213.num).bind fun x279=>(Dw x279.1 x279.2).bind fun x284=>some (x284.1,x284.2)) else ((idx a1 (1:Int)).bind fun x303=>(J3 N a0 x213.num x303.num).bind fun x321=>some (x321.1,x321.2))))))
def DV(N:Nat)(a0:Int)(a1:(List AH))(x11:(Int×Int)):Nat→Int→Option (AH×Int)
 |0=>fun _=>none
 |k+1=>Ch N a0 a1 x11 (DV N a0 a1 x11 k)
def L0(N:Nat)(a0:Int)(a1:(List AH))(x11:(Int×Int))(x21:Bool):Option (AH×Int):=
 bif x21 then (some ((AH.mk (0:Int) ((0,0):Nat×Nat) false []),(3:Int))) else (DV N a0 a1 x11 N (0:Int))
def D7(N:Nat)(a0:Int)(a1:(List AH)):Option (AH×Int):=
 (H2 a0).bind fun x11=>bif (x11.1==(0:Int)) then (L0 N a0 a1 x11 true) else (L0 N a0 a1 x11 ((a1.length:Int) != x11.1))
structure AZ where
 mean_run_look:(List AE)→Int→Int→Ao→AB→Nm→Option ((Except Int Al)×(List AE)×Int×Int)
 mean_later_1:(List AE)→Int→Int→Ao→AB→Nm→Option ((Except Int Al)×(List AE)×Int×Int)
 mean_callth:(List AE)→Int→Int→Ao→Th→Option ((Except Int Al)×(List AE)×Int×Int)
 mean_run_parts:(List AE)→Int→Int→Ao→AB→Nm→Option ((Except Int Al)×(List AE)×Int×Int)
def Ki(φ:AZ)(ao0_1:(List AE))(ao0_2 ao0_3:Int)(ao1:Ao)(a1:AB)(a2:Nm):Option ((Except Int Al)×(List AE)×Int×Int):=
 (φ.mean_run_parts ao0_1 (i64.wrap (ao0_2+(1:Int))) ao0_3 ao1 a1 a2).bind fun x1007=>JO x1007.1 (fun y1021=>some ((Except.error y1021:Except Int Al),x1007.2.1,x1007.2.2.1,x1007.2.2.2)) fun r1023=>some ((Except.ok r1023:Except Int Al),x1007.2.1,x1007.2.2.1,x1007.2.2.2)
def I4(φ:AZ)(ao0_1:(List AE))(ao0_2 ao0_3:Int)(ao1:Ao)(a1:AB)(a2:Nm)(x1151:AE)(self2:Nm→Int→Option ((Except Int Al)×(List AE)×Int×Int))(x1339:Nm)(x1342:Int):Option ((Except Int Al)×(List AE)×Int×Int):=
 bif (decide (x1342< (x1151.params.length:Int))) then ((idx x1151.params x1342).bind fun x1497=>(idx a1.args x1342).bind fun x1592=>(JD x1592).bind fun x1611=>self2 (Nm.bind x1497.name (Th.later x1611 a2) x1339) (i64.wrap (x1342+(1:Int)))) else ((φ.mean_run_look ao0_1 (i64.wrap (ao0_2+(1:Int))) ao0_3 ao1 (AB.mk x1151.body.op x1151.body.name x1151.body.tail x1151.body.type_ x1151.body.num x1151.body.args x1151.body.at_) x1339).bind fun x1655=>JO x1655.1 (fun y1669=>some ((Except.error y1669:Except Int Al),x1655.2.1,x1655.2.2.1,x1655.2.2.2)) fun r1671=>some ((Except.ok r1671:Except Int Al),x1655.2.1,x1655.2.2.1,x1655.2.2.2))
def GJ(φ:AZ)(ao0_1:(List AE))(ao0_2 ao0_3:Int)(ao1:Ao)(a1:AB)(a2:Nm)(x1151:AE):Nat→Nm→Int→Option ((Except Int Al)×(List AE)×Int×Int)
 |0=>fun _ _=>none
 |k+1=>I4 φ ao0_1 ao0_2 ao0_3 ao1 a1 a2 x1151 (GJ φ ao0_1 ao0_2 ao0_3 ao1 a1 a2 x1151 k)
def CT(φ:AZ)(N:Nat)(ao0_1:(List AE))(ao0_2 ao0_3:Int)(ao1:Ao)(a1:AB)(a2:Nm):Option ((Except Int Al)×(List AE)×Int×Int):=
 bif (a1.op==(1:Int)) then (some ((Except.ok (Al.mk (AH.mk (1:Int) a1.num false []) Th.nil Th.nil):Except Int Al),ao0_1,(i64.wrap (ao0_2+(1:Int))),ao0_3)) else (bif (a1.op==(2:Int)) then (some ((Except.ok (Al.mk (AH.mk (2:Int) ((0,0):Nat×Nat) true []) Th.nil Th.nil):Except Int Al),ao0_1,(i64.wrap (ao0_2+(1:Int))),ao0_3)) else (bif (a1.op==(3:Int)) then (some ((Except.ok (Al.mk (AH.mk (2:Int) ((0,0):Nat×Nat) false []) Th.nil Th.nil):Except Int Al),ao0_1,(i64.wrap (ao0_2+(1:Int))),ao0_3)) else (bif (a1.op==(4:Int)) then (some ((Except.ok (Al.mk (AH.mk (3:Int) ((0,0):Nat×Nat) false []) Th.nil Th.nil):Except Int Al),ao0_1,(i64.wrap (ao0_2+(1:Int))),ao0_3)) else (bif (a1.op==(5:Int)) then (some ((Except.error (52:Int):Except Int Al),ao0_1,(i64.wrap (ao0_2+(1:Int))),ao0_3)) else (bif (a1.op==(6:Int)) then ((Da N a2 a1.name).bind fun x1087=>(φ.mean_callth ao0_1 (i64.wrap (ao0_2+(1:Int))) ao0_3 ao1 x1087).bind fun x1098=>JO x1098.1 (fun y1116=>some ((Except.error y1116:Except Int Al),x1098.2.1,x1098.2.2.1,x1098.2.2.2)) fun r1118=>some ((Except.ok r1118:Except Int Al),x1098.2.1,x1098.2.2.1,x1098.2.2.2)) else (bif (a1.op==(7:Int)) then ((idx ao0_1 (Ck ao1 a1.name)).bind fun x1151=>GJ φ ao0_1 ao0_2 ao0_3 ao1 a1 a2 x1151 N Nm.nil (0:Int)) else (bif (a1.op==(18:Int)) then ((idx a1.args (0:Int)).bind fun x1946=>(idx a1.args (1:Int)).bind fun x1965=>(JD x1946).bind fun x1983=>(JD x1965).bind fun x2003=>some ((Except.ok (Al.mk (AH.mk (0:Int) ((0,0):Nat×Nat) false []) (Th.later x1983 a2) (Th.later x2003 a2)):Except Int Al),ao0_1,(i64.wrap (ao0_2+(1:Int))),ao0_3)) else (Ki φ ao0_1 ao0_2 ao0_3 ao1 a1 a2))))))))
def A9(φ:AZ)(N:Nat)(ao0_1:(List AE))(ao0_2 ao0_3:Int)(ao1:Ao)(a1:AB)(a2:Nm):Option ((Except Int Al)×(List AE)×Int×Int):=
 bif (decide (ao0_2≥ao0_3)) then (some ((Except.error (60:Int):Except Int Al),ao0_1,ao0_2,ao0_3)) else (CT φ N ao0_1 ao0_2 ao0_3 ao1 a1 a2)
def LW(φ:AZ)(_N:Nat)(ao0_1:(List AE))(ao0_2 ao0_3:Int)(ao1:Ao)(a1:AB)(a2:Nm):Option ((Except Int Al)×(List AE)×Int×Int):=
 (φ.mean_run_look ao0_1 ao0_2 ao0_3 ao1 a1 a2).bind fun x29=>JO x29.1 (fun y43=>some ((Except.error y43:Except Int Al),x29.2.1,x29.2.2.1,x29.2.2.2)) fun r45=>some ((Except.ok r45:Except Int Al),x29.2.1,x29.2.2.1,x29.2.2.2)
def Kv(φ:AZ)(_N:Nat)(ao0_1:(List AE))(ao0_2 ao0_3:Int)(ao1:Ao)(a1:Th):Option ((Except Int Al)×(List AE)×Int×Int):=
 match a1 with
 | .nil=>none
 | .done p h t=>(I3 ⟨p,h,t⟩).bind fun r=>some ((Except.ok r:Except Int Al),ao0_1,ao0_2,ao0_3)
 | .later e env=>φ.mean_later_1 ao0_1 ao0_2 ao0_3 ao1 e env
def LX(x1085:(List AE))(x1089 x1090:Int)(x1312:(AH×Int)):Option ((Except Int Al)×(List AE)×Int×Int):=
 some ((Except.ok (Al.mk x1312.1 Th.nil Th.nil):Except Int Al),x1085,x1089,x1090)
def BK(φ:AZ)(N:Nat)(ao1:Ao)(a1:AB)(a2:Nm)(self1:(List AH)→Int→(List AE)→Int→Int→Option ((Except Int Al)×(List AE)×Int×Int))(x1080:(List AH))(x1084:Int)(x1085:(List AE))(x1089 x1090:Int):Option ((Except Int Al)×(List AE)×Int×Int):=
 bif (decide (x1084< (a1.args.length:Int))) then ((idx a1.args x1084).bind fun x1214=>(φ.mean_run_look x1085 x1089 x1090 ao1 x1214 a2).bind fun x1249=>JO x1249.1 (fun y1263=>some ((Except.error y1263:Except Int Al),x1249.2.1,x1249.2.2.1,x1249.2.2.2)) fun r1265=>(GS 56 x1080 ([(AH.mk r1265.plain.type_ r1265.plain.num r1265.plain.bool r1265.plain.list)]:List AH)).bind fun _=>self1 (x1080++([(AH.mk r1265.plain.type_ r1265.plain.num r1265.plain.bool r1265.plain.list)]:List AH)) (i64.wrap (x1084+(1:Int))) x1249.2.1 x1249.2.2.1 x1249.2.2.2) else ((D7 N a1.op x1080).bind fun x1312=>bif (x1312.2 != (0:Int)) then (some ((Except.error x1312.2:Except Int Al),x1085,x1089,x1090)) else (LX x1085 x1089 x1090 x1312))
def DJ(φ:AZ)(N:Nat)(ao1:Ao)(a1:AB)(a2:Nm):Nat→(List AH)→Int→(List AE)→Int→Int→Option ((Except Int Al)×(List AE)×Int×Int)
 |0=>fun _ _ _ _ _=>none
 |k+1=>BK φ N ao1 a1 a2 (DJ φ N ao1 a1 a2 k)
def A0(φ:AZ)(N:Nat)(ao0_1:(List AE))(ao0_2 ao0_3:Int)(ao1:Ao)(a1:AB)(a2:Nm):Option ((Except Int Al)×(List AE)×Int×Int):=
 bif (a1.op==(19:Int)) then ((idx a1.args (0:Int)).bind fun x28=>(φ.mean_run_look ao0_1 ao0_2 ao0_3 ao1 x28 a2).bind fun x51=>JO x51.1 (fun y65=>some ((Except.error y65:Except Int Al),x51.2.1,x51.2.2.1,x51.2.2.2)) fun r67=>bif r67.plain.bool then ((idx a1.args (1:Int)).bind fun x86=>(φ.mean_run_look x51.2.1 x51.2.2.1 x51.2.2.2 ao1 x86 a2).bind fun x107=>JO x107.1 (fun y121=>some ((Except.error y121:Except Int Al),x107.2.1,x107.2.2.1,x107.2.2.2)) fun r123=>some ((Except.ok r123:Except Int Al),x107.2.1,x107.2.2.1,x107.2.2.2)) else ((idx a1.args (2:Int)).bind fun x151=>(φ.mean_run_look x51.2.1 x51.2.2.1 x51.2.2.2 ao1 x151 a2).bind fun x172=>JO x172.1 (fun y186=>some ((Except.error y186:Except Int Al),x172.2.1,x172.2.2.1,x172.2.2.2)) fun r188=>some ((Except.ok r188:Except Int Al),x172.2.1,x172.2.2.1,x172.2.2.2))) else (bif (a1.op==(20:Int)) then ((idx a1.args (0:Int)).bind fun x216=>(φ.mean_run_look ao0_1 ao0_2 ao0_3 ao1 x216 a2).bind fun x239=>JO x239.1 (fun y253=>some ((Except.error y253:Except Int Al),x239.2.1,x239.2.2.1,x239.2.2.2)) fun r255=>bif (Th.isNil r255.head) then ((idx a1.args (1:Int)).bind fun x286=>(φ.mean_run_look x239.2.1 x239.2.2.1 x239.2.2.2 ao1 x286 a2).bind fun x309=>JO x309.1 (fun y323=>some ((Except.error y323:Except Int Al),x309.2.1,x309.2.2.1,x309.2.2.2)) fun r325=>some ((Except.ok r325:Except Int Al),x309.2.1,x309.2.2.1,x309.2.2.2)) else ((idx a1.args (2:Int)).bind fun x493=>(φ.mean_run_look x239.2.1 x239.2.2.1 x239.2.2.2 ao1 x493 (Nm.bind a1.tail r255.tail (Nm.bind a1.name r255.head a2))).bind fun x536=>JO x536.1 (fun y550=>some ((Except.error y550:Except Int Al),x536.2.1,x536.2.2.1,x536.2.2.2)) fun r552=>some ((Except.ok r552:Except Int Al),x536.2.1,x536.2.2.1,x536.2.2.2))) else (bif (a1.op==(21:Int)) then ((idx a1.args (0:Int)).bind fun x587=>(JD x587).bind fun x606=>(idx a1.args (1:Int)).bind fun x631=>(φ.mean_run_look ao0_1 ao0_2 ao0_3 ao1 x631 (Nm.letrec a1.name x606 a2)).bind fun x662=>JO x662.1 (fun y676=>some ((Except.error y676:Except Int Al),x662.2.1,x662.2.2.1,x662.2.2.2)) fun r678=>some ((Except.ok r678:Except Int Al),x662.2.1,x662.2.2.1,x662.2.2.2)) else (bif (a1.op==(22:Int)) then ((idx a1.args (0:Int)).bind fun x706=>(φ.mean_run_look ao0_1 ao0_2 ao0_3 ao1 x706 a2).bind fun x729=>JO x729.1 (fun y743=>some ((Except.error y743:Except Int Al),x729.2.1,x729.2.2.1,x729.2.2.2)) fun r745=>(idx a1.args (1:Int)).bind fun x880=>(IT r745).bind fun x903=>(φ.mean_run_look x729.2.1 x729.2.2.1 x729.2.2.2 ao1 x880 (Nm.bind a1.name x903 a2)).bind fun x927=>JO x927.1 (fun y941=>some ((Except.error y941:Except Int Al),x927.2.1,x927.2.2.1,x927.2.2.2)) fun r943=>some ((Except.ok r943:Except Int Al),x927.2.1,x927.2.2.1,x927.2.2.2)) else (DJ φ N ao1 a1 a2 N ([]:List AH) (0:Int) ao0_1 ao0_2 ao0_3))))
def AZ.at:Nat→AZ
 |0=>⟨fun _ _ _ _ _ _=>none,fun _ _ _ _ _ _=>none,fun _ _ _ _ _=>none,fun _ _ _ _ _ _=>none⟩
 |n+1=>⟨A9 (AZ.at n) n,LW (AZ.at n) n,Kv (AZ.at n) n,A0 (AZ.at n) n⟩
def mean_run_look(N:Nat):(List AE)→Int→Int→Ao→AB→Nm→Option ((Except Int Al)×(List AE)×Int×Int):=(AZ.at N).mean_run_look
def mean_later_1(N:Nat):(List AE)→Int→Int→Ao→AB→Nm→Option ((Except Int Al)×(List AE)×Int×Int):=(AZ.at N).mean_later_1
def mean_callth(N:Nat):(List AE)→Int→Int→Ao→Th→Option ((Except Int Al)×(List AE)×Int×Int):=(AZ.at N).mean_callth
def mean_run_parts(N:Nat):(List AE)→Int→Int→Ao→AB→Nm→Option ((Except Int Al)×(List AE)×Int×Int):=(AZ.at N).mean_run_parts
def CU(N:Nat)(ao1:Ao)(self1:(List AE)→Int→Int→Int→(Nat×Nat)→Bool→(List (Nat×Nat))→Th→Th→(List (Nat×Nat))→Option ((Except Int AH)×(List AE)×Int×Int))(x283:(List AE))(x287 x288 _x289:Int)(_x290:(Nat×Nat))(_x291:Bool)(_x292:(List (Nat×Nat)))(x296 x299:Th)(x302:(List (Nat×Nat))):Option ((Except Int AH)×(List AE)×Int×Int):=
 bif (!(Th.isNil x296)) then ((mean_callth N x283 x287 x288 ao1 x296).bind fun x661=>JO x661.1 (fun y679=>some ((Except.error y679:Except Int AH),x661.2.1,x661.2.2.1,x661.2.2.2)) fun r681=>(GS 16 x302 ([r681.plain.num]:List (Nat×Nat))).bind fun _=>(mean_callth N x661.2.1 x661.2.2.1 x661.2.2.2 ao1 x299).bind fun x730=>JO x730.1 (fun y748=>some ((Except.error y748:Except Int AH),x730.2.1,x730.2.2.1,x730.2.2.2)) fun r750=>self1 x730.2.1 x730.2.2.1 x730.2.2.2 r750.plain.type_ r750.plain.num r750.plain.bool r750.plain.list r750.head r750.tail (x302++([r681.plain.num]:List (Nat×Nat)))) else (some ((Except.ok (AH.mk (3:Int) ((0,0):Nat×Nat) false x302):Except Int AH),x283,x287,x288))
def Dn(N:Nat)(ao1:Ao):Nat→(List AE)→Int→Int→Int→(Nat×Nat)→Bool→(List (Nat×Nat))→Th→Th→(List (Nat×Nat))→Option ((Except Int AH)×(List AE)×Int×Int)
 |0=>fun _ _ _ _ _ _ _ _ _ _=>none
 |k+1=>CU N ao1 (Dn N ao1 k)
def D8(N:Nat)(ao0_1:(List AE))(ao0_2 ao0_3:Int)(ao1:Ao)(a1:Al):Option ((Except Int AH)×(List AE)×Int×Int):=
 bif (Th.isNil a1.head) then (some ((Except.ok (AH.mk a1.plain.type_ a1.plain.num a1.plain.bool a1.plain.list):Except Int AH),ao0_1,ao0_2,ao0_3)) else (Dn N ao1 N ao0_1 ao0_2 ao0_3 a1.plain.type_ a1.plain.num a1.plain.bool a1.plain.list a1.head a1.tail ([]:List (Nat×Nat)))
def LY(N:Nat)(x239:AE)(x421:Nm)(x424:Int)(self2:(Nm→Int→Option (BR)))(x560:AH)(x614:Bool):Option (BR):=
 bif x614 then (some (BR.mk (40:Int) (AH.mk (0:Int) ((0,0):Nat×Nat) false []) (0:Int) (0:Int) (0:Int) (0:Int))) else ((idx x239.params x424).bind fun x627=>(Ie N x560).bind fun x642=>self2 (Nm.bind x627.name x642 x421) (i64.wrap (x424+(1:Int))))
def Fq(N:Nat)(a0:AL)(a2:(List AH))(a3:Int)(x120:Ao)(x239:AE)(self2:Nm→Int→Option (BR))(x421:Nm)(x424:Int):Option (BR):=
 bif (decide (x424< (a2.length:Int))) then ((idx a2 x424).bind fun x560=>(idx x239.params x424).bind fun x666=>bif (x560.type_ != x666.type_) then (LY N x239 x421 x424 self2 x560 true) else ((DH N x560).bind fun x681=>LY N x239 x421 x424 self2 x560 (x681 != (0:Int)))) else ((mean_run_look N a0.funcs (0:Int) (if (16384:Int)< (if a3< (0:Int) then (0:Int) else a3) then (16384:Int) else (if a3< (0:Int) then (0:Int) else a3)) x120 (AB.mk x239.body.op x239.body.name x239.body.tail x239.body.type_ x239.body.num x239.body.args x239.body.at_) x421).bind fun x699=>JO x699.1 (fun y713=>some (BR.mk y713 (AH.mk (0:Int) ((0,0):Nat×Nat) false []) x699.2.2.1 (0:Int) (0:Int) (0:Int))) fun r715=>(D8 N x699.2.1 x699.2.2.1 x699.2.2.2 x120 r715).bind fun x757=>JO x757.1 (fun y771=>some (BR.mk y771 (AH.mk (0:Int) ((0,0):Nat×Nat) false []) x757.2.2.1 (0:Int) (0:Int) (0:Int))) fun r773=>some (BR.mk (0:Int) r773 x757.2.2.1 (0:Int) (0:Int) (0:Int)))
def Ed(N:Nat)(a0:AL)(a2:(List AH))(a3:Int)(x120:Ao)(x239:AE):Nat→Nm→Int→Option (BR)
 |0=>fun _ _=>none
 |k+1=>Fq N a0 a2 a3 x120 x239 (Ed N a0 a2 a3 x120 x239 k)
def JG(N:Nat)(a0:AL)(a1:Bts)(a2:(List AH))(a3:Int)(self1:Int→Ao→Option (BR))(x119:Int)(x120:Ao):Option (BR):=
 bif (decide (x119< (a0.funcs.length:Int))) then ((idx a0.funcs x119).bind fun x183=>self1 (i64.wrap (x119+(1:Int))) (Lm x183.name x119 x120)) else (bif (!(N5 x120 a1)) then (some (BR.mk (32:Int) (AH.mk (0:Int) ((0,0):Nat×Nat) false []) (0:Int) (0:Int) (0:Int) (0:Int))) else ((idx a0.funcs (Ck x120 a1)).bind fun x239=>bif ((a2.length:Int) != (x239.params.length:Int)) then (some (BR.mk (40:Int) (AH.mk (0:Int) ((0,0):Nat×Nat) false []) (0:Int) (0:Int) (0:Int) (0:Int))) else (Ed N a0 a2 a3 x120 x239 N Nm.nil (0:Int))))
def I5(N:Nat)(a0:AL)(a1:Bts)(a2:(List AH))(a3:Int):Nat→Int→Ao→Option (BR)
 |0=>fun _ _=>none
 |k+1=>JG N a0 a1 a2 a3 (I5 N a0 a1 a2 a3 k)
def FM(N:Nat)(a0:AL)(a1:Bts)(a2:(List AH))(a3:Int):Option (BR):=
 (Gz N a0).bind fun x25=>bif (x25.why != (0:Int)) then (some (BR.mk (3:Int) (AH.mk (0:Int) ((0,0):Nat×Nat) false []) (0:Int) (0:Int) (0:Int) (0:Int))) else (I5 N a0 a1 a2 a3 N (0:Int) ([]:Ao))
def Gd(x106:Bool):Option (Bool):=
 some x106
def Hj(N:Nat):Option (Bool):=
 (B5 N (D5.mk ([(102:UInt8),(40:UInt8),(120:UInt8),(32:UInt8),(78:UInt8),(41:UInt8),(58:UInt8),(78:UInt8),(61:UInt8),(120:UInt8),(43:UInt8),(120:UInt8),(59:UInt8),(103:UInt8),(40:UInt8),(41:UInt8),(58:UInt8),(78:UInt8),(61:UInt8),(102:UInt8),(40:UInt8),(49:UInt8),(43:UInt8),(50:UInt8),(41:UInt8),(59:UInt8)]:List UInt8) ([103]:List UInt8) ([]:List UInt8))).bind fun x16=>(FM N x16.1 ([103]:List UInt8) x16.2.1 (99:Int)).bind fun x48=>(FM N x16.1 ([103]:List UInt8) x16.2.1 (9:Int)).bind fun x75=>bif x16.2.2 then (bif (x48.why==(0:Int)) then (bif (x48.value.type_==(1:Int)) then (bif (ceq x48.value.num ((4618441417868443648,0):Nat×Nat)) then (bif (x48.moves==(10:Int)) then (bif (x75.why==(60:Int)) then (Gd (x75.moves==(9:Int))) else (Gd false)) else (Gd false)) else (Gd false)) else (Gd false)) else (Gd false)) else (Gd false)
def J4(a0:AL)(a1:Bts)(self1:Int→Option (Int))(x48:Int):Option (Int):=
 bif (decide (x48< (a0.funcs.length:Int))) then ((idx a0.funcs x48).bind fun x94=>bif (x94.name==a1) then (some x48) else (self1 (i64.wrap (x48+(1:Int))))) else (some (-1:Int))
def Ih(a0:AL)(a1:Bts):Nat→Int→Option (Int)
 |0=>fun _=>none
 |k+1=>J4 a0 a1 (Ih a0 a1 k)
def G3(N:Nat)(a0:AL)(a1:Bts):Option (Int):=
 Ih a0 a1 N (0:Int)
def Kw(a0:(List Bts))(a1:Bts)(self1:Int→Option (Bool))(x27:Int):Option (Bool):=
 bif (decide (x27< (a0.length:Int))) then ((idx a0 x27).bind fun x59=>bif (x59==a1) then (some true) else (self1 (i64.wrap (x27+(1:Int))))) else (some false)
def Jv(a0:(List Bts))(a1:Bts):Nat→Int→Option (Bool)
 |0=>fun _=>none
 |k+1=>Kw a0 a1 (Jv a0 a1 k)
def It(N:Nat)(a0:(List Bts))(a1:Bts):Option (Bool):=
 Jv a0 a1 N (0:Int)
def LZ(a0:AB)(x37:Bool):Option ((List Bts)):=
 bif x37 then (some ([a0.name,a0.tail]:List Bts)) else (some [])
def KT(a0:AB)(a1:Int)(x15:Bool):Option ((List Bts)):=
 bif x15 then (some ([a0.name]:List Bts)) else (bif (a0.op==(20:Int)) then (LZ a0 (a1==(2:Int))) else (LZ a0 false))
def IN(a0:AB)(a1:Int):Option ((List Bts)):=
 bif (a0.op==(21:Int)) then (KT a0 a1 (a0.op==(21:Int))) else (bif (a0.op==(22:Int)) then (KT a0 a1 (a1==(1:Int))) else (KT a0 a1 false))
def Ii(a0:(List Bts))(a1:(List Bts)):Option ((List Bts)):=
 (GS 16 ([]:List Bts) a0).bind fun _=>(GS 16 (([]:List Bts)++a0) a1).bind fun _=>some ((([]:List Bts)++a0)++a1)
structure BT where
 ref06_seen:AB→(List Bts)→Option ((List A7))
def Ij(φ:BT)(a0:AB)(a1:(List Bts))(self1:(List A7)→Int→Option ((List A7)))(x197:(List A7))(x201:Int):Option ((List A7)):=
 bif (decide (x201< (a0.args.length:Int))) then ((IN a0 x201).bind fun x296=>(Ii a1 x296).bind fun x308=>(idx a0.args x201).bind fun x320=>(φ.ref06_seen x320 x308).bind fun x339=>(GS 104 x197 x339).bind fun _=>self1 (x197++x339) (i64.wrap (x201+(1:Int)))) else (some x197)
def IP(φ:BT)(a0:AB)(a1:(List Bts)):Nat→(List A7)→Int→Option ((List A7))
 |0=>fun _ _=>none
 |k+1=>Ij φ a0 a1 (IP φ a0 a1 k)
def JH(φ:BT)(N:Nat)(a0:AB)(a1:(List Bts))(x108:(List A7)):Option ((List A7)):=
 IP φ a0 a1 N x108 (0:Int)
def Kx(φ:BT)(N:Nat)(a0:AB)(a1:(List Bts))(x367:Bool):Option ((List A7)):=
 bif x367 then (bif (a0.op==(6:Int)) then ((It N a1 a0.name).bind fun x405=>(GS 104 ([]:List A7) ([(A7.mk a0 (!x405))]:List A7)).bind fun _=>JH φ N a0 a1 (([]:List A7)++([(A7.mk a0 (!x405))]:List A7))) else ((GS 104 ([]:List A7) ([(A7.mk a0 false)]:List A7)).bind fun _=>JH φ N a0 a1 (([]:List A7)++([(A7.mk a0 false)]:List A7)))) else (JH φ N a0 a1 ([]:List A7))
def Kj(φ:BT)(N:Nat)(a0:AB)(a1:(List Bts)):Option ((List A7)):=
 bif (a0.op==(6:Int)) then (Kx φ N a0 a1 true) else (Kx φ N a0 a1 (a0.op==(7:Int)))
def BT.at:Nat→BT
 |0=>⟨fun _ _=>none⟩
 |n+1=>⟨Kj (BT.at n) n⟩
def ref06_seen(N:Nat):AB→(List Bts)→Option ((List A7)):=(BT.at N).ref06_seen
def Iu(x3569:AE)(x3797:(List Bts))(x3801:Int)(self6:((List AF)→(List Bts)→Int→Option ((List AF))))(x4031:(List AF)):Option ((List AF)):=
 (idx x3569.params x3801).bind fun x4041=>(GS 16 x3797 ([x4041.name]:List Bts)).bind fun _=>self6 x4031 (x3797++([x4041.name]:List Bts)) (i64.wrap (x3801+(1:Int)))
def Fx(x4528:Int)(self7:((List AF)→Int→Option ((List AF))))(x5102:(List AF)):Option ((List AF)):=
 self7 x5102 (i64.wrap (x4528+(1:Int)))
def Fy(N:Nat)(a0:AL)(x4528:Int)(self7:((List AF)→Int→Option ((List AF))))(x5111:A7)(x5164:(List AF)):Option ((List AF)):=
 bif (x5111.e.op != (7:Int)) then (Fx x4528 self7 x5164) else ((G3 N a0 x5111.e.name).bind fun x5177=>bif (decide (x5177< (0:Int))) then ((GS 16 x5164 ([(AF.mk (32:Int) x5111.e.at_)]:List AF)).bind fun _=>Fx x4528 self7 (x5164++([(AF.mk (32:Int) x5111.e.at_)]:List AF))) else ((idx a0.funcs x5177).bind fun x5209=>bif ((x5209.params.length:Int) != (x5111.e.args.length:Int)) then ((GS 16 x5164 ([(AF.mk (33:Int) x5111.e.at_)]:List AF)).bind fun _=>Fx x4528 self7 (x5164++([(AF.mk (33:Int) x5111.e.at_)]:List AF))) else (Fx x4528 self7 x5164)))
def FO(N:Nat)(a0:AL)(x1785:Int)(self5:((List AF)→Int→Option ((List AF))))(x4132:((List A7)))(self7:(List AF)→Int→Option ((List AF)))(x4524:(List AF))(x4528:Int):Option ((List AF)):=
 bif (decide (x4528< (x4132.length:Int))) then ((idx x4132 x4528).bind fun x5111=>bif x5111.free then ((GS 16 x4524 ([(AF.mk (31:Int) x5111.e.at_)]:List AF)).bind fun _=>Fy N a0 x4528 self7 x5111 (x4524++([(AF.mk (31:Int) x5111.e.at_)]:List AF))) else (Fy N a0 x4528 self7 x5111 x4524)) else (self5 x4524 (i64.wrap (x1785+(1:Int))))
def D4(N:Nat)(a0:AL)(x1785:Int)(self5:((List AF)→Int→Option ((List AF))))(x4132:((List A7))):Nat→(List AF)→Int→Option ((List AF))
 |0=>fun _ _=>none
 |k+1=>FO N a0 x1785 self5 x4132 (D4 N a0 x1785 self5 x4132 k)
def FP(N:Nat)(a0:AL)(x1785:Int)(self5:((List AF)→Int→Option ((List AF))))(x3569:AE)(self6:(List AF)→(List Bts)→Int→Option ((List AF)))(x3793:(List AF))(x3797:(List Bts))(x3801:Int):Option ((List AF)):=
 bif (decide (x3801< (x3569.params.length:Int))) then ((idx x3569.params x3801).bind fun x4077=>(It N x3797 x4077.name).bind fun x4094=>bif x4094 then ((GS 16 x3793 ([(AF.mk (30:Int) x4077.at_)]:List AF)).bind fun _=>Iu x3569 x3797 x3801 self6 (x3793++([(AF.mk (30:Int) x4077.at_)]:List AF))) else (Iu x3569 x3797 x3801 self6 x3793)) else ((ref06_seen N (AB.mk x3569.body.op x3569.body.name x3569.body.tail x3569.body.type_ x3569.body.num x3569.body.args x3569.body.at_) x3797).bind fun x4132=>D4 N a0 x1785 self5 x4132 N x3793 (0:Int))
def EQ(N:Nat)(a0:AL)(x1785:Int)(self5:((List AF)→Int→Option ((List AF))))(x3569:AE):Nat→(List AF)→(List Bts)→Int→Option ((List AF))
 |0=>fun _ _ _=>none
 |k+1=>FP N a0 x1785 self5 x3569 (EQ N a0 x1785 self5 x3569 k)
def Iv(N:Nat)(a0:AL)(x1785:Int)(self5:((List AF)→Int→Option ((List AF))))(x3569:AE)(x3636:(List AF)):Option ((List AF)):=
 EQ N a0 x1785 self5 x3569 N x3636 ([]:List Bts) (0:Int)
def HH(N:Nat)(a0:AL)(self5:(List AF)→Int→Option ((List AF)))(x1781:(List AF))(x1785:Int):Option ((List AF)):=
 bif (decide (x1785< (a0.funcs.length:Int))) then ((idx a0.funcs x1785).bind fun x3569=>(G3 N a0 x3569.name).bind fun x5294=>bif (decide (x5294<x1785)) then ((GS 16 x1781 ([(AF.mk (30:Int) x3569.at_)]:List AF)).bind fun _=>Iv N a0 x1785 self5 x3569 (x1781++([(AF.mk (30:Int) x3569.at_)]:List AF))) else (Iv N a0 x1785 self5 x3569 x1781)) else (some x1781)
def ER(N:Nat)(a0:AL):Nat→(List AF)→Int→Option ((List AF))
 |0=>fun _ _=>none
 |k+1=>HH N a0 (ER N a0 k)
def HQ(N:Nat)(a0:AL):Option ((List AF)):=
 ER N a0 N ([]:List AF) (0:Int)
def KU(x171:Int)(self1:(Int→Int→Int→Option (AF)))(x377 x378:Int):Option (AF):=
 self1 (i64.wrap (x171+(1:Int))) x377 x378
def KV(x21:((List AF)))(x171 x172 x173:Int)(self1:(Int→Int→Int→Option (AF)))(x401:Bool):Option (AF):=
 bif x401 then ((idx x21 x171).bind fun x406=>KU x171 self1 x406.why x406.at_) else (KU x171 self1 x172 x173)
def H5(x21:((List AF)))(self1:Int→Int→Int→Option (AF))(x171 x172 x173:Int):Option (AF):=
 bif (decide (x171< (x21.length:Int))) then (bif (x172==(0:Int)) then (KV x21 x171 x172 x173 self1 true) else ((idx x21 x171).bind fun x429=>KV x21 x171 x172 x173 self1 (decide (x429.at_<x173)))) else (some (AF.mk x172 x173))
def Hk(x21:((List AF))):Nat→Int→Int→Int→Option (AF)
 |0=>fun _ _ _=>none
 |k+1=>H5 x21 (Hk x21 k)
def Hl(N:Nat)(a0:AL):Option (AF):=
 (HQ N a0).bind fun x21=>Hk x21 N (0:Int) (0:Int) (0:Int)
def KW(a0:AL)(a1:Bts)(self1:Int→Option (AE×Bool))(x59:Int):Option (AE×Bool):=
 bif (decide (x59< (a0.funcs.length:Int))) then ((idx a0.funcs x59).bind fun x110=>bif (x110.name==a1) then (some (x110,true)) else (self1 (i64.wrap (x59+(1:Int))))) else (some ((AE.mk ([]:List UInt8) [] (0:Int) (AB.mk (0:Int) ([]:List UInt8) ([]:List UInt8) (0:Int) ((0,0):Nat×Nat) [] (0:Int)) (0:Int)),false))
def JI(a0:AL)(a1:Bts):Nat→Int→Option (AE×Bool)
 |0=>fun _=>none
 |k+1=>KW a0 a1 (JI a0 a1 k)
def Ey(N:Nat)(a0:AL)(a1:Bts):Option (AE×Bool):=
 JI a0 a1 N (0:Int)
def Ky(a1:(List AK))(a2:AB)(self1:Int→Option (Int))(x85:Int):Option (Int):=
 bif (decide (x85≥(0:Int))) then ((idx a1 x85).bind fun x115=>bif (x115.name==a2.name) then (some x115.type_) else (self1 (i64.wrap (x85 - (1:Int))))) else (some (-1:Int))
def Jw(a1:(List AK))(a2:AB):Nat→Int→Option (Int)
 |0=>fun _=>none
 |k+1=>Ky a1 a2 (Jw a1 a2 k)
def La(x134:(AE×Bool))(x175:Bool):Option (Int):=
 bif x175 then (some (-1:Int)) else (some x134.1.type_)
def Kk(N:Nat)(a0:AL)(a1:(List AK))(a2:AB)(x51:Bool):Option (Int):=
 bif x51 then (some (3:Int)) else (bif (a2.op==(5:Int)) then (some a2.type_) else (bif (a2.op==(6:Int)) then (Jw a1 a2 N (i64.wrap ((a1.length:Int) - (1:Int)))) else (bif (a2.op==(7:Int)) then ((Ey N a0 a2.name).bind fun x134=>bif (!x134.2) then (La x134 true) else (La x134 ((x134.1.params.length:Int) != (a2.args.length:Int)))) else (some (0:Int)))))
def IF(N:Nat)(a0:AL)(a1:(List AK))(a2:AB)(x45:Bool):Option (Int):=
 bif x45 then (some (2:Int)) else (bif (a2.op==(4:Int)) then (Kk N a0 a1 a2 (a2.op==(4:Int))) else (Kk N a0 a1 a2 (a2.op==(18:Int))))
def FQ(N:Nat)(a0:AL)(a1:(List AK))(a2:AB)(x36:Bool):Option (Int):=
 bif x36 then (some (1:Int)) else (bif (a2.op==(2:Int)) then (IF N a0 a1 a2 (a2.op==(2:Int))) else (bif (a2.op==(3:Int)) then (IF N a0 a1 a2 (a2.op==(3:Int))) else (bif (a2.op==(12:Int)) then (IF N a0 a1 a2 (a2.op==(12:Int))) else (bif (a2.op==(13:Int)) then (IF N a0 a1 a2 (a2.op==(13:Int))) else (IF N a0 a1 a2 (a2.op==(14:Int)))))))
def Jg(N:Nat)(a0:AL)(a1:(List AK))(a2:AB):Option (Int):=
 bif (a2.op==(1:Int)) then (FQ N a0 a1 a2 (a2.op==(1:Int))) else (bif (a2.op==(8:Int)) then (FQ N a0 a1 a2 (a2.op==(8:Int))) else (bif (a2.op==(9:Int)) then (FQ N a0 a1 a2 (a2.op==(9:Int))) else (bif (a2.op==(10:Int)) then (FQ N a0 a1 a2 (a2.op==(10:Int))) else (bif (a2.op==(11:Int)) then (FQ N a0 a1 a2 (a2.op==(11:Int))) else (bif (a2.op==(15:Int)) then (FQ N a0 a1 a2 (a2.op==(15:Int))) else (bif (a2.op==(16:Int)) then (FQ N a0 a1 a2 (a2.op==(16:Int))) else (FQ N a0 a1 a2 (a2.op==(17:Int)))))))))
def HI(a0:(List AK))(a1:Bts)(a2:Int):Option ((List AK)):=
 (GS 32 ([]:List AK) a0).bind fun _=>(GS 32 (([]:List AK)++a0) ([(AK.mk a1 a2 (0:Int))]:List AK)).bind fun _=>some ((([]:List AK)++a0)++([(AK.mk a1 a2 (0:Int))]:List AK))
def J5(a0:(List AK))(a1:AB)(x39:Bool):Option ((List AK)):=
 bif x39 then ((HI a0 a1.name (1:Int)).bind fun x46=>(HI x46 a1.tail (3:Int)).bind fun x58=>some x58) else (some a0)
def Iw(a0:(List AK))(a1:AB)(a2:Int)(x19:Bool):Option ((List AK)):=
 bif x19 then ((HI a0 a1.name a1.type_).bind fun x26=>some x26) else (bif (a1.op==(20:Int)) then (J5 a0 a1 (a2==(2:Int))) else (J5 a0 a1 false))
def Gg(a0:(List AK))(a1:AB)(a2:Int):Option ((List AK)):=
 bif (a1.op==(21:Int)) then (Iw a0 a1 a2 (a1.op==(21:Int))) else (bif (a1.op==(22:Int)) then (Iw a0 a1 a2 (a2==(1:Int))) else (Iw a0 a1 a2 false))
def Iy:Option (Int):=
 some (1:Int)
def J6(a2:Int)(x113:(AE×Bool))(x149:Bool):Option (Int):=
 bif x149 then ((idx x113.1.params a2).bind fun x155=>some x155.type_) else (Iy)
def J7(a1:AB)(a2 a3:Int)(x178:Bool):Option (Int):=
 bif x178 then (bif (a2==(0:Int)) then (some a1.type_) else (some a3)) else (Iy)
def Gh(N:Nat)(a0:AL)(a1:AB)(a2 a3:Int):Option (Int):=
 bif (a1.op==(14:Int)) then (some (2:Int)) else (bif (a1.op==(18:Int)) then (bif (a2==(1:Int)) then (some (3:Int)) else (Iy)) else (bif (a1.op==(7:Int)) then ((Ey N a0 a1.name).bind fun x113=>bif x113.2 then (J6 a2 x113 (decide (a2< (x113.1.params.length:Int)))) else (J6 a2 x113 false)) else (bif (a1.op==(19:Int)) then (bif (a2==(0:Int)) then (some (2:Int)) else (some a3)) else (bif (a1.op==(20:Int)) then (bif (a2==(0:Int)) then (some (3:Int)) else (some a3)) else (bif (a1.op==(21:Int)) then (J7 a1 a2 a3 (a1.op==(21:Int))) else (J7 a1 a2 a3 (a1.op==(22:Int))))))))
structure BF where
 ref07_wrong:AL→(List AK)→AB→Int→Option ((List Int))
def H6(φ:BF)(N:Nat)(a0:AL)(a1:(List AK))(a2:AB)(a3:Int)(self1:(List Int)→Int→Option ((List Int)))(x159:(List Int))(x163:Int):Option ((List Int)):=
 bif (decide (x163< (a2.args.length:Int))) then ((idx a2.args x163).bind fun x264=>(Gg a1 a2 x163).bind fun x284=>(Gh N a0 a2 x163 a3).bind fun x297=>(φ.ref07_wrong a0 x284 x264 x297).bind fun x305=>(GS 8 x159 x305).bind fun _=>self1 (x159++x305) (i64.wrap (x163+(1:Int)))) else (some x159)
def Hm(φ:BF)(N:Nat)(a0:AL)(a1:(List AK))(a2:AB)(a3:Int):Nat→(List Int)→Int→Option ((List Int))
 |0=>fun _ _=>none
 |k+1=>H6 φ N a0 a1 a2 a3 (Hm φ N a0 a1 a2 a3 k)
def Jh(φ:BF)(N:Nat)(a0:AL)(a1:(List AK))(a2:AB)(a3:Int)(x68:(List Int)):Option ((List Int)):=
 Hm φ N a0 a1 a2 a3 N x68 (0:Int)
def KX(φ:BF)(N:Nat)(a0:AL)(a1:(List AK))(a2:AB)(a3:Int)(x333:Bool):Option ((List Int)):=
 bif x333 then ((GS 8 ([]:List Int) ([a2.at_]:List Int)).bind fun _=>Jh φ N a0 a1 a2 a3 (([]:List Int)++([a2.at_]:List Int))) else (Jh φ N a0 a1 a2 a3 ([]:List Int))
def KD(φ:BF)(N:Nat)(a0:AL)(a1:(List AK))(a2:AB)(a3:Int):Option ((List Int)):=
 (Jg N a0 a1 a2).bind fun x33=>bif (x33 != (0:Int)) then (KX φ N a0 a1 a2 a3 (x33 != a3)) else (KX φ N a0 a1 a2 a3 false)
def BF.at:Nat→BF
 |0=>⟨fun _ _ _ _=>none⟩
 |n+1=>⟨KD (BF.at n) n⟩
def ref07_wrong(N:Nat):AL→(List AK)→AB→Int→Option ((List Int)):=(BF.at N).ref07_wrong
def Ik(x1145:Int)(self4:(Int→Int→Int→Option (AF)))(x1351 x1352:Int):Option (AF):=
 self4 (i64.wrap (x1145+(1:Int))) x1351 x1352
def Il(x1001:((List Int)))(x1145 x1146 x1147:Int)(self4:(Int→Int→Int→Option (AF)))(x1375:Bool):Option (AF):=
 bif x1375 then ((idx x1001 x1145).bind fun x1380=>Ik x1145 self4 (34:Int) x1380) else (Ik x1145 self4 x1146 x1147)
def ES(x500:Int)(self3:(Int→Int→Int→Option (AF)))(x1001:((List Int)))(self4:Int→Int→Int→Option (AF))(x1145 x1146 x1147:Int):Option (AF):=
 bif (decide (x1145< (x1001.length:Int))) then (bif (x1146==(0:Int)) then (Il x1001 x1145 x1146 x1147 self4 true) else ((idx x1001 x1145).bind fun x1403=>Il x1001 x1145 x1146 x1147 self4 (decide (x1403<x1147)))) else (self3 (i64.wrap (x500+(1:Int))) x1146 x1147)
def Ez(x500:Int)(self3:(Int→Int→Int→Option (AF)))(x1001:((List Int))):Nat→Int→Int→Int→Option (AF)
 |0=>fun _ _ _=>none
 |k+1=>ES x500 self3 x1001 (Ez x500 self3 x1001 k)
def H7(N:Nat)(a0:AL)(self3:Int→Int→Int→Option (AF))(x500 x501 x502:Int):Option (AF):=
 bif (decide (x500< (a0.funcs.length:Int))) then ((idx a0.funcs x500).bind fun x976=>(ref07_wrong N a0 x976.params (AB.mk x976.body.op x976.body.name x976.body.tail x976.body.type_ x976.body.num x976.body.args x976.body.at_) x976.type_).bind fun x1001=>Ez x500 self3 x1001 N (0:Int) x501 x502) else (some (AF.mk x501 x502))
def B6(N:Nat)(a0:AL):Nat→Int→Int→Int→Option (AF)
 |0=>fun _ _ _=>none
 |k+1=>H7 N a0 (B6 N a0 k)
def Dx(N:Nat)(a0:AL):Option (AF):=
 (Hl N a0).bind fun x21=>bif (x21.why != (0:Int)) then (some x21) else (B6 N a0 N (0:Int) x21.why x21.at_)
def Kz(x128:Int)(self1:(Int→Option (Bool)))(x275:Bool):Option (Bool):=
 bif x275 then (some false) else (self1 (i64.wrap (x128+(1:Int))))
def Im(N:Nat)(a0:AE)(a1:(List AH))(self1:Int→Option (Bool))(x128:Int):Option (Bool):=
 bif (decide (x128< (a1.length:Int))) then ((idx a1 x128).bind fun x282=>(idx a0.params x128).bind fun x302=>bif (x282.type_ != x302.type_) then (Kz x128 self1 true) else ((B4 N x282).bind fun x316=>Kz x128 self1 (!x316))) else (some true)
def IQ(N:Nat)(a0:AE)(a1:(List AH)):Nat→Int→Option (Bool)
 |0=>fun _=>none
 |k+1=>Im N a0 a1 (IQ N a0 a1 k)
def FX(N:Nat)(a0:AE)(a1:(List AH)):Option (Bool):=
 bif ((a1.length:Int) != (a0.params.length:Int)) then (some false) else (IQ N a0 a1 N (0:Int))
def ME(a0:AH)(self1:Th→Int→Option (Th))(x70:Th)(x73:Int):Option (Th):=
 bif (decide (x73≥(0:Int))) then ((idx a0.list x73).bind fun x116=>self1 (Th.done (AH.mk (0:Int) ((0,0):Nat×Nat) false []) (Th.done (AH.mk (1:Int) x116 false []) Th.nil Th.nil) x70) (i64.wrap (x73 - (1:Int)))) else (some x70)
def Lb(a0:AH):Nat→Th→Int→Option (Th)
 |0=>fun _ _=>none
 |k+1=>ME a0 (Lb a0 k)
def OW(N:Nat)(a0:AH):Option (Th):=
 bif (a0.type_ != (3:Int)) then (some (Th.done a0 Th.nil Th.nil)) else (Lb a0 N (Th.done (AH.mk (3:Int) ((0,0):Nat×Nat) false []) Th.nil Th.nil) (i64.wrap ((a0.list.length:Int) - (1:Int))))
def Lo(ao0:Ak)(x13:Int):Option (Th×Ak):=
 some ((Th.later (AB.mk (0:Int) ([]:List UInt8) ([]:List UInt8) (0:Int) ((0,0):Nat×Nat) [] (0:Int)) Nm.nil),(Ak.mk (AL.mk ao0.p.funcs) ao0.most ao0.cost x13))
def LB(ao0:Ak)(a1:Int):Option (Th×Ak):=
 bif (ao0.why==(0:Int)) then (Lo ao0 a1) else (Lo ao0 ao0.why)
def RU(a1:Bts)(self1:Nm→Option (Th))(x22:Nm):Option (Th):=
 (x22.view).bind fun x50=>bif (!(x50.1==a1)) then (self1 x50.2.2) else (some x50.2.1)
def Ji(a1:Bts):Nat→Nm→Option (Th)
 |0=>fun _=>none
 |k+1=>RU a1 (Ji a1 k)
def L6(N:Nat)(a0:Nm)(a1:Bts):Option (Th):=
 Ji a1 N a0
def MZ(x14:Bool):Option (Int×Int):=
 bif x14 then (some ((1:Int),(1:Int))) else (some ((0:Int),(0:Int)))
def Jj(a0:Int)(x6:Bool):Option (Int×Int):=
 bif x6 then (some ((2:Int),(1:Int))) else (bif (a0==(14:Int)) then (some ((1:Int),(2:Int))) else (bif (a0==(15:Int)) then (MZ (a0==(15:Int))) else (bif (a0==(16:Int)) then (MZ (a0==(16:Int))) else (MZ (a0==(17:Int))))))
def M0(a0:Int):Option (Int×Int):=
 bif (a0==(8:Int)) then (Jj a0 (a0==(8:Int))) else (bif (a0==(9:Int)) then (Jj a0 (a0==(9:Int))) else (bif (a0==(10:Int)) then (Jj a0 (a0==(10:Int))) else (bif (a0==(11:Int)) then (Jj a0 (a0==(11:Int))) else (bif (a0==(12:Int)) then (Jj a0 (a0==(12:Int))) else (Jj a0 (a0==(13:Int)))))))
def PB(a0 a1:Aj):Option (Aj×Int):=
 (HW (Aj.mk (i64.wrap (a0.re+a1.re)) (i64.wrap (a0.im+a1.im)))).bind fun x21=>some (x21.1,x21.2)
def Ee(a0:Aj)(a1:Int):Option (AH×Int):=
 bif (a1 != (0:Int)) then (some ((AH.mk (0:Int) ((0,0):Nat×Nat) false []),a1)) else ((F7 a0).bind fun x19=>some ((AH.mk (1:Int) x19 false []),(0:Int)))
def PC(a0 a1:Aj):Option (Aj×Int):=
 (HW (Aj.mk (i64.wrap (a0.re - a1.re)) (i64.wrap (a0.im - a1.im)))).bind fun x21=>some (x21.1,x21.2)
def PD(a0 a1:Aj):Option (Aj×Int):=
 (HW (Aj.mk (i64.wrap ((i64.wrap (a0.re*a1.re)) - (i64.wrap (a0.im*a1.im)))) (i64.wrap ((i64.wrap (a0.re*a1.im))+(i64.wrap (a0.im*a1.re)))))).bind fun x21=>some (x21.1,x21.2)
def MN(a0 a1:Aj)(x27:Bool):Option (Aj×Int):=
 bif x27 then (some ((Aj.mk (0:Int) (0:Int)),(51:Int))) else ((nz (i64.wrap ((i64.wrap (a1.re*a1.re))+(i64.wrap (a1.im*a1.im))))).bind fun _=>(nz (i64.wrap ((i64.wrap (a1.re*a1.re))+(i64.wrap (a1.im*a1.im))))).bind fun _=>(HW (Aj.mk (i64.wrap ((i64.wrap ((i64.wrap (a0.re*a1.re))+(i64.wrap (a0.im*a1.im)))).tdiv (i64.wrap ((i64.wrap (a1.re*a1.re))+(i64.wrap (a1.im*a1.im)))))) (i64.wrap ((i64.wrap ((i64.wrap (a0.im*a1.re)) - (i64.wrap (a0.re*a1.im)))).tdiv (i64.wrap ((i64.wrap (a1.re*a1.re))+(i64.wrap (a1.im*a1.im)))))))).bind fun x60=>some (x60.1,x60.2))
def PE(a0 a1:Aj):Option (Aj×Int):=
 bif ((i64.wrap ((i64.wrap (a1.re*a1.re))+(i64.wrap (a1.im*a1.im))))==(0:Int)) then (MN a0 a1 true) else ((nz (i64.wrap ((i64.wrap (a1.re*a1.re))+(i64.wrap (a1.im*a1.im))))).bind fun _=>bif (((i64.wrap ((i64.wrap (a0.re*a1.re))+(i64.wrap (a0.im*a1.im)))).tmod (i64.wrap ((i64.wrap (a1.re*a1.re))+(i64.wrap (a1.im*a1.im))))) != (0:Int)) then (MN a0 a1 true) else ((nz (i64.wrap ((i64.wrap (a1.re*a1.re))+(i64.wrap (a1.im*a1.im))))).bind fun _=>MN a0 a1 (((i64.wrap ((i64.wrap (a0.im*a1.re)) - (i64.wrap (a0.re*a1.im)))).tmod (i64.wrap ((i64.wrap (a1.re*a1.re))+(i64.wrap (a1.im*a1.im))))) != (0:Int))))
def M1(a0:Bool):Option (AH×Int):=
 some ((AH.mk (2:Int) ((0,0):Nat×Nat) a0 []),(0:Int))
def L1(x16:Bool):Option (Bool):=
 some x16
def Nd(a0 a1:Aj):Option (Bool):=
 bif (decide (a0.re<a1.re)) then (L1 true) else (bif (a0.re==a1.re) then (L1 (decide (a0.im<a1.im))) else (L1 false))
def Fr(a1:(List AH))(x156:(List Aj))(x160:Int)(self1:(Bool→(List Aj)→Int→Option (AH×Int)))(x331:Bool):Option (AH×Int):=
 (idx a1 x160).bind fun x335=>(Ec x335.num).bind fun x354=>(GS 16 x156 ([x354.1]:List Aj)).bind fun _=>self1 x331 (x156++([x354.1]:List Aj)) (i64.wrap (x160+(1:Int)))
def Ma(N:Nat)(a0:Int)(a1:(List AH))(x11:(Int×Int))(x155:Bool)(x156:(List Aj))(x160:Int)(self1:(Bool→(List Aj)→Int→Option (AH×Int)))(x300:Bool):Option (AH×Int):=
 bif x300 then ((idx a1 x160).bind fun x393=>(B4 N x393).bind fun x412=>bif x412 then (Fr a1 x156 x160 self1 (x393.type_==x11.2)) else (Fr a1 x156 x160 self1 false)) else (bif (!x155) then (some ((AH.mk (0:Int) ((0,0):Nat×Nat) false []),(3:Int))) else (bif (a0==(8:Int)) then ((idx x156 (0:Int)).bind fun x479=>(idx x156 (1:Int)).bind fun x492=>(PB x479 x492).bind fun x504=>(Ee x504.1 x504.2).bind fun x511=>some (x511.1,x511.2)) else (bif (a0==(9:Int)) then ((idx x156 (0:Int)).bind fun x584=>(idx x156 (1:Int)).bind fun x597=>(PC x584 x597).bind fun x609=>(Ee x609.1 x609.2).bind fun x616=>some (x616.1,x616.2)) else (bif (a0==(10:Int)) then ((idx x156 (0:Int)).bind fun x689=>(idx x156 (1:Int)).bind fun x702=>(PD x689 x702).bind fun x714=>(Ee x714.1 x714.2).bind fun x721=>some (x721.1,x721.2)) else (bif (a0==(11:Int)) then ((idx x156 (0:Int)).bind fun x794=>(idx x156 (1:Int)).bind fun x807=>(PE x794 x807).bind fun x819=>(Ee x819.1 x819.2).bind fun x826=>some (x826.1,x826.2)) else (bif (a0==(12:Int)) then ((idx x156 (0:Int)).bind fun x892=>(idx x156 (1:Int)).bind fun x905=>(M1 (x892.re==x905.re&&x892.im==x905.im)).bind fun x917=>some (x917.1,x917.2)) else (bif (a0==(13:Int)) then ((idx x156 (0:Int)).bind fun x988=>(idx x156 (1:Int)).bind fun x1001=>(Nd x988 x1001).bind fun x1013=>(M1 x1013).bind fun x1018=>some (x1018.1,x1018.2)) else (bif (a0==(14:Int)) then ((idx a1 (0:Int)).bind fun x1038=>(M1 (!x1038.bool)).bind fun x1057=>some (x1057.1,x1057.2)) else (bif (a0==(15:Int)) then ((idx x156 (0:Int)).bind fun x1077=>(Ee (Aj.mk x1077.re (0:Int)) (0:Int)).bind fun x1090=>some (x1090.1,x1090.2)) else (bif (a0==(16:Int)) then ((idx x156 (0:Int)).bind fun x1110=>(Ee (Aj.mk x1110.im (0:Int)) (0:Int)).bind fun x1123=>some (x1123.1,x1123.2)) else ((idx x156 (0:Int)).bind fun x1188=>(idx x156 (0:Int)).bind fun x1201=>(Ee (Aj.mk x1188.re (i64.wrap (0 - x1201.im))) (0:Int)).bind fun x1213=>some (x1213.1,x1213.2))))))))))))
def Cr(N:Nat)(a0:Int)(a1:(List AH))(x11:(Int×Int))(self1:Bool→(List Aj)→Int→Option (AH×Int))(x155:Bool)(x156:(List Aj))(x160:Int):Option (AH×Int):=
 bif x155 then (Ma N a0 a1 x11 x155 x156 x160 self1 (decide (x160<x11.1))) else (Ma N a0 a1 x11 x155 x156 x160 self1 false)
def Bx(N:Nat)(a0:Int)(a1:(List AH))(x11:(Int×Int)):Nat→Bool→(List Aj)→Int→Option (AH×Int)
 |0=>fun _ _ _=>none
 |k+1=>Cr N a0 a1 x11 (Bx N a0 a1 x11 k)
def OX(N:Nat)(a0:Int)(a1:(List AH))(x11:(Int×Int))(x21:Bool):Option (AH×Int):=
 Bx N a0 a1 x11 N x21 ([]:List Aj) (0:Int)
def G4(N:Nat)(a0:Int)(a1:(List AH)):Option (AH×Int):=
 (M0 a0).bind fun x11=>bif (decide (x11.1>(0:Int))) then (OX N a0 a1 x11 ((a1.length:Int)==x11.1)) else (OX N a0 a1 x11 false)
structure AT where
 ref11_Machine_look:Ak→AB→Nm→Option (Th×Ak)
 ref11_Machine_of:Ak→Th→Option (Th×Ak)
 ref11_Machine_inside:Ak→AB→Nm→Option (Th×Ak)
def Jx(φ:AT)(ao0:Ak)(a1:AB)(a2:Nm)(x265:(List AK))(x270:Int)(x271 x272:Bts)(x273:Int)(x274:(Nat×Nat))(x275:(List AB))(x279:Int)(self1:Nm→Int→Option (Th×Ak))(x351:Nm)(x354:Int):Option (Th×Ak):=
 bif (decide (x354< (a1.args.length:Int))) then ((idx x265 x354).bind fun x431=>(idx a1.args x354).bind fun x445=>self1 (Nm.bind x431.name (Th.later x445 a2) x351) (i64.wrap (x354+(1:Int)))) else ((φ.ref11_Machine_look (Ak.mk (AL.mk ao0.p.funcs) ao0.most (i64.wrap (ao0.cost+(1:Int))) ao0.why) (AB.mk x270 x271 x272 x273 x274 x275 x279) x351).bind fun x493=>some (x493.1,x493.2))
def Ip(φ:AT)(ao0:Ak)(a1:AB)(a2:Nm)(x265:(List AK))(x270:Int)(x271 x272:Bts)(x273:Int)(x274:(Nat×Nat))(x275:(List AB))(x279:Int):Nat→Nm→Int→Option (Th×Ak)
 |0=>fun _ _=>none
 |k+1=>Jx φ ao0 a1 a2 x265 x270 x271 x272 x273 x274 x275 x279 (Ip φ ao0 a1 a2 x265 x270 x271 x272 x273 x274 x275 x279 k)
def Lp(φ:AT)(N:Nat)(ao0:Ak)(a1:AB)(a2:Nm)(x265:(List AK))(x270:Int)(x271 x272:Bts)(x273:Int)(x274:(Nat×Nat))(x275:(List AB))(x279:Int):Option (Th×Ak):=
 Ip φ ao0 a1 a2 x265 x270 x271 x272 x273 x274 x275 x279 N Nm.nil (0:Int)
def Lq(ao0:Ak)(x694:Th):Option (Th×Ak):=
 some (x694,(Ak.mk (AL.mk ao0.p.funcs) ao0.most (i64.wrap (ao0.cost+(1:Int))) ao0.why))
def CB(φ:AT)(N:Nat)(ao0:Ak)(a1:AB)(a2:Nm)(x77:Bool):Option (Th×Ak):=
 bif x77 then (some ((Th.done (AH.mk (2:Int) ((0,0):Nat×Nat) (a1.op==(2:Int)) []) Th.nil Th.nil),(Ak.mk (AL.mk ao0.p.funcs) ao0.most (i64.wrap (ao0.cost+(1:Int))) ao0.why))) else (bif (a1.op==(4:Int)) then (some ((Th.done (AH.mk (3:Int) ((0,0):Nat×Nat) false []) Th.nil Th.nil),(Ak.mk (AL.mk ao0.p.funcs) ao0.most (i64.wrap (ao0.cost+(1:Int))) ao0.why))) else (bif (a1.op==(5:Int)) then ((LB (Ak.mk (AL.mk ao0.p.funcs) ao0.most (i64.wrap (ao0.cost+(1:Int))) ao0.why) (52:Int)).bind fun x111=>some (x111.1,x111.2)) else (bif (a1.op==(6:Int)) then ((L6 N a2 a1.name).bind fun x132=>(φ.ref11_Machine_of (Ak.mk (AL.mk ao0.p.funcs) ao0.most (i64.wrap (ao0.cost+(1:Int))) ao0.why) x132).bind fun x142=>some (x142.1,x142.2)) else (bif (a1.op==(7:Int)) then ((Ey N (AL.mk ao0.p.funcs) a1.name).bind fun x551=>Lp φ N ao0 a1 a2 x551.1.params x551.1.body.op x551.1.body.name x551.1.body.tail x551.1.body.type_ x551.1.body.num x551.1.body.args x551.1.body.at_) else (bif (a1.op==(18:Int)) then ((idx a1.args (0:Int)).bind fun x706=>(idx a1.args (1:Int)).bind fun x725=>Lq ao0 (Th.done (AH.mk (0:Int) ((0,0):Nat×Nat) false []) (Th.later x706 a2) (Th.later x725 a2))) else ((φ.ref11_Machine_inside (Ak.mk (AL.mk ao0.p.funcs) ao0.most (i64.wrap (ao0.cost+(1:Int))) ao0.why) a1 a2).bind fun x824=>some (x824.1,x824.2)))))))
def BI(φ:AT)(N:Nat)(ao0:Ak)(a1:AB)(a2:Nm):Option (Th×Ak):=
 bif (ao0.why != (0:Int)) then (some ((Th.later (AB.mk (0:Int) ([]:List UInt8) ([]:List UInt8) (0:Int) ((0,0):Nat×Nat) [] (0:Int)) Nm.nil),ao0)) else (bif (decide (ao0.cost≥ao0.most)) then ((LB ao0 (60:Int)).bind fun x40=>some (x40.1,x40.2)) else (bif (a1.op==(1:Int)) then (some ((Th.done (AH.mk (1:Int) a1.num false []) Th.nil Th.nil),(Ak.mk (AL.mk ao0.p.funcs) ao0.most (i64.wrap (ao0.cost+(1:Int))) ao0.why))) else (bif (a1.op==(2:Int)) then (CB φ N ao0 a1 a2 (a1.op==(2:Int))) else (CB φ N ao0 a1 a2 (a1.op==(3:Int))))))
def MI(φ:AT)(ao0:Ak)(a1:Th)(x41:Bool):Option (Th×Ak):=
 bif x41 then (some (a1,ao0)) else ((a1.view).bind fun x98=>(φ.ref11_Machine_look ao0 x98.e x98.names).bind fun x131=>some (x131.1,x131.2))
def LC(φ:AT)(_N:Nat)(ao0:Ak)(a1:Th):Option (Th×Ak):=
 bif (ao0.why != (0:Int)) then (MI φ ao0 a1 true) else ((a1.view).bind fun x150=>MI φ ao0 a1 x150.known)
def DQ(φ:AT)(a1:AB)(a2:Nm)(x195:(Th×Ak))(x245:Bool):Option (Th×Ak):=
 bif x245 then ((idx a1.args (1:Int)).bind fun x251=>(φ.ref11_Machine_look x195.2 x251 a2).bind fun x273=>some (x273.1,x273.2)) else ((idx a1.args (2:Int)).bind fun x536=>(x195.1.view).bind fun x556=>(φ.ref11_Machine_look x195.2 x536 (Nm.bind a1.tail x556.tail (Nm.bind a1.name x556.head a2))).bind fun x615=>some (x615.1,x615.2))
def As(φ:AT)(N:Nat)(a1:AB)(a2:Nm)(self1:(List AH)→Int→(List AE)→Int→Int→Int→Option (Th×Ak))(x1043:(List AH))(x1047:Int)(x1048:(List AE))(x1052 x1053 x1054:Int):Option (Th×Ak):=
 bif (decide (x1047< (a1.args.length:Int))) then ((idx a1.args x1047).bind fun x1189=>(φ.ref11_Machine_look (Ak.mk (AL.mk x1048) x1052 x1053 x1054) x1189 a2).bind fun x1208=>(x1208.1.view).bind fun x1226=>(GS 56 x1043 ([x1226.value]:List AH)).bind fun _=>self1 (x1043++([x1226.value]:List AH)) (i64.wrap (x1047+(1:Int))) x1208.2.p.funcs x1208.2.most x1208.2.cost x1208.2.why) else (bif (x1054 != (0:Int)) then (some ((Th.later (AB.mk (0:Int) ([]:List UInt8) ([]:List UInt8) (0:Int) ((0,0):Nat×Nat) [] (0:Int)) Nm.nil),(Ak.mk (AL.mk x1048) x1052 x1053 x1054))) else ((G4 N a1.op x1043).bind fun x1299=>bif (x1299.2 != (0:Int)) then ((LB (Ak.mk (AL.mk x1048) x1052 x1053 x1054) x1299.2).bind fun x1326=>some (x1326.1,x1326.2)) else (some ((Th.done x1299.1 Th.nil Th.nil),(Ak.mk (AL.mk x1048) x1052 x1053 x1054)))))
def BU(φ:AT)(N:Nat)(a1:AB)(a2:Nm):Nat→(List AH)→Int→(List AE)→Int→Int→Int→Option (Th×Ak)
 |0=>fun _ _ _ _ _ _=>none
 |k+1=>As φ N a1 a2 (BU φ N a1 a2 k)
def BQ(φ:AT)(N:Nat)(ao0:Ak)(a1:AB)(a2:Nm):Option (Th×Ak):=
 bif (a1.op==(19:Int)) then ((idx a1.args (0:Int)).bind fun x22=>(φ.ref11_Machine_look ao0 x22 a2).bind fun x44=>(x44.1.view).bind fun x62=>bif x62.value.bool then ((idx a1.args (1:Int)).bind fun x95=>(φ.ref11_Machine_look x44.2 x95 a2).bind fun x115=>some (x115.1,x115.2)) else ((idx a1.args (2:Int)).bind fun x134=>(φ.ref11_Machine_look x44.2 x134 a2).bind fun x154=>some (x154.1,x154.2))) else (bif (a1.op==(20:Int)) then ((idx a1.args (0:Int)).bind fun x173=>(φ.ref11_Machine_look ao0 x173 a2).bind fun x195=>bif (x195.2.why != (0:Int)) then (DQ φ a1 a2 x195 true) else ((x195.1.view).bind fun x634=>DQ φ a1 a2 x195 (!x634.pair))) else (bif (a1.op==(21:Int)) then ((idx a1.args (0:Int)).bind fun x669=>(idx a1.args (1:Int)).bind fun x706=>(φ.ref11_Machine_look ao0 x706 (Nm.letrec a1.name x669 a2)).bind fun x735=>some (x735.1,x735.2)) else (bif (a1.op==(22:Int)) then ((idx a1.args (0:Int)).bind fun x754=>(φ.ref11_Machine_look ao0 x754 a2).bind fun x776=>(idx a1.args (1:Int)).bind fun x877=>(φ.ref11_Machine_look x776.2 x877 (Nm.bind a1.name x776.1 a2)).bind fun x911=>some (x911.1,x911.2)) else (BU φ N a1 a2 N ([]:List AH) (0:Int) ao0.p.funcs ao0.most ao0.cost ao0.why))))
def AT.at:Nat→AT
 |0=>⟨fun _ _ _=>none,fun _ _=>none,fun _ _ _=>none⟩
 |n+1=>⟨BI (AT.at n) n,LC (AT.at n) n,BQ (AT.at n) n⟩
def ref11_Machine_look(N:Nat):Ak→AB→Nm→Option (Th×Ak):=(AT.at N).ref11_Machine_look
def ref11_Machine_of(N:Nat):Ak→Th→Option (Th×Ak):=(AT.at N).ref11_Machine_of
def ref11_Machine_inside(N:Nat):Ak→AB→Nm→Option (Th×Ak):=(AT.at N).ref11_Machine_inside
def B0(N:Nat)(x382:Th)(x385:(List AE))(x389 x390 x391:Int)(x392:(List (Nat×Nat)))(self1:(Th→(List AE)→Int→Int→Int→(List (Nat×Nat))→Option (AH×Ak)))(x725:Bool):Option (AH×Ak):=
 bif x725 then ((x382.view).bind fun x731=>(ref11_Machine_of N (Ak.mk (AL.mk x385) x389 x390 x391) x731.head).bind fun x764=>(x764.1.view).bind fun x839=>(GS 16 x392 ([x839.value.num]:List (Nat×Nat))).bind fun _=>(ref11_Machine_of N x764.2 x731.tail).bind fun x901=>self1 x901.1 x901.2.p.funcs x901.2.most x901.2.cost x901.2.why (x392++([x839.value.num]:List (Nat×Nat)))) else (some ((AH.mk (3:Int) ((0,0):Nat×Nat) false x392),(Ak.mk (AL.mk x385) x389 x390 x391)))
def D9(N:Nat)(self1:Th→(List AE)→Int→Int→Int→(List (Nat×Nat))→Option (AH×Ak))(x382:Th)(x385:(List AE))(x389 x390 x391:Int)(x392:(List (Nat×Nat))):Option (AH×Ak):=
 bif (x391==(0:Int)) then ((x382.view).bind fun x937=>B0 N x382 x385 x389 x390 x391 x392 self1 x937.pair) else (B0 N x382 x385 x389 x390 x391 x392 self1 false)
def CH(N:Nat):Nat→Th→(List AE)→Int→Int→Int→(List (Nat×Nat))→Option (AH×Ak)
 |0=>fun _ _ _ _ _ _=>none
 |k+1=>D9 N (CH N k)
def Gi(N:Nat)(ao0:Ak)(a1:Th)(x49:Bool):Option (AH×Ak):=
 bif x49 then ((a1.view).bind fun x55=>some (x55.value,ao0)) else (CH N N a1 ao0.p.funcs ao0.most ao0.cost ao0.why ([]:List (Nat×Nat)))
def IA(N:Nat)(ao0:Ak)(a1:Th):Option (AH×Ak):=
 bif (ao0.why==(0:Int)) then ((a1.view).bind fun x974=>Gi N ao0 a1 (!x974.pair)) else (Gi N ao0 a1 false)
def Gj(N:Nat)(a0:AL)(a2:(List AH))(a3:Int)(x40:(AE×Bool))(self1:Nm→Int→Option (BR))(x159:Nm)(x162:Int):Option (BR):=
 bif (decide (x162< (a2.length:Int))) then ((idx x40.1.params x162).bind fun x238=>(idx a2 x162).bind fun x251=>(OW N x251).bind fun x270=>self1 (Nm.bind x238.name x270 x159) (i64.wrap (x162+(1:Int)))) else ((ref11_Machine_look N (Ak.mk a0 (if (16384:Int)< (if a3< (0:Int) then (0:Int) else a3) then (16384:Int) else (if a3< (0:Int) then (0:Int) else a3)) (0:Int) (0:Int)) (AB.mk x40.1.body.op x40.1.body.name x40.1.body.tail x40.1.body.type_ x40.1.body.num x40.1.body.args x40.1.body.at_) x159).bind fun x294=>(IA N x294.2 x294.1).bind fun x312=>bif (x312.2.why != (0:Int)) then (some (BR.mk x312.2.why (AH.mk (0:Int) ((0,0):Nat×Nat) false []) x312.2.cost (0:Int) (0:Int) (0:Int))) else (some (BR.mk (0:Int) x312.1 x312.2.cost (0:Int) (0:Int) (0:Int))))
def JJ(N:Nat)(a0:AL)(a2:(List AH))(a3:Int)(x40:(AE×Bool)):Nat→Nm→Int→Option (BR)
 |0=>fun _ _=>none
 |k+1=>Gj N a0 a2 a3 x40 (JJ N a0 a2 a3 x40 k)
def Lt(N:Nat)(a0:AL)(a1:Bts)(a2:(List AH))(a3:Int):Option (BR):=
 (Dx N a0).bind fun x25=>bif (x25.why != (0:Int)) then (some (BR.mk (3:Int) (AH.mk (0:Int) ((0,0):Nat×Nat) false []) (0:Int) (0:Int) (0:Int) (0:Int))) else ((Ey N a0 a1).bind fun x40=>bif (!x40.2) then (some (BR.mk (32:Int) (AH.mk (0:Int) ((0,0):Nat×Nat) false []) (0:Int) (0:Int) (0:Int) (0:Int))) else ((FX N x40.1 a2).bind fun x80=>bif (!x80) then (some (BR.mk (40:Int) (AH.mk (0:Int) ((0,0):Nat×Nat) false []) (0:Int) (0:Int) (0:Int) (0:Int))) else (JJ N a0 a2 a3 x40 N Nm.nil (0:Int))))
def KY(a0 a1:AH)(self1:Int→Option (Bool))(x100:Int):Option (Bool):=
 bif (decide (x100< (a0.list.length:Int))) then ((idx a0.list x100).bind fun x155=>(idx a1.list x100).bind fun x169=>bif (cne x155 x169) then (some false) else (self1 (i64.wrap (x100+(1:Int))))) else (some true)
def JK(a0 a1:AH):Nat→Int→Option (Bool)
 |0=>fun _=>none
 |k+1=>KY a0 a1 (JK a0 a1 k)
def HR(N:Nat)(a0 a1:AH)(x54:Bool):Option (Bool):=
 bif x54 then (some false) else (JK a0 a1 N (0:Int))
def JL(N:Nat)(a0 a1:AH):Option (Bool):=
 (B4 N a0).bind fun x185=>bif (!x185) then (HR N a0 a1 true) else ((B4 N a1).bind fun x193=>bif (!x193) then (HR N a0 a1 true) else (bif (a0.type_ != a1.type_) then (HR N a0 a1 true) else (bif (cne a0.num a1.num) then (HR N a0 a1 true) else (bif (!(a0.bool==a1.bool)) then (HR N a0 a1 true) else (HR N a0 a1 ((a0.list.length:Int) != (a1.list.length:Int)))))))
def Hn(x47:Bool):Option (Bool):=
 some x47
def Jk(N:Nat)(a0 a1:AH)(x27:Bool):Option (Bool):=
 bif x27 then (bif (ceq a0.num ((0,0):Nat×Nat)) then (bif (ceq a1.num ((0,0):Nat×Nat)) then (bif (!a0.bool) then (bif (!a1.bool) then (bif ((a0.list.length:Int)==(0:Int)) then (Hn ((a1.list.length:Int)==(0:Int))) else (Hn false)) else (Hn false)) else (Hn false)) else (Hn false)) else (Hn false)) else ((JL N a0 a1).bind fun x70=>some x70)
def G5(N:Nat)(a0 a1:AH):Option (Bool):=
 bif (a0.type_==(0:Int)) then (Jk N a0 a1 (a1.type_==(0:Int))) else (Jk N a0 a1 false)
structure Ci where
 law11_part:Nat→(Nat×Nat)→Option (AB)
def I6(φ:Ci)(_N a0:Nat)(a1:(Nat×Nat)):Option (AB):=
 bif (flt_ a0 (0:Nat)) then ((φ.law11_part (Op.negFloat .f64 a0) a1).bind fun x8=>some (AB.mk (9:Int) ([]:List UInt8) ([]:List UInt8) (0:Int) ((0,0):Nat×Nat) ([(AB.mk (1:Int) ([]:List UInt8) ([]:List UInt8) (0:Int) ((0,0):Nat×Nat) [] (0:Int)),x8]:List AB) (0:Int))) else (bif (feq a1.1 (0:Nat)) then (some (AB.mk (1:Int) ([]:List UInt8) ([]:List UInt8) (0:Int) ((0:Nat),a0) [] (0:Int))) else (some (AB.mk (1:Int) ([]:List UInt8) ([]:List UInt8) (0:Int) (a0,(0:Nat)) [] (0:Int))))
def Ci.at:Nat→Ci
 |0=>⟨fun _ _=>none⟩
 |n+1=>⟨I6 (Ci.at n) n⟩
def law11_part(N:Nat):Nat→(Nat×Nat)→Option (AB):=(Ci.at N).law11_part
def GK(N:Nat)(a0:(Nat×Nat)):Option (AB):=
 (law11_part N a0.1 ((4607182418800017408,0):Nat×Nat)).bind fun x7=>(law11_part N a0.2 ((0,4607182418800017408):Nat×Nat)).bind fun x20=>some (AB.mk (8:Int) ([]:List UInt8) ([]:List UInt8) (0:Int) ((0,0):Nat×Nat) ([x7,x20]:List AB) (0:Int))
def Gk(N:Nat)(a0:AH)(self1:Int→Int→(List AB)→Option (AB))(x227 x228:Int)(x229:(List AB)):Option (AB):=
 bif (decide (x227≥(0:Int))) then ((idx a0.list x227).bind fun x384=>(GK N x384).bind fun x398=>self1 (i64.wrap (x227 - (1:Int))) (18:Int) ([x398,(AB.mk x228 ([]:List UInt8) ([]:List UInt8) (0:Int) ((0,0):Nat×Nat) x229 (0:Int))]:List AB)) else (some (AB.mk x228 ([]:List UInt8) ([]:List UInt8) (0:Int) ((0,0):Nat×Nat) x229 (0:Int)))
def FR(N:Nat)(a0:AH):Nat→Int→Int→(List AB)→Option (AB)
 |0=>fun _ _ _=>none
 |k+1=>Gk N a0 (FR N a0 k)
def Ds(N:Nat)(a0:AH):Option (AB):=
 bif (a0.type_==(2:Int)) then (bif a0.bool then (some (AB.mk (2:Int) ([]:List UInt8) ([]:List UInt8) (0:Int) ((0,0):Nat×Nat) [] (0:Int))) else (some (AB.mk (3:Int) ([]:List UInt8) ([]:List UInt8) (0:Int) ((0,0):Nat×Nat) [] (0:Int)))) else (bif (a0.type_==(1:Int)) then ((GK N a0.num).bind fun x31=>some x31) else (FR N a0 N (i64.wrap ((a0.list.length:Int) - (1:Int))) (4:Int) ([]:List AB)))
def Jy(x1320:Bool):Option (Bool):=
 some x1320
def HJ(x1340:Bool):Option (Bool):=
 some x1340
def F3(N:Nat)(x1260 x1286:BR)(x1312:Bool):Option (Bool):=
 bif x1312 then (bif (x1286.why != (0:Int)) then (Jy true) else (Jy (x1260.why != (0:Int)))) else (bif (x1260.why==x1286.why) then ((G5 N (AH.mk x1260.value.type_ x1260.value.num x1260.value.bool x1260.value.list) (AH.mk x1286.value.type_ x1286.value.num x1286.value.bool x1286.value.list)).bind fun x1349=>bif x1349 then (HJ (decide (x1286.moves>x1260.moves))) else (HJ false)) else (HJ false))
def F4(N:Nat)(a0:D5)(x21:(AL×(List AH)×Bool))(x1243:Bool)(x1244:(List AE)):Option (Bool):=
 bif x1243 then (some true) else ((FM N x21.1 a0.name x21.2.1 (1000:Int)).bind fun x1260=>(FM N (AL.mk x1244) ([122,122]:List UInt8) [] (16384:Int)).bind fun x1286=>bif (x1260.why==(60:Int)) then (F3 N x1260 x1286 true) else (F3 N x1260 x1286 (x1286.why==(60:Int))))
def F5(N:Nat)(a0:D5)(x21:(AL×(List AH)×Bool))(x256:Int)(x1220:(List AE)):Option (Bool):=
 bif (decide (x256>(200:Int))) then (F4 N a0 x21 true x1220) else ((Dx N (AL.mk x1220)).bind fun x1369=>F4 N a0 x21 (x1369.why != (0:Int)) x1220)
def FY(N:Nat)(a0:D5)(x21:(AL×(List AH)×Bool))(x53:(AE×Bool))(self1:Int→Int→(List AB)→Option (Bool))(x256 x257:Int)(x258:(List AB)):Option (Bool):=
 bif (decide (x257< (x21.2.1.length:Int))) then ((idx x21.2.1 x257).bind fun x472=>(Ds N x472).bind fun x491=>(GS 96 x258 ([x491]:List AB)).bind fun _=>self1 (i64.wrap (x256+(x472.list.length:Int))) (i64.wrap (x257+(1:Int))) (x258++([x491]:List AB))) else ((GS 152 ([]:List AE) x21.1.funcs).bind fun _=>(GS 152 (([]:List AE)++x21.1.funcs) ([(AE.mk ([122,122]:List UInt8) [] x53.1.type_ (AB.mk (7:Int) x53.1.name ([]:List UInt8) (0:Int) ((0,0):Nat×Nat) x258 (0:Int)) (0:Int))]:List AE)).bind fun _=>F5 N a0 x21 x256 ((([]:List AE)++x21.1.funcs)++([(AE.mk ([122,122]:List UInt8) [] x53.1.type_ (AB.mk (7:Int) x53.1.name ([]:List UInt8) (0:Int) ((0,0):Nat×Nat) x258 (0:Int)) (0:Int))]:List AE)))
def EI(N:Nat)(a0:D5)(x21:(AL×(List AH)×Bool))(x53:(AE×Bool)):Nat→Int→Int→(List AB)→Option (Bool)
 |0=>fun _ _ _=>none
 |k+1=>FY N a0 x21 x53 (EI N a0 x21 x53 k)
def F6(N:Nat)(a0:D5)(x21:(AL×(List AH)×Bool))(x53:(AE×Bool))(x105:Bool):Option (Bool):=
 bif x105 then (some true) else (EI N a0 x21 x53 N (0:Int) (0:Int) ([]:List AB))
def CC(N:Nat)(a0:D5):Option (Bool):=
 (Hj N).bind fun x13=>bif (!x13) then (some false) else ((B5 N a0).bind fun x21=>(Ey N x21.1 a0.name).bind fun x53=>bif (!x21.2.2) then (F6 N a0 x21 x53 true) else (bif (!x53.2) then (F6 N a0 x21 x53 true) else ((Dx N x21.1).bind fun x2078=>bif (x2078.why != (0:Int)) then (F6 N a0 x21 x53 true) else ((FX N x53.1 x21.2.1).bind fun x2090=>F6 N a0 x21 x53 (!x2090)))))
end Fth
