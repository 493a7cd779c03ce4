/- Part 3 of the proof: what it says holds of the given program; no condition. -/
import Derived.Test.YtiodboehkcmdnaaGreatProg
import Derived.KernelRfl
import Derived.Test.YtiodboehkcmdnaaGreatRB
set_option linter.all false
set_option exponentiation.threshold 3000
namespace Fth
open Go Go.Proofs Sh
set_option maxRecDepth 100000
set_option maxHeartbeats 8000000
noncomputable abbrev PG:Program:=Tryz.prog
def G7:Kd Ao:=Wf 89 90
theorem Cl{F:Nat→Prop}{a:World}{c hv tv:Value}{x:Ao}(d:Slc Kd.cpx F a c x.plain.list)(e:MTh 89 90 F a hv x.head)(f:MTh 89 90 F a tv x.tail):G7.rep F a [I x.plain.type_,Cx x.plain.num,.bool x.plain.bool,c,hv,tv] x:=⟨_,_,_,rfl,d,e,f⟩
theorem DU{F:Nat→Prop}{a:World}{cs:List Value}{x:Ao}(h:G7.rep F a cs x):∃c hv tv,cs=[I x.plain.type_,Cx x.plain.num,.bool x.plain.bool,c,hv,tv]∧Slc Kd.cpx F a c x.plain.list∧MTh 89 90 F a hv x.head∧MTh 89 90 F a tv x.tail:=h
abbrev E0:=kt (PG.follows .mixedOrders)
abbrev J0:=kt (My PG 111 2)
abbrev IK:=kt (My PG 159 4)
abbrev AAM:=kt (My PG 24 3)
abbrev Gi:=kt (My PG 28 1)
abbrev Du:=kt (My PG 38 4)
abbrev Pm:=kt (My PG 40 9)
abbrev A8:=kt (My PG 56 7)
abbrev Kq:=kt (My PG 58 11)
abbrev Ka:=kt (My PG 63 2)
abbrev X9:=kt (My PG 76 4)
abbrev Wi:=kt (My PG 87 3)
abbrev Jm:=kt (My PG 96 6)
theorem PL:PG.underlying 22=some (.slice 5)∧PG.underlying 5=some (.int .u8)∧PG.underlying 9=some .string:=by exact ⟨by kernel_rfl,by kernel_rfl,by kernel_rfl⟩
theorem Wj:PG.underlying 145=some (.float .f64)∧PG.underlying 3=some (.int .i64):=by exact ⟨by kernel_rfl,by kernel_rfl⟩
theorem AAN{ρ:Env}{a:World}{d:Option Nat}{ty:Nat}{pos:String}{af:Array Edge}{g:Option (Nat×Bool)}{x:Operand}{xs:List Operand}{vs caps:List Value}{ts:Array Nat}(hx:ev ρ x=.func (.func 52) #[] caps.toArray)(hv:xs.map (ev ρ)=vs):
 (execOp (ev ρ) ⟨d,.call {callee:=.value x,args:=xs.toArray,argTypes:=ts},ty,pos,af,g⟩).run PG a=.ok (.enter 52 (vs++caps).toArray) a:=Run.enterV Tryz.func52 rfl dcd hx hv
theorem Sj{ρ:Env}{a:World}{d:Option Nat}{ty:Nat}{pos:String}{af:Array Edge}{g:Option (Nat×Bool)}{x:Operand}{xs:List Operand}{vs caps:List Value}{ts:Array Nat}(hx:ev ρ x=.func (.func 79) #[] caps.toArray)(hv:xs.map (ev ρ)=vs):
 (execOp (ev ρ) ⟨d,.call {callee:=.value x,args:=xs.toArray,argTypes:=ts},ty,pos,af,g⟩).run PG a=.ok (.enter 79 (vs++caps).toArray) a:=Run.enterV Tryz.func79 rfl dcd hx hv
theorem AAO{ρ:Env}{a:World}{d:Option Nat}{ty:Nat}{pos:String}{af:Array Edge}{g:Option (Nat×Bool)}{x:Operand}{xs:List Operand}{vs caps:List Value}{ts:Array Nat}(hx:ev ρ x=.func (.func 81) #[] caps.toArray)(hv:xs.map (ev ρ)=vs):
 (execOp (ev ρ) ⟨d,.call {callee:=.value x,args:=xs.toArray,argTypes:=ts},ty,pos,af,g⟩).run PG a=.ok (.enter 81 (vs++caps).toArray) a:=Run.enterV Tryz.func81 rfl dcd hx hv
theorem AAP{ρ:Env}{a:World}{d:Option Nat}{ty:Nat}{pos:String}{af:Array Edge}{g:Option (Nat×Bool)}{x:Operand}{xs:List Operand}{vs caps:List Value}{ts:Array Nat}(hx:ev ρ x=.func (.func 84) #[] caps.toArray)(hv:xs.map (ev ρ)=vs):
 (execOp (ev ρ) ⟨d,.call {callee:=.value x,args:=xs.toArray,argTypes:=ts},ty,pos,af,g⟩).run PG a=.ok (.enter 84 (vs++caps).toArray) a:=Run.enterV Tryz.func84 rfl dcd hx hv
theorem AAQ{ρ:Env}{a:World}{d:Option Nat}{ty:Nat}{pos:String}{af:Array Edge}{g:Option (Nat×Bool)}{x:Operand}{xs:List Operand}{vs caps:List Value}{ts:Array Nat}(hx:ev ρ x=.func (.func 85) #[] caps.toArray)(hv:xs.map (ev ρ)=vs):
 (execOp (ev ρ) ⟨d,.call {callee:=.value x,args:=xs.toArray,argTypes:=ts},ty,pos,af,g⟩).run PG a=.ok (.enter 85 (vs++caps).toArray) a:=Run.enterV Tryz.func85 rfl dcd hx hv
theorem AAR{ρ:Env}{a:World}{d:Option Nat}{ty:Nat}{pos:String}{af:Array Edge}{g:Option (Nat×Bool)}{x:Operand}{xs:List Operand}{vs caps:List Value}{ts:Array Nat}(hx:ev ρ x=.func (.func 86) #[] caps.toArray)(hv:xs.map (ev ρ)=vs):
 (execOp (ev ρ) ⟨d,.call {callee:=.value x,args:=xs.toArray,argTypes:=ts},ty,pos,af,g⟩).run PG a=.ok (.enter 86 (vs++caps).toArray) a:=Run.enterV Tryz.func86 rfl dcd hx hv
theorem AAS{ρ:Env}{a:World}{d:Option Nat}{ty:Nat}{pos:String}{af:Array Edge}{g:Option (Nat×Bool)}{x:Operand}{xs:List Operand}{vs caps:List Value}{ts:Array Nat}(hx:ev ρ x=.func (.func 89) #[] caps.toArray)(hv:xs.map (ev ρ)=vs):
 (execOp (ev ρ) ⟨d,.call {callee:=.value x,args:=xs.toArray,argTypes:=ts},ty,pos,af,g⟩).run PG a=.ok (.enter 89 (vs++caps).toArray) a:=Run.enterV Tryz.func89 rfl dcd hx hv
theorem AAT{ρ:Env}{a:World}{d:Option Nat}{ty:Nat}{pos:String}{af:Array Edge}{g:Option (Nat×Bool)}{x:Operand}{xs:List Operand}{vs caps:List Value}{ts:Array Nat}(hx:ev ρ x=.func (.func 90) #[] caps.toArray)(hv:xs.map (ev ρ)=vs):
 (execOp (ev ρ) ⟨d,.call {callee:=.value x,args:=xs.toArray,argTypes:=ts},ty,pos,af,g⟩).run PG a=.ok (.enter 90 (vs++caps).toArray) a:=Run.enterV Tryz.func90 rfl dcd hx hv
theorem W8:Elt PG (Kd.int .i64) 114 3 8:=⟨by kernel_rfl,by kernel_rfl,⟨I 0,by kernel_rfl,by kernel_rfl⟩,by decide⟩
theorem W9:Elt PG Ac 121 159 48:=⟨by kernel_rfl,by kernel_rfl,⟨.agg #[I 0,.string ⟨#[]⟩,.complex .f64 0 0,I 0],by kernel_rfl,by kernel_rfl⟩,by decide⟩
theorem P9:Elt PG Al 149 63 16:=⟨by kernel_rfl,by kernel_rfl,⟨.agg #[I 0,I 0],by kernel_rfl,by kernel_rfl⟩,by decide⟩
theorem U2:Elt PG F3 181 184 104:=⟨by kernel_rfl,by kernel_rfl,⟨.agg #[I 0,.string ⟨#[]⟩,.string ⟨#[]⟩,I 0,.complex .f64 0 0,.slice none 0 0,I 0,.bool false],by kernel_rfl,by kernel_rfl⟩,by decide⟩
theorem YA:Elt PG Kd.u8 22 5 1:=⟨by kernel_rfl,by kernel_rfl,⟨.int .u8 0,by kernel_rfl,by kernel_rfl⟩,by decide⟩
theorem HK:Elt PG AH 26 58 152:=⟨by kernel_rfl,by kernel_rfl,⟨.agg #[.string ⟨#[]⟩,.slice none 0 0,I 0,I 0,.string ⟨#[]⟩,.string ⟨#[]⟩,I 0,.complex .f64 0 0,.slice none 0 0,I 0,I 0],by kernel_rfl,by kernel_rfl⟩,by decide⟩
theorem YB:Elt PG BD 29 38 56:=⟨by kernel_rfl,by kernel_rfl,⟨.agg #[I 0,.complex .f64 0 0,.bool false,.slice none 0 0],by kernel_rfl,by kernel_rfl⟩,by decide⟩
theorem YC:Elt PG Kd.cpx 36 35 16:=⟨by kernel_rfl,by kernel_rfl,⟨.complex .f64 0 0,by kernel_rfl,by kernel_rfl⟩,by decide⟩
theorem Pn:Elt PG AS 52 87 32:=⟨by kernel_rfl,by kernel_rfl,⟨.agg #[.string ⟨#[]⟩,I 0,I 0],by kernel_rfl,by kernel_rfl⟩,by decide⟩
theorem YD:Elt PG AJ 54 56 96:=⟨by kernel_rfl,by kernel_rfl,⟨.agg #[I 0,.string ⟨#[]⟩,.string ⟨#[]⟩,I 0,.complex .f64 0 0,.slice none 0 0,I 0],by kernel_rfl,by kernel_rfl⟩,by decide⟩
theorem No:Elt PG BY 68 9 16:=⟨by kernel_rfl,by kernel_rfl,⟨.string ⟨#[]⟩,by kernel_rfl,by kernel_rfl⟩,by decide⟩
abbrev L1:=kt (F2 PG 111 0 0)
abbrev Kn:=kt (F2 PG 111 1 1)
abbrev Xe:=kt (F2 PG 126 0 0)
abbrev GK:=kt (F2 PG 126 1 1)
abbrev I1:=kt (F2 PG 126 2 2)
abbrev Ub:=kt (F2 PG 126 3 3)
abbrev Ql:=kt (F2 PG 126 4 4)
abbrev Na:=kt (F2 PG 126 5 8)
abbrev Uc:=kt (F2 PG 134 0 0)
abbrev Qm:=kt (F2 PG 134 1 1)
abbrev FT:=kt (F2 PG 134 2 2)
abbrev Xf:=kt (F2 PG 134 3 3)
abbrev Ko:=kt (F2 PG 159 0 0)
abbrev FU:=kt (F2 PG 159 1 1)
abbrev Ud:=kt (F2 PG 159 2 2)
abbrev LL:=kt (F2 PG 159 3 3)
abbrev Xg:=kt (F2 PG 184 0 0)
abbrev Xh:=kt (F2 PG 184 1 7)
abbrev YE:=kt (F2 PG 24 0 0)
abbrev Vw:=kt (F2 PG 24 1 1)
abbrev YF:=kt (F2 PG 24 2 2)
abbrev EA:=kt (F2 PG 28 0 0)
abbrev Kb:=kt (F2 PG 38 0 0)
abbrev ID:=kt (F2 PG 38 1 1)
abbrev K7:=kt (F2 PG 38 2 2)
abbrev FZ:=kt (F2 PG 38 3 3)
abbrev Nb:=kt (F2 PG 40 0 0)
abbrev QA:=kt (F2 PG 40 1 1)
abbrev QB:=kt (F2 PG 40 2 5)
abbrev DZ:=kt (F2 PG 56 0 0)
abbrev EB:=kt (F2 PG 56 1 1)
abbrev MG:=kt (F2 PG 56 2 2)
abbrev K8:=kt (F2 PG 56 3 3)
abbrev YG:=kt (F2 PG 56 4 4)
abbrev Bl:=kt (F2 PG 56 5 5)
abbrev MH:=kt (F2 PG 56 6 6)
abbrev Li:=kt (F2 PG 58 0 0)
abbrev Eh:=kt (F2 PG 58 1 1)
abbrev Mg:=kt (F2 PG 58 2 2)
abbrev G8:=kt (F2 PG 58 3 3)
abbrev Vy:=kt (F2 PG 58 4 10)
abbrev Mh:=kt (F2 PG 63 0 0)
abbrev Oe:=kt (F2 PG 63 1 1)
abbrev QC:=kt (F2 PG 76 0 0)
abbrev YH:=kt (F2 PG 76 1 1)
abbrev YI:=kt (F2 PG 76 2 2)
abbrev YJ:=kt (F2 PG 76 3 3)
abbrev Sk:=kt (F2 PG 83 0 0)
abbrev YK:=kt (F2 PG 83 1 1)
abbrev Of:=kt (F2 PG 83 2 2)
abbrev YL:=kt (F2 PG 83 3 3)
abbrev Lj:=kt (F2 PG 87 0 0)
abbrev Og:=kt (F2 PG 87 1 1)
abbrev Vz:=kt (F2 PG 87 2 2)
abbrev YM:=kt (F2 PG 93 0 0)
abbrev V0:=kt (F2 PG 93 1 1)
abbrev YN:=kt (F2 PG 93 2 2)
abbrev YO:=kt (F2 PG 96 0 0)
abbrev Oh:=kt (F2 PG 96 1 4)
abbrev V1:=kt (F2 PG 96 2 5)
abbrev U3:=kt (Vt PG 90)
abbrev Qn:=kt (RJ PG 159 0 0)
abbrev Xi:=kt (RJ PG 159 3 3)
abbrev YP:=kt (RJ PG 38 1 1)
abbrev YQ:=kt (RJ PG 38 2 2)
abbrev Sm:=kt (RJ PG 63 0 0)
abbrev Sn:=kt (W5 PG 96 0 0 4)
theorem ZU:(PG.info? 33).map (·.zero)=some (some (I 0)):=by kernel_rfl
abbrev Kr:=kt (We PG 81 3)
theorem ZV:PG.underlying 22=some (.slice 5)∧PG.underlying 5=some (.int .u8):=by exact ⟨by kernel_rfl,by kernel_rfl⟩
theorem JR:(PG.info? 111).map (·.size)=some 2:=by kernel_rfl
theorem U4:(PG.info? 157).map (·.size)=some 1:=by kernel_rfl
theorem G3:(PG.info? 159).map (·.size)=some 4:=by kernel_rfl
theorem ZW:(PG.info? 169).map (·.size)=some 1:=by kernel_rfl
theorem AAU:(PG.info? 26).map (·.size)=some 1:=by kernel_rfl
theorem EY:(PG.info? 28).map (·.size)=some 1:=by kernel_rfl
theorem Mi:(PG.info? 3).map (·.size)=some 1:=by kernel_rfl
theorem Wk:(PG.info? 34).map (·.size)=some 1:=by kernel_rfl
theorem AAV:(PG.info? 35).map (·.size)=some 1:=by kernel_rfl
theorem YR:(PG.info? 36).map (·.size)=some 1:=by kernel_rfl
theorem GN:(PG.info? 38).map (·.size)=some 4:=by kernel_rfl
theorem NG:(PG.info? 40).map (·.size)=some 9:=by kernel_rfl
theorem Oi:(PG.info? 52).map (·.size)=some 1:=by kernel_rfl
theorem U5:(PG.info? 53).map (·.size)=some 1:=by kernel_rfl
theorem So:(PG.info? 54).map (·.size)=some 1:=by kernel_rfl
theorem DB:(PG.info? 56).map (·.size)=some 7:=by kernel_rfl
theorem Ks:(PG.info? 58).map (·.size)=some 11:=by kernel_rfl
theorem G0:(PG.info? 63).map (·.size)=some 2:=by kernel_rfl
theorem AAW:(PG.info? 76).map (·.size)=some 4:=by kernel_rfl
theorem AAX:(PG.info? 80).map (·.size)=some 1:=by kernel_rfl
theorem AAY:(PG.info? 81).map (·.size)=some 1:=by kernel_rfl
theorem Wm:(PG.info? 87).map (·.size)=some 3:=by kernel_rfl
theorem Sp:(PG.info? 9).map (·.size)=some 1:=by kernel_rfl
theorem AAZ:(PG.info? 90).map (·.size)=some 1:=by kernel_rfl
theorem JM:(PG.info? 96).map (·.size)=some 6:=by kernel_rfl
abbrev ZX:=kt (LF PG 121)
abbrev KJ:=kt (LF PG 130)
abbrev ZY:=kt (LF PG 132)
abbrev PM:=kt (LF PG 157)
abbrev QD:=kt (LF PG 169)
abbrev AAa:=kt (LF PG 22)
abbrev GO:=kt (LF PG 26)
abbrev CH:=kt (LF PG 3)
abbrev L2:=kt (LF PG 33)
abbrev EZ:=kt (LF PG 34)
abbrev IL:=kt (LF PG 35)
abbrev Jn:=kt (LF PG 36)
abbrev Oj:=kt (LF PG 4)
abbrev Mj:=kt (LF PG 5)
abbrev E4:=kt (LF PG 52)
abbrev Hr:=kt (LF PG 53)
abbrev EC:=kt (LF PG 54)
abbrev Qo:=kt (LF PG 80)
abbrev Ok:=kt (LF PG 81)
abbrev YS:=kt (LF PG 85)
abbrev B1:=kt (LF PG 9)
abbrev Ol:=kt (LF PG 90)
theorem Np:plc PG 111=some [(0,1),(1,1)]:=by kernel_rfl
theorem ZZ:plc PG 126=some [(0,1),(1,1),(2,1),(3,1),(4,4),(8,1)]:=by kernel_rfl
theorem Za:plc PG 134=some [(0,1),(1,1),(2,1),(3,1)]:=by kernel_rfl
theorem U6:plc PG 159=some [(0,1),(1,1),(2,1),(3,1)]:=by kernel_rfl
theorem XA:plc PG 184=some [(0,7),(7,1)]:=by kernel_rfl
theorem Tb.p24:plc PG 24=some [(0,1),(1,1),(2,1)]:=by kernel_rfl
theorem KG:plc PG 28=some [(0,1)]:=by kernel_rfl
theorem Jo:plc PG 38=some [(0,1),(1,1),(2,1),(3,1)]:=by kernel_rfl
theorem Qq:plc PG 40=some [(0,1),(1,4),(5,1),(6,1),(7,1),(8,1)]:=by kernel_rfl
theorem Jp:plc PG 56=some [(0,1),(1,1),(2,1),(3,1),(4,1),(5,1),(6,1)]:=by kernel_rfl
theorem YT:plc PG 58=some [(0,1),(1,1),(2,1),(3,7),(10,1)]:=by kernel_rfl
theorem ML:plc PG 63=some [(0,1),(1,1)]:=by kernel_rfl
theorem AAb:plc PG 76=some [(0,1),(1,1),(2,1),(3,1)]:=by kernel_rfl
theorem AAc:plc PG 83=some [(0,1),(1,1),(2,1),(3,1)]:=by kernel_rfl
theorem Qr:plc PG 87=some [(0,1),(1,1),(2,1)]:=by kernel_rfl
theorem Qs:plc PG 93=some [(0,1),(1,1),(2,1)]:=by kernel_rfl
theorem NH:plc PG 96=some [(0,4),(4,1),(5,1)]:=by kernel_rfl
abbrev SK:=kt (NV PG 114 3 1)
abbrev U7:=kt (NV PG 121 159 4)
abbrev NA:=kt (NV PG 149 63 2)
abbrev QE:=kt (NV PG 181 184 8)
abbrev Hs:=kt (NV PG 22 5 1)
abbrev Da:=kt (NV PG 26 58 11)
abbrev Mk:=kt (NV PG 29 38 4)
abbrev JN:=kt (NV PG 36 35 1)
abbrev ED:=kt (NV PG 52 87 3)
abbrev Cp:=kt (NV PG 54 56 7)
abbrev EE:=kt (NV PG 68 9 1)
theorem YU:PG.underlying 33=some (.int .i64):=by kernel_rfl
theorem JP:PG.underlying 9=some .string:=by kernel_rfl
theorem AAd:PG.underlying 4=some .bool:=by kernel_rfl
theorem Zb{ρ:Env}{a:World}{d:Option Nat}{ty:Nat}{pos:String}{af:Array Edge}{g:Option (Nat×Bool)}{xs:List Operand}{vs:List Value}{v:Value}{ts:Array Nat}(hv:xs.map (ev ρ)=vs)(hr:((Extern.MathFloor.toIntegral "math.archTrunc" .zero) vs.toArray).run PG a= .ok v a):
 (execOp (ev ρ) ⟨d,.call {callee:= .value (.func 135),args:=xs.toArray,argTypes:=ts},ty,pos,af,g⟩).run PG a= .ok (.value v) a:=Run.ext Tryz.func135 (by kernel_rfl) dcd (by kernel_rfl) (show Extern.find Tryz.f135=some (Extern.MathFloor.toIntegral "math.archTrunc" .zero) by kernel_rfl) hv hr
theorem Qt{ρ:Env}{a:World}{d:Option Nat}{ty:Nat}{pos:String}{af:Array Edge}{g:Option (Nat×Bool)}{xs:List Operand}{vs:List Value}{v:Value}{ts:Array Nat}(hv:xs.map (ev ρ)=vs)(hr:(Extern.MathFloatBits.float64frombits vs.toArray).run PG a=.ok v a):
 (execOp (ev ρ) ⟨d,.call {callee:=.value (.func 63),args:=xs.toArray,argTypes:=ts},ty,pos,af,g⟩).run PG a=.ok (.value v) a:=Run.ext Tryz.func63 (by kernel_rfl) dcd (by kernel_rfl) (show Extern.find Tryz.f63=some Extern.MathFloatBits.float64frombits by kernel_rfl) hv hr
theorem Om{ρ:Env}{a:World}{d:Option Nat}{ty:Nat}{pos:String}{af:Array Edge}{g:Option (Nat×Bool)}{xs:List Operand}{vs:List Value}{v:Value}{ts:Array Nat}(hv:xs.map (ev ρ)=vs)(hr:(Extern.MathFloatBits.float64bits vs.toArray).run PG a=.ok v a):
 (execOp (ev ρ) ⟨d,.call {callee:=.value (.func 93),args:=xs.toArray,argTypes:=ts},ty,pos,af,g⟩).run PG a=.ok (.value v) a:=Run.ext Tryz.func93 (by kernel_rfl) dcd (by kernel_rfl) (show Extern.find Tryz.f93=some Extern.MathFloatBits.float64bits by kernel_rfl) hv hr
theorem I8:(PG.info? 111).map (·.zero)=some (some (.agg #[I 0,I 0])):=by kernel_rfl
theorem Zc:(PG.info? 126).map (·.zero)=some (some (.agg #[.slice none 0 0,I 0,I 0,I 0,I 0,I 0,I 0,I 0,I 0])):=by kernel_rfl
theorem Zd:(PG.info? 134).map (·.zero)=some (some (.agg #[.map none,.slice none 0 0,.slice none 0 0,.nilFunc])):=by kernel_rfl
theorem Gj:(PG.info? 159).map (·.zero)=some (some (.agg #[I 0,.string ⟨#[]⟩,.complex .f64 0 0,I 0])):=by kernel_rfl
theorem Ze:(PG.info? 169).map (·.zero)=some (some .nilFunc):=by kernel_rfl
theorem SL:(PG.info? 184).map (·.zero)=some (some (.agg #[I 0,.string ⟨#[]⟩,.string ⟨#[]⟩,I 0,.complex .f64 0 0,.slice none 0 0,I 0,.bool false])):=by kernel_rfl
theorem AAe:(PG.info? 24).map (·.zero)=some (some (.agg #[.slice none 0 0,.string ⟨#[]⟩,.string ⟨#[]⟩])):=by kernel_rfl
theorem DV:(PG.info? 28).map (·.zero)=some (some (.agg #[.slice none 0 0])):=by kernel_rfl
theorem ABQ:(PG.info? 3).map (·.zero)=some (some (I 0)):=by kernel_rfl
theorem YV:(PG.info? 35).map (·.zero)=some (some (.complex .f64 0 0)):=by kernel_rfl
theorem FV:(PG.info? 38).map (·.zero)=some (some (.agg #[I 0,.complex .f64 0 0,.bool false,.slice none 0 0])):=by kernel_rfl
theorem Ml:(PG.info? 40).map (·.zero)=some (some (.agg #[I 0,I 0,.complex .f64 0 0,.bool false,.slice none 0 0,I 0,I 0,I 0,I 0])):=by kernel_rfl
theorem YW:(PG.info? 5).map (·.zero)=some (some (.int .u8 0)):=by kernel_rfl
theorem CB:(PG.info? 56).map (·.zero)=some (some (.agg #[I 0,.string ⟨#[]⟩,.string ⟨#[]⟩,I 0,.complex .f64 0 0,.slice none 0 0,I 0])):=by kernel_rfl
theorem Fs:(PG.info? 58).map (·.zero)=some (some (.agg #[.string ⟨#[]⟩,.slice none 0 0,I 0,I 0,.string ⟨#[]⟩,.string ⟨#[]⟩,I 0,.complex .f64 0 0,.slice none 0 0,I 0,I 0])):=by kernel_rfl
theorem E5:(PG.info? 63).map (·.zero)=some (some (.agg #[I 0,I 0])):=by kernel_rfl
theorem YX:(PG.info? 76).map (·.zero)=some (some (.agg #[I 0,I 0,I 0,I 0])):=by kernel_rfl
theorem AAf:(PG.info? 80).map (·.zero)=some (some (.pointer none)):=by kernel_rfl
theorem AAg:(PG.info? 81).map (·.zero)=some (some (.map none)):=by kernel_rfl
theorem AAh:(PG.info? 83).map (·.zero)=some (some (.agg #[.map none,.slice none 0 0,I 0,I 0])):=by kernel_rfl
theorem Lm:(PG.info? 87).map (·.zero)=some (some (.agg #[.string ⟨#[]⟩,I 0,I 0])):=by kernel_rfl
theorem Mm:(PG.info? 9).map (·.zero)=some (some (.string ⟨#[]⟩)):=by kernel_rfl
theorem Qu:(PG.info? 93).map (·.zero)=some (some (.agg #[.string ⟨#[]⟩,.nilFunc,.pointer none])):=by kernel_rfl
theorem Kc:(PG.info? 96).map (·.zero)=some (some (.agg #[I 0,.complex .f64 0 0,.bool false,.slice none 0 0,.nilFunc,.nilFunc])):=by kernel_rfl
theorem AAi:(PG.info? 5).map (·.zero)=some (some (.int .u8 0)):=by kernel_rfl
theorem Xj(e f:Value)(d:World):
  CallsD PG 32 [e,f].toArray .returning d fun g u' l=>(∃v,g=.returned v)∧u'=.returning∧l=d:=by
 refine Oa (rv:=.nilIface) (u1:=.returning) Tryz.func32 rfl Tryz.ntmps32 rfl (fun c cs h=>.inr ⟨T0 c cs h,rfl,rfl⟩) fun c cs K hu hK m n=>LS.recover (v:=.nilIface) (cs':=m) rfl (.none rfl) rfl rfl RP n<|LS.val rfl (.none rfl) rfl rfl (Ty YU ZU rfl)<|LS.val rfl (.none rfl) rfl rfl (v:=.tuple #[I 0,.bool false]) (Mv rfl)<|LS.val rfl (.none rfl) rfl rfl (v:=I 0) rfl<|LS.val rfl (.none rfl) rfl rfl (v:=.bool false) rfl<|LS.val rfl (.none rfl) rfl rfl (v:=I 0) (Run.assign rfl)<|LS.val rfl (.none rfl) rfl rfl (v:=.bool false) (Run.assign rfl)<|LS.nil fun a ha=>⟨rfl,_,ha,hK _ _ ?_⟩
 refine Sr<|Vm<|AA<|WC.cond (t:=false) rfl (fun h=>by cases h) fun h=>WC.skip<|⟨.tuple #[],fun tmps _=>by rw [Ly,show Tryz.f32.results=#[] from rfl];simp,⟨_,rfl⟩,rfl,rfl⟩
theorem RQ(d:Col)(e:World)(l f:Nat)(o p:Int)(q:(Nat×Nat))(r:Bool)(s:Value)(u w z aa:Int)(m:Nat)(ab ac:Value)(g ad y:Int)(ae:Bk d e 24 l [Pt m 0] 80)(af:Bk d e 21 f [I o,I p,Cx q,.bool r,s,I u,I w,I z,I aa] 40)(ag:Bk d e 23 m [ab,ac,I g,I ad] 83):
  CallsD PG 32 [Pt l 0,Pt f 0].toArray (.panicking [{v:=.iface 33 (I y),recovered:=false}]) e fun ah u' n=>(∃v,ah=.returned v)∧u'=.panicking [{v:=.iface 33 (I y),recovered:=true}]∧Bk d n 21 f [I y,I 0,Cx (((0,0):Nat×Nat)),.bool false,.slice none 0 0,I g,I 0,I 0,I 0] 40∧AT [21] d e d n:=by
 refine Oa (rv:=(.iface 33 (I y))) (u1:=.panicking [{v:=.iface 33 (I y),recovered:=true}]) Tryz.func32 rfl Tryz.ntmps32 rfl (fun c cs h=>.inl (U0 c cs h)) fun c cs K hu hK ai aj=>LS.recover (v:=(.iface 33 (I y))) (cs':=ai) rfl (.none rfl) rfl rfl RP aj<|LS.val rfl (.none rfl) rfl rfl (Tz YU rfl)<|LS.val rfl (.none rfl) rfl rfl (v:=.tuple #[I y,.bool true]) (Mv rfl)<|LS.val rfl (.none rfl) rfl rfl (v:=I y) rfl<|LS.val rfl (.none rfl) rfl rfl (v:=.bool true) rfl<|LS.val rfl (.none rfl) rfl rfl (v:=I y) (Run.assign rfl)<|LS.val rfl (.none rfl) rfl rfl (v:=.bool true) (Run.assign rfl)<|LS.nil fun a ha=>⟨rfl,_,ha,hK _ _ ?_⟩
 refine Sr<|Vm<|AA<|WC.cond (t:=true) rfl (fun h=>?_) (fun h=>by cases h)
 refine AL<|Vm<|Vx (Ld Qo rfl (Bc ae rfl))<|Vx (Nc rfl)<|Vx (Fd Of rfl)<|Vx (Ld CH rfl (Bc ag rfl))<|Vx (v:=Ag [I y,I 0,Cx (((0,0):Nat×Nat)),.bool false,.slice none 0 0,I g,I 0,I 0,I 0]) (Bp Ml Qq rfl (.cons rfl rfl rfl (.cons rfl rfl rfl .nil)))<|Eu<|St NG af rfl rfl rfl rfl fun am ak al=>AA<|⟨.tuple #[],fun tmps _=>by rw [Ly,show Tryz.f32.results=#[] from rfl];simp,⟨_,rfl⟩,rfl,ak,(Mo [21] al)⟩
def Jw.At(h:Col)(a:World)(f:Option Ae):Prop:=
 ∀{c},f=some c→
  Calls PG 27 #[] a fun l d=>∃e g,l=.returned (Ag g)∧AT [] h a e d∧Nj.rep e.F d g c
def Jw.Spec(f:Option Ae):Prop:=
 ∀a c,Jw.At a c f
theorem Sq(a:Col)(d:World)(e:∀b,a b<10):Jw.At a d Jw:=by
 intro o c
 rw [Jw] at c
 refine Az Tryz.func27 rfl Tryz.ntmps27 rfl fun B f p=>Sr<|Ef<|AX a 20 YX rfl fun g q r h l=>AA<|Sr<|Vx (v:=Ag [I 32768,I 32768,I 32768,I 32768]) (Bp YX AAb rfl (.cons rfl rfl rfl (.cons rfl rfl rfl (.cons rfl rfl rfl (.cons rfl rfl rfl .nil)))))<|Eu<|St AAW h rfl rfl rfl rfl fun s m n=>AA<|AY ?_
 obtain rfl:=AO c
 refine O1 B f rfl (.agg X9 rfl rfl (Bw m))<|⟨g,[I 32768,I 32768,I 32768,I 32768],rfl,Ho (Tn (Mo [20] l) n) e,(E9 (x:=(Ae.mk 32768 32768 32768 32768)))⟩
theorem K9:Jw.Spec Jw:=lk0 (Sq)
def HV.At(e:Col)(a:World)(f:UInt8→Option Bool):Prop:=
 ∀{c d},f c=some d→
  Calls PG 71 #[U8 c] a fun g h=>∃l,g=.returned (.bool d)∧AT [] e a l h
def HV.Spec(f:UInt8→Option Bool):Prop:=
 ∀a c,HV.At a c f
theorem Ra(c:Col)(m:World)(p:∀b,c b<10):HV.At c m HV:=by
 intro g q a
 rw [HV] at a
 refine Az Tryz.func71 rfl Tryz.ntmps71 rfl fun B r w=>Sr<|Va (.bool false)<|AA<|Am (fun s n=>∃o h l,s=Env.puts o [(2,.bool l)]∧IZ l=some q∧AT [] c m h n) ?_ ?_
 refine AL<|Vm<|Vr (.bool ((g.toNat:Int)==((9:UInt8).toNat:Int)))<|Vm<|Bo a (fun d a=>?_) fun d a=>?_
 refine Pg d<|Pg d<|Vp d<|Vm<|Pg rfl<|Pg rfl<|Vr (.bool true)<|Vm<|Pg rfl<|Pg rfl<|Vr (.bool true)<|Va (.bool true)<|AA<|⟨_,c,true,Pu,a,Rf⟩
 refine Gm d<|Gr d (.bool ((g.toNat:Int)==((10:UInt8).toNat:Int)))<|Vp d<|Vm<|Bo a (fun e a=>?_) fun e a=>?_
 refine Pg e<|Pg e<|Vp e<|Vm<|Pg rfl<|Pg rfl<|Vr (.bool true)<|Va (.bool true)<|AA<|⟨_,c,true,Pu,a,Rf⟩
 refine Gm e<|Gr e (.bool ((g.toNat:Int)==((13:UInt8).toNat:Int)))<|Vp e<|Vm<|Bo a (fun f a=>?_) fun f a=>?_
 refine Pg f<|Pg f<|Vp f<|Va (.bool true)<|AA<|⟨_,c,true,Pu,a,Rf⟩
 refine Gm f<|Gr f (.bool ((g.toNat:Int)==((32:UInt8).toNat:Int)))<|Vp f<|Va (.bool ((g.toNat:Int)==((32:UInt8).toNat:Int)))<|AA<|⟨_,c,((g.toNat:Int)==((32:UInt8).toNat:Int)),Pu,a,Rf⟩
 rintro _ n ⟨o,h,l,rfl,a,u⟩
 rw [IZ] at a
 refine AY ?_
 obtain rfl:=AO a
 refine O1 B r rfl (.tmp rfl)<|⟨h,rfl,Ho (Mo [] u) p⟩
theorem Su:HV.Spec HV:=lk0 (Ra)
def GT.At(e:Col)(a:World)(f:UInt8→Option Bool):Prop:=
 ∀{c d},f c=some d→
  Calls PG 128 #[U8 c] a fun g h=>∃l,g=.returned (.bool d)∧AT [] e a l h
def GT.Spec(f:UInt8→Option Bool):Prop:=
 ∀a c,GT.At a c f
theorem Qv(e:Col)(n:World)(q:∀b,e b<10):GT.At e n GT:=by
 intro d r a
 rw [GT] at a
 refine Az Tryz.func128 rfl Tryz.ntmps128 rfl fun B s y=>Sr<|Va (.bool false)<|AA<|Am (fun u o=>∃p l m,u=Env.puts p [(2,.bool m)]∧Gl m=some r∧AT [] e n l o) ?_ ?_
 refine AL<|Vm<|Vr (.bool (decide ((d.toNat:Int)≥((65:UInt8).toNat:Int))))<|Vm<|Bo a (fun f a=>?_) fun f a=>?_
 refine Gm f<|Gr f (.bool (decide ((d.toNat:Int)≤((90:UInt8).toNat:Int))))<|Vp f<|Vm<|Bo a (fun c a=>?_) fun c a=>?_
 refine Pg c<|Pg c<|Pg c<|Po<|Po<|Pg c<|Vp c<|Va (.bool true)<|AA<|⟨_,e,true,Pu,a,Rf⟩
 refine Gm c<|Gr c (.bool (decide ((d.toNat:Int)≥((97:UInt8).toNat:Int))))<|Gm c<|Bo a (fun g a=>?_) fun g a=>?_
 refine Gm g<|Gr g (.bool (decide ((d.toNat:Int)≤((122:UInt8).toNat:Int))))<|Gp c g<|Vp c<|Va (.bool (decide ((d.toNat:Int)≤((122:UInt8).toNat:Int))))<|AA<|⟨_,e,(decide ((d.toNat:Int)≤((122:UInt8).toNat:Int))),Pu,a,Rf⟩
 refine Pg g<|Pg g<|Gp c g<|Vp c<|Va (.bool false)<|AA<|⟨_,e,false,Pu,a,Rf⟩
 refine Pg f<|Pg f<|Vp f<|Vm<|Gm rfl<|Gr rfl (.bool (decide ((d.toNat:Int)≥((97:UInt8).toNat:Int))))<|Gm rfl<|Bo a (fun h a=>?_) fun h a=>?_
 refine Gm h<|Gr h (.bool (decide ((d.toNat:Int)≤((122:UInt8).toNat:Int))))<|Gp rfl h<|Vr (.bool (decide ((d.toNat:Int)≤((122:UInt8).toNat:Int))))<|Va (.bool (decide ((d.toNat:Int)≤((122:UInt8).toNat:Int))))<|AA<|⟨_,e,(decide ((d.toNat:Int)≤((122:UInt8).toNat:Int))),Pu,a,Rf⟩
 refine Pg h<|Pg h<|Gp rfl h<|Vr (.bool false)<|Va (.bool false)<|AA<|⟨_,e,false,Pu,a,Rf⟩
 rintro _ o ⟨p,l,m,rfl,a,w⟩
 rw [Gl] at a
 refine AY ?_
 obtain rfl:=AO a
 refine O1 B s rfl (.tmp rfl)<|⟨l,rfl,Ho (Mo [] w) q⟩
theorem Rb:GT.Spec GT:=lk0 (Qv)
def Gq.At(e:Col)(a:World)(f:UInt8→Option Bool):Prop:=
 ∀{c d},f c=some d→
  Calls PG 98 #[U8 c] a fun g h=>∃l,g=.returned (.bool d)∧AT [] e a l h
def Gq.Spec(f:UInt8→Option Bool):Prop:=
 ∀a c,Gq.At a c f
theorem Rc(d:Col)(h:World)(n:∀b,d b<10):Gq.At d h Gq:=by
 intro e o a
 rw [Gq] at a
 refine Az Tryz.func98 rfl Tryz.ntmps98 rfl fun B p s=>Sr<|Va (.bool false)<|AA<|Am (fun q l=>∃m f g,q=Env.puts m [(2,.bool g)]∧KL g=some o∧AT [] d h f l) ?_ ?_
 refine AL<|Vm<|Vr (.bool (decide ((e.toNat:Int)≥((48:UInt8).toNat:Int))))<|Vm<|Bo a (fun c a=>?_) fun c a=>?_
 refine Gm c<|Gr c (.bool (decide ((e.toNat:Int)≤((57:UInt8).toNat:Int))))<|Vp c<|Va (.bool (decide ((e.toNat:Int)≤((57:UInt8).toNat:Int))))<|AA<|⟨_,d,(decide ((e.toNat:Int)≤((57:UInt8).toNat:Int))),Pu,a,Rf⟩
 refine Pg c<|Pg c<|Vp c<|Va (.bool false)<|AA<|⟨_,d,false,Pu,a,Rf⟩
 rintro _ l ⟨m,f,g,rfl,a,r⟩
 rw [KL] at a
 refine AY ?_
 obtain rfl:=AO a
 refine O1 B p rfl (.tmp rfl)<|⟨f,rfl,Ho (Mo [] r) n⟩
theorem Oo:Gq.Spec Gq:=lk0 (Rc)
def IW.At(c:Col)(a:World)(f:Bts→Int→Option Int):Prop:=
 ∀{d v0 e g},f d e=some g→Slc Kd.u8 c.F a v0 d→
  Calls PG 97 #[v0,I e] a fun h l=>∃m,h=.returned (I g)∧AT [] c a m l
def IW.Spec(f:Bts→Int→Option Int):Prop:=
 ∀a c,IW.At a c f
theorem T5(ag:Nat)(q:Col)(ah:World)(av:∀b,q b<10):IW.At q ah (IW ag):=by
 intro h v0 g y a ai
 rw [IW] at a
 obtain ⟨aj,ak,rfl⟩:=AR ai
 refine Az Tryz.func97 rfl Tryz.ntmps97 rfl fun B aw a8=>Sr<|Va (I 0)<|AA<|Sr<|Va (I 0)<|AA<|Aa<|Ad<|Bh (fun l z n=>∃o m f,z=Env.puts o [(0,Sl aj h ak),(1,I g),(5,I f)]∧Ec h g l f=some y∧AT [] q ah m n) ag ?_ ?_
 exact ⟨_,q,0,Pu,a,Rf⟩
 rintro l _ n ⟨o,m,f,rfl,a,aa⟩
 rcases l with _|l
 exact A3 a
 refine have a:GQ h g (Ec h g l) f=some y:=a; ?_
 obtain ⟨ax,al⟩:∃s,s=Ec h g l:=⟨_,rfl⟩
 rw [←al,GQ] at a
 refine Aa<|Am (fun z am=>∃o r ab,z=Env.puts o [(0,Sl aj h ak),(1,I g),(5,I f),(38,.bool ab)]∧GU f ax ab=some y∧AT [] m n r am) ?_ ?_
 refine AL<|Vm<|Vm<|Vr (I (Wr (g+f)))<|Vm<|have an:=Ss Kd.u8 ai aa; ?_
 obtain ⟨a9,ba,ay⟩:=AR an
 refine Vx (v:=I (h.length:Int)) (Ll Hs ay)<|Vr (.bool (decide ((Wr (g+f))< (h.length:Int))))<|Vm<|Bo a (fun c a=>?_) fun c a=>?_
 refine Gm c<|Gm c<|Gm c<|Gr c (I (Wr (g+f)))<|Bi a fun p az a=>?_
 obtain ⟨a0,a1,bb,ao,ac,ad,ae,a2,u⟩:=BK (κ:=Kd.u8) an az
 replace u:A1 m n a0 (a1+((Wr (g+f))).toNat*1) ao:=u
 obtain rfl:=(show ao=[U8 p] from a2)
 refine Gx c (Ix Hs ac rfl ad ae)<|Gx c (Ld Mj rfl (A1.cell0 u rfl))<|Bi a fun bc a3 a=>CC (.guard (t:=true) (b:=true) rfl rfl rfl rfl (Cb c)) rfl rfl (Cg [U8 p] rfl)<|Calls.mono (Rb m n a3) ?_
 rintro _ a4 ⟨ap,rfl,w⟩
 refine ⟨_,rfl,?_⟩
 refine Gm c<|Bo a (fun d a=>?_) fun d a=>?_
 refine Pg d<|Pg d<|Pg d<|Pg d<|Pg d<|Pg d<|Pg d<|Gp c d<|Gm c<|Pg rfl<|Pg rfl<|Pg rfl<|Pg rfl<|Pg rfl<|Pg rfl<|Pg rfl<|Gr c (.bool true)<|Vp c<|AA<|⟨_,ap,true,Pu,a,(Mo [] w)⟩
 refine Gm d<|Gm d<|Gm d<|Gr d (I (Wr (g+f)))<|Gx d (Ix Hs ac rfl ad ae)<|have aq:=Es u w;Gx d (Ld Mj rfl (A1.cell0 aq rfl))<|Bi a fun bd a5 a=>CC (.guard (t:=false) (b:=false) rfl rfl rfl rfl (Cb d)) rfl rfl (Cg [U8 p] rfl)<|Calls.mono (Oo ap a4 a5) ?_
 rintro _ be ⟨ar,rfl,af⟩
 refine ⟨_,rfl,?_⟩
 refine Gp c d<|Gm c<|Bo a (fun e a=>?_) fun e a=>?_
 refine Pg e<|Pg e<|Pg e<|Pg e<|Pg e<|Pg e<|Pg e<|Gp c e<|Vp c<|AA<|⟨_,ar,true,Pu,a,(Tn (Mo [] w) af)⟩
 refine Gm e<|Gm e<|Gm e<|Gr e (I (Wr (g+f)))<|Gx e (Ix Hs ac rfl ad ae)<|have a6:=Es aq af;Gx e (Ld Mj rfl (A1.cell0 a6 rfl))<|Gr e (.bool ((p.toNat:Int)==((95:UInt8).toNat:Int)))<|Gp c e<|Vp c<|AA<|⟨_,ar,((p.toNat:Int)==((95:UInt8).toNat:Int)),Pu,a,(Tn (Mo [] w) af)⟩
 refine Pg c<|Pg c<|Pg c<|Pg c<|Pg c<|Pg c<|Pg c<|Pg c<|Po<|Po<|Po<|Po<|Po<|Po<|Po<|Pg c<|Pg c<|Po<|Po<|Po<|Po<|Po<|Po<|Po<|Pg c<|Vp c<|AA<|⟨_,m,false,Pu,a,Rf⟩
 rintro _ am ⟨o,r,ab,rfl,a,au⟩
 rw [GU] at a
 refine Cn a (fun a7 a=>?_) fun a7 a=>?_
 refine WC.skip<|Ad<|AL<|Vm<|Vr (I (Wr (f+1)))<|Va (I (Wr (f+1)))<|AA<|⟨l,Nat.lt_succ_self l,_,r,(Wr (f+1)),Pu,(al▸a),(Tn (Mo [] aa) au)⟩
 refine BZ<|Sr<|Vm<|Va (I f)<|AA<|AY ?_
 obtain rfl:=AO a
 refine O1 B aw rfl (.tmp rfl)<|⟨r,rfl,Ho (Tn (Mo [] aa) au) av⟩
theorem U9(c:Nat):IW.Spec (IW c):=lk0 (T5 c)
def El.At(e:Col)(c:World)(f:Bts→Option (Int×Int)):Prop:=
 ∀{d a},f d=some a→
  Calls PG 107 #[Sb d] c fun g h=>∃l,g=.returned (.tuple #[I a.1,I a.2])∧AT [] e c l h
def El.Spec(f:Bts→Option (Int×Int)):Prop:=
 ∀a c,El.At a c f
theorem Re(y:Nat)(r:Col)(ac:World)(an:∀b,r b<10):El.At r ac (El y):=by
 intro d u a
 rw [El] at a
 refine Az Tryz.func107 rfl Tryz.ntmps107 rfl fun B ao a7=>Sr<|Va (I 0)<|Va (I 0)<|AA<|Sr<|Va (I 0)<|AA<|Am (fun n ad=>∃e z f,n=Env.puts e [(0,Sb d),(4,I f)]∧Ia y d f=some u∧AT [] r ac z ad) ?_ ?_
 refine Am (fun n ap=>∃e aa ae,n=Env.puts e [(0,Sb d),(4,I 0),(14,.bool ae)]∧HW y d ae=some u∧AT [] r ac aa ap) ?_ ?_
 refine AL<|Vm<|Vx (v:=I (d.length:Int)) (Run.lenStr JP rfl)<|Vr (.bool (decide ((d.length:Int)>0)))<|Vm<|Bo a (fun o a=>?_) fun o a=>?_
 refine Gm o<|Bi a fun af ax a=>Gx o (v:=U8 af) (Run.indexBs JP rfl rfl ax)<|Gr o (.bool ((af.toNat:Int)==((45:UInt8).toNat:Int)))<|Vp o<|AA<|⟨_,r,((af.toNat:Int)==((45:UInt8).toNat:Int)),Pu,a,Rf⟩
 refine Pg o<|Pg o<|Pg o<|Vp o<|AA<|⟨_,r,false,Pu,a,Rf⟩
 rintro _ ap ⟨e,aa,ae,rfl,a,aq⟩
 rw [HW] at a
 refine Cn a (fun ay a=>?_) fun ay a=>?_
 refine AL<|Va (I 1)<|AA<|⟨_,aa,1,Pu,a,(Mo [] aq)⟩
 refine WC.skip<|⟨_,aa,0,Pu,a,(Mo [] aq)⟩
 rintro _ ad ⟨e,z,f,rfl,a,ar⟩
 rw [Ia] at a
 refine Sr<|Va (I 0)<|AA<|Sr<|Vm<|Va (I f)<|AA<|Aa<|Ad<|Bh (fun p n ag=>∃e w c g,n=Env.puts e [(0,Sb d),(4,I f),(5,I c),(6,I g)]∧EK d f p c g=some u∧AT [] z ad w ag) y ?_ ?_
 exact ⟨_,z,0,f,Pu,a,Rf⟩
 rintro p _ ag ⟨e,w,c,g,rfl,a,ah⟩
 rcases p with _|p
 exact A3 a
 refine have a:FA d f (EK d f p) c g=some u:=a; ?_
 obtain ⟨az,au⟩:∃s,s=EK d f p:=⟨_,rfl⟩
 rw [←au,FA] at a
 refine Aa<|Am (fun n ai=>∃e q aj,n=Env.puts e [(0,Sb d),(4,I f),(5,I c),(6,I g),(31,.bool aj)]∧Ek d f c g az aj=some u∧AT [] w ag q ai) ?_ ?_
 refine AL<|Vm<|Vm<|Vx (v:=I (d.length:Int)) (Run.lenStr JP rfl)<|Vr (.bool (decide (g< (d.length:Int))))<|Vm<|Bo a (fun h a=>?_) fun h a=>?_
 refine Gm h<|Gm h<|Bi a fun av a0 a=>Gx h (v:=U8 av) (Run.indexBs JP rfl rfl a0)<|Gr h (.bool (decide ((av.toNat:Int)≥((48:UInt8).toNat:Int))))<|Vp h<|Vm<|Bo a (fun l a=>?_) fun l a=>?_
 refine Gm l<|Gm l<|Bi a fun ak a1 a=>Gx l (v:=U8 ak) (Run.indexBs JP rfl rfl a1)<|Gr l (.bool (decide ((ak.toNat:Int)≤((57:UInt8).toNat:Int))))<|Vp l<|AA<|⟨_,w,(decide ((ak.toNat:Int)≤((57:UInt8).toNat:Int))),Pu,a,Rf⟩
 refine Pg l<|Pg l<|Pg l<|Pg l<|Vp l<|AA<|⟨_,w,false,Pu,a,Rf⟩
 refine Pg h<|Pg h<|Pg h<|Pg h<|Vp h<|Vm<|Pg rfl<|Pg rfl<|Pg rfl<|Pg rfl<|Vr (.bool false)<|AA<|⟨_,w,false,Pu,a,Rf⟩
 rintro _ ai ⟨e,q,aj,rfl,a,al⟩
 rw [Ek] at a
 refine Cn a (fun a2 a=>?_) fun a2 a=>?_
 refine WC.skip<|Ad<|Sr<|Vm<|Vr (I (Wr (10*c)))<|Vm<|Vm<|Bi a fun m a3 a=>Vx (v:=U8 m) (Run.indexBs JP rfl rfl a3)<|Vx (v:=.int .u8 (((u8c ((m.toNat:Int) - ((48:UInt8).toNat:Int)))).toNat:Int)) (AAG rfl)<|Vr (I (Wr (((u8c ((m.toNat:Int) - ((48:UInt8).toNat:Int)))).toNat:Int)))<|Vr (I (Wr ((Wr (10*c))+(Wr (((u8c ((m.toNat:Int) - ((48:UInt8).toNat:Int)))).toNat:Int)))))<|Vx (v:=I (if 16777217< (Wr ((Wr (10*c))+(Wr (((u8c ((m.toNat:Int) - ((48:UInt8).toNat:Int)))).toNat:Int)))) then 16777217 else (Wr ((Wr (10*c))+(Wr (((u8c ((m.toNat:Int) - ((48:UInt8).toNat:Int)))).toNat:Int)))))) (Run.min rfl rfl)<|Va (I (if 16777217< (Wr ((Wr (10*c))+(Wr (((u8c ((m.toNat:Int) - ((48:UInt8).toNat:Int)))).toNat:Int)))) then 16777217 else (Wr ((Wr (10*c))+(Wr (((u8c ((m.toNat:Int) - ((48:UInt8).toNat:Int)))).toNat:Int))))))<|AA<|AL<|Vm<|Vr (I (Wr (g+1)))<|Va (I (Wr (g+1)))<|AA<|⟨p,Nat.lt_succ_self p,_,q,(if 16777217< (Wr ((Wr (10*c))+(Wr (((u8c ((m.toNat:Int) - ((48:UInt8).toNat:Int)))).toNat:Int)))) then 16777217 else (Wr ((Wr (10*c))+(Wr (((u8c ((m.toNat:Int) - ((48:UInt8).toNat:Int)))).toNat:Int))))),(Wr (g+1)),Pu,(au▸a),(Tn (Mo [] ah) al)⟩
 refine BZ<|Aa<|Sr<|Vm<|Vm<|Vr (.bool (g==f))<|AA<|Cn a (fun a4 a=>?_) fun a4 a=>?_
 refine Sr<|Va (I 0)<|Va (I 0)<|AA<|AY ?_
 obtain rfl:=AO a
 refine O2 B ao rfl (.tmp rfl) (.tmp rfl)<|⟨q,rfl,Ho (T2 (Mo [] ar) ah al) an⟩
 refine WC.skip<|Am (fun n aw=>∃e am ab,n=Env.puts e [(5,I ab),(6,I g)]∧LP g ab=some u∧AT [] q ai am aw) ?_ ?_
 refine Sr<|Vm<|Vr (.bool (f==1))<|AA<|Cn a (fun a5 a=>?_) fun a5 a=>?_
 refine AL<|Vm<|Vr (I (Wr (0 - c)))<|Va (I (Wr (0 - c)))<|AA<|⟨_,q,(Wr (0 - c)),Pu,a,Rf⟩
 refine WC.skip<|⟨_,q,c,Pu,a,Rf⟩
 rintro _ aw ⟨e,am,ab,rfl,a,a6⟩
 rw [LP] at a
 refine Sr<|Vm<|Vm<|Va (I ab)<|Va (I g)<|AA<|AY ?_
 obtain rfl:=AO a
 refine O2 B ao rfl (.tmp rfl) (.tmp rfl)<|⟨am,rfl,Ho (T3 (Mo [] ar) ah al a6) an⟩
theorem Oq(c:Nat):El.Spec (El c):=lk0 (Re c)
def HX.At(d:Col)(a:World)(f:Aj→Option (Aj×Int)):Prop:=
 ∀{e g c},f e=some c→LJ.rep d.F a g e→
  Calls PG 108 #[Ag g] a fun n h=>∃l m,n=.returned (.tuple #[Ag m,I c.2])∧AT [] d a l h∧LJ.rep l.F h m c.1
def HX.Spec(f:Aj→Option (Aj×Int)):Prop:=
 ∀a c,HX.At a c f
theorem VA(o:Col)(aa:World)(q:∀b,o b<10):HX.At o aa HX:=by
 intro c aq ab a ac
 rw [HX] at a
 obtain rfl:=HM ac
 refine Az Tryz.func108 rfl Tryz.ntmps108 rfl fun B r ar=>Sr<|Ef<|Bb o 20 rfl rfl fun ad au ae s u=>Ef<|AX ad 21 I8 rfl fun g af ag w l=>Va (I 0)<|AA<|Aa<|Am (fun ah y=>∃z m p,ah=Env.puts z [(1,Pt ae 0),(2,Pt ag 0),(21,.bool p)]∧Js c p=some ab∧AT [] g af m y) ?_ ?_
 refine AL<|Vx (Fz L1 rfl)<|have n:=Bs s l;Vx (Ld CH rfl (Bc n rfl))<|Vr (.bool (decide (c.re< (-16777216:Int))))<|Vm<|Bo a (fun d a=>?_) fun d a=>?_
 refine Pg d<|Pg d<|Pg d<|Vp d<|Vm<|Pg rfl<|Pg rfl<|Pg rfl<|Vr (.bool true)<|Vm<|Pg rfl<|Pg rfl<|Pg rfl<|Vr (.bool true)<|AA<|⟨_,g,true,Pu,a,Rf⟩
 refine Gx d (Fz L1 rfl)<|Gx d (Ld CH rfl (Bc n rfl))<|Gr d (.bool (decide (c.re>16777216)))<|Vp d<|Vm<|Bo a (fun e a=>?_) fun e a=>?_
 refine Pg e<|Pg e<|Pg e<|Vp e<|Vm<|Pg rfl<|Pg rfl<|Pg rfl<|Vr (.bool true)<|AA<|⟨_,g,true,Pu,a,Rf⟩
 refine Gx e (Fd Kn rfl)<|Gx e (Ld CH rfl (Bc n rfl))<|Gr e (.bool (decide (c.im< (-16777216:Int))))<|Vp e<|Vm<|Bo a (fun f a=>?_) fun f a=>?_
 refine Pg f<|Pg f<|Pg f<|Vp f<|AA<|⟨_,g,true,Pu,a,Rf⟩
 refine Gx f (Fd Kn rfl)<|Gx f (Ld CH rfl (Bc n rfl))<|Gr f (.bool (decide (c.im>16777216)))<|Vp f<|AA<|⟨_,g,(decide (c.im>16777216)),Pu,a,Rf⟩
 rintro _ y ⟨z,m,p,rfl,a,h⟩
 rw [Js] at a
 refine Cn a (fun ai a=>?_) fun ai a=>?_
 refine Sr<|Vx (v:=Ag [I 0,I 0]) (Bp I8 Np rfl .nil)<|have aj:=Bs w h;Eu<|St JR aj rfl rfl rfl rfl fun av ak al=>Va (I 50)<|AA<|AY ?_
 obtain rfl:=AO a
 refine O2 B r rfl (.agg J0 rfl rfl (Bw ak)) (.tmp rfl)<|⟨m,[I 0,I 0],rfl,Ho (T3 (Mo [21] u) l h al) q,(FJ (x:=(Aj.mk 0 0)))⟩
 refine WC.skip<|Sr<|have am:=Y2 s l h;Vx (Lx J0 rfl rfl (Bw am))<|have an:=Bs w h;Eu<|St JR an rfl rfl rfl rfl fun aw ao ap=>Va (I 0)<|AA<|AY ?_
 obtain rfl:=AO a
 refine O2 B r rfl (.agg J0 rfl rfl (Bw ao)) (.tmp rfl)<|⟨m,[I c.re,I c.im],rfl,Ho (T3 (Mo [21] u) l h ap) q,(FJ (x:=c))⟩
theorem V2:HX.Spec HX:=lk0 (VA)
def ref01_digits.At(e:Col)(a:World)(f:Int→Option Bts):Prop:=
 ∀{c d},f c=some d→
  Calls PG 134 #[I c] a fun g h=>∃l,g=.returned (Sb d)∧AT [] e a l h
def ref01_digits.Spec(f:Int→Option Bts):Prop:=
 ∀a c,ref01_digits.At a c f
structure A6.Good(a:A6):Prop where
 ref01_digits:ref01_digits.Spec a.ref01_digits
theorem Qw(m:A6)(w:Nat)(n:A6.Good m)(d:Col)(o:World)(p:∀b,d b<10):ref01_digits.At d o (DO m w):=by
 intro c y a
 rw [DO] at a
 refine Az Tryz.func134 rfl Tryz.ntmps134 rfl fun B q aw=>Sr<|Va (Sb ([]:Bts))<|AA<|Aa<|Sr<|Vm<|Vr (.bool (decide (c<0)))<|AA<|Cn a (fun z a=>?_) fun z a=>?_
 refine Sr<|Vm<|Vr (I (Wr (0 - c)))<|Bi a fun ax aa a=>Ca (Cg [I (Wr (0 - c))] rfl) (n.ref01_digits d o aa) ?_
 rintro _ ay ⟨ab,rfl,ac⟩
 refine Bi a fun r ad a=>Vx (v:=Sb r) (Run.strAdd rfl rfl ad)<|Va (Sb r)<|AA<|AY ?_
 obtain rfl:=AO a
 refine O1 B q rfl (.tmp rfl)<|⟨ab,rfl,Ho (Mo [] ac) p⟩
 refine WC.skip<|Sr<|Vm<|Bi a fun az ae a=>Vx (v:=I (c.tmod 10)) (Run.rem rfl rfl (SI ae))<|Vr (I (Wr (48+(c.tmod 10))))<|Vx (v:=.int .u8 (((u8c (Wr (48+(c.tmod 10))))).toNat:Int)) (AAG rfl)<|Ef<|Ba (cs:=[.int .u8 (((u8c (Wr (48+(c.tmod 10))))).toNat:Int)]) d 20 [[.int .u8 (((u8c (Wr (48+(c.tmod 10))))).toNat:Int)]] Hs YW rfl rfl (.cons rfl rfl rfl .nil) rfl fun af f ag ah ai=>have aj:Own Kd.u8 5 af f 20 (.slice (some ⟨ag,0,none⟩) 1 1) ([(u8c (Wr (48+(c.tmod 10))))]:Bts):=Own.lit (css:=[[.int .u8 (((u8c (Wr (48+(c.tmod 10))))).toNat:Int)]]) ah rfl rfl rfl (AQ rfl As) (Av rfl B4) rfl; ?_
 obtain ⟨g,ak,al⟩:=Own.freeze (S:=[20]) aj dcd dcd
 refine Vx (v:=Sb ([(u8c (Wr (48+(c.tmod 10))))]:Bts)) (Run.bytesStr PL rfl al)<|Va (Sb ([(u8c (Wr (48+(c.tmod 10))))]:Bts))<|AA<|Am (fun am s=>∃u h e,am=Env.puts u [(3,Sb e)]∧LC e=some y∧AT [] g f h s) ?_ ?_
 refine Sr<|Vm<|Vr (.bool (decide (c≥10)))<|AA<|Cn a (fun an a=>?_) fun an a=>?_
 refine AL<|Vm<|Bi a fun a0 ao a=>Vx (v:=I (Wr (c.tdiv 10))) (Run.quo rfl rfl (SI ao))<|Bi a fun a1 ap a=>Ca (Cg [I (Wr (c.tdiv 10))] rfl) (n.ref01_digits g f ap) ?_
 rintro _ a2 ⟨aq,rfl,ar⟩
 refine Vm<|Bi a fun l au a=>Vx (v:=Sb l) (Run.strAdd rfl rfl au)<|Va (Sb l)<|AA<|⟨_,aq,l,Pu,a,(Mo [] ar)⟩
 refine WC.skip<|⟨_,g,([(u8c (Wr (48+(c.tmod 10))))]:Bts),Pu,a,Rf⟩
 rintro _ s ⟨u,h,e,rfl,a,av⟩
 rw [LC] at a
 refine Sr<|Vm<|Va (Sb e)<|AA<|AY ?_
 obtain rfl:=AO a
 refine O1 B q rfl (.tmp rfl)<|⟨h,rfl,Ho (T2 (Mo [20] ai) ak av) p⟩
theorem Qy(a:A6)(d:Nat)(f:A6.Good a):ref01_digits.Spec (DO a d):=lk0 (Qw a d f)
theorem A6.good:∀a,A6.Good (A6.at a)
 |0=>⟨by intro c d;intros;(try intro _);intros;exact A3 (by assumption)⟩
 |n+1=>⟨Qy _ n (A6.good n)⟩
theorem I2(a:Nat):ref01_digits.Spec (ref01_digits a):=(A6.good a).ref01_digits
def F4.At(c:Col)(a:World)(f:Aj→Option Bts):Prop:=
 ∀{d e g},f d=some g→LJ.rep c.F a e d→
  Calls PG 109 #[Ag e] a fun h l=>∃m,h=.returned (Sb g)∧AT [] c a m l
def F4.Spec(f:Aj→Option Bts):Prop:=
 ∀a c,F4.At a c f
theorem Sv(f:Nat)(o:Col)(ae:World)(l:∀b,o b<10):F4.At o ae (F4 f):=by
 intro e bd be a af
 rw [F4] at a
 obtain rfl:=HM af
 refine Az Tryz.func109 rfl Tryz.ntmps109 rfl fun B m d=>Sr<|Ef<|Bb o 20 rfl rfl fun h r bf g n=>Va (Sb ([]:Bts))<|AA<|Aa<|Ad<|Sr<|Vx (Fd Kn rfl)<|Vx (Ld CH rfl (Bc g rfl))<|Vr (.bool (e.im==0))<|Va (.bool (e.im==0))<|AA<|Cn a (fun ag a=>?_) fun ag a=>?_
 refine Sr<|Vx (Fz L1 rfl)<|Vx (Ld CH rfl (Bc g rfl))<|Bi a fun ah ai a=>Ca (Cg [I e.re] rfl) (I2 f h r ai) ?_
 rintro _ bg ⟨aj,rfl,ak⟩
 refine Va (Sb ah)<|AA<|AY ?_
 obtain rfl:=AO a
 refine O1 B m rfl (.tmp rfl)<|⟨aj,rfl,Ho (Tn (Mo [] n) ak) l⟩
 refine Sr<|Vx (Fz L1 rfl)<|Vx (Ld CH rfl (Bc g rfl))<|Vr (.bool (e.re==0))<|Va (.bool (e.re==0))<|AA<|Cn a (fun al a=>?_) fun al a=>?_
 refine Sr<|Vx (Fd Kn rfl)<|Vx (Ld CH rfl (Bc g rfl))<|Bi a fun bh am a=>Ca (Cg [I e.im] rfl) (I2 f h r am) ?_
 rintro _ bi ⟨an,rfl,ao⟩
 refine Bi a fun s ap a=>Vx (v:=Sb s) (Run.strAdd rfl rfl ap)<|Va (Sb s)<|AA<|AY ?_
 obtain rfl:=AO a
 refine O1 B m rfl (.tmp rfl)<|⟨an,rfl,Ho (Tn (Mo [] n) ao) l⟩
 refine Sr<|Vx (Fd Kn rfl)<|Vx (Ld CH rfl (Bc g rfl))<|Vr (.bool (decide (e.im>0)))<|Va (.bool (decide (e.im>0)))<|AA<|Cn a (fun aq a=>?_) fun aq a=>?_
 refine Aa<|CL E0 (.q 0 (.q 1 (.q 4 (.q 5 (.one 2 (.q 3 (.one 6 (qs 7 3 .nil)))))))) [] [] h (by kernel_rfl) fun ar u=>Qx d rfl (fun _ _=>Fz L1 rfl)<|have w:=Bs g u;Qx d rfl (fun _ ⟨_,c⟩=>Ld CH rfl (Bc (Bs w c) rfl))<|Qx d rfl (fun _ _=>Fd Kn rfl)<|Qx d rfl (fun _ ⟨_,c⟩=>Ld CH rfl (Bc (Bs w c) rfl))<|BB rfl<|Bi a fun bj au a=>BW rfl (.none rfl) rfl rfl (Cg [I e.re] rfl)<|Calls.mono (I2 f h ar au) ?_
 rintro _ av ⟨aw,rfl,p⟩
 refine ⟨_,rfl,⟨_,(Mo [] p)⟩,?_⟩
 refine Bi a fun ax ay a=>Qx d rfl (v:=Sb ax) (fun _ _=>Run.strAdd rfl rfl ay)<|BB rfl<|Bi a fun bk az a=>BW rfl (.none rfl) rfl rfl (Cg [I e.im] rfl)<|Calls.mono (I2 f aw av az) ?_
 rintro _ bl ⟨a0,rfl,y⟩
 refine ⟨_,rfl,⟨_,(Tn (Mo [] p) y)⟩,?_⟩
 refine Bi a fun a1 a2 a=>Qx d rfl (v:=Sb a1) (fun _ _=>Run.strAdd rfl rfl a2)<|Bi a fun z a3 a=>Qx d rfl (v:=Sb z) (fun _ _=>Run.strAdd rfl rfl a3)<|Qx d rfl (v:=Sb z) (fun _ _=>Run.assign rfl)<|Dv<|AY ?_
 obtain rfl:=AO a
 refine O1 B m rfl (.tmp rfl)<|⟨a0,rfl,Ho (T3 (Mo [] n) u p y) l⟩
 refine WC.skip<|Aa<|CL E0 (.q 0 (.q 1 (.q 3 (.q 4 (.one 2 (.one 5 (qs 6 3 .nil))))))) [] [] h (by kernel_rfl) fun a4 aa=>Qx d rfl (fun _ _=>Fz L1 rfl)<|have ab:=Bs g aa;Qx d rfl (fun _ ⟨_,c⟩=>Ld CH rfl (Bc (Bs ab c) rfl))<|Qx d rfl (fun _ _=>Fd Kn rfl)<|Qx d rfl (fun _ ⟨_,c⟩=>Ld CH rfl (Bc (Bs ab c) rfl))<|BB rfl<|Bi a fun bm a5 a=>BW rfl (.none rfl) rfl rfl (Cg [I e.re] rfl)<|Calls.mono (I2 f h a4 a5) ?_
 rintro _ a6 ⟨a7,rfl,q⟩
 refine ⟨_,rfl,⟨_,(Mo [] q)⟩,?_⟩
 refine BB rfl<|Bi a fun bn a8 a=>BW rfl (.none rfl) rfl rfl (Cg [I e.im] rfl)<|Calls.mono (I2 f a7 a6 a8) ?_
 rintro _ bo ⟨a9,rfl,ac⟩
 refine ⟨_,rfl,⟨_,(Tn (Mo [] q) ac)⟩,?_⟩
 refine Bi a fun ba bb a=>Qx d rfl (v:=Sb ba) (fun _ _=>Run.strAdd rfl rfl bb)<|Bi a fun ad bc a=>Qx d rfl (v:=Sb ad) (fun _ _=>Run.strAdd rfl rfl bc)<|Qx d rfl (v:=Sb ad) (fun _ _=>Run.assign rfl)<|Dv<|AY ?_
 obtain rfl:=AO a
 refine O1 B m rfl (.tmp rfl)<|⟨a9,rfl,Ho (T3 (Mo [] n) aa q ac) l⟩
theorem Pa(c:Nat):F4.Spec (F4 c):=lk0 (Sv c)
def EW.At(l:Col)(c:World)(f:Bts→Option (Aj×Int)):Prop:=
 ∀{d a},f d=some a→
  Calls PG 75 #[Sb d] c fun m e=>∃g h,m=.returned (.tuple #[Ag h,I a.2])∧AT [] l c g e∧LJ.rep g.F e h a.1
def EW.Spec(f:Bts→Option (Aj×Int)):Prop:=
 ∀a c,EW.At a c f
theorem Rg(l:Nat)(ah:Col)(a5:World)(ai:∀b,ah b<10):EW.At ah a5 (EW l):=by
 intro h aj a
 rw [EW] at a
 refine Az Tryz.func75 rfl Tryz.ntmps75 rfl fun B ak b9=>Sr<|Ef<|AX ah 20 I8 rfl fun a6 a7 al am an=>Va (I 0)<|AA<|Sr<|Vm<|Bi a fun e a8 a=>Ca (Cg [Sb h] rfl) (Oq l a6 a7 a8) ?_
 rintro _ ca ⟨ax,rfl,m⟩
 refine Vm<|Vr (I e.1)<|Vr (I e.2)<|Va (I e.1)<|Va (I e.2)<|AA<|Aa<|Sr<|Vm<|Vr (.bool (e.2==0))<|AA<|Cn a (fun a9 a=>?_) fun a9 a=>?_
 refine Sr<|Vx (v:=Ag [I 0,I 0]) (Bp I8 Np rfl .nil)<|have ba:=Bs am m;Eu<|St JR ba rfl rfl rfl rfl fun cb bb bc=>Va (I 10)<|AA<|AY ?_
 obtain rfl:=AO a
 refine O2 B ak rfl (.agg J0 rfl rfl (Bw bb)) (.tmp rfl)<|⟨ax,[I 0,I 0],rfl,Ho (T2 (Mo [20] an) m bc) ai,(FJ (x:=(Aj.mk 0 0)))⟩
 refine WC.skip<|Sr<|Vm<|Vx (v:=Ag [I e.1,I 0]) (Bp I8 Np rfl (.cons rfl rfl rfl .nil))<|Ef<|AX ax 21 I8 rfl fun n cc z bd aa=>Eu<|St JR bd rfl rfl rfl rfl fun ay ao ab=>AA<|Sr<|Vm<|Vm<|Bi a fun r be a=>Vx (v:=Sb r) (Run.sliceStr JP rfl ⟨_,rfl⟩ rfl be)<|Va (Sb r)<|AA<|Am (fun s ac=>∃g ad c d,s=Env.puts g [(0,Sb h),(2,Pt al 0),(6,Pt z 0)]∧Fi l h c d=some aj∧AT [21] n ay ad ac∧Bk ad ac 21 z [I c,I d] 111) ?_ ?_
 refine Sr<|Vm<|Vx (v:=.bool (r==([105]:Bts))) (Run.strEq rfl rfl)<|AA<|Cn a (fun bf a=>?_) fun bf a=>?_
 refine AL<|Vm<|Vx (v:=Ag [I 0,I e.1]) (Bp I8 Np rfl (.cons rfl rfl rfl .nil))<|Eu<|St JR ao rfl rfl rfl rfl fun cd bg bh=>AA<|⟨_,n,0,e.1,Pu,a,(Mo [21] bh),bg⟩
 refine Sr<|Vm<|Vx (v:=.bool (!(r==([]:Bts)))) (Run.strNe rfl rfl)<|AA<|Cn a (fun bi a=>?_) fun bi a=>?_
 refine Am (fun s ap=>∃g aq ae,s=Env.puts g [(0,Sb h),(2,Pt al 0),(6,Pt z 0),(7,Sb ae)]∧HY l h e ae=some aj∧AT [] n ay aq ap) ?_ ?_
 refine Sr<|Vm<|Bi a fun az bj a=>Vx (v:=U8 az) (Run.indexBs JP rfl rfl bj)<|Vr (.bool ((az.toNat:Int)==((43:UInt8).toNat:Int)))<|AA<|Cn a (fun bk a=>?_) fun bk a=>?_
 refine AL<|Vm<|Bi a fun ar bl a=>Vx (v:=Sb ar) (Run.sliceStr JP rfl ⟨_,rfl⟩ rfl bl)<|Va (Sb ar)<|AA<|⟨_,n,ar,Pu,a,Rf⟩
 refine WC.skip<|⟨_,n,r,Pu,a,Rf⟩
 rintro _ ap ⟨g,aq,ae,rfl,a,a0⟩
 rw [HY] at a
 refine Sr<|Vm<|Bi a fun u bm a=>Ca (Cg [Sb ae] rfl) (Oq l aq ap bm) ?_
 rintro _ cf ⟨bn,rfl,a1⟩
 refine Vm<|Vr (I u.1)<|Vr (I u.2)<|Va (I u.1)<|Va (I u.2)<|AA<|AL<|Vm<|Vx (Fd Kn rfl)<|have bo:=Y2 ao a0 a1;Eu<|St Mi bo rfl rfl rfl rfl fun cg bp bq=>AA<|⟨_,bn,e.1,u.1,Pu,a,(T2 (Mo [21] a0) a1 bq),bp⟩
 refine WC.skip<|⟨_,n,e.1,0,Pu,a,(AT.refl [21] _ _),ao⟩
 rintro _ ac ⟨g,ad,c,d,rfl,a,af,au⟩
 rw [Fi] at a
 refine Sr<|Vx (Lx J0 rfl rfl (Bw au))<|Bi a fun w br a=>Ca (Cg [Ag [I c,I d]] rfl) (V2 ad ac br (FJ (x:=(Aj.mk c d)))) ?_
 rintro _ ch ⟨bt,ci,rfl,o,bu⟩
 obtain rfl:=HM bu
 refine Vm<|Vr (Ag [I w.1.re,I w.1.im])<|Vr (I w.2)<|Ef<|AX bt 22 I8 rfl fun av cj ck bv p=>Eu<|St JR bv rfl rfl rfl rfl fun a2 cl q=>Va (I w.2)<|AA<|Aa<|Am (fun s a3=>∃g ag aw,s=Env.puts g [(2,Pt al 0),(6,Pt z 0),(55,.bool aw)]∧LQ c d aw=some aj∧AT [] av a2 ag a3) ?_ ?_
 refine AL<|Vm<|Vr (.bool (w.2 != 0))<|Vm<|Bo a (fun f a=>?_) fun f a=>?_
 refine Pg f<|Pg f<|Pg f<|Pg f<|Vp f<|AA<|⟨_,av,true,Pu,a,Rf⟩
 refine have bw:=Y3 au o p q;Gx f (Lx J0 rfl rfl (Bw bw))<|Bi a fun a4 bx a=>CC (.guard (t:=false) (b:=false) rfl rfl rfl rfl (Cb f)) rfl rfl (Cg [Ag [I c,I d]] rfl)<|Calls.mono (Pa l av a2 bx (FJ (x:=(Aj.mk c d)))) ?_
 rintro _ cm ⟨bz,rfl,b0⟩
 refine ⟨_,rfl,?_⟩
 refine Gm f<|Gx f (v:=.bool (!(a4==h))) (Run.strNe rfl rfl)<|Vp f<|AA<|⟨_,bz,(!(a4==h)),Pu,a,(Mo [] b0)⟩
 rintro _ a3 ⟨g,ag,aw,rfl,a,y⟩
 rw [LQ] at a
 refine Cn a (fun b1 a=>?_) fun b1 a=>?_
 refine Sr<|Vx (v:=Ag [I 0,I 0]) (Bp I8 Np rfl .nil)<|have b2:=Y4 (Y4 am m aa ab af) o p q y;Eu<|St JR b2 rfl rfl rfl rfl fun cn b3 b4=>Va (I 10)<|AA<|AY ?_
 obtain rfl:=AO a
 refine O2 B ak rfl (.agg J0 rfl rfl (Bw b3)) (.tmp rfl)<|⟨ag,[I 0,I 0],rfl,Ho (Tn (T4 (T4 (Mo [20,21,22] an) m aa ab af) o p q y) b4) ai,(FJ (x:=(Aj.mk 0 0)))⟩
 refine WC.skip<|Sr<|have b5:=Y4 au o p q y;Vx (Lx J0 rfl rfl (Bw b5))<|have b6:=Y4 (Y4 am m aa ab af) o p q y;Eu<|St JR b6 rfl rfl rfl rfl fun co b7 b8=>Va (I 0)<|AA<|AY ?_
 obtain rfl:=AO a
 refine O2 B ak rfl (.agg J0 rfl rfl (Bw b7)) (.tmp rfl)<|⟨ag,[I c,I d],rfl,Ho (Tn (T4 (T4 (Mo [20,21,22] an) m aa ab af) o p q y) b8) ai,(FJ (x:=(Aj.mk c d)))⟩
theorem Mn(c:Nat):EW.Spec (EW c):=lk0 (Rg c)
def F6.At(c:Col)(a:World)(f:Aj→Option (Nat×Nat)):Prop:=
 ∀{d e g},f d=some g→LJ.rep c.F a e d→
  Calls PG 76 #[Ag e] a fun h l=>∃m,h=.returned (Cx g)∧AT [] c a m l
def F6.Spec(f:Aj→Option (Nat×Nat)):Prop:=
 ∀a c,F6.At a c f
theorem Rh(c:Col)(f:World)(g:∀b,c b<10):F6.At c f F6:=by
 intro a o p d h
 rw [F6] at d
 obtain rfl:=HM h
 refine Az Tryz.func76 rfl Tryz.ntmps76 rfl fun B l q=>Sr<|Ef<|Bb c 20 rfl rfl fun m r s e n=>Va (Cx (((0,0):Nat×Nat)))<|AA<|Sr<|Vx (Fz L1 rfl)<|Vx (Ld CH rfl (Bc e rfl))<|Vr (Fl (FloatKind.f64.nearest a.re))<|Vx (Fd Kn rfl)<|Vx (Ld CH rfl (Bc e rfl))<|Vr (Fl (FloatKind.f64.nearest a.im))<|Vx (v:=Cx (((FloatKind.f64.nearest a.re),(FloatKind.f64.nearest a.im)))) (Run.complex rfl rfl)<|Va (Cx (((FloatKind.f64.nearest a.re),(FloatKind.f64.nearest a.im))))<|AA<|AY ?_
 obtain rfl:=AO d
 refine O1 B l rfl (.tmp rfl)<|⟨m,rfl,Ho (Mo [] n) g⟩
theorem Mq:F6.Spec F6:=lk0 (Rh)
def I3.At(h:Col)(a:World)(f:Option (List Bts)):Prop:=
 ∀{c},f=some c→
  Calls PG 129 #[] a fun l d=>∃e g,l=.returned g∧AT [] h a e d∧Slc BY e.F d g c
def I3.Spec(f:Option (List Bts)):Prop:=
 ∀a c,I3.At a c f
theorem Ri(a:Col)(e:World)(f:∀b,a b<10):I3.At a e I3:=by
 intro s d
 rw [I3] at d
 refine Az Tryz.func129 rfl Tryz.ntmps129 rfl fun B g u=>Sr<|Va (.slice none 0 0)<|AA<|Sr<|Ef<|Ba (cs:=[Sb ([66]:Bts),Sb ([76]:Bts),Sb ([78]:Bts),Sb ([99,97,115,101]:Bts),Sb ([99,111,110,106]:Bts),Sb ([101,108,115,101]:Bts),Sb ([102,97,105,108]:Bts),Sb ([102,97,108,115,101]:Bts),Sb ([105,102]:Bts),Sb ([105,109]:Bts),Sb ([105,110]:Bts),Sb ([108,101,116]:Bts),Sb ([110,105,108]:Bts),Sb ([110,111,116]:Bts),Sb ([111,102]:Bts),Sb ([114,101]:Bts),Sb ([115,116,114,105,99,116]:Bts),Sb ([116,104,101,110]:Bts),Sb ([116,114,117,101]:Bts)]) a 20 [[Sb ([66]:Bts)],[Sb ([76]:Bts)],[Sb ([78]:Bts)],[Sb ([99,97,115,101]:Bts)],[Sb ([99,111,110,106]:Bts)],[Sb ([101,108,115,101]:Bts)],[Sb ([102,97,105,108]:Bts)],[Sb ([102,97,108,115,101]:Bts)],[Sb ([105,102]:Bts)],[Sb ([105,109]:Bts)],[Sb ([105,110]:Bts)],[Sb ([108,101,116]:Bts)],[Sb ([110,105,108]:Bts)],[Sb ([110,111,116]:Bts)],[Sb ([111,102]:Bts)],[Sb ([114,101]:Bts)],[Sb ([115,116,114,105,99,116]:Bts)],[Sb ([116,104,101,110]:Bts)],[Sb ([116,114,117,101]:Bts)]] EE Mm rfl rfl (.cons rfl rfl rfl (.cons rfl rfl rfl (.cons rfl rfl rfl (.cons rfl rfl rfl (.cons rfl rfl rfl (.cons rfl rfl rfl (.cons rfl rfl rfl (.cons rfl rfl rfl (.cons rfl rfl rfl (.cons rfl rfl rfl (.cons rfl rfl rfl (.cons rfl rfl rfl (.cons rfl rfl rfl (.cons rfl rfl rfl (.cons rfl rfl rfl (.cons rfl rfl rfl (.cons rfl rfl rfl (.cons rfl rfl rfl (.cons rfl rfl rfl .nil))))))))))))))))))) rfl fun h l c m n=>have o:Own BY 9 h l 20 (.slice (some ⟨c,0,none⟩) 19 19) ([([66]:Bts),([76]:Bts),([78]:Bts),([99,97,115,101]:Bts),([99,111,110,106]:Bts),([101,108,115,101]:Bts),([102,97,105,108]:Bts),([102,97,108,115,101]:Bts),([105,102]:Bts),([105,109]:Bts),([105,110]:Bts),([108,101,116]:Bts),([110,105,108]:Bts),([110,111,116]:Bts),([111,102]:Bts),([114,101]:Bts),([115,116,114,105,99,116]:Bts),([116,104,101,110]:Bts),([116,114,117,101]:Bts)]:List Bts):=Own.lit (css:=[[Sb ([66]:Bts)],[Sb ([76]:Bts)],[Sb ([78]:Bts)],[Sb ([99,97,115,101]:Bts)],[Sb ([99,111,110,106]:Bts)],[Sb ([101,108,115,101]:Bts)],[Sb ([102,97,105,108]:Bts)],[Sb ([102,97,108,115,101]:Bts)],[Sb ([105,102]:Bts)],[Sb ([105,109]:Bts)],[Sb ([105,110]:Bts)],[Sb ([108,101,116]:Bts)],[Sb ([110,105,108]:Bts)],[Sb ([110,111,116]:Bts)],[Sb ([111,102]:Bts)],[Sb ([114,101]:Bts)],[Sb ([115,116,114,105,99,116]:Bts)],[Sb ([116,104,101,110]:Bts)],[Sb ([116,114,117,101]:Bts)]]) m rfl rfl rfl (AQ rfl (AQ rfl (AQ rfl (AQ rfl (AQ rfl (AQ rfl (AQ rfl (AQ rfl (AQ rfl (AQ rfl (AQ rfl (AQ rfl (AQ rfl (AQ rfl (AQ rfl (AQ rfl (AQ rfl (AQ rfl (AQ rfl As))))))))))))))))))) (Av rfl (Av rfl (Av rfl (Av rfl (Av rfl (Av rfl (Av rfl (Av rfl (Av rfl (Av rfl (Av rfl (Av rfl (Av rfl (Av rfl (Av rfl (Av rfl (Av rfl (Av rfl (Av rfl B4))))))))))))))))))) rfl;Va (Sl (some ⟨c,0,none⟩) (([([66]:Bts),([76]:Bts),([78]:Bts),([99,97,115,101]:Bts),([99,111,110,106]:Bts),([101,108,115,101]:Bts),([102,97,105,108]:Bts),([102,97,108,115,101]:Bts),([105,102]:Bts),([105,109]:Bts),([105,110]:Bts),([108,101,116]:Bts),([110,105,108]:Bts),([110,111,116]:Bts),([111,102]:Bts),([114,101]:Bts),([115,116,114,105,99,116]:Bts),([116,104,101,110]:Bts),([116,114,117,101]:Bts)]:List Bts)) 19)<|AA<|AY ?_
 obtain ⟨p,q,r⟩:=Own.freeze (S:=[20]) o dcd dcd
 obtain rfl:=AO d
 refine O1 B g rfl (.tmp rfl)<|⟨p,Sl (some ⟨c,0,none⟩) (([([66]:Bts),([76]:Bts),([78]:Bts),([99,97,115,101]:Bts),([99,111,110,106]:Bts),([101,108,115,101]:Bts),([102,97,105,108]:Bts),([102,97,108,115,101]:Bts),([105,102]:Bts),([105,109]:Bts),([105,110]:Bts),([108,101,116]:Bts),([110,105,108]:Bts),([110,111,116]:Bts),([111,102]:Bts),([114,101]:Bts),([115,116,114,105,99,116]:Bts),([116,104,101,110]:Bts),([116,114,117,101]:Bts)]:List Bts)) 19,rfl,Ho (Tn (Mo [20] n) q) f,r⟩
theorem Sw:I3.Spec I3:=lk0 (Ri)
def De.At(e:Col)(a:World)(f:Bts→Option Bool):Prop:=
 ∀{c d},f c=some d→
  Calls PG 99 #[Sb c] a fun g h=>∃l,g=.returned (.bool d)∧AT [] e a l h
def De.Spec(f:Bts→Option Bool):Prop:=
 ∀a c,De.At a c f
theorem Pp(o:Nat)(l:Col)(p:World)(q:∀b,l b<10):De.At l p (De o):=by
 intro f r a
 rw [De] at a
 refine Az Tryz.func99 rfl Tryz.ntmps99 rfl fun B u aw=>Sr<|Va (.bool false)<|AA<|Sr<|Bi a fun d ah a=>Ca (Cg [] rfl) (Sw l p ah) ?_
 rintro _ ai ⟨w,ax,rfl,y,z⟩
 obtain ⟨aa,ab,rfl⟩:=AR z
 refine Va (Sl aa d ab)<|AA<|Aa<|Sr<|Va (I 0)<|AA<|Ad<|Bh (fun e aj m=>∃ac g c,aj=Env.puts ac [(0,Sb f),(3,Sl aa d ab),(4,I c)]∧Dd f d e c=some r∧AT [] w ai g m) o ?_ ?_
 exact ⟨_,w,0,Pu,a,Rf⟩
 rintro e _ m ⟨ac,g,c,rfl,a,h⟩
 rcases e with _|e
 exact A3 a
 refine have a:Dr f d (Dd f d e) c=some r:=a; ?_
 obtain ⟨ay,ad⟩:∃s,s=Dd f d e:=⟨_,rfl⟩
 rw [←ad,Dr] at a
 refine Aa<|Sr<|Vm<|Vm<|have ae:=Ss BY z h; ?_
 obtain ⟨az,a0,ak⟩:=AR ae
 refine Vx (v:=I (d.length:Int)) (Ll EE ak)<|Vr (.bool (decide (c< (d.length:Int))))<|AA<|Cn a (fun al a=>?_) fun al a=>?_
 refine WC.skip<|Aa<|Ad<|Sr<|Vm<|Vm<|Bi a fun af am a=>?_
 obtain ⟨an,ao,a1,ag,ap,aq,ar,au,n⟩:=BK (κ:=BY) ae am
 replace n:A1 g m an (ao+c.toNat*1) ag:=n
 obtain rfl:=(show ag=[Sb af] from au)
 refine Vx (Ix EE ap rfl aq ar)<|Vx (Ld B1 rfl (A1.cell0 n rfl))<|Vm<|Vx (v:=.bool (af==f)) (Run.strEq rfl rfl)<|AA<|Cn a (fun av a=>?_) fun av a=>?_
 refine Sr<|Va (.bool true)<|AA<|AY ?_
 obtain rfl:=AO a
 refine O1 B u rfl (.tmp rfl)<|⟨g,rfl,Ho (Tn (Mo [] y) h) q⟩
 refine WC.skip<|AL<|Vm<|Vr (I (Wr (c+1)))<|Va (I (Wr (c+1)))<|AA<|⟨e,Nat.lt_succ_self e,_,g,(Wr (c+1)),Pu,(ad▸a),(Mo [] h)⟩
 refine BZ<|Sr<|Va (.bool false)<|AA<|AY ?_
 obtain rfl:=AO a
 refine O1 B u rfl (.tmp rfl)<|⟨g,rfl,Ho (Tn (Mo [] y) h) q⟩
theorem QF(c:Nat):De.Spec (De c):=lk0 (Pp c)
def Ib.At(c:Col)(a:World)(f:Bts→Int→Option Int):Prop:=
 ∀{d v0 e g},f d e=some g→Slc Kd.u8 c.F a v0 d→
  Calls PG 100 #[v0,I e] a fun h l=>∃m,h=.returned (I g)∧AT [] c a m l
def Ib.Spec(f:Bts→Int→Option Int):Prop:=
 ∀a c,Ib.At a c f
theorem Sx(m:Col)(p:World)(ad:∀b,m b<10):Ib.At m p Ib:=by
 intro s v0 n an a o
 rw [Ib] at a
 obtain ⟨az,a0,rfl⟩:=AR o
 refine Az Tryz.func100 rfl Tryz.ntmps100 rfl fun B ae b4=>Sr<|Va (I 0)<|AA<|Aa<|Am (fun af u=>∃q f ag,af=Env.puts q [(0,Sl az s a0),(1,I n),(39,.bool ag)]∧Fj s n ag=some an∧AT [] m p f u) ?_ ?_
 refine AL<|Vm<|Vr (I (Wr (n+1)))<|Vm ?_
 obtain ⟨b5,b6,a1⟩:=AR o
 refine Vx (v:=I (s.length:Int)) (Ll Hs a1)<|Vr (.bool (decide ((Wr (n+1))< (s.length:Int))))<|Vm<|Bo a (fun d a=>?_) fun d a=>?_
 refine Gm d<|Gm d<|Bi a fun w a2 a=>?_
 obtain ⟨a3,a4,b7,ao,ah,ai,aj,a5,r⟩:=BK (κ:=Kd.u8) o a2
 replace r:A1 m p a3 (a4+n.toNat*1) ao:=r
 obtain rfl:=(show ao=[U8 w] from a5)
 refine Gx d (Ix Hs ah rfl ai aj)<|Gx d (Ld Mj rfl (A1.cell0 r rfl))<|Gr d (.bool ((w.toNat:Int)==((45:UInt8).toNat:Int)))<|Gm d<|Bo a (fun g a=>?_) fun g a=>?_
 refine Gm g<|Gm g<|Gr g (I (Wr (n+1)))<|Bi a fun y a6 a=>?_
 obtain ⟨a7,a8,b8,ap,aq,ar,au,a9,z⟩:=BK (κ:=Kd.u8) o a6
 replace z:A1 m p a7 (a8+((Wr (n+1))).toNat*1) ap:=z
 obtain rfl:=(show ap=[U8 y] from a9)
 refine Gx g (Ix Hs aq rfl ar au)<|Gx g (Ld Mj rfl (A1.cell0 z rfl))<|Gr g (.bool ((y.toNat:Int)==((62:UInt8).toNat:Int)))<|Gp d g<|Gm d<|Bo a (fun e a=>?_) fun e a=>?_
 refine Pg e<|Pg e<|Pg e<|Pg e<|Pg e<|Pg e<|Po<|Po<|Po<|Po<|Po<|Po<|Pg e<|Gp d e<|Vp d<|AA<|⟨_,m,true,Pu,a,Rf⟩
 refine Gm e<|Gm e<|Gx e (Ix Hs ah rfl ai aj)<|Gx e (Ld Mj rfl (A1.cell0 r rfl))<|Gr e (.bool ((w.toNat:Int)==((61:UInt8).toNat:Int)))<|Gm e<|Bo a (fun h a=>?_) fun h a=>?_
 refine Gm h<|Gm h<|Gr h (I (Wr (n+1)))<|Gx h (Ix Hs aq rfl ar au)<|Gx h (Ld Mj rfl (A1.cell0 z rfl))<|Gr h (.bool ((y.toNat:Int)==((61:UInt8).toNat:Int)))<|Gp e h<|Gp d e<|Vp d<|AA<|⟨_,m,((y.toNat:Int)==((61:UInt8).toNat:Int)),Pu,a,Rf⟩
 refine Pg h<|Pg h<|Pg h<|Pg h<|Pg h<|Pg h<|Gp e h<|Gp d e<|Vp d<|AA<|⟨_,m,false,Pu,a,Rf⟩
 refine Pg g<|Pg g<|Pg g<|Pg g<|Pg g<|Pg g<|Gp d g<|Gm d<|Gm rfl<|Gm rfl<|Gx rfl (Ix Hs ah rfl ai aj)<|Gx rfl (Ld Mj rfl (A1.cell0 r rfl))<|Gr rfl (.bool ((w.toNat:Int)==((61:UInt8).toNat:Int)))<|Gm rfl<|Bo a (fun l a=>?_) fun l a=>?_
 refine Gm l<|Gm l<|Gr l (I (Wr (n+1)))<|Bi a fun aa ba a=>?_
 obtain ⟨bb,bc,b9,av,bd,be,bf,bg,ak⟩:=BK (κ:=Kd.u8) o ba
 replace ak:A1 m p bb (bc+((Wr (n+1))).toNat*1) av:=ak
 obtain rfl:=(show av=[U8 aa] from bg)
 refine Gx l (Ix Hs bd rfl be bf)<|Gx l (Ld Mj rfl (A1.cell0 ak rfl))<|Gr l (.bool ((aa.toNat:Int)==((61:UInt8).toNat:Int)))<|Gp rfl l<|Gr d (.bool ((aa.toNat:Int)==((61:UInt8).toNat:Int)))<|Vp d<|AA<|⟨_,m,((aa.toNat:Int)==((61:UInt8).toNat:Int)),Pu,a,Rf⟩
 refine Pg l<|Pg l<|Pg l<|Pg l<|Pg l<|Pg l<|Gp rfl l<|Gr d (.bool false)<|Vp d<|AA<|⟨_,m,false,Pu,a,Rf⟩
 refine Pg d<|Pg d<|Pg d<|Pg d<|Pg d<|Pg d<|Po<|Po<|Po<|Po<|Po<|Po<|Pg d<|Pg d<|Po<|Po<|Po<|Po<|Po<|Po<|Po<|Po<|Po<|Po<|Po<|Po<|Po<|Pg d<|Vp d<|AA<|⟨_,m,false,Pu,a,Rf⟩
 rintro _ u ⟨q,f,ag,rfl,a,ab⟩
 rw [Fj] at a
 refine Cn a (fun bh a=>?_) fun bh a=>?_
 refine Sr<|Va (I 2)<|AA<|AY ?_
 obtain rfl:=AO a
 refine O1 B ae rfl (.tmp rfl)<|⟨f,rfl,Ho (Mo [] ab) ad⟩
 refine WC.skip<|Aa<|Sr<|Vm<|Vm<|Bi a fun c bi a=>have bj:=Ss Kd.u8 o ab; ?_
 obtain ⟨bk,bl,ca,aw,bm,bn,bo,bp,al⟩:=BK (κ:=Kd.u8) bj bi
 replace al:A1 f u bk (bl+n.toNat*1) aw:=al
 obtain rfl:=(show aw=[U8 c] from bp)
 refine Vx (Ix Hs bm rfl bn bo)<|Vx (Ld Mj rfl (A1.cell0 al rfl))<|AA<|Ad<|Am (fun af ax=>∃q ac am,af=Env.puts q [(44,.bool am)]∧Ds am=some an∧AT [] f u ac ax) ?_ ?_
 refine Sr<|Vr (.bool ((c.toNat:Int)==((40:UInt8).toNat:Int)))<|Va (.bool ((c.toNat:Int)==((40:UInt8).toNat:Int)))<|AA<|Cn a (fun bq a=>?_) fun bq a=>?_
 refine WC.skip<|⟨_,f,((c.toNat:Int)==((40:UInt8).toNat:Int)),Pu,a,Rf⟩
 refine Sr<|Vr (.bool ((c.toNat:Int)==((41:UInt8).toNat:Int)))<|Va (.bool ((c.toNat:Int)==((41:UInt8).toNat:Int)))<|AA<|Cn a (fun br a=>?_) fun br a=>?_
 refine WC.skip<|⟨_,f,((c.toNat:Int)==((41:UInt8).toNat:Int)),Pu,a,Rf⟩
 refine Sr<|Vr (.bool ((c.toNat:Int)==((44:UInt8).toNat:Int)))<|Va (.bool ((c.toNat:Int)==((44:UInt8).toNat:Int)))<|AA<|Cn a (fun bt a=>?_) fun bt a=>?_
 refine WC.skip<|⟨_,f,((c.toNat:Int)==((44:UInt8).toNat:Int)),Pu,a,Rf⟩
 refine Sr<|Vr (.bool ((c.toNat:Int)==((58:UInt8).toNat:Int)))<|Va (.bool ((c.toNat:Int)==((58:UInt8).toNat:Int)))<|AA<|Cn a (fun bu a=>?_) fun bu a=>?_
 refine WC.skip<|⟨_,f,((c.toNat:Int)==((58:UInt8).toNat:Int)),Pu,a,Rf⟩
 refine Sr<|Vr (.bool ((c.toNat:Int)==((59:UInt8).toNat:Int)))<|Va (.bool ((c.toNat:Int)==((59:UInt8).toNat:Int)))<|AA<|Cn a (fun bv a=>?_) fun bv a=>?_
 refine WC.skip<|⟨_,f,((c.toNat:Int)==((59:UInt8).toNat:Int)),Pu,a,Rf⟩
 refine Sr<|Vr (.bool ((c.toNat:Int)==((61:UInt8).toNat:Int)))<|Va (.bool ((c.toNat:Int)==((61:UInt8).toNat:Int)))<|AA<|Cn a (fun bw a=>?_) fun bw a=>?_
 refine WC.skip<|⟨_,f,((c.toNat:Int)==((61:UInt8).toNat:Int)),Pu,a,Rf⟩
 refine Sr<|Vr (.bool ((c.toNat:Int)==((43:UInt8).toNat:Int)))<|Va (.bool ((c.toNat:Int)==((43:UInt8).toNat:Int)))<|AA<|Cn a (fun bx a=>?_) fun bx a=>?_
 refine WC.skip<|⟨_,f,((c.toNat:Int)==((43:UInt8).toNat:Int)),Pu,a,Rf⟩
 refine Sr<|Vr (.bool ((c.toNat:Int)==((45:UInt8).toNat:Int)))<|Va (.bool ((c.toNat:Int)==((45:UInt8).toNat:Int)))<|AA<|Cn a (fun bz a=>?_) fun bz a=>?_
 refine WC.skip<|⟨_,f,((c.toNat:Int)==((45:UInt8).toNat:Int)),Pu,a,Rf⟩
 refine Sr<|Vr (.bool ((c.toNat:Int)==((42:UInt8).toNat:Int)))<|Va (.bool ((c.toNat:Int)==((42:UInt8).toNat:Int)))<|AA<|Cn a (fun b0 a=>?_) fun b0 a=>?_
 refine WC.skip<|⟨_,f,((c.toNat:Int)==((42:UInt8).toNat:Int)),Pu,a,Rf⟩
 refine Sr<|Vr (.bool ((c.toNat:Int)==((47:UInt8).toNat:Int)))<|Va (.bool ((c.toNat:Int)==((47:UInt8).toNat:Int)))<|AA<|Cn a (fun b1 a=>?_) fun b1 a=>?_
 refine WC.skip<|⟨_,f,((c.toNat:Int)==((47:UInt8).toNat:Int)),Pu,a,Rf⟩
 refine Sr<|Vr (.bool ((c.toNat:Int)==((60:UInt8).toNat:Int)))<|Va (.bool ((c.toNat:Int)==((60:UInt8).toNat:Int)))<|AA<|Cn a (fun b2 a=>?_) fun b2 a=>?_
 refine WC.skip<|⟨_,f,((c.toNat:Int)==((60:UInt8).toNat:Int)),Pu,a,Rf⟩
 refine AL<|Vr (.bool ((c.toNat:Int)==((124:UInt8).toNat:Int)))<|Va (.bool ((c.toNat:Int)==((124:UInt8).toNat:Int)))<|AA<|⟨_,f,((c.toNat:Int)==((124:UInt8).toNat:Int)),Pu,a,Rf⟩
 rintro _ ax ⟨q,ac,am,rfl,a,ay⟩
 rw [Ds] at a
 refine Cn a (fun b3 a=>?_) fun b3 a=>?_
 refine Sr<|Va (I 1)<|AA<|AY ?_
 obtain rfl:=AO a
 refine O1 B ae rfl (.tmp rfl)<|⟨ac,rfl,Ho (Tn (Mo [] ab) ay) ad⟩
 refine WC.skip<|Sr<|Va (I 0)<|AA<|AY ?_
 obtain rfl:=AO a
 refine O1 B ae rfl (.tmp rfl)<|⟨ac,rfl,Ho (Tn (Mo [] ab) ay) ad⟩
theorem T6:Ib.Spec Ib:=lk0 (Sx)
def Hv.At(d:Col)(a:World)(f:Bts→Int→Option (Af×Bool)):Prop:=
 ∀{e v0 g c},f e g=some c→Slc Kd.u8 d.F a v0 e→
  Calls PG 72 #[v0,I g] a fun n h=>∃l m,n=.returned (.tuple #[Ag m,.bool c.2])∧AT [] d a l h∧Ac.rep l.F h m c.1
def Hv.Spec(f:Bts→Int→Option (Af×Bool)):Prop:=
 ∀a c,Hv.At a c f
theorem T7(w:Nat)(aw:Col)(bz:World)(ag:∀b,aw b<10):Hv.At aw bz (Hv w):=by
 intro y v0 c ax a bd
 rw [Hv] at a
 obtain ⟨ah,ai,rfl⟩:=AR bd
 refine Az Tryz.func72 rfl Tryz.ntmps72 rfl fun B aj ee=>Sr<|Ef<|AX aw 20 Gj rfl fun b0 b1 ay ak ab=>Va (.bool false)<|AA<|Sr<|Vm<|Vm<|have be:=Ss Kd.u8 bd ab;Bi a fun h b2 a=>Ca (Cg [Sl ah y ai,I c] rfl) (U9 w b0 b1 b2 be) ?_
 rintro _ ef ⟨b3,rfl,p⟩
 refine Va (I h)<|AA<|Sr<|Vm<|Vm<|Vm<|Vm<|Vr (I (Wr (c+h)))<|Bi a fun d bf a=>have al:=Ss Kd.u8 be p; ?_
 obtain ⟨bg,bh,b4,b5,az⟩:=Uq al bf
 obtain ⟨eg,bi⟩:∃s,s=Value.slice (if bh=c.toNat then bg else bg.map (·.add (c.toNat*Kd.u8.size))) (((Wr (c+h))).toNat - c.toNat) (bh - c.toNat):=⟨_,rfl⟩
 rw [←bi] at az
 obtain ⟨b6,b7,b8,_⟩:=LO bf
 obtain ⟨b9,ca,rfl⟩:=AR az
 refine Vx (v:=.slice b9 d.length ca) (by rw [bi];exact Run.sliceSlc Hs b4 ⟨_,rfl⟩ ⟨_,rfl⟩ b6 b7 b8 b5)<|Vx (v:=Sb d) (Run.bytesStr PL rfl az)<|Vm<|Vx (v:=Ag [I 0,Sb d,Cx (((0,0):Nat×Nat)),I c]) (Bp Gj U6 rfl (.cons rfl rfl rfl (.cons rfl rfl rfl .nil)))<|Ef<|AX b3 21 Gj rfl fun am eh an cb l=>Eu<|St G3 cb rfl rfl rfl rfl fun a0 ao m=>AA<|Aa<|Ad<|Am (fun ac ad=>∃q r x63,ac=Env.puts q [(0,Sl ah y ai),(1,I c),(4,Pt ay 0),(6,I h),(7,Pt an 0),(22,.bool x63)]∧IH w y c h d x63=some ax∧AT [] am a0 r ad) ?_ ?_
 refine AL<|Vm<|Vr (.bool (decide (h>0)))<|Vm<|Bo a (fun f a=>?_) fun f a=>?_
 refine Gm f<|Gm f<|Bi a fun bj cc a=>have cd:=K2 Kd.u8 al l m; ?_
 obtain ⟨cf,cg,ei,bk,ch,ci,cj,ck,a1⟩:=BK (κ:=Kd.u8) cd cc
 replace a1:A1 am a0 cf (cg+c.toNat*1) bk:=a1
 obtain rfl:=(show bk=[U8 bj] from ck)
 refine Gx f (Ix Hs ch rfl ci cj)<|Gx f (Ld Mj rfl (A1.cell0 a1 rfl))<|Bi a fun bl cl a=>CC (.guard (t:=true) (b:=true) rfl rfl rfl rfl (Cb f)) rfl rfl (Cg [U8 bj] rfl)<|Calls.mono (Oo am a0 cl) ?_
 rintro _ ej ⟨cm,rfl,cn⟩
 refine ⟨_,rfl,?_⟩
 refine Vp f<|Va (.bool bl)<|AA<|⟨_,cm,bl,Pu,a,(Mo [] cn)⟩
 refine Pg f<|Pg f<|Pg f<|Pg f<|Pg f<|Vp f<|Va (.bool false)<|AA<|⟨_,am,false,Pu,a,Rf⟩
 rintro _ ad ⟨q,r,x63,rfl,a,e⟩
 rw [IH] at a
 refine Cn a (fun co a=>?_) fun co a=>?_
 refine Sr<|Vx (Fd FU rfl)<|have bm:=Bs ao e;Vx (Ld B1 rfl (Bc bm rfl))<|Bi a fun n cq a=>Ca (Cg [Sb d] rfl) (Mn w r ad cq) ?_
 rintro _ ek ⟨cr,el,rfl,a2,ct⟩
 obtain rfl:=HM ct
 refine Vm<|Vr (Ag [I n.1.re,I n.1.im])<|Vr (I n.2)<|Ef<|AX cr 22 I8 rfl fun cu em en cv a3=>Eu<|St JR cv rfl rfl rfl rfl fun eo cw a4=>Va (I n.2)<|AA<|Sr<|Vx (Fz Ko rfl)<|have cx:=Y3 bm a2 a3 a4;Eu<|St U4 cx rfl rfl rfl rfl fun cy cz a5=>AA<|Sr<|have c0:=Bs cw a5;Vx (Lx J0 rfl rfl (Bw c0))<|Bi a fun ap c1 a=>Ca (Cg [Ag [I n.1.re,I n.1.im]] rfl) (Mq cu cy c1 (FJ (x:=n.1))) ?_
 rintro _ ep ⟨c2,rfl,a6⟩
 refine Vx (Fd Ud rfl)<|have c3:=Bs cz a6;Eu<|St AAV c3 rfl rfl rfl rfl fun eq c4 bn=>AA<|Sr<|Vx (Lx IK rfl rfl (Bw c4))<|Vm<|Vr (.bool (n.2==0))<|have c5:=Y2 (Y4 (Y4 ak p l m e) a2 a3 a4 a5) a6 bn;Eu<|St G3 c5 rfl rfl rfl rfl fun er c6 c7=>Va (.bool (n.2==0))<|AA<|AY ?_
 obtain rfl:=AO a
 refine O2 B aj rfl (.agg IK rfl rfl (Bw c6)) (.tmp rfl)<|⟨c2,[I 2,Sb d,Cx ap,I c],rfl,Ho (T3 (T4 (T4 (Mo [20,21,22] ab) p l m e) a2 a3 a4 a5) a6 bn c7) ag,(Fc (x:=(Af.mk 2 d ap c)))⟩
 refine Am (fun ac ae=>∃q z a7,ac=Env.puts q [(0,Sl ah y ai),(1,I c),(4,Pt ay 0),(6,I h),(7,Pt an 0),(45,.bool a7)]∧IG w y c h d a7=some ax∧AT [] r ad z ae) ?_ ?_
 refine AL<|Vm<|Vr (.bool (decide (h>0)))<|Vm<|Bo a (fun g a=>?_) fun g a=>?_
 refine Gm g<|Gm g<|Bi a fun aq c8 a=>have c9:=K3 Kd.u8 al l m e; ?_
 obtain ⟨da,db,es,bo,dc,de,df,dg,a8⟩:=BK (κ:=Kd.u8) c9 c8
 replace a8:A1 r ad da (db+c.toNat*1) bo:=a8
 obtain rfl:=(show bo=[U8 aq] from dg)
 refine Gx g (Ix Hs dc rfl de df)<|Gx g (Ld Mj rfl (A1.cell0 a8 rfl))<|Gr g (.bool ((aq.toNat:Int)==((95:UInt8).toNat:Int)))<|Vp g<|Va (.bool ((aq.toNat:Int)==((95:UInt8).toNat:Int)))<|AA<|⟨_,r,((aq.toNat:Int)==((95:UInt8).toNat:Int)),Pu,a,Rf⟩
 refine Pg g<|Pg g<|Pg g<|Pg g<|Pg g<|Vp g<|Va (.bool false)<|AA<|⟨_,r,false,Pu,a,Rf⟩
 rintro _ ae ⟨q,z,a7,rfl,a,o⟩
 rw [IG] at a
 refine Cn a (fun dh a=>?_) fun dh a=>?_
 refine Sr<|have di:=Y2 ao e o;Vx (Lx IK rfl rfl (Bw di))<|have dj:=Bs (Y4 ak p l m e) o;Eu<|St G3 dj rfl rfl rfl rfl fun et dk dl=>Va (.bool false)<|AA<|AY ?_
 obtain rfl:=AO a
 refine O2 B aj rfl (.agg IK rfl rfl (Bw dk)) (.tmp rfl)<|⟨z,[I 0,Sb d,Cx (((0,0):Nat×Nat)),I c],rfl,Ho (T2 (T4 (Mo [20,21] ab) p l m e) o dl) ag,(Fc (x:=(Af.mk 0 d ((0,0):Nat×Nat) c)))⟩
 refine Sr<|Vm<|Vr (.bool (decide (h>0)))<|Va (.bool (decide (h>0)))<|AA<|Cn a (fun dm a=>?_) fun dm a=>?_
 refine Am (fun ac a9=>∃q ar u,ac=Env.puts q [(4,Pt ay 0),(7,Pt an 0)]∧MR c d u=some ax∧AT [21] z ae ar a9∧Bk ar a9 21 an [I u,Sb d,Cx (((0,0):Nat×Nat)),I c] 159) ?_ ?_
 refine Sr<|Vx (Fd FU rfl)<|have ba:=Y2 ao e o;Vx (Ld B1 rfl (Bc ba rfl))<|Bi a fun eu dn a=>Ca (Cg [Sb d] rfl) (QF w z ae dn) ?_
 rintro _ ew ⟨bp,rfl,au⟩
 refine AA<|Cn a (fun dp a=>?_) fun dp a=>?_
 refine AL<|Vx (Fz Ko rfl)<|have dq:=Bs ba au;Eu<|St U4 dq rfl rfl rfl rfl fun ex dr ds=>AA<|⟨_,bp,1,Pu,a,(Tn (Mo [21] au) ds),dr⟩
 refine WC.skip<|have dt:=Bs ba au;⟨_,bp,0,Pu,a,(Mo [21] au),dt⟩
 rintro _ a9 ⟨q,ar,u,rfl,a,bq,du⟩
 rw [MR] at a
 refine Sr<|Vx (Lx IK rfl rfl (Bw du))<|have dv:=Y2 (Y4 ak p l m e) o bq;Eu<|St G3 dv rfl rfl rfl rfl fun ey dw dx=>Va (.bool true)<|AA<|AY ?_
 obtain rfl:=AO a
 refine O2 B aj rfl (.agg IK rfl rfl (Bw dw)) (.tmp rfl)<|⟨ar,[I u,Sb d,Cx (((0,0):Nat×Nat)),I c],rfl,Ho (T3 (T4 (Mo [20,21] ab) p l m e) o bq dx) ag,(Fc (x:=(Af.mk u d ((0,0):Nat×Nat) c)))⟩
 refine WC.skip<|Sr<|Vm<|Vm<|have br:=K4 Kd.u8 al l m e o;Bi a fun af dy a=>Ca (Cg [Sl ah y ai,I c] rfl) (T6 z ae dy br) ?_
 rintro _ ez ⟨dz,rfl,av⟩
 refine Va (I af)<|AA<|Sr<|Vx (Fz Ko rfl)<|have d0:=Y3 ao e o av;Eu<|St U4 d0 rfl rfl rfl rfl fun e0 d1 bb=>AA<|Sr<|Vm<|Vm<|Vm<|Vm<|Vr (I (Wr (c+af)))<|Bi a fun aa bt a=>have d2:=K2 Kd.u8 br av bb; ?_
 obtain ⟨bu,bv,d3,d4,bc⟩:=Uq d2 bt
 obtain ⟨e1,bw⟩:∃s,s=Value.slice (if bv=c.toNat then bu else bu.map (·.add (c.toNat*Kd.u8.size))) (((Wr (c+af))).toNat - c.toNat) (bv - c.toNat):=⟨_,rfl⟩
 rw [←bw] at bc
 obtain ⟨d5,d6,d7,_⟩:=LO bt
 obtain ⟨d8,d9,rfl⟩:=AR bc
 refine Vx (v:=.slice d8 aa.length d9) (by rw [bw];exact Run.sliceSlc Hs d3 ⟨_,rfl⟩ ⟨_,rfl⟩ d5 d6 d7 d4)<|Vx (v:=Sb aa) (Run.bytesStr PL rfl bc)<|Vx (Fd FU rfl)<|Eu<|St Sp d1 rfl rfl rfl rfl fun e2 ea bx=>AA<|Sr<|Vx (Lx IK rfl rfl (Bw ea))<|Vm<|Vr (.bool (decide (af>0)))<|have eb:=Y4 (Y4 ak p l m e) o av bb bx;Eu<|St G3 eb rfl rfl rfl rfl fun e3 ec ed=>Va (.bool (decide (af>0)))<|AA<|AY ?_
 obtain rfl:=AO a
 refine O2 B aj rfl (.agg IK rfl rfl (Bw ec)) (.tmp rfl)<|⟨dz,[I 3,Sb aa,Cx (((0,0):Nat×Nat)),I c],rfl,Ho (Tn (T4 (T4 (Mo [20,21] ab) p l m e) o av bb bx) ed) ag,(Fc (x:=(Af.mk 3 aa ((0,0):Nat×Nat) c)))⟩
theorem VB(c:Nat):Hv.Spec (Hv c):=lk0 (T7 c)
def F7.At(d:Col)(a:World)(f:Bts→Option ((List Af)×Int)):Prop:=
 ∀{e v0 c},f e=some c→Slc Kd.u8 d.F a v0 e→
  Calls PG 47 #[v0] a fun m g=>∃h l,m=.returned (.tuple #[l,I c.2])∧AT [] d a h g∧Slc Ac h.F g l c.1
def F7.Spec(f:Bts→Option ((List Af)×Int)):Prop:=
 ∀a c,F7.At a c f
theorem Rj(n:Nat)(ae:Col)(az:World)(a0:∀b,ae b<10):F7.At ae az (F7 n):=by
 intro d v0 z a a1
 rw [F7] at a
 obtain ⟨af,ag,rfl⟩:=AR a1
 refine Az Tryz.func47 rfl Tryz.ntmps47 rfl fun B a2 c4=>Sr<|Va (.slice none 0 0)<|Va (I 0)<|AA<|Sr<|Va (.slice none 0 0)<|AA<|Sr<|Va (I 0)<|AA<|Aa<|Ad<|Bh (fun h aa ab=>∃o u e q r f,aa=Env.puts o [(0,Sl af d ag),(4,Sl q e r),(5,I f)]∧Df n d h e f=some z∧AT [20,22] ae az u ab∧Own Ac 159 u ab 22 (Sl q e r) e) n ?_ ?_
 exact ⟨_,ae,([]:List Af),none,0,0,Pu,a,(AT.refl [20,22] _ _),Own.nil⟩
 rintro h _ ab ⟨o,u,e,q,r,f,rfl,a,w,ah⟩
 rcases h with _|h
 exact A3 a
 refine have a:FC n d (Df n d h) e f=some z:=a; ?_
 obtain ⟨ac,ai⟩:∃s,s=Df n d h:=⟨_,rfl⟩
 rw [←ai,FC] at a
 refine Aa<|Sr<|Vm<|Vm<|have ad:=Ss Kd.u8 a1 w; ?_
 obtain ⟨c5,c6,bo⟩:=AR ad
 refine Vx (v:=I (d.length:Int)) (Ll Hs bo)<|Vr (.bool (decide (f< (d.length:Int))))<|AA<|Cn a (fun bp a=>?_) fun bp a=>?_
 refine WC.skip<|Ad<|Aa<|Sr<|Vm<|Vm<|Bi a fun ao bq a=>?_
 obtain ⟨br,bt,c7,a3,a4,a5,a6,bu,aj⟩:=BK (κ:=Kd.u8) ad bq
 replace aj:A1 u ab br (bt+f.toNat*1) a3:=aj
 obtain rfl:=(show a3=[U8 ao] from bu)
 refine Vx (Ix Hs a4 rfl a5 a6)<|Vx (Ld Mj rfl (A1.cell0 aj rfl))<|Bi a fun c8 bv a=>Ca (Cg [U8 ao] rfl) (Su u ab bv) ?_
 rintro _ a7 ⟨ak,rfl,m⟩
 refine AA<|Cn a (fun bw a=>?_) fun bw a=>?_
 refine Sr<|Vm<|Vr (I (Wr (f+1)))<|Va (I (Wr (f+1)))<|AA<|BZ<|have bx:=Os ah m;⟨h,Nat.lt_succ_self h,_,ak,e,q,r,(Wr (f+1)),Pu,(ai▸a),(Tn (Mo [20,22] w) m),bx⟩
 refine WC.skip<|Aa<|Sr<|Vm<|Vm<|Vx (Ix Hs a4 rfl a5 a6)<|have bz:=Es aj m;Vx (Ld Mj rfl (A1.cell0 bz rfl))<|Vr (.bool ((ao.toNat:Int)==((35:UInt8).toNat:Int)))<|AA<|Cn a (fun b0 a=>?_) fun b0 a=>?_
 refine Aa<|Ad<|Bh (fun p aa al=>∃o y l,aa=Env.puts o [(0,Sl af d ag),(4,Sl q e r),(5,I l)]∧Em d e ac p l=some z∧AT [] ak a7 y al) n ?_ ?_
 exact ⟨_,ak,f,Pu,a,Rf⟩
 rintro p _ al ⟨o,y,l,rfl,a,am⟩
 rcases p with _|p
 exact A3 a
 refine have a:FB d e ac (Em d e ac p) l=some z:=a; ?_
 obtain ⟨b1,a8⟩:∃s,s=Em d e ac p:=⟨_,rfl⟩
 rw [←a8,FB] at a
 refine Aa<|Am (fun aa a9=>∃o an ap,aa=Env.puts o [(0,Sl af d ag),(4,Sl q e r),(5,I l),(34,.bool ap)]∧HZ e ac l b1 ap=some z∧AT [] y al an a9) ?_ ?_
 refine AL<|Vm<|Vm<|have ba:=K2 Kd.u8 ad m am; ?_
 obtain ⟨c9,da,b2⟩:=AR ba
 refine Vx (v:=I (d.length:Int)) (Ll Hs b2)<|Vr (.bool (decide (l< (d.length:Int))))<|Vm<|Bo a (fun g a=>?_) fun g a=>?_
 refine Gm g<|Gm g<|Bi a fun aq b3 a=>?_
 obtain ⟨b4,b5,db,bb,b6,b7,b8,b9,ar⟩:=BK (κ:=Kd.u8) ba b3
 replace ar:A1 y al b4 (b5+l.toNat*1) bb:=ar
 obtain rfl:=(show bb=[U8 aq] from b9)
 refine Gx g (Ix Hs b6 rfl b7 b8)<|Gx g (Ld Mj rfl (A1.cell0 ar rfl))<|Gr g (.bool ((aq.toNat:Int) != ((10:UInt8).toNat:Int)))<|Vp g<|AA<|⟨_,y,((aq.toNat:Int) != ((10:UInt8).toNat:Int)),Pu,a,Rf⟩
 refine Pg g<|Pg g<|Pg g<|Pg g<|Pg g<|Vp g<|AA<|⟨_,y,false,Pu,a,Rf⟩
 rintro _ a9 ⟨o,an,ap,rfl,a,au⟩
 rw [HZ] at a
 refine Cn a (fun ca a=>?_) fun ca a=>?_
 refine WC.skip<|Ad<|AL<|Vm<|Vr (I (Wr (l+1)))<|Va (I (Wr (l+1)))<|AA<|⟨p,Nat.lt_succ_self p,_,an,(Wr (l+1)),Pu,(a8▸a),(Tn (Mo [] am) au)⟩
 refine BZ<|BZ<|have cb:=Os (Os (Os ah m) am) au;⟨h,Nat.lt_succ_self h,_,an,e,q,r,l,Pu,(ai▸a),(T3 (Mo [20,22] w) m am au),cb⟩
 refine WC.skip<|Sr<|Vm<|Vm<|have cc:=Ss Kd.u8 ad m;Bi a fun c cd a=>Ca (Cg [Sl af d ag,I f] rfl) (VB n ak a7 cd cc) ?_
 rintro _ dc ⟨cf,de,rfl,av,cg⟩
 obtain rfl:=DF cg
 refine Vm<|Vr (Ag [I c.1.kind,Sb c.1.text,Cx c.1.num,I c.1.at_])<|Vr (.bool c.2)<|Ef<|AX cf 20 Gj rfl fun bc df dg ch aw=>Eu<|St G3 ch rfl rfl rfl rfl fun dh bd ax=>Va (.bool c.2)<|AA<|Aa<|Sr<|Vm<|Vr (.bool (!c.2))<|AA<|Cn a (fun ci a=>?_) fun ci a=>?_
 refine Sr<|Vm<|Va (.slice none 0 0)<|Va (I f)<|AA<|AY ?_
 obtain rfl:=AO a
 refine O2 B a2 rfl (.tmp rfl) (.tmp rfl)<|⟨bc,.slice none 0 0,rfl,Ho (T4 (Mo [20,22] w) m av aw ax) a0,Bz⟩
 refine WC.skip<|Sr<|Vm<|Vx (Lx IK rfl rfl (Bw bd))<|Ef<|Ba (cs:=[I c.1.kind,Sb c.1.text,Cx c.1.num,I c.1.at_]) bc 21 [[I c.1.kind,Sb c.1.text,Cx c.1.num,I c.1.at_]] U7 Gj rfl rfl (.cons rfl rfl rfl .nil) rfl fun cj ck cl cm ay=>have cn:Own Ac 159 cj ck 21 (.slice (some ⟨cl,0,none⟩) 1 1) ([c.1]:List Af):=Own.lit (css:=[[I c.1.kind,Sb c.1.text,Cx c.1.num,I c.1.at_]]) cm rfl rfl rfl (AQ (Fc (x:=c.1)) As) (Av rfl B4) rfl;have co:=Os (Os (Os (Os (Os ah m) av) aw) ax) ay;Bi a fun di be a=>Ef<|Ay (κ:=Ac) rfl rfl co dcd W9 (BF cn) (B3 be) (B5 be) fun dj cq dk bf bg=>?_
 obtain ⟨bh,bi,rfl⟩:=Own.len bf
 refine Va (Sl bh ((e++([c.1]:List Af))) bi)<|AA<|AL<|Vm<|Vx (Fd FU rfl)<|have cr:=Y2 bd ay bg;Vx (Ld B1 rfl (Bc cr rfl))<|Vx (v:=I (c.1.text.length:Int)) (Run.lenStr JP rfl)<|Vr (I (Wr (f+(c.1.text.length:Int))))<|Va (I (Wr (f+(c.1.text.length:Int))))<|AA<|⟨h,Nat.lt_succ_self h,_,cq,(e++([c.1]:List Af)),bh,bi,(Wr (f+(c.1.text.length:Int))),Pu,(ai▸a),(T2 (T4 (Mo [20,22] w) m av aw ax) ay bg),bf⟩
 refine BZ<|Sr<|Vm<|Vm ?_
 obtain ⟨dl,dm,ct⟩:=AR ad
 refine Vx (v:=I (d.length:Int)) (Ll Hs ct)<|Vx (v:=Ag [I 4,Sb ([]:Bts),Cx (((0,0):Nat×Nat)),I (d.length:Int)]) (Bp Gj U6 rfl (.cons rfl rfl rfl (.cons rfl rfl rfl .nil)))<|Ef<|Ba (cs:=[I 4,Sb ([]:Bts),Cx (((0,0):Nat×Nat)),I (d.length:Int)]) u 23 [[I 4,Sb ([]:Bts),Cx (((0,0):Nat×Nat)),I (d.length:Int)]] U7 Gj rfl rfl (.cons rfl rfl rfl .nil) rfl fun cu cv cw cx bj=>have cy:Own Ac 159 cu cv 23 (.slice (some ⟨cw,0,none⟩) 1 1) ([(Af.mk 4 ([]:Bts) ((0,0):Nat×Nat) (d.length:Int))]:List Af):=Own.lit (css:=[[I 4,Sb ([]:Bts),Cx (((0,0):Nat×Nat)),I (d.length:Int)]]) cx rfl rfl rfl (AQ (Fc (x:=(Af.mk 4 ([]:Bts) ((0,0):Nat×Nat) (d.length:Int)))) As) (Av rfl B4) rfl;have cz:=Os ah bj;Bi a fun dn bk a=>Ef<|Ay (κ:=Ac) rfl rfl cz dcd W9 (BF cy) (B3 bk) (B5 bk) fun dp dq dr bl c0=>?_
 obtain ⟨bm,bn,rfl⟩:=Own.len bl
 refine Va (Sl bm ((e++([(Af.mk 4 ([]:Bts) ((0,0):Nat×Nat) (d.length:Int))]:List Af))) bn)<|Va (I (-1:Int))<|AA<|AY ?_
 obtain ⟨c1,c2,c3⟩:=Own.freeze (S:=[22]) bl dcd dcd
 obtain rfl:=AO a
 refine O2 B a2 rfl (.tmp rfl) (.tmp rfl)<|⟨c1,Sl bm ((e++([(Af.mk 4 ([]:Bts) ((0,0):Nat×Nat) (d.length:Int))]:List Af))) bn,rfl,Ho (T3 (Mo [20,22] w) bj c0 c2) a0,c3⟩
theorem Sy(c:Nat):F7.Spec (F7 c):=lk0 (Rj c)
def BV.At(G1 G2:Prop)(c:Col)(a:World)(f:AD→Option Af)(o:Nat):Prop:=
 ∀{d e g h},f e=some h→G1→G2→Bk c a o d g 126→BG.rep c.F a g e→
  Calls PG 73 #[Pt d 0] a fun p l=>∃m n,p=.returned (Ag n)∧AT [] c a m l∧Ac.rep m.F l n h
def BV.Spec(f:AD→Option Af):Prop:=
 ∀c d {a},BV.At ([a].Nodup) (0∉[a]) c d f a
theorem OB(g:Col)(q:World)(r:∀b,g b<10):BV.At True True g q BV 1:=by
 intro n s an ao e _ _ u w
 rw [BV] at e
 obtain ⟨aq,ar,rfl,o⟩:=E1 (AW w)
 refine Az Tryz.func73 rfl Tryz.ntmps73 rfl fun B y d=>Sr<|Ef<|AX g 20 Gj rfl fun h au av z l=>AA<|Aa<|CL E0 (qs 0 10 (.one 10 .nil)) [10] [] h (by kernel_rfl) fun aa f=>Qx d rfl (v:=Pt n 0) (fun _ _=>Mv rfl)<|Qx d rfl (fun _ _=>Nc rfl)<|Qx d rfl (fun _ _=>Fz Xe rfl)<|have p:=Y2 u l f;Qx d rfl (fun _ ⟨_,c⟩=>Ld ZX rfl (Bc (Bs p c) rfl))<|Qx d rfl (v:=Pt n 0) (fun _ _=>Mv rfl)<|Qx d rfl (fun _ _=>Nc rfl)<|Qx d rfl (fun _ _=>Fd GK rfl)<|Qx d rfl (fun _ ⟨_,c⟩=>Ld CH rfl (Bc (Bs p c) rfl))<|Bi e fun a ab e=>have ac:=K2 Ac o l f; ?_
 obtain ⟨ad,ae,aw,af,ag,ah,ai,aj,m⟩:=BK (κ:=Ac) ac ab
 replace m:A1 h aa ad (ae+s.at_.toNat*4) af:=m
 obtain rfl:=DF aj
 refine Qx d rfl (fun _ _=>Ix U7 ag rfl ah ai)<|Qx d rfl (fun _ ⟨_,c⟩=>Lx IK rfl rfl (A1.part0 (Es m c) [I a.kind,Sb a.text,Cx a.num,I a.at_] rfl))<|Cq dcd<|WY.one<|have ak:=Bs z f;BC rfl (.none rfl) rfl<|St G3 ak rfl rfl rfl rfl fun ax al am=>WY.nil<|AY ?_
 obtain rfl:=AO e
 refine O1 B y rfl (.agg IK rfl rfl (Bw al))<|⟨h,[I a.kind,Sb a.text,Cx a.num,I a.at_],rfl,Ho (T2 (Mo [20] l) f am) r,(Fc (x:=a))⟩
theorem CT:BV.Spec BV:=lk1 (OB)
def Bt.At(G1 G2:Prop)(c:Col)(a:World)(f:AD→Int→Option AD)(d:Nat):Prop:=
 ∀{e l m n o},f l n=some o→G1→G2→Bk c a d e m 126→BG.rep c.F a m l→
  Calls PG 101 #[Pt e 0,I n] a fun q g=>∃h p,q=.returned (.tuple #[])∧AT [d] c a h g∧Bk h g d e p 126∧BG.rep h.F g p o
def Bt.Spec(f:AD→Int→Option AD):Prop:=
 ∀c d {a},Bt.At ([a].Nodup) (0∉[a]) c d f a
theorem OC(e:Col)(w:World)(m:∀b,e b<10):Bt.At True True e w Bt 1:=by
 intro y a ai f aj c _ _ g z
 rw [Bt] at c
 obtain ⟨n,o,rfl,h⟩:=E1 (AW z)
 refine Az Tryz.func101 rfl Tryz.ntmps101 rfl fun B p al=>Sr<|Vm<|Vx (Nc rfl)<|Vx (Fd I1 rfl)<|Vx (Ld CH rfl (Bc g rfl))<|Vr (.bool (a.why==0))<|AA<|Cn c (fun aa c=>?_) fun aa c=>?_
 refine Sr<|Vm<|Vm<|Vx (Nc rfl)<|Vx (Fd I1 rfl)<|Eu<|St Mi g rfl rfl rfl rfl fun ab q r=>AA<|AL<|Vm<|Vm<|have s:=Ss Ac h r;Bi c fun d ac c=>Ca (Cg [Pt y 0] rfl) (CT e ab ac dcd dcd q (AN (x:=(AD.mk a.marks a.at_ f a.where_ (Ae.mk a.l.text a.l.funcs a.l.arity a.l.nest) a.nest)) s)) ?_
 rintro _ am ⟨ad,an,rfl,l,ae⟩
 obtain rfl:=DF ae
 refine Vx (v:=I d.at_) (Ju (cs:=[I d.kind,Sb d.text,Cx d.num,I d.at_]) Xi rfl rfl)<|Vx (Nc rfl)<|Vx (Fd Ub rfl)<|have af:=Bs q l;Eu<|St Mi af rfl rfl rfl rfl fun ao ag u=>AA ?_
 obtain rfl:=AO c
 refine Mb (B:=B) p<|Ma rfl<|have ah:=K2 Ac s l u;⟨ad,[Sl n a.marks o,I a.at_,I f,I d.at_,I a.l.text,I a.l.funcs,I a.l.arity,I a.l.nest,I a.nest],rfl,Ho (T2 (Mo [1] r) l u) m,ag,(AN (x:=(AD.mk a.marks a.at_ f d.at_ (Ae.mk a.l.text a.l.funcs a.l.arity a.l.nest) a.nest)) ah)⟩
 refine WC.skip ?_
 obtain rfl:=AO c
 refine Mb (B:=B) p<|Ma rfl<|⟨e,[Sl n a.marks o,I a.at_,I a.why,I a.where_,I a.l.text,I a.l.funcs,I a.l.arity,I a.l.nest,I a.nest],rfl,Ho Rf m,g,(AN (x:=a) h)⟩
theorem E6:Bt.Spec Bt:=lk1 (OC)
def CM.At(G1 G2:Prop)(e:Col)(a:World)(f:AD→Option (Af×AD))(g:Nat):Prop:=
 ∀{h m n l},f m=some l→G1→G2→Bk e a g h n 126→BG.rep e.F a n m→
  Calls PG 102 #[Pt h 0] a fun q c=>∃d o p,q=.returned (Ag o)∧AT [g] e a d c∧Ac.rep d.F c o l.1∧Bk d c g h p 126∧BG.rep d.F c p l.2
def CM.Spec(f:AD→Option (Af×AD)):Prop:=
 ∀c d {a},CM.At ([a].Nodup) (0∉[a]) c d f a
theorem OD(r:Col)(al:World)(ac:∀b,r b<10):CM.At True True r al CM 1:=by
 intro s a bn am c _ _ an ao
 rw [CM] at c
 obtain ⟨ap,aq,rfl,ad⟩:=E1 (AW ao)
 refine Az Tryz.func102 rfl Tryz.ntmps102 rfl fun B ae bp=>Sr<|Ef<|AX r 20 Gj rfl fun ar au av af n=>AA<|Sr<|Vm<|have o:=Bs an n;have u:=Ss Ac ad n;Bi c fun d aw c=>Ca (Cg [Pt s 0] rfl) (CT ar au aw dcd dcd o (AN (x:=a) u)) ?_
 rintro _ bq ⟨ax,br,rfl,f,ay⟩
 obtain rfl:=DF ay
 refine Ef<|AX ax 21 Gj rfl fun w bt az a0 g=>Eu<|St G3 a0 rfl rfl rfl rfl fun a1 ag h=>AA<|Aa<|Am (fun a2 y=>∃ah p z,a2=Env.puts ah [(0,Pt s 0),(2,Pt av 0),(3,Pt az 0),(15,.bool z)]∧F8 a d z=some am∧AT [] w a1 p y) ?_ ?_
 refine AL<|Vm<|Vx (Nc rfl)<|Vx (Fd I1 rfl)<|have a3:=Y3 o f g h;Vx (Ld CH rfl (Bc a3 rfl))<|Vr (.bool (a.why != 0))<|Vm<|Bo c (fun l c=>?_) fun l c=>?_
 refine Pg l<|Pg l<|Pg l<|Vp l<|AA<|⟨_,w,true,Pu,c,Rf⟩
 refine Gx l (Fz Ko rfl)<|Gx l (Ld PM rfl (Bc ag rfl))<|Gr l (.bool (d.kind != 0))<|Vp l<|AA<|⟨_,w,(d.kind != 0),Pu,c,Rf⟩
 rintro _ y ⟨ah,p,z,rfl,c,m⟩
 rw [F8] at c
 refine Cn c (fun a4 c=>?_) fun a4 c=>?_
 refine Sr<|Vm<|have a5:=Y4 o f g h m;have a6:=K4 Ac u f g h m;Bi c fun e a7 c=>Ca (Cg [Pt s 0,I 21] rfl) (E6 p y a7 dcd dcd a5 (AN (x:=a) a6)) ?_
 rintro _ bu ⟨a8,bv,rfl,ai,a9,ba⟩
 obtain ⟨bb,bc,rfl,aj⟩:=E1 (AW ba)
 refine AA<|Sr<|Vx (v:=Ag [I 0,Sb ([]:Bts),Cx (((0,0):Nat×Nat)),I 0]) (Bp Gj U6 rfl .nil)<|have bd:=Bs (Y4 af f g h m) ai;Eu<|St G3 bd rfl rfl rfl rfl fun bx be aa=>AA<|AY ?_
 obtain rfl:=AO c
 refine O1 B ae rfl (.agg IK rfl rfl (Bw be))<|have bf:=Bs a9 aa;have bg:=Ss Ac aj aa;⟨a8,[I 0,Sb ([]:Bts),Cx (((0,0):Nat×Nat)),I 0],[Sl bb e.marks bc,I e.at_,I e.why,I e.where_,I e.l.text,I e.l.funcs,I e.l.arity,I e.l.nest,I e.nest],rfl,Ho (T2 (T4 (Mo [1,20,21] n) f g h m) ai aa) ac,(Fc (x:=(Af.mk 0 ([]:Bts) ((0,0):Nat×Nat) 0))),bf,(AN (x:=e) bg)⟩
 refine WC.skip<|Sr<|Vm<|Vx (Nc rfl)<|Vx (Fd GK rfl)<|have ak:=Y4 o f g h m;Vx (Ld CH rfl (Bc ak rfl))<|Vr (I (Wr (a.at_+1)))<|Vx (Nc rfl)<|Vx (Fd GK rfl)<|Eu<|St Mi ak rfl rfl rfl rfl fun bz bh q=>AA<|Sr<|have bi:=Y2 ag m q;Vx (Lx IK rfl rfl (Bw bi))<|have bj:=Bs (Y4 af f g h m) q;Eu<|St G3 bj rfl rfl rfl rfl fun b0 bk ab=>AA<|AY ?_
 obtain rfl:=AO c
 refine O1 B ae rfl (.agg IK rfl rfl (Bw bk))<|have bl:=Bs bh ab;have bm:=K2 Ac (K4 Ac u f g h m) q ab;⟨p,[I d.kind,Sb d.text,Cx d.num,I d.at_],[Sl ap a.marks aq,I (Wr (a.at_+1)),I a.why,I a.where_,I a.l.text,I a.l.funcs,I a.l.arity,I a.l.nest,I a.nest],rfl,Ho (T2 (T4 (Mo [1,20,21] n) f g h m) q ab) ac,(Fc (x:=d)),bl,(AN (x:=(AD.mk a.marks (Wr (a.at_+1)) a.why a.where_ (Ae.mk a.l.text a.l.funcs a.l.arity a.l.nest) a.nest)) bm)⟩
theorem Ht:CM.Spec CM:=lk1 (OD)
def Bf.At(G1 G2:Prop)(c:Col)(a:World)(f:AD→Bts→Option Bool)(m:Nat):Prop:=
 ∀{d e g h l},f e h=some l→G1→G2→Bk c a m d g 126→BG.rep c.F a g e→
  Calls PG 104 #[Pt d 0,Sb h] a fun n o=>∃p,n=.returned (.bool l)∧AT [] c a p o
def Bf.Spec(f:AD→Bts→Option Bool):Prop:=
 ∀c d {a},Bf.At ([a].Nodup) (0∉[a]) c d f a
theorem PQ(m:Col)(p:World)(ab:∀b,m b<10):Bf.At True True m p Bf 1:=by
 intro ac q ao g ad a _ _ r ae
 rw [Bf] at a
 obtain ⟨aq,ar,rfl,s⟩:=E1 (AW ae)
 refine Az Tryz.func104 rfl Tryz.ntmps104 rfl fun B af au=>Sr<|Va (.bool false)<|AA<|Sr<|Vm<|Bi a fun e ag a=>Ca (Cg [Pt ac 0] rfl) (CT m p ag dcd dcd r (AN (x:=q) s)) ?_
 rintro _ av ⟨ah,aw,rfl,u,ai⟩
 obtain rfl:=DF ai
 refine Ef<|AX ah 20 Gj rfl fun h ax ay aj w=>Eu<|St G3 aj rfl rfl rfl rfl fun ak l y=>AA<|Am (fun al z=>∃aa n o,al=Env.puts aa [(4,.bool o)]∧G9 o=some ad∧AT [] h ak n z) ?_ ?_
 refine AL<|Vm<|Vx (Nc rfl)<|Vx (Fd I1 rfl)<|have am:=Y3 r u w y;Vx (Ld CH rfl (Bc am rfl))<|Vr (.bool (q.why==0))<|Vm<|Bo a (fun c a=>?_) fun c a=>?_
 refine Gx c (Fz Ko rfl)<|Gx c (Ld PM rfl (Bc l rfl))<|Gr c (.bool (e.kind==1))<|Gm c<|Bo a (fun f a=>?_) fun f a=>?_
 refine Pg f<|Pg f<|Pg f<|Gp c f<|Vp c<|Vm<|Gx rfl (Fd FU rfl)<|Gx rfl (Ld B1 rfl (Bc l rfl))<|Gm rfl<|Gx rfl (v:=.bool (e.text==g)) (Run.strEq rfl rfl)<|Vr (.bool (e.text==g))<|Va (.bool (e.text==g))<|AA<|⟨_,h,(e.text==g),Pu,a,Rf⟩
 refine Gx f (Fz Ko rfl)<|Gx f (Ld PM rfl (Bc l rfl))<|Gr f (.bool (e.kind==3))<|Gp c f<|Vp c<|Vm<|Bo a (fun d a=>?_) fun d a=>?_
 refine Gx d (Fd FU rfl)<|Gx d (Ld B1 rfl (Bc l rfl))<|Gm d<|Gx d (v:=.bool (e.text==g)) (Run.strEq rfl rfl)<|Vp d<|Va (.bool (e.text==g))<|AA<|⟨_,h,(e.text==g),Pu,a,Rf⟩
 refine Pg d<|Pg d<|Pg d<|Pg d<|Vp d<|Va (.bool false)<|AA<|⟨_,h,false,Pu,a,Rf⟩
 refine Pg c<|Pg c<|Pg c<|Pg c<|Po<|Po<|Po<|Pg c<|Vp c<|Vm<|Pg rfl<|Pg rfl<|Pg rfl<|Pg rfl<|Vr (.bool false)<|Va (.bool false)<|AA<|⟨_,h,false,Pu,a,Rf⟩
 rintro _ z ⟨aa,n,o,rfl,a,an⟩
 rw [G9] at a
 refine AY ?_
 obtain rfl:=AO a
 refine O1 B af rfl (.tmp rfl)<|⟨n,rfl,Ho (T3 (Mo [20] u) w y an) ab⟩
theorem Cv:Bf.Spec Bf:=lk1 (PQ)
def Bu.At(G1 G2:Prop)(c:Col)(a:World)(f:AD→Bts→Option (Bool×AD))(d:Nat):Prop:=
 ∀{e m n o g},f m o=some g→G1→G2→Bk c a d e n 126→BG.rep c.F a n m→
  Calls PG 130 #[Pt e 0,Sb o] a fun q h=>∃l p,q=.returned (.bool g.1)∧AT [d] c a l h∧Bk l h d e p 126∧BG.rep l.F h p g.2
def Bu.Spec(f:AD→Bts→Option (Bool×AD)):Prop:=
 ∀c d {a},Bu.At ([a].Nodup) (0∉[a]) c d f a
theorem OE(f:Col)(h:World)(l:∀b,f b<10):Bu.At True True f h Bu 1:=by
 intro s a af u ag c _ _ g w
 rw [Bu] at c
 obtain ⟨m,n,rfl,e⟩:=E1 (AW w)
 refine Az Tryz.func130 rfl Tryz.ntmps130 rfl fun B o ai=>Sr<|Va (.bool false)<|AA<|Aa<|Sr<|Vm<|Vm<|Bi c fun y z c=>Ca (Cg [Pt s 0,Sb u] rfl) (Cv f h z dcd dcd g (AN (x:=a) e)) ?_
 rintro _ aj ⟨p,rfl,d⟩
 refine Vr (.bool (!y))<|AA<|Cn c (fun aa c=>?_) fun aa c=>?_
 refine Sr<|Va (.bool false)<|AA<|AY ?_
 obtain rfl:=AO c
 refine O1 B o rfl (.tmp rfl)<|have ab:=Bs g d;have ac:=Ss Ac e d;⟨p,[Sl m a.marks n,I a.at_,I a.why,I a.where_,I a.l.text,I a.l.funcs,I a.l.arity,I a.l.nest,I a.nest],rfl,Ho (Mo [] d) l,ab,(AN (x:=a) ac)⟩
 refine WC.skip<|Sr<|Vm<|Vx (Nc rfl)<|Vx (Fd GK rfl)<|have q:=Bs g d;Vx (Ld CH rfl (Bc q rfl))<|Vr (I (Wr (a.at_+1)))<|Vx (Nc rfl)<|Vx (Fd GK rfl)<|Eu<|St Mi q rfl rfl rfl rfl fun ak ad r=>AA<|Sr<|Va (.bool true)<|AA<|AY ?_
 obtain rfl:=AO c
 refine O1 B o rfl (.tmp rfl)<|have ae:=K2 Ac e d r;⟨p,[Sl m a.marks n,I (Wr (a.at_+1)),I a.why,I a.where_,I a.l.text,I a.l.funcs,I a.l.arity,I a.l.nest,I a.nest],rfl,Ho (Tn (Mo [1] d) r) l,ad,(AN (x:=(AD.mk a.marks (Wr (a.at_+1)) a.why a.where_ (Ae.mk a.l.text a.l.funcs a.l.arity a.l.nest) a.nest)) ae)⟩
theorem E7:Bu.Spec Bu:=lk1 (OE)
def A2.At(G1 G2:Prop)(c:Col)(a:World)(f:AD→Bts→Option AD)(d:Nat):Prop:=
 ∀{e l m n o},f l n=some o→G1→G2→Bk c a d e m 126→BG.rep c.F a m l→
  Calls PG 103 #[Pt e 0,Sb n] a fun q g=>∃h p,q=.returned (.tuple #[])∧AT [d] c a h g∧Bk h g d e p 126∧BG.rep h.F g p o
def A2.Spec(f:AD→Bts→Option AD):Prop:=
 ∀c d {a},A2.At ([a].Nodup) (0∉[a]) c d f a
theorem OF(e:Col)(g:World)(h:∀b,e b<10):A2.At True True e g A2 1:=by
 intro l s am u an c _ _ w y
 rw [A2] at c
 obtain ⟨ap,aq,rfl,m⟩:=E1 (AW y)
 refine Az Tryz.func103 rfl Tryz.ntmps103 rfl fun B n ar=>Sr<|Vm<|Vm<|Bi c fun a z c=>Ca (Cg [Pt l 0,Sb u] rfl) (E7 e g z dcd dcd w (AN (x:=s) m)) ?_
 rintro _ aa ⟨o,au,rfl,p,q,ab⟩
 obtain ⟨ac,ad,rfl,f⟩:=E1 (AW ab)
 refine Vr (.bool (!a.1))<|AA<|Cn c (fun ae c=>?_) fun ae c=>?_
 refine AL<|Vm<|Bi c fun d af c=>Ca (Cg [Pt l 0,I 21] rfl) (E6 o aa af dcd dcd q (AN (x:=a.2) f)) ?_
 rintro _ aw ⟨ag,ax,rfl,ah,ai,aj⟩
 obtain ⟨ak,al,rfl,r⟩:=E1 (AW aj)
 refine AA ?_
 obtain rfl:=AO c
 refine Mb (B:=B) n<|Ma rfl<|⟨ag,[Sl ak d.marks al,I d.at_,I d.why,I d.where_,I d.l.text,I d.l.funcs,I d.l.arity,I d.l.nest,I d.nest],rfl,Ho (Tn (Mo [1] p) ah) h,ai,(AN (x:=d) r)⟩
 refine WC.skip ?_
 obtain rfl:=AO c
 refine Mb (B:=B) n<|Ma rfl<|⟨o,[Sl ac a.2.marks ad,I a.2.at_,I a.2.why,I a.2.where_,I a.2.l.text,I a.2.l.funcs,I a.2.l.arity,I a.2.l.nest,I a.2.nest],rfl,Ho (Mo [1] p) h,q,(AN (x:=a.2) f)⟩
theorem BP:A2.Spec A2:=lk1 (OF)
def CQ.At(G1 G2:Prop)(c:Col)(a:World)(f:AD→Option (Int×AD))(d:Nat):Prop:=
 ∀{e m n g},f m=some g→G1→G2→Bk c a d e n 126→BG.rep c.F a n m→
  Calls PG 105 #[Pt e 0] a fun p h=>∃l o,p=.returned (I g.1)∧AT [d] c a l h∧Bk l h d e o 126∧BG.rep l.F h o g.2
def CQ.Spec(f:AD→Option (Int×AD)):Prop:=
 ∀c d {a},CQ.At ([a].Nodup) (0∉[a]) c d f a
theorem Ot(aj:Nat)(ac:Col)(a4:World)(ak:∀b,ac b<10):CQ.At True True ac a4 (CQ aj) 1:=by
 intro z f bx al a _ _ a5 a6
 rw [CQ] at a
 obtain ⟨a7,a8,rfl,am⟩:=E1 (AW a6)
 refine Az Tryz.func105 rfl Tryz.ntmps105 rfl fun B an b0=>Sr<|Va (I 0)<|AA<|Sr<|Ef<|Ba (cs:=[Sb ([78]:Bts),Sb ([66]:Bts),Sb ([76]:Bts)]) ac 20 [[Sb ([78]:Bts)],[Sb ([66]:Bts)],[Sb ([76]:Bts)]] EE Mm rfl rfl (.cons rfl rfl rfl (.cons rfl rfl rfl (.cons rfl rfl rfl .nil))) rfl fun ad ao ae a9 aa=>have ba:Own BY 9 ad ao 20 (.slice (some ⟨ae,0,none⟩) 3 3) ([([78]:Bts),([66]:Bts),([76]:Bts)]:List Bts):=Own.lit (css:=[[Sb ([78]:Bts)],[Sb ([66]:Bts)],[Sb ([76]:Bts)]]) a9 rfl rfl rfl (AQ rfl (AQ rfl (AQ rfl As))) (Av rfl (Av rfl (Av rfl B4))) rfl;Va (Sl (some ⟨ae,0,none⟩) (([([78]:Bts),([66]:Bts),([76]:Bts)]:List Bts)) 3)<|AA<|Aa<|Sr<|Va (I 0)<|AA<|Ad<|Bh (fun g bb l=>∃ap m d h af ag n o p q r u w y,bb=Env.puts ap [(0,Pt z 0),(3,Sl (some ⟨ae,0,none⟩) (([([78]:Bts),([66]:Bts),([76]:Bts)]:List Bts)) 3),(4,I d)]∧CP g d h n o p q r u w y=some al∧AT [1] ad ao m l∧Slc Ac m.F l (Sl af h ag) h∧Bk m l 1 z [Sl af h ag,I n,I o,I p,I q,I r,I u,I w,I y] 126) aj ?_ ?_
 refine have bc:=Ss Ac am aa;have bd:=Bs a5 aa;⟨_,ad,0,f.marks,a7,a8,f.at_,f.why,f.where_,f.l.text,f.l.funcs,f.l.arity,f.l.nest,f.nest,Pu,a,(AT.refl [1] _ _),bc,bd⟩
 rintro g _ l ⟨ap,m,d,h,af,ag,n,o,p,q,r,u,w,y,rfl,a,ab,aq,ar⟩
 rcases g with _|g
 exact A3 a
 refine have a:DG (CP g) d h n o p q r u w y=some al:=a; ?_
 obtain ⟨b1,au⟩:∃s,s=CP g:=⟨_,rfl⟩
 rw [←au,DG] at a
 refine Aa<|Sr<|Vm<|Vm<|have av:=Os ba ab; ?_
 obtain ⟨b2,b3,be⟩:=Own.len av
 refine Vx (v:=I (([([78]:Bts),([66]:Bts),([76]:Bts)]:List Bts).length:Int)) (Ll EE be)<|Vr (.bool (decide (d< (([([78]:Bts),([66]:Bts),([76]:Bts)]:List Bts).length:Int))))<|AA<|Cn a (fun bf a=>?_) fun bf a=>?_
 refine WC.skip<|Aa<|Ad<|Sr<|Vm<|Vm<|Vm<|Bi a fun aw bg a=>?_
 obtain ⟨bh,b4,ax,bi,bj,bk,bl,ah⟩:=Ph (κ:=BY) av bg
 replace ah:Mz 20 m l bh (0+d.toNat*1) ax:=ah
 obtain rfl:=(show ax=[Sb aw] from bl)
 refine Vx (Ix EE bi rfl bj bk)<|Vx (Ld B1 rfl (Mz.cell0 ah rfl))<|Bi a fun c bm a=>Ca (Cg [Pt z 0,Sb aw] rfl) (E7 m l bm dcd dcd ar (AN (x:=(AD.mk h n o p (Ae.mk q r u w) y)) aq)) ?_
 rintro _ b5 ⟨ay,b6,rfl,az,a0,bn⟩
 obtain ⟨a1,a2,rfl,ai⟩:=E1 (AW bn)
 refine AA<|Cn a (fun bo a=>?_) fun bo a=>?_
 refine Sr<|Vm<|Vr (I (Wr (d+1)))<|Va (I (Wr (d+1)))<|AA<|AY ?_
 obtain rfl:=AO a
 refine O1 B an rfl (.tmp rfl)<|⟨ay,[Sl a1 c.2.marks a2,I c.2.at_,I c.2.why,I c.2.where_,I c.2.l.text,I c.2.l.funcs,I c.2.l.arity,I c.2.l.nest,I c.2.nest],rfl,Ho (T2 (Mo [1] aa) ab az) ak,a0,(AN (x:=c.2) ai)⟩
 refine WC.skip<|AL<|Vm<|Vr (I (Wr (d+1)))<|Va (I (Wr (d+1)))<|AA<|⟨g,Nat.lt_succ_self g,_,ay,(Wr (d+1)),c.2.marks,a1,a2,c.2.at_,c.2.why,c.2.where_,c.2.l.text,c.2.l.funcs,c.2.l.arity,c.2.l.nest,c.2.nest,Pu,(au▸a),(Tn (Mo [1] ab) az),ai,a0⟩
 refine BZ<|Sr<|Vm<|Bi a fun e bp a=>Ca (Cg [Pt z 0,I 21] rfl) (E6 m l bp dcd dcd ar (AN (x:=(AD.mk h n o p (Ae.mk q r u w) y)) aq)) ?_
 rintro _ b8 ⟨bq,b9,rfl,br,bt,bu⟩
 obtain ⟨bv,bw,rfl,a3⟩:=E1 (AW bu)
 refine AA<|Sr<|Va (I 0)<|AA<|AY ?_
 obtain rfl:=AO a
 refine O1 B an rfl (.tmp rfl)<|⟨bq,[Sl bv e.marks bw,I e.at_,I e.why,I e.where_,I e.l.text,I e.l.funcs,I e.l.arity,I e.l.nest,I e.nest],rfl,Ho (T2 (Mo [1] aa) ab br) ak,bt,(AN (x:=e) a3)⟩
theorem JS(d:Nat):CQ.Spec (CQ d):=lk1 (Ot d)
def It.At(c:Col)(a:World)(f:Int→AB→AB→Af→Option AB):Prop:=
 ∀{d e g h l m n o},f d e h m=some o→AJ.rep c.F a g e→AJ.rep c.F a l h→Ac.rep c.F a n m→
  Calls PG 144 #[I d,Ag g,Ag l,Ag n] a fun s p=>∃q r,s=.returned (Ag r)∧AT [] c a q p∧AJ.rep q.F p r o
def It.Spec(f:Int→AB→AB→Af→Option AB):Prop:=
 ∀a c,It.At a c f
theorem T8(r:Col)(ac:World)(ad:∀b,r b<10):It.At r ac It:=by
 intro d a a6 c a7 e a8 a9 u ae af ag
 rw [It] at u
 obtain ⟨m,n,rfl,w⟩:=E1 (Ak ae)
 obtain ⟨o,p,rfl,y⟩:=E1 (Ak af)
 obtain rfl:=DF ag
 refine Az Tryz.func144 rfl Tryz.ntmps144 rfl fun B ah bc=>Sr<|Ef<|Bb r 20 rfl rfl fun ai bd be aj s=>Ef<|Bb ai 21 rfl rfl fun ak bf bg al q=>Ef<|Bb ak 22 rfl rfl fun am bh bi an h=>Ef<|AX am 23 CB rfl fun ao bj bk ap f=>AA<|Sr<|Vm<|have aq:=Y3 aj q h f;Vx (Lx A8 rfl rfl (Bw aq))<|have ar:=Y2 al h f;Vx (Lx A8 rfl rfl (Bw ar))<|Ef<|Ba (cs:=[I a.op,Sb a.name,Sb a.tail,I a.type_,Cx a.num,Sl m a.args n,I a.at_,I c.op,Sb c.name,Sb c.tail,I c.type_,Cx c.num,Sl o c.args p,I c.at_]) ao 24 [[I a.op,Sb a.name,Sb a.tail,I a.type_,Cx a.num,Sl m a.args n,I a.at_],[I c.op,Sb c.name,Sb c.tail,I c.type_,Cx c.num,Sl o c.args p,I c.at_]] Cp CB rfl rfl (.cons rfl rfl rfl (.cons rfl rfl rfl .nil)) rfl fun au av g aw l=>have ax:=Ss AJ (K4 AJ y s q h f) l;have ay:=Ss AJ (K4 AJ w s q h f) l;have z:Own AJ 56 au av 24 (.slice (some ⟨g,0,none⟩) 2 2) ([a,c]:List AB):=Own.lit (css:=[[I a.op,Sb a.name,Sb a.tail,I a.type_,Cx a.num,Sl m a.args n,I a.at_],[I c.op,Sb c.name,Sb c.tail,I c.type_,Cx c.num,Sl o c.args p,I c.at_]]) aw rfl rfl rfl (AQ (Ab (x:=a) ay) (AQ (Ab (x:=c) ax) As)) (Av rfl (Av rfl B4)) rfl;Vx (Fd LL rfl)<|have az:=Y2 an f l;Vx (Ld CH rfl (Bc az rfl))<|Vx (v:=Ag [I d,Sb ([]:Bts),Sb ([]:Bts),I 0,Cx (((0,0):Nat×Nat)),Sl (some ⟨g,0,none⟩) (([a,c]:List AB)) 2,I e.at_]) (Bp CB Jp rfl (.cons rfl rfl rfl (.cons rfl rfl rfl (.cons rfl rfl rfl .nil))))<|have a0:=Bs ap l;Eu<|A9 (vs:=[I d,Sb ([]:Bts),Sb ([]:Bts),I 0,Cx (((0,0):Nat×Nat)),Sl (some ⟨g,0,none⟩) (([a,c]:List AB)) 2,I e.at_]) (cs':=[I d,Sb ([]:Bts),Sb ([]:Bts),I 0,Cx (((0,0):Nat×Nat)),Sl (some ⟨g,0,none⟩) (([a,c]:List AB)) 2,I e.at_]) DB rfl rfl rfl rfl (AP rfl (AP rfl (AP rfl (AP rfl (AP rfl (AP (Own.one z) (AP rfl BO))))))) a0 dcd rfl rfl fun bl a1 aa=>AA<|AY<|have a2:=Os z aa; ?_
 obtain ⟨a3,ab,a4⟩:=Own.freeze (S:=[24]) a2 dcd dcd
 obtain rfl:=AO u
 refine have a5:=Bs a1 ab;O1 B ah rfl (.agg A8 rfl rfl (Bw a5))<|⟨a3,[I d,Sb ([]:Bts),Sb ([]:Bts),I 0,Cx (((0,0):Nat×Nat)),Sl (some ⟨g,0,none⟩) (([a,c]:List AB)) 2,I e.at_],rfl,Ho (T2 (T4 (Mo [23,24] s) q h f l) aa ab) ad,(Ab (x:=(AB.mk d ([]:Bts) ([]:Bts) 0 ((0,0):Nat×Nat) ([a,c]:List AB) e.at_)) a4)⟩
theorem MT:It.Spec It:=lk0 (T8)
def Hx.At(e:Col)(a:World)(f:Bts→Option Int):Prop:=
 ∀{c d},f c=some d→
  Calls PG 163 #[Sb c] a fun g h=>∃l,g=.returned (I d)∧AT [] e a l h
def Hx.Spec(f:Bts→Option Int):Prop:=
 ∀a c,Hx.At a c f
theorem Sz(d:Col)(g:World)(e:∀b,d b<10):Hx.At d g Hx:=by
 intro c s a
 rw [Hx] at a
 refine Az Tryz.func163 rfl Tryz.ntmps163 rfl fun B f u=>Sr<|Va (I 0)<|AA<|Aa<|Sr<|Vm<|AA<|Ad<|Sr<|Vx (v:=.bool (c==([116,114,117,101]:Bts))) (Run.strEq rfl rfl)<|Va (.bool (c==([116,114,117,101]:Bts)))<|AA<|Cn a (fun h a=>?_) fun h a=>?_
 refine Sr<|Va (I 2)<|AA<|AY ?_
 obtain rfl:=AO a
 refine O1 B f rfl (.tmp rfl)<|⟨d,rfl,Ho Rf e⟩
 refine Sr<|Vx (v:=.bool (c==([102,97,108,115,101]:Bts))) (Run.strEq rfl rfl)<|Va (.bool (c==([102,97,108,115,101]:Bts)))<|AA<|Cn a (fun l a=>?_) fun l a=>?_
 refine Sr<|Va (I 3)<|AA<|AY ?_
 obtain rfl:=AO a
 refine O1 B f rfl (.tmp rfl)<|⟨d,rfl,Ho Rf e⟩
 refine Sr<|Vx (v:=.bool (c==([110,105,108]:Bts))) (Run.strEq rfl rfl)<|Va (.bool (c==([110,105,108]:Bts)))<|AA<|Cn a (fun m a=>?_) fun m a=>?_
 refine Sr<|Va (I 4)<|AA<|AY ?_
 obtain rfl:=AO a
 refine O1 B f rfl (.tmp rfl)<|⟨d,rfl,Ho Rf e⟩
 refine Sr<|Vx (v:=.bool (c==([102,97,105,108]:Bts))) (Run.strEq rfl rfl)<|Va (.bool (c==([102,97,105,108]:Bts)))<|AA<|Cn a (fun n a=>?_) fun n a=>?_
 refine Sr<|Va (I 5)<|AA<|AY ?_
 obtain rfl:=AO a
 refine O1 B f rfl (.tmp rfl)<|⟨d,rfl,Ho Rf e⟩
 refine Sr<|Vx (v:=.bool (c==([110,111,116]:Bts))) (Run.strEq rfl rfl)<|Va (.bool (c==([110,111,116]:Bts)))<|AA<|Cn a (fun o a=>?_) fun o a=>?_
 refine Sr<|Va (I 14)<|AA<|AY ?_
 obtain rfl:=AO a
 refine O1 B f rfl (.tmp rfl)<|⟨d,rfl,Ho Rf e⟩
 refine Sr<|Vx (v:=.bool (c==([114,101]:Bts))) (Run.strEq rfl rfl)<|Va (.bool (c==([114,101]:Bts)))<|AA<|Cn a (fun p a=>?_) fun p a=>?_
 refine Sr<|Va (I 15)<|AA<|AY ?_
 obtain rfl:=AO a
 refine O1 B f rfl (.tmp rfl)<|⟨d,rfl,Ho Rf e⟩
 refine Sr<|Vx (v:=.bool (c==([105,109]:Bts))) (Run.strEq rfl rfl)<|Va (.bool (c==([105,109]:Bts)))<|AA<|Cn a (fun q a=>?_) fun q a=>?_
 refine Sr<|Va (I 16)<|AA<|AY ?_
 obtain rfl:=AO a
 refine O1 B f rfl (.tmp rfl)<|⟨d,rfl,Ho Rf e⟩
 refine Sr<|Vx (v:=.bool (c==([99,111,110,106]:Bts))) (Run.strEq rfl rfl)<|Va (.bool (c==([99,111,110,106]:Bts)))<|AA<|Cn a (fun r a=>?_) fun r a=>?_
 refine Sr<|Va (I 17)<|AA<|AY ?_
 obtain rfl:=AO a
 refine O1 B f rfl (.tmp rfl)<|⟨d,rfl,Ho Rf e⟩
 refine WC.skip<|Sr<|Va (I 0)<|AA<|AY ?_
 obtain rfl:=AO a
 refine O1 B f rfl (.tmp rfl)<|⟨d,rfl,Ho Rf e⟩
theorem NI:Hx.Spec Hx:=lk0 (Sz)
def ref04_reader_expr.At(G1 G2:Prop)(e:Col)(a:World)(f:AD→Option (AB×AD))(g:Nat):Prop:=
 ∀{h m n l},f m=some l→G1→G2→Bk e a g h n 126→BG.rep e.F a n m→
  Calls PG 106 #[Pt h 0] a fun q c=>∃d o p,q=.returned (Ag o)∧AT [g] e a d c∧AJ.rep d.F c o l.1∧Bk d c g h p 126∧BG.rep d.F c p l.2
def ref04_reader_expr.Spec(f:AD→Option (AB×AD)):Prop:=
 ∀c d {a},ref04_reader_expr.At ([a].Nodup) (0∉[a]) c d f a
def ref04_reader_cons.At(G1 G2:Prop)(e:Col)(a:World)(f:AD→Option (AB×AD))(g:Nat):Prop:=
 ∀{h m n l},f m=some l→G1→G2→Bk e a g h n 126→BG.rep e.F a n m→
  Calls PG 131 #[Pt h 0] a fun q c=>∃d o p,q=.returned (Ag o)∧AT [g] e a d c∧AJ.rep d.F c o l.1∧Bk d c g h p 126∧BG.rep d.F c p l.2
def ref04_reader_cons.Spec(f:AD→Option (AB×AD)):Prop:=
 ∀c d {a},ref04_reader_cons.At ([a].Nodup) (0∉[a]) c d f a
def ref04_reader_parts.At(G1 G2:Prop)(c:Col)(a:World)(f:AD→(List Bts)→Option ((List AB)×AD))(g:Nat):Prop:=
 ∀{h m n o p l},f m o=some l→G1→G2→Bk c a g h n 126→BG.rep c.F a n m→Slc BY c.F a p o→
  Calls PG 132 #[Pt h 0,p] a fun s d=>∃e q r,s=.returned q∧AT [g] c a e d∧Slc AJ e.F d q l.1∧Bk e d g h r 126∧BG.rep e.F d r l.2
def ref04_reader_parts.Spec(f:AD→(List Bts)→Option ((List AB)×AD)):Prop:=
 ∀c d {a},ref04_reader_parts.At ([a].Nodup) (0∉[a]) c d f a
def ref04_reader_branches.At(G1 G2:Prop)(c:Col)(a:World)(f:AD→AB→Option (AD×AB))(g h:Nat):Prop:=
 ∀{l o p m q r n},f o q=some n→G1→G2→Bk c a g l p 126→BG.rep c.F a p o→Bk c a h m r 56→AJ.rep c.F a r q→
  Calls PG 133 #[Pt l 0,Pt m 0] a fun w d=>∃e s u,w=.returned (.tuple #[])∧AT [g,h] c a e d∧Bk e d g l s 126∧BG.rep e.F d s n.1∧Bk e d h m u 56∧AJ.rep e.F d u n.2
def ref04_reader_branches.Spec(f:AD→AB→Option (AD×AB)):Prop:=
 ∀d e {a c},ref04_reader_branches.At ([a,c].Nodup) (0∉[a,c]) d e f a c
def ref04_reader_comp.At(G1 G2:Prop)(e:Col)(a:World)(f:AD→Option (AB×AD))(g:Nat):Prop:=
 ∀{h m n l},f m=some l→G1→G2→Bk e a g h n 126→BG.rep e.F a n m→
  Calls PG 143 #[Pt h 0] a fun q c=>∃d o p,q=.returned (Ag o)∧AT [g] e a d c∧AJ.rep d.F c o l.1∧Bk d c g h p 126∧BG.rep d.F c p l.2
def ref04_reader_comp.Spec(f:AD→Option (AB×AD)):Prop:=
 ∀c d {a},ref04_reader_comp.At ([a].Nodup) (0∉[a]) c d f a
def ref04_reader_sum.At(G1 G2:Prop)(e:Col)(a:World)(f:AD→Option (AB×AD))(g:Nat):Prop:=
 ∀{h m n l},f m=some l→G1→G2→Bk e a g h n 126→BG.rep e.F a n m→
  Calls PG 148 #[Pt h 0] a fun q c=>∃d o p,q=.returned (Ag o)∧AT [g] e a d c∧AJ.rep d.F c o l.1∧Bk d c g h p 126∧BG.rep d.F c p l.2
def ref04_reader_sum.Spec(f:AD→Option (AB×AD)):Prop:=
 ∀c d {a},ref04_reader_sum.At ([a].Nodup) (0∉[a]) c d f a
def ref04_reader_term.At(G1 G2:Prop)(e:Col)(a:World)(f:AD→Option (AB×AD))(g:Nat):Prop:=
 ∀{h m n l},f m=some l→G1→G2→Bk e a g h n 126→BG.rep e.F a n m→
  Calls PG 151 #[Pt h 0] a fun q c=>∃d o p,q=.returned (Ag o)∧AT [g] e a d c∧AJ.rep d.F c o l.1∧Bk d c g h p 126∧BG.rep d.F c p l.2
def ref04_reader_term.Spec(f:AD→Option (AB×AD)):Prop:=
 ∀c d {a},ref04_reader_term.At ([a].Nodup) (0∉[a]) c d f a
def ref04_reader_unit.At(G1 G2:Prop)(e:Col)(a:World)(f:AD→Option (AB×AD))(g:Nat):Prop:=
 ∀{h m n l},f m=some l→G1→G2→Bk e a g h n 126→BG.rep e.F a n m→
  Calls PG 157 #[Pt h 0] a fun q c=>∃d o p,q=.returned (Ag o)∧AT [g] e a d c∧AJ.rep d.F c o l.1∧Bk d c g h p 126∧BG.rep d.F c p l.2
def ref04_reader_unit.Spec(f:AD→Option (AB×AD)):Prop:=
 ∀c d {a},ref04_reader_unit.At ([a].Nodup) (0∉[a]) c d f a
def ref04_reader_named.At(G1 G2:Prop)(c:Col)(a:World)(f:AD→Af→Option (AB×AD))(g:Nat):Prop:=
 ∀{h m n o p l},f m o=some l→G1→G2→Bk c a g h n 126→BG.rep c.F a n m→Ac.rep c.F a p o→
  Calls PG 162 #[Pt h 0,Ag p] a fun s d=>∃e q r,s=.returned (Ag q)∧AT [g] c a e d∧AJ.rep e.F d q l.1∧Bk e d g h r 126∧BG.rep e.F d r l.2
def ref04_reader_named.Spec(f:AD→Af→Option (AB×AD)):Prop:=
 ∀c d {a},ref04_reader_named.At ([a].Nodup) (0∉[a]) c d f a
structure AC.Good(a:AC):Prop where
 ref04_reader_expr:ref04_reader_expr.Spec a.ref04_reader_expr
 ref04_reader_cons:ref04_reader_cons.Spec a.ref04_reader_cons
 ref04_reader_parts:ref04_reader_parts.Spec a.ref04_reader_parts
 ref04_reader_branches:ref04_reader_branches.Spec a.ref04_reader_branches
 ref04_reader_comp:ref04_reader_comp.Spec a.ref04_reader_comp
 ref04_reader_sum:ref04_reader_sum.Spec a.ref04_reader_sum
 ref04_reader_term:ref04_reader_term.Spec a.ref04_reader_term
 ref04_reader_unit:ref04_reader_unit.Spec a.ref04_reader_unit
 ref04_reader_named:ref04_reader_named.Spec a.ref04_reader_named
theorem OG(aq:AC)(ar:Nat)(b4:AC.Good aq)(ct:Col)(ek:World)(cu:∀b,ct b<10):ref04_reader_expr.At True True ct ek (Cy aq ar) 1:=by
 intro c h i3 au a _ _ el em
 rw [Cy] at a
 obtain ⟨en,eo,rfl,db⟩:=E1 (AW em)
 refine Az Tryz.func106 rfl Tryz.ntmps106 rfl fun B cv e=>Sr<|Ef<|AX ct 20 CB rfl fun ep eq av cw bt=>AA<|Sr<|Vm<|have bu:=Bs el bt;have b5:=Ss Ac db bt;Bi a fun m er a=>Ca (Cg [Pt c 0] rfl) (CT ep eq er dcd dcd bu (AN (x:=h) b5)) ?_
 rintro _ i5 ⟨es,i6,rfl,ab,et⟩
 obtain rfl:=DF et
 refine Ef<|AX es 21 Gj rfl fun dc i7 bv eu ac=>Eu<|St G3 eu rfl rfl rfl rfl fun de ew ad=>AA<|Am (fun p b6=>∃f a3 l,p=Env.puts f [(0,Pt c 0),(2,Pt av 0),(3,Pt bv 0),(4,.bool l)]∧DH aq ar h m l=some au∧AT [] dc de a3 b6) ?_ ?_
 refine AL<|Vm<|have df:=Y3 bu ab ac ad;have dg:=K3 Ac b5 ab ac ad;Bi a fun i8 ex a=>Ca (Cg [Pt c 0,Sb ([108,101,116]:Bts)] rfl) (Cv dc de ex dcd dcd df (AN (x:=h) dg)) ?_
 rintro _ ey ⟨dh,rfl,bw⟩
 refine Vm<|Bo a (fun a4 a=>?_) fun a4 a=>?_
 refine Pg a4<|Pg a4<|Vp a4<|Vm<|Pg rfl<|Pg rfl<|Vr (.bool true)<|Va (.bool true)<|AA<|⟨_,dh,true,Pu,a,(Mo [] bw)⟩
 refine Gm a4<|have di:=Bs df bw;have dj:=Ss Ac dg bw;Bi a fun i9 ez a=>CC (.guard (t:=false) (b:=false) rfl rfl rfl rfl (Cb a4)) rfl rfl (Cg [Pt c 0,Sb ([115,116,114,105,99,116]:Bts)] rfl)<|Calls.mono (Cv dh ey ez dcd dcd di (AN (x:=h) dj)) ?_
 rintro _ e0 ⟨dk,rfl,b7⟩
 refine ⟨_,rfl,?_⟩
 refine Vp a4<|Vm<|Bo a (fun a5 a=>?_) fun a5 a=>?_
 refine Pg a5<|Pg a5<|Vp a5<|Va (.bool true)<|AA<|⟨_,dk,true,Pu,a,(Tn (Mo [] bw) b7)⟩
 refine Gm a5<|have e1:=Bs di b7;have e2:=Ss Ac dj b7;Bi a fun dl e3 a=>CC (.guard (t:=false) (b:=false) rfl rfl rfl rfl (Cb a5)) rfl rfl (Cg [Pt c 0,Sb ([99,97,115,101]:Bts)] rfl)<|Calls.mono (Cv dk e0 e3 dcd dcd e1 (AN (x:=h) e2)) ?_
 rintro _ ja ⟨e4,rfl,e5⟩
 refine ⟨_,rfl,?_⟩
 refine Vp a5<|Va (.bool dl)<|AA<|⟨_,e4,dl,Pu,a,(T2 (Mo [] bw) b7 e5)⟩
 rintro _ b6 ⟨f,a3,l,rfl,a,ae⟩
 rw [DH] at a
 refine Am (fun p bg=>∃f aw n bx bz q r u w y z aa ag,p=Env.puts f [(0,Pt c 0),(2,Pt av 0),(3,Pt bv 0),(4,.bool l)]∧Dj aq ar m l n q r u w y z aa ag=some au∧AT [1] a3 b6 aw bg∧Slc Ac aw.F bg (Sl bx n bz) n∧Bk aw bg 1 c [Sl bx n bz,I q,I r,I u,I w,I y,I z,I aa,I ag] 126) ?_ ?_
 refine Am (fun p cx=>∃f b8 cy,p=Env.puts f [(0,Pt c 0),(2,Pt av 0),(3,Pt bv 0),(4,.bool l),(31,.bool cy)]∧Dk aq ar h m l cy=some au∧AT [] a3 b6 b8 cx) ?_ ?_
 refine CL E0 (qs 0 13 .nil) [] [] a3 (by kernel_rfl) fun jb cz=>Qx e rfl (v:=.bool l) (fun _ _=>Mv rfl)<|Qx e rfl (v:=.bool l) (fun _ _=>Mv rfl)<|Bo a (fun g a=>?_) fun g a=>?_
 refine Qg e rfl g (v:=Pt c 0) (fun _ _=>Mv rfl)<|Qg e rfl g (fun _ _=>Nc rfl)<|Qg e rfl g (fun _ _=>Fd Na rfl)<|have dm:=Bs (Y4 bu ab ac ad ae) cz;Qg e rfl g (fun _ ⟨_,s⟩=>Ld CH rfl (Bc (Bs dm s) rfl))<|Qg e rfl g (v:=Pt c 0) (fun _ _=>Mv rfl)<|Qg e rfl g (fun _ _=>Nc rfl)<|Qg e rfl g (fun _ _=>Fd Ql rfl)<|Qg e rfl g (fun _ _=>Fd YJ rfl)<|Qg e rfl g (fun _ ⟨_,s⟩=>Ld CH rfl (Bc (Bs dm s) rfl))<|Qg e rfl g (v:=.bool (decide (h.nest≥h.l.nest))) (fun _ _=>rfl)<|Qx e rfl (v:=.bool (decide (h.nest≥h.l.nest))) (fun _ _=>(Pk g))<|Dv<|⟨_,a3,(decide (h.nest≥h.l.nest)),Pu,a,(Mo [] cz)⟩
 refine Qp e rfl g<|Qp e rfl g<|Qp e rfl g<|Qp e rfl g<|Qp e rfl g<|Qp e rfl g<|Qp e rfl g<|Qp e rfl g<|Qp e rfl g<|Qp e rfl g<|Qx e rfl (v:=.bool false) (fun _ _=>(Pk g))<|Dv<|⟨_,a3,false,Pu,a,(Mo [] cz)⟩
 rintro _ cx ⟨f,b8,cy,rfl,a,bh⟩
 rw [Dk] at a
 refine Cn a (fun e6 a=>?_) fun e6 a=>?_
 refine AL<|Vm<|have e7:=Bs (Y4 bu ab ac ad ae) bh;have e8:=Ss Ac (K4 Ac b5 ab ac ad ae) bh;Bi a fun ak e9 a=>Ca (Cg [Pt c 0,I 23] rfl) (E6 b8 cx e9 dcd dcd e7 (AN (x:=h) e8)) ?_
 rintro _ jc ⟨fa,jd,rfl,fb,fc,fd⟩
 obtain ⟨fe,ff,rfl,dn⟩:=E1 (AW fd)
 refine AA<|⟨_,fa,ak.marks,fe,ff,ak.at_,ak.why,ak.where_,ak.l.text,ak.l.funcs,ak.l.arity,ak.l.nest,ak.nest,Pu,a,(Tn (Mo [1] bh) fb),dn,fc⟩
 refine WC.skip<|have fg:=Ss Ac (K4 Ac b5 ab ac ad ae) bh;have fh:=Bs (Y4 bu ab ac ad ae) bh;⟨_,b8,h.marks,en,eo,h.at_,h.why,h.where_,h.l.text,h.l.funcs,h.l.arity,h.l.nest,h.nest,Pu,a,(Mo [1] bh),fg,fh⟩
 rintro _ bg ⟨f,aw,n,bx,bz,q,r,u,w,y,z,aa,ag,rfl,a,a6,bi,bj⟩
 rw [Dj] at a
 refine Aa<|Sr<|Vm<|Vx (Nc rfl)<|Vx (Fd I1 rfl)<|Vx (Ld CH rfl (Bc bj rfl))<|Vr (.bool (r != 0))<|AA<|Cn a (fun fi a=>?_) fun fi a=>?_
 refine Sr<|Vx (v:=Ag [I 0,Sb ([]:Bts),Sb ([]:Bts),I 0,Cx (((0,0):Nat×Nat)),.slice none 0 0,I 0]) (Bp CB Jp rfl .nil)<|have fj:=Bs (Y4 cw ab ac ad ae) a6;Eu<|St DB fj rfl rfl rfl rfl fun jf fk c0=>AA<|AY ?_
 obtain rfl:=AO a
 refine O1 B cv rfl (.agg A8 rfl rfl (Bw fk))<|have fl:=Bs bj c0;have fm:=Ss Ac bi c0;⟨aw,[I 0,Sb ([]:Bts),Sb ([]:Bts),I 0,Cx (((0,0):Nat×Nat)),.slice none 0 0,I 0],[Sl bx n bz,I q,I r,I u,I w,I y,I z,I aa,I ag],rfl,Ho (T2 (T4 (Mo [1,20,21] bt) ab ac ad ae) a6 c0) cu,(Ab (x:=(AB.mk 0 ([]:Bts) ([]:Bts) 0 ((0,0):Nat×Nat) [] 0)) Bz),fl,(AN (x:=(AD.mk n q r u (Ae.mk w y z aa) ag)) fm)⟩
 refine WC.skip<|Aa<|Am (fun p b9=>∃f bk c1,p=Env.puts f [(0,Pt c 0),(2,Pt av 0),(3,Pt bv 0),(4,.bool l),(46,.bool c1)]∧Di aq ar m l n q r u w y z aa ag c1=some au∧AT [] aw bg bk b9) ?_ ?_
 refine AL<|Vm<|Vr (.bool (!l))<|Vm<|Bo a (fun al a=>?_) fun al a=>?_
 refine Gm al<|Bi a fun dp fn a=>CC (.guard (t:=true) (b:=true) rfl rfl rfl rfl (Cb al)) rfl rfl (Cg [Pt c 0,Sb ([105,102]:Bts)] rfl)<|Calls.mono (Cv aw bg fn dcd dcd bj (AN (x:=(AD.mk n q r u (Ae.mk w y z aa) ag)) bi)) ?_
 rintro _ jg ⟨fo,rfl,fp⟩
 refine ⟨_,rfl,?_⟩
 refine Gr al (.bool (!dp))<|Vp al<|AA<|⟨_,fo,(!dp),Pu,a,(Mo [] fp)⟩
 refine Pg al<|Pg al<|Pg al<|Vp al<|AA<|⟨_,aw,false,Pu,a,Rf⟩
 rintro _ b9 ⟨f,bk,c1,rfl,a,af⟩
 rw [Di] at a
 refine Cn a (fun fq a=>?_) fun fq a=>?_
 refine Sr<|Vm<|have fr:=Bs bj af;have fs:=Ss Ac bi af;Bi a fun d ft a=>Ca (Cg [Pt c 0] rfl) (b4.ref04_reader_cons bk b9 ft dcd dcd fr (AN (x:=(AD.mk n q r u (Ae.mk w y z aa) ag)) fs)) ?_
 rintro _ jh ⟨fu,ji,jj,rfl,dq,fv,fw,fx⟩
 obtain ⟨ds,dt,rfl,dr⟩:=E1 (Ak fv)
 obtain ⟨fy,fz,rfl,du⟩:=E1 (AW fx)
 refine have f0:=Y3 (Y4 cw ab ac ad ae) a6 af dq;Eu<|St DB f0 rfl rfl rfl rfl fun jm f1 ca=>AA<|AY ?_
 obtain rfl:=AO a
 refine O1 B cv rfl (.agg A8 rfl rfl (Bw f1))<|have f2:=Ss AJ dr ca;have f3:=Bs fw ca;have f4:=Ss Ac du ca;⟨fu,[I d.1.op,Sb d.1.name,Sb d.1.tail,I d.1.type_,Cx d.1.num,Sl ds d.1.args dt,I d.1.at_],[Sl fy d.2.marks fz,I d.2.at_,I d.2.why,I d.2.where_,I d.2.l.text,I d.2.l.funcs,I d.2.l.arity,I d.2.l.nest,I d.2.nest],rfl,Ho (T4 (T4 (Mo [1,20,21] bt) ab ac ad ae) a6 af dq ca) cu,(Ab (x:=d.1) f2),f3,(AN (x:=d.2) f4)⟩
 refine WC.skip<|Am (fun p c2=>∃f cb a7,p=Env.puts f [(0,Pt c 0),(2,Pt av 0),(3,Pt bv 0),(4,.bool l)]∧Dh aq ar m l n q r u w y z aa a7=some au∧AT [1] bk b9 cb c2∧Bk cb c2 1 c [Sl bx n bz,I q,I r,I u,I w,I y,I z,I aa,I a7] 126) ?_ ?_
 refine Sr<|Vm<|AA<|Cn a (fun f5 a=>?_) fun f5 a=>?_
 refine AL<|Vm<|Vx (Nc rfl)<|Vx (Fd Na rfl)<|have dv:=Bs bj af;Vx (Ld CH rfl (Bc dv rfl))<|Vr (I (Wr (ag+1)))<|Vx (Nc rfl)<|Vx (Fd Na rfl)<|Eu<|St Mi dv rfl rfl rfl rfl fun jn f6 f7=>AA<|⟨_,bk,(Wr (ag+1)),Pu,a,(Mo [1] f7),f6⟩
 refine WC.skip<|have f8:=Bs bj af;⟨_,bk,ag,Pu,a,(AT.refl [1] _ _),f8⟩
 rintro _ c2 ⟨f,cb,a7,rfl,a,bl,dw⟩
 rw [Dh] at a
 refine Sr<|Vm<|Vx (Nc rfl)<|Vx (Fd GK rfl)<|Vx (Ld CH rfl (Bc dw rfl))<|Vr (I (Wr (q+1)))<|Vx (Nc rfl)<|Vx (Fd GK rfl)<|Eu<|St Mi dw rfl rfl rfl rfl fun jo c3 bm=>AA<|Sr<|Vx (Fd LL rfl)<|have dx:=Bs (Y4 ew ae a6 af bl) bm;Vx (Ld CH rfl (Bc dx rfl))<|Vx (v:=Ag [I 0,Sb ([]:Bts),Sb ([]:Bts),I 0,Cx (((0,0):Nat×Nat)),.slice none 0 0,I m.at_]) (Bp CB Jp rfl (.cons rfl rfl rfl .nil))<|Ef<|AX cb 22 CB rfl fun bn jp bo f9 am=>Eu<|St DB f9 rfl rfl rfl rfl fun dy c4 an=>AA<|Am (fun p a8=>∃f ao ap b0 b1 a9 ba bb bc bd be bf bp ax ay az a0 a1 ah bq br a2,p=Env.puts f [(0,Pt c 0),(2,Pt av 0),(4,.bool l),(5,Pt bo 0)]∧En l ap a9 ba bb bc bd be bf bp ax ay az a0 a1 ah a2=some au∧AT [1,22,23,24,25] bn dy ao a8∧Slc Ac ao.F a8 (Sl b0 ap b1) ap∧Slc AJ ao.F a8 (Sl bq ah br) ah∧Bk ao a8 1 c [Sl b0 ap b1,I a9,I ba,I bb,I bc,I bd,I be,I bf,I bp] 126∧Bk ao a8 22 bo [I ax,Sb ay,Sb az,I a0,Cx a1,Sl bq ah br,I a2] 56) ?_ ?_
 refine Sr<|Vx (Fd FU rfl)<|have dz:=Y2 dx am an;Vx (Ld B1 rfl (Bc dz rfl))<|AA<|Ad<|Sr<|Vx (v:=.bool (m.text==([105,102]:Bts))) (Run.strEq rfl rfl)<|Va (.bool (m.text==([105,102]:Bts)))<|AA<|Cn a (fun ga a=>?_) fun ga a=>?_
 refine Sr<|Vx (Fz DZ rfl)<|Eu<|St U5 c4 rfl rfl rfl rfl fun jq gb c5=>AA<|AL<|Vm<|Ef<|Ba (cs:=[Sb ([]:Bts),Sb ([116,104,101,110]:Bts),Sb ([101,108,115,101]:Bts)]) bn 23 [[Sb ([]:Bts)],[Sb ([116,104,101,110]:Bts)],[Sb ([101,108,115,101]:Bts)]] EE Mm rfl rfl (.cons rfl rfl rfl (.cons rfl rfl rfl (.cons rfl rfl rfl .nil))) rfl fun gc d0 d1 gd cc=>have ge:Own BY 9 gc d0 23 (.slice (some ⟨d1,0,none⟩) 3 3) ([([]:Bts),([116,104,101,110]:Bts),([101,108,115,101]:Bts)]:List Bts):=Own.lit (css:=[[Sb ([]:Bts)],[Sb ([116,104,101,110]:Bts)],[Sb ([101,108,115,101]:Bts)]]) gd rfl rfl rfl (AQ rfl (AQ rfl (AQ rfl As))) (Av rfl (Av rfl (Av rfl B4))) rfl; ?_
 obtain ⟨gf,cd,gg⟩:=Own.freeze (S:=[23]) ge dcd dcd
 refine have gh:=Bs (Y4 c3 am an c5 cc) cd;have gi:=K4 Ac (K4 Ac bi af bl bm am) an c5 cc cd;Bi a fun ai gj a=>Ca (Cg [Pt c 0,Sl (some ⟨d1,0,none⟩) (([([]:Bts),([116,104,101,110]:Bts),([101,108,115,101]:Bts)]:List Bts)) 3] rfl) (b4.ref04_reader_parts gf d0 gj dcd dcd gh (AN (x:=(AD.mk n (Wr (q+1)) r u (Ae.mk w y z aa) a7)) gi) gg) ?_
 rintro _ jr ⟨gk,js,jt,rfl,d2,d3,gl,gm⟩
 obtain ⟨gn,go,rfl⟩:=AR d3
 obtain ⟨gp,gq,rfl,d4⟩:=E1 (AW gm)
 refine Vx (Fd Bl rfl)<|have gr:=Y3 gb cc cd d2;Eu<|St So gr rfl rfl rfl rfl fun jv gs cf=>AA<|have gt:=Ss Ac d4 cf;have gu:=Ss AJ d3 cf;have gv:=Bs gl cf;⟨_,gk,ai.2.marks,gp,gq,ai.2.at_,ai.2.why,ai.2.where_,ai.2.l.text,ai.2.l.funcs,ai.2.l.arity,ai.2.l.nest,ai.2.nest,19,([]:Bts),([]:Bts),0,((0,0):Nat×Nat),ai.1,gn,go,m.at_,Pu,a,(T4 (Mo [1,22,23,24,25] c5) cc cd d2 cf),gt,gu,gv,gs⟩
 refine Sr<|Vx (v:=.bool (m.text==([99,97,115,101]:Bts))) (Run.strEq rfl rfl)<|Va (.bool (m.text==([99,97,115,101]:Bts)))<|AA<|Cn a (fun gw a=>?_) fun gw a=>?_
 refine AL<|Vm<|have gx:=Y2 c3 am an;have gy:=Ss Ac (K4 Ac bi af bl bm am) an;Bi a fun o gz a=>Ca (Cg [Pt c 0,Pt bo 0] rfl) (b4.ref04_reader_branches bn dy gz dcd dcd gx (AN (x:=(AD.mk n (Wr (q+1)) r u (Ae.mk w y z aa) a7)) gy) c4 (Ab (x:=(AB.mk 0 ([]:Bts) ([]:Bts) 0 ((0,0):Nat×Nat) [] m.at_)) Bz)) ?_
 rintro _ jw ⟨g0,jx,jy,rfl,g1,g2,g3,g4,g5⟩
 obtain ⟨g6,g7,rfl,d5⟩:=E1 (AW g3)
 obtain ⟨g8,g9,rfl,d6⟩:=E1 (Ak g5)
 refine AA<|⟨_,g0,o.1.marks,g6,g7,o.1.at_,o.1.why,o.1.where_,o.1.l.text,o.1.l.funcs,o.1.l.arity,o.1.l.nest,o.1.nest,o.2.op,o.2.name,o.2.tail,o.2.type_,o.2.num,o.2.args,g8,g9,o.2.at_,Pu,a,(Mo [1,22,23,24,25] g1),d5,d6,g2,g4⟩
 refine Sr<|Vx (Fz DZ rfl)<|Eu<|St U5 c4 rfl rfl rfl rfl fun ha d7 cg=>AA<|Am (fun p ch=>∃f ci cj,p=Env.puts f [(0,Pt c 0),(2,Pt av 0),(4,.bool l),(5,Pt bo 0)]∧Dg aq ar m l n q r u w y z aa a7 cj=some au∧AT [22] bn ha ci ch∧Bk ci ch 22 bo [I cj,Sb ([]:Bts),Sb ([]:Bts),I 0,Cx (((0,0):Nat×Nat)),.slice none 0 0,I m.at_] 56) ?_ ?_
 refine Sr<|Vx (Fd FU rfl)<|have hb:=Bs dz cg;Vx (Ld B1 rfl (Bc hb rfl))<|Vx (v:=.bool (m.text==([115,116,114,105,99,116]:Bts))) (Run.strEq rfl rfl)<|AA<|Cn a (fun hc a=>?_) fun hc a=>?_
 refine AL<|Vx (Fz DZ rfl)<|Eu<|St U5 d7 rfl rfl rfl rfl fun j1 hd he=>AA<|⟨_,bn,22,Pu,a,(Mo [22] he),hd⟩
 refine WC.skip<|⟨_,bn,21,Pu,a,(AT.refl [22] _ _),d7⟩
 rintro _ ch ⟨f,ci,cj,rfl,a,c6,hf⟩
 rw [Dg] at a
 refine Sr<|Vm<|have hg:=Y4 c3 am an cg c6;have hh:=K3 Ac (K4 Ac bi af bl bm am) an cg c6;Bi a fun d8 hi a=>Ca (Cg [Pt c 0] rfl) (Ht ci ch hi dcd dcd hg (AN (x:=(AD.mk n (Wr (q+1)) r u (Ae.mk w y z aa) a7)) hh)) ?_
 rintro _ j2 ⟨hj,j3,j4,rfl,d9,hk,hl,hm⟩
 obtain rfl:=DF hk
 obtain ⟨j6,j7,rfl,ea⟩:=E1 (AW hm)
 refine Ef<|AX hj 24 Gj rfl fun hn j8 j9 ho ck=>Eu<|St G3 ho rfl rfl rfl rfl fun ka hp cl=>AA<|Sr<|Vx (Fd FU rfl)<|Vx (Ld B1 rfl (Bc hp rfl))<|Vx (Fd EB rfl)<|have hq:=Y3 hf d9 ck cl;Eu<|St Sp hq rfl rfl rfl rfl fun hr hs c7=>AA<|Sr<|Vm<|have ht:=Y3 hl ck cl c7;have hu:=K3 Ac ea ck cl c7;Bi a fun eb hw a=>Ca (Cg [Pt c 0] rfl) (JS ar hn hr hw dcd dcd ht (AN (x:=d8.2) hu)) ?_
 rintro _ kb ⟨hx,kc,rfl,ec,hy,hz⟩
 obtain ⟨ke,kf,rfl,ed⟩:=E1 (AW hz)
 refine Vx (Fd K8 rfl)<|have h0:=Bs hs ec;Eu<|St Wk h0 rfl rfl rfl rfl fun kg h1 c8=>AA<|AL<|Vm<|Ef<|Ba (cs:=[Sb ([61]:Bts),Sb ([105,110]:Bts)]) hx 25 [[Sb ([61]:Bts)],[Sb ([105,110]:Bts)]] EE Mm rfl rfl (.cons rfl rfl rfl (.cons rfl rfl rfl .nil)) rfl fun h2 ee ef h3 cm=>have h4:Own BY 9 h2 ee 25 (.slice (some ⟨ef,0,none⟩) 2 2) ([([61]:Bts),([105,110]:Bts)]:List Bts):=Own.lit (css:=[[Sb ([61]:Bts)],[Sb ([105,110]:Bts)]]) h3 rfl rfl rfl (AQ rfl (AQ rfl As)) (Av rfl (Av rfl B4)) rfl; ?_
 obtain ⟨h5,cn,h6⟩:=Own.freeze (S:=[25]) h4 dcd dcd
 refine have h7:=Y3 hy c8 cm cn;have h8:=K3 Ac ed c8 cm cn;Bi a fun aj h9 a=>Ca (Cg [Pt c 0,Sl (some ⟨ef,0,none⟩) (([([61]:Bts),([105,110]:Bts)]:List Bts)) 2] rfl) (b4.ref04_reader_parts h5 ee h9 dcd dcd h7 (AN (x:=eb.2) h8) h6) ?_
 rintro _ kh ⟨ia,ki,kj,rfl,eg,eh,ib,ic⟩
 obtain ⟨id,ie,rfl⟩:=AR eh
 obtain ⟨ig,ih,rfl,ei⟩:=E1 (AW ic)
 refine Vx (Fd Bl rfl)<|have ii:=Y3 h1 cm cn eg;Eu<|St So ii rfl rfl rfl rfl fun kl ij co=>AA<|have ik:=Ss Ac ei co;have il:=Ss AJ eh co;have im:=Bs ib co;⟨_,ia,aj.2.marks,ig,ih,aj.2.at_,aj.2.why,aj.2.where_,aj.2.l.text,aj.2.l.funcs,aj.2.l.arity,aj.2.l.nest,aj.2.nest,cj,d8.1.text,([]:Bts),eb.1,((0,0):Nat×Nat),aj.1,id,ie,m.at_,Pu,a,(T3 (T4 (T4 (Mo [1,22,23,24,25] cg) c6 d9 ck cl) c7 ec c8 cm) cn eg co),ik,il,im,ij⟩
 rintro _ a8 ⟨f,ao,ap,b0,b1,a9,ba,bb,bc,bd,be,bf,bp,ax,ay,az,a0,a1,ah,bq,br,a2,rfl,a,ej,io,ip,c9,iq⟩
 rw [En] at a
 refine Am (fun p da=>∃f cq b2,p=Env.puts f [(2,Pt av 0),(5,Pt bo 0)]∧Ha ap a9 ba bb bc bd be bf ax ay az a0 a1 ah a2 b2=some au∧AT [1] ao a8 cq da∧Bk cq da 1 c [Sl b0 ap b1,I a9,I ba,I bb,I bc,I bd,I be,I bf,I b2] 126) ?_ ?_
 refine Sr<|Vm<|AA<|Cn a (fun ir a=>?_) fun ir a=>?_
 refine AL<|Vm<|Vx (Nc rfl)<|Vx (Fd Na rfl)<|Vx (Ld CH rfl (Bc c9 rfl))<|Vr (I (Wr (bp - 1)))<|Vx (Nc rfl)<|Vx (Fd Na rfl)<|Eu<|St Mi c9 rfl rfl rfl rfl fun km it iu=>AA<|⟨_,ao,(Wr (bp - 1)),Pu,a,(Mo [1] iu),it⟩
 refine WC.skip<|⟨_,ao,bp,Pu,a,(AT.refl [1] _ _),c9⟩
 rintro _ da ⟨f,cq,b2,rfl,a,b3,iv⟩
 rw [Ha] at a
 refine Sr<|have iw:=Bs iq b3;Vx (Lx A8 rfl rfl (Bw iw))<|have ix:=Y4 (Y4 (Y4 cw ab ac ad ae) a6 af bl bm) am an ej b3;have iy:=Ss AJ ip b3;Eu<|St DB ix rfl rfl rfl rfl fun kn iz cr=>AA<|AY ?_
 obtain rfl:=AO a
 refine O1 B cv rfl (.agg A8 rfl rfl (Bw iz))<|have i0:=Ss AJ iy cr;have i1:=Bs iv cr;have i2:=K2 Ac io b3 cr;⟨cq,[I ax,Sb ay,Sb az,I a0,Cx a1,Sl bq ah br,I a2],[Sl b0 ap b1,I a9,I ba,I bb,I bc,I bd,I be,I bf,I b2],rfl,Ho (Tn (T4 (T4 (T4 (Mo [1,20,21,22,23,24,25] bt) ab ac ad ae) a6 af bl bm) am an ej b3) cr) cu,(Ab (x:=(AB.mk ax ay az a0 a1 ah a2)) i0),i1,(AN (x:=(AD.mk ap a9 ba bb (Ae.mk bc bd be bf) b2)) i2)⟩
theorem OH(c:AC)(e:Nat)(h:AC.Good c):ref04_reader_expr.Spec (Cy c e):=lk1 (OG c e h)
theorem OI(af:AC)(a2:Nat)(ag:AC.Good af)(ad:Col)(a3:World)(ah:∀b,ad b<10):ref04_reader_cons.At True True ad a3 (Cz af a2) 1:=by
 intro w a4 cy cz d _ _ a5 a6
 rw [Cz] at d
 obtain ⟨c1,c2,rfl,ai⟩:=E1 (AW a6)
 refine Az Tryz.func131 rfl Tryz.ntmps131 rfl fun B aj c3=>Sr<|Ef<|AX ad 20 CB rfl fun a7 a8 c4 ak y=>AA<|Sr<|Vm<|have a9:=Bs a5 y;have ba:=Ss Ac ai y;Bi d fun a bb d=>Ca (Cg [Pt w 0] rfl) (ag.ref04_reader_comp a7 a8 bb dcd dcd a9 (AN (x:=a4) ba)) ?_
 rintro _ c5 ⟨bc,c6,c7,rfl,z,bd,be,bf⟩
 obtain ⟨r,s,rfl,al⟩:=E1 (Ak bd)
 obtain ⟨c9,da,rfl,am⟩:=E1 (AW bf)
 refine Ef<|AX bc 21 CB rfl fun bg db dc bh q=>have an:=Ss AJ al q;Eu<|St DB bh rfl rfl rfl rfl fun bi ao n=>AA<|Sr<|Vm<|have ap:=Y2 be q n;have aq:=K2 Ac am q n;Bi d fun l bj d=>Ca (Cg [Pt w 0] rfl) (CT bg bi bj dcd dcd ap (AN (x:=a.2) aq)) ?_
 rintro _ de ⟨bk,df,rfl,f,bl⟩
 obtain rfl:=DF bl
 refine Ef<|AX bk 22 Gj rfl fun bm dg dh bn g=>Eu<|St G3 bn rfl rfl rfl rfl fun bo bp h=>AA<|Aa<|Sr<|Vm<|have bq:=Y3 ap f g h;have br:=K3 Ac aq f g h;Bi d fun e bt d=>Ca (Cg [Pt w 0,Sb ([58]:Bts)] rfl) (E7 bm bo bt dcd dcd bq (AN (x:=a.2) br)) ?_
 rintro _ bu ⟨ar,di,rfl,m,au,bv⟩
 obtain ⟨bw,bx,rfl,ae⟩:=E1 (AW bv)
 refine Vr (.bool (!e.1))<|AA<|Cn d (fun bz d=>?_) fun bz d=>?_
 refine Sr<|have b0:=Y4 ao f g h m;Vx (Lx A8 rfl rfl (Bw b0))<|have b1:=Y3 (Y4 ak z q n f) g h m;have b2:=Ss AJ (K4 AJ an n f g h) m;Eu<|St DB b1 rfl rfl rfl rfl fun dk b3 aa=>AA<|AY ?_
 obtain rfl:=AO d
 refine O1 B aj rfl (.agg A8 rfl rfl (Bw b3))<|have b4:=Ss AJ b2 aa;have b5:=Bs au aa;have b6:=Ss Ac ae aa;⟨ar,[I a.1.op,Sb a.1.name,Sb a.1.tail,I a.1.type_,Cx a.1.num,Sl r a.1.args s,I a.1.at_],[Sl bw e.2.marks bx,I e.2.at_,I e.2.why,I e.2.where_,I e.2.l.text,I e.2.l.funcs,I e.2.l.arity,I e.2.l.nest,I e.2.nest],rfl,Ho (T4 (T4 (Mo [1,20,21,22] y) z q n f) g h m aa) ah,(Ab (x:=a.1) b4),b5,(AN (x:=e.2) b6)⟩
 refine WC.skip<|Sr<|Vm<|Bi d fun c b7 d=>Ca (Cg [Pt w 0] rfl) (ag.ref04_reader_cons ar bu b7 dcd dcd au (AN (x:=e.2) ae)) ?_
 rintro _ dl ⟨b8,dm,dn,rfl,u,b9,ca,cb⟩
 obtain ⟨aw,ax,rfl,av⟩:=E1 (Ak b9)
 obtain ⟨cc,cd,rfl,ay⟩:=E1 (AW cb)
 refine Ef<|AX b8 23 CB rfl fun cf dr ds cg o=>have ch:=Ss AJ av o;Eu<|St DB cg rfl rfl rfl rfl fun ci cj p=>AA<|Sr<|have ck:=Y3 (Y4 ao f g h m) u o p;Vx (Lx A8 rfl rfl (Bw ck))<|Vx (Lx A8 rfl rfl (Bw cj))<|have cl:=Y4 bp m u o p;Vx (Lx IK rfl rfl (Bw cl))<|have cm:=K4 AJ (K4 AJ an n f g h) m u o p;have cn:=Ss AJ ch p;Bi d fun x135 co d=>Ca (Cg [I 18,Ag [I a.1.op,Sb a.1.name,Sb a.1.tail,I a.1.type_,Cx a.1.num,Sl r a.1.args s,I a.1.at_],Ag [I c.1.op,Sb c.1.name,Sb c.1.tail,I c.1.type_,Cx c.1.num,Sl aw c.1.args ax,I c.1.at_],Ag [I l.kind,Sb l.text,Cx l.num,I l.at_]] rfl) (MT cf ci co (Ab (x:=a.1) cm) (Ab (x:=c.1) cn) (Fc (x:=l))) ?_
 rintro _ dt ⟨cq,du,rfl,ab,cr⟩
 obtain ⟨a0,a1,rfl,az⟩:=E1 (Ak cr)
 refine have ct:=Y3 (Y4 (Y4 ak z q n f) g h m u) o p ab;Eu<|St DB ct rfl rfl rfl rfl fun dw cu ac=>AA<|AY ?_
 obtain rfl:=AO d
 refine O1 B aj rfl (.agg A8 rfl rfl (Bw cu))<|have cv:=Ss AJ az ac;have cw:=Y4 ca o p ab ac;have cx:=K4 Ac ay o p ab ac;⟨cq,[I x135.op,Sb x135.name,Sb x135.tail,I x135.type_,Cx x135.num,Sl a0 x135.args a1,I x135.at_],[Sl cc c.2.marks cd,I c.2.at_,I c.2.why,I c.2.where_,I c.2.l.text,I c.2.l.funcs,I c.2.l.arity,I c.2.l.nest,I c.2.nest],rfl,Ho (T4 (T4 (T4 (Mo [1,20,21,22,23] y) z q n f) g h m u) o p ab ac) ah,(Ab (x:=x135) cv),cw,(AN (x:=c.2) cx)⟩
theorem OJ(c:AC)(e:Nat)(h:AC.Good c):ref04_reader_cons.Spec (Cz c e):=lk1 (OI c e h)
theorem Nq(ab:AC)(bc:Nat)(b0:AC.Good ab)(ao:Col)(bd:World)(b1:∀b,ao b<10):ref04_reader_parts.At True True ao bd (Ci ab bc) 1:=by
 intro ac g dh m di a2 c _ _ b2 b3 be
 rw [Ci] at c
 obtain ⟨b4,b5,rfl,bf⟩:=E1 (AW b3)
 obtain ⟨bg,bh,rfl⟩:=AR be
 refine Az Tryz.func132 rfl Tryz.ntmps132 rfl fun B b6 dk=>Sr<|Va (.slice none 0 0)<|AA<|Sr<|Va (.slice none 0 0)<|AA<|Aa<|Sr<|Va (I 0)<|AA<|Ad<|Bh (fun n a3 o=>∃ag h d ad ae e f ah ai p q r u w y z aa,a3=Env.puts ag [(0,Pt ac 0),(1,Sl bg m bh),(5,Sl ad d ae),(6,I e)]∧Bj ab m n d e f p q r u w y z aa=some a2∧AT [1,20,22] ao bd h o∧Own AJ 56 h o 22 (Sl ad d ae) d∧Slc Ac h.F o (Sl ah f ai) f∧Bk h o 1 ac [Sl ah f ai,I p,I q,I r,I u,I w,I y,I z,I aa] 126) bc ?_ ?_
 exact ⟨_,ao,([]:List AB),none,0,0,g.marks,b4,b5,g.at_,g.why,g.where_,g.l.text,g.l.funcs,g.l.arity,g.l.nest,g.nest,Pu,c,(AT.refl [1,20,22] _ _),Own.nil,bf,b2⟩
 rintro n _ o ⟨ag,h,d,ad,ae,e,f,ah,ai,p,q,r,u,w,y,z,aa,rfl,c,a4,bi,a5,a6⟩
 rcases n with _|n
 exact A3 c
 refine have c:Cd ab m (Bj ab m n) d e f p q r u w y z aa=some a2:=c; ?_
 obtain ⟨b7,bj⟩:∃s,s=Bj ab m n:=⟨_,rfl⟩
 rw [←bj,Cd] at c
 refine Aa<|Sr<|Vm<|Vm<|have bk:=Ss BY be a4; ?_
 obtain ⟨dl,dm,b8⟩:=AR bk
 refine Vx (v:=I (m.length:Int)) (Ll EE b8)<|Vr (.bool (decide (e< (m.length:Int))))<|AA<|Cn c (fun b9 c=>?_) fun b9 c=>?_
 refine WC.skip<|Aa<|Ad<|Am (fun a3 aj=>∃ag ak af a7 a8 ap aq ar au av aw ax ay,a3=Env.puts ag [(0,Pt ac 0),(1,Sl bg m bh),(5,Sl ad d ae),(6,I e)]∧DQ ab d e b7 af ap aq ar au av aw ax ay=some a2∧AT [1] h o ak aj∧Slc Ac ak.F aj (Sl a7 af a8) af∧Bk ak aj 1 ac [Sl a7 af a8,I ap,I aq,I ar,I au,I av,I aw,I ax,I ay] 126) ?_ ?_
 refine Sr<|Vm<|Vm<|Bi c fun a9 ca c=>?_
 obtain ⟨cb,cc,dn,bl,bm,bn,bo,cd,az⟩:=BK (κ:=BY) bk ca
 replace az:A1 h o cb (cc+e.toNat*1) bl:=az
 obtain rfl:=(show bl=[Sb a9] from cd)
 refine Vx (Ix EE bm rfl bn bo)<|Vx (Ld B1 rfl (A1.cell0 az rfl))<|Vx (v:=.bool (!(a9==([]:Bts)))) (Run.strNe rfl rfl)<|AA<|Cn c (fun cf c=>?_) fun cf c=>?_
 refine AL<|Vm<|Vm<|Vm<|Vx (Ix EE bm rfl bn bo)<|Vx (Ld B1 rfl (A1.cell0 az rfl))<|Bi c fun l cg c=>Ca (Cg [Pt ac 0,Sb a9] rfl) (BP h o cg dcd dcd a6 (AN (x:=(AD.mk f p q r (Ae.mk u w y z) aa)) a5)) ?_
 rintro _ dp ⟨ch,dq,rfl,ci,cj,ck⟩
 obtain ⟨cl,cm,rfl,bp⟩:=E1 (AW ck)
 refine AA<|⟨_,ch,l.marks,cl,cm,l.at_,l.why,l.where_,l.l.text,l.l.funcs,l.l.arity,l.l.nest,l.nest,Pu,c,(Mo [1] ci),bp,cj⟩
 refine WC.skip<|⟨_,h,f,ah,ai,p,q,r,u,w,y,z,aa,Pu,c,(AT.refl [1] _ _),a5,a6⟩
 rintro _ aj ⟨ag,ak,af,a7,a8,ap,aq,ar,au,av,aw,ax,ay,rfl,c,bq,cn,co⟩
 rw [DQ] at c
 refine Sr<|Vm<|Bi c fun a cq c=>Ca (Cg [Pt ac 0] rfl) (b0.ref04_reader_expr ak aj cq dcd dcd co (AN (x:=(AD.mk af ap aq ar (Ae.mk au av aw ax) ay)) cn)) ?_
 rintro _ ds ⟨cr,dt,du,rfl,br,ct,cu,cv⟩
 obtain ⟨a0,a1,rfl,bt⟩:=E1 (Ak ct)
 obtain ⟨cw,cx,rfl,bu⟩:=E1 (AW cv)
 refine Ef<|AX cr 20 CB rfl fun cy dx dy cz al=>have c0:=Ss AJ bt al;Eu<|St DB cz rfl rfl rfl rfl fun dz c1 am=>AA<|AL<|Vm<|Vx (Lx A8 rfl rfl (Bw c1))<|Ef<|Ba (cs:=[I a.1.op,Sb a.1.name,Sb a.1.tail,I a.1.type_,Cx a.1.num,Sl a0 a.1.args a1,I a.1.at_]) cy 21 [[I a.1.op,Sb a.1.name,Sb a.1.tail,I a.1.type_,Cx a.1.num,Sl a0 a.1.args a1,I a.1.at_]] Cp CB rfl rfl (.cons rfl rfl rfl .nil) rfl fun c2 c3 c4 c5 an=>have c6:=K2 AJ c0 am an;have c7:Own AJ 56 c2 c3 21 (.slice (some ⟨c4,0,none⟩) 1 1) ([a.1]:List AB):=Own.lit (css:=[[I a.1.op,Sb a.1.name,Sb a.1.tail,I a.1.type_,Cx a.1.num,Sl a0 a.1.args a1,I a.1.at_]]) c5 rfl rfl rfl (AQ (Ab (x:=a.1) c6) As) (Av rfl B4) rfl;have c8:=Os (Os (Os (Os (Os bi bq) br) al) am) an;Bi c fun d0 bv c=>Ef<|Ay (κ:=AJ) rfl rfl c8 dcd YD (BF c7) (B3 bv) (B5 bv) fun d1 c9 d2 bw ba=>?_
 obtain ⟨bx,bz,rfl⟩:=Own.len bw
 refine Va (Sl bx ((d++([a.1]:List AB))) bz)<|AA<|AL<|Vm<|Vr (I (Wr (e+1)))<|Va (I (Wr (e+1)))<|AA<|have da:=K4 Ac bu al am an ba;have db:=Y4 cu al am an ba;⟨n,Nat.lt_succ_self n,_,c9,(d++([a.1]:List AB)),bx,bz,(Wr (e+1)),a.2.marks,cw,cx,a.2.at_,a.2.why,a.2.where_,a.2.l.text,a.2.l.funcs,a.2.l.arity,a.2.l.nest,a.2.nest,Pu,(bj▸c),(T2 (T4 (Mo [1,20,22] a4) bq br al am) an ba),bw,da,db⟩
 refine BZ<|Sr<|Vm<|Va (Sl ad d ae)<|AA<|AY ?_
 obtain ⟨dc,bb,de⟩:=Own.freeze (S:=[22]) bi dcd dcd
 obtain rfl:=AO c
 refine O1 B b6 rfl (.tmp rfl)<|have df:=Bs a6 bb;have dg:=Ss Ac a5 bb;⟨dc,Sl ad d ae,[Sl ah f ai,I p,I q,I r,I u,I w,I y,I z,I aa],rfl,Ho (Tn (Mo [1,20,22] a4) bb) b1,de,df,(AN (x:=(AD.mk f p q r (Ae.mk u w y z) aa)) dg)⟩
theorem Nr(c:AC)(e:Nat)(h:AC.Good c):ref04_reader_parts.Spec (Ci c e):=lk1 (Nq c e h)
theorem M0(a0:AC)(bi:Nat)(ax:AC.Good a0)(ay:Col)(bj:World)(bk:∀b,ay b<10):ref04_reader_branches.At True True ay bj (B6 a0 bi) 1 2:=by
 intro f bl fb fc m fd fe e _ _ bm bn bo bp
 rw [B6] at e
 obtain ⟨fg,fh,rfl,a1⟩:=E1 (AW bn)
 obtain ⟨fj,fk,rfl,bq⟩:=E1 (Ak bp)
 refine Az Tryz.func133 rfl Tryz.ntmps133 rfl fun B br fl=>Sr<|Vm<|Vx (Nc rfl)<|Vx (Fz DZ rfl)<|Eu<|St U5 bo rfl rfl rfl rfl fun bt bu az=>AA<|Sr<|Vm<|have bv:=Bs bm az;have bw:=Ss Ac a1 az;Bi e fun c bx e=>Ca (Cg [Pt f 0] rfl) (ax.ref04_reader_expr ay bt bx dcd dcd bv (AN (x:=bl) bw)) ?_
 rintro _ fm ⟨bz,fn,fo,rfl,a2,b0,b1,b2⟩
 obtain ⟨ag,ah,rfl,a3⟩:=E1 (Ak b0)
 obtain ⟨fr,fs,rfl,a4⟩:=E1 (AW b2)
 refine Ef<|AX bz 20 CB rfl fun b3 ft fu b4 ae=>have b5:=Ss AJ a3 ae;Eu<|St DB b4 rfl rfl rfl rfl fun b6 b7 af=>AA<|Sr<|Vm<|have b8:=Y2 b1 ae af;have b9:=K2 Ac a4 ae af;Bi e fun ca cb e=>Ca (Cg [Pt f 0,Sb ([111,102]:Bts)] rfl) (BP b3 b6 cb dcd dcd b8 (AN (x:=c.2) b9)) ?_
 rintro _ cc ⟨cd,fv,rfl,ai,cf,cg⟩
 obtain ⟨fx,fy,rfl,a5⟩:=E1 (AW cg)
 refine AA<|Sr<|Vm<|Bi e fun ch ci e=>Ca (Cg [Pt f 0,Sb ([110,105,108]:Bts)] rfl) (BP cd cc ci dcd dcd cf (AN (x:=ca) a5)) ?_
 rintro _ cj ⟨ck,fz,rfl,aj,cl,cm⟩
 obtain ⟨f1,f2,rfl,a6⟩:=E1 (AW cm)
 refine AA<|Sr<|Vm<|Bi e fun cn co e=>Ca (Cg [Pt f 0,Sb ([45,62]:Bts)] rfl) (BP ck cj co dcd dcd cl (AN (x:=ch) a6)) ?_
 rintro _ cq ⟨cr,f3,rfl,ak,ct,cu⟩
 obtain ⟨f5,f6,rfl,a7⟩:=E1 (AW cu)
 refine AA<|Sr<|Vm<|Bi e fun d cv e=>Ca (Cg [Pt f 0] rfl) (ax.ref04_reader_expr cr cq cv dcd dcd ct (AN (x:=cn) a7)) ?_
 rintro _ f7 ⟨cw,f8,f9,rfl,al,cx,cy,cz⟩
 obtain ⟨am,an,rfl,a8⟩:=E1 (Ak cx)
 obtain ⟨gc,gd,rfl,a9⟩:=E1 (AW cz)
 refine Ef<|AX cw 21 CB rfl fun c0 ge gf c1 w=>have c2:=Ss AJ a8 w;Eu<|St DB c1 rfl rfl rfl rfl fun c3 c4 y=>AA<|Sr<|Vm<|have c5:=Y2 cy w y;have c6:=K2 Ac a9 w y;Bi e fun c7 c8 e=>Ca (Cg [Pt f 0,Sb ([124]:Bts)] rfl) (BP c0 c3 c8 dcd dcd c5 (AN (x:=d.2) c6)) ?_
 rintro _ c9 ⟨da,gg,rfl,ac,db,dc⟩
 obtain ⟨gi,gj,rfl,ba⟩:=E1 (AW dc)
 refine AA<|Sr<|Vm<|Bi e fun ao de e=>Ca (Cg [Pt f 0] rfl) (Ht da c9 de dcd dcd db (AN (x:=c7) ba)) ?_
 rintro _ gk ⟨df,gl,gm,rfl,ad,dg,dh,di⟩
 obtain rfl:=DF dg
 obtain ⟨go,gp,rfl,bb⟩:=E1 (AW di)
 refine Ef<|AX df 22 Gj rfl fun dj gq gr dk q=>Eu<|St G3 dk rfl rfl rfl rfl fun dl dm r=>AA<|Sr<|Vm<|have dn:=Y2 dh q r;have dp:=K2 Ac bb q r;Bi e fun dq dr e=>Ca (Cg [Pt f 0,Sb ([58]:Bts)] rfl) (BP dj dl dr dcd dcd dn (AN (x:=ao.2) dp)) ?_
 rintro _ ds ⟨dt,gs,rfl,z,du,dv⟩
 obtain ⟨gu,gv,rfl,bc⟩:=E1 (AW dv)
 refine AA<|Sr<|Vm<|Bi e fun ap dw e=>Ca (Cg [Pt f 0] rfl) (Ht dt ds dw dcd dcd du (AN (x:=dq) bc)) ?_
 rintro _ gw ⟨dx,gx,gy,rfl,aa,dy,dz,d0⟩
 obtain rfl:=DF dy
 obtain ⟨g0,g1,rfl,bd⟩:=E1 (AW d0)
 refine Ef<|AX dx 23 Gj rfl fun d1 g2 g3 d2 n=>Eu<|St G3 d2 rfl rfl rfl rfl fun d3 d4 o=>AA<|Sr<|Vm<|have d5:=Y2 dz n o;have d6:=K2 Ac bd n o;Bi e fun d7 d8 e=>Ca (Cg [Pt f 0,Sb ([45,62]:Bts)] rfl) (BP d1 d3 d8 dcd dcd d5 (AN (x:=ap.2) d6)) ?_
 rintro _ d9 ⟨ea,g4,rfl,s,eb,ec⟩
 obtain ⟨g6,g7,rfl,be⟩:=E1 (AW ec)
 refine AA<|Sr<|Vm<|Bi e fun a ed e=>Ca (Cg [Pt f 0] rfl) (ax.ref04_reader_expr ea d9 ed dcd dcd eb (AN (x:=d7) be)) ?_
 rintro _ g8 ⟨ee,g9,ha,rfl,u,ef,eg,eh⟩
 obtain ⟨aq,ar,rfl,bf⟩:=E1 (Ak ef)
 obtain ⟨ei,ej,rfl,bg⟩:=E1 (AW eh)
 refine Ef<|AX ee 24 CB rfl fun ek hd he el g=>have em:=Ss AJ bf g;Eu<|St DB el rfl rfl rfl rfl fun hf en h=>AA<|Sr<|Vm<|Vx (Fd FU rfl)<|have eo:=Y4 (Y4 dm z aa n o) s u g h;Vx (Ld B1 rfl (Bc eo rfl))<|Vx (Nc rfl)<|Vx (Fd EB rfl)<|have ep:=Bs (Y4 (Y4 (Y4 (Y4 (Y4 bu a2 ae af ai) aj ak al w) y ac ad q) r z aa n) o s u g) h;Eu<|St Sp ep rfl rfl rfl rfl fun hg eq l=>AA<|Sr<|Vm<|Vx (Fd FU rfl)<|have er:=Bs (Y4 d4 s u g h) l;Vx (Ld B1 rfl (Bc er rfl))<|Vx (Nc rfl)<|Vx (Fd MG rfl)<|Eu<|St Sp eq rfl rfl rfl rfl fun hh es p=>AA<|AL<|Vm<|have et:=Y4 (Y4 (Y4 (Y4 (Y4 b7 ai aj ak al) w y ac ad) q r z aa) n o s u) g h l p;Vx (Lx A8 rfl rfl (Bw et))<|have eu:=Y2 (Y4 (Y4 (Y4 c4 ac ad q r) z aa n o) s u g h) l p;Vx (Lx A8 rfl rfl (Bw eu))<|have ew:=Y2 en l p;Vx (Lx A8 rfl rfl (Bw ew))<|Ef<|Ba (cs:=[I c.1.op,Sb c.1.name,Sb c.1.tail,I c.1.type_,Cx c.1.num,Sl ag c.1.args ah,I c.1.at_,I d.1.op,Sb d.1.name,Sb d.1.tail,I d.1.type_,Cx d.1.num,Sl am d.1.args an,I d.1.at_,I a.1.op,Sb a.1.name,Sb a.1.tail,I a.1.type_,Cx a.1.num,Sl aq a.1.args ar,I a.1.at_]) ek 25 [[I c.1.op,Sb c.1.name,Sb c.1.tail,I c.1.type_,Cx c.1.num,Sl ag c.1.args ah,I c.1.at_],[I d.1.op,Sb d.1.name,Sb d.1.tail,I d.1.type_,Cx d.1.num,Sl am d.1.args an,I d.1.at_],[I a.1.op,Sb a.1.name,Sb a.1.tail,I a.1.type_,Cx a.1.num,Sl aq a.1.args ar,I a.1.at_]] Cp CB rfl rfl (.cons rfl rfl rfl (.cons rfl rfl rfl (.cons rfl rfl rfl .nil))) rfl fun ex ey au ez ab=>have e0:=K4 AJ em h l p ab;have e1:=K4 AJ (K4 AJ (K4 AJ (K4 AJ c2 y ac ad q) r z aa n) o s u g) h l p ab;have e2:=K2 AJ (K4 AJ (K4 AJ (K4 AJ (K4 AJ (K4 AJ b5 af ai aj ak) al w y ac) ad q r z) aa n o s) u g h l) p ab;have bh:Own AJ 56 ex ey 25 (.slice (some ⟨au,0,none⟩) 3 3) ([c.1,d.1,a.1]:List AB):=Own.lit (css:=[[I c.1.op,Sb c.1.name,Sb c.1.tail,I c.1.type_,Cx c.1.num,Sl ag c.1.args ah,I c.1.at_],[I d.1.op,Sb d.1.name,Sb d.1.tail,I d.1.type_,Cx d.1.num,Sl am d.1.args an,I d.1.at_],[I a.1.op,Sb a.1.name,Sb a.1.tail,I a.1.type_,Cx a.1.num,Sl aq a.1.args ar,I a.1.at_]]) ez rfl rfl rfl (AQ (Ab (x:=c.1) e2) (AQ (Ab (x:=d.1) e1) (AQ (Ab (x:=a.1) e0) As))) (Av rfl (Av rfl (Av rfl B4))) rfl;Vx (Nc rfl)<|Vx (Fd Bl rfl)<|have e3:=Bs es ab;Eu<|A9 (vs:=[Sl (some ⟨au,0,none⟩) (([c.1,d.1,a.1]:List AB)) 3]) (cs':=[I 20,Sb ao.1.text,Sb ap.1.text,I m.type_,Cx m.num,Sl (some ⟨au,0,none⟩) (([c.1,d.1,a.1]:List AB)) 3,I m.at_]) So rfl rfl rfl rfl (AP (Own.one bh) BO) e3 dcd rfl rfl fun hi e4 av=>?_
 refine AA<|have e5:=Os bh av; ?_
 obtain ⟨e6,aw,e7⟩:=Own.freeze (S:=[25]) e5 dcd dcd
 obtain rfl:=AO e
 refine Mb (B:=B) br<|Ma rfl<|have e8:=Y3 (Y4 eg g h l p) ab av aw;have e9:=K3 Ac (K4 Ac bg g h l p) ab av aw;have fa:=Bs e4 aw;⟨e6,[Sl ei a.2.marks ej,I a.2.at_,I a.2.why,I a.2.where_,I a.2.l.text,I a.2.l.funcs,I a.2.l.arity,I a.2.l.nest,I a.2.nest],[I 20,Sb ao.1.text,Sb ap.1.text,I m.type_,Cx m.num,Sl (some ⟨au,0,none⟩) (([c.1,d.1,a.1]:List AB)) 3,I m.at_],rfl,Ho (T2 (T4 (T4 (T4 (T4 (T4 (T4 (Mo [1,2,20,21,22,23,24,25] az) a2 ae af ai) aj ak al w) y ac ad q) r z aa n) o s u g) h l p ab) av aw) bk,e8,(AN (x:=a.2) e9),fa,(Ab (x:=(AB.mk 20 ao.1.text ap.1.text m.type_ m.num ([c.1,d.1,a.1]:List AB) m.at_)) e7)⟩
theorem M1(d:AC)(f:Nat)(m:AC.Good d):ref04_reader_branches.Spec (B6 d f):=lk2 (M0 d f m)
theorem OK(ap:AC)(b3:Nat)(a7:AC.Good ap)(a1:Col)(b4:World)(a8:∀b,a1 b<10):ref04_reader_comp.At True True a1 b4 (C7 ap b3) 1:=by
 intro p b5 d8 a9 c _ _ b6 b7
 rw [C7] at c
 obtain ⟨ea,eb,rfl,ba⟩:=E1 (AW b7)
 refine Az Tryz.func143 rfl Tryz.ntmps143 rfl fun B bb ec=>Sr<|Ef<|AX a1 20 CB rfl fun b8 b9 bc bd aq=>AA<|Sr<|Vm<|have ca:=Bs b6 aq;have cb:=Ss Ac ba aq;Bi c fun a cc c=>Ca (Cg [Pt p 0] rfl) (a7.ref04_reader_sum b8 b9 cc dcd dcd ca (AN (x:=b5) cb)) ?_
 rintro _ ed ⟨cd,ee,ef,rfl,ar,cf,cg,ch⟩
 obtain ⟨ak,al,rfl,be⟩:=E1 (Ak cf)
 obtain ⟨eh,ei,rfl,bf⟩:=E1 (AW ch)
 refine Ef<|AX cd 21 CB rfl fun ci ej bg cj z=>have bh:=Ss AJ be z;Eu<|St DB cj rfl rfl rfl rfl fun ck bi s=>AA<|Sr<|Vm<|have a2:=Y2 cg z s;have a3:=K2 Ac bf z s;Bi c fun l cl c=>Ca (Cg [Pt p 0] rfl) (CT ci ck cl dcd dcd a2 (AN (x:=a.2) a3)) ?_
 rintro _ ek ⟨cm,el,rfl,f,cn⟩
 obtain rfl:=DF cn
 refine Ef<|AX cm 22 Gj rfl fun bj em bk co g=>Eu<|St G3 co rfl rfl rfl rfl fun bl cq h=>AA<|Sr<|Va (I 12)<|AA<|Am (fun a4 au=>∃am av aa,a4=Env.puts am [(0,Pt p 0),(2,Pt bc 0),(3,Pt bg 0),(4,Pt bk 0),(5,I aa)]∧Dl ap a l aa=some a9∧AT [] bj bl av au) ?_ ?_
 refine Sr<|Vm<|have cr:=Y3 a2 f g h;have ct:=K3 Ac a3 f g h;Bi c fun en cu c=>Ca (Cg [Pt p 0,Sb ([60]:Bts)] rfl) (Cv bj bl cu dcd dcd cr (AN (x:=a.2) ct)) ?_
 rintro _ eo ⟨bm,rfl,bn⟩
 refine AA<|Cn c (fun cv c=>?_) fun cv c=>?_
 refine AL<|Va (I 13)<|AA<|⟨_,bm,13,Pu,c,(Mo [] bn)⟩
 refine WC.skip<|⟨_,bm,12,Pu,c,(Mo [] bn)⟩
 rintro _ au ⟨am,av,aa,rfl,c,m⟩
 rw [Dl] at c
 refine Aa<|Am (fun a4 an=>∃am ab a5 u aw ax ac ad ae af ag ah ai aj,a4=Env.puts am [(0,Pt p 0),(2,Pt bc 0),(3,Pt bg 0),(4,Pt bk 0),(5,I aa),(20,.bool a5)]∧EF ap a l aa a5 u ac ad ae af ag ah ai aj=some a9∧AT [1] av au ab an∧Slc Ac ab.F an (Sl aw u ax) u∧Bk ab an 1 p [Sl aw u ax,I ac,I ad,I ae,I af,I ag,I ah,I ai,I aj] 126) ?_ ?_
 refine AL<|Vm<|have cw:=Y4 a2 f g h m;have cx:=K4 Ac a3 f g h m;Bi c fun n cy c=>Ca (Cg [Pt p 0,Sb ([61,61]:Bts)] rfl) (E7 av au cy dcd dcd cw (AN (x:=a.2) cx)) ?_
 rintro _ cz ⟨bo,ep,rfl,bp,bq,c0⟩
 obtain ⟨c1,c2,rfl,a6⟩:=E1 (AW c0)
 refine Vr (.bool (!n.1))<|Vm<|Bo c (fun q c=>?_) fun q c=>?_
 refine Gm q<|Bi c fun o c3 c=>CC (.guard (t:=true) (b:=true) rfl rfl rfl rfl (Cb q)) rfl rfl (Cg [Pt p 0,Sb ([60]:Bts)] rfl)<|Calls.mono (E7 bo cz c3 dcd dcd bq (AN (x:=n.2) a6)) ?_
 rintro _ er ⟨c4,es,rfl,c5,c6,c7⟩
 obtain ⟨c8,c9,rfl,br⟩:=E1 (AW c7)
 refine ⟨_,rfl,?_⟩
 refine Gr q (.bool (!o.1))<|Vp q<|AA<|⟨_,c4,(!o.1),o.2.marks,c8,c9,o.2.at_,o.2.why,o.2.where_,o.2.l.text,o.2.l.funcs,o.2.l.arity,o.2.l.nest,o.2.nest,Pu,c,(Tn (Mo [1] bp) c5),br,c6⟩
 refine Pg q<|Pg q<|Pg q<|Vp q<|AA<|⟨_,bo,false,n.2.marks,c1,c2,n.2.at_,n.2.why,n.2.where_,n.2.l.text,n.2.l.funcs,n.2.l.arity,n.2.l.nest,n.2.nest,Pu,c,(Mo [1] bp),a6,bq⟩
 rintro _ an ⟨am,ab,a5,u,aw,ax,ac,ad,ae,af,ag,ah,ai,aj,rfl,c,r,bt,bu⟩
 rw [EF] at c
 refine Cn c (fun da c=>?_) fun da c=>?_
 refine Sr<|have db:=Bs (Y4 bi f g h m) r;Vx (Lx A8 rfl rfl (Bw db))<|have dc:=Y4 (Y4 bd ar z s f) g h m r;have de:=K2 AJ (K4 AJ bh s f g h) m r;Eu<|St DB dc rfl rfl rfl rfl fun eu df ay=>AA<|AY ?_
 obtain rfl:=AO c
 refine O1 B bb rfl (.agg A8 rfl rfl (Bw df))<|have dg:=Ss AJ de ay;have dh:=Bs bu ay;have di:=Ss Ac bt ay;⟨ab,[I a.1.op,Sb a.1.name,Sb a.1.tail,I a.1.type_,Cx a.1.num,Sl ak a.1.args al,I a.1.at_],[Sl aw u ax,I ac,I ad,I ae,I af,I ag,I ah,I ai,I aj],rfl,Ho (Tn (T4 (T4 (Mo [1,20,21,22] aq) ar z s f) g h m r) ay) a8,(Ab (x:=a.1) dg),dh,(AN (x:=(AD.mk u ac ad ae (Ae.mk af ag ah ai) aj)) di)⟩
 refine WC.skip<|Sr<|Vm<|Bi c fun d dj c=>Ca (Cg [Pt p 0] rfl) (a7.ref04_reader_sum ab an dj dcd dcd bu (AN (x:=(AD.mk u ac ad ae (Ae.mk af ag ah ai) aj)) bt)) ?_
 rintro _ ew ⟨dk,ex,ey,rfl,ao,dl,dm,dn⟩
 obtain ⟨bw,bx,rfl,bv⟩:=E1 (Ak dl)
 obtain ⟨dp,dq,rfl,bz⟩:=E1 (AW dn)
 refine Ef<|AX dk 23 CB rfl fun dr e1 e2 ds w=>have dt:=Ss AJ bv w;Eu<|St DB ds rfl rfl rfl rfl fun du dv y=>AA<|Sr<|Vm<|have dw:=Y4 (Y4 bi f g h m) r ao w y;Vx (Lx A8 rfl rfl (Bw dw))<|Vx (Lx A8 rfl rfl (Bw dv))<|have dx:=Bs (Y4 cq m r ao w) y;Vx (Lx IK rfl rfl (Bw dx))<|have dy:=Ss AJ (K4 AJ (K4 AJ bh s f g h) m r ao w) y;have dz:=Ss AJ dt y;Bi c fun e d0 c=>Ca (Cg [I aa,Ag [I a.1.op,Sb a.1.name,Sb a.1.tail,I a.1.type_,Cx a.1.num,Sl ak a.1.args al,I a.1.at_],Ag [I d.1.op,Sb d.1.name,Sb d.1.tail,I d.1.type_,Cx d.1.num,Sl bw d.1.args bx,I d.1.at_],Ag [I l.kind,Sb l.text,Cx l.num,I l.at_]] rfl) (MT dr du d0 (Ab (x:=a.1) dy) (Ab (x:=d.1) dz) (Fc (x:=l))) ?_
 rintro _ e3 ⟨d1,e4,rfl,az,d2⟩
 obtain ⟨b1,b2,rfl,b0⟩:=E1 (Ak d2)
 refine have d3:=Y4 (Y4 (Y4 bd ar z s f) g h m r) ao w y az;Eu<|St DB d3 rfl rfl rfl rfl fun e6 d4 a0=>AA<|AY ?_
 obtain rfl:=AO c
 refine O1 B bb rfl (.agg A8 rfl rfl (Bw d4))<|have d5:=Ss AJ b0 a0;have d6:=Y4 dm w y az a0;have d7:=K4 Ac bz w y az a0;⟨d1,[I e.op,Sb e.name,Sb e.tail,I e.type_,Cx e.num,Sl b1 e.args b2,I e.at_],[Sl dp d.2.marks dq,I d.2.at_,I d.2.why,I d.2.where_,I d.2.l.text,I d.2.l.funcs,I d.2.l.arity,I d.2.l.nest,I d.2.nest],rfl,Ho (Tn (T4 (T4 (T4 (Mo [1,20,21,22,23] aq) ar z s f) g h m r) ao w y az) a0) a8,(Ab (x:=e) d5),d6,(AN (x:=d.2) d7)⟩
theorem OM(c:AC)(e:Nat)(h:AC.Good c):ref04_reader_comp.Spec (C7 c e):=lk1 (OK c e h)
theorem Ou(an:AC)(bl:Nat)(bm:AC.Good an)(bc:Col)(b9:World)(ca:∀b,bc b<10):ref04_reader_sum.At True True bc b9 (DP an bl) 1:=by
 intro ad cb em a0 a _ _ cc cd
 rw [DP] at a
 obtain ⟨eo,ep,rfl,bn⟩:=E1 (AW cd)
 refine Az Tryz.func148 rfl Tryz.ntmps148 rfl fun B cf eq=>Sr<|Ef<|AX bc 20 CB rfl fun cg ch bd ci be=>AA<|Sr<|Vm<|have cj:=Bs cc be;have ck:=Ss Ac bn be;Bi a fun d cl a=>Ca (Cg [Pt ad 0] rfl) (bm.ref04_reader_term cg ch cl dcd dcd cj (AN (x:=cb) ck)) ?_
 rintro _ er ⟨cm,es,et,rfl,bo,cn,co,cq⟩
 obtain ⟨cr,ct,rfl,bp⟩:=E1 (Ak cn)
 obtain ⟨cu,cv,rfl,bq⟩:=E1 (AW cq)
 refine Ef<|AX cm 21 CB rfl fun br ew a1 cw ar=>have cx:=Ss AJ bp ar;Eu<|St DB cw rfl rfl rfl rfl fun cy cz au=>AA<|Aa<|Ad<|Bh (fun ae av af=>∃ag ah f a2 a3 p q r u w y z aa g h l m n e ai aj o,av=Env.puts ag [(0,Pt ad 0),(2,Pt bd 0),(3,Pt a1 0)]∧Bq an ae f p q r u w y z aa g h l m n e o=some a0∧AT [1,21,22,23] br cy ah af∧Slc Ac ah.F af (Sl a2 f a3) f∧Slc AJ ah.F af (Sl ai e aj) e∧Bk ah af 1 ad [Sl a2 f a3,I p,I q,I r,I u,I w,I y,I z,I aa] 126∧Bk ah af 21 a1 [I g,Sb h,Sb l,I m,Cx n,Sl ai e aj,I o] 56) bl ?_ ?_
 refine have c0:=K2 Ac bq ar au;have c1:=Ss AJ cx au;have c2:=Y2 co ar au;⟨_,br,d.2.marks,cu,cv,d.2.at_,d.2.why,d.2.where_,d.2.l.text,d.2.l.funcs,d.2.l.arity,d.2.l.nest,d.2.nest,d.1.op,d.1.name,d.1.tail,d.1.type_,d.1.num,d.1.args,cr,ct,d.1.at_,Pu,a,(AT.refl [1,21,22,23] _ _),c0,c1,c2,cz⟩
 rintro ae _ af ⟨ag,ah,f,a2,a3,p,q,r,u,w,y,z,aa,g,h,l,m,n,e,ai,aj,o,rfl,a,bf,a4,bt,a5,bu⟩
 rcases ae with _|ae
 exact A3 a
 refine have a:DI an (Bq an ae) f p q r u w y z aa g h l m n e o=some a0:=a; ?_
 obtain ⟨bv,bw⟩:∃s,s=Bq an ae:=⟨_,rfl⟩
 rw [←bw,DI] at a
 refine Aa<|Am (fun av bg=>∃ag a6 bh,av=Env.puts ag [(0,Pt ad 0),(2,Pt bd 0),(3,Pt a1 0),(14,.bool bh)]∧D0 an f p q r u w y z aa g h l m n e o bv bh=some a0∧AT [] ah af a6 bg) ?_ ?_
 refine AL<|Vm<|Bi a fun ex c3 a=>Ca (Cg [Pt ad 0,Sb ([43]:Bts)] rfl) (Cv ah af c3 dcd dcd a5 (AN (x:=(AD.mk f p q r (Ae.mk u w y z) aa)) a4)) ?_
 rintro _ c4 ⟨bx,rfl,a7⟩
 refine Vm<|Bo a (fun ao a=>?_) fun ao a=>?_
 refine Pg ao<|Pg ao<|Vp ao<|AA<|⟨_,bx,true,Pu,a,(Mo [] a7)⟩
 refine Gm ao<|have c5:=Bs a5 a7;have c6:=Ss Ac a4 a7;Bi a fun c7 c8 a=>CC (.guard (t:=false) (b:=false) rfl rfl rfl rfl (Cb ao)) rfl rfl (Cg [Pt ad 0,Sb ([45]:Bts)] rfl)<|Calls.mono (Cv bx c4 c8 dcd dcd c5 (AN (x:=(AD.mk f p q r (Ae.mk u w y z) aa)) c6)) ?_
 rintro _ ey ⟨c9,rfl,da⟩
 refine ⟨_,rfl,?_⟩
 refine Vp ao<|AA<|⟨_,c9,c7,Pu,a,(Tn (Mo [] a7) da)⟩
 rintro _ bg ⟨ag,a6,bh,rfl,a,ab⟩
 rw [D0] at a
 refine Cn a (fun db a=>?_) fun db a=>?_
 refine WC.skip<|Ad<|Sr<|Vm<|have bz:=Bs a5 ab;have b0:=Ss Ac a4 ab;Bi a fun ac dc a=>Ca (Cg [Pt ad 0] rfl) (CT a6 bg dc dcd dcd bz (AN (x:=(AD.mk f p q r (Ae.mk u w y z) aa)) b0)) ?_
 rintro _ ez ⟨de,e0,rfl,aw,df⟩
 obtain rfl:=DF df
 refine Ef<|AX de 22 Gj rfl fun dg e1 dh di ax=>Eu<|St G3 di rfl rfl rfl rfl fun e2 b1 ay=>AA<|Sr<|Vm<|Vx (Nc rfl)<|Vx (Fd GK rfl)<|have b2:=Y3 bz aw ax ay;Vx (Ld CH rfl (Bc b2 rfl))<|Vr (I (Wr (p+1)))<|Vx (Nc rfl)<|Vx (Fd GK rfl)<|Eu<|St Mi b2 rfl rfl rfl rfl fun dj dk aq=>AA<|Sr<|Vm<|have dl:=K4 Ac b0 aw ax ay aq;Bi a fun c dm a=>Ca (Cg [Pt ad 0] rfl) (bm.ref04_reader_term dg dj dm dcd dcd dk (AN (x:=(AD.mk f (Wr (p+1)) q r (Ae.mk u w y z) aa)) dl)) ?_
 rintro _ e3 ⟨dn,e4,e5,rfl,az,dp,dq,dr⟩
 obtain ⟨b4,b5,rfl,b3⟩:=E1 (Ak dp)
 obtain ⟨ds,dt,rfl,b6⟩:=E1 (AW dr)
 refine Ef<|AX dn 23 CB rfl fun bi e8 du dv ak=>have dw:=Ss AJ b3 ak;Eu<|St DB dv rfl rfl rfl rfl fun dx dy al=>AA<|Sr<|Va (I 8)<|AA<|Am (fun av bj=>∃ag bk a8,av=Env.puts ag [(0,Pt ad 0),(2,Pt bd 0),(3,Pt a1 0),(4,Pt dh 0),(5,Pt du 0),(6,I a8)]∧Dz g h l m n e o bv ac c a8=some a0∧AT [] bi dx bk bj) ?_ ?_
 refine Sr<|Vx (Fd FU rfl)<|have dz:=Y4 b1 aq az ak al;Vx (Ld B1 rfl (Bc dz rfl))<|Vx (v:=.bool (ac.text==([45]:Bts))) (Run.strEq rfl rfl)<|AA<|Cn a (fun d0 a=>?_) fun d0 a=>?_
 refine AL<|Va (I 9)<|AA<|⟨_,bi,9,Pu,a,Rf⟩
 refine WC.skip<|⟨_,bi,8,Pu,a,Rf⟩
 rintro _ bj ⟨ag,bk,a8,rfl,a,am⟩
 rw [Dz] at a
 refine AL<|Vm<|have b7:=Bs (Y4 (Y4 bu ab aw ax ay) aq az ak al) am;Vx (Lx A8 rfl rfl (Bw b7))<|have d1:=Bs dy am;Vx (Lx A8 rfl rfl (Bw d1))<|have d2:=Bs (Y4 b1 aq az ak al) am;Vx (Lx IK rfl rfl (Bw d2))<|have d3:=Ss AJ (K4 AJ (K4 AJ bt ab aw ax ay) aq az ak al) am;have d4:=K2 AJ dw al am;Bi a fun ap d5 a=>Ca (Cg [I a8,Ag [I g,Sb h,Sb l,I m,Cx n,Sl ai e aj,I o],Ag [I c.1.op,Sb c.1.name,Sb c.1.tail,I c.1.type_,Cx c.1.num,Sl b4 c.1.args b5,I c.1.at_],Ag [I ac.kind,Sb ac.text,Cx ac.num,I ac.at_]] rfl) (MT bk bj d5 (Ab (x:=(AB.mk g h l m n e o)) d3) (Ab (x:=c.1) d4) (Fc (x:=ac))) ?_
 rintro _ e9 ⟨d6,fa,rfl,a9,d7⟩
 obtain ⟨d8,d9,rfl,b8⟩:=E1 (Ak d7)
 refine have ea:=Bs b7 a9;Eu<|St DB ea rfl rfl rfl rfl fun fc eb ba=>AA<|have ec:=Ss Ac (K4 Ac b6 ak al am a9) ba;have ed:=Ss AJ b8 ba;have ee:=Bs (Y4 dq ak al am a9) ba;⟨ae,Nat.lt_succ_self ae,_,d6,c.2.marks,ds,dt,c.2.at_,c.2.why,c.2.where_,c.2.l.text,c.2.l.funcs,c.2.l.arity,c.2.l.nest,c.2.nest,ap.op,ap.name,ap.tail,ap.type_,ap.num,ap.args,d8,d9,ap.at_,Pu,(bw▸a),(T3 (T4 (T4 (Mo [1,21,22,23] bf) ab aw ax ay) aq az ak al) am a9 ba),ec,ed,ee,eb⟩
 refine BZ<|Sr<|have ef:=Bs bu ab;Vx (Lx A8 rfl rfl (Bw ef))<|have eg:=Bs (Y4 ci bo ar au bf) ab;have eh:=Ss AJ bt ab;Eu<|St DB eg rfl rfl rfl rfl fun fd ei bb=>AA<|AY ?_
 obtain rfl:=AO a
 refine O1 B cf rfl (.agg A8 rfl rfl (Bw ei))<|have ej:=Ss AJ eh bb;have ek:=Y2 a5 ab bb;have el:=K2 Ac a4 ab bb;⟨a6,[I g,Sb h,Sb l,I m,Cx n,Sl ai e aj,I o],[Sl a2 f a3,I p,I q,I r,I u,I w,I y,I z,I aa],rfl,Ho (T2 (T4 (Mo [1,20,21,22,23] be) bo ar au bf) ab bb) ca,(Ab (x:=(AB.mk g h l m n e o)) ej),ek,(AN (x:=(AD.mk f p q r (Ae.mk u w y z) aa)) el)⟩
theorem Ov(c:AC)(e:Nat)(h:AC.Good c):ref04_reader_sum.Spec (DP c e):=lk1 (Ou c e h)
theorem ON(an:AC)(bl:Nat)(bm:AC.Good an)(bc:Col)(b9:World)(ca:∀b,bc b<10):ref04_reader_term.At True True bc b9 (C8 an bl) 1:=by
 intro ad cb em a0 a _ _ cc cd
 rw [C8] at a
 obtain ⟨eo,ep,rfl,bn⟩:=E1 (AW cd)
 refine Az Tryz.func151 rfl Tryz.ntmps151 rfl fun B cf eq=>Sr<|Ef<|AX bc 20 CB rfl fun cg ch bd ci be=>AA<|Sr<|Vm<|have cj:=Bs cc be;have ck:=Ss Ac bn be;Bi a fun d cl a=>Ca (Cg [Pt ad 0] rfl) (bm.ref04_reader_unit cg ch cl dcd dcd cj (AN (x:=cb) ck)) ?_
 rintro _ er ⟨cm,es,et,rfl,bo,cn,co,cq⟩
 obtain ⟨cr,ct,rfl,bp⟩:=E1 (Ak cn)
 obtain ⟨cu,cv,rfl,bq⟩:=E1 (AW cq)
 refine Ef<|AX cm 21 CB rfl fun br ew a1 cw ar=>have cx:=Ss AJ bp ar;Eu<|St DB cw rfl rfl rfl rfl fun cy cz au=>AA<|Aa<|Ad<|Bh (fun ae av af=>∃ag ah f a2 a3 p q r u w y z aa g h l m n e ai aj o,av=Env.puts ag [(0,Pt ad 0),(2,Pt bd 0),(3,Pt a1 0)]∧Bg an ae f p q r u w y z aa g h l m n e o=some a0∧AT [1,21,22,23] br cy ah af∧Slc Ac ah.F af (Sl a2 f a3) f∧Slc AJ ah.F af (Sl ai e aj) e∧Bk ah af 1 ad [Sl a2 f a3,I p,I q,I r,I u,I w,I y,I z,I aa] 126∧Bk ah af 21 a1 [I g,Sb h,Sb l,I m,Cx n,Sl ai e aj,I o] 56) bl ?_ ?_
 refine have c0:=K2 Ac bq ar au;have c1:=Ss AJ cx au;have c2:=Y2 co ar au;⟨_,br,d.2.marks,cu,cv,d.2.at_,d.2.why,d.2.where_,d.2.l.text,d.2.l.funcs,d.2.l.arity,d.2.l.nest,d.2.nest,d.1.op,d.1.name,d.1.tail,d.1.type_,d.1.num,d.1.args,cr,ct,d.1.at_,Pu,a,(AT.refl [1,21,22,23] _ _),c0,c1,c2,cz⟩
 rintro ae _ af ⟨ag,ah,f,a2,a3,p,q,r,u,w,y,z,aa,g,h,l,m,n,e,ai,aj,o,rfl,a,bf,a4,bt,a5,bu⟩
 rcases ae with _|ae
 exact A3 a
 refine have a:Ct an (Bg an ae) f p q r u w y z aa g h l m n e o=some a0:=a; ?_
 obtain ⟨bv,bw⟩:∃s,s=Bg an ae:=⟨_,rfl⟩
 rw [←bw,Ct] at a
 refine Aa<|Am (fun av bg=>∃ag a6 bh,av=Env.puts ag [(0,Pt ad 0),(2,Pt bd 0),(3,Pt a1 0),(14,.bool bh)]∧Dn an f p q r u w y z aa g h l m n e o bv bh=some a0∧AT [] ah af a6 bg) ?_ ?_
 refine AL<|Vm<|Bi a fun ex c3 a=>Ca (Cg [Pt ad 0,Sb ([42]:Bts)] rfl) (Cv ah af c3 dcd dcd a5 (AN (x:=(AD.mk f p q r (Ae.mk u w y z) aa)) a4)) ?_
 rintro _ c4 ⟨bx,rfl,a7⟩
 refine Vm<|Bo a (fun ao a=>?_) fun ao a=>?_
 refine Pg ao<|Pg ao<|Vp ao<|AA<|⟨_,bx,true,Pu,a,(Mo [] a7)⟩
 refine Gm ao<|have c5:=Bs a5 a7;have c6:=Ss Ac a4 a7;Bi a fun c7 c8 a=>CC (.guard (t:=false) (b:=false) rfl rfl rfl rfl (Cb ao)) rfl rfl (Cg [Pt ad 0,Sb ([47]:Bts)] rfl)<|Calls.mono (Cv bx c4 c8 dcd dcd c5 (AN (x:=(AD.mk f p q r (Ae.mk u w y z) aa)) c6)) ?_
 rintro _ ey ⟨c9,rfl,da⟩
 refine ⟨_,rfl,?_⟩
 refine Vp ao<|AA<|⟨_,c9,c7,Pu,a,(Tn (Mo [] a7) da)⟩
 rintro _ bg ⟨ag,a6,bh,rfl,a,ab⟩
 rw [Dn] at a
 refine Cn a (fun db a=>?_) fun db a=>?_
 refine WC.skip<|Ad<|Sr<|Vm<|have bz:=Bs a5 ab;have b0:=Ss Ac a4 ab;Bi a fun ac dc a=>Ca (Cg [Pt ad 0] rfl) (CT a6 bg dc dcd dcd bz (AN (x:=(AD.mk f p q r (Ae.mk u w y z) aa)) b0)) ?_
 rintro _ ez ⟨de,e0,rfl,aw,df⟩
 obtain rfl:=DF df
 refine Ef<|AX de 22 Gj rfl fun dg e1 dh di ax=>Eu<|St G3 di rfl rfl rfl rfl fun e2 b1 ay=>AA<|Sr<|Vm<|Vx (Nc rfl)<|Vx (Fd GK rfl)<|have b2:=Y3 bz aw ax ay;Vx (Ld CH rfl (Bc b2 rfl))<|Vr (I (Wr (p+1)))<|Vx (Nc rfl)<|Vx (Fd GK rfl)<|Eu<|St Mi b2 rfl rfl rfl rfl fun dj dk aq=>AA<|Sr<|Vm<|have dl:=K4 Ac b0 aw ax ay aq;Bi a fun c dm a=>Ca (Cg [Pt ad 0] rfl) (bm.ref04_reader_unit dg dj dm dcd dcd dk (AN (x:=(AD.mk f (Wr (p+1)) q r (Ae.mk u w y z) aa)) dl)) ?_
 rintro _ e3 ⟨dn,e4,e5,rfl,az,dp,dq,dr⟩
 obtain ⟨b4,b5,rfl,b3⟩:=E1 (Ak dp)
 obtain ⟨ds,dt,rfl,b6⟩:=E1 (AW dr)
 refine Ef<|AX dn 23 CB rfl fun bi e8 du dv ak=>have dw:=Ss AJ b3 ak;Eu<|St DB dv rfl rfl rfl rfl fun dx dy al=>AA<|Sr<|Va (I 10)<|AA<|Am (fun av bj=>∃ag bk a8,av=Env.puts ag [(0,Pt ad 0),(2,Pt bd 0),(3,Pt a1 0),(4,Pt dh 0),(5,Pt du 0),(6,I a8)]∧Dm g h l m n e o bv ac c a8=some a0∧AT [] bi dx bk bj) ?_ ?_
 refine Sr<|Vx (Fd FU rfl)<|have dz:=Y4 b1 aq az ak al;Vx (Ld B1 rfl (Bc dz rfl))<|Vx (v:=.bool (ac.text==([47]:Bts))) (Run.strEq rfl rfl)<|AA<|Cn a (fun d0 a=>?_) fun d0 a=>?_
 refine AL<|Va (I 11)<|AA<|⟨_,bi,11,Pu,a,Rf⟩
 refine WC.skip<|⟨_,bi,10,Pu,a,Rf⟩
 rintro _ bj ⟨ag,bk,a8,rfl,a,am⟩
 rw [Dm] at a
 refine AL<|Vm<|have b7:=Bs (Y4 (Y4 bu ab aw ax ay) aq az ak al) am;Vx (Lx A8 rfl rfl (Bw b7))<|have d1:=Bs dy am;Vx (Lx A8 rfl rfl (Bw d1))<|have d2:=Bs (Y4 b1 aq az ak al) am;Vx (Lx IK rfl rfl (Bw d2))<|have d3:=Ss AJ (K4 AJ (K4 AJ bt ab aw ax ay) aq az ak al) am;have d4:=K2 AJ dw al am;Bi a fun ap d5 a=>Ca (Cg [I a8,Ag [I g,Sb h,Sb l,I m,Cx n,Sl ai e aj,I o],Ag [I c.1.op,Sb c.1.name,Sb c.1.tail,I c.1.type_,Cx c.1.num,Sl b4 c.1.args b5,I c.1.at_],Ag [I ac.kind,Sb ac.text,Cx ac.num,I ac.at_]] rfl) (MT bk bj d5 (Ab (x:=(AB.mk g h l m n e o)) d3) (Ab (x:=c.1) d4) (Fc (x:=ac))) ?_
 rintro _ e9 ⟨d6,fa,rfl,a9,d7⟩
 obtain ⟨d8,d9,rfl,b8⟩:=E1 (Ak d7)
 refine have ea:=Bs b7 a9;Eu<|St DB ea rfl rfl rfl rfl fun fc eb ba=>AA<|have ec:=Ss Ac (K4 Ac b6 ak al am a9) ba;have ed:=Ss AJ b8 ba;have ee:=Bs (Y4 dq ak al am a9) ba;⟨ae,Nat.lt_succ_self ae,_,d6,c.2.marks,ds,dt,c.2.at_,c.2.why,c.2.where_,c.2.l.text,c.2.l.funcs,c.2.l.arity,c.2.l.nest,c.2.nest,ap.op,ap.name,ap.tail,ap.type_,ap.num,ap.args,d8,d9,ap.at_,Pu,(bw▸a),(T3 (T4 (T4 (Mo [1,21,22,23] bf) ab aw ax ay) aq az ak al) am a9 ba),ec,ed,ee,eb⟩
 refine BZ<|Sr<|have ef:=Bs bu ab;Vx (Lx A8 rfl rfl (Bw ef))<|have eg:=Bs (Y4 ci bo ar au bf) ab;have eh:=Ss AJ bt ab;Eu<|St DB eg rfl rfl rfl rfl fun fd ei bb=>AA<|AY ?_
 obtain rfl:=AO a
 refine O1 B cf rfl (.agg A8 rfl rfl (Bw ei))<|have ej:=Ss AJ eh bb;have ek:=Y2 a5 ab bb;have el:=K2 Ac a4 ab bb;⟨a6,[I g,Sb h,Sb l,I m,Cx n,Sl ai e aj,I o],[Sl a2 f a3,I p,I q,I r,I u,I w,I y,I z,I aa],rfl,Ho (T2 (T4 (Mo [1,20,21,22,23] be) bo ar au bf) ab bb) ca,(Ab (x:=(AB.mk g h l m n e o)) ej),ek,(AN (x:=(AD.mk f p q r (Ae.mk u w y z) aa)) el)⟩
theorem OO(c:AC)(e:Nat)(h:AC.Good c):ref04_reader_term.Spec (C8 c e):=lk1 (ON c e h)
theorem OP(a6:AC)(bl:Nat)(b8:AC.Good a6)(b9:Col)(dv:World)(av:∀b,b9 b<10):ref04_reader_unit.At True True b9 dv (C9 a6 bl) 1:=by
 intro p c ip bm a _ _ dw dx
 rw [C9] at a
 obtain ⟨cy,cz,rfl,cx⟩:=E1 (AW dx)
 refine Az Tryz.func157 rfl Tryz.ntmps157 rfl fun B aw ax=>Sr<|Ef<|AX b9 20 CB rfl fun dy dz bn ay ah=>AA<|Sr<|Vm<|have c0:=Bs dw ah;have a7:=Ss Ac cx ah;Bi a fun f d0 a=>Ca (Cg [Pt p 0] rfl) (CT dy dz d0 dcd dcd c0 (AN (x:=c) a7)) ?_
 rintro _ ir ⟨d1,it,rfl,m,d2⟩
 obtain rfl:=DF d2
 refine Ef<|AX d1 21 Gj rfl fun bo iu d3 d4 n=>Eu<|St G3 d4 rfl rfl rfl rfl fun d5 az o=>AA<|Aa<|Sr<|Vm<|Vx (Nc rfl)<|Vx (Fd I1 rfl)<|have an:=Y3 c0 m n o;Vx (Ld CH rfl (Bc an rfl))<|Vr (.bool (c.why != 0))<|AA<|Cn a (fun d6 a=>?_) fun d6 a=>?_
 refine Sr<|Vx (v:=Ag [I 0,Sb ([]:Bts),Sb ([]:Bts),I 0,Cx (((0,0):Nat×Nat)),.slice none 0 0,I 0]) (Bp CB Jp rfl .nil)<|have d7:=Y3 ay m n o;Eu<|St DB d7 rfl rfl rfl rfl fun iv d8 ca=>AA<|AY ?_
 obtain rfl:=AO a
 refine O1 B aw rfl (.agg A8 rfl rfl (Bw d8))<|have d9:=Bs an ca;have ea:=K4 Ac a7 m n o ca;⟨bo,[I 0,Sb ([]:Bts),Sb ([]:Bts),I 0,Cx (((0,0):Nat×Nat)),.slice none 0 0,I 0],[Sl cy c.marks cz,I c.at_,I c.why,I c.where_,I c.l.text,I c.l.funcs,I c.l.arity,I c.l.nest,I c.nest],rfl,Ho (T4 (Mo [20,21] ah) m n o ca) av,(Ab (x:=(AB.mk 0 ([]:Bts) ([]:Bts) 0 ((0,0):Nat×Nat) [] 0)) Bz),d9,(AN (x:=c) ea)⟩
 refine WC.skip<|Aa<|Ad<|Sr<|Vx (Fz Ko rfl)<|Vx (Ld PM rfl (Bc az rfl))<|Vr (.bool (f.kind==2))<|Va (.bool (f.kind==2))<|AA<|Cn a (fun eb a=>?_) fun eb a=>?_
 refine Sr<|Vm<|Vx (Nc rfl)<|Vx (Fd GK rfl)<|Vx (Ld CH rfl (Bc an rfl))<|Vr (I (Wr (c.at_+1)))<|Vx (Nc rfl)<|Vx (Fd GK rfl)<|Eu<|St Mi an rfl rfl rfl rfl fun iw ec bp=>AA<|Sr<|Vx (Fd Ud rfl)<|have c1:=Bs az bp;Vx (Ld IL rfl (Bc c1 rfl))<|Vx (Fd LL rfl)<|Vx (Ld CH rfl (Bc c1 rfl))<|Vx (v:=Ag [I 1,Sb ([]:Bts),Sb ([]:Bts),I 0,Cx f.num,.slice none 0 0,I f.at_]) (Bp CB Jp rfl (.cons rfl rfl rfl (.cons rfl rfl rfl (.cons rfl rfl rfl .nil))))<|have ed:=Y4 ay m n o bp;Eu<|St DB ed rfl rfl rfl rfl fun ix ee cb=>AA<|AY ?_
 obtain rfl:=AO a
 refine O1 B aw rfl (.agg A8 rfl rfl (Bw ee))<|have ef:=Bs ec cb;have eg:=Ss Ac (K4 Ac a7 m n o bp) cb;⟨bo,[I 1,Sb ([]:Bts),Sb ([]:Bts),I 0,Cx f.num,.slice none 0 0,I f.at_],[Sl cy c.marks cz,I (Wr (c.at_+1)),I c.why,I c.where_,I c.l.text,I c.l.funcs,I c.l.arity,I c.l.nest,I c.nest],rfl,Ho (Tn (T4 (Mo [1,20,21] ah) m n o bp) cb) av,(Ab (x:=(AB.mk 1 ([]:Bts) ([]:Bts) 0 f.num [] f.at_)) Bz),ef,(AN (x:=(AD.mk c.marks (Wr (c.at_+1)) c.why c.where_ (Ae.mk c.l.text c.l.funcs c.l.arity c.l.nest) c.nest)) eg)⟩
 refine Sr<|Vx (Fz Ko rfl)<|Vx (Ld PM rfl (Bc az rfl))<|Vr (.bool (f.kind==0))<|Va (.bool (f.kind==0))<|AA<|Cn a (fun eh a=>?_) fun eh a=>?_
 refine Sr<|Vm<|Vx (Nc rfl)<|Vx (Fd GK rfl)<|Vx (Ld CH rfl (Bc an rfl))<|Vr (I (Wr (c.at_+1)))<|Vx (Nc rfl)<|Vx (Fd GK rfl)<|Eu<|St Mi an rfl rfl rfl rfl fun ei ej bq=>AA<|Sr<|Vm<|have ek:=Bs az bq;Vx (Lx IK rfl rfl (Bw ek))<|have el:=K4 Ac a7 m n o bq;Bi a fun h em a=>Ca (Cg [Pt p 0,Ag [I f.kind,Sb f.text,Cx f.num,I f.at_]] rfl) (b8.ref04_reader_named bo ei em dcd dcd ej (AN (x:=(AD.mk c.marks (Wr (c.at_+1)) c.why c.where_ (Ae.mk c.l.text c.l.funcs c.l.arity c.l.nest) c.nest)) el) (Fc (x:=f))) ?_
 rintro _ iy ⟨en,iz,i0,rfl,c2,eo,ep,eq⟩
 obtain ⟨c4,c5,rfl,c3⟩:=E1 (Ak eo)
 obtain ⟨er,es,rfl,c6⟩:=E1 (AW eq)
 refine have et:=Bs (Y4 ay m n o bq) c2;Eu<|St DB et rfl rfl rfl rfl fun i3 eu br=>AA<|AY ?_
 obtain rfl:=AO a
 refine O1 B aw rfl (.agg A8 rfl rfl (Bw eu))<|have ew:=Ss AJ c3 br;have ex:=Bs ep br;have ey:=Ss Ac c6 br;⟨en,[I h.1.op,Sb h.1.name,Sb h.1.tail,I h.1.type_,Cx h.1.num,Sl c4 h.1.args c5,I h.1.at_],[Sl er h.2.marks es,I h.2.at_,I h.2.why,I h.2.where_,I h.2.l.text,I h.2.l.funcs,I h.2.l.arity,I h.2.l.nest,I h.2.nest],rfl,Ho (T2 (T4 (Mo [1,20,21] ah) m n o bq) c2 br) av,(Ab (x:=h.1) ew),ex,(AN (x:=h.2) ey)⟩
 refine Sr<|Vm<|have ez:=K3 Ac a7 m n o;Bi a fun d e0 a=>Ca (Cg [Pt p 0,Sb ([40]:Bts)] rfl) (E7 bo d5 e0 dcd dcd an (AN (x:=c) ez)) ?_
 rintro _ cc ⟨bt,i4,rfl,ai,cd,e1⟩
 obtain ⟨e2,e3,rfl,a0⟩:=E1 (AW e1)
 refine Va (.bool d.1)<|AA<|Cn a (fun e4 a=>?_) fun e4 a=>?_
 refine Sr<|Vm<|Bi a fun l e5 a=>Ca (Cg [Pt p 0] rfl) (b8.ref04_reader_expr bt cc e5 dcd dcd cd (AN (x:=d.2) a0)) ?_
 rintro _ i6 ⟨e6,i7,i8,rfl,c7,e7,e8,e9⟩
 obtain ⟨cf,cg,rfl,c8⟩:=E1 (Ak e7)
 obtain ⟨jb,jc,rfl,c9⟩:=E1 (AW e9)
 refine Ef<|AX e6 22 CB rfl fun fa jd je fb a8=>have fc:=Ss AJ c8 a8;Eu<|St DB fb rfl rfl rfl rfl fun fd fe a9=>AA<|Sr<|Vm<|have ff:=Y2 e8 a8 a9;have fg:=K2 Ac c9 a8 a9;Bi a fun ab fh a=>Ca (Cg [Pt p 0,Sb ([41]:Bts)] rfl) (BP fa fd fh dcd dcd ff (AN (x:=l.2) fg)) ?_
 rintro _ jf ⟨fi,jg,rfl,bu,fj,fk⟩
 obtain ⟨fl,fm,rfl,da⟩:=E1 (AW fk)
 refine AA<|Sr<|have fn:=Bs fe bu;Vx (Lx A8 rfl rfl (Bw fn))<|have fo:=Y4 (Y4 ay m n o ai) c7 a8 a9 bu;have fp:=K2 AJ fc a9 bu;Eu<|St DB fo rfl rfl rfl rfl fun ji fq bv=>AA<|AY ?_
 obtain rfl:=AO a
 refine O1 B aw rfl (.agg A8 rfl rfl (Bw fq))<|have fr:=Ss AJ fp bv;have fs:=Bs fj bv;have ft:=Ss Ac da bv;⟨fi,[I l.1.op,Sb l.1.name,Sb l.1.tail,I l.1.type_,Cx l.1.num,Sl cf l.1.args cg,I l.1.at_],[Sl fl ab.marks fm,I ab.at_,I ab.why,I ab.where_,I ab.l.text,I ab.l.funcs,I ab.l.arity,I ab.l.nest,I ab.nest],rfl,Ho (Tn (T4 (T4 (Mo [1,20,21,22] ah) m n o ai) c7 a8 a9 bu) bv) av,(Ab (x:=l.1) fr),fs,(AN (x:=ab) ft)⟩
 refine Am (fun ao ch=>∃w ap ci,ao=Env.puts w [(0,Pt p 0),(2,Pt bn 0),(3,Pt d3 0),(53,.bool ci)]∧DJ a6 bl f d ci=some bm∧AT [] bt cc ap ch) ?_ ?_
 refine AL<|Vx (Fz Ko rfl)<|have db:=Bs az ai;Vx (Ld PM rfl (Bc db rfl))<|Vr (.bool (f.kind != 1))<|Vm<|Bo a (fun y a=>?_) fun y a=>?_
 refine Pg y<|Pg y<|Pg y<|Pg y<|Vp y<|Va (.bool true)<|AA<|⟨_,bt,true,Pu,a,Rf⟩
 refine Gx y (Fd FU rfl)<|Gx y (Ld B1 rfl (Bc db rfl))<|Bi a fun cj fu a=>CC (.guard (t:=false) (b:=false) rfl rfl rfl rfl (Cb y)) rfl rfl (Cg [Sb f.text] rfl)<|Calls.mono (NI bt cc fu) ?_
 rintro _ jj ⟨fv,rfl,fw⟩
 refine ⟨_,rfl,?_⟩
 refine Gr y (.bool (cj==0))<|Vp y<|Va (.bool (cj==0))<|AA<|⟨_,fv,(cj==0),Pu,a,(Mo [] fw)⟩
 rintro _ ch ⟨w,ap,ci,rfl,a,z⟩
 rw [DJ] at a
 refine Cn a (fun fx a=>?_) fun fx a=>?_
 refine Sr<|Vm<|have fy:=Bs cd z;have fz:=Ss Ac a0 z;Bi a fun ac f0 a=>Ca (Cg [Pt p 0,I 21] rfl) (E6 ap ch f0 dcd dcd fy (AN (x:=d.2) fz)) ?_
 rintro _ jk ⟨f1,jl,rfl,dc,f2,f3⟩
 obtain ⟨f4,f5,rfl,de⟩:=E1 (AW f3)
 refine AA<|Sr<|Vx (v:=Ag [I 0,Sb ([]:Bts),Sb ([]:Bts),I 0,Cx (((0,0):Nat×Nat)),.slice none 0 0,I 0]) (Bp CB Jp rfl .nil)<|have f6:=Y2 (Y4 ay m n o ai) z dc;Eu<|St DB f6 rfl rfl rfl rfl fun jn f7 ck=>AA<|AY ?_
 obtain rfl:=AO a
 refine O1 B aw rfl (.agg A8 rfl rfl (Bw f7))<|have f8:=Bs f2 ck;have f9:=Ss Ac de ck;⟨f1,[I 0,Sb ([]:Bts),Sb ([]:Bts),I 0,Cx (((0,0):Nat×Nat)),.slice none 0 0,I 0],[Sl f4 ac.marks f5,I ac.at_,I ac.why,I ac.where_,I ac.l.text,I ac.l.funcs,I ac.l.arity,I ac.l.nest,I ac.nest],rfl,Ho (T3 (T4 (Mo [1,20,21] ah) m n o ai) z dc ck) av,(Ab (x:=(AB.mk 0 ([]:Bts) ([]:Bts) 0 ((0,0):Nat×Nat) [] 0)) Bz),f8,(AN (x:=ac) f9)⟩
 refine WC.skip<|Sr<|Vm<|Vx (Nc rfl)<|Vx (Fd GK rfl)<|have df:=Bs cd z;Vx (Ld CH rfl (Bc df rfl))<|Vr (I (Wr (d.2.at_+1)))<|Vx (Nc rfl)<|Vx (Fd GK rfl)<|Eu<|St Mi df rfl rfl rfl rfl fun ga cl a1=>AA<|Am (fun ao a2=>∃w ad a3 g q r aq s u,ao=Env.puts w [(0,Pt p 0),(2,Pt bn 0),(5,Pt a3 0)]∧Eo a6 bl d g q r aq s u=some bm∧AT [23] ap ga ad a2∧Bk ad a2 23 a3 [I g,Sb q,Sb r,I aq,Cx s,.slice none 0 0,I u] 56) ?_ ?_
 refine CL E0 (.q 0 (.q 1 (.q 3 (.q 4 (.two 2 6 (.q 5 (.one 6 (.one 7 .nil))) (.one 2 (.q 5 (.one 7 .nil)))))))) [7] [] ap (by kernel_rfl) fun gb cm=>Qx ax rfl (fun _ _=>Fd FU rfl)<|have dg:=Y4 az ai z a1 cm;Qx ax rfl (fun _ ⟨_,ar⟩=>Ld B1 rfl (Bc (Bs dg ar) rfl))<|Qx ax rfl (fun _ _=>Fd LL rfl)<|Qx ax rfl (fun _ ⟨_,ar⟩=>Ld CH rfl (Bc (Bs dg ar) rfl))<|KF rfl rfl ?_ ?_
 refine Bi a fun cn gc a=>BW rfl (.none rfl) rfl rfl (Cg [Sb f.text] rfl)<|Calls.mono (NI ap gb gc) ?_
 rintro _ jo ⟨gd,rfl,co⟩
 refine ⟨_,rfl,⟨_,(Mo [] co)⟩,?_⟩
 refine Qx ax rfl (v:=Ag [I cn,Sb ([]:Bts),Sb ([]:Bts),I 0,Cx (((0,0):Nat×Nat)),.slice none 0 0,I f.at_]) (fun _ _=>CE (cs:=[I cn,Sb ([]:Bts),Sb ([]:Bts),I 0,Cx (((0,0):Nat×Nat)),.slice none 0 0,I f.at_]) [I 0,Sb ([]:Bts),Sb ([]:Bts),I 0,Cx (((0,0):Nat×Nat)),.slice none 0 0,I 0] CB Jp rfl (.cons rfl rfl rfl (.cons rfl rfl rfl .nil)) rfl rfl)<|BB rfl<|Aw rfl (.none rfl) rfl rfl<|AX gd 23 CB rfl fun ge jp gf gg dh=>⟨⟨_,(Tn (Mo [] co) dh)⟩,?_⟩
 refine Cq dcd<|WY.one<|BC rfl (.none rfl) rfl<|St DB gg rfl rfl rfl rfl fun jq gh gi=>WY.nil<|⟨_,ge,gf,cn,([]:Bts),([]:Bts),0,((0,0):Nat×Nat),f.at_,Pu,a,(T3 (Mo [23] cm) co dh gi),gh⟩
 refine Aw rfl (.none rfl) rfl rfl<|AX ap 23 CB rfl fun gj gk gl gm cq=>⟨⟨_,(Mo [] cq)⟩,?_⟩
 refine BB rfl<|Bi a fun cr gn a=>BW rfl (.none rfl) rfl rfl (Cg [Sb f.text] rfl)<|Calls.mono (NI gj gk gn) ?_
 rintro _ jr ⟨go,rfl,ct⟩
 refine ⟨_,rfl,⟨_,(Tn (Mo [] cq) ct)⟩,?_⟩
 refine Qx ax rfl (v:=Ag [I cr,Sb ([]:Bts),Sb ([]:Bts),I 0,Cx (((0,0):Nat×Nat)),.slice none 0 0,I f.at_]) (fun _ _=>CE (cs:=[I cr,Sb ([]:Bts),Sb ([]:Bts),I 0,Cx (((0,0):Nat×Nat)),.slice none 0 0,I f.at_]) [I 0,Sb ([]:Bts),Sb ([]:Bts),I 0,Cx (((0,0):Nat×Nat)),.slice none 0 0,I 0] CB Jp rfl (.cons rfl rfl rfl (.cons rfl rfl rfl .nil)) rfl rfl)<|Cq dcd<|WY.one<|have gp:=Bs gm ct;BC rfl (.none rfl) rfl<|St DB gp rfl rfl rfl rfl fun js gq gr=>WY.nil<|⟨_,go,gl,cr,([]:Bts),([]:Bts),0,((0,0):Nat×Nat),f.at_,Pu,a,(T3 (Mo [23] cm) cq ct gr),gq⟩
 rintro _ a2 ⟨w,ad,a3,g,q,r,aq,s,u,rfl,a,aj,bw⟩
 rw [Eo] at a
 refine Am (fun ao a4=>∃w a5 au bx bz ba bb bc bd be bf bg bh af aa ak al,ao=Env.puts w [(2,Pt bn 0),(5,Pt a3 0)]∧F9 g q r s u au ba bb bc bd be bf bg bh af aa=some bm∧AT [1,23,24] ad a2 a5 a4∧Slc Ac a5.F a4 (Sl bx au bz) au∧Own AJ 56 a5 a4 25 (Sl ak aa al) aa∧Bk a5 a4 1 p [Sl bx au bz,I ba,I bb,I bc,I bd,I be,I bf,I bg,I bh] 126∧Bk a5 a4 23 a3 [I g,Sb q,Sb r,I af,Cx s,Sl ak aa al,I u] 56) ?_ ?_
 refine Sr<|Vx (Fz DZ rfl)<|Vx (Ld Hr rfl (Bc bw rfl))<|AA<|Ad<|Sr<|Vr (.bool (g==5))<|Va (.bool (g==5))<|AA<|Cn a (fun gs a=>?_) fun gs a=>?_
 refine AL<|Vm<|have gt:=Bs cl aj;have gu:=K3 Ac a0 z a1 aj;Bi a fun ae gv a=>Ca (Cg [Pt p 0] rfl) (JS bl ad a2 gv dcd dcd gt (AN (x:=(AD.mk d.2.marks (Wr (d.2.at_+1)) d.2.why d.2.where_ (Ae.mk d.2.l.text d.2.l.funcs d.2.l.arity d.2.l.nest) d.2.nest)) gu)) ?_
 rintro _ jt ⟨gw,ju,rfl,di,gx,gy⟩
 obtain ⟨gz,g0,rfl,dj⟩:=E1 (AW gy)
 refine Vx (Fd K8 rfl)<|have g1:=Bs bw di;Eu<|St Wk g1 rfl rfl rfl rfl fun jw g2 cu=>AA<|have g3:=Ss Ac dj cu;have g4:=Bs gx cu;⟨_,gw,ae.2.marks,gz,g0,ae.2.at_,ae.2.why,ae.2.where_,ae.2.l.text,ae.2.l.funcs,ae.2.l.arity,ae.2.l.nest,ae.2.nest,ae.1,([]:List AB),none,0,Pu,a,(Tn (Mo [1,23,24] di) cu),g3,Own.nil,g4,g2⟩
 refine Am (fun ao cv=>∃w b0 cw,ao=Env.puts w [(0,Pt p 0),(2,Pt bn 0),(5,Pt a3 0),(86,.bool cw)]∧CS a6 d g q r aq s u cw=some bm∧AT [] ad a2 b0 cv) ?_ ?_
 refine Sr<|Vr (.bool (g==14))<|Va (.bool (g==14))<|AA<|Cn a (fun g5 a=>?_) fun g5 a=>?_
 refine WC.skip<|⟨_,ad,(g==14),Pu,a,Rf⟩
 refine Sr<|Vr (.bool (g==15))<|Va (.bool (g==15))<|AA<|Cn a (fun g6 a=>?_) fun g6 a=>?_
 refine WC.skip<|⟨_,ad,(g==15),Pu,a,Rf⟩
 refine Sr<|Vr (.bool (g==16))<|Va (.bool (g==16))<|AA<|Cn a (fun g7 a=>?_) fun g7 a=>?_
 refine WC.skip<|⟨_,ad,(g==16),Pu,a,Rf⟩
 refine AL<|Vr (.bool (g==17))<|Va (.bool (g==17))<|AA<|⟨_,ad,(g==17),Pu,a,Rf⟩
 rintro _ cv ⟨w,b0,cw,rfl,a,am⟩
 rw [CS] at a
 refine Cn a (fun g8 a=>?_) fun g8 a=>?_
 refine Sr<|Vm<|have g9:=Y2 cl aj am;have ha:=K4 Ac a0 z a1 aj am;Bi a fun hb hc a=>Ca (Cg [Pt p 0,Sb ([40]:Bts)] rfl) (BP b0 cv hc dcd dcd g9 (AN (x:=(AD.mk d.2.marks (Wr (d.2.at_+1)) d.2.why d.2.where_ (Ae.mk d.2.l.text d.2.l.funcs d.2.l.arity d.2.l.nest) d.2.nest)) ha)) ?_
 rintro _ hd ⟨he,jx,rfl,dk,hf,hg⟩
 obtain ⟨jz,j0,rfl,dl⟩:=E1 (AW hg)
 refine AA<|Sr<|Vm<|Bi a fun e hh a=>Ca (Cg [Pt p 0] rfl) (b8.ref04_reader_expr he hd hh dcd dcd hf (AN (x:=hb) dl)) ?_
 rintro _ j1 ⟨hi,j2,j3,rfl,dm,hj,hk,hl⟩
 obtain ⟨b1,b2,rfl,dn⟩:=E1 (Ak hj)
 obtain ⟨j6,j7,rfl,dp⟩:=E1 (AW hl)
 refine Ef<|AX hi 24 CB rfl fun hm j8 j9 hn bi=>have ho:=Ss AJ dn bi;Eu<|St DB hn rfl rfl rfl rfl fun hp hq bj=>AA<|Sr<|Vm<|have hr:=Y2 hk bi bj;have hs:=K2 Ac dp bi bj;Bi a fun ag ht a=>Ca (Cg [Pt p 0,Sb ([41]:Bts)] rfl) (BP hm hp ht dcd dcd hr (AN (x:=e.2) hs)) ?_
 rintro _ ka ⟨hu,kb,rfl,b3,hw,hx⟩
 obtain ⟨hy,hz,rfl,dq⟩:=E1 (AW hx)
 refine AA<|AL<|have h0:=Bs hq b3;Vx (Lx A8 rfl rfl (Bw h0))<|Ef<|Ba (cs:=[I e.1.op,Sb e.1.name,Sb e.1.tail,I e.1.type_,Cx e.1.num,Sl b1 e.1.args b2,I e.1.at_]) hu 25 [[I e.1.op,Sb e.1.name,Sb e.1.tail,I e.1.type_,Cx e.1.num,Sl b1 e.1.args b2,I e.1.at_]] Cp CB rfl rfl (.cons rfl rfl rfl .nil) rfl fun dr h1 b4 h2 bk=>have h3:=K3 AJ ho bj b3 bk;have ds:Own AJ 56 dr h1 25 (.slice (some ⟨b4,0,none⟩) 1 1) ([e.1]:List AB):=Own.lit (css:=[[I e.1.op,Sb e.1.name,Sb e.1.tail,I e.1.type_,Cx e.1.num,Sl b1 e.1.args b2,I e.1.at_]]) h2 rfl rfl rfl (AQ (Ab (x:=e.1) h3) As) (Av rfl B4) rfl;Vx (Fd Bl rfl)<|have h4:=Y3 (Y4 bw am dk dm bi) bj b3 bk;Eu<|A9 (vs:=[Sl (some ⟨b4,0,none⟩) (([e.1]:List AB)) 1]) (cs':=[I g,Sb q,Sb r,I aq,Cx s,Sl (some ⟨b4,0,none⟩) (([e.1]:List AB)) 1,I u]) So rfl rfl rfl rfl (AP (Own.one ds) BO) h4 dcd rfl rfl fun kd h5 b5=>AA<|have h6:=K2 Ac dq bk b5;have h7:=Os ds b5;have h8:=Y2 hw bk b5;⟨_,dr,ag.marks,hy,hz,ag.at_,ag.why,ag.where_,ag.l.text,ag.l.funcs,ag.l.arity,ag.l.nest,ag.nest,aq,([e.1]:List AB),(some ⟨b4,0,none⟩),1,Pu,a,(T3 (T4 (Mo [1,23,24] am) dk dm bi bj) b3 bk b5),h6,h7,h8,h5⟩
 refine WC.skip<|have h9:=K4 Ac a0 z a1 aj am;have ia:=Y2 cl aj am;have ib:=Bs bw am;⟨_,b0,d.2.marks,e2,e3,(Wr (d.2.at_+1)),d.2.why,d.2.where_,d.2.l.text,d.2.l.funcs,d.2.l.arity,d.2.l.nest,d.2.nest,aq,([]:List AB),none,0,Pu,a,(Mo [1,23,24] am),h9,Own.nil,ia,ib⟩
 rintro _ a4 ⟨w,a5,au,bx,bz,ba,bb,bc,bd,be,bf,bg,bh,af,aa,ak,al,rfl,a,dt,ic,du,id,ie⟩
 rw [F9] at a
 refine Sr<|Vx (Lx A8 rfl rfl (Bw ie))<|have ig:=Y4 (Y4 ay m n o ai) z a1 aj dt;Eu<|A9 (vs:=[I g,Sb q,Sb r,I af,Cx s,Sl ak aa al,I u]) (cs':=[I g,Sb q,Sb r,I af,Cx s,Sl ak aa al,I u]) DB rfl rfl rfl rfl (AP rfl (AP rfl (AP rfl (AP rfl (AP rfl (AP (Own.one du) (AP rfl BO))))))) ig dcd rfl rfl fun ke ih b6=>AA<|AY<|have ii:=Os du b6; ?_
 obtain ⟨ij,b7,ik⟩:=Own.freeze (S:=[25]) ii dcd dcd
 obtain rfl:=AO a
 refine have il:=Bs ih b7;O1 B aw rfl (.agg A8 rfl rfl (Bw il))<|have im:=Y2 id b6 b7;have io:=K2 Ac ic b6 b7;⟨ij,[I g,Sb q,Sb r,I af,Cx s,Sl ak aa al,I u],[Sl bx au bz,I ba,I bb,I bc,I bd,I be,I bf,I bg,I bh],rfl,Ho (T2 (T4 (T4 (Mo [1,20,21,23,24,25] ah) m n o ai) z a1 aj dt) b6 b7) av,(Ab (x:=(AB.mk g q r af s aa u)) ik),im,(AN (x:=(AD.mk au ba bb bc (Ae.mk bd be bf bg) bh)) io)⟩
theorem OQ(c:AC)(e:Nat)(h:AC.Good c):ref04_reader_unit.Spec (C9 c e):=lk1 (OP c e h)
theorem Ns(ac:AC)(b0:Nat)(co:AC.Good ac)(bj:Col)(cq:World)(b1:∀b,bj b<10):ref04_reader_named.At True True bj cq (Cj ac b0) 1:=by
 intro l cr e5 d e6 aw a _ _ ct cu cv
 rw [Cj] at a
 obtain ⟨e8,e9,rfl,b2⟩:=E1 (AW cu)
 obtain rfl:=DF cv
 refine Az Tryz.func162 rfl Tryz.ntmps162 rfl fun B b3 fa=>Sr<|Ef<|Bb bj 20 rfl rfl fun cw fb fc b4 ax=>Ef<|AX cw 21 CB rfl fun cx cy bk b5 ai=>AA<|Aa<|Sr<|Vm<|have cz:=Y2 ct ax ai;have c0:=K2 Ac b2 ax ai;Bi a fun e c1 a=>Ca (Cg [Pt l 0,Sb ([40]:Bts)] rfl) (E7 cx cy c1 dcd dcd cz (AN (x:=cr) c0)) ?_
 rintro _ fd ⟨b6,fe,rfl,aj,b7,c2⟩
 obtain ⟨b8,b9,rfl,bl⟩:=E1 (AW c2)
 refine Vr (.bool (!e.1))<|AA<|Cn a (fun c3 a=>?_) fun c3 a=>?_
 refine Sr<|Vx (Fd FU rfl)<|have ca:=Y2 b4 ai aj;Vx (Ld B1 rfl (Bc ca rfl))<|Vx (Fd LL rfl)<|Vx (Ld CH rfl (Bc ca rfl))<|Vx (v:=Ag [I 6,Sb d.text,Sb ([]:Bts),I 0,Cx (((0,0):Nat×Nat)),.slice none 0 0,I d.at_]) (Bp CB Jp rfl (.cons rfl rfl rfl (.cons rfl rfl rfl (.cons rfl rfl rfl .nil))))<|have c4:=Bs b5 aj;Eu<|St DB c4 rfl rfl rfl rfl fun fg c5 bm=>AA<|AY ?_
 obtain rfl:=AO a
 refine O1 B b3 rfl (.agg A8 rfl rfl (Bw c5))<|have c6:=Bs b7 bm;have c7:=Ss Ac bl bm;⟨b6,[I 6,Sb d.text,Sb ([]:Bts),I 0,Cx (((0,0):Nat×Nat)),.slice none 0 0,I d.at_],[Sl b8 e.2.marks b9,I e.2.at_,I e.2.why,I e.2.where_,I e.2.l.text,I e.2.l.funcs,I e.2.l.arity,I e.2.l.nest,I e.2.nest],rfl,Ho (T3 (Mo [1,21] ax) ai aj bm) b1,(Ab (x:=(AB.mk 6 d.text ([]:Bts) 0 ((0,0):Nat×Nat) [] d.at_)) Bz),c6,(AN (x:=e.2) c7)⟩
 refine WC.skip<|Sr<|Vx (Fd FU rfl)<|have cb:=Y2 b4 ai aj;Vx (Ld B1 rfl (Bc cb rfl))<|Vx (Fd LL rfl)<|Vx (Ld CH rfl (Bc cb rfl))<|Vx (v:=Ag [I 7,Sb d.text,Sb ([]:Bts),I 0,Cx (((0,0):Nat×Nat)),.slice none 0 0,I d.at_]) (Bp CB Jp rfl (.cons rfl rfl rfl (.cons rfl rfl rfl (.cons rfl rfl rfl .nil))))<|Ef<|AX b6 22 CB rfl fun cc fh ay c8 az=>Eu<|St DB c8 rfl rfl rfl rfl fun c9 da a0=>AA<|Aa<|Ad<|Bh (fun ad ap ae=>∃af o h a1 a2 p m q r u w y z f ag ah,ap=Env.puts af [(0,Pt l 0),(4,Pt bk 0),(5,Pt ay 0)]∧Be ac d ad h p m q r u w y z f=some aw∧AT [1,22,23,25] cc c9 o ae∧Slc Ac o.F ae (Sl a1 h a2) h∧Own AJ 56 o ae 25 (Sl ag f ah) f∧Bk o ae 1 l [Sl a1 h a2,I p,I m,I q,I r,I u,I w,I y,I z] 126∧Bk o ae 22 ay [I 7,Sb d.text,Sb ([]:Bts),I 0,Cx (((0,0):Nat×Nat)),Sl ag f ah,I d.at_] 56) b0 ?_ ?_
 refine have db:=K2 Ac bl az a0;have dc:=Y2 b7 az a0;⟨_,cc,e.2.marks,b8,b9,e.2.at_,e.2.why,e.2.where_,e.2.l.text,e.2.l.funcs,e.2.l.arity,e.2.l.nest,e.2.nest,([]:List AB),none,0,Pu,a,(AT.refl [1,22,23,25] _ _),db,Own.nil,dc,da⟩
 rintro ad _ ae ⟨af,o,h,a1,a2,p,m,q,r,u,w,y,z,f,ag,ah,rfl,a,bn,a3,bo,aq,bp⟩
 rcases ad with _|ad
 exact A3 a
 refine have a:Ce ac d (Be ac d ad) h p m q r u w y z f=some aw:=a; ?_
 obtain ⟨cd,cf⟩:∃s,s=Be ac d ad:=⟨_,rfl⟩
 rw [←cf,Ce] at a
 refine Aa<|Am (fun ap ar=>∃af ak bq,ap=Env.puts af [(0,Pt l 0),(4,Pt bk 0),(5,Pt ay 0),(29,.bool bq)]∧DS ac d h p m q r u w y z f cd bq=some aw∧AT [] o ae ak ar) ?_ ?_
 refine AL<|Vm<|Vx (Nc rfl)<|Vx (Fd I1 rfl)<|Vx (Ld CH rfl (Bc aq rfl))<|Vr (.bool (m==0))<|Vm<|Bo a (fun aa a=>?_) fun aa a=>?_
 refine Gm aa<|Bi a fun cg de a=>CC (.guard (t:=true) (b:=true) rfl rfl rfl rfl (Cb aa)) rfl rfl (Cg [Pt l 0,Sb ([41]:Bts)] rfl)<|Calls.mono (Cv o ae de dcd dcd aq (AN (x:=(AD.mk h p m q (Ae.mk r u w y) z)) a3)) ?_
 rintro _ fi ⟨df,rfl,dg⟩
 refine ⟨_,rfl,?_⟩
 refine Gr aa (.bool (!cg))<|Vp aa<|AA<|⟨_,df,(!cg),Pu,a,(Mo [] dg)⟩
 refine Pg aa<|Pg aa<|Pg aa<|Vp aa<|AA<|⟨_,o,false,Pu,a,Rf⟩
 rintro _ ar ⟨af,ak,bq,rfl,a,g⟩
 rw [DS] at a
 refine Cn a (fun dh a=>?_) fun dh a=>?_
 refine WC.skip<|Ad<|Am (fun ap au=>∃af av al br bt a4 a5 a6 a7 a8 a9 ba bb,ap=Env.puts af [(0,Pt l 0),(4,Pt bk 0),(5,Pt ay 0)]∧DR ac f cd al a4 a5 a6 a7 a8 a9 ba bb=some aw∧AT [1] ak ar av au∧Slc Ac av.F au (Sl br al bt) al∧Bk av au 1 l [Sl br al bt,I a4,I a5,I a6,I a7,I a8,I a9,I ba,I bb] 126) ?_ ?_
 refine Sr<|Vx (Fd Bl rfl)<|have di:=Bs bp g;Vx (Ld EC rfl (Bc di rfl))<|have dj:=Os bo g; ?_
 obtain ⟨fj,fk,dk⟩:=Own.len dj
 refine Vx (v:=I (f.length:Int)) (Ll Cp dk)<|Vr (.bool (decide ((f.length:Int)>0)))<|AA<|Cn a (fun dl a=>?_) fun dl a=>?_
 refine AL<|Vm<|have dm:=Bs aq g;have dn:=Ss Ac a3 g;Bi a fun ab dp a=>Ca (Cg [Pt l 0,Sb ([44]:Bts)] rfl) (BP ak ar dp dcd dcd dm (AN (x:=(AD.mk h p m q (Ae.mk r u w y) z)) dn)) ?_
 rintro _ fl ⟨dq,fm,rfl,dr,ds,dt⟩
 obtain ⟨du,dv,rfl,ch⟩:=E1 (AW dt)
 refine AA<|⟨_,dq,ab.marks,du,dv,ab.at_,ab.why,ab.where_,ab.l.text,ab.l.funcs,ab.l.arity,ab.l.nest,ab.nest,Pu,a,(Mo [1] dr),ch,ds⟩
 refine WC.skip<|have dw:=Ss Ac a3 g;have dx:=Bs aq g;⟨_,ak,h,a1,a2,p,m,q,r,u,w,y,z,Pu,a,(AT.refl [1] _ _),dw,dx⟩
 rintro _ au ⟨af,av,al,br,bt,a4,a5,a6,a7,a8,a9,ba,bb,rfl,a,bu,dy,dz⟩
 rw [DR] at a
 refine Sr<|Vm<|Bi a fun c d0 a=>Ca (Cg [Pt l 0] rfl) (co.ref04_reader_expr av au d0 dcd dcd dz (AN (x:=(AD.mk al a4 a5 a6 (Ae.mk a7 a8 a9 ba) bb)) dy)) ?_
 rintro _ fo ⟨d1,fp,fq,rfl,bv,d2,d3,d4⟩
 obtain ⟨bc,bd,rfl,ci⟩:=E1 (Ak d2)
 obtain ⟨d5,d6,rfl,cj⟩:=E1 (AW d4)
 refine Ef<|AX d1 23 CB rfl fun d7 ft fu d8 am=>have d9:=Ss AJ ci am;Eu<|St DB d8 rfl rfl rfl rfl fun fv ea an=>AA<|AL<|Vx (Fd Bl rfl)<|have ck:=Bs (Y4 bp g bu bv am) an;Vx (Ld EC rfl (Bc ck rfl))<|Vx (Lx A8 rfl rfl (Bw ea))<|Ef<|Ba (cs:=[I c.1.op,Sb c.1.name,Sb c.1.tail,I c.1.type_,Cx c.1.num,Sl bc c.1.args bd,I c.1.at_]) d7 24 [[I c.1.op,Sb c.1.name,Sb c.1.tail,I c.1.type_,Cx c.1.num,Sl bc c.1.args bd,I c.1.at_]] Cp CB rfl rfl (.cons rfl rfl rfl .nil) rfl fun eb ec ed ee ao=>have ef:=K2 AJ d9 an ao;have eg:Own AJ 56 eb ec 24 (.slice (some ⟨ed,0,none⟩) 1 1) ([c.1]:List AB):=Own.lit (css:=[[I c.1.op,Sb c.1.name,Sb c.1.tail,I c.1.type_,Cx c.1.num,Sl bc c.1.args bd,I c.1.at_]]) ee rfl rfl rfl (AQ (Ab (x:=c.1) ef) As) (Av rfl B4) rfl;have eh:=Os (Os (Os (Os (Os (Os bo g) bu) bv) am) an) ao;Bi a fun fw cl a=>Ef<|Ay (κ:=AJ) rfl rfl eh dcd YD (BF eg) (B3 cl) (B5 cl) fun fx ei fy bw be=>?_
 obtain ⟨bx,bz,rfl⟩:=Own.len bw
 refine Vx (Fd Bl rfl)<|have ej:=Y2 ck ao be;Eu<|A9 (vs:=[Sl bx ((f++([c.1]:List AB))) bz]) (cs':=[I 7,Sb d.text,Sb ([]:Bts),I 0,Cx (((0,0):Nat×Nat)),Sl bx ((f++([c.1]:List AB))) bz,I d.at_]) So rfl rfl rfl rfl (AP (Own.one bw) BO) ej dcd rfl rfl fun fz ek bf=>AA<|have el:=Ss Ac (K4 Ac cj am an ao be) bf;have em:=Os bw bf;have en:=Bs (Y4 d3 am an ao be) bf;⟨ad,Nat.lt_succ_self ad,_,ei,c.2.marks,d5,d6,c.2.at_,c.2.why,c.2.where_,c.2.l.text,c.2.l.funcs,c.2.l.arity,c.2.l.nest,c.2.nest,(f++([c.1]:List AB)),bx,bz,Pu,(cf▸a),(T4 (T4 (Mo [1,22,23,25] bn) g bu bv am) an ao be bf),el,em,en,ek⟩
 refine BZ<|Sr<|Vm<|have eo:=Bs aq g;have ep:=Ss Ac a3 g;Bi a fun n eq a=>Ca (Cg [Pt l 0,Sb ([41]:Bts)] rfl) (BP ak ar eq dcd dcd eo (AN (x:=(AD.mk h p m q (Ae.mk r u w y) z)) ep)) ?_
 rintro _ f0 ⟨f1,f2,rfl,bg,er,es⟩
 obtain ⟨et,eu,rfl,cm⟩:=E1 (AW es)
 refine AA<|Sr<|have ew:=Y2 bp g bg;Vx (Lx A8 rfl rfl (Bw ew))<|have ex:=Y2 (Y4 b5 aj az a0 bn) g bg;have cn:=Os (Os bo g) bg;Eu<|A9 (vs:=[I 7,Sb d.text,Sb ([]:Bts),I 0,Cx (((0,0):Nat×Nat)),Sl ag f ah,I d.at_]) (cs':=[I 7,Sb d.text,Sb ([]:Bts),I 0,Cx (((0,0):Nat×Nat)),Sl ag f ah,I d.at_]) DB rfl rfl rfl rfl (AP rfl (AP rfl (AP rfl (AP rfl (AP rfl (AP (Own.one cn) (AP rfl BO))))))) ex dcd rfl rfl fun f4 ey bh=>AA<|AY<|have ez:=Os cn bh; ?_
 obtain ⟨e0,bi,e1⟩:=Own.freeze (S:=[25]) ez dcd dcd
 obtain rfl:=AO a
 refine have e2:=Bs ey bi;O1 B b3 rfl (.agg A8 rfl rfl (Bw e2))<|have e3:=Y2 er bh bi;have e4:=K2 Ac cm bh bi;⟨e0,[I 7,Sb d.text,Sb ([]:Bts),I 0,Cx (((0,0):Nat×Nat)),Sl ag f ah,I d.at_],[Sl et n.marks eu,I n.at_,I n.why,I n.where_,I n.l.text,I n.l.funcs,I n.l.arity,I n.l.nest,I n.nest],rfl,Ho (Tn (T4 (T4 (Mo [1,21,22,23,25] ax) ai aj az a0) bn g bg bh) bi) b1,(Ab (x:=(AB.mk 7 d.text ([]:Bts) 0 ((0,0):Nat×Nat) f d.at_)) e1),e3,(AN (x:=n) e4)⟩
theorem Nt(c:AC)(e:Nat)(h:AC.Good c):ref04_reader_named.Spec (Cj c e):=lk1 (Ns c e h)
theorem AC.good:∀d,AC.Good (AC.at d)
 |0=>⟨by intro a c;intros;(try intro _);intros;exact A3 (by assumption),by intro a c;intros;(try intro _);intros;exact A3 (by assumption),by intro a c;intros;(try intro _);intros;exact A3 (by assumption),by intro a c;intros;(try intro _);intros;exact A3 (by assumption),by intro a c;intros;(try intro _);intros;exact A3 (by assumption),by intro a c;intros;(try intro _);intros;exact A3 (by assumption),by intro a c;intros;(try intro _);intros;exact A3 (by assumption),by intro a c;intros;(try intro _);intros;exact A3 (by assumption),by intro a c;intros;(try intro _);intros;exact A3 (by assumption)⟩
 |n+1=>⟨OH _ n (AC.good n),OJ _ n (AC.good n),Nr _ n (AC.good n),M1 _ n (AC.good n),OM _ n (AC.good n),Ov _ n (AC.good n),OO _ n (AC.good n),OQ _ n (AC.good n),Nt _ n (AC.good n)⟩
theorem Ow(a:Nat):ref04_reader_expr.Spec (ref04_reader_expr a):=(AC.good a).ref04_reader_expr
def Cs.At(G1 G2:Prop)(e:Col)(a:World)(f:AD→Int→Option (AE×AD))(g:Nat):Prop:=
 ∀{h m n o l},f m o=some l→G1→G2→Bk e a g h n 126→BG.rep e.F a n m→
  Calls PG 74 #[Pt h 0,I o] a fun r c=>∃d p q,r=.returned (Ag p)∧AT [g] e a d c∧AH.rep d.F c p l.1∧Bk d c g h q 126∧BG.rep d.F c q l.2
def Cs.Spec(f:AD→Int→Option (AE×AD)):Prop:=
 ∀c d {a},Cs.At ([a].Nodup) (0∉[a]) c d f a
end Fth
