/- Part 3 of the proof: what it says holds of the given program; no condition. -/
import Derived.Test.YtiodboehkcmdnaaGreatProg
import Derived.KernelRfl
import Derived.Test.YtiodboehkcmdnaaGreatGB
set_option linter.all false
set_option exponentiation.threshold 3000
namespace Fth
open Go Go.Proofs Sh
set_option maxRecDepth 100000
set_option maxHeartbeats 8000000
noncomputable abbrev PG:Program:=Tryz.prog
def HB:Kd Al:=Wc 89 90
theorem Cj{F:Nat→Prop}{a:World}{c hv tv:Value}{x:Al}(d:Slc Kd.cpx F a c x.plain.list)(e:MTh 89 90 F a hv x.head)(f:MTh 89 90 F a tv x.tail):HB.rep F a [I x.plain.type_,Cx x.plain.num,.bool x.plain.bool,c,hv,tv] x:=⟨_,_,_,rfl,d,e,f⟩
theorem DR{F:Nat→Prop}{a:World}{cs:List Value}{x:Al}(h:HB.rep F a cs x):∃c hv tv,cs=[I x.plain.type_,Cx x.plain.num,.bool x.plain.bool,c,hv,tv]∧Slc Kd.cpx F a c x.plain.list∧MTh 89 90 F a hv x.head∧MTh 89 90 F a tv x.tail:=h
abbrev Eg:=kt (PG.follows .mixedOrders)
abbrev Jz:=kt (Mm PG 111 2)
abbrev IG:=kt (Mm PG 159 4)
abbrev AAS:=kt (Mm PG 24 3)
abbrev Gl:=kt (Mm PG 28 1)
abbrev DX:=kt (Mm PG 38 4)
abbrev Pi:=kt (Mm PG 40 9)
abbrev BA:=kt (Mm PG 56 7)
abbrev Lc:=kt (Mm PG 58 11)
abbrev KZ:=kt (Mm PG 63 2)
abbrev X5:=kt (Mm PG 76 4)
abbrev Wf:=kt (Mm PG 87 3)
abbrev Jl:=kt (Mm PG 96 6)
theorem PF:PG.underlying 22=some (.slice 5)∧PG.underlying 5=some (.int .u8)∧PG.underlying 9=some .string:=by exact ⟨by kernel_rfl,by kernel_rfl,by kernel_rfl⟩
theorem Wg:PG.underlying 145=some (.float .f64)∧PG.underlying 3=some (.int .i64):=by exact ⟨by kernel_rfl,by kernel_rfl⟩
theorem AAT{ρ:Env}{a:World}{d:Option Nat}{ty:Nat}{pos:String}{af:Array Edge}{g:Option (Nat×Bool)}{x:Operand}{xs:List Operand}{vs caps:List Value}{ts:Array Nat}(hx:ev ρ x=.func (.func 52) #[] caps.toArray)(hv:xs.map (ev ρ)=vs):
 (execOp (ev ρ) ⟨d,.call {callee:=.value x,args:=xs.toArray,argTypes:=ts},ty,pos,af,g⟩).run PG a=.ok (.enter 52 (vs++caps).toArray) a:=Run.enterV Tryz.func52 rfl dcd hx hv
theorem SX{ρ:Env}{a:World}{d:Option Nat}{ty:Nat}{pos:String}{af:Array Edge}{g:Option (Nat×Bool)}{x:Operand}{xs:List Operand}{vs caps:List Value}{ts:Array Nat}(hx:ev ρ x=.func (.func 79) #[] caps.toArray)(hv:xs.map (ev ρ)=vs):
 (execOp (ev ρ) ⟨d,.call {callee:=.value x,args:=xs.toArray,argTypes:=ts},ty,pos,af,g⟩).run PG a=.ok (.enter 79 (vs++caps).toArray) a:=Run.enterV Tryz.func79 rfl dcd hx hv
theorem AAU{ρ:Env}{a:World}{d:Option Nat}{ty:Nat}{pos:String}{af:Array Edge}{g:Option (Nat×Bool)}{x:Operand}{xs:List Operand}{vs caps:List Value}{ts:Array Nat}(hx:ev ρ x=.func (.func 81) #[] caps.toArray)(hv:xs.map (ev ρ)=vs):
 (execOp (ev ρ) ⟨d,.call {callee:=.value x,args:=xs.toArray,argTypes:=ts},ty,pos,af,g⟩).run PG a=.ok (.enter 81 (vs++caps).toArray) a:=Run.enterV Tryz.func81 rfl dcd hx hv
theorem AAV{ρ:Env}{a:World}{d:Option Nat}{ty:Nat}{pos:String}{af:Array Edge}{g:Option (Nat×Bool)}{x:Operand}{xs:List Operand}{vs caps:List Value}{ts:Array Nat}(hx:ev ρ x=.func (.func 84) #[] caps.toArray)(hv:xs.map (ev ρ)=vs):
 (execOp (ev ρ) ⟨d,.call {callee:=.value x,args:=xs.toArray,argTypes:=ts},ty,pos,af,g⟩).run PG a=.ok (.enter 84 (vs++caps).toArray) a:=Run.enterV Tryz.func84 rfl dcd hx hv
theorem AAW{ρ:Env}{a:World}{d:Option Nat}{ty:Nat}{pos:String}{af:Array Edge}{g:Option (Nat×Bool)}{x:Operand}{xs:List Operand}{vs caps:List Value}{ts:Array Nat}(hx:ev ρ x=.func (.func 85) #[] caps.toArray)(hv:xs.map (ev ρ)=vs):
 (execOp (ev ρ) ⟨d,.call {callee:=.value x,args:=xs.toArray,argTypes:=ts},ty,pos,af,g⟩).run PG a=.ok (.enter 85 (vs++caps).toArray) a:=Run.enterV Tryz.func85 rfl dcd hx hv
theorem AAX{ρ:Env}{a:World}{d:Option Nat}{ty:Nat}{pos:String}{af:Array Edge}{g:Option (Nat×Bool)}{x:Operand}{xs:List Operand}{vs caps:List Value}{ts:Array Nat}(hx:ev ρ x=.func (.func 86) #[] caps.toArray)(hv:xs.map (ev ρ)=vs):
 (execOp (ev ρ) ⟨d,.call {callee:=.value x,args:=xs.toArray,argTypes:=ts},ty,pos,af,g⟩).run PG a=.ok (.enter 86 (vs++caps).toArray) a:=Run.enterV Tryz.func86 rfl dcd hx hv
theorem AAY{ρ:Env}{a:World}{d:Option Nat}{ty:Nat}{pos:String}{af:Array Edge}{g:Option (Nat×Bool)}{x:Operand}{xs:List Operand}{vs caps:List Value}{ts:Array Nat}(hx:ev ρ x=.func (.func 89) #[] caps.toArray)(hv:xs.map (ev ρ)=vs):
 (execOp (ev ρ) ⟨d,.call {callee:=.value x,args:=xs.toArray,argTypes:=ts},ty,pos,af,g⟩).run PG a=.ok (.enter 89 (vs++caps).toArray) a:=Run.enterV Tryz.func89 rfl dcd hx hv
theorem AAZ{ρ:Env}{a:World}{d:Option Nat}{ty:Nat}{pos:String}{af:Array Edge}{g:Option (Nat×Bool)}{x:Operand}{xs:List Operand}{vs caps:List Value}{ts:Array Nat}(hx:ev ρ x=.func (.func 90) #[] caps.toArray)(hv:xs.map (ev ρ)=vs):
 (execOp (ev ρ) ⟨d,.call {callee:=.value x,args:=xs.toArray,argTypes:=ts},ty,pos,af,g⟩).run PG a=.ok (.enter 90 (vs++caps).toArray) a:=Run.enterV Tryz.func90 rfl dcd hx hv
theorem W6:Elt PG (Kd.int .i64) 114 3 8:=⟨by kernel_rfl,by kernel_rfl,⟨I 0,by kernel_rfl,by kernel_rfl⟩,by decide⟩
theorem W7:Elt PG Ac 121 159 48:=⟨by kernel_rfl,by kernel_rfl,⟨.agg #[I 0,.string ⟨#[]⟩,.complex .f64 0 0,I 0],by kernel_rfl,by kernel_rfl⟩,by decide⟩
theorem P7:Elt PG Am 149 63 16:=⟨by kernel_rfl,by kernel_rfl,⟨.agg #[I 0,I 0],by kernel_rfl,by kernel_rfl⟩,by decide⟩
theorem Uw:Elt PG F1 181 184 104:=⟨by kernel_rfl,by kernel_rfl,⟨.agg #[I 0,.string ⟨#[]⟩,.string ⟨#[]⟩,I 0,.complex .f64 0 0,.slice none 0 0,I 0,.bool false],by kernel_rfl,by kernel_rfl⟩,by decide⟩
theorem X6:Elt PG Kd.u8 22 5 1:=⟨by kernel_rfl,by kernel_rfl,⟨.int .u8 0,by kernel_rfl,by kernel_rfl⟩,by decide⟩
theorem HK:Elt PG AI 26 58 152:=⟨by kernel_rfl,by kernel_rfl,⟨.agg #[.string ⟨#[]⟩,.slice none 0 0,I 0,I 0,.string ⟨#[]⟩,.string ⟨#[]⟩,I 0,.complex .f64 0 0,.slice none 0 0,I 0,I 0],by kernel_rfl,by kernel_rfl⟩,by decide⟩
theorem X7:Elt PG A1 29 38 56:=⟨by kernel_rfl,by kernel_rfl,⟨.agg #[I 0,.complex .f64 0 0,.bool false,.slice none 0 0],by kernel_rfl,by kernel_rfl⟩,by decide⟩
theorem X8:Elt PG Kd.cpx 36 35 16:=⟨by kernel_rfl,by kernel_rfl,⟨.complex .f64 0 0,by kernel_rfl,by kernel_rfl⟩,by decide⟩
theorem Pj:Elt PG Aa 52 87 32:=⟨by kernel_rfl,by kernel_rfl,⟨.agg #[.string ⟨#[]⟩,I 0,I 0],by kernel_rfl,by kernel_rfl⟩,by decide⟩
theorem Wi:Elt PG AJ 54 56 96:=⟨by kernel_rfl,by kernel_rfl,⟨.agg #[I 0,.string ⟨#[]⟩,.string ⟨#[]⟩,I 0,.complex .f64 0 0,.slice none 0 0,I 0],by kernel_rfl,by kernel_rfl⟩,by decide⟩
theorem Ux:Elt PG DK 68 9 16:=⟨by kernel_rfl,by kernel_rfl,⟨.string ⟨#[]⟩,by kernel_rfl,by kernel_rfl⟩,by decide⟩
abbrev Lu:=kt (F0 PG 111 0 0)
abbrev Kl:=kt (F0 PG 111 1 1)
abbrev Xe:=kt (F0 PG 126 0 0)
abbrev GL:=kt (F0 PG 126 1 1)
abbrev Iz:=kt (F0 PG 126 2 2)
abbrev UV:=kt (F0 PG 126 3 3)
abbrev Qh:=kt (F0 PG 126 4 4)
abbrev NQ:=kt (F0 PG 126 5 8)
abbrev UW:=kt (F0 PG 134 0 0)
abbrev Qi:=kt (F0 PG 134 1 1)
abbrev FS:=kt (F0 PG 134 2 2)
abbrev Xf:=kt (F0 PG 134 3 3)
abbrev Km:=kt (F0 PG 159 0 0)
abbrev FT:=kt (F0 PG 159 1 1)
abbrev UX:=kt (F0 PG 159 2 2)
abbrev LI:=kt (F0 PG 159 3 3)
abbrev Xg:=kt (F0 PG 184 0 0)
abbrev Xh:=kt (F0 PG 184 1 7)
abbrev X9:=kt (F0 PG 24 0 0)
abbrev Vn:=kt (F0 PG 24 1 1)
abbrev YA:=kt (F0 PG 24 2 2)
abbrev EA:=kt (F0 PG 28 0 0)
abbrev I7:=kt (F0 PG 38 0 0)
abbrev Hp:=kt (F0 PG 38 1 1)
abbrev Ka:=kt (F0 PG 38 2 2)
abbrev EU:=kt (F0 PG 38 3 3)
abbrev L7:=kt (F0 PG 40 0 0)
abbrev P8:=kt (F0 PG 40 1 1)
abbrev P9:=kt (F0 PG 40 2 5)
abbrev DW:=kt (F0 PG 56 0 0)
abbrev EV:=kt (F0 PG 56 1 1)
abbrev NR:=kt (F0 PG 56 2 2)
abbrev K0:=kt (F0 PG 56 3 3)
abbrev YB:=kt (F0 PG 56 4 4)
abbrev Bh:=kt (F0 PG 56 5 5)
abbrev L8:=kt (F0 PG 56 6 6)
abbrev L9:=kt (F0 PG 58 0 0)
abbrev Eh:=kt (F0 PG 58 1 1)
abbrev NS:=kt (F0 PG 58 2 2)
abbrev Mb:=kt (F0 PG 58 3 3)
abbrev Vo:=kt (F0 PG 58 4 10)
abbrev Mc:=kt (F0 PG 63 0 0)
abbrev OY:=kt (F0 PG 63 1 1)
abbrev QA:=kt (F0 PG 76 0 0)
abbrev YC:=kt (F0 PG 76 1 1)
abbrev YD:=kt (F0 PG 76 2 2)
abbrev YE:=kt (F0 PG 76 3 3)
abbrev SY:=kt (F0 PG 83 0 0)
abbrev YF:=kt (F0 PG 83 1 1)
abbrev OZ:=kt (F0 PG 83 2 2)
abbrev YG:=kt (F0 PG 83 3 3)
abbrev MA:=kt (F0 PG 87 0 0)
abbrev NT:=kt (F0 PG 87 1 1)
abbrev Vq:=kt (F0 PG 87 2 2)
abbrev YH:=kt (F0 PG 93 0 0)
abbrev Vs:=kt (F0 PG 93 1 1)
abbrev YI:=kt (F0 PG 93 2 2)
abbrev YJ:=kt (F0 PG 96 0 0)
abbrev Oa:=kt (F0 PG 96 1 4)
abbrev Vt:=kt (F0 PG 96 2 5)
abbrev Uy:=kt (Vj PG 90)
abbrev Qj:=kt (RF PG 159 0 0)
abbrev Xi:=kt (RF PG 159 3 3)
abbrev YK:=kt (RF PG 38 1 1)
abbrev YL:=kt (RF PG 38 2 2)
abbrev SZ:=kt (RF PG 63 0 0)
abbrev Sa:=kt (W2 PG 96 0 0 4)
theorem ZV:(PG.info? 33).map (·.zero)=some (some (I 0)):=by kernel_rfl
abbrev Ko:=kt (Wb PG 81 3)
theorem ZW:PG.underlying 22=some (.slice 5)∧PG.underlying 5=some (.int .u8):=by exact ⟨by kernel_rfl,by kernel_rfl⟩
theorem JR:(PG.info? 111).map (·.size)=some 2:=by kernel_rfl
theorem Uz:(PG.info? 157).map (·.size)=some 1:=by kernel_rfl
theorem G7:(PG.info? 159).map (·.size)=some 4:=by kernel_rfl
theorem ZX:(PG.info? 169).map (·.size)=some 1:=by kernel_rfl
theorem AAa:(PG.info? 26).map (·.size)=some 1:=by kernel_rfl
theorem EZ:(PG.info? 28).map (·.size)=some 1:=by kernel_rfl
theorem Md:(PG.info? 3).map (·.size)=some 1:=by kernel_rfl
theorem Wj:(PG.info? 34).map (·.size)=some 1:=by kernel_rfl
theorem AAb:(PG.info? 35).map (·.size)=some 1:=by kernel_rfl
theorem YM:(PG.info? 36).map (·.size)=some 1:=by kernel_rfl
theorem GO:(PG.info? 38).map (·.size)=some 4:=by kernel_rfl
theorem M7:(PG.info? 40).map (·.size)=some 9:=by kernel_rfl
theorem Ob:(PG.info? 52).map (·.size)=some 1:=by kernel_rfl
theorem U0:(PG.info? 53).map (·.size)=some 1:=by kernel_rfl
theorem Qk:(PG.info? 54).map (·.size)=some 1:=by kernel_rfl
theorem CV:(PG.info? 56).map (·.size)=some 7:=by kernel_rfl
theorem LD:(PG.info? 58).map (·.size)=some 11:=by kernel_rfl
theorem G6:(PG.info? 63).map (·.size)=some 2:=by kernel_rfl
theorem AAc:(PG.info? 76).map (·.size)=some 4:=by kernel_rfl
theorem AAd:(PG.info? 80).map (·.size)=some 1:=by kernel_rfl
theorem AAe:(PG.info? 81).map (·.size)=some 1:=by kernel_rfl
theorem Wk:(PG.info? 87).map (·.size)=some 3:=by kernel_rfl
theorem W8:(PG.info? 9).map (·.size)=some 1:=by kernel_rfl
theorem AAf:(PG.info? 90).map (·.size)=some 1:=by kernel_rfl
theorem JM:(PG.info? 96).map (·.size)=some 6:=by kernel_rfl
abbrev ZY:=kt (K8 PG 121)
abbrev KJ:=kt (K8 PG 130)
abbrev ZZ:=kt (K8 PG 132)
abbrev PH:=kt (K8 PG 157)
abbrev QB:=kt (K8 PG 169)
abbrev AAg:=kt (K8 PG 22)
abbrev GP:=kt (K8 PG 26)
abbrev CD:=kt (K8 PG 3)
abbrev LE:=kt (K8 PG 33)
abbrev EB:=kt (K8 PG 34)
abbrev Hq:=kt (K8 PG 35)
abbrev In:=kt (K8 PG 36)
abbrev N2:=kt (K8 PG 4)
abbrev Mf:=kt (K8 PG 5)
abbrev E0:=kt (K8 PG 52)
abbrev Hr:=kt (K8 PG 53)
abbrev EC:=kt (K8 PG 54)
abbrev Ql:=kt (K8 PG 80)
abbrev Oc:=kt (K8 PG 81)
abbrev YN:=kt (K8 PG 85)
abbrev CS:=kt (K8 PG 9)
abbrev Od:=kt (K8 PG 90)
theorem Nf:plc PG 111=some [(0,1),(1,1)]:=by kernel_rfl
theorem Za:plc PG 126=some [(0,1),(1,1),(2,1),(3,1),(4,4),(8,1)]:=by kernel_rfl
theorem Zb:plc PG 134=some [(0,1),(1,1),(2,1),(3,1)]:=by kernel_rfl
theorem U1:plc PG 159=some [(0,1),(1,1),(2,1),(3,1)]:=by kernel_rfl
theorem W9:plc PG 184=some [(0,7),(7,1)]:=by kernel_rfl
theorem Tb.p24:plc PG 24=some [(0,1),(1,1),(2,1)]:=by kernel_rfl
theorem KF:plc PG 28=some [(0,1)]:=by kernel_rfl
theorem Jm:plc PG 38=some [(0,1),(1,1),(2,1),(3,1)]:=by kernel_rfl
theorem Qm:plc PG 40=some [(0,1),(1,4),(5,1),(6,1),(7,1),(8,1)]:=by kernel_rfl
theorem Jn:plc PG 56=some [(0,1),(1,1),(2,1),(3,1),(4,1),(5,1),(6,1)]:=by kernel_rfl
theorem Wm:plc PG 58=some [(0,1),(1,1),(2,1),(3,7),(10,1)]:=by kernel_rfl
theorem MF:plc PG 63=some [(0,1),(1,1)]:=by kernel_rfl
theorem AAh:plc PG 76=some [(0,1),(1,1),(2,1),(3,1)]:=by kernel_rfl
theorem AAi:plc PG 83=some [(0,1),(1,1),(2,1),(3,1)]:=by kernel_rfl
theorem Qn:plc PG 87=some [(0,1),(1,1),(2,1)]:=by kernel_rfl
theorem Qo:plc PG 93=some [(0,1),(1,1),(2,1)]:=by kernel_rfl
theorem M8:plc PG 96=some [(0,4),(4,1),(5,1)]:=by kernel_rfl
abbrev SD:=kt (NM PG 114 3 1)
abbrev U2:=kt (NM PG 121 159 4)
abbrev M2:=kt (NM PG 149 63 2)
abbrev QC:=kt (NM PG 181 184 8)
abbrev Hs:=kt (NM PG 22 5 1)
abbrev DY:=kt (NM PG 26 58 11)
abbrev KG:=kt (NM PG 29 38 4)
abbrev IH:=kt (NM PG 36 35 1)
abbrev ED:=kt (NM PG 52 87 3)
abbrev C9:=kt (NM PG 54 56 7)
abbrev H8:=kt (NM PG 68 9 1)
theorem YO:PG.underlying 33=some (.int .i64):=by kernel_rfl
theorem JP:PG.underlying 9=some .string:=by kernel_rfl
theorem AAj:PG.underlying 4=some .bool:=by kernel_rfl
theorem Zc{ρ:Env}{a:World}{d:Option Nat}{ty:Nat}{pos:String}{af:Array Edge}{g:Option (Nat×Bool)}{xs:List Operand}{vs:List Value}{v:Value}{ts:Array Nat}(hv:xs.map (ev ρ)=vs)(hr:((Extern.MathFloor.toIntegral "math.archTrunc" .zero) vs.toArray).run PG a= .ok v a):
 (execOp (ev ρ) ⟨d,.call {callee:= .value (.func 135),args:=xs.toArray,argTypes:=ts},ty,pos,af,g⟩).run PG a= .ok (.value v) a:=Run.ext Tryz.func135 (by kernel_rfl) dcd (by kernel_rfl) (show Extern.find Tryz.f135=some (Extern.MathFloor.toIntegral "math.archTrunc" .zero) by kernel_rfl) hv hr
theorem Qq{ρ:Env}{a:World}{d:Option Nat}{ty:Nat}{pos:String}{af:Array Edge}{g:Option (Nat×Bool)}{xs:List Operand}{vs:List Value}{v:Value}{ts:Array Nat}(hv:xs.map (ev ρ)=vs)(hr:(Extern.MathFloatBits.float64frombits vs.toArray).run PG a=.ok v a):
 (execOp (ev ρ) ⟨d,.call {callee:=.value (.func 63),args:=xs.toArray,argTypes:=ts},ty,pos,af,g⟩).run PG a=.ok (.value v) a:=Run.ext Tryz.func63 (by kernel_rfl) dcd (by kernel_rfl) (show Extern.find Tryz.f63=some Extern.MathFloatBits.float64frombits by kernel_rfl) hv hr
theorem Oe{ρ:Env}{a:World}{d:Option Nat}{ty:Nat}{pos:String}{af:Array Edge}{g:Option (Nat×Bool)}{xs:List Operand}{vs:List Value}{v:Value}{ts:Array Nat}(hv:xs.map (ev ρ)=vs)(hr:(Extern.MathFloatBits.float64bits vs.toArray).run PG a=.ok v a):
 (execOp (ev ρ) ⟨d,.call {callee:=.value (.func 93),args:=xs.toArray,argTypes:=ts},ty,pos,af,g⟩).run PG a=.ok (.value v) a:=Run.ext Tryz.func93 (by kernel_rfl) dcd (by kernel_rfl) (show Extern.find Tryz.f93=some Extern.MathFloatBits.float64bits by kernel_rfl) hv hr
theorem I8:(PG.info? 111).map (·.zero)=some (some (.agg #[I 0,I 0])):=by kernel_rfl
theorem Zd:(PG.info? 126).map (·.zero)=some (some (.agg #[.slice none 0 0,I 0,I 0,I 0,I 0,I 0,I 0,I 0,I 0])):=by kernel_rfl
theorem Ze:(PG.info? 134).map (·.zero)=some (some (.agg #[.map none,.slice none 0 0,.slice none 0 0,.nilFunc])):=by kernel_rfl
theorem Gs:(PG.info? 159).map (·.zero)=some (some (.agg #[I 0,.string ⟨#[]⟩,.complex .f64 0 0,I 0])):=by kernel_rfl
theorem Zf:(PG.info? 169).map (·.zero)=some (some .nilFunc):=by kernel_rfl
theorem SE:(PG.info? 184).map (·.zero)=some (some (.agg #[I 0,.string ⟨#[]⟩,.string ⟨#[]⟩,I 0,.complex .f64 0 0,.slice none 0 0,I 0,.bool false])):=by kernel_rfl
theorem AAk:(PG.info? 24).map (·.zero)=some (some (.agg #[.slice none 0 0,.string ⟨#[]⟩,.string ⟨#[]⟩])):=by kernel_rfl
theorem DS:(PG.info? 28).map (·.zero)=some (some (.agg #[.slice none 0 0])):=by kernel_rfl
theorem ABU:(PG.info? 3).map (·.zero)=some (some (I 0)):=by kernel_rfl
theorem YP:(PG.info? 35).map (·.zero)=some (some (.complex .f64 0 0)):=by kernel_rfl
theorem FU:(PG.info? 38).map (·.zero)=some (some (.agg #[I 0,.complex .f64 0 0,.bool false,.slice none 0 0])):=by kernel_rfl
theorem Mg:(PG.info? 40).map (·.zero)=some (some (.agg #[I 0,I 0,.complex .f64 0 0,.bool false,.slice none 0 0,I 0,I 0,I 0,I 0])):=by kernel_rfl
theorem YQ:(PG.info? 5).map (·.zero)=some (some (.int .u8 0)):=by kernel_rfl
theorem By:(PG.info? 56).map (·.zero)=some (some (.agg #[I 0,.string ⟨#[]⟩,.string ⟨#[]⟩,I 0,.complex .f64 0 0,.slice none 0 0,I 0])):=by kernel_rfl
theorem Fs:(PG.info? 58).map (·.zero)=some (some (.agg #[.string ⟨#[]⟩,.slice none 0 0,I 0,I 0,.string ⟨#[]⟩,.string ⟨#[]⟩,I 0,.complex .f64 0 0,.slice none 0 0,I 0,I 0])):=by kernel_rfl
theorem E3:(PG.info? 63).map (·.zero)=some (some (.agg #[I 0,I 0])):=by kernel_rfl
theorem YR:(PG.info? 76).map (·.zero)=some (some (.agg #[I 0,I 0,I 0,I 0])):=by kernel_rfl
theorem AAl:(PG.info? 80).map (·.zero)=some (some (.pointer none)):=by kernel_rfl
theorem AAm:(PG.info? 81).map (·.zero)=some (some (.map none)):=by kernel_rfl
theorem AAn:(PG.info? 83).map (·.zero)=some (some (.agg #[.map none,.slice none 0 0,I 0,I 0])):=by kernel_rfl
theorem Lf:(PG.info? 87).map (·.zero)=some (some (.agg #[.string ⟨#[]⟩,I 0,I 0])):=by kernel_rfl
theorem PV:(PG.info? 9).map (·.zero)=some (some (.string ⟨#[]⟩)):=by kernel_rfl
theorem Qr:(PG.info? 93).map (·.zero)=some (some (.agg #[.string ⟨#[]⟩,.nilFunc,.pointer none])):=by kernel_rfl
theorem Kb:(PG.info? 96).map (·.zero)=some (some (.agg #[I 0,.complex .f64 0 0,.bool false,.slice none 0 0,.nilFunc,.nilFunc])):=by kernel_rfl
theorem AAo:(PG.info? 5).map (·.zero)=some (some (.int .u8 0)):=by kernel_rfl
theorem Xj(e f:Value)(d:World):
  CallsD PG 32 [e,f].toArray .returning d fun g u' l=>(∃v,g=.returned v)∧u'=.returning∧l=d:=by
 refine OU (rv:=.nilIface) (u1:=.returning) Tryz.func32 rfl Tryz.ntmps32 rfl (fun c cs h=>.inr ⟨Tt c cs h,rfl,rfl⟩) fun c cs K hu hK m n=>LS.recover (v:=.nilIface) (cs':=m) rfl (.none rfl) rfl rfl RL n<|LS.val rfl (.none rfl) rfl rfl (Tq YO ZV rfl)<|LS.val rfl (.none rfl) rfl rfl (v:=.tuple #[I 0,.bool false]) (Mv rfl)<|LS.val rfl (.none rfl) rfl rfl (v:=I 0) rfl<|LS.val rfl (.none rfl) rfl rfl (v:=.bool false) rfl<|LS.val rfl (.none rfl) rfl rfl (v:=I 0) (Run.assign rfl)<|LS.val rfl (.none rfl) rfl rfl (v:=.bool false) (Run.assign rfl)<|LS.nil fun a ha=>⟨rfl,_,ha,hK _ _ ?_⟩
 refine Sr<|Vm<|AA<|WC.cond (t:=false) rfl (fun h=>by cases h) fun h=>WC.skip<|⟨.tuple #[],fun tmps _=>by rw [Ls,show Tryz.f32.results=#[] from rfl];simp,⟨_,rfl⟩,rfl,rfl⟩
theorem RM(d:Col)(e:World)(l f:Nat)(o p:Int)(q:(Nat×Nat))(r:Bool)(s:Value)(u w z aa:Int)(m:Nat)(ab ac:Value)(g ad y:Int)(ae:Bk d e 24 l [Pt m 0] 80)(af:Bk d e 21 f [I o,I p,Cx q,.bool r,s,I u,I w,I z,I aa] 40)(ag:Bk d e 23 m [ab,ac,I g,I ad] 83):
  CallsD PG 32 [Pt l 0,Pt f 0].toArray (.panicking [{v:=.iface 33 (I y),recovered:=false}]) e fun ah u' n=>(∃v,ah=.returned v)∧u'=.panicking [{v:=.iface 33 (I y),recovered:=true}]∧Bk d n 21 f [I y,I 0,Cx (((0,0):Nat×Nat)),.bool false,.slice none 0 0,I g,I 0,I 0,I 0] 40∧AS [21] d e d n:=by
 refine OU (rv:=(.iface 33 (I y))) (u1:=.panicking [{v:=.iface 33 (I y),recovered:=true}]) Tryz.func32 rfl Tryz.ntmps32 rfl (fun c cs h=>.inl (Uu c cs h)) fun c cs K hu hK ai aj=>LS.recover (v:=(.iface 33 (I y))) (cs':=ai) rfl (.none rfl) rfl rfl RL aj<|LS.val rfl (.none rfl) rfl rfl (Ts YO rfl)<|LS.val rfl (.none rfl) rfl rfl (v:=.tuple #[I y,.bool true]) (Mv rfl)<|LS.val rfl (.none rfl) rfl rfl (v:=I y) rfl<|LS.val rfl (.none rfl) rfl rfl (v:=.bool true) rfl<|LS.val rfl (.none rfl) rfl rfl (v:=I y) (Run.assign rfl)<|LS.val rfl (.none rfl) rfl rfl (v:=.bool true) (Run.assign rfl)<|LS.nil fun a ha=>⟨rfl,_,ha,hK _ _ ?_⟩
 refine Sr<|Vm<|AA<|WC.cond (t:=true) rfl (fun h=>?_) (fun h=>by cases h)
 refine AM<|Vm<|Vx (Ld Ql rfl (Bc ae rfl))<|Vx (Nc rfl)<|Vx (Fd OZ rfl)<|Vx (Ld CD rfl (Bc ag rfl))<|Vx (v:=Ag [I y,I 0,Cx (((0,0):Nat×Nat)),.bool false,.slice none 0 0,I g,I 0,I 0,I 0]) (Bp Mg Qm rfl (.cons rfl rfl rfl (.cons rfl rfl rfl .nil)))<|Eu<|St M7 af rfl rfl rfl rfl fun am ak al=>AA<|⟨.tuple #[],fun tmps _=>by rw [Ls,show Tryz.f32.results=#[] from rfl];simp,⟨_,rfl⟩,rfl,ak,(Mo [21] al)⟩
def Ju.At(h:Col)(a:World)(f:Option Ae):Prop:=
 ∀{c},f=some c→
  Calls PG 27 #[] a fun l d=>∃e g,l=.returned (Ag g)∧AS [] h a e d∧NZ.rep e.F d g c
def Ju.Spec(f:Option Ae):Prop:=
 ∀a c,Ju.At a c f
theorem Se(a:Col)(d:World)(e:∀b,a b<10):Ju.At a d Ju:=by
 intro o c
 rw [Ju] at c
 refine Ay Tryz.func27 rfl Tryz.ntmps27 rfl fun B f p=>Sr<|Ef<|AU a 20 YR rfl fun g q r h l=>AA<|Sr<|Vx (v:=Ag [I 32768,I 32768,I 32768,I 32768]) (Bp YR AAh rfl (.cons rfl rfl rfl (.cons rfl rfl rfl (.cons rfl rfl rfl (.cons rfl rfl rfl .nil)))))<|Eu<|St AAc h rfl rfl rfl rfl fun s m n=>AA<|AW ?_
 obtain rfl:=AN c
 refine O1 B f rfl (.agg X5 rfl rfl (Bw m))<|⟨g,[I 32768,I 32768,I 32768,I 32768],rfl,Ho (Tn (Mo [20] l) n) e,(E7 (x:=(Ae.mk 32768 32768 32768 32768)))⟩
theorem K1:Ju.Spec Ju:=lk0 (Se)
def HU.At(e:Col)(a:World)(f:UInt8→Option Bool):Prop:=
 ∀{c d},f c=some d→
  Calls PG 71 #[U8 c] a fun g h=>∃l,g=.returned (.bool d)∧AS [] e a l h
def HU.Spec(f:UInt8→Option Bool):Prop:=
 ∀a c,HU.At a c f
theorem RW(c:Col)(m:World)(p:∀b,c b<10):HU.At c m HU:=by
 intro g q a
 rw [HU] at a
 refine Ay Tryz.func71 rfl Tryz.ntmps71 rfl fun B r w=>Sr<|Va (.bool false)<|AA<|An (fun s n=>∃o h l,s=Env.puts o [(2,.bool l)]∧IV l=some q∧AS [] c m h n) ?_ ?_
 refine AM<|Vm<|Vr (.bool ((g.toNat:Int)==((9:UInt8).toNat:Int)))<|Vm<|Bo a (fun d a=>?_) fun d a=>?_
 refine Pg d<|Pg d<|Vp d<|Vm<|Pg rfl<|Pg rfl<|Vr (.bool true)<|Vm<|Pg rfl<|Pg rfl<|Vr (.bool true)<|Va (.bool true)<|AA<|⟨_,c,true,Pu,a,Rf⟩
 refine Gm d<|Gr d (.bool ((g.toNat:Int)==((10:UInt8).toNat:Int)))<|Vp d<|Vm<|Bo a (fun e a=>?_) fun e a=>?_
 refine Pg e<|Pg e<|Vp e<|Vm<|Pg rfl<|Pg rfl<|Vr (.bool true)<|Va (.bool true)<|AA<|⟨_,c,true,Pu,a,Rf⟩
 refine Gm e<|Gr e (.bool ((g.toNat:Int)==((13:UInt8).toNat:Int)))<|Vp e<|Vm<|Bo a (fun f a=>?_) fun f a=>?_
 refine Pg f<|Pg f<|Vp f<|Va (.bool true)<|AA<|⟨_,c,true,Pu,a,Rf⟩
 refine Gm f<|Gr f (.bool ((g.toNat:Int)==((32:UInt8).toNat:Int)))<|Vp f<|Va (.bool ((g.toNat:Int)==((32:UInt8).toNat:Int)))<|AA<|⟨_,c,((g.toNat:Int)==((32:UInt8).toNat:Int)),Pu,a,Rf⟩
 rintro _ n ⟨o,h,l,rfl,a,u⟩
 rw [IV] at a
 refine AW ?_
 obtain rfl:=AN a
 refine O1 B r rfl (.tmp rfl)<|⟨h,rfl,Ho (Mo [] u) p⟩
theorem Sf:HU.Spec HU:=lk0 (RW)
def GW.At(e:Col)(a:World)(f:UInt8→Option Bool):Prop:=
 ∀{c d},f c=some d→
  Calls PG 128 #[U8 c] a fun g h=>∃l,g=.returned (.bool d)∧AS [] e a l h
def GW.Spec(f:UInt8→Option Bool):Prop:=
 ∀a c,GW.At a c f
theorem Qs(e:Col)(n:World)(q:∀b,e b<10):GW.At e n GW:=by
 intro d r a
 rw [GW] at a
 refine Ay Tryz.func128 rfl Tryz.ntmps128 rfl fun B s y=>Sr<|Va (.bool false)<|AA<|An (fun u o=>∃p l m,u=Env.puts p [(2,.bool m)]∧Gw m=some r∧AS [] e n l o) ?_ ?_
 refine AM<|Vm<|Vr (.bool (decide ((d.toNat:Int)≥((65:UInt8).toNat:Int))))<|Vm<|Bo a (fun f a=>?_) fun f a=>?_
 refine Gm f<|Gr f (.bool (decide ((d.toNat:Int)≤((90:UInt8).toNat:Int))))<|Vp f<|Vm<|Bo a (fun c a=>?_) fun c a=>?_
 refine Pg c<|Pg c<|Pg c<|Po<|Po<|Pg c<|Vp c<|Va (.bool true)<|AA<|⟨_,e,true,Pu,a,Rf⟩
 refine Gm c<|Gr c (.bool (decide ((d.toNat:Int)≥((97:UInt8).toNat:Int))))<|Gm c<|Bo a (fun g a=>?_) fun g a=>?_
 refine Gm g<|Gr g (.bool (decide ((d.toNat:Int)≤((122:UInt8).toNat:Int))))<|Gp c g<|Vp c<|Va (.bool (decide ((d.toNat:Int)≤((122:UInt8).toNat:Int))))<|AA<|⟨_,e,(decide ((d.toNat:Int)≤((122:UInt8).toNat:Int))),Pu,a,Rf⟩
 refine Pg g<|Pg g<|Gp c g<|Vp c<|Va (.bool false)<|AA<|⟨_,e,false,Pu,a,Rf⟩
 refine Pg f<|Pg f<|Vp f<|Vm<|Gm rfl<|Gr rfl (.bool (decide ((d.toNat:Int)≥((97:UInt8).toNat:Int))))<|Gm rfl<|Bo a (fun h a=>?_) fun h a=>?_
 refine Gm h<|Gr h (.bool (decide ((d.toNat:Int)≤((122:UInt8).toNat:Int))))<|Gp rfl h<|Vr (.bool (decide ((d.toNat:Int)≤((122:UInt8).toNat:Int))))<|Va (.bool (decide ((d.toNat:Int)≤((122:UInt8).toNat:Int))))<|AA<|⟨_,e,(decide ((d.toNat:Int)≤((122:UInt8).toNat:Int))),Pu,a,Rf⟩
 refine Pg h<|Pg h<|Gp rfl h<|Vr (.bool false)<|Va (.bool false)<|AA<|⟨_,e,false,Pu,a,Rf⟩
 rintro _ o ⟨p,l,m,rfl,a,w⟩
 rw [Gw] at a
 refine AW ?_
 obtain rfl:=AN a
 refine O1 B s rfl (.tmp rfl)<|⟨l,rfl,Ho (Mo [] w) q⟩
theorem RX:GW.Spec GW:=lk0 (Qs)
def Gy.At(e:Col)(a:World)(f:UInt8→Option Bool):Prop:=
 ∀{c d},f c=some d→
  Calls PG 98 #[U8 c] a fun g h=>∃l,g=.returned (.bool d)∧AS [] e a l h
def Gy.Spec(f:UInt8→Option Bool):Prop:=
 ∀a c,Gy.At a c f
theorem RY(d:Col)(h:World)(n:∀b,d b<10):Gy.At d h Gy:=by
 intro e o a
 rw [Gy] at a
 refine Ay Tryz.func98 rfl Tryz.ntmps98 rfl fun B p s=>Sr<|Va (.bool false)<|AA<|An (fun q l=>∃m f g,q=Env.puts m [(2,.bool g)]∧KL g=some o∧AS [] d h f l) ?_ ?_
 refine AM<|Vm<|Vr (.bool (decide ((e.toNat:Int)≥((48:UInt8).toNat:Int))))<|Vm<|Bo a (fun c a=>?_) fun c a=>?_
 refine Gm c<|Gr c (.bool (decide ((e.toNat:Int)≤((57:UInt8).toNat:Int))))<|Vp c<|Va (.bool (decide ((e.toNat:Int)≤((57:UInt8).toNat:Int))))<|AA<|⟨_,d,(decide ((e.toNat:Int)≤((57:UInt8).toNat:Int))),Pu,a,Rf⟩
 refine Pg c<|Pg c<|Vp c<|Va (.bool false)<|AA<|⟨_,d,false,Pu,a,Rf⟩
 rintro _ l ⟨m,f,g,rfl,a,r⟩
 rw [KL] at a
 refine AW ?_
 obtain rfl:=AN a
 refine O1 B p rfl (.tmp rfl)<|⟨f,rfl,Ho (Mo [] r) n⟩
theorem Of:Gy.Spec Gy:=lk0 (RY)
def IS.At(c:Col)(a:World)(f:Bts→Int→Option Int):Prop:=
 ∀{d v0 e g},f d e=some g→Slc Kd.u8 c.F a v0 d→
  Calls PG 97 #[v0,I e] a fun h l=>∃m,h=.returned (I g)∧AS [] c a m l
def IS.Spec(f:Bts→Int→Option Int):Prop:=
 ∀a c,IS.At a c f
theorem Tu(ag:Nat)(q:Col)(ah:World)(av:∀b,q b<10):IS.At q ah (IS ag):=by
 intro h v0 g y a ai
 rw [IS] at a
 obtain ⟨aj,ak,rfl⟩:=AR ai
 refine Ay Tryz.func97 rfl Tryz.ntmps97 rfl fun B aw a8=>Sr<|Va (I 0)<|AA<|Sr<|Va (I 0)<|AA<|AY<|Ad<|Bj (fun l z n=>∃o m f,z=Env.puts o [(0,Sl aj h ak),(1,I g),(5,I f)]∧Eb h g l f=some y∧AS [] q ah m n) ag ?_ ?_
 exact ⟨_,q,0,Pu,a,Rf⟩
 rintro l _ n ⟨o,m,f,rfl,a,aa⟩
 rcases l with _|l
 exact A6 a
 refine have a:GR h g (Eb h g l) f=some y:=a; ?_
 obtain ⟨ax,al⟩:∃s,s=Eb h g l:=⟨_,rfl⟩
 rw [←al,GR] at a
 refine AY<|An (fun z am=>∃o r ab,z=Env.puts o [(0,Sl aj h ak),(1,I g),(5,I f),(38,.bool ab)]∧GX f ax ab=some y∧AS [] m n r am) ?_ ?_
 refine AM<|Vm<|Vm<|Vr (I (Wr (g+f)))<|Vm<|have an:=Ss Kd.u8 ai aa; ?_
 obtain ⟨a9,ba,ay⟩:=AR an
 refine Vx (v:=I (h.length:Int)) (Ll Hs ay)<|Vr (.bool (decide ((Wr (g+f))< (h.length:Int))))<|Vm<|Bo a (fun c a=>?_) fun c a=>?_
 refine Gm c<|Gm c<|Gm c<|Gr c (I (Wr (g+f)))<|Bi a fun p az a=>?_
 obtain ⟨a0,a1,bb,ao,ac,ad,ae,a2,u⟩:=BG (κ:=Kd.u8) an az
 replace u:A3 m n a0 (a1+((Wr (g+f))).toNat*1) ao:=u
 obtain rfl:=(show ao=[U8 p] from a2)
 refine Gx c (Ix Hs ac rfl ad ae)<|Gx c (Ld Mf rfl (A3.cell0 u rfl))<|Bi a fun bc a3 a=>B7 (.guard (t:=true) (b:=true) rfl rfl rfl rfl (Cb c)) rfl rfl (Cg [U8 p] rfl)<|Calls.mono (RX m n a3) ?_
 rintro _ a4 ⟨ap,rfl,w⟩
 refine ⟨_,rfl,?_⟩
 refine Gm c<|Bo a (fun d a=>?_) fun d a=>?_
 refine Pg d<|Pg d<|Pg d<|Pg d<|Pg d<|Pg d<|Pg d<|Gp c d<|Gm c<|Pg rfl<|Pg rfl<|Pg rfl<|Pg rfl<|Pg rfl<|Pg rfl<|Pg rfl<|Gr c (.bool true)<|Vp c<|AA<|⟨_,ap,true,Pu,a,(Mo [] w)⟩
 refine Gm d<|Gm d<|Gm d<|Gr d (I (Wr (g+f)))<|Gx d (Ix Hs ac rfl ad ae)<|have aq:=Es u w;Gx d (Ld Mf rfl (A3.cell0 aq rfl))<|Bi a fun bd a5 a=>B7 (.guard (t:=false) (b:=false) rfl rfl rfl rfl (Cb d)) rfl rfl (Cg [U8 p] rfl)<|Calls.mono (Of ap a4 a5) ?_
 rintro _ be ⟨ar,rfl,af⟩
 refine ⟨_,rfl,?_⟩
 refine Gp c d<|Gm c<|Bo a (fun e a=>?_) fun e a=>?_
 refine Pg e<|Pg e<|Pg e<|Pg e<|Pg e<|Pg e<|Pg e<|Gp c e<|Vp c<|AA<|⟨_,ar,true,Pu,a,(Tn (Mo [] w) af)⟩
 refine Gm e<|Gm e<|Gm e<|Gr e (I (Wr (g+f)))<|Gx e (Ix Hs ac rfl ad ae)<|have a6:=Es aq af;Gx e (Ld Mf rfl (A3.cell0 a6 rfl))<|Gr e (.bool ((p.toNat:Int)==((95:UInt8).toNat:Int)))<|Gp c e<|Vp c<|AA<|⟨_,ar,((p.toNat:Int)==((95:UInt8).toNat:Int)),Pu,a,(Tn (Mo [] w) af)⟩
 refine Pg c<|Pg c<|Pg c<|Pg c<|Pg c<|Pg c<|Pg c<|Pg c<|Po<|Po<|Po<|Po<|Po<|Po<|Po<|Pg c<|Pg c<|Po<|Po<|Po<|Po<|Po<|Po<|Po<|Pg c<|Vp c<|AA<|⟨_,m,false,Pu,a,Rf⟩
 rintro _ am ⟨o,r,ab,rfl,a,au⟩
 rw [GX] at a
 refine Cn a (fun a7 a=>?_) fun a7 a=>?_
 refine WC.skip<|Ad<|AM<|Vm<|Vr (I (Wr (f+1)))<|Va (I (Wr (f+1)))<|AA<|⟨l,Nat.lt_succ_self l,_,r,(Wr (f+1)),Pu,(al▸a),(Tn (Mo [] aa) au)⟩
 refine BZ<|Sr<|Vm<|Va (I f)<|AA<|AW ?_
 obtain rfl:=AN a
 refine O1 B aw rfl (.tmp rfl)<|⟨r,rfl,Ho (Tn (Mo [] aa) au) av⟩
theorem U3(c:Nat):IS.Spec (IS c):=lk0 (Tu c)
def El.At(e:Col)(c:World)(f:Bts→Option (Int×Int)):Prop:=
 ∀{d a},f d=some a→
  Calls PG 107 #[Sb d] c fun g h=>∃l,g=.returned (.tuple #[I a.1,I a.2])∧AS [] e c l h
def El.Spec(f:Bts→Option (Int×Int)):Prop:=
 ∀a c,El.At a c f
theorem RZ(y:Nat)(r:Col)(ac:World)(an:∀b,r b<10):El.At r ac (El y):=by
 intro d u a
 rw [El] at a
 refine Ay Tryz.func107 rfl Tryz.ntmps107 rfl fun B ao a7=>Sr<|Va (I 0)<|Va (I 0)<|AA<|Sr<|Va (I 0)<|AA<|An (fun n ad=>∃e z f,n=Env.puts e [(0,Sb d),(4,I f)]∧IW y d f=some u∧AS [] r ac z ad) ?_ ?_
 refine An (fun n ap=>∃e aa ae,n=Env.puts e [(0,Sb d),(4,I 0),(14,.bool ae)]∧HV y d ae=some u∧AS [] r ac aa ap) ?_ ?_
 refine AM<|Vm<|Vx (v:=I (d.length:Int)) (Run.lenStr JP rfl)<|Vr (.bool (decide ((d.length:Int)>0)))<|Vm<|Bo a (fun o a=>?_) fun o a=>?_
 refine Gm o<|Bi a fun af ax a=>Gx o (v:=U8 af) (Run.indexBs JP rfl rfl ax)<|Gr o (.bool ((af.toNat:Int)==((45:UInt8).toNat:Int)))<|Vp o<|AA<|⟨_,r,((af.toNat:Int)==((45:UInt8).toNat:Int)),Pu,a,Rf⟩
 refine Pg o<|Pg o<|Pg o<|Vp o<|AA<|⟨_,r,false,Pu,a,Rf⟩
 rintro _ ap ⟨e,aa,ae,rfl,a,aq⟩
 rw [HV] at a
 refine Cn a (fun ay a=>?_) fun ay a=>?_
 refine AM<|Va (I 1)<|AA<|⟨_,aa,1,Pu,a,(Mo [] aq)⟩
 refine WC.skip<|⟨_,aa,0,Pu,a,(Mo [] aq)⟩
 rintro _ ad ⟨e,z,f,rfl,a,ar⟩
 rw [IW] at a
 refine Sr<|Va (I 0)<|AA<|Sr<|Vm<|Va (I f)<|AA<|AY<|Ad<|Bj (fun p n ag=>∃e w c g,n=Env.puts e [(0,Sb d),(4,I f),(5,I c),(6,I g)]∧EJ d f p c g=some u∧AS [] z ad w ag) y ?_ ?_
 exact ⟨_,z,0,f,Pu,a,Rf⟩
 rintro p _ ag ⟨e,w,c,g,rfl,a,ah⟩
 rcases p with _|p
 exact A6 a
 refine have a:E8 d f (EJ d f p) c g=some u:=a; ?_
 obtain ⟨az,au⟩:∃s,s=EJ d f p:=⟨_,rfl⟩
 rw [←au,E8] at a
 refine AY<|An (fun n ai=>∃e q aj,n=Env.puts e [(0,Sb d),(4,I f),(5,I c),(6,I g),(31,.bool aj)]∧Ek d f c g az aj=some u∧AS [] w ag q ai) ?_ ?_
 refine AM<|Vm<|Vm<|Vx (v:=I (d.length:Int)) (Run.lenStr JP rfl)<|Vr (.bool (decide (g< (d.length:Int))))<|Vm<|Bo a (fun h a=>?_) fun h a=>?_
 refine Gm h<|Gm h<|Bi a fun av a0 a=>Gx h (v:=U8 av) (Run.indexBs JP rfl rfl a0)<|Gr h (.bool (decide ((av.toNat:Int)≥((48:UInt8).toNat:Int))))<|Vp h<|Vm<|Bo a (fun l a=>?_) fun l a=>?_
 refine Gm l<|Gm l<|Bi a fun ak a1 a=>Gx l (v:=U8 ak) (Run.indexBs JP rfl rfl a1)<|Gr l (.bool (decide ((ak.toNat:Int)≤((57:UInt8).toNat:Int))))<|Vp l<|AA<|⟨_,w,(decide ((ak.toNat:Int)≤((57:UInt8).toNat:Int))),Pu,a,Rf⟩
 refine Pg l<|Pg l<|Pg l<|Pg l<|Vp l<|AA<|⟨_,w,false,Pu,a,Rf⟩
 refine Pg h<|Pg h<|Pg h<|Pg h<|Vp h<|Vm<|Pg rfl<|Pg rfl<|Pg rfl<|Pg rfl<|Vr (.bool false)<|AA<|⟨_,w,false,Pu,a,Rf⟩
 rintro _ ai ⟨e,q,aj,rfl,a,al⟩
 rw [Ek] at a
 refine Cn a (fun a2 a=>?_) fun a2 a=>?_
 refine WC.skip<|Ad<|Sr<|Vm<|Vr (I (Wr (10*c)))<|Vm<|Vm<|Bi a fun m a3 a=>Vx (v:=U8 m) (Run.indexBs JP rfl rfl a3)<|Vx (v:=.int .u8 (((u8c ((m.toNat:Int) - ((48:UInt8).toNat:Int)))).toNat:Int)) (AAJ rfl)<|Vr (I (Wr (((u8c ((m.toNat:Int) - ((48:UInt8).toNat:Int)))).toNat:Int)))<|Vr (I (Wr ((Wr (10*c))+(Wr (((u8c ((m.toNat:Int) - ((48:UInt8).toNat:Int)))).toNat:Int)))))<|Vx (v:=I (if 16777217< (Wr ((Wr (10*c))+(Wr (((u8c ((m.toNat:Int) - ((48:UInt8).toNat:Int)))).toNat:Int)))) then 16777217 else (Wr ((Wr (10*c))+(Wr (((u8c ((m.toNat:Int) - ((48:UInt8).toNat:Int)))).toNat:Int)))))) (Run.min rfl rfl)<|Va (I (if 16777217< (Wr ((Wr (10*c))+(Wr (((u8c ((m.toNat:Int) - ((48:UInt8).toNat:Int)))).toNat:Int)))) then 16777217 else (Wr ((Wr (10*c))+(Wr (((u8c ((m.toNat:Int) - ((48:UInt8).toNat:Int)))).toNat:Int))))))<|AA<|AM<|Vm<|Vr (I (Wr (g+1)))<|Va (I (Wr (g+1)))<|AA<|⟨p,Nat.lt_succ_self p,_,q,(if 16777217< (Wr ((Wr (10*c))+(Wr (((u8c ((m.toNat:Int) - ((48:UInt8).toNat:Int)))).toNat:Int)))) then 16777217 else (Wr ((Wr (10*c))+(Wr (((u8c ((m.toNat:Int) - ((48:UInt8).toNat:Int)))).toNat:Int))))),(Wr (g+1)),Pu,(au▸a),(Tn (Mo [] ah) al)⟩
 refine BZ<|AY<|Sr<|Vm<|Vm<|Vr (.bool (g==f))<|AA<|Cn a (fun a4 a=>?_) fun a4 a=>?_
 refine Sr<|Va (I 0)<|Va (I 0)<|AA<|AW ?_
 obtain rfl:=AN a
 refine O2 B ao rfl (.tmp rfl) (.tmp rfl)<|⟨q,rfl,Ho (T2 (Mo [] ar) ah al) an⟩
 refine WC.skip<|An (fun n aw=>∃e am ab,n=Env.puts e [(5,I ab),(6,I g)]∧LL g ab=some u∧AS [] q ai am aw) ?_ ?_
 refine Sr<|Vm<|Vr (.bool (f==1))<|AA<|Cn a (fun a5 a=>?_) fun a5 a=>?_
 refine AM<|Vm<|Vr (I (Wr (0 - c)))<|Va (I (Wr (0 - c)))<|AA<|⟨_,q,(Wr (0 - c)),Pu,a,Rf⟩
 refine WC.skip<|⟨_,q,c,Pu,a,Rf⟩
 rintro _ aw ⟨e,am,ab,rfl,a,a6⟩
 rw [LL] at a
 refine Sr<|Vm<|Vm<|Va (I ab)<|Va (I g)<|AA<|AW ?_
 obtain rfl:=AN a
 refine O2 B ao rfl (.tmp rfl) (.tmp rfl)<|⟨am,rfl,Ho (T3 (Mo [] ar) ah al a6) an⟩
theorem Og(c:Nat):El.Spec (El c):=lk0 (RZ c)
def HW.At(d:Col)(a:World)(f:Aj→Option (Aj×Int)):Prop:=
 ∀{e g c},f e=some c→LG.rep d.F a g e→
  Calls PG 108 #[Ag g] a fun n h=>∃l m,n=.returned (.tuple #[Ag m,I c.2])∧AS [] d a l h∧LG.rep l.F h m c.1
def HW.Spec(f:Aj→Option (Aj×Int)):Prop:=
 ∀a c,HW.At a c f
theorem U4(o:Col)(aa:World)(q:∀b,o b<10):HW.At o aa HW:=by
 intro c aq ab a ac
 rw [HW] at a
 obtain rfl:=HM ac
 refine Ay Tryz.func108 rfl Tryz.ntmps108 rfl fun B r ar=>Sr<|Ef<|BX o 20 rfl rfl fun ad au ae s u=>Ef<|AU ad 21 I8 rfl fun g af ag w l=>Va (I 0)<|AA<|AY<|An (fun ah y=>∃z m p,ah=Env.puts z [(1,Pt ae 0),(2,Pt ag 0),(21,.bool p)]∧Jq c p=some ab∧AS [] g af m y) ?_ ?_
 refine AM<|Vx (Fz Lu rfl)<|have n:=Bs s l;Vx (Ld CD rfl (Bc n rfl))<|Vr (.bool (decide (c.re< (-16777216:Int))))<|Vm<|Bo a (fun d a=>?_) fun d a=>?_
 refine Pg d<|Pg d<|Pg d<|Vp d<|Vm<|Pg rfl<|Pg rfl<|Pg rfl<|Vr (.bool true)<|Vm<|Pg rfl<|Pg rfl<|Pg rfl<|Vr (.bool true)<|AA<|⟨_,g,true,Pu,a,Rf⟩
 refine Gx d (Fz Lu rfl)<|Gx d (Ld CD rfl (Bc n rfl))<|Gr d (.bool (decide (c.re>16777216)))<|Vp d<|Vm<|Bo a (fun e a=>?_) fun e a=>?_
 refine Pg e<|Pg e<|Pg e<|Vp e<|Vm<|Pg rfl<|Pg rfl<|Pg rfl<|Vr (.bool true)<|AA<|⟨_,g,true,Pu,a,Rf⟩
 refine Gx e (Fd Kl rfl)<|Gx e (Ld CD rfl (Bc n rfl))<|Gr e (.bool (decide (c.im< (-16777216:Int))))<|Vp e<|Vm<|Bo a (fun f a=>?_) fun f a=>?_
 refine Pg f<|Pg f<|Pg f<|Vp f<|AA<|⟨_,g,true,Pu,a,Rf⟩
 refine Gx f (Fd Kl rfl)<|Gx f (Ld CD rfl (Bc n rfl))<|Gr f (.bool (decide (c.im>16777216)))<|Vp f<|AA<|⟨_,g,(decide (c.im>16777216)),Pu,a,Rf⟩
 rintro _ y ⟨z,m,p,rfl,a,h⟩
 rw [Jq] at a
 refine Cn a (fun ai a=>?_) fun ai a=>?_
 refine Sr<|Vx (v:=Ag [I 0,I 0]) (Bp I8 Nf rfl .nil)<|have aj:=Bs w h;Eu<|St JR aj rfl rfl rfl rfl fun av ak al=>Va (I 50)<|AA<|AW ?_
 obtain rfl:=AN a
 refine O2 B r rfl (.agg Jz rfl rfl (Bw ak)) (.tmp rfl)<|⟨m,[I 0,I 0],rfl,Ho (T3 (Mo [21] u) l h al) q,(FH (x:=(Aj.mk 0 0)))⟩
 refine WC.skip<|Sr<|have am:=Y2 s l h;Vx (Lx Jz rfl rfl (Bw am))<|have an:=Bs w h;Eu<|St JR an rfl rfl rfl rfl fun aw ao ap=>Va (I 0)<|AA<|AW ?_
 obtain rfl:=AN a
 refine O2 B r rfl (.agg Jz rfl rfl (Bw ao)) (.tmp rfl)<|⟨m,[I c.re,I c.im],rfl,Ho (T3 (Mo [21] u) l h ap) q,(FH (x:=c))⟩
theorem Vu:HW.Spec HW:=lk0 (U4)
def ref01_digits.At(e:Col)(a:World)(f:Int→Option Bts):Prop:=
 ∀{c d},f c=some d→
  Calls PG 134 #[I c] a fun g h=>∃l,g=.returned (Sb d)∧AS [] e a l h
def ref01_digits.Spec(f:Int→Option Bts):Prop:=
 ∀a c,ref01_digits.At a c f
structure A8.Good(a:A8):Prop where
 ref01_digits:ref01_digits.Spec a.ref01_digits
theorem Qt(m:A8)(w:Nat)(n:A8.Good m)(d:Col)(o:World)(p:∀b,d b<10):ref01_digits.At d o (DL m w):=by
 intro c y a
 rw [DL] at a
 refine Ay Tryz.func134 rfl Tryz.ntmps134 rfl fun B q aw=>Sr<|Va (Sb ([]:Bts))<|AA<|AY<|Sr<|Vm<|Vr (.bool (decide (c<0)))<|AA<|Cn a (fun z a=>?_) fun z a=>?_
 refine Sr<|Vm<|Vr (I (Wr (0 - c)))<|Bi a fun ax aa a=>Ca (Cg [I (Wr (0 - c))] rfl) (n.ref01_digits d o aa) ?_
 rintro _ ay ⟨ab,rfl,ac⟩
 refine Bi a fun r ad a=>Vx (v:=Sb r) (Run.strAdd rfl rfl ad)<|Va (Sb r)<|AA<|AW ?_
 obtain rfl:=AN a
 refine O1 B q rfl (.tmp rfl)<|⟨ab,rfl,Ho (Mo [] ac) p⟩
 refine WC.skip<|Sr<|Vm<|Bi a fun az ae a=>Vx (v:=I (c.tmod 10)) (Run.rem rfl rfl (W4 ae))<|Vr (I (Wr (48+(c.tmod 10))))<|Vx (v:=.int .u8 (((u8c (Wr (48+(c.tmod 10))))).toNat:Int)) (AAJ rfl)<|Ef<|Bf (cs:=[.int .u8 (((u8c (Wr (48+(c.tmod 10))))).toNat:Int)]) d 20 [[.int .u8 (((u8c (Wr (48+(c.tmod 10))))).toNat:Int)]] Hs YQ rfl rfl (.cons rfl rfl rfl .nil) rfl fun af f ag ah ai=>have aj:Own Kd.u8 5 af f 20 (.slice (some ⟨ag,0,none⟩) 1 1) ([(u8c (Wr (48+(c.tmod 10))))]:Bts):=Own.lit (css:=[[.int .u8 (((u8c (Wr (48+(c.tmod 10))))).toNat:Int)]]) ah rfl rfl rfl (AQ rfl Au) (Av rfl CP) rfl; ?_
 obtain ⟨g,ak,al⟩:=Own.freeze (S:=[20]) aj dcd dcd
 refine Vx (v:=Sb ([(u8c (Wr (48+(c.tmod 10))))]:Bts)) (Run.bytesStr PF rfl al)<|Va (Sb ([(u8c (Wr (48+(c.tmod 10))))]:Bts))<|AA<|An (fun am s=>∃u h e,am=Env.puts u [(3,Sb e)]∧K5 e=some y∧AS [] g f h s) ?_ ?_
 refine Sr<|Vm<|Vr (.bool (decide (c≥10)))<|AA<|Cn a (fun an a=>?_) fun an a=>?_
 refine AM<|Vm<|Bi a fun a0 ao a=>Vx (v:=I (Wr (c.tdiv 10))) (Run.quo rfl rfl (W4 ao))<|Bi a fun a1 ap a=>Ca (Cg [I (Wr (c.tdiv 10))] rfl) (n.ref01_digits g f ap) ?_
 rintro _ a2 ⟨aq,rfl,ar⟩
 refine Vm<|Bi a fun l au a=>Vx (v:=Sb l) (Run.strAdd rfl rfl au)<|Va (Sb l)<|AA<|⟨_,aq,l,Pu,a,(Mo [] ar)⟩
 refine WC.skip<|⟨_,g,([(u8c (Wr (48+(c.tmod 10))))]:Bts),Pu,a,Rf⟩
 rintro _ s ⟨u,h,e,rfl,a,av⟩
 rw [K5] at a
 refine Sr<|Vm<|Va (Sb e)<|AA<|AW ?_
 obtain rfl:=AN a
 refine O1 B q rfl (.tmp rfl)<|⟨h,rfl,Ho (T2 (Mo [20] ai) ak av) p⟩
theorem Qu(a:A8)(d:Nat)(f:A8.Good a):ref01_digits.Spec (DL a d):=lk0 (Qt a d f)
theorem A8.good:∀a,A8.Good (A8.at a)
 |0=>⟨by intro c d;intros;(try intro _);intros;exact A6 (by assumption)⟩
 |n+1=>⟨Qu _ n (A8.good n)⟩
theorem I0(a:Nat):ref01_digits.Spec (ref01_digits a):=(A8.good a).ref01_digits
def F2.At(c:Col)(a:World)(f:Aj→Option Bts):Prop:=
 ∀{d e g},f d=some g→LG.rep c.F a e d→
  Calls PG 109 #[Ag e] a fun h l=>∃m,h=.returned (Sb g)∧AS [] c a m l
def F2.Spec(f:Aj→Option Bts):Prop:=
 ∀a c,F2.At a c f
theorem Sg(f:Nat)(o:Col)(ae:World)(l:∀b,o b<10):F2.At o ae (F2 f):=by
 intro e bd be a af
 rw [F2] at a
 obtain rfl:=HM af
 refine Ay Tryz.func109 rfl Tryz.ntmps109 rfl fun B m d=>Sr<|Ef<|BX o 20 rfl rfl fun h r bf g n=>Va (Sb ([]:Bts))<|AA<|AY<|Ad<|Sr<|Vx (Fd Kl rfl)<|Vx (Ld CD rfl (Bc g rfl))<|Vr (.bool (e.im==0))<|Va (.bool (e.im==0))<|AA<|Cn a (fun ag a=>?_) fun ag a=>?_
 refine Sr<|Vx (Fz Lu rfl)<|Vx (Ld CD rfl (Bc g rfl))<|Bi a fun ah ai a=>Ca (Cg [I e.re] rfl) (I0 f h r ai) ?_
 rintro _ bg ⟨aj,rfl,ak⟩
 refine Va (Sb ah)<|AA<|AW ?_
 obtain rfl:=AN a
 refine O1 B m rfl (.tmp rfl)<|⟨aj,rfl,Ho (Tn (Mo [] n) ak) l⟩
 refine Sr<|Vx (Fz Lu rfl)<|Vx (Ld CD rfl (Bc g rfl))<|Vr (.bool (e.re==0))<|Va (.bool (e.re==0))<|AA<|Cn a (fun al a=>?_) fun al a=>?_
 refine Sr<|Vx (Fd Kl rfl)<|Vx (Ld CD rfl (Bc g rfl))<|Bi a fun bh am a=>Ca (Cg [I e.im] rfl) (I0 f h r am) ?_
 rintro _ bi ⟨an,rfl,ao⟩
 refine Bi a fun s ap a=>Vx (v:=Sb s) (Run.strAdd rfl rfl ap)<|Va (Sb s)<|AA<|AW ?_
 obtain rfl:=AN a
 refine O1 B m rfl (.tmp rfl)<|⟨an,rfl,Ho (Tn (Mo [] n) ao) l⟩
 refine Sr<|Vx (Fd Kl rfl)<|Vx (Ld CD rfl (Bc g rfl))<|Vr (.bool (decide (e.im>0)))<|Va (.bool (decide (e.im>0)))<|AA<|Cn a (fun aq a=>?_) fun aq a=>?_
 refine AY<|B8 Eg (.q 0 (.q 1 (.q 4 (.q 5 (.one 2 (.q 3 (.one 6 (qs 7 3 .nil)))))))) [] [] h (by kernel_rfl) fun ar u=>Qx d rfl (fun _ _=>Fz Lu rfl)<|have w:=Bs g u;Qx d rfl (fun _ ⟨_,c⟩=>Ld CD rfl (Bc (Bs w c) rfl))<|Qx d rfl (fun _ _=>Fd Kl rfl)<|Qx d rfl (fun _ ⟨_,c⟩=>Ld CD rfl (Bc (Bs w c) rfl))<|A5 rfl<|Bi a fun bj au a=>BM rfl (.none rfl) rfl rfl (Cg [I e.re] rfl)<|Calls.mono (I0 f h ar au) ?_
 rintro _ av ⟨aw,rfl,p⟩
 refine ⟨_,rfl,⟨_,(Mo [] p)⟩,?_⟩
 refine Bi a fun ax ay a=>Qx d rfl (v:=Sb ax) (fun _ _=>Run.strAdd rfl rfl ay)<|A5 rfl<|Bi a fun bk az a=>BM rfl (.none rfl) rfl rfl (Cg [I e.im] rfl)<|Calls.mono (I0 f aw av az) ?_
 rintro _ bl ⟨a0,rfl,y⟩
 refine ⟨_,rfl,⟨_,(Tn (Mo [] p) y)⟩,?_⟩
 refine Bi a fun a1 a2 a=>Qx d rfl (v:=Sb a1) (fun _ _=>Run.strAdd rfl rfl a2)<|Bi a fun z a3 a=>Qx d rfl (v:=Sb z) (fun _ _=>Run.strAdd rfl rfl a3)<|Qx d rfl (v:=Sb z) (fun _ _=>Run.assign rfl)<|Dt<|AW ?_
 obtain rfl:=AN a
 refine O1 B m rfl (.tmp rfl)<|⟨a0,rfl,Ho (T3 (Mo [] n) u p y) l⟩
 refine WC.skip<|AY<|B8 Eg (.q 0 (.q 1 (.q 3 (.q 4 (.one 2 (.one 5 (qs 6 3 .nil))))))) [] [] h (by kernel_rfl) fun a4 aa=>Qx d rfl (fun _ _=>Fz Lu rfl)<|have ab:=Bs g aa;Qx d rfl (fun _ ⟨_,c⟩=>Ld CD rfl (Bc (Bs ab c) rfl))<|Qx d rfl (fun _ _=>Fd Kl rfl)<|Qx d rfl (fun _ ⟨_,c⟩=>Ld CD rfl (Bc (Bs ab c) rfl))<|A5 rfl<|Bi a fun bm a5 a=>BM rfl (.none rfl) rfl rfl (Cg [I e.re] rfl)<|Calls.mono (I0 f h a4 a5) ?_
 rintro _ a6 ⟨a7,rfl,q⟩
 refine ⟨_,rfl,⟨_,(Mo [] q)⟩,?_⟩
 refine A5 rfl<|Bi a fun bn a8 a=>BM rfl (.none rfl) rfl rfl (Cg [I e.im] rfl)<|Calls.mono (I0 f a7 a6 a8) ?_
 rintro _ bo ⟨a9,rfl,ac⟩
 refine ⟨_,rfl,⟨_,(Tn (Mo [] q) ac)⟩,?_⟩
 refine Bi a fun ba bb a=>Qx d rfl (v:=Sb ba) (fun _ _=>Run.strAdd rfl rfl bb)<|Bi a fun ad bc a=>Qx d rfl (v:=Sb ad) (fun _ _=>Run.strAdd rfl rfl bc)<|Qx d rfl (v:=Sb ad) (fun _ _=>Run.assign rfl)<|Dt<|AW ?_
 obtain rfl:=AN a
 refine O1 B m rfl (.tmp rfl)<|⟨a9,rfl,Ho (T3 (Mo [] n) aa q ac) l⟩
theorem PW(c:Nat):F2.Spec (F2 c):=lk0 (Sg c)
def EX.At(l:Col)(c:World)(f:Bts→Option (Aj×Int)):Prop:=
 ∀{d a},f d=some a→
  Calls PG 75 #[Sb d] c fun m e=>∃g h,m=.returned (.tuple #[Ag h,I a.2])∧AS [] l c g e∧LG.rep g.F e h a.1
def EX.Spec(f:Bts→Option (Aj×Int)):Prop:=
 ∀a c,EX.At a c f
theorem Ra(l:Nat)(ah:Col)(a5:World)(ai:∀b,ah b<10):EX.At ah a5 (EX l):=by
 intro h aj a
 rw [EX] at a
 refine Ay Tryz.func75 rfl Tryz.ntmps75 rfl fun B ak b9=>Sr<|Ef<|AU ah 20 I8 rfl fun a6 a7 al am an=>Va (I 0)<|AA<|Sr<|Vm<|Bi a fun e a8 a=>Ca (Cg [Sb h] rfl) (Og l a6 a7 a8) ?_
 rintro _ ca ⟨ax,rfl,m⟩
 refine Vm<|Vr (I e.1)<|Vr (I e.2)<|Va (I e.1)<|Va (I e.2)<|AA<|AY<|Sr<|Vm<|Vr (.bool (e.2==0))<|AA<|Cn a (fun a9 a=>?_) fun a9 a=>?_
 refine Sr<|Vx (v:=Ag [I 0,I 0]) (Bp I8 Nf rfl .nil)<|have ba:=Bs am m;Eu<|St JR ba rfl rfl rfl rfl fun cb bb bc=>Va (I 10)<|AA<|AW ?_
 obtain rfl:=AN a
 refine O2 B ak rfl (.agg Jz rfl rfl (Bw bb)) (.tmp rfl)<|⟨ax,[I 0,I 0],rfl,Ho (T2 (Mo [20] an) m bc) ai,(FH (x:=(Aj.mk 0 0)))⟩
 refine WC.skip<|Sr<|Vm<|Vx (v:=Ag [I e.1,I 0]) (Bp I8 Nf rfl (.cons rfl rfl rfl .nil))<|Ef<|AU ax 21 I8 rfl fun n cc z bd aa=>Eu<|St JR bd rfl rfl rfl rfl fun ay ao ab=>AA<|Sr<|Vm<|Vm<|Bi a fun r be a=>Vx (v:=Sb r) (Run.sliceStr JP rfl ⟨_,rfl⟩ rfl be)<|Va (Sb r)<|AA<|An (fun s ac=>∃g ad c d,s=Env.puts g [(0,Sb h),(2,Pt al 0),(6,Pt z 0)]∧Fi l h c d=some aj∧AS [21] n ay ad ac∧Bk ad ac 21 z [I c,I d] 111) ?_ ?_
 refine Sr<|Vm<|Vx (v:=.bool (r==([105]:Bts))) (Run.strEq rfl rfl)<|AA<|Cn a (fun bf a=>?_) fun bf a=>?_
 refine AM<|Vm<|Vx (v:=Ag [I 0,I e.1]) (Bp I8 Nf rfl (.cons rfl rfl rfl .nil))<|Eu<|St JR ao rfl rfl rfl rfl fun cd bg bh=>AA<|⟨_,n,0,e.1,Pu,a,(Mo [21] bh),bg⟩
 refine Sr<|Vm<|Vx (v:=.bool (!(r==([]:Bts)))) (Run.strNe rfl rfl)<|AA<|Cn a (fun bi a=>?_) fun bi a=>?_
 refine An (fun s ap=>∃g aq ae,s=Env.puts g [(0,Sb h),(2,Pt al 0),(6,Pt z 0),(7,Sb ae)]∧HX l h e ae=some aj∧AS [] n ay aq ap) ?_ ?_
 refine Sr<|Vm<|Bi a fun az bj a=>Vx (v:=U8 az) (Run.indexBs JP rfl rfl bj)<|Vr (.bool ((az.toNat:Int)==((43:UInt8).toNat:Int)))<|AA<|Cn a (fun bk a=>?_) fun bk a=>?_
 refine AM<|Vm<|Bi a fun ar bl a=>Vx (v:=Sb ar) (Run.sliceStr JP rfl ⟨_,rfl⟩ rfl bl)<|Va (Sb ar)<|AA<|⟨_,n,ar,Pu,a,Rf⟩
 refine WC.skip<|⟨_,n,r,Pu,a,Rf⟩
 rintro _ ap ⟨g,aq,ae,rfl,a,a0⟩
 rw [HX] at a
 refine Sr<|Vm<|Bi a fun u bm a=>Ca (Cg [Sb ae] rfl) (Og l aq ap bm) ?_
 rintro _ cf ⟨bn,rfl,a1⟩
 refine Vm<|Vr (I u.1)<|Vr (I u.2)<|Va (I u.1)<|Va (I u.2)<|AA<|AM<|Vm<|Vx (Fd Kl rfl)<|have bo:=Y2 ao a0 a1;Eu<|St Md bo rfl rfl rfl rfl fun cg bp bq=>AA<|⟨_,bn,e.1,u.1,Pu,a,(T2 (Mo [21] a0) a1 bq),bp⟩
 refine WC.skip<|⟨_,n,e.1,0,Pu,a,(AS.refl [21] _ _),ao⟩
 rintro _ ac ⟨g,ad,c,d,rfl,a,af,au⟩
 rw [Fi] at a
 refine Sr<|Vx (Lx Jz rfl rfl (Bw au))<|Bi a fun w br a=>Ca (Cg [Ag [I c,I d]] rfl) (Vu ad ac br (FH (x:=(Aj.mk c d)))) ?_
 rintro _ ch ⟨bt,ci,rfl,o,bu⟩
 obtain rfl:=HM bu
 refine Vm<|Vr (Ag [I w.1.re,I w.1.im])<|Vr (I w.2)<|Ef<|AU bt 22 I8 rfl fun av cj ck bv p=>Eu<|St JR bv rfl rfl rfl rfl fun a2 cl q=>Va (I w.2)<|AA<|AY<|An (fun s a3=>∃g ag aw,s=Env.puts g [(2,Pt al 0),(6,Pt z 0),(55,.bool aw)]∧LM c d aw=some aj∧AS [] av a2 ag a3) ?_ ?_
 refine AM<|Vm<|Vr (.bool (w.2 != 0))<|Vm<|Bo a (fun f a=>?_) fun f a=>?_
 refine Pg f<|Pg f<|Pg f<|Pg f<|Vp f<|AA<|⟨_,av,true,Pu,a,Rf⟩
 refine have bw:=Y3 au o p q;Gx f (Lx Jz rfl rfl (Bw bw))<|Bi a fun a4 bx a=>B7 (.guard (t:=false) (b:=false) rfl rfl rfl rfl (Cb f)) rfl rfl (Cg [Ag [I c,I d]] rfl)<|Calls.mono (PW l av a2 bx (FH (x:=(Aj.mk c d)))) ?_
 rintro _ cm ⟨bz,rfl,b0⟩
 refine ⟨_,rfl,?_⟩
 refine Gm f<|Gx f (v:=.bool (!(a4==h))) (Run.strNe rfl rfl)<|Vp f<|AA<|⟨_,bz,(!(a4==h)),Pu,a,(Mo [] b0)⟩
 rintro _ a3 ⟨g,ag,aw,rfl,a,y⟩
 rw [LM] at a
 refine Cn a (fun b1 a=>?_) fun b1 a=>?_
 refine Sr<|Vx (v:=Ag [I 0,I 0]) (Bp I8 Nf rfl .nil)<|have b2:=Y4 (Y4 am m aa ab af) o p q y;Eu<|St JR b2 rfl rfl rfl rfl fun cn b3 b4=>Va (I 10)<|AA<|AW ?_
 obtain rfl:=AN a
 refine O2 B ak rfl (.agg Jz rfl rfl (Bw b3)) (.tmp rfl)<|⟨ag,[I 0,I 0],rfl,Ho (Tn (T4 (T4 (Mo [20,21,22] an) m aa ab af) o p q y) b4) ai,(FH (x:=(Aj.mk 0 0)))⟩
 refine WC.skip<|Sr<|have b5:=Y4 au o p q y;Vx (Lx Jz rfl rfl (Bw b5))<|have b6:=Y4 (Y4 am m aa ab af) o p q y;Eu<|St JR b6 rfl rfl rfl rfl fun co b7 b8=>Va (I 0)<|AA<|AW ?_
 obtain rfl:=AN a
 refine O2 B ak rfl (.agg Jz rfl rfl (Bw b7)) (.tmp rfl)<|⟨ag,[I c,I d],rfl,Ho (Tn (T4 (T4 (Mo [20,21,22] an) m aa ab af) o p q y) b8) ai,(FH (x:=(Aj.mk c d)))⟩
theorem Mh(c:Nat):EX.Spec (EX c):=lk0 (Ra c)
def F7.At(c:Col)(a:World)(f:Aj→Option (Nat×Nat)):Prop:=
 ∀{d e g},f d=some g→LG.rep c.F a e d→
  Calls PG 76 #[Ag e] a fun h l=>∃m,h=.returned (Cx g)∧AS [] c a m l
def F7.Spec(f:Aj→Option (Nat×Nat)):Prop:=
 ∀a c,F7.At a c f
theorem Rb(c:Col)(f:World)(g:∀b,c b<10):F7.At c f F7:=by
 intro a o p d h
 rw [F7] at d
 obtain rfl:=HM h
 refine Ay Tryz.func76 rfl Tryz.ntmps76 rfl fun B l q=>Sr<|Ef<|BX c 20 rfl rfl fun m r s e n=>Va (Cx (((0,0):Nat×Nat)))<|AA<|Sr<|Vx (Fz Lu rfl)<|Vx (Ld CD rfl (Bc e rfl))<|Vr (Fl (FloatKind.f64.nearest a.re))<|Vx (Fd Kl rfl)<|Vx (Ld CD rfl (Bc e rfl))<|Vr (Fl (FloatKind.f64.nearest a.im))<|Vx (v:=Cx (((FloatKind.f64.nearest a.re),(FloatKind.f64.nearest a.im)))) (Run.complex rfl rfl)<|Va (Cx (((FloatKind.f64.nearest a.re),(FloatKind.f64.nearest a.im))))<|AA<|AW ?_
 obtain rfl:=AN d
 refine O1 B l rfl (.tmp rfl)<|⟨m,rfl,Ho (Mo [] n) g⟩
theorem Mi:F7.Spec F7:=lk0 (Rb)
def I1.At(h:Col)(a:World)(f:Option (List Bts)):Prop:=
 ∀{c},f=some c→
  Calls PG 129 #[] a fun l d=>∃e g,l=.returned g∧AS [] h a e d∧Slc DK e.F d g c
def I1.Spec(f:Option (List Bts)):Prop:=
 ∀a c,I1.At a c f
theorem Rc(a:Col)(e:World)(f:∀b,a b<10):I1.At a e I1:=by
 intro s d
 rw [I1] at d
 refine Ay Tryz.func129 rfl Tryz.ntmps129 rfl fun B g u=>Sr<|Va (.slice none 0 0)<|AA<|Sr<|Ef<|Bf (cs:=[Sb ([66]:Bts),Sb ([76]:Bts),Sb ([78]:Bts),Sb ([99,97,115,101]:Bts),Sb ([99,111,110,106]:Bts),Sb ([101,108,115,101]:Bts),Sb ([102,97,105,108]:Bts),Sb ([102,97,108,115,101]:Bts),Sb ([105,102]:Bts),Sb ([105,109]:Bts),Sb ([105,110]:Bts),Sb ([108,101,116]:Bts),Sb ([110,105,108]:Bts),Sb ([110,111,116]:Bts),Sb ([111,102]:Bts),Sb ([114,101]:Bts),Sb ([115,116,114,105,99,116]:Bts),Sb ([116,104,101,110]:Bts),Sb ([116,114,117,101]:Bts)]) a 20 [[Sb ([66]:Bts)],[Sb ([76]:Bts)],[Sb ([78]:Bts)],[Sb ([99,97,115,101]:Bts)],[Sb ([99,111,110,106]:Bts)],[Sb ([101,108,115,101]:Bts)],[Sb ([102,97,105,108]:Bts)],[Sb ([102,97,108,115,101]:Bts)],[Sb ([105,102]:Bts)],[Sb ([105,109]:Bts)],[Sb ([105,110]:Bts)],[Sb ([108,101,116]:Bts)],[Sb ([110,105,108]:Bts)],[Sb ([110,111,116]:Bts)],[Sb ([111,102]:Bts)],[Sb ([114,101]:Bts)],[Sb ([115,116,114,105,99,116]:Bts)],[Sb ([116,104,101,110]:Bts)],[Sb ([116,114,117,101]:Bts)]] H8 PV rfl rfl (.cons rfl rfl rfl (.cons rfl rfl rfl (.cons rfl rfl rfl (.cons rfl rfl rfl (.cons rfl rfl rfl (.cons rfl rfl rfl (.cons rfl rfl rfl (.cons rfl rfl rfl (.cons rfl rfl rfl (.cons rfl rfl rfl (.cons rfl rfl rfl (.cons rfl rfl rfl (.cons rfl rfl rfl (.cons rfl rfl rfl (.cons rfl rfl rfl (.cons rfl rfl rfl (.cons rfl rfl rfl (.cons rfl rfl rfl (.cons rfl rfl rfl .nil))))))))))))))))))) rfl fun h l c m n=>have o:Own DK 9 h l 20 (.slice (some ⟨c,0,none⟩) 19 19) ([([66]:Bts),([76]:Bts),([78]:Bts),([99,97,115,101]:Bts),([99,111,110,106]:Bts),([101,108,115,101]:Bts),([102,97,105,108]:Bts),([102,97,108,115,101]:Bts),([105,102]:Bts),([105,109]:Bts),([105,110]:Bts),([108,101,116]:Bts),([110,105,108]:Bts),([110,111,116]:Bts),([111,102]:Bts),([114,101]:Bts),([115,116,114,105,99,116]:Bts),([116,104,101,110]:Bts),([116,114,117,101]:Bts)]:List Bts):=Own.lit (css:=[[Sb ([66]:Bts)],[Sb ([76]:Bts)],[Sb ([78]:Bts)],[Sb ([99,97,115,101]:Bts)],[Sb ([99,111,110,106]:Bts)],[Sb ([101,108,115,101]:Bts)],[Sb ([102,97,105,108]:Bts)],[Sb ([102,97,108,115,101]:Bts)],[Sb ([105,102]:Bts)],[Sb ([105,109]:Bts)],[Sb ([105,110]:Bts)],[Sb ([108,101,116]:Bts)],[Sb ([110,105,108]:Bts)],[Sb ([110,111,116]:Bts)],[Sb ([111,102]:Bts)],[Sb ([114,101]:Bts)],[Sb ([115,116,114,105,99,116]:Bts)],[Sb ([116,104,101,110]:Bts)],[Sb ([116,114,117,101]:Bts)]]) m rfl rfl rfl (AQ rfl (AQ rfl (AQ rfl (AQ rfl (AQ rfl (AQ rfl (AQ rfl (AQ rfl (AQ rfl (AQ rfl (AQ rfl (AQ rfl (AQ rfl (AQ rfl (AQ rfl (AQ rfl (AQ rfl (AQ rfl (AQ rfl Au))))))))))))))))))) (Av rfl (Av rfl (Av rfl (Av rfl (Av rfl (Av rfl (Av rfl (Av rfl (Av rfl (Av rfl (Av rfl (Av rfl (Av rfl (Av rfl (Av rfl (Av rfl (Av rfl (Av rfl (Av rfl CP))))))))))))))))))) rfl;Va (Sl (some ⟨c,0,none⟩) (([([66]:Bts),([76]:Bts),([78]:Bts),([99,97,115,101]:Bts),([99,111,110,106]:Bts),([101,108,115,101]:Bts),([102,97,105,108]:Bts),([102,97,108,115,101]:Bts),([105,102]:Bts),([105,109]:Bts),([105,110]:Bts),([108,101,116]:Bts),([110,105,108]:Bts),([110,111,116]:Bts),([111,102]:Bts),([114,101]:Bts),([115,116,114,105,99,116]:Bts),([116,104,101,110]:Bts),([116,114,117,101]:Bts)]:List Bts)) 19)<|AA<|AW ?_
 obtain ⟨p,q,r⟩:=Own.freeze (S:=[20]) o dcd dcd
 obtain rfl:=AN d
 refine O1 B g rfl (.tmp rfl)<|⟨p,Sl (some ⟨c,0,none⟩) (([([66]:Bts),([76]:Bts),([78]:Bts),([99,97,115,101]:Bts),([99,111,110,106]:Bts),([101,108,115,101]:Bts),([102,97,105,108]:Bts),([102,97,108,115,101]:Bts),([105,102]:Bts),([105,109]:Bts),([105,110]:Bts),([108,101,116]:Bts),([110,105,108]:Bts),([110,111,116]:Bts),([111,102]:Bts),([114,101]:Bts),([115,116,114,105,99,116]:Bts),([116,104,101,110]:Bts),([116,114,117,101]:Bts)]:List Bts)) 19,rfl,Ho (Tn (Mo [20] n) q) f,r⟩
theorem Si:I1.Spec I1:=lk0 (Rc)
def Dc.At(e:Col)(a:World)(f:Bts→Option Bool):Prop:=
 ∀{c d},f c=some d→
  Calls PG 99 #[Sb c] a fun g h=>∃l,g=.returned (.bool d)∧AS [] e a l h
def Dc.Spec(f:Bts→Option Bool):Prop:=
 ∀a c,Dc.At a c f
theorem Pm(o:Nat)(l:Col)(p:World)(q:∀b,l b<10):Dc.At l p (Dc o):=by
 intro f r a
 rw [Dc] at a
 refine Ay Tryz.func99 rfl Tryz.ntmps99 rfl fun B u aw=>Sr<|Va (.bool false)<|AA<|Sr<|Bi a fun d ah a=>Ca (Cg [] rfl) (Si l p ah) ?_
 rintro _ ai ⟨w,ax,rfl,y,z⟩
 obtain ⟨aa,ab,rfl⟩:=AR z
 refine Va (Sl aa d ab)<|AA<|AY<|Sr<|Va (I 0)<|AA<|Ad<|Bj (fun e aj m=>∃ac g c,aj=Env.puts ac [(0,Sb f),(3,Sl aa d ab),(4,I c)]∧Db f d e c=some r∧AS [] w ai g m) o ?_ ?_
 exact ⟨_,w,0,Pu,a,Rf⟩
 rintro e _ m ⟨ac,g,c,rfl,a,h⟩
 rcases e with _|e
 exact A6 a
 refine have a:Dp f d (Db f d e) c=some r:=a; ?_
 obtain ⟨ay,ad⟩:∃s,s=Db f d e:=⟨_,rfl⟩
 rw [←ad,Dp] at a
 refine AY<|Sr<|Vm<|Vm<|have ae:=Ss DK z h; ?_
 obtain ⟨az,a0,ak⟩:=AR ae
 refine Vx (v:=I (d.length:Int)) (Ll H8 ak)<|Vr (.bool (decide (c< (d.length:Int))))<|AA<|Cn a (fun al a=>?_) fun al a=>?_
 refine WC.skip<|AY<|Ad<|Sr<|Vm<|Vm<|Bi a fun af am a=>?_
 obtain ⟨an,ao,a1,ag,ap,aq,ar,au,n⟩:=BG (κ:=DK) ae am
 replace n:A3 g m an (ao+c.toNat*1) ag:=n
 obtain rfl:=(show ag=[Sb af] from au)
 refine Vx (Ix H8 ap rfl aq ar)<|Vx (Ld CS rfl (A3.cell0 n rfl))<|Vm<|Vx (v:=.bool (af==f)) (Run.strEq rfl rfl)<|AA<|Cn a (fun av a=>?_) fun av a=>?_
 refine Sr<|Va (.bool true)<|AA<|AW ?_
 obtain rfl:=AN a
 refine O1 B u rfl (.tmp rfl)<|⟨g,rfl,Ho (Tn (Mo [] y) h) q⟩
 refine WC.skip<|AM<|Vm<|Vr (I (Wr (c+1)))<|Va (I (Wr (c+1)))<|AA<|⟨e,Nat.lt_succ_self e,_,g,(Wr (c+1)),Pu,(ad▸a),(Mo [] h)⟩
 refine BZ<|Sr<|Va (.bool false)<|AA<|AW ?_
 obtain rfl:=AN a
 refine O1 B u rfl (.tmp rfl)<|⟨g,rfl,Ho (Tn (Mo [] y) h) q⟩
theorem QD(c:Nat):Dc.Spec (Dc c):=lk0 (Pm c)
def IX.At(c:Col)(a:World)(f:Bts→Int→Option Int):Prop:=
 ∀{d v0 e g},f d e=some g→Slc Kd.u8 c.F a v0 d→
  Calls PG 100 #[v0,I e] a fun h l=>∃m,h=.returned (I g)∧AS [] c a m l
def IX.Spec(f:Bts→Int→Option Int):Prop:=
 ∀a c,IX.At a c f
theorem Sj(m:Col)(p:World)(ad:∀b,m b<10):IX.At m p IX:=by
 intro s v0 n an a o
 rw [IX] at a
 obtain ⟨az,a0,rfl⟩:=AR o
 refine Ay Tryz.func100 rfl Tryz.ntmps100 rfl fun B ae b4=>Sr<|Va (I 0)<|AA<|AY<|An (fun af u=>∃q f ag,af=Env.puts q [(0,Sl az s a0),(1,I n),(39,.bool ag)]∧Fj s n ag=some an∧AS [] m p f u) ?_ ?_
 refine AM<|Vm<|Vr (I (Wr (n+1)))<|Vm ?_
 obtain ⟨b5,b6,a1⟩:=AR o
 refine Vx (v:=I (s.length:Int)) (Ll Hs a1)<|Vr (.bool (decide ((Wr (n+1))< (s.length:Int))))<|Vm<|Bo a (fun d a=>?_) fun d a=>?_
 refine Gm d<|Gm d<|Bi a fun w a2 a=>?_
 obtain ⟨a3,a4,b7,ao,ah,ai,aj,a5,r⟩:=BG (κ:=Kd.u8) o a2
 replace r:A3 m p a3 (a4+n.toNat*1) ao:=r
 obtain rfl:=(show ao=[U8 w] from a5)
 refine Gx d (Ix Hs ah rfl ai aj)<|Gx d (Ld Mf rfl (A3.cell0 r rfl))<|Gr d (.bool ((w.toNat:Int)==((45:UInt8).toNat:Int)))<|Gm d<|Bo a (fun g a=>?_) fun g a=>?_
 refine Gm g<|Gm g<|Gr g (I (Wr (n+1)))<|Bi a fun y a6 a=>?_
 obtain ⟨a7,a8,b8,ap,aq,ar,au,a9,z⟩:=BG (κ:=Kd.u8) o a6
 replace z:A3 m p a7 (a8+((Wr (n+1))).toNat*1) ap:=z
 obtain rfl:=(show ap=[U8 y] from a9)
 refine Gx g (Ix Hs aq rfl ar au)<|Gx g (Ld Mf rfl (A3.cell0 z rfl))<|Gr g (.bool ((y.toNat:Int)==((62:UInt8).toNat:Int)))<|Gp d g<|Gm d<|Bo a (fun e a=>?_) fun e a=>?_
 refine Pg e<|Pg e<|Pg e<|Pg e<|Pg e<|Pg e<|Po<|Po<|Po<|Po<|Po<|Po<|Pg e<|Gp d e<|Vp d<|AA<|⟨_,m,true,Pu,a,Rf⟩
 refine Gm e<|Gm e<|Gx e (Ix Hs ah rfl ai aj)<|Gx e (Ld Mf rfl (A3.cell0 r rfl))<|Gr e (.bool ((w.toNat:Int)==((61:UInt8).toNat:Int)))<|Gm e<|Bo a (fun h a=>?_) fun h a=>?_
 refine Gm h<|Gm h<|Gr h (I (Wr (n+1)))<|Gx h (Ix Hs aq rfl ar au)<|Gx h (Ld Mf rfl (A3.cell0 z rfl))<|Gr h (.bool ((y.toNat:Int)==((61:UInt8).toNat:Int)))<|Gp e h<|Gp d e<|Vp d<|AA<|⟨_,m,((y.toNat:Int)==((61:UInt8).toNat:Int)),Pu,a,Rf⟩
 refine Pg h<|Pg h<|Pg h<|Pg h<|Pg h<|Pg h<|Gp e h<|Gp d e<|Vp d<|AA<|⟨_,m,false,Pu,a,Rf⟩
 refine Pg g<|Pg g<|Pg g<|Pg g<|Pg g<|Pg g<|Gp d g<|Gm d<|Gm rfl<|Gm rfl<|Gx rfl (Ix Hs ah rfl ai aj)<|Gx rfl (Ld Mf rfl (A3.cell0 r rfl))<|Gr rfl (.bool ((w.toNat:Int)==((61:UInt8).toNat:Int)))<|Gm rfl<|Bo a (fun l a=>?_) fun l a=>?_
 refine Gm l<|Gm l<|Gr l (I (Wr (n+1)))<|Bi a fun aa ba a=>?_
 obtain ⟨bb,bc,b9,av,bd,be,bf,bg,ak⟩:=BG (κ:=Kd.u8) o ba
 replace ak:A3 m p bb (bc+((Wr (n+1))).toNat*1) av:=ak
 obtain rfl:=(show av=[U8 aa] from bg)
 refine Gx l (Ix Hs bd rfl be bf)<|Gx l (Ld Mf rfl (A3.cell0 ak rfl))<|Gr l (.bool ((aa.toNat:Int)==((61:UInt8).toNat:Int)))<|Gp rfl l<|Gr d (.bool ((aa.toNat:Int)==((61:UInt8).toNat:Int)))<|Vp d<|AA<|⟨_,m,((aa.toNat:Int)==((61:UInt8).toNat:Int)),Pu,a,Rf⟩
 refine Pg l<|Pg l<|Pg l<|Pg l<|Pg l<|Pg l<|Gp rfl l<|Gr d (.bool false)<|Vp d<|AA<|⟨_,m,false,Pu,a,Rf⟩
 refine Pg d<|Pg d<|Pg d<|Pg d<|Pg d<|Pg d<|Po<|Po<|Po<|Po<|Po<|Po<|Pg d<|Pg d<|Po<|Po<|Po<|Po<|Po<|Po<|Po<|Po<|Po<|Po<|Po<|Po<|Po<|Pg d<|Vp d<|AA<|⟨_,m,false,Pu,a,Rf⟩
 rintro _ u ⟨q,f,ag,rfl,a,ab⟩
 rw [Fj] at a
 refine Cn a (fun bh a=>?_) fun bh a=>?_
 refine Sr<|Va (I 2)<|AA<|AW ?_
 obtain rfl:=AN a
 refine O1 B ae rfl (.tmp rfl)<|⟨f,rfl,Ho (Mo [] ab) ad⟩
 refine WC.skip<|AY<|Sr<|Vm<|Vm<|Bi a fun c bi a=>have bj:=Ss Kd.u8 o ab; ?_
 obtain ⟨bk,bl,ca,aw,bm,bn,bo,bp,al⟩:=BG (κ:=Kd.u8) bj bi
 replace al:A3 f u bk (bl+n.toNat*1) aw:=al
 obtain rfl:=(show aw=[U8 c] from bp)
 refine Vx (Ix Hs bm rfl bn bo)<|Vx (Ld Mf rfl (A3.cell0 al rfl))<|AA<|Ad<|An (fun af ax=>∃q ac am,af=Env.puts q [(44,.bool am)]∧Dq am=some an∧AS [] f u ac ax) ?_ ?_
 refine Sr<|Vr (.bool ((c.toNat:Int)==((40:UInt8).toNat:Int)))<|Va (.bool ((c.toNat:Int)==((40:UInt8).toNat:Int)))<|AA<|Cn a (fun bq a=>?_) fun bq a=>?_
 refine WC.skip<|⟨_,f,((c.toNat:Int)==((40:UInt8).toNat:Int)),Pu,a,Rf⟩
 refine Sr<|Vr (.bool ((c.toNat:Int)==((41:UInt8).toNat:Int)))<|Va (.bool ((c.toNat:Int)==((41:UInt8).toNat:Int)))<|AA<|Cn a (fun br a=>?_) fun br a=>?_
 refine WC.skip<|⟨_,f,((c.toNat:Int)==((41:UInt8).toNat:Int)),Pu,a,Rf⟩
 refine Sr<|Vr (.bool ((c.toNat:Int)==((44:UInt8).toNat:Int)))<|Va (.bool ((c.toNat:Int)==((44:UInt8).toNat:Int)))<|AA<|Cn a (fun bt a=>?_) fun bt a=>?_
 refine WC.skip<|⟨_,f,((c.toNat:Int)==((44:UInt8).toNat:Int)),Pu,a,Rf⟩
 refine Sr<|Vr (.bool ((c.toNat:Int)==((58:UInt8).toNat:Int)))<|Va (.bool ((c.toNat:Int)==((58:UInt8).toNat:Int)))<|AA<|Cn a (fun bu a=>?_) fun bu a=>?_
 refine WC.skip<|⟨_,f,((c.toNat:Int)==((58:UInt8).toNat:Int)),Pu,a,Rf⟩
 refine Sr<|Vr (.bool ((c.toNat:Int)==((59:UInt8).toNat:Int)))<|Va (.bool ((c.toNat:Int)==((59:UInt8).toNat:Int)))<|AA<|Cn a (fun bv a=>?_) fun bv a=>?_
 refine WC.skip<|⟨_,f,((c.toNat:Int)==((59:UInt8).toNat:Int)),Pu,a,Rf⟩
 refine Sr<|Vr (.bool ((c.toNat:Int)==((61:UInt8).toNat:Int)))<|Va (.bool ((c.toNat:Int)==((61:UInt8).toNat:Int)))<|AA<|Cn a (fun bw a=>?_) fun bw a=>?_
 refine WC.skip<|⟨_,f,((c.toNat:Int)==((61:UInt8).toNat:Int)),Pu,a,Rf⟩
 refine Sr<|Vr (.bool ((c.toNat:Int)==((43:UInt8).toNat:Int)))<|Va (.bool ((c.toNat:Int)==((43:UInt8).toNat:Int)))<|AA<|Cn a (fun bx a=>?_) fun bx a=>?_
 refine WC.skip<|⟨_,f,((c.toNat:Int)==((43:UInt8).toNat:Int)),Pu,a,Rf⟩
 refine Sr<|Vr (.bool ((c.toNat:Int)==((45:UInt8).toNat:Int)))<|Va (.bool ((c.toNat:Int)==((45:UInt8).toNat:Int)))<|AA<|Cn a (fun bz a=>?_) fun bz a=>?_
 refine WC.skip<|⟨_,f,((c.toNat:Int)==((45:UInt8).toNat:Int)),Pu,a,Rf⟩
 refine Sr<|Vr (.bool ((c.toNat:Int)==((42:UInt8).toNat:Int)))<|Va (.bool ((c.toNat:Int)==((42:UInt8).toNat:Int)))<|AA<|Cn a (fun b0 a=>?_) fun b0 a=>?_
 refine WC.skip<|⟨_,f,((c.toNat:Int)==((42:UInt8).toNat:Int)),Pu,a,Rf⟩
 refine Sr<|Vr (.bool ((c.toNat:Int)==((47:UInt8).toNat:Int)))<|Va (.bool ((c.toNat:Int)==((47:UInt8).toNat:Int)))<|AA<|Cn a (fun b1 a=>?_) fun b1 a=>?_
 refine WC.skip<|⟨_,f,((c.toNat:Int)==((47:UInt8).toNat:Int)),Pu,a,Rf⟩
 refine Sr<|Vr (.bool ((c.toNat:Int)==((60:UInt8).toNat:Int)))<|Va (.bool ((c.toNat:Int)==((60:UInt8).toNat:Int)))<|AA<|Cn a (fun b2 a=>?_) fun b2 a=>?_
 refine WC.skip<|⟨_,f,((c.toNat:Int)==((60:UInt8).toNat:Int)),Pu,a,Rf⟩
 refine AM<|Vr (.bool ((c.toNat:Int)==((124:UInt8).toNat:Int)))<|Va (.bool ((c.toNat:Int)==((124:UInt8).toNat:Int)))<|AA<|⟨_,f,((c.toNat:Int)==((124:UInt8).toNat:Int)),Pu,a,Rf⟩
 rintro _ ax ⟨q,ac,am,rfl,a,ay⟩
 rw [Dq] at a
 refine Cn a (fun b3 a=>?_) fun b3 a=>?_
 refine Sr<|Va (I 1)<|AA<|AW ?_
 obtain rfl:=AN a
 refine O1 B ae rfl (.tmp rfl)<|⟨ac,rfl,Ho (Tn (Mo [] ab) ay) ad⟩
 refine WC.skip<|Sr<|Va (I 0)<|AA<|AW ?_
 obtain rfl:=AN a
 refine O1 B ae rfl (.tmp rfl)<|⟨ac,rfl,Ho (Tn (Mo [] ab) ay) ad⟩
theorem Tv:IX.Spec IX:=lk0 (Sj)
def Hv.At(d:Col)(a:World)(f:Bts→Int→Option (Af×Bool)):Prop:=
 ∀{e v0 g c},f e g=some c→Slc Kd.u8 d.F a v0 e→
  Calls PG 72 #[v0,I g] a fun n h=>∃l m,n=.returned (.tuple #[Ag m,.bool c.2])∧AS [] d a l h∧Ac.rep l.F h m c.1
def Hv.Spec(f:Bts→Int→Option (Af×Bool)):Prop:=
 ∀a c,Hv.At a c f
theorem Tw(w:Nat)(aw:Col)(bz:World)(ag:∀b,aw b<10):Hv.At aw bz (Hv w):=by
 intro y v0 c ax a bd
 rw [Hv] at a
 obtain ⟨ah,ai,rfl⟩:=AR bd
 refine Ay Tryz.func72 rfl Tryz.ntmps72 rfl fun B aj ee=>Sr<|Ef<|AU aw 20 Gs rfl fun b0 b1 ay ak ab=>Va (.bool false)<|AA<|Sr<|Vm<|Vm<|have be:=Ss Kd.u8 bd ab;Bi a fun h b2 a=>Ca (Cg [Sl ah y ai,I c] rfl) (U3 w b0 b1 b2 be) ?_
 rintro _ ef ⟨b3,rfl,p⟩
 refine Va (I h)<|AA<|Sr<|Vm<|Vm<|Vm<|Vm<|Vr (I (Wr (c+h)))<|Bi a fun d bf a=>have al:=Ss Kd.u8 be p; ?_
 obtain ⟨bg,bh,b4,b5,az⟩:=Uj al bf
 obtain ⟨eg,bi⟩:∃s,s=Value.slice (if bh=c.toNat then bg else bg.map (·.add (c.toNat*Kd.u8.size))) (((Wr (c+h))).toNat - c.toNat) (bh - c.toNat):=⟨_,rfl⟩
 rw [←bi] at az
 obtain ⟨b6,b7,b8,_⟩:=LK bf
 obtain ⟨b9,ca,rfl⟩:=AR az
 refine Vx (v:=.slice b9 d.length ca) (by rw [bi];exact Run.sliceSlc Hs b4 ⟨_,rfl⟩ ⟨_,rfl⟩ b6 b7 b8 b5)<|Vx (v:=Sb d) (Run.bytesStr PF rfl az)<|Vm<|Vx (v:=Ag [I 0,Sb d,Cx (((0,0):Nat×Nat)),I c]) (Bp Gs U1 rfl (.cons rfl rfl rfl (.cons rfl rfl rfl .nil)))<|Ef<|AU b3 21 Gs rfl fun am eh an cb l=>Eu<|St G7 cb rfl rfl rfl rfl fun a0 ao m=>AA<|AY<|Ad<|An (fun ac ad=>∃q r x63,ac=Env.puts q [(0,Sl ah y ai),(1,I c),(4,Pt ay 0),(6,I h),(7,Pt an 0),(22,.bool x63)]∧ID w y c h d x63=some ax∧AS [] am a0 r ad) ?_ ?_
 refine AM<|Vm<|Vr (.bool (decide (h>0)))<|Vm<|Bo a (fun f a=>?_) fun f a=>?_
 refine Gm f<|Gm f<|Bi a fun bj cc a=>have cd:=K2 Kd.u8 al l m; ?_
 obtain ⟨cf,cg,ei,bk,ch,ci,cj,ck,a1⟩:=BG (κ:=Kd.u8) cd cc
 replace a1:A3 am a0 cf (cg+c.toNat*1) bk:=a1
 obtain rfl:=(show bk=[U8 bj] from ck)
 refine Gx f (Ix Hs ch rfl ci cj)<|Gx f (Ld Mf rfl (A3.cell0 a1 rfl))<|Bi a fun bl cl a=>B7 (.guard (t:=true) (b:=true) rfl rfl rfl rfl (Cb f)) rfl rfl (Cg [U8 bj] rfl)<|Calls.mono (Of am a0 cl) ?_
 rintro _ ej ⟨cm,rfl,cn⟩
 refine ⟨_,rfl,?_⟩
 refine Vp f<|Va (.bool bl)<|AA<|⟨_,cm,bl,Pu,a,(Mo [] cn)⟩
 refine Pg f<|Pg f<|Pg f<|Pg f<|Pg f<|Vp f<|Va (.bool false)<|AA<|⟨_,am,false,Pu,a,Rf⟩
 rintro _ ad ⟨q,r,x63,rfl,a,e⟩
 rw [ID] at a
 refine Cn a (fun co a=>?_) fun co a=>?_
 refine Sr<|Vx (Fd FT rfl)<|have bm:=Bs ao e;Vx (Ld CS rfl (Bc bm rfl))<|Bi a fun n cq a=>Ca (Cg [Sb d] rfl) (Mh w r ad cq) ?_
 rintro _ ek ⟨cr,el,rfl,a2,ct⟩
 obtain rfl:=HM ct
 refine Vm<|Vr (Ag [I n.1.re,I n.1.im])<|Vr (I n.2)<|Ef<|AU cr 22 I8 rfl fun cu em en cv a3=>Eu<|St JR cv rfl rfl rfl rfl fun eo cw a4=>Va (I n.2)<|AA<|Sr<|Vx (Fz Km rfl)<|have cx:=Y3 bm a2 a3 a4;Eu<|St Uz cx rfl rfl rfl rfl fun cy cz a5=>AA<|Sr<|have c0:=Bs cw a5;Vx (Lx Jz rfl rfl (Bw c0))<|Bi a fun ap c1 a=>Ca (Cg [Ag [I n.1.re,I n.1.im]] rfl) (Mi cu cy c1 (FH (x:=n.1))) ?_
 rintro _ ep ⟨c2,rfl,a6⟩
 refine Vx (Fd UX rfl)<|have c3:=Bs cz a6;Eu<|St AAb c3 rfl rfl rfl rfl fun eq c4 bn=>AA<|Sr<|Vx (Lx IG rfl rfl (Bw c4))<|Vm<|Vr (.bool (n.2==0))<|have c5:=Y2 (Y4 (Y4 ak p l m e) a2 a3 a4 a5) a6 bn;Eu<|St G7 c5 rfl rfl rfl rfl fun er c6 c7=>Va (.bool (n.2==0))<|AA<|AW ?_
 obtain rfl:=AN a
 refine O2 B aj rfl (.agg IG rfl rfl (Bw c6)) (.tmp rfl)<|⟨c2,[I 2,Sb d,Cx ap,I c],rfl,Ho (T3 (T4 (T4 (Mo [20,21,22] ab) p l m e) a2 a3 a4 a5) a6 bn c7) ag,(Fb (x:=(Af.mk 2 d ap c)))⟩
 refine An (fun ac ae=>∃q z a7,ac=Env.puts q [(0,Sl ah y ai),(1,I c),(4,Pt ay 0),(6,I h),(7,Pt an 0),(45,.bool a7)]∧IC w y c h d a7=some ax∧AS [] r ad z ae) ?_ ?_
 refine AM<|Vm<|Vr (.bool (decide (h>0)))<|Vm<|Bo a (fun g a=>?_) fun g a=>?_
 refine Gm g<|Gm g<|Bi a fun aq c8 a=>have c9:=K3 Kd.u8 al l m e; ?_
 obtain ⟨da,db,es,bo,dc,de,df,dg,a8⟩:=BG (κ:=Kd.u8) c9 c8
 replace a8:A3 r ad da (db+c.toNat*1) bo:=a8
 obtain rfl:=(show bo=[U8 aq] from dg)
 refine Gx g (Ix Hs dc rfl de df)<|Gx g (Ld Mf rfl (A3.cell0 a8 rfl))<|Gr g (.bool ((aq.toNat:Int)==((95:UInt8).toNat:Int)))<|Vp g<|Va (.bool ((aq.toNat:Int)==((95:UInt8).toNat:Int)))<|AA<|⟨_,r,((aq.toNat:Int)==((95:UInt8).toNat:Int)),Pu,a,Rf⟩
 refine Pg g<|Pg g<|Pg g<|Pg g<|Pg g<|Vp g<|Va (.bool false)<|AA<|⟨_,r,false,Pu,a,Rf⟩
 rintro _ ae ⟨q,z,a7,rfl,a,o⟩
 rw [IC] at a
 refine Cn a (fun dh a=>?_) fun dh a=>?_
 refine Sr<|have di:=Y2 ao e o;Vx (Lx IG rfl rfl (Bw di))<|have dj:=Bs (Y4 ak p l m e) o;Eu<|St G7 dj rfl rfl rfl rfl fun et dk dl=>Va (.bool false)<|AA<|AW ?_
 obtain rfl:=AN a
 refine O2 B aj rfl (.agg IG rfl rfl (Bw dk)) (.tmp rfl)<|⟨z,[I 0,Sb d,Cx (((0,0):Nat×Nat)),I c],rfl,Ho (T2 (T4 (Mo [20,21] ab) p l m e) o dl) ag,(Fb (x:=(Af.mk 0 d ((0,0):Nat×Nat) c)))⟩
 refine Sr<|Vm<|Vr (.bool (decide (h>0)))<|Va (.bool (decide (h>0)))<|AA<|Cn a (fun dm a=>?_) fun dm a=>?_
 refine An (fun ac a9=>∃q ar u,ac=Env.puts q [(4,Pt ay 0),(7,Pt an 0)]∧MM c d u=some ax∧AS [21] z ae ar a9∧Bk ar a9 21 an [I u,Sb d,Cx (((0,0):Nat×Nat)),I c] 159) ?_ ?_
 refine Sr<|Vx (Fd FT rfl)<|have ba:=Y2 ao e o;Vx (Ld CS rfl (Bc ba rfl))<|Bi a fun eu dn a=>Ca (Cg [Sb d] rfl) (QD w z ae dn) ?_
 rintro _ ew ⟨bp,rfl,au⟩
 refine AA<|Cn a (fun dp a=>?_) fun dp a=>?_
 refine AM<|Vx (Fz Km rfl)<|have dq:=Bs ba au;Eu<|St Uz dq rfl rfl rfl rfl fun ex dr ds=>AA<|⟨_,bp,1,Pu,a,(Tn (Mo [21] au) ds),dr⟩
 refine WC.skip<|have dt:=Bs ba au;⟨_,bp,0,Pu,a,(Mo [21] au),dt⟩
 rintro _ a9 ⟨q,ar,u,rfl,a,bq,du⟩
 rw [MM] at a
 refine Sr<|Vx (Lx IG rfl rfl (Bw du))<|have dv:=Y2 (Y4 ak p l m e) o bq;Eu<|St G7 dv rfl rfl rfl rfl fun ey dw dx=>Va (.bool true)<|AA<|AW ?_
 obtain rfl:=AN a
 refine O2 B aj rfl (.agg IG rfl rfl (Bw dw)) (.tmp rfl)<|⟨ar,[I u,Sb d,Cx (((0,0):Nat×Nat)),I c],rfl,Ho (T3 (T4 (Mo [20,21] ab) p l m e) o bq dx) ag,(Fb (x:=(Af.mk u d ((0,0):Nat×Nat) c)))⟩
 refine WC.skip<|Sr<|Vm<|Vm<|have br:=K4 Kd.u8 al l m e o;Bi a fun af dy a=>Ca (Cg [Sl ah y ai,I c] rfl) (Tv z ae dy br) ?_
 rintro _ ez ⟨dz,rfl,av⟩
 refine Va (I af)<|AA<|Sr<|Vx (Fz Km rfl)<|have d0:=Y3 ao e o av;Eu<|St Uz d0 rfl rfl rfl rfl fun e0 d1 bb=>AA<|Sr<|Vm<|Vm<|Vm<|Vm<|Vr (I (Wr (c+af)))<|Bi a fun aa bt a=>have d2:=K2 Kd.u8 br av bb; ?_
 obtain ⟨bu,bv,d3,d4,bc⟩:=Uj d2 bt
 obtain ⟨e1,bw⟩:∃s,s=Value.slice (if bv=c.toNat then bu else bu.map (·.add (c.toNat*Kd.u8.size))) (((Wr (c+af))).toNat - c.toNat) (bv - c.toNat):=⟨_,rfl⟩
 rw [←bw] at bc
 obtain ⟨d5,d6,d7,_⟩:=LK bt
 obtain ⟨d8,d9,rfl⟩:=AR bc
 refine Vx (v:=.slice d8 aa.length d9) (by rw [bw];exact Run.sliceSlc Hs d3 ⟨_,rfl⟩ ⟨_,rfl⟩ d5 d6 d7 d4)<|Vx (v:=Sb aa) (Run.bytesStr PF rfl bc)<|Vx (Fd FT rfl)<|Eu<|St W8 d1 rfl rfl rfl rfl fun e2 ea bx=>AA<|Sr<|Vx (Lx IG rfl rfl (Bw ea))<|Vm<|Vr (.bool (decide (af>0)))<|have eb:=Y4 (Y4 ak p l m e) o av bb bx;Eu<|St G7 eb rfl rfl rfl rfl fun e3 ec ed=>Va (.bool (decide (af>0)))<|AA<|AW ?_
 obtain rfl:=AN a
 refine O2 B aj rfl (.agg IG rfl rfl (Bw ec)) (.tmp rfl)<|⟨dz,[I 3,Sb aa,Cx (((0,0):Nat×Nat)),I c],rfl,Ho (Tn (T4 (T4 (Mo [20,21] ab) p l m e) o av bb bx) ed) ag,(Fb (x:=(Af.mk 3 aa ((0,0):Nat×Nat) c)))⟩
theorem U5(c:Nat):Hv.Spec (Hv c):=lk0 (Tw c)
def F8.At(d:Col)(a:World)(f:Bts→Option ((List Af)×Int)):Prop:=
 ∀{e v0 c},f e=some c→Slc Kd.u8 d.F a v0 e→
  Calls PG 47 #[v0] a fun m g=>∃h l,m=.returned (.tuple #[l,I c.2])∧AS [] d a h g∧Slc Ac h.F g l c.1
def F8.Spec(f:Bts→Option ((List Af)×Int)):Prop:=
 ∀a c,F8.At a c f
theorem Re(n:Nat)(ae:Col)(az:World)(a0:∀b,ae b<10):F8.At ae az (F8 n):=by
 intro d v0 z a a1
 rw [F8] at a
 obtain ⟨af,ag,rfl⟩:=AR a1
 refine Ay Tryz.func47 rfl Tryz.ntmps47 rfl fun B a2 c4=>Sr<|Va (.slice none 0 0)<|Va (I 0)<|AA<|Sr<|Va (.slice none 0 0)<|AA<|Sr<|Va (I 0)<|AA<|AY<|Ad<|Bj (fun h aa ab=>∃o u e q r f,aa=Env.puts o [(0,Sl af d ag),(4,Sl q e r),(5,I f)]∧Dd n d h e f=some z∧AS [20,22] ae az u ab∧Own Ac 159 u ab 22 (Sl q e r) e) n ?_ ?_
 exact ⟨_,ae,([]:List Af),none,0,0,Pu,a,(AS.refl [20,22] _ _),Own.nil⟩
 rintro h _ ab ⟨o,u,e,q,r,f,rfl,a,w,ah⟩
 rcases h with _|h
 exact A6 a
 refine have a:FA n d (Dd n d h) e f=some z:=a; ?_
 obtain ⟨ac,ai⟩:∃s,s=Dd n d h:=⟨_,rfl⟩
 rw [←ai,FA] at a
 refine AY<|Sr<|Vm<|Vm<|have ad:=Ss Kd.u8 a1 w; ?_
 obtain ⟨c5,c6,bo⟩:=AR ad
 refine Vx (v:=I (d.length:Int)) (Ll Hs bo)<|Vr (.bool (decide (f< (d.length:Int))))<|AA<|Cn a (fun bp a=>?_) fun bp a=>?_
 refine WC.skip<|Ad<|AY<|Sr<|Vm<|Vm<|Bi a fun ao bq a=>?_
 obtain ⟨br,bt,c7,a3,a4,a5,a6,bu,aj⟩:=BG (κ:=Kd.u8) ad bq
 replace aj:A3 u ab br (bt+f.toNat*1) a3:=aj
 obtain rfl:=(show a3=[U8 ao] from bu)
 refine Vx (Ix Hs a4 rfl a5 a6)<|Vx (Ld Mf rfl (A3.cell0 aj rfl))<|Bi a fun c8 bv a=>Ca (Cg [U8 ao] rfl) (Sf u ab bv) ?_
 rintro _ a7 ⟨ak,rfl,m⟩
 refine AA<|Cn a (fun bw a=>?_) fun bw a=>?_
 refine Sr<|Vm<|Vr (I (Wr (f+1)))<|Va (I (Wr (f+1)))<|AA<|BZ<|have bx:=Os ah m;⟨h,Nat.lt_succ_self h,_,ak,e,q,r,(Wr (f+1)),Pu,(ai▸a),(Tn (Mo [20,22] w) m),bx⟩
 refine WC.skip<|AY<|Sr<|Vm<|Vm<|Vx (Ix Hs a4 rfl a5 a6)<|have bz:=Es aj m;Vx (Ld Mf rfl (A3.cell0 bz rfl))<|Vr (.bool ((ao.toNat:Int)==((35:UInt8).toNat:Int)))<|AA<|Cn a (fun b0 a=>?_) fun b0 a=>?_
 refine AY<|Ad<|Bj (fun p aa al=>∃o y l,aa=Env.puts o [(0,Sl af d ag),(4,Sl q e r),(5,I l)]∧Em d e ac p l=some z∧AS [] ak a7 y al) n ?_ ?_
 exact ⟨_,ak,f,Pu,a,Rf⟩
 rintro p _ al ⟨o,y,l,rfl,a,am⟩
 rcases p with _|p
 exact A6 a
 refine have a:E9 d e ac (Em d e ac p) l=some z:=a; ?_
 obtain ⟨b1,a8⟩:∃s,s=Em d e ac p:=⟨_,rfl⟩
 rw [←a8,E9] at a
 refine AY<|An (fun aa a9=>∃o an ap,aa=Env.puts o [(0,Sl af d ag),(4,Sl q e r),(5,I l),(34,.bool ap)]∧HY e ac l b1 ap=some z∧AS [] y al an a9) ?_ ?_
 refine AM<|Vm<|Vm<|have ba:=K2 Kd.u8 ad m am; ?_
 obtain ⟨c9,da,b2⟩:=AR ba
 refine Vx (v:=I (d.length:Int)) (Ll Hs b2)<|Vr (.bool (decide (l< (d.length:Int))))<|Vm<|Bo a (fun g a=>?_) fun g a=>?_
 refine Gm g<|Gm g<|Bi a fun aq b3 a=>?_
 obtain ⟨b4,b5,db,bb,b6,b7,b8,b9,ar⟩:=BG (κ:=Kd.u8) ba b3
 replace ar:A3 y al b4 (b5+l.toNat*1) bb:=ar
 obtain rfl:=(show bb=[U8 aq] from b9)
 refine Gx g (Ix Hs b6 rfl b7 b8)<|Gx g (Ld Mf rfl (A3.cell0 ar rfl))<|Gr g (.bool ((aq.toNat:Int) != ((10:UInt8).toNat:Int)))<|Vp g<|AA<|⟨_,y,((aq.toNat:Int) != ((10:UInt8).toNat:Int)),Pu,a,Rf⟩
 refine Pg g<|Pg g<|Pg g<|Pg g<|Pg g<|Vp g<|AA<|⟨_,y,false,Pu,a,Rf⟩
 rintro _ a9 ⟨o,an,ap,rfl,a,au⟩
 rw [HY] at a
 refine Cn a (fun ca a=>?_) fun ca a=>?_
 refine WC.skip<|Ad<|AM<|Vm<|Vr (I (Wr (l+1)))<|Va (I (Wr (l+1)))<|AA<|⟨p,Nat.lt_succ_self p,_,an,(Wr (l+1)),Pu,(a8▸a),(Tn (Mo [] am) au)⟩
 refine BZ<|BZ<|have cb:=Os (Os (Os ah m) am) au;⟨h,Nat.lt_succ_self h,_,an,e,q,r,l,Pu,(ai▸a),(T3 (Mo [20,22] w) m am au),cb⟩
 refine WC.skip<|Sr<|Vm<|Vm<|have cc:=Ss Kd.u8 ad m;Bi a fun c cd a=>Ca (Cg [Sl af d ag,I f] rfl) (U5 n ak a7 cd cc) ?_
 rintro _ dc ⟨cf,de,rfl,av,cg⟩
 obtain rfl:=DB cg
 refine Vm<|Vr (Ag [I c.1.kind,Sb c.1.text,Cx c.1.num,I c.1.at_])<|Vr (.bool c.2)<|Ef<|AU cf 20 Gs rfl fun bc df dg ch aw=>Eu<|St G7 ch rfl rfl rfl rfl fun dh bd ax=>Va (.bool c.2)<|AA<|AY<|Sr<|Vm<|Vr (.bool (!c.2))<|AA<|Cn a (fun ci a=>?_) fun ci a=>?_
 refine Sr<|Vm<|Va (.slice none 0 0)<|Va (I f)<|AA<|AW ?_
 obtain rfl:=AN a
 refine O2 B a2 rfl (.tmp rfl) (.tmp rfl)<|⟨bc,.slice none 0 0,rfl,Ho (T4 (Mo [20,22] w) m av aw ax) a0,Bd⟩
 refine WC.skip<|Sr<|Vm<|Vx (Lx IG rfl rfl (Bw bd))<|Ef<|Bf (cs:=[I c.1.kind,Sb c.1.text,Cx c.1.num,I c.1.at_]) bc 21 [[I c.1.kind,Sb c.1.text,Cx c.1.num,I c.1.at_]] U2 Gs rfl rfl (.cons rfl rfl rfl .nil) rfl fun cj ck cl cm ay=>have cn:Own Ac 159 cj ck 21 (.slice (some ⟨cl,0,none⟩) 1 1) ([c.1]:List Af):=Own.lit (css:=[[I c.1.kind,Sb c.1.text,Cx c.1.num,I c.1.at_]]) cm rfl rfl rfl (AQ (Fb (x:=c.1)) Au) (Av rfl CP) rfl;have co:=Os (Os (Os (Os (Os ah m) av) aw) ax) ay;Bi a fun di be a=>Ef<|Az (κ:=Ac) rfl rfl co dcd W7 (BL cn) (CF be) (CK be) fun dj cq dk bf bg=>?_
 obtain ⟨bh,bi,rfl⟩:=Own.len bf
 refine Va (Sl bh ((e++([c.1]:List Af))) bi)<|AA<|AM<|Vm<|Vx (Fd FT rfl)<|have cr:=Y2 bd ay bg;Vx (Ld CS rfl (Bc cr rfl))<|Vx (v:=I (c.1.text.length:Int)) (Run.lenStr JP rfl)<|Vr (I (Wr (f+(c.1.text.length:Int))))<|Va (I (Wr (f+(c.1.text.length:Int))))<|AA<|⟨h,Nat.lt_succ_self h,_,cq,(e++([c.1]:List Af)),bh,bi,(Wr (f+(c.1.text.length:Int))),Pu,(ai▸a),(T2 (T4 (Mo [20,22] w) m av aw ax) ay bg),bf⟩
 refine BZ<|Sr<|Vm<|Vm ?_
 obtain ⟨dl,dm,ct⟩:=AR ad
 refine Vx (v:=I (d.length:Int)) (Ll Hs ct)<|Vx (v:=Ag [I 4,Sb ([]:Bts),Cx (((0,0):Nat×Nat)),I (d.length:Int)]) (Bp Gs U1 rfl (.cons rfl rfl rfl (.cons rfl rfl rfl .nil)))<|Ef<|Bf (cs:=[I 4,Sb ([]:Bts),Cx (((0,0):Nat×Nat)),I (d.length:Int)]) u 23 [[I 4,Sb ([]:Bts),Cx (((0,0):Nat×Nat)),I (d.length:Int)]] U2 Gs rfl rfl (.cons rfl rfl rfl .nil) rfl fun cu cv cw cx bj=>have cy:Own Ac 159 cu cv 23 (.slice (some ⟨cw,0,none⟩) 1 1) ([(Af.mk 4 ([]:Bts) ((0,0):Nat×Nat) (d.length:Int))]:List Af):=Own.lit (css:=[[I 4,Sb ([]:Bts),Cx (((0,0):Nat×Nat)),I (d.length:Int)]]) cx rfl rfl rfl (AQ (Fb (x:=(Af.mk 4 ([]:Bts) ((0,0):Nat×Nat) (d.length:Int)))) Au) (Av rfl CP) rfl;have cz:=Os ah bj;Bi a fun dn bk a=>Ef<|Az (κ:=Ac) rfl rfl cz dcd W7 (BL cy) (CF bk) (CK bk) fun dp dq dr bl c0=>?_
 obtain ⟨bm,bn,rfl⟩:=Own.len bl
 refine Va (Sl bm ((e++([(Af.mk 4 ([]:Bts) ((0,0):Nat×Nat) (d.length:Int))]:List Af))) bn)<|Va (I (-1:Int))<|AA<|AW ?_
 obtain ⟨c1,c2,c3⟩:=Own.freeze (S:=[22]) bl dcd dcd
 obtain rfl:=AN a
 refine O2 B a2 rfl (.tmp rfl) (.tmp rfl)<|⟨c1,Sl bm ((e++([(Af.mk 4 ([]:Bts) ((0,0):Nat×Nat) (d.length:Int))]:List Af))) bn,rfl,Ho (T3 (Mo [20,22] w) bj c0 c2) a0,c3⟩
theorem Sk(c:Nat):F8.Spec (F8 c):=lk0 (Re c)
def BW.At(G1 G2:Prop)(c:Col)(a:World)(f:AD→Option Af)(o:Nat):Prop:=
 ∀{d e g h},f e=some h→G1→G2→Bk c a o d g 126→BE.rep c.F a g e→
  Calls PG 73 #[Pt d 0] a fun p l=>∃m n,p=.returned (Ag n)∧AS [] c a m l∧Ac.rep m.F l n h
def BW.Spec(f:AD→Option Af):Prop:=
 ∀c d {a},BW.At ([a].Nodup) (0∉[a]) c d f a
theorem N6(g:Col)(q:World)(r:∀b,g b<10):BW.At True True g q BW 1:=by
 intro n s an ao e _ _ u w
 rw [BW] at e
 obtain ⟨aq,ar,rfl,o⟩:=E1 (AX w)
 refine Ay Tryz.func73 rfl Tryz.ntmps73 rfl fun B y d=>Sr<|Ef<|AU g 20 Gs rfl fun h au av z l=>AA<|AY<|B8 Eg (qs 0 10 (.one 10 .nil)) [10] [] h (by kernel_rfl) fun aa f=>Qx d rfl (v:=Pt n 0) (fun _ _=>Mv rfl)<|Qx d rfl (fun _ _=>Nc rfl)<|Qx d rfl (fun _ _=>Fz Xe rfl)<|have p:=Y2 u l f;Qx d rfl (fun _ ⟨_,c⟩=>Ld ZY rfl (Bc (Bs p c) rfl))<|Qx d rfl (v:=Pt n 0) (fun _ _=>Mv rfl)<|Qx d rfl (fun _ _=>Nc rfl)<|Qx d rfl (fun _ _=>Fd GL rfl)<|Qx d rfl (fun _ ⟨_,c⟩=>Ld CD rfl (Bc (Bs p c) rfl))<|Bi e fun a ab e=>have ac:=K2 Ac o l f; ?_
 obtain ⟨ad,ae,aw,af,ag,ah,ai,aj,m⟩:=BG (κ:=Ac) ac ab
 replace m:A3 h aa ad (ae+s.at_.toNat*4) af:=m
 obtain rfl:=DB aj
 refine Qx d rfl (fun _ _=>Ix U2 ag rfl ah ai)<|Qx d rfl (fun _ ⟨_,c⟩=>Lx IG rfl rfl (A3.part0 (Es m c) [I a.kind,Sb a.text,Cx a.num,I a.at_] rfl))<|CX dcd<|WY.one<|have ak:=Bs z f;BC rfl (.none rfl) rfl<|St G7 ak rfl rfl rfl rfl fun ax al am=>WY.nil<|AW ?_
 obtain rfl:=AN e
 refine O1 B y rfl (.agg IG rfl rfl (Bw al))<|⟨h,[I a.kind,Sb a.text,Cx a.num,I a.at_],rfl,Ho (T2 (Mo [20] l) f am) r,(Fb (x:=a))⟩
theorem CN:BW.Spec BW:=lk1 (N6)
def Br.At(G1 G2:Prop)(c:Col)(a:World)(f:AD→Int→Option AD)(d:Nat):Prop:=
 ∀{e l m n o},f l n=some o→G1→G2→Bk c a d e m 126→BE.rep c.F a m l→
  Calls PG 101 #[Pt e 0,I n] a fun q g=>∃h p,q=.returned (.tuple #[])∧AS [d] c a h g∧Bk h g d e p 126∧BE.rep h.F g p o
def Br.Spec(f:AD→Int→Option AD):Prop:=
 ∀c d {a},Br.At ([a].Nodup) (0∉[a]) c d f a
theorem N7(e:Col)(w:World)(m:∀b,e b<10):Br.At True True e w Br 1:=by
 intro y a ai f aj c _ _ g z
 rw [Br] at c
 obtain ⟨n,o,rfl,h⟩:=E1 (AX z)
 refine Ay Tryz.func101 rfl Tryz.ntmps101 rfl fun B p al=>Sr<|Vm<|Vx (Nc rfl)<|Vx (Fd Iz rfl)<|Vx (Ld CD rfl (Bc g rfl))<|Vr (.bool (a.why==0))<|AA<|Cn c (fun aa c=>?_) fun aa c=>?_
 refine Sr<|Vm<|Vm<|Vx (Nc rfl)<|Vx (Fd Iz rfl)<|Eu<|St Md g rfl rfl rfl rfl fun ab q r=>AA<|AM<|Vm<|Vm<|have s:=Ss Ac h r;Bi c fun d ac c=>Ca (Cg [Pt y 0] rfl) (CN e ab ac dcd dcd q (AO (x:=(AD.mk a.marks a.at_ f a.where_ (Ae.mk a.l.text a.l.funcs a.l.arity a.l.nest) a.nest)) s)) ?_
 rintro _ am ⟨ad,an,rfl,l,ae⟩
 obtain rfl:=DB ae
 refine Vx (v:=I d.at_) (Js (cs:=[I d.kind,Sb d.text,Cx d.num,I d.at_]) Xi rfl rfl)<|Vx (Nc rfl)<|Vx (Fd UV rfl)<|have af:=Bs q l;Eu<|St Md af rfl rfl rfl rfl fun ao ag u=>AA ?_
 obtain rfl:=AN c
 refine MX (B:=B) p<|MW rfl<|have ah:=K2 Ac s l u;⟨ad,[Sl n a.marks o,I a.at_,I f,I d.at_,I a.l.text,I a.l.funcs,I a.l.arity,I a.l.nest,I a.nest],rfl,Ho (T2 (Mo [1] r) l u) m,ag,(AO (x:=(AD.mk a.marks a.at_ f d.at_ (Ae.mk a.l.text a.l.funcs a.l.arity a.l.nest) a.nest)) ah)⟩
 refine WC.skip ?_
 obtain rfl:=AN c
 refine MX (B:=B) p<|MW rfl<|⟨e,[Sl n a.marks o,I a.at_,I a.why,I a.where_,I a.l.text,I a.l.funcs,I a.l.arity,I a.l.nest,I a.nest],rfl,Ho Rf m,g,(AO (x:=a) h)⟩
theorem E4:Br.Spec Br:=lk1 (N7)
def CG.At(G1 G2:Prop)(e:Col)(a:World)(f:AD→Option (Af×AD))(g:Nat):Prop:=
 ∀{h m n l},f m=some l→G1→G2→Bk e a g h n 126→BE.rep e.F a n m→
  Calls PG 102 #[Pt h 0] a fun q c=>∃d o p,q=.returned (Ag o)∧AS [g] e a d c∧Ac.rep d.F c o l.1∧Bk d c g h p 126∧BE.rep d.F c p l.2
def CG.Spec(f:AD→Option (Af×AD)):Prop:=
 ∀c d {a},CG.At ([a].Nodup) (0∉[a]) c d f a
theorem N8(r:Col)(al:World)(ac:∀b,r b<10):CG.At True True r al CG 1:=by
 intro s a bn am c _ _ an ao
 rw [CG] at c
 obtain ⟨ap,aq,rfl,ad⟩:=E1 (AX ao)
 refine Ay Tryz.func102 rfl Tryz.ntmps102 rfl fun B ae bp=>Sr<|Ef<|AU r 20 Gs rfl fun ar au av af n=>AA<|Sr<|Vm<|have o:=Bs an n;have u:=Ss Ac ad n;Bi c fun d aw c=>Ca (Cg [Pt s 0] rfl) (CN ar au aw dcd dcd o (AO (x:=a) u)) ?_
 rintro _ bq ⟨ax,br,rfl,f,ay⟩
 obtain rfl:=DB ay
 refine Ef<|AU ax 21 Gs rfl fun w bt az a0 g=>Eu<|St G7 a0 rfl rfl rfl rfl fun a1 ag h=>AA<|AY<|An (fun a2 y=>∃ah p z,a2=Env.puts ah [(0,Pt s 0),(2,Pt av 0),(3,Pt az 0),(15,.bool z)]∧F9 a d z=some am∧AS [] w a1 p y) ?_ ?_
 refine AM<|Vm<|Vx (Nc rfl)<|Vx (Fd Iz rfl)<|have a3:=Y3 o f g h;Vx (Ld CD rfl (Bc a3 rfl))<|Vr (.bool (a.why != 0))<|Vm<|Bo c (fun l c=>?_) fun l c=>?_
 refine Pg l<|Pg l<|Pg l<|Vp l<|AA<|⟨_,w,true,Pu,c,Rf⟩
 refine Gx l (Fz Km rfl)<|Gx l (Ld PH rfl (Bc ag rfl))<|Gr l (.bool (d.kind != 0))<|Vp l<|AA<|⟨_,w,(d.kind != 0),Pu,c,Rf⟩
 rintro _ y ⟨ah,p,z,rfl,c,m⟩
 rw [F9] at c
 refine Cn c (fun a4 c=>?_) fun a4 c=>?_
 refine Sr<|Vm<|have a5:=Y4 o f g h m;have a6:=K4 Ac u f g h m;Bi c fun e a7 c=>Ca (Cg [Pt s 0,I 21] rfl) (E4 p y a7 dcd dcd a5 (AO (x:=a) a6)) ?_
 rintro _ bu ⟨a8,bv,rfl,ai,a9,ba⟩
 obtain ⟨bb,bc,rfl,aj⟩:=E1 (AX ba)
 refine AA<|Sr<|Vx (v:=Ag [I 0,Sb ([]:Bts),Cx (((0,0):Nat×Nat)),I 0]) (Bp Gs U1 rfl .nil)<|have bd:=Bs (Y4 af f g h m) ai;Eu<|St G7 bd rfl rfl rfl rfl fun bx be aa=>AA<|AW ?_
 obtain rfl:=AN c
 refine O1 B ae rfl (.agg IG rfl rfl (Bw be))<|have bf:=Bs a9 aa;have bg:=Ss Ac aj aa;⟨a8,[I 0,Sb ([]:Bts),Cx (((0,0):Nat×Nat)),I 0],[Sl bb e.marks bc,I e.at_,I e.why,I e.where_,I e.l.text,I e.l.funcs,I e.l.arity,I e.l.nest,I e.nest],rfl,Ho (T2 (T4 (Mo [1,20,21] n) f g h m) ai aa) ac,(Fb (x:=(Af.mk 0 ([]:Bts) ((0,0):Nat×Nat) 0))),bf,(AO (x:=e) bg)⟩
 refine WC.skip<|Sr<|Vm<|Vx (Nc rfl)<|Vx (Fd GL rfl)<|have ak:=Y4 o f g h m;Vx (Ld CD rfl (Bc ak rfl))<|Vr (I (Wr (a.at_+1)))<|Vx (Nc rfl)<|Vx (Fd GL rfl)<|Eu<|St Md ak rfl rfl rfl rfl fun bz bh q=>AA<|Sr<|have bi:=Y2 ag m q;Vx (Lx IG rfl rfl (Bw bi))<|have bj:=Bs (Y4 af f g h m) q;Eu<|St G7 bj rfl rfl rfl rfl fun b0 bk ab=>AA<|AW ?_
 obtain rfl:=AN c
 refine O1 B ae rfl (.agg IG rfl rfl (Bw bk))<|have bl:=Bs bh ab;have bm:=K2 Ac (K4 Ac u f g h m) q ab;⟨p,[I d.kind,Sb d.text,Cx d.num,I d.at_],[Sl ap a.marks aq,I (Wr (a.at_+1)),I a.why,I a.where_,I a.l.text,I a.l.funcs,I a.l.arity,I a.l.nest,I a.nest],rfl,Ho (T2 (T4 (Mo [1,20,21] n) f g h m) q ab) ac,(Fb (x:=d)),bl,(AO (x:=(AD.mk a.marks (Wr (a.at_+1)) a.why a.where_ (Ae.mk a.l.text a.l.funcs a.l.arity a.l.nest) a.nest)) bm)⟩
theorem Ht:CG.Spec CG:=lk1 (N8)
def Bb.At(G1 G2:Prop)(c:Col)(a:World)(f:AD→Bts→Option Bool)(m:Nat):Prop:=
 ∀{d e g h l},f e h=some l→G1→G2→Bk c a m d g 126→BE.rep c.F a g e→
  Calls PG 104 #[Pt d 0,Sb h] a fun n o=>∃p,n=.returned (.bool l)∧AS [] c a p o
def Bb.Spec(f:AD→Bts→Option Bool):Prop:=
 ∀c d {a},Bb.At ([a].Nodup) (0∉[a]) c d f a
theorem PK(m:Col)(p:World)(ab:∀b,m b<10):Bb.At True True m p Bb 1:=by
 intro ac q ao g ad a _ _ r ae
 rw [Bb] at a
 obtain ⟨aq,ar,rfl,s⟩:=E1 (AX ae)
 refine Ay Tryz.func104 rfl Tryz.ntmps104 rfl fun B af au=>Sr<|Va (.bool false)<|AA<|Sr<|Vm<|Bi a fun e ag a=>Ca (Cg [Pt ac 0] rfl) (CN m p ag dcd dcd r (AO (x:=q) s)) ?_
 rintro _ av ⟨ah,aw,rfl,u,ai⟩
 obtain rfl:=DB ai
 refine Ef<|AU ah 20 Gs rfl fun h ax ay aj w=>Eu<|St G7 aj rfl rfl rfl rfl fun ak l y=>AA<|An (fun al z=>∃aa n o,al=Env.puts aa [(4,.bool o)]∧HC o=some ad∧AS [] h ak n z) ?_ ?_
 refine AM<|Vm<|Vx (Nc rfl)<|Vx (Fd Iz rfl)<|have am:=Y3 r u w y;Vx (Ld CD rfl (Bc am rfl))<|Vr (.bool (q.why==0))<|Vm<|Bo a (fun c a=>?_) fun c a=>?_
 refine Gx c (Fz Km rfl)<|Gx c (Ld PH rfl (Bc l rfl))<|Gr c (.bool (e.kind==1))<|Gm c<|Bo a (fun f a=>?_) fun f a=>?_
 refine Pg f<|Pg f<|Pg f<|Gp c f<|Vp c<|Vm<|Gx rfl (Fd FT rfl)<|Gx rfl (Ld CS rfl (Bc l rfl))<|Gm rfl<|Gx rfl (v:=.bool (e.text==g)) (Run.strEq rfl rfl)<|Vr (.bool (e.text==g))<|Va (.bool (e.text==g))<|AA<|⟨_,h,(e.text==g),Pu,a,Rf⟩
 refine Gx f (Fz Km rfl)<|Gx f (Ld PH rfl (Bc l rfl))<|Gr f (.bool (e.kind==3))<|Gp c f<|Vp c<|Vm<|Bo a (fun d a=>?_) fun d a=>?_
 refine Gx d (Fd FT rfl)<|Gx d (Ld CS rfl (Bc l rfl))<|Gm d<|Gx d (v:=.bool (e.text==g)) (Run.strEq rfl rfl)<|Vp d<|Va (.bool (e.text==g))<|AA<|⟨_,h,(e.text==g),Pu,a,Rf⟩
 refine Pg d<|Pg d<|Pg d<|Pg d<|Vp d<|Va (.bool false)<|AA<|⟨_,h,false,Pu,a,Rf⟩
 refine Pg c<|Pg c<|Pg c<|Pg c<|Po<|Po<|Po<|Pg c<|Vp c<|Vm<|Pg rfl<|Pg rfl<|Pg rfl<|Pg rfl<|Vr (.bool false)<|Va (.bool false)<|AA<|⟨_,h,false,Pu,a,Rf⟩
 rintro _ z ⟨aa,n,o,rfl,a,an⟩
 rw [HC] at a
 refine AW ?_
 obtain rfl:=AN a
 refine O1 B af rfl (.tmp rfl)<|⟨n,rfl,Ho (T3 (Mo [20] u) w y an) ab⟩
theorem Cs:Bb.Spec Bb:=lk1 (PK)
def Bt.At(G1 G2:Prop)(c:Col)(a:World)(f:AD→Bts→Option (Bool×AD))(d:Nat):Prop:=
 ∀{e m n o g},f m o=some g→G1→G2→Bk c a d e n 126→BE.rep c.F a n m→
  Calls PG 130 #[Pt e 0,Sb o] a fun q h=>∃l p,q=.returned (.bool g.1)∧AS [d] c a l h∧Bk l h d e p 126∧BE.rep l.F h p g.2
def Bt.Spec(f:AD→Bts→Option (Bool×AD)):Prop:=
 ∀c d {a},Bt.At ([a].Nodup) (0∉[a]) c d f a
theorem N9(f:Col)(h:World)(l:∀b,f b<10):Bt.At True True f h Bt 1:=by
 intro s a af u ag c _ _ g w
 rw [Bt] at c
 obtain ⟨m,n,rfl,e⟩:=E1 (AX w)
 refine Ay Tryz.func130 rfl Tryz.ntmps130 rfl fun B o ai=>Sr<|Va (.bool false)<|AA<|AY<|Sr<|Vm<|Vm<|Bi c fun y z c=>Ca (Cg [Pt s 0,Sb u] rfl) (Cs f h z dcd dcd g (AO (x:=a) e)) ?_
 rintro _ aj ⟨p,rfl,d⟩
 refine Vr (.bool (!y))<|AA<|Cn c (fun aa c=>?_) fun aa c=>?_
 refine Sr<|Va (.bool false)<|AA<|AW ?_
 obtain rfl:=AN c
 refine O1 B o rfl (.tmp rfl)<|have ab:=Bs g d;have ac:=Ss Ac e d;⟨p,[Sl m a.marks n,I a.at_,I a.why,I a.where_,I a.l.text,I a.l.funcs,I a.l.arity,I a.l.nest,I a.nest],rfl,Ho (Mo [] d) l,ab,(AO (x:=a) ac)⟩
 refine WC.skip<|Sr<|Vm<|Vx (Nc rfl)<|Vx (Fd GL rfl)<|have q:=Bs g d;Vx (Ld CD rfl (Bc q rfl))<|Vr (I (Wr (a.at_+1)))<|Vx (Nc rfl)<|Vx (Fd GL rfl)<|Eu<|St Md q rfl rfl rfl rfl fun ak ad r=>AA<|Sr<|Va (.bool true)<|AA<|AW ?_
 obtain rfl:=AN c
 refine O1 B o rfl (.tmp rfl)<|have ae:=K2 Ac e d r;⟨p,[Sl m a.marks n,I (Wr (a.at_+1)),I a.why,I a.where_,I a.l.text,I a.l.funcs,I a.l.arity,I a.l.nest,I a.nest],rfl,Ho (Tn (Mo [1] d) r) l,ad,(AO (x:=(AD.mk a.marks (Wr (a.at_+1)) a.why a.where_ (Ae.mk a.l.text a.l.funcs a.l.arity a.l.nest) a.nest)) ae)⟩
theorem E5:Bt.Spec Bt:=lk1 (N9)
def A4.At(G1 G2:Prop)(c:Col)(a:World)(f:AD→Bts→Option AD)(d:Nat):Prop:=
 ∀{e l m n o},f l n=some o→G1→G2→Bk c a d e m 126→BE.rep c.F a m l→
  Calls PG 103 #[Pt e 0,Sb n] a fun q g=>∃h p,q=.returned (.tuple #[])∧AS [d] c a h g∧Bk h g d e p 126∧BE.rep h.F g p o
def A4.Spec(f:AD→Bts→Option AD):Prop:=
 ∀c d {a},A4.At ([a].Nodup) (0∉[a]) c d f a
theorem OA(e:Col)(g:World)(h:∀b,e b<10):A4.At True True e g A4 1:=by
 intro l s am u an c _ _ w y
 rw [A4] at c
 obtain ⟨ap,aq,rfl,m⟩:=E1 (AX y)
 refine Ay Tryz.func103 rfl Tryz.ntmps103 rfl fun B n ar=>Sr<|Vm<|Vm<|Bi c fun a z c=>Ca (Cg [Pt l 0,Sb u] rfl) (E5 e g z dcd dcd w (AO (x:=s) m)) ?_
 rintro _ aa ⟨o,au,rfl,p,q,ab⟩
 obtain ⟨ac,ad,rfl,f⟩:=E1 (AX ab)
 refine Vr (.bool (!a.1))<|AA<|Cn c (fun ae c=>?_) fun ae c=>?_
 refine AM<|Vm<|Bi c fun d af c=>Ca (Cg [Pt l 0,I 21] rfl) (E4 o aa af dcd dcd q (AO (x:=a.2) f)) ?_
 rintro _ aw ⟨ag,ax,rfl,ah,ai,aj⟩
 obtain ⟨ak,al,rfl,r⟩:=E1 (AX aj)
 refine AA ?_
 obtain rfl:=AN c
 refine MX (B:=B) n<|MW rfl<|⟨ag,[Sl ak d.marks al,I d.at_,I d.why,I d.where_,I d.l.text,I d.l.funcs,I d.l.arity,I d.l.nest,I d.nest],rfl,Ho (Tn (Mo [1] p) ah) h,ai,(AO (x:=d) r)⟩
 refine WC.skip ?_
 obtain rfl:=AN c
 refine MX (B:=B) n<|MW rfl<|⟨o,[Sl ac a.2.marks ad,I a.2.at_,I a.2.why,I a.2.where_,I a.2.l.text,I a.2.l.funcs,I a.2.l.arity,I a.2.l.nest,I a.2.nest],rfl,Ho (Mo [1] p) h,q,(AO (x:=a.2) f)⟩
theorem BP:A4.Spec A4:=lk1 (OA)
def CJ.At(G1 G2:Prop)(c:Col)(a:World)(f:AD→Option (Int×AD))(d:Nat):Prop:=
 ∀{e m n g},f m=some g→G1→G2→Bk c a d e n 126→BE.rep c.F a n m→
  Calls PG 105 #[Pt e 0] a fun p h=>∃l o,p=.returned (I g.1)∧AS [d] c a l h∧Bk l h d e o 126∧BE.rep l.F h o g.2
def CJ.Spec(f:AD→Option (Int×AD)):Prop:=
 ∀c d {a},CJ.At ([a].Nodup) (0∉[a]) c d f a
theorem Oh(aj:Nat)(ac:Col)(a4:World)(ak:∀b,ac b<10):CJ.At True True ac a4 (CJ aj) 1:=by
 intro z f bx al a _ _ a5 a6
 rw [CJ] at a
 obtain ⟨a7,a8,rfl,am⟩:=E1 (AX a6)
 refine Ay Tryz.func105 rfl Tryz.ntmps105 rfl fun B an b0=>Sr<|Va (I 0)<|AA<|Sr<|Ef<|Bf (cs:=[Sb ([78]:Bts),Sb ([66]:Bts),Sb ([76]:Bts)]) ac 20 [[Sb ([78]:Bts)],[Sb ([66]:Bts)],[Sb ([76]:Bts)]] H8 PV rfl rfl (.cons rfl rfl rfl (.cons rfl rfl rfl (.cons rfl rfl rfl .nil))) rfl fun ad ao ae a9 aa=>have ba:Own DK 9 ad ao 20 (.slice (some ⟨ae,0,none⟩) 3 3) ([([78]:Bts),([66]:Bts),([76]:Bts)]:List Bts):=Own.lit (css:=[[Sb ([78]:Bts)],[Sb ([66]:Bts)],[Sb ([76]:Bts)]]) a9 rfl rfl rfl (AQ rfl (AQ rfl (AQ rfl Au))) (Av rfl (Av rfl (Av rfl CP))) rfl;Va (Sl (some ⟨ae,0,none⟩) (([([78]:Bts),([66]:Bts),([76]:Bts)]:List Bts)) 3)<|AA<|AY<|Sr<|Va (I 0)<|AA<|Ad<|Bj (fun g bb l=>∃ap m d h af ag n o p q r u w y,bb=Env.puts ap [(0,Pt z 0),(3,Sl (some ⟨ae,0,none⟩) (([([78]:Bts),([66]:Bts),([76]:Bts)]:List Bts)) 3),(4,I d)]∧CI g d h n o p q r u w y=some al∧AS [1] ad ao m l∧Slc Ac m.F l (Sl af h ag) h∧Bk m l 1 z [Sl af h ag,I n,I o,I p,I q,I r,I u,I w,I y] 126) aj ?_ ?_
 refine have bc:=Ss Ac am aa;have bd:=Bs a5 aa;⟨_,ad,0,f.marks,a7,a8,f.at_,f.why,f.where_,f.l.text,f.l.funcs,f.l.arity,f.l.nest,f.nest,Pu,a,(AS.refl [1] _ _),bc,bd⟩
 rintro g _ l ⟨ap,m,d,h,af,ag,n,o,p,q,r,u,w,y,rfl,a,ab,aq,ar⟩
 rcases g with _|g
 exact A6 a
 refine have a:DC (CI g) d h n o p q r u w y=some al:=a; ?_
 obtain ⟨b1,au⟩:∃s,s=CI g:=⟨_,rfl⟩
 rw [←au,DC] at a
 refine AY<|Sr<|Vm<|Vm<|have av:=Os ba ab; ?_
 obtain ⟨b2,b3,be⟩:=Own.len av
 refine Vx (v:=I (([([78]:Bts),([66]:Bts),([76]:Bts)]:List Bts).length:Int)) (Ll H8 be)<|Vr (.bool (decide (d< (([([78]:Bts),([66]:Bts),([76]:Bts)]:List Bts).length:Int))))<|AA<|Cn a (fun bf a=>?_) fun bf a=>?_
 refine WC.skip<|AY<|Ad<|Sr<|Vm<|Vm<|Vm<|Bi a fun aw bg a=>?_
 obtain ⟨bh,b4,ax,bi,bj,bk,bl,ah⟩:=WW (κ:=DK) av bg
 replace ah:Pe 20 m l bh (0+d.toNat*1) ax:=ah
 obtain rfl:=(show ax=[Sb aw] from bl)
 refine Vx (Ix H8 bi rfl bj bk)<|Vx (Ld CS rfl (Pe.cell0 ah rfl))<|Bi a fun c bm a=>Ca (Cg [Pt z 0,Sb aw] rfl) (E5 m l bm dcd dcd ar (AO (x:=(AD.mk h n o p (Ae.mk q r u w) y)) aq)) ?_
 rintro _ b5 ⟨ay,b6,rfl,az,a0,bn⟩
 obtain ⟨a1,a2,rfl,ai⟩:=E1 (AX bn)
 refine AA<|Cn a (fun bo a=>?_) fun bo a=>?_
 refine Sr<|Vm<|Vr (I (Wr (d+1)))<|Va (I (Wr (d+1)))<|AA<|AW ?_
 obtain rfl:=AN a
 refine O1 B an rfl (.tmp rfl)<|⟨ay,[Sl a1 c.2.marks a2,I c.2.at_,I c.2.why,I c.2.where_,I c.2.l.text,I c.2.l.funcs,I c.2.l.arity,I c.2.l.nest,I c.2.nest],rfl,Ho (T2 (Mo [1] aa) ab az) ak,a0,(AO (x:=c.2) ai)⟩
 refine WC.skip<|AM<|Vm<|Vr (I (Wr (d+1)))<|Va (I (Wr (d+1)))<|AA<|⟨g,Nat.lt_succ_self g,_,ay,(Wr (d+1)),c.2.marks,a1,a2,c.2.at_,c.2.why,c.2.where_,c.2.l.text,c.2.l.funcs,c.2.l.arity,c.2.l.nest,c.2.nest,Pu,(au▸a),(Tn (Mo [1] ab) az),ai,a0⟩
 refine BZ<|Sr<|Vm<|Bi a fun e bp a=>Ca (Cg [Pt z 0,I 21] rfl) (E4 m l bp dcd dcd ar (AO (x:=(AD.mk h n o p (Ae.mk q r u w) y)) aq)) ?_
 rintro _ b8 ⟨bq,b9,rfl,br,bt,bu⟩
 obtain ⟨bv,bw,rfl,a3⟩:=E1 (AX bu)
 refine AA<|Sr<|Va (I 0)<|AA<|AW ?_
 obtain rfl:=AN a
 refine O1 B an rfl (.tmp rfl)<|⟨bq,[Sl bv e.marks bw,I e.at_,I e.why,I e.where_,I e.l.text,I e.l.funcs,I e.l.arity,I e.l.nest,I e.nest],rfl,Ho (T2 (Mo [1] aa) ab br) ak,bt,(AO (x:=e) a3)⟩
theorem JS(d:Nat):CJ.Spec (CJ d):=lk1 (Oh d)
def Is.At(c:Col)(a:World)(f:Int→AB→AB→Af→Option AB):Prop:=
 ∀{d e g h l m n o},f d e h m=some o→AJ.rep c.F a g e→AJ.rep c.F a l h→Ac.rep c.F a n m→
  Calls PG 144 #[I d,Ag g,Ag l,Ag n] a fun s p=>∃q r,s=.returned (Ag r)∧AS [] c a q p∧AJ.rep q.F p r o
def Is.Spec(f:Int→AB→AB→Af→Option AB):Prop:=
 ∀a c,Is.At a c f
theorem Tx(r:Col)(ac:World)(ad:∀b,r b<10):Is.At r ac Is:=by
 intro d a a6 c a7 e a8 a9 u ae af ag
 rw [Is] at u
 obtain ⟨m,n,rfl,w⟩:=E1 (Ai ae)
 obtain ⟨o,p,rfl,y⟩:=E1 (Ai af)
 obtain rfl:=DB ag
 refine Ay Tryz.func144 rfl Tryz.ntmps144 rfl fun B ah bc=>Sr<|Ef<|BX r 20 rfl rfl fun ai bd be aj s=>Ef<|BX ai 21 rfl rfl fun ak bf bg al q=>Ef<|BX ak 22 rfl rfl fun am bh bi an h=>Ef<|AU am 23 By rfl fun ao bj bk ap f=>AA<|Sr<|Vm<|have aq:=Y3 aj q h f;Vx (Lx BA rfl rfl (Bw aq))<|have ar:=Y2 al h f;Vx (Lx BA rfl rfl (Bw ar))<|Ef<|Bf (cs:=[I a.op,Sb a.name,Sb a.tail,I a.type_,Cx a.num,Sl m a.args n,I a.at_,I c.op,Sb c.name,Sb c.tail,I c.type_,Cx c.num,Sl o c.args p,I c.at_]) ao 24 [[I a.op,Sb a.name,Sb a.tail,I a.type_,Cx a.num,Sl m a.args n,I a.at_],[I c.op,Sb c.name,Sb c.tail,I c.type_,Cx c.num,Sl o c.args p,I c.at_]] C9 By rfl rfl (.cons rfl rfl rfl (.cons rfl rfl rfl .nil)) rfl fun au av g aw l=>have ax:=Ss AJ (K4 AJ y s q h f) l;have ay:=Ss AJ (K4 AJ w s q h f) l;have z:Own AJ 56 au av 24 (.slice (some ⟨g,0,none⟩) 2 2) ([a,c]:List AB):=Own.lit (css:=[[I a.op,Sb a.name,Sb a.tail,I a.type_,Cx a.num,Sl m a.args n,I a.at_],[I c.op,Sb c.name,Sb c.tail,I c.type_,Cx c.num,Sl o c.args p,I c.at_]]) aw rfl rfl rfl (AQ (Ab (x:=a) ay) (AQ (Ab (x:=c) ax) Au)) (Av rfl (Av rfl CP)) rfl;Vx (Fd LI rfl)<|have az:=Y2 an f l;Vx (Ld CD rfl (Bc az rfl))<|Vx (v:=Ag [I d,Sb ([]:Bts),Sb ([]:Bts),I 0,Cx (((0,0):Nat×Nat)),Sl (some ⟨g,0,none⟩) (([a,c]:List AB)) 2,I e.at_]) (Bp By Jn rfl (.cons rfl rfl rfl (.cons rfl rfl rfl (.cons rfl rfl rfl .nil))))<|have a0:=Bs ap l;Eu<|BB (vs:=[I d,Sb ([]:Bts),Sb ([]:Bts),I 0,Cx (((0,0):Nat×Nat)),Sl (some ⟨g,0,none⟩) (([a,c]:List AB)) 2,I e.at_]) (cs':=[I d,Sb ([]:Bts),Sb ([]:Bts),I 0,Cx (((0,0):Nat×Nat)),Sl (some ⟨g,0,none⟩) (([a,c]:List AB)) 2,I e.at_]) CV rfl rfl rfl rfl (AP rfl (AP rfl (AP rfl (AP rfl (AP rfl (AP (Own.one z) (AP rfl BO))))))) a0 dcd rfl rfl fun bl a1 aa=>AA<|AW<|have a2:=Os z aa; ?_
 obtain ⟨a3,ab,a4⟩:=Own.freeze (S:=[24]) a2 dcd dcd
 obtain rfl:=AN u
 refine have a5:=Bs a1 ab;O1 B ah rfl (.agg BA rfl rfl (Bw a5))<|⟨a3,[I d,Sb ([]:Bts),Sb ([]:Bts),I 0,Cx (((0,0):Nat×Nat)),Sl (some ⟨g,0,none⟩) (([a,c]:List AB)) 2,I e.at_],rfl,Ho (T2 (T4 (Mo [23,24] s) q h f l) aa ab) ad,(Ab (x:=(AB.mk d ([]:Bts) ([]:Bts) 0 ((0,0):Nat×Nat) ([a,c]:List AB) e.at_)) a4)⟩
theorem MO:Is.Spec Is:=lk0 (Tx)
def Hx.At(e:Col)(a:World)(f:Bts→Option Int):Prop:=
 ∀{c d},f c=some d→
  Calls PG 163 #[Sb c] a fun g h=>∃l,g=.returned (I d)∧AS [] e a l h
def Hx.Spec(f:Bts→Option Int):Prop:=
 ∀a c,Hx.At a c f
theorem Sm(d:Col)(g:World)(e:∀b,d b<10):Hx.At d g Hx:=by
 intro c s a
 rw [Hx] at a
 refine Ay Tryz.func163 rfl Tryz.ntmps163 rfl fun B f u=>Sr<|Va (I 0)<|AA<|AY<|Sr<|Vm<|AA<|Ad<|Sr<|Vx (v:=.bool (c==([116,114,117,101]:Bts))) (Run.strEq rfl rfl)<|Va (.bool (c==([116,114,117,101]:Bts)))<|AA<|Cn a (fun h a=>?_) fun h a=>?_
 refine Sr<|Va (I 2)<|AA<|AW ?_
 obtain rfl:=AN a
 refine O1 B f rfl (.tmp rfl)<|⟨d,rfl,Ho Rf e⟩
 refine Sr<|Vx (v:=.bool (c==([102,97,108,115,101]:Bts))) (Run.strEq rfl rfl)<|Va (.bool (c==([102,97,108,115,101]:Bts)))<|AA<|Cn a (fun l a=>?_) fun l a=>?_
 refine Sr<|Va (I 3)<|AA<|AW ?_
 obtain rfl:=AN a
 refine O1 B f rfl (.tmp rfl)<|⟨d,rfl,Ho Rf e⟩
 refine Sr<|Vx (v:=.bool (c==([110,105,108]:Bts))) (Run.strEq rfl rfl)<|Va (.bool (c==([110,105,108]:Bts)))<|AA<|Cn a (fun m a=>?_) fun m a=>?_
 refine Sr<|Va (I 4)<|AA<|AW ?_
 obtain rfl:=AN a
 refine O1 B f rfl (.tmp rfl)<|⟨d,rfl,Ho Rf e⟩
 refine Sr<|Vx (v:=.bool (c==([102,97,105,108]:Bts))) (Run.strEq rfl rfl)<|Va (.bool (c==([102,97,105,108]:Bts)))<|AA<|Cn a (fun n a=>?_) fun n a=>?_
 refine Sr<|Va (I 5)<|AA<|AW ?_
 obtain rfl:=AN a
 refine O1 B f rfl (.tmp rfl)<|⟨d,rfl,Ho Rf e⟩
 refine Sr<|Vx (v:=.bool (c==([110,111,116]:Bts))) (Run.strEq rfl rfl)<|Va (.bool (c==([110,111,116]:Bts)))<|AA<|Cn a (fun o a=>?_) fun o a=>?_
 refine Sr<|Va (I 14)<|AA<|AW ?_
 obtain rfl:=AN a
 refine O1 B f rfl (.tmp rfl)<|⟨d,rfl,Ho Rf e⟩
 refine Sr<|Vx (v:=.bool (c==([114,101]:Bts))) (Run.strEq rfl rfl)<|Va (.bool (c==([114,101]:Bts)))<|AA<|Cn a (fun p a=>?_) fun p a=>?_
 refine Sr<|Va (I 15)<|AA<|AW ?_
 obtain rfl:=AN a
 refine O1 B f rfl (.tmp rfl)<|⟨d,rfl,Ho Rf e⟩
 refine Sr<|Vx (v:=.bool (c==([105,109]:Bts))) (Run.strEq rfl rfl)<|Va (.bool (c==([105,109]:Bts)))<|AA<|Cn a (fun q a=>?_) fun q a=>?_
 refine Sr<|Va (I 16)<|AA<|AW ?_
 obtain rfl:=AN a
 refine O1 B f rfl (.tmp rfl)<|⟨d,rfl,Ho Rf e⟩
 refine Sr<|Vx (v:=.bool (c==([99,111,110,106]:Bts))) (Run.strEq rfl rfl)<|Va (.bool (c==([99,111,110,106]:Bts)))<|AA<|Cn a (fun r a=>?_) fun r a=>?_
 refine Sr<|Va (I 17)<|AA<|AW ?_
 obtain rfl:=AN a
 refine O1 B f rfl (.tmp rfl)<|⟨d,rfl,Ho Rf e⟩
 refine WC.skip<|Sr<|Va (I 0)<|AA<|AW ?_
 obtain rfl:=AN a
 refine O1 B f rfl (.tmp rfl)<|⟨d,rfl,Ho Rf e⟩
theorem M9:Hx.Spec Hx:=lk0 (Sm)
def ref04_reader_expr.At(G1 G2:Prop)(e:Col)(a:World)(f:AD→Option (AB×AD))(g:Nat):Prop:=
 ∀{h m n l},f m=some l→G1→G2→Bk e a g h n 126→BE.rep e.F a n m→
  Calls PG 106 #[Pt h 0] a fun q c=>∃d o p,q=.returned (Ag o)∧AS [g] e a d c∧AJ.rep d.F c o l.1∧Bk d c g h p 126∧BE.rep d.F c p l.2
def ref04_reader_expr.Spec(f:AD→Option (AB×AD)):Prop:=
 ∀c d {a},ref04_reader_expr.At ([a].Nodup) (0∉[a]) c d f a
def ref04_reader_cons.At(G1 G2:Prop)(e:Col)(a:World)(f:AD→Option (AB×AD))(g:Nat):Prop:=
 ∀{h m n l},f m=some l→G1→G2→Bk e a g h n 126→BE.rep e.F a n m→
  Calls PG 131 #[Pt h 0] a fun q c=>∃d o p,q=.returned (Ag o)∧AS [g] e a d c∧AJ.rep d.F c o l.1∧Bk d c g h p 126∧BE.rep d.F c p l.2
def ref04_reader_cons.Spec(f:AD→Option (AB×AD)):Prop:=
 ∀c d {a},ref04_reader_cons.At ([a].Nodup) (0∉[a]) c d f a
def ref04_reader_parts.At(G1 G2:Prop)(c:Col)(a:World)(f:AD→(List Bts)→Option ((List AB)×AD))(g:Nat):Prop:=
 ∀{h m n o p l},f m o=some l→G1→G2→Bk c a g h n 126→BE.rep c.F a n m→Slc DK c.F a p o→
  Calls PG 132 #[Pt h 0,p] a fun s d=>∃e q r,s=.returned q∧AS [g] c a e d∧Slc AJ e.F d q l.1∧Bk e d g h r 126∧BE.rep e.F d r l.2
def ref04_reader_parts.Spec(f:AD→(List Bts)→Option ((List AB)×AD)):Prop:=
 ∀c d {a},ref04_reader_parts.At ([a].Nodup) (0∉[a]) c d f a
def ref04_reader_branches.At(G1 G2:Prop)(c:Col)(a:World)(f:AD→AB→Option (AD×AB))(g h:Nat):Prop:=
 ∀{l o p m q r n},f o q=some n→G1→G2→Bk c a g l p 126→BE.rep c.F a p o→Bk c a h m r 56→AJ.rep c.F a r q→
  Calls PG 133 #[Pt l 0,Pt m 0] a fun w d=>∃e s u,w=.returned (.tuple #[])∧AS [g,h] c a e d∧Bk e d g l s 126∧BE.rep e.F d s n.1∧Bk e d h m u 56∧AJ.rep e.F d u n.2
def ref04_reader_branches.Spec(f:AD→AB→Option (AD×AB)):Prop:=
 ∀d e {a c},ref04_reader_branches.At ([a,c].Nodup) (0∉[a,c]) d e f a c
def ref04_reader_comp.At(G1 G2:Prop)(e:Col)(a:World)(f:AD→Option (AB×AD))(g:Nat):Prop:=
 ∀{h m n l},f m=some l→G1→G2→Bk e a g h n 126→BE.rep e.F a n m→
  Calls PG 143 #[Pt h 0] a fun q c=>∃d o p,q=.returned (Ag o)∧AS [g] e a d c∧AJ.rep d.F c o l.1∧Bk d c g h p 126∧BE.rep d.F c p l.2
def ref04_reader_comp.Spec(f:AD→Option (AB×AD)):Prop:=
 ∀c d {a},ref04_reader_comp.At ([a].Nodup) (0∉[a]) c d f a
def ref04_reader_sum.At(G1 G2:Prop)(e:Col)(a:World)(f:AD→Option (AB×AD))(g:Nat):Prop:=
 ∀{h m n l},f m=some l→G1→G2→Bk e a g h n 126→BE.rep e.F a n m→
  Calls PG 148 #[Pt h 0] a fun q c=>∃d o p,q=.returned (Ag o)∧AS [g] e a d c∧AJ.rep d.F c o l.1∧Bk d c g h p 126∧BE.rep d.F c p l.2
def ref04_reader_sum.Spec(f:AD→Option (AB×AD)):Prop:=
 ∀c d {a},ref04_reader_sum.At ([a].Nodup) (0∉[a]) c d f a
def ref04_reader_term.At(G1 G2:Prop)(e:Col)(a:World)(f:AD→Option (AB×AD))(g:Nat):Prop:=
 ∀{h m n l},f m=some l→G1→G2→Bk e a g h n 126→BE.rep e.F a n m→
  Calls PG 151 #[Pt h 0] a fun q c=>∃d o p,q=.returned (Ag o)∧AS [g] e a d c∧AJ.rep d.F c o l.1∧Bk d c g h p 126∧BE.rep d.F c p l.2
def ref04_reader_term.Spec(f:AD→Option (AB×AD)):Prop:=
 ∀c d {a},ref04_reader_term.At ([a].Nodup) (0∉[a]) c d f a
def ref04_reader_unit.At(G1 G2:Prop)(e:Col)(a:World)(f:AD→Option (AB×AD))(g:Nat):Prop:=
 ∀{h m n l},f m=some l→G1→G2→Bk e a g h n 126→BE.rep e.F a n m→
  Calls PG 157 #[Pt h 0] a fun q c=>∃d o p,q=.returned (Ag o)∧AS [g] e a d c∧AJ.rep d.F c o l.1∧Bk d c g h p 126∧BE.rep d.F c p l.2
def ref04_reader_unit.Spec(f:AD→Option (AB×AD)):Prop:=
 ∀c d {a},ref04_reader_unit.At ([a].Nodup) (0∉[a]) c d f a
def ref04_reader_named.At(G1 G2:Prop)(c:Col)(a:World)(f:AD→Af→Option (AB×AD))(g:Nat):Prop:=
 ∀{h m n o p l},f m o=some l→G1→G2→Bk c a g h n 126→BE.rep c.F a n m→Ac.rep c.F a p o→
  Calls PG 162 #[Pt h 0,Ag p] a fun s d=>∃e q r,s=.returned (Ag q)∧AS [g] c a e d∧AJ.rep e.F d q l.1∧Bk e d g h r 126∧BE.rep e.F d r l.2
def ref04_reader_named.Spec(f:AD→Af→Option (AB×AD)):Prop:=
 ∀c d {a},ref04_reader_named.At ([a].Nodup) (0∉[a]) c d f a
structure AC.Good(a:AC):Prop where
 ref04_reader_expr:ref04_reader_expr.Spec a.ref04_reader_expr
 ref04_reader_cons:ref04_reader_cons.Spec a.ref04_reader_cons
 ref04_reader_parts:ref04_reader_parts.Spec a.ref04_reader_parts
 ref04_reader_branches:ref04_reader_branches.Spec a.ref04_reader_branches
 ref04_reader_comp:ref04_reader_comp.Spec a.ref04_reader_comp
 ref04_reader_sum:ref04_reader_sum.Spec a.ref04_reader_sum
 ref04_reader_term:ref04_reader_term.Spec a.ref04_reader_term
 ref04_reader_unit:ref04_reader_unit.Spec a.ref04_reader_unit
 ref04_reader_named:ref04_reader_named.Spec a.ref04_reader_named
theorem OB(aq:AC)(ar:Nat)(b4:AC.Good aq)(ct:Col)(ek:World)(cu:∀b,ct b<10):ref04_reader_expr.At True True ct ek (Ct aq ar) 1:=by
 intro c h i3 au a _ _ el em
 rw [Ct] at a
 obtain ⟨en,eo,rfl,db⟩:=E1 (AX em)
 refine Ay Tryz.func106 rfl Tryz.ntmps106 rfl fun B cv e=>Sr<|Ef<|AU ct 20 By rfl fun ep eq av cw bt=>AA<|Sr<|Vm<|have bu:=Bs el bt;have b5:=Ss Ac db bt;Bi a fun m er a=>Ca (Cg [Pt c 0] rfl) (CN ep eq er dcd dcd bu (AO (x:=h) b5)) ?_
 rintro _ i5 ⟨es,i6,rfl,ab,et⟩
 obtain rfl:=DB et
 refine Ef<|AU es 21 Gs rfl fun dc i7 bv eu ac=>Eu<|St G7 eu rfl rfl rfl rfl fun de ew ad=>AA<|An (fun p b6=>∃f a3 l,p=Env.puts f [(0,Pt c 0),(2,Pt av 0),(3,Pt bv 0),(4,.bool l)]∧DD aq ar h m l=some au∧AS [] dc de a3 b6) ?_ ?_
 refine AM<|Vm<|have df:=Y3 bu ab ac ad;have dg:=K3 Ac b5 ab ac ad;Bi a fun i8 ex a=>Ca (Cg [Pt c 0,Sb ([108,101,116]:Bts)] rfl) (Cs dc de ex dcd dcd df (AO (x:=h) dg)) ?_
 rintro _ ey ⟨dh,rfl,bw⟩
 refine Vm<|Bo a (fun a4 a=>?_) fun a4 a=>?_
 refine Pg a4<|Pg a4<|Vp a4<|Vm<|Pg rfl<|Pg rfl<|Vr (.bool true)<|Va (.bool true)<|AA<|⟨_,dh,true,Pu,a,(Mo [] bw)⟩
 refine Gm a4<|have di:=Bs df bw;have dj:=Ss Ac dg bw;Bi a fun i9 ez a=>B7 (.guard (t:=false) (b:=false) rfl rfl rfl rfl (Cb a4)) rfl rfl (Cg [Pt c 0,Sb ([115,116,114,105,99,116]:Bts)] rfl)<|Calls.mono (Cs dh ey ez dcd dcd di (AO (x:=h) dj)) ?_
 rintro _ e0 ⟨dk,rfl,b7⟩
 refine ⟨_,rfl,?_⟩
 refine Vp a4<|Vm<|Bo a (fun a5 a=>?_) fun a5 a=>?_
 refine Pg a5<|Pg a5<|Vp a5<|Va (.bool true)<|AA<|⟨_,dk,true,Pu,a,(Tn (Mo [] bw) b7)⟩
 refine Gm a5<|have e1:=Bs di b7;have e2:=Ss Ac dj b7;Bi a fun dl e3 a=>B7 (.guard (t:=false) (b:=false) rfl rfl rfl rfl (Cb a5)) rfl rfl (Cg [Pt c 0,Sb ([99,97,115,101]:Bts)] rfl)<|Calls.mono (Cs dk e0 e3 dcd dcd e1 (AO (x:=h) e2)) ?_
 rintro _ ja ⟨e4,rfl,e5⟩
 refine ⟨_,rfl,?_⟩
 refine Vp a5<|Va (.bool dl)<|AA<|⟨_,e4,dl,Pu,a,(T2 (Mo [] bw) b7 e5)⟩
 rintro _ b6 ⟨f,a3,l,rfl,a,ae⟩
 rw [DD] at a
 refine An (fun p bg=>∃f aw n bx bz q r u w y z aa ag,p=Env.puts f [(0,Pt c 0),(2,Pt av 0),(3,Pt bv 0),(4,.bool l)]∧Dh aq ar m l n q r u w y z aa ag=some au∧AS [1] a3 b6 aw bg∧Slc Ac aw.F bg (Sl bx n bz) n∧Bk aw bg 1 c [Sl bx n bz,I q,I r,I u,I w,I y,I z,I aa,I ag] 126) ?_ ?_
 refine An (fun p cx=>∃f b8 cy,p=Env.puts f [(0,Pt c 0),(2,Pt av 0),(3,Pt bv 0),(4,.bool l),(31,.bool cy)]∧Di aq ar h m l cy=some au∧AS [] a3 b6 b8 cx) ?_ ?_
 refine B8 Eg (qs 0 13 .nil) [] [] a3 (by kernel_rfl) fun jb cz=>Qx e rfl (v:=.bool l) (fun _ _=>Mv rfl)<|Qx e rfl (v:=.bool l) (fun _ _=>Mv rfl)<|Bo a (fun g a=>?_) fun g a=>?_
 refine Qg e rfl g (v:=Pt c 0) (fun _ _=>Mv rfl)<|Qg e rfl g (fun _ _=>Nc rfl)<|Qg e rfl g (fun _ _=>Fd NQ rfl)<|have dm:=Bs (Y4 bu ab ac ad ae) cz;Qg e rfl g (fun _ ⟨_,s⟩=>Ld CD rfl (Bc (Bs dm s) rfl))<|Qg e rfl g (v:=Pt c 0) (fun _ _=>Mv rfl)<|Qg e rfl g (fun _ _=>Nc rfl)<|Qg e rfl g (fun _ _=>Fd Qh rfl)<|Qg e rfl g (fun _ _=>Fd YE rfl)<|Qg e rfl g (fun _ ⟨_,s⟩=>Ld CD rfl (Bc (Bs dm s) rfl))<|Qg e rfl g (v:=.bool (decide (h.nest≥h.l.nest))) (fun _ _=>rfl)<|Qx e rfl (v:=.bool (decide (h.nest≥h.l.nest))) (fun _ _=>(Pk g))<|Dt<|⟨_,a3,(decide (h.nest≥h.l.nest)),Pu,a,(Mo [] cz)⟩
 refine Qp e rfl g<|Qp e rfl g<|Qp e rfl g<|Qp e rfl g<|Qp e rfl g<|Qp e rfl g<|Qp e rfl g<|Qp e rfl g<|Qp e rfl g<|Qp e rfl g<|Qx e rfl (v:=.bool false) (fun _ _=>(Pk g))<|Dt<|⟨_,a3,false,Pu,a,(Mo [] cz)⟩
 rintro _ cx ⟨f,b8,cy,rfl,a,bh⟩
 rw [Di] at a
 refine Cn a (fun e6 a=>?_) fun e6 a=>?_
 refine AM<|Vm<|have e7:=Bs (Y4 bu ab ac ad ae) bh;have e8:=Ss Ac (K4 Ac b5 ab ac ad ae) bh;Bi a fun ak e9 a=>Ca (Cg [Pt c 0,I 23] rfl) (E4 b8 cx e9 dcd dcd e7 (AO (x:=h) e8)) ?_
 rintro _ jc ⟨fa,jd,rfl,fb,fc,fd⟩
 obtain ⟨fe,ff,rfl,dn⟩:=E1 (AX fd)
 refine AA<|⟨_,fa,ak.marks,fe,ff,ak.at_,ak.why,ak.where_,ak.l.text,ak.l.funcs,ak.l.arity,ak.l.nest,ak.nest,Pu,a,(Tn (Mo [1] bh) fb),dn,fc⟩
 refine WC.skip<|have fg:=Ss Ac (K4 Ac b5 ab ac ad ae) bh;have fh:=Bs (Y4 bu ab ac ad ae) bh;⟨_,b8,h.marks,en,eo,h.at_,h.why,h.where_,h.l.text,h.l.funcs,h.l.arity,h.l.nest,h.nest,Pu,a,(Mo [1] bh),fg,fh⟩
 rintro _ bg ⟨f,aw,n,bx,bz,q,r,u,w,y,z,aa,ag,rfl,a,a6,bi,bj⟩
 rw [Dh] at a
 refine AY<|Sr<|Vm<|Vx (Nc rfl)<|Vx (Fd Iz rfl)<|Vx (Ld CD rfl (Bc bj rfl))<|Vr (.bool (r != 0))<|AA<|Cn a (fun fi a=>?_) fun fi a=>?_
 refine Sr<|Vx (v:=Ag [I 0,Sb ([]:Bts),Sb ([]:Bts),I 0,Cx (((0,0):Nat×Nat)),.slice none 0 0,I 0]) (Bp By Jn rfl .nil)<|have fj:=Bs (Y4 cw ab ac ad ae) a6;Eu<|St CV fj rfl rfl rfl rfl fun jf fk c0=>AA<|AW ?_
 obtain rfl:=AN a
 refine O1 B cv rfl (.agg BA rfl rfl (Bw fk))<|have fl:=Bs bj c0;have fm:=Ss Ac bi c0;⟨aw,[I 0,Sb ([]:Bts),Sb ([]:Bts),I 0,Cx (((0,0):Nat×Nat)),.slice none 0 0,I 0],[Sl bx n bz,I q,I r,I u,I w,I y,I z,I aa,I ag],rfl,Ho (T2 (T4 (Mo [1,20,21] bt) ab ac ad ae) a6 c0) cu,(Ab (x:=(AB.mk 0 ([]:Bts) ([]:Bts) 0 ((0,0):Nat×Nat) [] 0)) Bd),fl,(AO (x:=(AD.mk n q r u (Ae.mk w y z aa) ag)) fm)⟩
 refine WC.skip<|AY<|An (fun p b9=>∃f bk c1,p=Env.puts f [(0,Pt c 0),(2,Pt av 0),(3,Pt bv 0),(4,.bool l),(46,.bool c1)]∧Dg aq ar m l n q r u w y z aa ag c1=some au∧AS [] aw bg bk b9) ?_ ?_
 refine AM<|Vm<|Vr (.bool (!l))<|Vm<|Bo a (fun al a=>?_) fun al a=>?_
 refine Gm al<|Bi a fun dp fn a=>B7 (.guard (t:=true) (b:=true) rfl rfl rfl rfl (Cb al)) rfl rfl (Cg [Pt c 0,Sb ([105,102]:Bts)] rfl)<|Calls.mono (Cs aw bg fn dcd dcd bj (AO (x:=(AD.mk n q r u (Ae.mk w y z aa) ag)) bi)) ?_
 rintro _ jg ⟨fo,rfl,fp⟩
 refine ⟨_,rfl,?_⟩
 refine Gr al (.bool (!dp))<|Vp al<|AA<|⟨_,fo,(!dp),Pu,a,(Mo [] fp)⟩
 refine Pg al<|Pg al<|Pg al<|Vp al<|AA<|⟨_,aw,false,Pu,a,Rf⟩
 rintro _ b9 ⟨f,bk,c1,rfl,a,af⟩
 rw [Dg] at a
 refine Cn a (fun fq a=>?_) fun fq a=>?_
 refine Sr<|Vm<|have fr:=Bs bj af;have fs:=Ss Ac bi af;Bi a fun d ft a=>Ca (Cg [Pt c 0] rfl) (b4.ref04_reader_cons bk b9 ft dcd dcd fr (AO (x:=(AD.mk n q r u (Ae.mk w y z aa) ag)) fs)) ?_
 rintro _ jh ⟨fu,ji,jj,rfl,dq,fv,fw,fx⟩
 obtain ⟨ds,dt,rfl,dr⟩:=E1 (Ai fv)
 obtain ⟨fy,fz,rfl,du⟩:=E1 (AX fx)
 refine have f0:=Y3 (Y4 cw ab ac ad ae) a6 af dq;Eu<|St CV f0 rfl rfl rfl rfl fun jm f1 ca=>AA<|AW ?_
 obtain rfl:=AN a
 refine O1 B cv rfl (.agg BA rfl rfl (Bw f1))<|have f2:=Ss AJ dr ca;have f3:=Bs fw ca;have f4:=Ss Ac du ca;⟨fu,[I d.1.op,Sb d.1.name,Sb d.1.tail,I d.1.type_,Cx d.1.num,Sl ds d.1.args dt,I d.1.at_],[Sl fy d.2.marks fz,I d.2.at_,I d.2.why,I d.2.where_,I d.2.l.text,I d.2.l.funcs,I d.2.l.arity,I d.2.l.nest,I d.2.nest],rfl,Ho (T4 (T4 (Mo [1,20,21] bt) ab ac ad ae) a6 af dq ca) cu,(Ab (x:=d.1) f2),f3,(AO (x:=d.2) f4)⟩
 refine WC.skip<|An (fun p c2=>∃f cb a7,p=Env.puts f [(0,Pt c 0),(2,Pt av 0),(3,Pt bv 0),(4,.bool l)]∧Df aq ar m l n q r u w y z aa a7=some au∧AS [1] bk b9 cb c2∧Bk cb c2 1 c [Sl bx n bz,I q,I r,I u,I w,I y,I z,I aa,I a7] 126) ?_ ?_
 refine Sr<|Vm<|AA<|Cn a (fun f5 a=>?_) fun f5 a=>?_
 refine AM<|Vm<|Vx (Nc rfl)<|Vx (Fd NQ rfl)<|have dv:=Bs bj af;Vx (Ld CD rfl (Bc dv rfl))<|Vr (I (Wr (ag+1)))<|Vx (Nc rfl)<|Vx (Fd NQ rfl)<|Eu<|St Md dv rfl rfl rfl rfl fun jn f6 f7=>AA<|⟨_,bk,(Wr (ag+1)),Pu,a,(Mo [1] f7),f6⟩
 refine WC.skip<|have f8:=Bs bj af;⟨_,bk,ag,Pu,a,(AS.refl [1] _ _),f8⟩
 rintro _ c2 ⟨f,cb,a7,rfl,a,bl,dw⟩
 rw [Df] at a
 refine Sr<|Vm<|Vx (Nc rfl)<|Vx (Fd GL rfl)<|Vx (Ld CD rfl (Bc dw rfl))<|Vr (I (Wr (q+1)))<|Vx (Nc rfl)<|Vx (Fd GL rfl)<|Eu<|St Md dw rfl rfl rfl rfl fun jo c3 bm=>AA<|Sr<|Vx (Fd LI rfl)<|have dx:=Bs (Y4 ew ae a6 af bl) bm;Vx (Ld CD rfl (Bc dx rfl))<|Vx (v:=Ag [I 0,Sb ([]:Bts),Sb ([]:Bts),I 0,Cx (((0,0):Nat×Nat)),.slice none 0 0,I m.at_]) (Bp By Jn rfl (.cons rfl rfl rfl .nil))<|Ef<|AU cb 22 By rfl fun bn jp bo f9 am=>Eu<|St CV f9 rfl rfl rfl rfl fun dy c4 an=>AA<|An (fun p a8=>∃f ao ap b0 b1 a9 ba bb bc bd be bf bp ax ay az a0 a1 ah bq br a2,p=Env.puts f [(0,Pt c 0),(2,Pt av 0),(4,.bool l),(5,Pt bo 0)]∧En l ap a9 ba bb bc bd be bf bp ax ay az a0 a1 ah a2=some au∧AS [1,22,23,24,25] bn dy ao a8∧Slc Ac ao.F a8 (Sl b0 ap b1) ap∧Slc AJ ao.F a8 (Sl bq ah br) ah∧Bk ao a8 1 c [Sl b0 ap b1,I a9,I ba,I bb,I bc,I bd,I be,I bf,I bp] 126∧Bk ao a8 22 bo [I ax,Sb ay,Sb az,I a0,Cx a1,Sl bq ah br,I a2] 56) ?_ ?_
 refine Sr<|Vx (Fd FT rfl)<|have dz:=Y2 dx am an;Vx (Ld CS rfl (Bc dz rfl))<|AA<|Ad<|Sr<|Vx (v:=.bool (m.text==([105,102]:Bts))) (Run.strEq rfl rfl)<|Va (.bool (m.text==([105,102]:Bts)))<|AA<|Cn a (fun ga a=>?_) fun ga a=>?_
 refine Sr<|Vx (Fz DW rfl)<|Eu<|St U0 c4 rfl rfl rfl rfl fun jq gb c5=>AA<|AM<|Vm<|Ef<|Bf (cs:=[Sb ([]:Bts),Sb ([116,104,101,110]:Bts),Sb ([101,108,115,101]:Bts)]) bn 23 [[Sb ([]:Bts)],[Sb ([116,104,101,110]:Bts)],[Sb ([101,108,115,101]:Bts)]] H8 PV rfl rfl (.cons rfl rfl rfl (.cons rfl rfl rfl (.cons rfl rfl rfl .nil))) rfl fun gc d0 d1 gd cc=>have ge:Own DK 9 gc d0 23 (.slice (some ⟨d1,0,none⟩) 3 3) ([([]:Bts),([116,104,101,110]:Bts),([101,108,115,101]:Bts)]:List Bts):=Own.lit (css:=[[Sb ([]:Bts)],[Sb ([116,104,101,110]:Bts)],[Sb ([101,108,115,101]:Bts)]]) gd rfl rfl rfl (AQ rfl (AQ rfl (AQ rfl Au))) (Av rfl (Av rfl (Av rfl CP))) rfl; ?_
 obtain ⟨gf,cd,gg⟩:=Own.freeze (S:=[23]) ge dcd dcd
 refine have gh:=Bs (Y4 c3 am an c5 cc) cd;have gi:=K4 Ac (K4 Ac bi af bl bm am) an c5 cc cd;Bi a fun ai gj a=>Ca (Cg [Pt c 0,Sl (some ⟨d1,0,none⟩) (([([]:Bts),([116,104,101,110]:Bts),([101,108,115,101]:Bts)]:List Bts)) 3] rfl) (b4.ref04_reader_parts gf d0 gj dcd dcd gh (AO (x:=(AD.mk n (Wr (q+1)) r u (Ae.mk w y z aa) a7)) gi) gg) ?_
 rintro _ jr ⟨gk,js,jt,rfl,d2,d3,gl,gm⟩
 obtain ⟨gn,go,rfl⟩:=AR d3
 obtain ⟨gp,gq,rfl,d4⟩:=E1 (AX gm)
 refine Vx (Fd Bh rfl)<|have gr:=Y3 gb cc cd d2;Eu<|St Qk gr rfl rfl rfl rfl fun jv gs cf=>AA<|have gt:=Ss Ac d4 cf;have gu:=Ss AJ d3 cf;have gv:=Bs gl cf;⟨_,gk,ai.2.marks,gp,gq,ai.2.at_,ai.2.why,ai.2.where_,ai.2.l.text,ai.2.l.funcs,ai.2.l.arity,ai.2.l.nest,ai.2.nest,19,([]:Bts),([]:Bts),0,((0,0):Nat×Nat),ai.1,gn,go,m.at_,Pu,a,(T4 (Mo [1,22,23,24,25] c5) cc cd d2 cf),gt,gu,gv,gs⟩
 refine Sr<|Vx (v:=.bool (m.text==([99,97,115,101]:Bts))) (Run.strEq rfl rfl)<|Va (.bool (m.text==([99,97,115,101]:Bts)))<|AA<|Cn a (fun gw a=>?_) fun gw a=>?_
 refine AM<|Vm<|have gx:=Y2 c3 am an;have gy:=Ss Ac (K4 Ac bi af bl bm am) an;Bi a fun o gz a=>Ca (Cg [Pt c 0,Pt bo 0] rfl) (b4.ref04_reader_branches bn dy gz dcd dcd gx (AO (x:=(AD.mk n (Wr (q+1)) r u (Ae.mk w y z aa) a7)) gy) c4 (Ab (x:=(AB.mk 0 ([]:Bts) ([]:Bts) 0 ((0,0):Nat×Nat) [] m.at_)) Bd)) ?_
 rintro _ jw ⟨g0,jx,jy,rfl,g1,g2,g3,g4,g5⟩
 obtain ⟨g6,g7,rfl,d5⟩:=E1 (AX g3)
 obtain ⟨g8,g9,rfl,d6⟩:=E1 (Ai g5)
 refine AA<|⟨_,g0,o.1.marks,g6,g7,o.1.at_,o.1.why,o.1.where_,o.1.l.text,o.1.l.funcs,o.1.l.arity,o.1.l.nest,o.1.nest,o.2.op,o.2.name,o.2.tail,o.2.type_,o.2.num,o.2.args,g8,g9,o.2.at_,Pu,a,(Mo [1,22,23,24,25] g1),d5,d6,g2,g4⟩
 refine Sr<|Vx (Fz DW rfl)<|Eu<|St U0 c4 rfl rfl rfl rfl fun ha d7 cg=>AA<|An (fun p ch=>∃f ci cj,p=Env.puts f [(0,Pt c 0),(2,Pt av 0),(4,.bool l),(5,Pt bo 0)]∧De aq ar m l n q r u w y z aa a7 cj=some au∧AS [22] bn ha ci ch∧Bk ci ch 22 bo [I cj,Sb ([]:Bts),Sb ([]:Bts),I 0,Cx (((0,0):Nat×Nat)),.slice none 0 0,I m.at_] 56) ?_ ?_
 refine Sr<|Vx (Fd FT rfl)<|have hb:=Bs dz cg;Vx (Ld CS rfl (Bc hb rfl))<|Vx (v:=.bool (m.text==([115,116,114,105,99,116]:Bts))) (Run.strEq rfl rfl)<|AA<|Cn a (fun hc a=>?_) fun hc a=>?_
 refine AM<|Vx (Fz DW rfl)<|Eu<|St U0 d7 rfl rfl rfl rfl fun j1 hd he=>AA<|⟨_,bn,22,Pu,a,(Mo [22] he),hd⟩
 refine WC.skip<|⟨_,bn,21,Pu,a,(AS.refl [22] _ _),d7⟩
 rintro _ ch ⟨f,ci,cj,rfl,a,c6,hf⟩
 rw [De] at a
 refine Sr<|Vm<|have hg:=Y4 c3 am an cg c6;have hh:=K3 Ac (K4 Ac bi af bl bm am) an cg c6;Bi a fun d8 hi a=>Ca (Cg [Pt c 0] rfl) (Ht ci ch hi dcd dcd hg (AO (x:=(AD.mk n (Wr (q+1)) r u (Ae.mk w y z aa) a7)) hh)) ?_
 rintro _ j2 ⟨hj,j3,j4,rfl,d9,hk,hl,hm⟩
 obtain rfl:=DB hk
 obtain ⟨j6,j7,rfl,ea⟩:=E1 (AX hm)
 refine Ef<|AU hj 24 Gs rfl fun hn j8 j9 ho ck=>Eu<|St G7 ho rfl rfl rfl rfl fun ka hp cl=>AA<|Sr<|Vx (Fd FT rfl)<|Vx (Ld CS rfl (Bc hp rfl))<|Vx (Fd EV rfl)<|have hq:=Y3 hf d9 ck cl;Eu<|St W8 hq rfl rfl rfl rfl fun hr hs c7=>AA<|Sr<|Vm<|have ht:=Y3 hl ck cl c7;have hu:=K3 Ac ea ck cl c7;Bi a fun eb hw a=>Ca (Cg [Pt c 0] rfl) (JS ar hn hr hw dcd dcd ht (AO (x:=d8.2) hu)) ?_
 rintro _ kb ⟨hx,kc,rfl,ec,hy,hz⟩
 obtain ⟨ke,kf,rfl,ed⟩:=E1 (AX hz)
 refine Vx (Fd K0 rfl)<|have h0:=Bs hs ec;Eu<|St Wj h0 rfl rfl rfl rfl fun kg h1 c8=>AA<|AM<|Vm<|Ef<|Bf (cs:=[Sb ([61]:Bts),Sb ([105,110]:Bts)]) hx 25 [[Sb ([61]:Bts)],[Sb ([105,110]:Bts)]] H8 PV rfl rfl (.cons rfl rfl rfl (.cons rfl rfl rfl .nil)) rfl fun h2 ee ef h3 cm=>have h4:Own DK 9 h2 ee 25 (.slice (some ⟨ef,0,none⟩) 2 2) ([([61]:Bts),([105,110]:Bts)]:List Bts):=Own.lit (css:=[[Sb ([61]:Bts)],[Sb ([105,110]:Bts)]]) h3 rfl rfl rfl (AQ rfl (AQ rfl Au)) (Av rfl (Av rfl CP)) rfl; ?_
 obtain ⟨h5,cn,h6⟩:=Own.freeze (S:=[25]) h4 dcd dcd
 refine have h7:=Y3 hy c8 cm cn;have h8:=K3 Ac ed c8 cm cn;Bi a fun aj h9 a=>Ca (Cg [Pt c 0,Sl (some ⟨ef,0,none⟩) (([([61]:Bts),([105,110]:Bts)]:List Bts)) 2] rfl) (b4.ref04_reader_parts h5 ee h9 dcd dcd h7 (AO (x:=eb.2) h8) h6) ?_
 rintro _ kh ⟨ia,ki,kj,rfl,eg,eh,ib,ic⟩
 obtain ⟨id,ie,rfl⟩:=AR eh
 obtain ⟨ig,ih,rfl,ei⟩:=E1 (AX ic)
 refine Vx (Fd Bh rfl)<|have ii:=Y3 h1 cm cn eg;Eu<|St Qk ii rfl rfl rfl rfl fun kl ij co=>AA<|have ik:=Ss Ac ei co;have il:=Ss AJ eh co;have im:=Bs ib co;⟨_,ia,aj.2.marks,ig,ih,aj.2.at_,aj.2.why,aj.2.where_,aj.2.l.text,aj.2.l.funcs,aj.2.l.arity,aj.2.l.nest,aj.2.nest,cj,d8.1.text,([]:Bts),eb.1,((0,0):Nat×Nat),aj.1,id,ie,m.at_,Pu,a,(T3 (T4 (T4 (Mo [1,22,23,24,25] cg) c6 d9 ck cl) c7 ec c8 cm) cn eg co),ik,il,im,ij⟩
 rintro _ a8 ⟨f,ao,ap,b0,b1,a9,ba,bb,bc,bd,be,bf,bp,ax,ay,az,a0,a1,ah,bq,br,a2,rfl,a,ej,io,ip,c9,iq⟩
 rw [En] at a
 refine An (fun p da=>∃f cq b2,p=Env.puts f [(2,Pt av 0),(5,Pt bo 0)]∧HZ ap a9 ba bb bc bd be bf ax ay az a0 a1 ah a2 b2=some au∧AS [1] ao a8 cq da∧Bk cq da 1 c [Sl b0 ap b1,I a9,I ba,I bb,I bc,I bd,I be,I bf,I b2] 126) ?_ ?_
 refine Sr<|Vm<|AA<|Cn a (fun ir a=>?_) fun ir a=>?_
 refine AM<|Vm<|Vx (Nc rfl)<|Vx (Fd NQ rfl)<|Vx (Ld CD rfl (Bc c9 rfl))<|Vr (I (Wr (bp - 1)))<|Vx (Nc rfl)<|Vx (Fd NQ rfl)<|Eu<|St Md c9 rfl rfl rfl rfl fun km it iu=>AA<|⟨_,ao,(Wr (bp - 1)),Pu,a,(Mo [1] iu),it⟩
 refine WC.skip<|⟨_,ao,bp,Pu,a,(AS.refl [1] _ _),c9⟩
 rintro _ da ⟨f,cq,b2,rfl,a,b3,iv⟩
 rw [HZ] at a
 refine Sr<|have iw:=Bs iq b3;Vx (Lx BA rfl rfl (Bw iw))<|have ix:=Y4 (Y4 (Y4 cw ab ac ad ae) a6 af bl bm) am an ej b3;have iy:=Ss AJ ip b3;Eu<|St CV ix rfl rfl rfl rfl fun kn iz cr=>AA<|AW ?_
 obtain rfl:=AN a
 refine O1 B cv rfl (.agg BA rfl rfl (Bw iz))<|have i0:=Ss AJ iy cr;have i1:=Bs iv cr;have i2:=K2 Ac io b3 cr;⟨cq,[I ax,Sb ay,Sb az,I a0,Cx a1,Sl bq ah br,I a2],[Sl b0 ap b1,I a9,I ba,I bb,I bc,I bd,I be,I bf,I b2],rfl,Ho (Tn (T4 (T4 (T4 (Mo [1,20,21,22,23,24,25] bt) ab ac ad ae) a6 af bl bm) am an ej b3) cr) cu,(Ab (x:=(AB.mk ax ay az a0 a1 ah a2)) i0),i1,(AO (x:=(AD.mk ap a9 ba bb (Ae.mk bc bd be bf) b2)) i2)⟩
theorem OC(c:AC)(e:Nat)(h:AC.Good c):ref04_reader_expr.Spec (Ct c e):=lk1 (OB c e h)
theorem OD(af:AC)(a2:Nat)(ag:AC.Good af)(ad:Col)(a3:World)(ah:∀b,ad b<10):ref04_reader_cons.At True True ad a3 (Cu af a2) 1:=by
 intro w a4 cy cz d _ _ a5 a6
 rw [Cu] at d
 obtain ⟨c1,c2,rfl,ai⟩:=E1 (AX a6)
 refine Ay Tryz.func131 rfl Tryz.ntmps131 rfl fun B aj c3=>Sr<|Ef<|AU ad 20 By rfl fun a7 a8 c4 ak y=>AA<|Sr<|Vm<|have a9:=Bs a5 y;have ba:=Ss Ac ai y;Bi d fun a bb d=>Ca (Cg [Pt w 0] rfl) (ag.ref04_reader_comp a7 a8 bb dcd dcd a9 (AO (x:=a4) ba)) ?_
 rintro _ c5 ⟨bc,c6,c7,rfl,z,bd,be,bf⟩
 obtain ⟨r,s,rfl,al⟩:=E1 (Ai bd)
 obtain ⟨c9,da,rfl,am⟩:=E1 (AX bf)
 refine Ef<|AU bc 21 By rfl fun bg db dc bh q=>have an:=Ss AJ al q;Eu<|St CV bh rfl rfl rfl rfl fun bi ao n=>AA<|Sr<|Vm<|have ap:=Y2 be q n;have aq:=K2 Ac am q n;Bi d fun l bj d=>Ca (Cg [Pt w 0] rfl) (CN bg bi bj dcd dcd ap (AO (x:=a.2) aq)) ?_
 rintro _ de ⟨bk,df,rfl,f,bl⟩
 obtain rfl:=DB bl
 refine Ef<|AU bk 22 Gs rfl fun bm dg dh bn g=>Eu<|St G7 bn rfl rfl rfl rfl fun bo bp h=>AA<|AY<|Sr<|Vm<|have bq:=Y3 ap f g h;have br:=K3 Ac aq f g h;Bi d fun e bt d=>Ca (Cg [Pt w 0,Sb ([58]:Bts)] rfl) (E5 bm bo bt dcd dcd bq (AO (x:=a.2) br)) ?_
 rintro _ bu ⟨ar,di,rfl,m,au,bv⟩
 obtain ⟨bw,bx,rfl,ae⟩:=E1 (AX bv)
 refine Vr (.bool (!e.1))<|AA<|Cn d (fun bz d=>?_) fun bz d=>?_
 refine Sr<|have b0:=Y4 ao f g h m;Vx (Lx BA rfl rfl (Bw b0))<|have b1:=Y3 (Y4 ak z q n f) g h m;have b2:=Ss AJ (K4 AJ an n f g h) m;Eu<|St CV b1 rfl rfl rfl rfl fun dk b3 aa=>AA<|AW ?_
 obtain rfl:=AN d
 refine O1 B aj rfl (.agg BA rfl rfl (Bw b3))<|have b4:=Ss AJ b2 aa;have b5:=Bs au aa;have b6:=Ss Ac ae aa;⟨ar,[I a.1.op,Sb a.1.name,Sb a.1.tail,I a.1.type_,Cx a.1.num,Sl r a.1.args s,I a.1.at_],[Sl bw e.2.marks bx,I e.2.at_,I e.2.why,I e.2.where_,I e.2.l.text,I e.2.l.funcs,I e.2.l.arity,I e.2.l.nest,I e.2.nest],rfl,Ho (T4 (T4 (Mo [1,20,21,22] y) z q n f) g h m aa) ah,(Ab (x:=a.1) b4),b5,(AO (x:=e.2) b6)⟩
 refine WC.skip<|Sr<|Vm<|Bi d fun c b7 d=>Ca (Cg [Pt w 0] rfl) (ag.ref04_reader_cons ar bu b7 dcd dcd au (AO (x:=e.2) ae)) ?_
 rintro _ dl ⟨b8,dm,dn,rfl,u,b9,ca,cb⟩
 obtain ⟨aw,ax,rfl,av⟩:=E1 (Ai b9)
 obtain ⟨cc,cd,rfl,ay⟩:=E1 (AX cb)
 refine Ef<|AU b8 23 By rfl fun cf dr ds cg o=>have ch:=Ss AJ av o;Eu<|St CV cg rfl rfl rfl rfl fun ci cj p=>AA<|Sr<|have ck:=Y3 (Y4 ao f g h m) u o p;Vx (Lx BA rfl rfl (Bw ck))<|Vx (Lx BA rfl rfl (Bw cj))<|have cl:=Y4 bp m u o p;Vx (Lx IG rfl rfl (Bw cl))<|have cm:=K4 AJ (K4 AJ an n f g h) m u o p;have cn:=Ss AJ ch p;Bi d fun x135 co d=>Ca (Cg [I 18,Ag [I a.1.op,Sb a.1.name,Sb a.1.tail,I a.1.type_,Cx a.1.num,Sl r a.1.args s,I a.1.at_],Ag [I c.1.op,Sb c.1.name,Sb c.1.tail,I c.1.type_,Cx c.1.num,Sl aw c.1.args ax,I c.1.at_],Ag [I l.kind,Sb l.text,Cx l.num,I l.at_]] rfl) (MO cf ci co (Ab (x:=a.1) cm) (Ab (x:=c.1) cn) (Fb (x:=l))) ?_
 rintro _ dt ⟨cq,du,rfl,ab,cr⟩
 obtain ⟨a0,a1,rfl,az⟩:=E1 (Ai cr)
 refine have ct:=Y3 (Y4 (Y4 ak z q n f) g h m u) o p ab;Eu<|St CV ct rfl rfl rfl rfl fun dw cu ac=>AA<|AW ?_
 obtain rfl:=AN d
 refine O1 B aj rfl (.agg BA rfl rfl (Bw cu))<|have cv:=Ss AJ az ac;have cw:=Y4 ca o p ab ac;have cx:=K4 Ac ay o p ab ac;⟨cq,[I x135.op,Sb x135.name,Sb x135.tail,I x135.type_,Cx x135.num,Sl a0 x135.args a1,I x135.at_],[Sl cc c.2.marks cd,I c.2.at_,I c.2.why,I c.2.where_,I c.2.l.text,I c.2.l.funcs,I c.2.l.arity,I c.2.l.nest,I c.2.nest],rfl,Ho (T4 (T4 (T4 (Mo [1,20,21,22,23] y) z q n f) g h m u) o p ab ac) ah,(Ab (x:=x135) cv),cw,(AO (x:=c.2) cx)⟩
theorem OE(c:AC)(e:Nat)(h:AC.Good c):ref04_reader_cons.Spec (Cu c e):=lk1 (OD c e h)
theorem Ng(ab:AC)(bc:Nat)(b0:AC.Good ab)(ao:Col)(bd:World)(b1:∀b,ao b<10):ref04_reader_parts.At True True ao bd (Ce ab bc) 1:=by
 intro ac g dh m di a2 c _ _ b2 b3 be
 rw [Ce] at c
 obtain ⟨b4,b5,rfl,bf⟩:=E1 (AX b3)
 obtain ⟨bg,bh,rfl⟩:=AR be
 refine Ay Tryz.func132 rfl Tryz.ntmps132 rfl fun B b6 dk=>Sr<|Va (.slice none 0 0)<|AA<|Sr<|Va (.slice none 0 0)<|AA<|AY<|Sr<|Va (I 0)<|AA<|Ad<|Bj (fun n a3 o=>∃ag h d ad ae e f ah ai p q r u w y z aa,a3=Env.puts ag [(0,Pt ac 0),(1,Sl bg m bh),(5,Sl ad d ae),(6,I e)]∧Bg ab m n d e f p q r u w y z aa=some a2∧AS [1,20,22] ao bd h o∧Own AJ 56 h o 22 (Sl ad d ae) d∧Slc Ac h.F o (Sl ah f ai) f∧Bk h o 1 ac [Sl ah f ai,I p,I q,I r,I u,I w,I y,I z,I aa] 126) bc ?_ ?_
 exact ⟨_,ao,([]:List AB),none,0,0,g.marks,b4,b5,g.at_,g.why,g.where_,g.l.text,g.l.funcs,g.l.arity,g.l.nest,g.nest,Pu,c,(AS.refl [1,20,22] _ _),Own.nil,bf,b2⟩
 rintro n _ o ⟨ag,h,d,ad,ae,e,f,ah,ai,p,q,r,u,w,y,z,aa,rfl,c,a4,bi,a5,a6⟩
 rcases n with _|n
 exact A6 c
 refine have c:CY ab m (Bg ab m n) d e f p q r u w y z aa=some a2:=c; ?_
 obtain ⟨b7,bj⟩:∃s,s=Bg ab m n:=⟨_,rfl⟩
 rw [←bj,CY] at c
 refine AY<|Sr<|Vm<|Vm<|have bk:=Ss DK be a4; ?_
 obtain ⟨dl,dm,b8⟩:=AR bk
 refine Vx (v:=I (m.length:Int)) (Ll H8 b8)<|Vr (.bool (decide (e< (m.length:Int))))<|AA<|Cn c (fun b9 c=>?_) fun b9 c=>?_
 refine WC.skip<|AY<|Ad<|An (fun a3 aj=>∃ag ak af a7 a8 ap aq ar au av aw ax ay,a3=Env.puts ag [(0,Pt ac 0),(1,Sl bg m bh),(5,Sl ad d ae),(6,I e)]∧DN ab d e b7 af ap aq ar au av aw ax ay=some a2∧AS [1] h o ak aj∧Slc Ac ak.F aj (Sl a7 af a8) af∧Bk ak aj 1 ac [Sl a7 af a8,I ap,I aq,I ar,I au,I av,I aw,I ax,I ay] 126) ?_ ?_
 refine Sr<|Vm<|Vm<|Bi c fun a9 ca c=>?_
 obtain ⟨cb,cc,dn,bl,bm,bn,bo,cd,az⟩:=BG (κ:=DK) bk ca
 replace az:A3 h o cb (cc+e.toNat*1) bl:=az
 obtain rfl:=(show bl=[Sb a9] from cd)
 refine Vx (Ix H8 bm rfl bn bo)<|Vx (Ld CS rfl (A3.cell0 az rfl))<|Vx (v:=.bool (!(a9==([]:Bts)))) (Run.strNe rfl rfl)<|AA<|Cn c (fun cf c=>?_) fun cf c=>?_
 refine AM<|Vm<|Vm<|Vm<|Vx (Ix H8 bm rfl bn bo)<|Vx (Ld CS rfl (A3.cell0 az rfl))<|Bi c fun l cg c=>Ca (Cg [Pt ac 0,Sb a9] rfl) (BP h o cg dcd dcd a6 (AO (x:=(AD.mk f p q r (Ae.mk u w y z) aa)) a5)) ?_
 rintro _ dp ⟨ch,dq,rfl,ci,cj,ck⟩
 obtain ⟨cl,cm,rfl,bp⟩:=E1 (AX ck)
 refine AA<|⟨_,ch,l.marks,cl,cm,l.at_,l.why,l.where_,l.l.text,l.l.funcs,l.l.arity,l.l.nest,l.nest,Pu,c,(Mo [1] ci),bp,cj⟩
 refine WC.skip<|⟨_,h,f,ah,ai,p,q,r,u,w,y,z,aa,Pu,c,(AS.refl [1] _ _),a5,a6⟩
 rintro _ aj ⟨ag,ak,af,a7,a8,ap,aq,ar,au,av,aw,ax,ay,rfl,c,bq,cn,co⟩
 rw [DN] at c
 refine Sr<|Vm<|Bi c fun a cq c=>Ca (Cg [Pt ac 0] rfl) (b0.ref04_reader_expr ak aj cq dcd dcd co (AO (x:=(AD.mk af ap aq ar (Ae.mk au av aw ax) ay)) cn)) ?_
 rintro _ ds ⟨cr,dt,du,rfl,br,ct,cu,cv⟩
 obtain ⟨a0,a1,rfl,bt⟩:=E1 (Ai ct)
 obtain ⟨cw,cx,rfl,bu⟩:=E1 (AX cv)
 refine Ef<|AU cr 20 By rfl fun cy dx dy cz al=>have c0:=Ss AJ bt al;Eu<|St CV cz rfl rfl rfl rfl fun dz c1 am=>AA<|AM<|Vm<|Vx (Lx BA rfl rfl (Bw c1))<|Ef<|Bf (cs:=[I a.1.op,Sb a.1.name,Sb a.1.tail,I a.1.type_,Cx a.1.num,Sl a0 a.1.args a1,I a.1.at_]) cy 21 [[I a.1.op,Sb a.1.name,Sb a.1.tail,I a.1.type_,Cx a.1.num,Sl a0 a.1.args a1,I a.1.at_]] C9 By rfl rfl (.cons rfl rfl rfl .nil) rfl fun c2 c3 c4 c5 an=>have c6:=K2 AJ c0 am an;have c7:Own AJ 56 c2 c3 21 (.slice (some ⟨c4,0,none⟩) 1 1) ([a.1]:List AB):=Own.lit (css:=[[I a.1.op,Sb a.1.name,Sb a.1.tail,I a.1.type_,Cx a.1.num,Sl a0 a.1.args a1,I a.1.at_]]) c5 rfl rfl rfl (AQ (Ab (x:=a.1) c6) Au) (Av rfl CP) rfl;have c8:=Os (Os (Os (Os (Os bi bq) br) al) am) an;Bi c fun d0 bv c=>Ef<|Az (κ:=AJ) rfl rfl c8 dcd Wi (BL c7) (CF bv) (CK bv) fun d1 c9 d2 bw ba=>?_
 obtain ⟨bx,bz,rfl⟩:=Own.len bw
 refine Va (Sl bx ((d++([a.1]:List AB))) bz)<|AA<|AM<|Vm<|Vr (I (Wr (e+1)))<|Va (I (Wr (e+1)))<|AA<|have da:=K4 Ac bu al am an ba;have db:=Y4 cu al am an ba;⟨n,Nat.lt_succ_self n,_,c9,(d++([a.1]:List AB)),bx,bz,(Wr (e+1)),a.2.marks,cw,cx,a.2.at_,a.2.why,a.2.where_,a.2.l.text,a.2.l.funcs,a.2.l.arity,a.2.l.nest,a.2.nest,Pu,(bj▸c),(T2 (T4 (Mo [1,20,22] a4) bq br al am) an ba),bw,da,db⟩
 refine BZ<|Sr<|Vm<|Va (Sl ad d ae)<|AA<|AW ?_
 obtain ⟨dc,bb,de⟩:=Own.freeze (S:=[22]) bi dcd dcd
 obtain rfl:=AN c
 refine O1 B b6 rfl (.tmp rfl)<|have df:=Bs a6 bb;have dg:=Ss Ac a5 bb;⟨dc,Sl ad d ae,[Sl ah f ai,I p,I q,I r,I u,I w,I y,I z,I aa],rfl,Ho (Tn (Mo [1,20,22] a4) bb) b1,de,df,(AO (x:=(AD.mk f p q r (Ae.mk u w y z) aa)) dg)⟩
theorem Nh(c:AC)(e:Nat)(h:AC.Good c):ref04_reader_parts.Spec (Ce c e):=lk1 (Ng c e h)
theorem Mn(a0:AC)(bi:Nat)(ax:AC.Good a0)(ay:Col)(bj:World)(bk:∀b,ay b<10):ref04_reader_branches.At True True ay bj (B1 a0 bi) 1 2:=by
 intro f bl fb fc m fd fe e _ _ bm bn bo bp
 rw [B1] at e
 obtain ⟨fg,fh,rfl,a1⟩:=E1 (AX bn)
 obtain ⟨fj,fk,rfl,bq⟩:=E1 (Ai bp)
 refine Ay Tryz.func133 rfl Tryz.ntmps133 rfl fun B br fl=>Sr<|Vm<|Vx (Nc rfl)<|Vx (Fz DW rfl)<|Eu<|St U0 bo rfl rfl rfl rfl fun bt bu az=>AA<|Sr<|Vm<|have bv:=Bs bm az;have bw:=Ss Ac a1 az;Bi e fun c bx e=>Ca (Cg [Pt f 0] rfl) (ax.ref04_reader_expr ay bt bx dcd dcd bv (AO (x:=bl) bw)) ?_
 rintro _ fm ⟨bz,fn,fo,rfl,a2,b0,b1,b2⟩
 obtain ⟨ag,ah,rfl,a3⟩:=E1 (Ai b0)
 obtain ⟨fr,fs,rfl,a4⟩:=E1 (AX b2)
 refine Ef<|AU bz 20 By rfl fun b3 ft fu b4 ae=>have b5:=Ss AJ a3 ae;Eu<|St CV b4 rfl rfl rfl rfl fun b6 b7 af=>AA<|Sr<|Vm<|have b8:=Y2 b1 ae af;have b9:=K2 Ac a4 ae af;Bi e fun ca cb e=>Ca (Cg [Pt f 0,Sb ([111,102]:Bts)] rfl) (BP b3 b6 cb dcd dcd b8 (AO (x:=c.2) b9)) ?_
 rintro _ cc ⟨cd,fv,rfl,ai,cf,cg⟩
 obtain ⟨fx,fy,rfl,a5⟩:=E1 (AX cg)
 refine AA<|Sr<|Vm<|Bi e fun ch ci e=>Ca (Cg [Pt f 0,Sb ([110,105,108]:Bts)] rfl) (BP cd cc ci dcd dcd cf (AO (x:=ca) a5)) ?_
 rintro _ cj ⟨ck,fz,rfl,aj,cl,cm⟩
 obtain ⟨f1,f2,rfl,a6⟩:=E1 (AX cm)
 refine AA<|Sr<|Vm<|Bi e fun cn co e=>Ca (Cg [Pt f 0,Sb ([45,62]:Bts)] rfl) (BP ck cj co dcd dcd cl (AO (x:=ch) a6)) ?_
 rintro _ cq ⟨cr,f3,rfl,ak,ct,cu⟩
 obtain ⟨f5,f6,rfl,a7⟩:=E1 (AX cu)
 refine AA<|Sr<|Vm<|Bi e fun d cv e=>Ca (Cg [Pt f 0] rfl) (ax.ref04_reader_expr cr cq cv dcd dcd ct (AO (x:=cn) a7)) ?_
 rintro _ f7 ⟨cw,f8,f9,rfl,al,cx,cy,cz⟩
 obtain ⟨am,an,rfl,a8⟩:=E1 (Ai cx)
 obtain ⟨gc,gd,rfl,a9⟩:=E1 (AX cz)
 refine Ef<|AU cw 21 By rfl fun c0 ge gf c1 w=>have c2:=Ss AJ a8 w;Eu<|St CV c1 rfl rfl rfl rfl fun c3 c4 y=>AA<|Sr<|Vm<|have c5:=Y2 cy w y;have c6:=K2 Ac a9 w y;Bi e fun c7 c8 e=>Ca (Cg [Pt f 0,Sb ([124]:Bts)] rfl) (BP c0 c3 c8 dcd dcd c5 (AO (x:=d.2) c6)) ?_
 rintro _ c9 ⟨da,gg,rfl,ac,db,dc⟩
 obtain ⟨gi,gj,rfl,ba⟩:=E1 (AX dc)
 refine AA<|Sr<|Vm<|Bi e fun ao de e=>Ca (Cg [Pt f 0] rfl) (Ht da c9 de dcd dcd db (AO (x:=c7) ba)) ?_
 rintro _ gk ⟨df,gl,gm,rfl,ad,dg,dh,di⟩
 obtain rfl:=DB dg
 obtain ⟨go,gp,rfl,bb⟩:=E1 (AX di)
 refine Ef<|AU df 22 Gs rfl fun dj gq gr dk q=>Eu<|St G7 dk rfl rfl rfl rfl fun dl dm r=>AA<|Sr<|Vm<|have dn:=Y2 dh q r;have dp:=K2 Ac bb q r;Bi e fun dq dr e=>Ca (Cg [Pt f 0,Sb ([58]:Bts)] rfl) (BP dj dl dr dcd dcd dn (AO (x:=ao.2) dp)) ?_
 rintro _ ds ⟨dt,gs,rfl,z,du,dv⟩
 obtain ⟨gu,gv,rfl,bc⟩:=E1 (AX dv)
 refine AA<|Sr<|Vm<|Bi e fun ap dw e=>Ca (Cg [Pt f 0] rfl) (Ht dt ds dw dcd dcd du (AO (x:=dq) bc)) ?_
 rintro _ gw ⟨dx,gx,gy,rfl,aa,dy,dz,d0⟩
 obtain rfl:=DB dy
 obtain ⟨g0,g1,rfl,bd⟩:=E1 (AX d0)
 refine Ef<|AU dx 23 Gs rfl fun d1 g2 g3 d2 n=>Eu<|St G7 d2 rfl rfl rfl rfl fun d3 d4 o=>AA<|Sr<|Vm<|have d5:=Y2 dz n o;have d6:=K2 Ac bd n o;Bi e fun d7 d8 e=>Ca (Cg [Pt f 0,Sb ([45,62]:Bts)] rfl) (BP d1 d3 d8 dcd dcd d5 (AO (x:=ap.2) d6)) ?_
 rintro _ d9 ⟨ea,g4,rfl,s,eb,ec⟩
 obtain ⟨g6,g7,rfl,be⟩:=E1 (AX ec)
 refine AA<|Sr<|Vm<|Bi e fun a ed e=>Ca (Cg [Pt f 0] rfl) (ax.ref04_reader_expr ea d9 ed dcd dcd eb (AO (x:=d7) be)) ?_
 rintro _ g8 ⟨ee,g9,ha,rfl,u,ef,eg,eh⟩
 obtain ⟨aq,ar,rfl,bf⟩:=E1 (Ai ef)
 obtain ⟨ei,ej,rfl,bg⟩:=E1 (AX eh)
 refine Ef<|AU ee 24 By rfl fun ek hd he el g=>have em:=Ss AJ bf g;Eu<|St CV el rfl rfl rfl rfl fun hf en h=>AA<|Sr<|Vm<|Vx (Fd FT rfl)<|have eo:=Y4 (Y4 dm z aa n o) s u g h;Vx (Ld CS rfl (Bc eo rfl))<|Vx (Nc rfl)<|Vx (Fd EV rfl)<|have ep:=Bs (Y4 (Y4 (Y4 (Y4 (Y4 bu a2 ae af ai) aj ak al w) y ac ad q) r z aa n) o s u g) h;Eu<|St W8 ep rfl rfl rfl rfl fun hg eq l=>AA<|Sr<|Vm<|Vx (Fd FT rfl)<|have er:=Bs (Y4 d4 s u g h) l;Vx (Ld CS rfl (Bc er rfl))<|Vx (Nc rfl)<|Vx (Fd NR rfl)<|Eu<|St W8 eq rfl rfl rfl rfl fun hh es p=>AA<|AM<|Vm<|have et:=Y4 (Y4 (Y4 (Y4 (Y4 b7 ai aj ak al) w y ac ad) q r z aa) n o s u) g h l p;Vx (Lx BA rfl rfl (Bw et))<|have eu:=Y2 (Y4 (Y4 (Y4 c4 ac ad q r) z aa n o) s u g h) l p;Vx (Lx BA rfl rfl (Bw eu))<|have ew:=Y2 en l p;Vx (Lx BA rfl rfl (Bw ew))<|Ef<|Bf (cs:=[I c.1.op,Sb c.1.name,Sb c.1.tail,I c.1.type_,Cx c.1.num,Sl ag c.1.args ah,I c.1.at_,I d.1.op,Sb d.1.name,Sb d.1.tail,I d.1.type_,Cx d.1.num,Sl am d.1.args an,I d.1.at_,I a.1.op,Sb a.1.name,Sb a.1.tail,I a.1.type_,Cx a.1.num,Sl aq a.1.args ar,I a.1.at_]) ek 25 [[I c.1.op,Sb c.1.name,Sb c.1.tail,I c.1.type_,Cx c.1.num,Sl ag c.1.args ah,I c.1.at_],[I d.1.op,Sb d.1.name,Sb d.1.tail,I d.1.type_,Cx d.1.num,Sl am d.1.args an,I d.1.at_],[I a.1.op,Sb a.1.name,Sb a.1.tail,I a.1.type_,Cx a.1.num,Sl aq a.1.args ar,I a.1.at_]] C9 By rfl rfl (.cons rfl rfl rfl (.cons rfl rfl rfl (.cons rfl rfl rfl .nil))) rfl fun ex ey au ez ab=>have e0:=K4 AJ em h l p ab;have e1:=K4 AJ (K4 AJ (K4 AJ (K4 AJ c2 y ac ad q) r z aa n) o s u g) h l p ab;have e2:=K2 AJ (K4 AJ (K4 AJ (K4 AJ (K4 AJ (K4 AJ b5 af ai aj ak) al w y ac) ad q r z) aa n o s) u g h l) p ab;have bh:Own AJ 56 ex ey 25 (.slice (some ⟨au,0,none⟩) 3 3) ([c.1,d.1,a.1]:List AB):=Own.lit (css:=[[I c.1.op,Sb c.1.name,Sb c.1.tail,I c.1.type_,Cx c.1.num,Sl ag c.1.args ah,I c.1.at_],[I d.1.op,Sb d.1.name,Sb d.1.tail,I d.1.type_,Cx d.1.num,Sl am d.1.args an,I d.1.at_],[I a.1.op,Sb a.1.name,Sb a.1.tail,I a.1.type_,Cx a.1.num,Sl aq a.1.args ar,I a.1.at_]]) ez rfl rfl rfl (AQ (Ab (x:=c.1) e2) (AQ (Ab (x:=d.1) e1) (AQ (Ab (x:=a.1) e0) Au))) (Av rfl (Av rfl (Av rfl CP))) rfl;Vx (Nc rfl)<|Vx (Fd Bh rfl)<|have e3:=Bs es ab;Eu<|BB (vs:=[Sl (some ⟨au,0,none⟩) (([c.1,d.1,a.1]:List AB)) 3]) (cs':=[I 20,Sb ao.1.text,Sb ap.1.text,I m.type_,Cx m.num,Sl (some ⟨au,0,none⟩) (([c.1,d.1,a.1]:List AB)) 3,I m.at_]) Qk rfl rfl rfl rfl (AP (Own.one bh) BO) e3 dcd rfl rfl fun hi e4 av=>?_
 refine AA<|have e5:=Os bh av; ?_
 obtain ⟨e6,aw,e7⟩:=Own.freeze (S:=[25]) e5 dcd dcd
 obtain rfl:=AN e
 refine MX (B:=B) br<|MW rfl<|have e8:=Y3 (Y4 eg g h l p) ab av aw;have e9:=K3 Ac (K4 Ac bg g h l p) ab av aw;have fa:=Bs e4 aw;⟨e6,[Sl ei a.2.marks ej,I a.2.at_,I a.2.why,I a.2.where_,I a.2.l.text,I a.2.l.funcs,I a.2.l.arity,I a.2.l.nest,I a.2.nest],[I 20,Sb ao.1.text,Sb ap.1.text,I m.type_,Cx m.num,Sl (some ⟨au,0,none⟩) (([c.1,d.1,a.1]:List AB)) 3,I m.at_],rfl,Ho (T2 (T4 (T4 (T4 (T4 (T4 (T4 (Mo [1,2,20,21,22,23,24,25] az) a2 ae af ai) aj ak al w) y ac ad q) r z aa n) o s u g) h l p ab) av aw) bk,e8,(AO (x:=a.2) e9),fa,(Ab (x:=(AB.mk 20 ao.1.text ap.1.text m.type_ m.num ([c.1,d.1,a.1]:List AB) m.at_)) e7)⟩
theorem Mq(d:AC)(f:Nat)(m:AC.Good d):ref04_reader_branches.Spec (B1 d f):=lk2 (Mn d f m)
theorem OF(ap:AC)(b3:Nat)(a7:AC.Good ap)(a1:Col)(b4:World)(a8:∀b,a1 b<10):ref04_reader_comp.At True True a1 b4 (Cv ap b3) 1:=by
 intro p b5 d8 a9 c _ _ b6 b7
 rw [Cv] at c
 obtain ⟨ea,eb,rfl,ba⟩:=E1 (AX b7)
 refine Ay Tryz.func143 rfl Tryz.ntmps143 rfl fun B bb ec=>Sr<|Ef<|AU a1 20 By rfl fun b8 b9 bc bd aq=>AA<|Sr<|Vm<|have ca:=Bs b6 aq;have cb:=Ss Ac ba aq;Bi c fun a cc c=>Ca (Cg [Pt p 0] rfl) (a7.ref04_reader_sum b8 b9 cc dcd dcd ca (AO (x:=b5) cb)) ?_
 rintro _ ed ⟨cd,ee,ef,rfl,ar,cf,cg,ch⟩
 obtain ⟨ak,al,rfl,be⟩:=E1 (Ai cf)
 obtain ⟨eh,ei,rfl,bf⟩:=E1 (AX ch)
 refine Ef<|AU cd 21 By rfl fun ci ej bg cj z=>have bh:=Ss AJ be z;Eu<|St CV cj rfl rfl rfl rfl fun ck bi s=>AA<|Sr<|Vm<|have a2:=Y2 cg z s;have a3:=K2 Ac bf z s;Bi c fun l cl c=>Ca (Cg [Pt p 0] rfl) (CN ci ck cl dcd dcd a2 (AO (x:=a.2) a3)) ?_
 rintro _ ek ⟨cm,el,rfl,f,cn⟩
 obtain rfl:=DB cn
 refine Ef<|AU cm 22 Gs rfl fun bj em bk co g=>Eu<|St G7 co rfl rfl rfl rfl fun bl cq h=>AA<|Sr<|Va (I 12)<|AA<|An (fun a4 au=>∃am av aa,a4=Env.puts am [(0,Pt p 0),(2,Pt bc 0),(3,Pt bg 0),(4,Pt bk 0),(5,I aa)]∧Dj ap a l aa=some a9∧AS [] bj bl av au) ?_ ?_
 refine Sr<|Vm<|have cr:=Y3 a2 f g h;have ct:=K3 Ac a3 f g h;Bi c fun en cu c=>Ca (Cg [Pt p 0,Sb ([60]:Bts)] rfl) (Cs bj bl cu dcd dcd cr (AO (x:=a.2) ct)) ?_
 rintro _ eo ⟨bm,rfl,bn⟩
 refine AA<|Cn c (fun cv c=>?_) fun cv c=>?_
 refine AM<|Va (I 13)<|AA<|⟨_,bm,13,Pu,c,(Mo [] bn)⟩
 refine WC.skip<|⟨_,bm,12,Pu,c,(Mo [] bn)⟩
 rintro _ au ⟨am,av,aa,rfl,c,m⟩
 rw [Dj] at c
 refine AY<|An (fun a4 an=>∃am ab a5 u aw ax ac ad ae af ag ah ai aj,a4=Env.puts am [(0,Pt p 0),(2,Pt bc 0),(3,Pt bg 0),(4,Pt bk 0),(5,I aa),(20,.bool a5)]∧EE ap a l aa a5 u ac ad ae af ag ah ai aj=some a9∧AS [1] av au ab an∧Slc Ac ab.F an (Sl aw u ax) u∧Bk ab an 1 p [Sl aw u ax,I ac,I ad,I ae,I af,I ag,I ah,I ai,I aj] 126) ?_ ?_
 refine AM<|Vm<|have cw:=Y4 a2 f g h m;have cx:=K4 Ac a3 f g h m;Bi c fun n cy c=>Ca (Cg [Pt p 0,Sb ([61,61]:Bts)] rfl) (E5 av au cy dcd dcd cw (AO (x:=a.2) cx)) ?_
 rintro _ cz ⟨bo,ep,rfl,bp,bq,c0⟩
 obtain ⟨c1,c2,rfl,a6⟩:=E1 (AX c0)
 refine Vr (.bool (!n.1))<|Vm<|Bo c (fun q c=>?_) fun q c=>?_
 refine Gm q<|Bi c fun o c3 c=>B7 (.guard (t:=true) (b:=true) rfl rfl rfl rfl (Cb q)) rfl rfl (Cg [Pt p 0,Sb ([60]:Bts)] rfl)<|Calls.mono (E5 bo cz c3 dcd dcd bq (AO (x:=n.2) a6)) ?_
 rintro _ er ⟨c4,es,rfl,c5,c6,c7⟩
 obtain ⟨c8,c9,rfl,br⟩:=E1 (AX c7)
 refine ⟨_,rfl,?_⟩
 refine Gr q (.bool (!o.1))<|Vp q<|AA<|⟨_,c4,(!o.1),o.2.marks,c8,c9,o.2.at_,o.2.why,o.2.where_,o.2.l.text,o.2.l.funcs,o.2.l.arity,o.2.l.nest,o.2.nest,Pu,c,(Tn (Mo [1] bp) c5),br,c6⟩
 refine Pg q<|Pg q<|Pg q<|Vp q<|AA<|⟨_,bo,false,n.2.marks,c1,c2,n.2.at_,n.2.why,n.2.where_,n.2.l.text,n.2.l.funcs,n.2.l.arity,n.2.l.nest,n.2.nest,Pu,c,(Mo [1] bp),a6,bq⟩
 rintro _ an ⟨am,ab,a5,u,aw,ax,ac,ad,ae,af,ag,ah,ai,aj,rfl,c,r,bt,bu⟩
 rw [EE] at c
 refine Cn c (fun da c=>?_) fun da c=>?_
 refine Sr<|have db:=Bs (Y4 bi f g h m) r;Vx (Lx BA rfl rfl (Bw db))<|have dc:=Y4 (Y4 bd ar z s f) g h m r;have de:=K2 AJ (K4 AJ bh s f g h) m r;Eu<|St CV dc rfl rfl rfl rfl fun eu df ay=>AA<|AW ?_
 obtain rfl:=AN c
 refine O1 B bb rfl (.agg BA rfl rfl (Bw df))<|have dg:=Ss AJ de ay;have dh:=Bs bu ay;have di:=Ss Ac bt ay;⟨ab,[I a.1.op,Sb a.1.name,Sb a.1.tail,I a.1.type_,Cx a.1.num,Sl ak a.1.args al,I a.1.at_],[Sl aw u ax,I ac,I ad,I ae,I af,I ag,I ah,I ai,I aj],rfl,Ho (Tn (T4 (T4 (Mo [1,20,21,22] aq) ar z s f) g h m r) ay) a8,(Ab (x:=a.1) dg),dh,(AO (x:=(AD.mk u ac ad ae (Ae.mk af ag ah ai) aj)) di)⟩
 refine WC.skip<|Sr<|Vm<|Bi c fun d dj c=>Ca (Cg [Pt p 0] rfl) (a7.ref04_reader_sum ab an dj dcd dcd bu (AO (x:=(AD.mk u ac ad ae (Ae.mk af ag ah ai) aj)) bt)) ?_
 rintro _ ew ⟨dk,ex,ey,rfl,ao,dl,dm,dn⟩
 obtain ⟨bw,bx,rfl,bv⟩:=E1 (Ai dl)
 obtain ⟨dp,dq,rfl,bz⟩:=E1 (AX dn)
 refine Ef<|AU dk 23 By rfl fun dr e1 e2 ds w=>have dt:=Ss AJ bv w;Eu<|St CV ds rfl rfl rfl rfl fun du dv y=>AA<|Sr<|Vm<|have dw:=Y4 (Y4 bi f g h m) r ao w y;Vx (Lx BA rfl rfl (Bw dw))<|Vx (Lx BA rfl rfl (Bw dv))<|have dx:=Bs (Y4 cq m r ao w) y;Vx (Lx IG rfl rfl (Bw dx))<|have dy:=Ss AJ (K4 AJ (K4 AJ bh s f g h) m r ao w) y;have dz:=Ss AJ dt y;Bi c fun e d0 c=>Ca (Cg [I aa,Ag [I a.1.op,Sb a.1.name,Sb a.1.tail,I a.1.type_,Cx a.1.num,Sl ak a.1.args al,I a.1.at_],Ag [I d.1.op,Sb d.1.name,Sb d.1.tail,I d.1.type_,Cx d.1.num,Sl bw d.1.args bx,I d.1.at_],Ag [I l.kind,Sb l.text,Cx l.num,I l.at_]] rfl) (MO dr du d0 (Ab (x:=a.1) dy) (Ab (x:=d.1) dz) (Fb (x:=l))) ?_
 rintro _ e3 ⟨d1,e4,rfl,az,d2⟩
 obtain ⟨b1,b2,rfl,b0⟩:=E1 (Ai d2)
 refine have d3:=Y4 (Y4 (Y4 bd ar z s f) g h m r) ao w y az;Eu<|St CV d3 rfl rfl rfl rfl fun e6 d4 a0=>AA<|AW ?_
 obtain rfl:=AN c
 refine O1 B bb rfl (.agg BA rfl rfl (Bw d4))<|have d5:=Ss AJ b0 a0;have d6:=Y4 dm w y az a0;have d7:=K4 Ac bz w y az a0;⟨d1,[I e.op,Sb e.name,Sb e.tail,I e.type_,Cx e.num,Sl b1 e.args b2,I e.at_],[Sl dp d.2.marks dq,I d.2.at_,I d.2.why,I d.2.where_,I d.2.l.text,I d.2.l.funcs,I d.2.l.arity,I d.2.l.nest,I d.2.nest],rfl,Ho (Tn (T4 (T4 (T4 (Mo [1,20,21,22,23] aq) ar z s f) g h m r) ao w y az) a0) a8,(Ab (x:=e) d5),d6,(AO (x:=d.2) d7)⟩
theorem OG(c:AC)(e:Nat)(h:AC.Good c):ref04_reader_comp.Spec (Cv c e):=lk1 (OF c e h)
theorem Oi(an:AC)(bl:Nat)(bm:AC.Good an)(bc:Col)(b9:World)(ca:∀b,bc b<10):ref04_reader_sum.At True True bc b9 (DM an bl) 1:=by
 intro ad cb em a0 a _ _ cc cd
 rw [DM] at a
 obtain ⟨eo,ep,rfl,bn⟩:=E1 (AX cd)
 refine Ay Tryz.func148 rfl Tryz.ntmps148 rfl fun B cf eq=>Sr<|Ef<|AU bc 20 By rfl fun cg ch bd ci be=>AA<|Sr<|Vm<|have cj:=Bs cc be;have ck:=Ss Ac bn be;Bi a fun d cl a=>Ca (Cg [Pt ad 0] rfl) (bm.ref04_reader_term cg ch cl dcd dcd cj (AO (x:=cb) ck)) ?_
 rintro _ er ⟨cm,es,et,rfl,bo,cn,co,cq⟩
 obtain ⟨cr,ct,rfl,bp⟩:=E1 (Ai cn)
 obtain ⟨cu,cv,rfl,bq⟩:=E1 (AX cq)
 refine Ef<|AU cm 21 By rfl fun br ew a1 cw ar=>have cx:=Ss AJ bp ar;Eu<|St CV cw rfl rfl rfl rfl fun cy cz au=>AA<|AY<|Ad<|Bj (fun ae av af=>∃ag ah f a2 a3 p q r u w y z aa g h l m n e ai aj o,av=Env.puts ag [(0,Pt ad 0),(2,Pt bd 0),(3,Pt a1 0)]∧Bq an ae f p q r u w y z aa g h l m n e o=some a0∧AS [1,21,22,23] br cy ah af∧Slc Ac ah.F af (Sl a2 f a3) f∧Slc AJ ah.F af (Sl ai e aj) e∧Bk ah af 1 ad [Sl a2 f a3,I p,I q,I r,I u,I w,I y,I z,I aa] 126∧Bk ah af 21 a1 [I g,Sb h,Sb l,I m,Cx n,Sl ai e aj,I o] 56) bl ?_ ?_
 refine have c0:=K2 Ac bq ar au;have c1:=Ss AJ cx au;have c2:=Y2 co ar au;⟨_,br,d.2.marks,cu,cv,d.2.at_,d.2.why,d.2.where_,d.2.l.text,d.2.l.funcs,d.2.l.arity,d.2.l.nest,d.2.nest,d.1.op,d.1.name,d.1.tail,d.1.type_,d.1.num,d.1.args,cr,ct,d.1.at_,Pu,a,(AS.refl [1,21,22,23] _ _),c0,c1,c2,cz⟩
 rintro ae _ af ⟨ag,ah,f,a2,a3,p,q,r,u,w,y,z,aa,g,h,l,m,n,e,ai,aj,o,rfl,a,bf,a4,bt,a5,bu⟩
 rcases ae with _|ae
 exact A6 a
 refine have a:DE an (Bq an ae) f p q r u w y z aa g h l m n e o=some a0:=a; ?_
 obtain ⟨bv,bw⟩:∃s,s=Bq an ae:=⟨_,rfl⟩
 rw [←bw,DE] at a
 refine AY<|An (fun av bg=>∃ag a6 bh,av=Env.puts ag [(0,Pt ad 0),(2,Pt bd 0),(3,Pt a1 0),(14,.bool bh)]∧Dz an f p q r u w y z aa g h l m n e o bv bh=some a0∧AS [] ah af a6 bg) ?_ ?_
 refine AM<|Vm<|Bi a fun ex c3 a=>Ca (Cg [Pt ad 0,Sb ([43]:Bts)] rfl) (Cs ah af c3 dcd dcd a5 (AO (x:=(AD.mk f p q r (Ae.mk u w y z) aa)) a4)) ?_
 rintro _ c4 ⟨bx,rfl,a7⟩
 refine Vm<|Bo a (fun ao a=>?_) fun ao a=>?_
 refine Pg ao<|Pg ao<|Vp ao<|AA<|⟨_,bx,true,Pu,a,(Mo [] a7)⟩
 refine Gm ao<|have c5:=Bs a5 a7;have c6:=Ss Ac a4 a7;Bi a fun c7 c8 a=>B7 (.guard (t:=false) (b:=false) rfl rfl rfl rfl (Cb ao)) rfl rfl (Cg [Pt ad 0,Sb ([45]:Bts)] rfl)<|Calls.mono (Cs bx c4 c8 dcd dcd c5 (AO (x:=(AD.mk f p q r (Ae.mk u w y z) aa)) c6)) ?_
 rintro _ ey ⟨c9,rfl,da⟩
 refine ⟨_,rfl,?_⟩
 refine Vp ao<|AA<|⟨_,c9,c7,Pu,a,(Tn (Mo [] a7) da)⟩
 rintro _ bg ⟨ag,a6,bh,rfl,a,ab⟩
 rw [Dz] at a
 refine Cn a (fun db a=>?_) fun db a=>?_
 refine WC.skip<|Ad<|Sr<|Vm<|have bz:=Bs a5 ab;have b0:=Ss Ac a4 ab;Bi a fun ac dc a=>Ca (Cg [Pt ad 0] rfl) (CN a6 bg dc dcd dcd bz (AO (x:=(AD.mk f p q r (Ae.mk u w y z) aa)) b0)) ?_
 rintro _ ez ⟨de,e0,rfl,aw,df⟩
 obtain rfl:=DB df
 refine Ef<|AU de 22 Gs rfl fun dg e1 dh di ax=>Eu<|St G7 di rfl rfl rfl rfl fun e2 b1 ay=>AA<|Sr<|Vm<|Vx (Nc rfl)<|Vx (Fd GL rfl)<|have b2:=Y3 bz aw ax ay;Vx (Ld CD rfl (Bc b2 rfl))<|Vr (I (Wr (p+1)))<|Vx (Nc rfl)<|Vx (Fd GL rfl)<|Eu<|St Md b2 rfl rfl rfl rfl fun dj dk aq=>AA<|Sr<|Vm<|have dl:=K4 Ac b0 aw ax ay aq;Bi a fun c dm a=>Ca (Cg [Pt ad 0] rfl) (bm.ref04_reader_term dg dj dm dcd dcd dk (AO (x:=(AD.mk f (Wr (p+1)) q r (Ae.mk u w y z) aa)) dl)) ?_
 rintro _ e3 ⟨dn,e4,e5,rfl,az,dp,dq,dr⟩
 obtain ⟨b4,b5,rfl,b3⟩:=E1 (Ai dp)
 obtain ⟨ds,dt,rfl,b6⟩:=E1 (AX dr)
 refine Ef<|AU dn 23 By rfl fun bi e8 du dv ak=>have dw:=Ss AJ b3 ak;Eu<|St CV dv rfl rfl rfl rfl fun dx dy al=>AA<|Sr<|Va (I 8)<|AA<|An (fun av bj=>∃ag bk a8,av=Env.puts ag [(0,Pt ad 0),(2,Pt bd 0),(3,Pt a1 0),(4,Pt dh 0),(5,Pt du 0),(6,I a8)]∧Dy g h l m n e o bv ac c a8=some a0∧AS [] bi dx bk bj) ?_ ?_
 refine Sr<|Vx (Fd FT rfl)<|have dz:=Y4 b1 aq az ak al;Vx (Ld CS rfl (Bc dz rfl))<|Vx (v:=.bool (ac.text==([45]:Bts))) (Run.strEq rfl rfl)<|AA<|Cn a (fun d0 a=>?_) fun d0 a=>?_
 refine AM<|Va (I 9)<|AA<|⟨_,bi,9,Pu,a,Rf⟩
 refine WC.skip<|⟨_,bi,8,Pu,a,Rf⟩
 rintro _ bj ⟨ag,bk,a8,rfl,a,am⟩
 rw [Dy] at a
 refine AM<|Vm<|have b7:=Bs (Y4 (Y4 bu ab aw ax ay) aq az ak al) am;Vx (Lx BA rfl rfl (Bw b7))<|have d1:=Bs dy am;Vx (Lx BA rfl rfl (Bw d1))<|have d2:=Bs (Y4 b1 aq az ak al) am;Vx (Lx IG rfl rfl (Bw d2))<|have d3:=Ss AJ (K4 AJ (K4 AJ bt ab aw ax ay) aq az ak al) am;have d4:=K2 AJ dw al am;Bi a fun ap d5 a=>Ca (Cg [I a8,Ag [I g,Sb h,Sb l,I m,Cx n,Sl ai e aj,I o],Ag [I c.1.op,Sb c.1.name,Sb c.1.tail,I c.1.type_,Cx c.1.num,Sl b4 c.1.args b5,I c.1.at_],Ag [I ac.kind,Sb ac.text,Cx ac.num,I ac.at_]] rfl) (MO bk bj d5 (Ab (x:=(AB.mk g h l m n e o)) d3) (Ab (x:=c.1) d4) (Fb (x:=ac))) ?_
 rintro _ e9 ⟨d6,fa,rfl,a9,d7⟩
 obtain ⟨d8,d9,rfl,b8⟩:=E1 (Ai d7)
 refine have ea:=Bs b7 a9;Eu<|St CV ea rfl rfl rfl rfl fun fc eb ba=>AA<|have ec:=Ss Ac (K4 Ac b6 ak al am a9) ba;have ed:=Ss AJ b8 ba;have ee:=Bs (Y4 dq ak al am a9) ba;⟨ae,Nat.lt_succ_self ae,_,d6,c.2.marks,ds,dt,c.2.at_,c.2.why,c.2.where_,c.2.l.text,c.2.l.funcs,c.2.l.arity,c.2.l.nest,c.2.nest,ap.op,ap.name,ap.tail,ap.type_,ap.num,ap.args,d8,d9,ap.at_,Pu,(bw▸a),(T3 (T4 (T4 (Mo [1,21,22,23] bf) ab aw ax ay) aq az ak al) am a9 ba),ec,ed,ee,eb⟩
 refine BZ<|Sr<|have ef:=Bs bu ab;Vx (Lx BA rfl rfl (Bw ef))<|have eg:=Bs (Y4 ci bo ar au bf) ab;have eh:=Ss AJ bt ab;Eu<|St CV eg rfl rfl rfl rfl fun fd ei bb=>AA<|AW ?_
 obtain rfl:=AN a
 refine O1 B cf rfl (.agg BA rfl rfl (Bw ei))<|have ej:=Ss AJ eh bb;have ek:=Y2 a5 ab bb;have el:=K2 Ac a4 ab bb;⟨a6,[I g,Sb h,Sb l,I m,Cx n,Sl ai e aj,I o],[Sl a2 f a3,I p,I q,I r,I u,I w,I y,I z,I aa],rfl,Ho (T2 (T4 (Mo [1,20,21,22,23] be) bo ar au bf) ab bb) ca,(Ab (x:=(AB.mk g h l m n e o)) ej),ek,(AO (x:=(AD.mk f p q r (Ae.mk u w y z) aa)) el)⟩
theorem Oj(c:AC)(e:Nat)(h:AC.Good c):ref04_reader_sum.Spec (DM c e):=lk1 (Oi c e h)
theorem OH(an:AC)(bl:Nat)(bm:AC.Good an)(bc:Col)(b9:World)(ca:∀b,bc b<10):ref04_reader_term.At True True bc b9 (Cw an bl) 1:=by
 intro ad cb em a0 a _ _ cc cd
 rw [Cw] at a
 obtain ⟨eo,ep,rfl,bn⟩:=E1 (AX cd)
 refine Ay Tryz.func151 rfl Tryz.ntmps151 rfl fun B cf eq=>Sr<|Ef<|AU bc 20 By rfl fun cg ch bd ci be=>AA<|Sr<|Vm<|have cj:=Bs cc be;have ck:=Ss Ac bn be;Bi a fun d cl a=>Ca (Cg [Pt ad 0] rfl) (bm.ref04_reader_unit cg ch cl dcd dcd cj (AO (x:=cb) ck)) ?_
 rintro _ er ⟨cm,es,et,rfl,bo,cn,co,cq⟩
 obtain ⟨cr,ct,rfl,bp⟩:=E1 (Ai cn)
 obtain ⟨cu,cv,rfl,bq⟩:=E1 (AX cq)
 refine Ef<|AU cm 21 By rfl fun br ew a1 cw ar=>have cx:=Ss AJ bp ar;Eu<|St CV cw rfl rfl rfl rfl fun cy cz au=>AA<|AY<|Ad<|Bj (fun ae av af=>∃ag ah f a2 a3 p q r u w y z aa g h l m n e ai aj o,av=Env.puts ag [(0,Pt ad 0),(2,Pt bd 0),(3,Pt a1 0)]∧Be an ae f p q r u w y z aa g h l m n e o=some a0∧AS [1,21,22,23] br cy ah af∧Slc Ac ah.F af (Sl a2 f a3) f∧Slc AJ ah.F af (Sl ai e aj) e∧Bk ah af 1 ad [Sl a2 f a3,I p,I q,I r,I u,I w,I y,I z,I aa] 126∧Bk ah af 21 a1 [I g,Sb h,Sb l,I m,Cx n,Sl ai e aj,I o] 56) bl ?_ ?_
 refine have c0:=K2 Ac bq ar au;have c1:=Ss AJ cx au;have c2:=Y2 co ar au;⟨_,br,d.2.marks,cu,cv,d.2.at_,d.2.why,d.2.where_,d.2.l.text,d.2.l.funcs,d.2.l.arity,d.2.l.nest,d.2.nest,d.1.op,d.1.name,d.1.tail,d.1.type_,d.1.num,d.1.args,cr,ct,d.1.at_,Pu,a,(AS.refl [1,21,22,23] _ _),c0,c1,c2,cz⟩
 rintro ae _ af ⟨ag,ah,f,a2,a3,p,q,r,u,w,y,z,aa,g,h,l,m,n,e,ai,aj,o,rfl,a,bf,a4,bt,a5,bu⟩
 rcases ae with _|ae
 exact A6 a
 refine have a:Cq an (Be an ae) f p q r u w y z aa g h l m n e o=some a0:=a; ?_
 obtain ⟨bv,bw⟩:∃s,s=Be an ae:=⟨_,rfl⟩
 rw [←bw,Cq] at a
 refine AY<|An (fun av bg=>∃ag a6 bh,av=Env.puts ag [(0,Pt ad 0),(2,Pt bd 0),(3,Pt a1 0),(14,.bool bh)]∧Dl an f p q r u w y z aa g h l m n e o bv bh=some a0∧AS [] ah af a6 bg) ?_ ?_
 refine AM<|Vm<|Bi a fun ex c3 a=>Ca (Cg [Pt ad 0,Sb ([42]:Bts)] rfl) (Cs ah af c3 dcd dcd a5 (AO (x:=(AD.mk f p q r (Ae.mk u w y z) aa)) a4)) ?_
 rintro _ c4 ⟨bx,rfl,a7⟩
 refine Vm<|Bo a (fun ao a=>?_) fun ao a=>?_
 refine Pg ao<|Pg ao<|Vp ao<|AA<|⟨_,bx,true,Pu,a,(Mo [] a7)⟩
 refine Gm ao<|have c5:=Bs a5 a7;have c6:=Ss Ac a4 a7;Bi a fun c7 c8 a=>B7 (.guard (t:=false) (b:=false) rfl rfl rfl rfl (Cb ao)) rfl rfl (Cg [Pt ad 0,Sb ([47]:Bts)] rfl)<|Calls.mono (Cs bx c4 c8 dcd dcd c5 (AO (x:=(AD.mk f p q r (Ae.mk u w y z) aa)) c6)) ?_
 rintro _ ey ⟨c9,rfl,da⟩
 refine ⟨_,rfl,?_⟩
 refine Vp ao<|AA<|⟨_,c9,c7,Pu,a,(Tn (Mo [] a7) da)⟩
 rintro _ bg ⟨ag,a6,bh,rfl,a,ab⟩
 rw [Dl] at a
 refine Cn a (fun db a=>?_) fun db a=>?_
 refine WC.skip<|Ad<|Sr<|Vm<|have bz:=Bs a5 ab;have b0:=Ss Ac a4 ab;Bi a fun ac dc a=>Ca (Cg [Pt ad 0] rfl) (CN a6 bg dc dcd dcd bz (AO (x:=(AD.mk f p q r (Ae.mk u w y z) aa)) b0)) ?_
 rintro _ ez ⟨de,e0,rfl,aw,df⟩
 obtain rfl:=DB df
 refine Ef<|AU de 22 Gs rfl fun dg e1 dh di ax=>Eu<|St G7 di rfl rfl rfl rfl fun e2 b1 ay=>AA<|Sr<|Vm<|Vx (Nc rfl)<|Vx (Fd GL rfl)<|have b2:=Y3 bz aw ax ay;Vx (Ld CD rfl (Bc b2 rfl))<|Vr (I (Wr (p+1)))<|Vx (Nc rfl)<|Vx (Fd GL rfl)<|Eu<|St Md b2 rfl rfl rfl rfl fun dj dk aq=>AA<|Sr<|Vm<|have dl:=K4 Ac b0 aw ax ay aq;Bi a fun c dm a=>Ca (Cg [Pt ad 0] rfl) (bm.ref04_reader_unit dg dj dm dcd dcd dk (AO (x:=(AD.mk f (Wr (p+1)) q r (Ae.mk u w y z) aa)) dl)) ?_
 rintro _ e3 ⟨dn,e4,e5,rfl,az,dp,dq,dr⟩
 obtain ⟨b4,b5,rfl,b3⟩:=E1 (Ai dp)
 obtain ⟨ds,dt,rfl,b6⟩:=E1 (AX dr)
 refine Ef<|AU dn 23 By rfl fun bi e8 du dv ak=>have dw:=Ss AJ b3 ak;Eu<|St CV dv rfl rfl rfl rfl fun dx dy al=>AA<|Sr<|Va (I 10)<|AA<|An (fun av bj=>∃ag bk a8,av=Env.puts ag [(0,Pt ad 0),(2,Pt bd 0),(3,Pt a1 0),(4,Pt dh 0),(5,Pt du 0),(6,I a8)]∧Dk g h l m n e o bv ac c a8=some a0∧AS [] bi dx bk bj) ?_ ?_
 refine Sr<|Vx (Fd FT rfl)<|have dz:=Y4 b1 aq az ak al;Vx (Ld CS rfl (Bc dz rfl))<|Vx (v:=.bool (ac.text==([47]:Bts))) (Run.strEq rfl rfl)<|AA<|Cn a (fun d0 a=>?_) fun d0 a=>?_
 refine AM<|Va (I 11)<|AA<|⟨_,bi,11,Pu,a,Rf⟩
 refine WC.skip<|⟨_,bi,10,Pu,a,Rf⟩
 rintro _ bj ⟨ag,bk,a8,rfl,a,am⟩
 rw [Dk] at a
 refine AM<|Vm<|have b7:=Bs (Y4 (Y4 bu ab aw ax ay) aq az ak al) am;Vx (Lx BA rfl rfl (Bw b7))<|have d1:=Bs dy am;Vx (Lx BA rfl rfl (Bw d1))<|have d2:=Bs (Y4 b1 aq az ak al) am;Vx (Lx IG rfl rfl (Bw d2))<|have d3:=Ss AJ (K4 AJ (K4 AJ bt ab aw ax ay) aq az ak al) am;have d4:=K2 AJ dw al am;Bi a fun ap d5 a=>Ca (Cg [I a8,Ag [I g,Sb h,Sb l,I m,Cx n,Sl ai e aj,I o],Ag [I c.1.op,Sb c.1.name,Sb c.1.tail,I c.1.type_,Cx c.1.num,Sl b4 c.1.args b5,I c.1.at_],Ag [I ac.kind,Sb ac.text,Cx ac.num,I ac.at_]] rfl) (MO bk bj d5 (Ab (x:=(AB.mk g h l m n e o)) d3) (Ab (x:=c.1) d4) (Fb (x:=ac))) ?_
 rintro _ e9 ⟨d6,fa,rfl,a9,d7⟩
 obtain ⟨d8,d9,rfl,b8⟩:=E1 (Ai d7)
 refine have ea:=Bs b7 a9;Eu<|St CV ea rfl rfl rfl rfl fun fc eb ba=>AA<|have ec:=Ss Ac (K4 Ac b6 ak al am a9) ba;have ed:=Ss AJ b8 ba;have ee:=Bs (Y4 dq ak al am a9) ba;⟨ae,Nat.lt_succ_self ae,_,d6,c.2.marks,ds,dt,c.2.at_,c.2.why,c.2.where_,c.2.l.text,c.2.l.funcs,c.2.l.arity,c.2.l.nest,c.2.nest,ap.op,ap.name,ap.tail,ap.type_,ap.num,ap.args,d8,d9,ap.at_,Pu,(bw▸a),(T3 (T4 (T4 (Mo [1,21,22,23] bf) ab aw ax ay) aq az ak al) am a9 ba),ec,ed,ee,eb⟩
 refine BZ<|Sr<|have ef:=Bs bu ab;Vx (Lx BA rfl rfl (Bw ef))<|have eg:=Bs (Y4 ci bo ar au bf) ab;have eh:=Ss AJ bt ab;Eu<|St CV eg rfl rfl rfl rfl fun fd ei bb=>AA<|AW ?_
 obtain rfl:=AN a
 refine O1 B cf rfl (.agg BA rfl rfl (Bw ei))<|have ej:=Ss AJ eh bb;have ek:=Y2 a5 ab bb;have el:=K2 Ac a4 ab bb;⟨a6,[I g,Sb h,Sb l,I m,Cx n,Sl ai e aj,I o],[Sl a2 f a3,I p,I q,I r,I u,I w,I y,I z,I aa],rfl,Ho (T2 (T4 (Mo [1,20,21,22,23] be) bo ar au bf) ab bb) ca,(Ab (x:=(AB.mk g h l m n e o)) ej),ek,(AO (x:=(AD.mk f p q r (Ae.mk u w y z) aa)) el)⟩
theorem OI(c:AC)(e:Nat)(h:AC.Good c):ref04_reader_term.Spec (Cw c e):=lk1 (OH c e h)
theorem OJ(a6:AC)(bl:Nat)(b8:AC.Good a6)(b9:Col)(dv:World)(av:∀b,b9 b<10):ref04_reader_unit.At True True b9 dv (Cy a6 bl) 1:=by
 intro p c ip bm a _ _ dw dx
 rw [Cy] at a
 obtain ⟨cy,cz,rfl,cx⟩:=E1 (AX dx)
 refine Ay Tryz.func157 rfl Tryz.ntmps157 rfl fun B aw ax=>Sr<|Ef<|AU b9 20 By rfl fun dy dz bn ay ah=>AA<|Sr<|Vm<|have c0:=Bs dw ah;have a7:=Ss Ac cx ah;Bi a fun f d0 a=>Ca (Cg [Pt p 0] rfl) (CN dy dz d0 dcd dcd c0 (AO (x:=c) a7)) ?_
 rintro _ ir ⟨d1,it,rfl,m,d2⟩
 obtain rfl:=DB d2
 refine Ef<|AU d1 21 Gs rfl fun bo iu d3 d4 n=>Eu<|St G7 d4 rfl rfl rfl rfl fun d5 az o=>AA<|AY<|Sr<|Vm<|Vx (Nc rfl)<|Vx (Fd Iz rfl)<|have an:=Y3 c0 m n o;Vx (Ld CD rfl (Bc an rfl))<|Vr (.bool (c.why != 0))<|AA<|Cn a (fun d6 a=>?_) fun d6 a=>?_
 refine Sr<|Vx (v:=Ag [I 0,Sb ([]:Bts),Sb ([]:Bts),I 0,Cx (((0,0):Nat×Nat)),.slice none 0 0,I 0]) (Bp By Jn rfl .nil)<|have d7:=Y3 ay m n o;Eu<|St CV d7 rfl rfl rfl rfl fun iv d8 ca=>AA<|AW ?_
 obtain rfl:=AN a
 refine O1 B aw rfl (.agg BA rfl rfl (Bw d8))<|have d9:=Bs an ca;have ea:=K4 Ac a7 m n o ca;⟨bo,[I 0,Sb ([]:Bts),Sb ([]:Bts),I 0,Cx (((0,0):Nat×Nat)),.slice none 0 0,I 0],[Sl cy c.marks cz,I c.at_,I c.why,I c.where_,I c.l.text,I c.l.funcs,I c.l.arity,I c.l.nest,I c.nest],rfl,Ho (T4 (Mo [20,21] ah) m n o ca) av,(Ab (x:=(AB.mk 0 ([]:Bts) ([]:Bts) 0 ((0,0):Nat×Nat) [] 0)) Bd),d9,(AO (x:=c) ea)⟩
 refine WC.skip<|AY<|Ad<|Sr<|Vx (Fz Km rfl)<|Vx (Ld PH rfl (Bc az rfl))<|Vr (.bool (f.kind==2))<|Va (.bool (f.kind==2))<|AA<|Cn a (fun eb a=>?_) fun eb a=>?_
 refine Sr<|Vm<|Vx (Nc rfl)<|Vx (Fd GL rfl)<|Vx (Ld CD rfl (Bc an rfl))<|Vr (I (Wr (c.at_+1)))<|Vx (Nc rfl)<|Vx (Fd GL rfl)<|Eu<|St Md an rfl rfl rfl rfl fun iw ec bp=>AA<|Sr<|Vx (Fd UX rfl)<|have c1:=Bs az bp;Vx (Ld Hq rfl (Bc c1 rfl))<|Vx (Fd LI rfl)<|Vx (Ld CD rfl (Bc c1 rfl))<|Vx (v:=Ag [I 1,Sb ([]:Bts),Sb ([]:Bts),I 0,Cx f.num,.slice none 0 0,I f.at_]) (Bp By Jn rfl (.cons rfl rfl rfl (.cons rfl rfl rfl (.cons rfl rfl rfl .nil))))<|have ed:=Y4 ay m n o bp;Eu<|St CV ed rfl rfl rfl rfl fun ix ee cb=>AA<|AW ?_
 obtain rfl:=AN a
 refine O1 B aw rfl (.agg BA rfl rfl (Bw ee))<|have ef:=Bs ec cb;have eg:=Ss Ac (K4 Ac a7 m n o bp) cb;⟨bo,[I 1,Sb ([]:Bts),Sb ([]:Bts),I 0,Cx f.num,.slice none 0 0,I f.at_],[Sl cy c.marks cz,I (Wr (c.at_+1)),I c.why,I c.where_,I c.l.text,I c.l.funcs,I c.l.arity,I c.l.nest,I c.nest],rfl,Ho (Tn (T4 (Mo [1,20,21] ah) m n o bp) cb) av,(Ab (x:=(AB.mk 1 ([]:Bts) ([]:Bts) 0 f.num [] f.at_)) Bd),ef,(AO (x:=(AD.mk c.marks (Wr (c.at_+1)) c.why c.where_ (Ae.mk c.l.text c.l.funcs c.l.arity c.l.nest) c.nest)) eg)⟩
 refine Sr<|Vx (Fz Km rfl)<|Vx (Ld PH rfl (Bc az rfl))<|Vr (.bool (f.kind==0))<|Va (.bool (f.kind==0))<|AA<|Cn a (fun eh a=>?_) fun eh a=>?_
 refine Sr<|Vm<|Vx (Nc rfl)<|Vx (Fd GL rfl)<|Vx (Ld CD rfl (Bc an rfl))<|Vr (I (Wr (c.at_+1)))<|Vx (Nc rfl)<|Vx (Fd GL rfl)<|Eu<|St Md an rfl rfl rfl rfl fun ei ej bq=>AA<|Sr<|Vm<|have ek:=Bs az bq;Vx (Lx IG rfl rfl (Bw ek))<|have el:=K4 Ac a7 m n o bq;Bi a fun h em a=>Ca (Cg [Pt p 0,Ag [I f.kind,Sb f.text,Cx f.num,I f.at_]] rfl) (b8.ref04_reader_named bo ei em dcd dcd ej (AO (x:=(AD.mk c.marks (Wr (c.at_+1)) c.why c.where_ (Ae.mk c.l.text c.l.funcs c.l.arity c.l.nest) c.nest)) el) (Fb (x:=f))) ?_
 rintro _ iy ⟨en,iz,i0,rfl,c2,eo,ep,eq⟩
 obtain ⟨c4,c5,rfl,c3⟩:=E1 (Ai eo)
 obtain ⟨er,es,rfl,c6⟩:=E1 (AX eq)
 refine have et:=Bs (Y4 ay m n o bq) c2;Eu<|St CV et rfl rfl rfl rfl fun i3 eu br=>AA<|AW ?_
 obtain rfl:=AN a
 refine O1 B aw rfl (.agg BA rfl rfl (Bw eu))<|have ew:=Ss AJ c3 br;have ex:=Bs ep br;have ey:=Ss Ac c6 br;⟨en,[I h.1.op,Sb h.1.name,Sb h.1.tail,I h.1.type_,Cx h.1.num,Sl c4 h.1.args c5,I h.1.at_],[Sl er h.2.marks es,I h.2.at_,I h.2.why,I h.2.where_,I h.2.l.text,I h.2.l.funcs,I h.2.l.arity,I h.2.l.nest,I h.2.nest],rfl,Ho (T2 (T4 (Mo [1,20,21] ah) m n o bq) c2 br) av,(Ab (x:=h.1) ew),ex,(AO (x:=h.2) ey)⟩
 refine Sr<|Vm<|have ez:=K3 Ac a7 m n o;Bi a fun d e0 a=>Ca (Cg [Pt p 0,Sb ([40]:Bts)] rfl) (E5 bo d5 e0 dcd dcd an (AO (x:=c) ez)) ?_
 rintro _ cc ⟨bt,i4,rfl,ai,cd,e1⟩
 obtain ⟨e2,e3,rfl,a0⟩:=E1 (AX e1)
 refine Va (.bool d.1)<|AA<|Cn a (fun e4 a=>?_) fun e4 a=>?_
 refine Sr<|Vm<|Bi a fun l e5 a=>Ca (Cg [Pt p 0] rfl) (b8.ref04_reader_expr bt cc e5 dcd dcd cd (AO (x:=d.2) a0)) ?_
 rintro _ i6 ⟨e6,i7,i8,rfl,c7,e7,e8,e9⟩
 obtain ⟨cf,cg,rfl,c8⟩:=E1 (Ai e7)
 obtain ⟨jb,jc,rfl,c9⟩:=E1 (AX e9)
 refine Ef<|AU e6 22 By rfl fun fa jd je fb a8=>have fc:=Ss AJ c8 a8;Eu<|St CV fb rfl rfl rfl rfl fun fd fe a9=>AA<|Sr<|Vm<|have ff:=Y2 e8 a8 a9;have fg:=K2 Ac c9 a8 a9;Bi a fun ab fh a=>Ca (Cg [Pt p 0,Sb ([41]:Bts)] rfl) (BP fa fd fh dcd dcd ff (AO (x:=l.2) fg)) ?_
 rintro _ jf ⟨fi,jg,rfl,bu,fj,fk⟩
 obtain ⟨fl,fm,rfl,da⟩:=E1 (AX fk)
 refine AA<|Sr<|have fn:=Bs fe bu;Vx (Lx BA rfl rfl (Bw fn))<|have fo:=Y4 (Y4 ay m n o ai) c7 a8 a9 bu;have fp:=K2 AJ fc a9 bu;Eu<|St CV fo rfl rfl rfl rfl fun ji fq bv=>AA<|AW ?_
 obtain rfl:=AN a
 refine O1 B aw rfl (.agg BA rfl rfl (Bw fq))<|have fr:=Ss AJ fp bv;have fs:=Bs fj bv;have ft:=Ss Ac da bv;⟨fi,[I l.1.op,Sb l.1.name,Sb l.1.tail,I l.1.type_,Cx l.1.num,Sl cf l.1.args cg,I l.1.at_],[Sl fl ab.marks fm,I ab.at_,I ab.why,I ab.where_,I ab.l.text,I ab.l.funcs,I ab.l.arity,I ab.l.nest,I ab.nest],rfl,Ho (Tn (T4 (T4 (Mo [1,20,21,22] ah) m n o ai) c7 a8 a9 bu) bv) av,(Ab (x:=l.1) fr),fs,(AO (x:=ab) ft)⟩
 refine An (fun ao ch=>∃w ap ci,ao=Env.puts w [(0,Pt p 0),(2,Pt bn 0),(3,Pt d3 0),(53,.bool ci)]∧DF a6 bl f d ci=some bm∧AS [] bt cc ap ch) ?_ ?_
 refine AM<|Vx (Fz Km rfl)<|have db:=Bs az ai;Vx (Ld PH rfl (Bc db rfl))<|Vr (.bool (f.kind != 1))<|Vm<|Bo a (fun y a=>?_) fun y a=>?_
 refine Pg y<|Pg y<|Pg y<|Pg y<|Vp y<|Va (.bool true)<|AA<|⟨_,bt,true,Pu,a,Rf⟩
 refine Gx y (Fd FT rfl)<|Gx y (Ld CS rfl (Bc db rfl))<|Bi a fun cj fu a=>B7 (.guard (t:=false) (b:=false) rfl rfl rfl rfl (Cb y)) rfl rfl (Cg [Sb f.text] rfl)<|Calls.mono (M9 bt cc fu) ?_
 rintro _ jj ⟨fv,rfl,fw⟩
 refine ⟨_,rfl,?_⟩
 refine Gr y (.bool (cj==0))<|Vp y<|Va (.bool (cj==0))<|AA<|⟨_,fv,(cj==0),Pu,a,(Mo [] fw)⟩
 rintro _ ch ⟨w,ap,ci,rfl,a,z⟩
 rw [DF] at a
 refine Cn a (fun fx a=>?_) fun fx a=>?_
 refine Sr<|Vm<|have fy:=Bs cd z;have fz:=Ss Ac a0 z;Bi a fun ac f0 a=>Ca (Cg [Pt p 0,I 21] rfl) (E4 ap ch f0 dcd dcd fy (AO (x:=d.2) fz)) ?_
 rintro _ jk ⟨f1,jl,rfl,dc,f2,f3⟩
 obtain ⟨f4,f5,rfl,de⟩:=E1 (AX f3)
 refine AA<|Sr<|Vx (v:=Ag [I 0,Sb ([]:Bts),Sb ([]:Bts),I 0,Cx (((0,0):Nat×Nat)),.slice none 0 0,I 0]) (Bp By Jn rfl .nil)<|have f6:=Y2 (Y4 ay m n o ai) z dc;Eu<|St CV f6 rfl rfl rfl rfl fun jn f7 ck=>AA<|AW ?_
 obtain rfl:=AN a
 refine O1 B aw rfl (.agg BA rfl rfl (Bw f7))<|have f8:=Bs f2 ck;have f9:=Ss Ac de ck;⟨f1,[I 0,Sb ([]:Bts),Sb ([]:Bts),I 0,Cx (((0,0):Nat×Nat)),.slice none 0 0,I 0],[Sl f4 ac.marks f5,I ac.at_,I ac.why,I ac.where_,I ac.l.text,I ac.l.funcs,I ac.l.arity,I ac.l.nest,I ac.nest],rfl,Ho (T3 (T4 (Mo [1,20,21] ah) m n o ai) z dc ck) av,(Ab (x:=(AB.mk 0 ([]:Bts) ([]:Bts) 0 ((0,0):Nat×Nat) [] 0)) Bd),f8,(AO (x:=ac) f9)⟩
 refine WC.skip<|Sr<|Vm<|Vx (Nc rfl)<|Vx (Fd GL rfl)<|have df:=Bs cd z;Vx (Ld CD rfl (Bc df rfl))<|Vr (I (Wr (d.2.at_+1)))<|Vx (Nc rfl)<|Vx (Fd GL rfl)<|Eu<|St Md df rfl rfl rfl rfl fun ga cl a1=>AA<|An (fun ao a2=>∃w ad a3 g q r aq s u,ao=Env.puts w [(0,Pt p 0),(2,Pt bn 0),(5,Pt a3 0)]∧Eo a6 bl d g q r aq s u=some bm∧AS [23] ap ga ad a2∧Bk ad a2 23 a3 [I g,Sb q,Sb r,I aq,Cx s,.slice none 0 0,I u] 56) ?_ ?_
 refine B8 Eg (.q 0 (.q 1 (.q 3 (.q 4 (.two 2 6 (.q 5 (.one 6 (.one 7 .nil))) (.one 2 (.q 5 (.one 7 .nil)))))))) [7] [] ap (by kernel_rfl) fun gb cm=>Qx ax rfl (fun _ _=>Fd FT rfl)<|have dg:=Y4 az ai z a1 cm;Qx ax rfl (fun _ ⟨_,ar⟩=>Ld CS rfl (Bc (Bs dg ar) rfl))<|Qx ax rfl (fun _ _=>Fd LI rfl)<|Qx ax rfl (fun _ ⟨_,ar⟩=>Ld CD rfl (Bc (Bs dg ar) rfl))<|KE rfl rfl ?_ ?_
 refine Bi a fun cn gc a=>BM rfl (.none rfl) rfl rfl (Cg [Sb f.text] rfl)<|Calls.mono (M9 ap gb gc) ?_
 rintro _ jo ⟨gd,rfl,co⟩
 refine ⟨_,rfl,⟨_,(Mo [] co)⟩,?_⟩
 refine Qx ax rfl (v:=Ag [I cn,Sb ([]:Bts),Sb ([]:Bts),I 0,Cx (((0,0):Nat×Nat)),.slice none 0 0,I f.at_]) (fun _ _=>Bv (cs:=[I cn,Sb ([]:Bts),Sb ([]:Bts),I 0,Cx (((0,0):Nat×Nat)),.slice none 0 0,I f.at_]) [I 0,Sb ([]:Bts),Sb ([]:Bts),I 0,Cx (((0,0):Nat×Nat)),.slice none 0 0,I 0] By Jn rfl (.cons rfl rfl rfl (.cons rfl rfl rfl .nil)) rfl rfl)<|A5 rfl<|Aw rfl (.none rfl) rfl rfl<|AU gd 23 By rfl fun ge jp gf gg dh=>⟨⟨_,(Tn (Mo [] co) dh)⟩,?_⟩
 refine CX dcd<|WY.one<|BC rfl (.none rfl) rfl<|St CV gg rfl rfl rfl rfl fun jq gh gi=>WY.nil<|⟨_,ge,gf,cn,([]:Bts),([]:Bts),0,((0,0):Nat×Nat),f.at_,Pu,a,(T3 (Mo [23] cm) co dh gi),gh⟩
 refine Aw rfl (.none rfl) rfl rfl<|AU ap 23 By rfl fun gj gk gl gm cq=>⟨⟨_,(Mo [] cq)⟩,?_⟩
 refine A5 rfl<|Bi a fun cr gn a=>BM rfl (.none rfl) rfl rfl (Cg [Sb f.text] rfl)<|Calls.mono (M9 gj gk gn) ?_
 rintro _ jr ⟨go,rfl,ct⟩
 refine ⟨_,rfl,⟨_,(Tn (Mo [] cq) ct)⟩,?_⟩
 refine Qx ax rfl (v:=Ag [I cr,Sb ([]:Bts),Sb ([]:Bts),I 0,Cx (((0,0):Nat×Nat)),.slice none 0 0,I f.at_]) (fun _ _=>Bv (cs:=[I cr,Sb ([]:Bts),Sb ([]:Bts),I 0,Cx (((0,0):Nat×Nat)),.slice none 0 0,I f.at_]) [I 0,Sb ([]:Bts),Sb ([]:Bts),I 0,Cx (((0,0):Nat×Nat)),.slice none 0 0,I 0] By Jn rfl (.cons rfl rfl rfl (.cons rfl rfl rfl .nil)) rfl rfl)<|CX dcd<|WY.one<|have gp:=Bs gm ct;BC rfl (.none rfl) rfl<|St CV gp rfl rfl rfl rfl fun js gq gr=>WY.nil<|⟨_,go,gl,cr,([]:Bts),([]:Bts),0,((0,0):Nat×Nat),f.at_,Pu,a,(T3 (Mo [23] cm) cq ct gr),gq⟩
 rintro _ a2 ⟨w,ad,a3,g,q,r,aq,s,u,rfl,a,aj,bw⟩
 rw [Eo] at a
 refine An (fun ao a4=>∃w a5 au bx bz ba bb bc bd be bf bg bh af aa ak al,ao=Env.puts w [(2,Pt bn 0),(5,Pt a3 0)]∧GA g q r s u au ba bb bc bd be bf bg bh af aa=some bm∧AS [1,23,24] ad a2 a5 a4∧Slc Ac a5.F a4 (Sl bx au bz) au∧Own AJ 56 a5 a4 25 (Sl ak aa al) aa∧Bk a5 a4 1 p [Sl bx au bz,I ba,I bb,I bc,I bd,I be,I bf,I bg,I bh] 126∧Bk a5 a4 23 a3 [I g,Sb q,Sb r,I af,Cx s,Sl ak aa al,I u] 56) ?_ ?_
 refine Sr<|Vx (Fz DW rfl)<|Vx (Ld Hr rfl (Bc bw rfl))<|AA<|Ad<|Sr<|Vr (.bool (g==5))<|Va (.bool (g==5))<|AA<|Cn a (fun gs a=>?_) fun gs a=>?_
 refine AM<|Vm<|have gt:=Bs cl aj;have gu:=K3 Ac a0 z a1 aj;Bi a fun ae gv a=>Ca (Cg [Pt p 0] rfl) (JS bl ad a2 gv dcd dcd gt (AO (x:=(AD.mk d.2.marks (Wr (d.2.at_+1)) d.2.why d.2.where_ (Ae.mk d.2.l.text d.2.l.funcs d.2.l.arity d.2.l.nest) d.2.nest)) gu)) ?_
 rintro _ jt ⟨gw,ju,rfl,di,gx,gy⟩
 obtain ⟨gz,g0,rfl,dj⟩:=E1 (AX gy)
 refine Vx (Fd K0 rfl)<|have g1:=Bs bw di;Eu<|St Wj g1 rfl rfl rfl rfl fun jw g2 cu=>AA<|have g3:=Ss Ac dj cu;have g4:=Bs gx cu;⟨_,gw,ae.2.marks,gz,g0,ae.2.at_,ae.2.why,ae.2.where_,ae.2.l.text,ae.2.l.funcs,ae.2.l.arity,ae.2.l.nest,ae.2.nest,ae.1,([]:List AB),none,0,Pu,a,(Tn (Mo [1,23,24] di) cu),g3,Own.nil,g4,g2⟩
 refine An (fun ao cv=>∃w b0 cw,ao=Env.puts w [(0,Pt p 0),(2,Pt bn 0),(5,Pt a3 0),(86,.bool cw)]∧CM a6 d g q r aq s u cw=some bm∧AS [] ad a2 b0 cv) ?_ ?_
 refine Sr<|Vr (.bool (g==14))<|Va (.bool (g==14))<|AA<|Cn a (fun g5 a=>?_) fun g5 a=>?_
 refine WC.skip<|⟨_,ad,(g==14),Pu,a,Rf⟩
 refine Sr<|Vr (.bool (g==15))<|Va (.bool (g==15))<|AA<|Cn a (fun g6 a=>?_) fun g6 a=>?_
 refine WC.skip<|⟨_,ad,(g==15),Pu,a,Rf⟩
 refine Sr<|Vr (.bool (g==16))<|Va (.bool (g==16))<|AA<|Cn a (fun g7 a=>?_) fun g7 a=>?_
 refine WC.skip<|⟨_,ad,(g==16),Pu,a,Rf⟩
 refine AM<|Vr (.bool (g==17))<|Va (.bool (g==17))<|AA<|⟨_,ad,(g==17),Pu,a,Rf⟩
 rintro _ cv ⟨w,b0,cw,rfl,a,am⟩
 rw [CM] at a
 refine Cn a (fun g8 a=>?_) fun g8 a=>?_
 refine Sr<|Vm<|have g9:=Y2 cl aj am;have ha:=K4 Ac a0 z a1 aj am;Bi a fun hb hc a=>Ca (Cg [Pt p 0,Sb ([40]:Bts)] rfl) (BP b0 cv hc dcd dcd g9 (AO (x:=(AD.mk d.2.marks (Wr (d.2.at_+1)) d.2.why d.2.where_ (Ae.mk d.2.l.text d.2.l.funcs d.2.l.arity d.2.l.nest) d.2.nest)) ha)) ?_
 rintro _ hd ⟨he,jx,rfl,dk,hf,hg⟩
 obtain ⟨jz,j0,rfl,dl⟩:=E1 (AX hg)
 refine AA<|Sr<|Vm<|Bi a fun e hh a=>Ca (Cg [Pt p 0] rfl) (b8.ref04_reader_expr he hd hh dcd dcd hf (AO (x:=hb) dl)) ?_
 rintro _ j1 ⟨hi,j2,j3,rfl,dm,hj,hk,hl⟩
 obtain ⟨b1,b2,rfl,dn⟩:=E1 (Ai hj)
 obtain ⟨j6,j7,rfl,dp⟩:=E1 (AX hl)
 refine Ef<|AU hi 24 By rfl fun hm j8 j9 hn bi=>have ho:=Ss AJ dn bi;Eu<|St CV hn rfl rfl rfl rfl fun hp hq bj=>AA<|Sr<|Vm<|have hr:=Y2 hk bi bj;have hs:=K2 Ac dp bi bj;Bi a fun ag ht a=>Ca (Cg [Pt p 0,Sb ([41]:Bts)] rfl) (BP hm hp ht dcd dcd hr (AO (x:=e.2) hs)) ?_
 rintro _ ka ⟨hu,kb,rfl,b3,hw,hx⟩
 obtain ⟨hy,hz,rfl,dq⟩:=E1 (AX hx)
 refine AA<|AM<|have h0:=Bs hq b3;Vx (Lx BA rfl rfl (Bw h0))<|Ef<|Bf (cs:=[I e.1.op,Sb e.1.name,Sb e.1.tail,I e.1.type_,Cx e.1.num,Sl b1 e.1.args b2,I e.1.at_]) hu 25 [[I e.1.op,Sb e.1.name,Sb e.1.tail,I e.1.type_,Cx e.1.num,Sl b1 e.1.args b2,I e.1.at_]] C9 By rfl rfl (.cons rfl rfl rfl .nil) rfl fun dr h1 b4 h2 bk=>have h3:=K3 AJ ho bj b3 bk;have ds:Own AJ 56 dr h1 25 (.slice (some ⟨b4,0,none⟩) 1 1) ([e.1]:List AB):=Own.lit (css:=[[I e.1.op,Sb e.1.name,Sb e.1.tail,I e.1.type_,Cx e.1.num,Sl b1 e.1.args b2,I e.1.at_]]) h2 rfl rfl rfl (AQ (Ab (x:=e.1) h3) Au) (Av rfl CP) rfl;Vx (Fd Bh rfl)<|have h4:=Y3 (Y4 bw am dk dm bi) bj b3 bk;Eu<|BB (vs:=[Sl (some ⟨b4,0,none⟩) (([e.1]:List AB)) 1]) (cs':=[I g,Sb q,Sb r,I aq,Cx s,Sl (some ⟨b4,0,none⟩) (([e.1]:List AB)) 1,I u]) Qk rfl rfl rfl rfl (AP (Own.one ds) BO) h4 dcd rfl rfl fun kd h5 b5=>AA<|have h6:=K2 Ac dq bk b5;have h7:=Os ds b5;have h8:=Y2 hw bk b5;⟨_,dr,ag.marks,hy,hz,ag.at_,ag.why,ag.where_,ag.l.text,ag.l.funcs,ag.l.arity,ag.l.nest,ag.nest,aq,([e.1]:List AB),(some ⟨b4,0,none⟩),1,Pu,a,(T3 (T4 (Mo [1,23,24] am) dk dm bi bj) b3 bk b5),h6,h7,h8,h5⟩
 refine WC.skip<|have h9:=K4 Ac a0 z a1 aj am;have ia:=Y2 cl aj am;have ib:=Bs bw am;⟨_,b0,d.2.marks,e2,e3,(Wr (d.2.at_+1)),d.2.why,d.2.where_,d.2.l.text,d.2.l.funcs,d.2.l.arity,d.2.l.nest,d.2.nest,aq,([]:List AB),none,0,Pu,a,(Mo [1,23,24] am),h9,Own.nil,ia,ib⟩
 rintro _ a4 ⟨w,a5,au,bx,bz,ba,bb,bc,bd,be,bf,bg,bh,af,aa,ak,al,rfl,a,dt,ic,du,id,ie⟩
 rw [GA] at a
 refine Sr<|Vx (Lx BA rfl rfl (Bw ie))<|have ig:=Y4 (Y4 ay m n o ai) z a1 aj dt;Eu<|BB (vs:=[I g,Sb q,Sb r,I af,Cx s,Sl ak aa al,I u]) (cs':=[I g,Sb q,Sb r,I af,Cx s,Sl ak aa al,I u]) CV rfl rfl rfl rfl (AP rfl (AP rfl (AP rfl (AP rfl (AP rfl (AP (Own.one du) (AP rfl BO))))))) ig dcd rfl rfl fun ke ih b6=>AA<|AW<|have ii:=Os du b6; ?_
 obtain ⟨ij,b7,ik⟩:=Own.freeze (S:=[25]) ii dcd dcd
 obtain rfl:=AN a
 refine have il:=Bs ih b7;O1 B aw rfl (.agg BA rfl rfl (Bw il))<|have im:=Y2 id b6 b7;have io:=K2 Ac ic b6 b7;⟨ij,[I g,Sb q,Sb r,I af,Cx s,Sl ak aa al,I u],[Sl bx au bz,I ba,I bb,I bc,I bd,I be,I bf,I bg,I bh],rfl,Ho (T2 (T4 (T4 (Mo [1,20,21,23,24,25] ah) m n o ai) z a1 aj dt) b6 b7) av,(Ab (x:=(AB.mk g q r af s aa u)) ik),im,(AO (x:=(AD.mk au ba bb bc (Ae.mk bd be bf bg) bh)) io)⟩
theorem OK(c:AC)(e:Nat)(h:AC.Good c):ref04_reader_unit.Spec (Cy c e):=lk1 (OJ c e h)
theorem Ni(ac:AC)(b0:Nat)(co:AC.Good ac)(bj:Col)(cq:World)(b1:∀b,bj b<10):ref04_reader_named.At True True bj cq (Cf ac b0) 1:=by
 intro l cr e5 d e6 aw a _ _ ct cu cv
 rw [Cf] at a
 obtain ⟨e8,e9,rfl,b2⟩:=E1 (AX cu)
 obtain rfl:=DB cv
 refine Ay Tryz.func162 rfl Tryz.ntmps162 rfl fun B b3 fa=>Sr<|Ef<|BX bj 20 rfl rfl fun cw fb fc b4 ax=>Ef<|AU cw 21 By rfl fun cx cy bk b5 ai=>AA<|AY<|Sr<|Vm<|have cz:=Y2 ct ax ai;have c0:=K2 Ac b2 ax ai;Bi a fun e c1 a=>Ca (Cg [Pt l 0,Sb ([40]:Bts)] rfl) (E5 cx cy c1 dcd dcd cz (AO (x:=cr) c0)) ?_
 rintro _ fd ⟨b6,fe,rfl,aj,b7,c2⟩
 obtain ⟨b8,b9,rfl,bl⟩:=E1 (AX c2)
 refine Vr (.bool (!e.1))<|AA<|Cn a (fun c3 a=>?_) fun c3 a=>?_
 refine Sr<|Vx (Fd FT rfl)<|have ca:=Y2 b4 ai aj;Vx (Ld CS rfl (Bc ca rfl))<|Vx (Fd LI rfl)<|Vx (Ld CD rfl (Bc ca rfl))<|Vx (v:=Ag [I 6,Sb d.text,Sb ([]:Bts),I 0,Cx (((0,0):Nat×Nat)),.slice none 0 0,I d.at_]) (Bp By Jn rfl (.cons rfl rfl rfl (.cons rfl rfl rfl (.cons rfl rfl rfl .nil))))<|have c4:=Bs b5 aj;Eu<|St CV c4 rfl rfl rfl rfl fun fg c5 bm=>AA<|AW ?_
 obtain rfl:=AN a
 refine O1 B b3 rfl (.agg BA rfl rfl (Bw c5))<|have c6:=Bs b7 bm;have c7:=Ss Ac bl bm;⟨b6,[I 6,Sb d.text,Sb ([]:Bts),I 0,Cx (((0,0):Nat×Nat)),.slice none 0 0,I d.at_],[Sl b8 e.2.marks b9,I e.2.at_,I e.2.why,I e.2.where_,I e.2.l.text,I e.2.l.funcs,I e.2.l.arity,I e.2.l.nest,I e.2.nest],rfl,Ho (T3 (Mo [1,21] ax) ai aj bm) b1,(Ab (x:=(AB.mk 6 d.text ([]:Bts) 0 ((0,0):Nat×Nat) [] d.at_)) Bd),c6,(AO (x:=e.2) c7)⟩
 refine WC.skip<|Sr<|Vx (Fd FT rfl)<|have cb:=Y2 b4 ai aj;Vx (Ld CS rfl (Bc cb rfl))<|Vx (Fd LI rfl)<|Vx (Ld CD rfl (Bc cb rfl))<|Vx (v:=Ag [I 7,Sb d.text,Sb ([]:Bts),I 0,Cx (((0,0):Nat×Nat)),.slice none 0 0,I d.at_]) (Bp By Jn rfl (.cons rfl rfl rfl (.cons rfl rfl rfl (.cons rfl rfl rfl .nil))))<|Ef<|AU b6 22 By rfl fun cc fh ay c8 az=>Eu<|St CV c8 rfl rfl rfl rfl fun c9 da a0=>AA<|AY<|Ad<|Bj (fun ad ap ae=>∃af o h a1 a2 p m q r u w y z f ag ah,ap=Env.puts af [(0,Pt l 0),(4,Pt bk 0),(5,Pt ay 0)]∧Ba ac d ad h p m q r u w y z f=some aw∧AS [1,22,23,25] cc c9 o ae∧Slc Ac o.F ae (Sl a1 h a2) h∧Own AJ 56 o ae 25 (Sl ag f ah) f∧Bk o ae 1 l [Sl a1 h a2,I p,I m,I q,I r,I u,I w,I y,I z] 126∧Bk o ae 22 ay [I 7,Sb d.text,Sb ([]:Bts),I 0,Cx (((0,0):Nat×Nat)),Sl ag f ah,I d.at_] 56) b0 ?_ ?_
 refine have db:=K2 Ac bl az a0;have dc:=Y2 b7 az a0;⟨_,cc,e.2.marks,b8,b9,e.2.at_,e.2.why,e.2.where_,e.2.l.text,e.2.l.funcs,e.2.l.arity,e.2.l.nest,e.2.nest,([]:List AB),none,0,Pu,a,(AS.refl [1,22,23,25] _ _),db,Own.nil,dc,da⟩
 rintro ad _ ae ⟨af,o,h,a1,a2,p,m,q,r,u,w,y,z,f,ag,ah,rfl,a,bn,a3,bo,aq,bp⟩
 rcases ad with _|ad
 exact A6 a
 refine have a:CZ ac d (Ba ac d ad) h p m q r u w y z f=some aw:=a; ?_
 obtain ⟨cd,cf⟩:∃s,s=Ba ac d ad:=⟨_,rfl⟩
 rw [←cf,CZ] at a
 refine AY<|An (fun ap ar=>∃af ak bq,ap=Env.puts af [(0,Pt l 0),(4,Pt bk 0),(5,Pt ay 0),(29,.bool bq)]∧DP ac d h p m q r u w y z f cd bq=some aw∧AS [] o ae ak ar) ?_ ?_
 refine AM<|Vm<|Vx (Nc rfl)<|Vx (Fd Iz rfl)<|Vx (Ld CD rfl (Bc aq rfl))<|Vr (.bool (m==0))<|Vm<|Bo a (fun aa a=>?_) fun aa a=>?_
 refine Gm aa<|Bi a fun cg de a=>B7 (.guard (t:=true) (b:=true) rfl rfl rfl rfl (Cb aa)) rfl rfl (Cg [Pt l 0,Sb ([41]:Bts)] rfl)<|Calls.mono (Cs o ae de dcd dcd aq (AO (x:=(AD.mk h p m q (Ae.mk r u w y) z)) a3)) ?_
 rintro _ fi ⟨df,rfl,dg⟩
 refine ⟨_,rfl,?_⟩
 refine Gr aa (.bool (!cg))<|Vp aa<|AA<|⟨_,df,(!cg),Pu,a,(Mo [] dg)⟩
 refine Pg aa<|Pg aa<|Pg aa<|Vp aa<|AA<|⟨_,o,false,Pu,a,Rf⟩
 rintro _ ar ⟨af,ak,bq,rfl,a,g⟩
 rw [DP] at a
 refine Cn a (fun dh a=>?_) fun dh a=>?_
 refine WC.skip<|Ad<|An (fun ap au=>∃af av al br bt a4 a5 a6 a7 a8 a9 ba bb,ap=Env.puts af [(0,Pt l 0),(4,Pt bk 0),(5,Pt ay 0)]∧DO ac f cd al a4 a5 a6 a7 a8 a9 ba bb=some aw∧AS [1] ak ar av au∧Slc Ac av.F au (Sl br al bt) al∧Bk av au 1 l [Sl br al bt,I a4,I a5,I a6,I a7,I a8,I a9,I ba,I bb] 126) ?_ ?_
 refine Sr<|Vx (Fd Bh rfl)<|have di:=Bs bp g;Vx (Ld EC rfl (Bc di rfl))<|have dj:=Os bo g; ?_
 obtain ⟨fj,fk,dk⟩:=Own.len dj
 refine Vx (v:=I (f.length:Int)) (Ll C9 dk)<|Vr (.bool (decide ((f.length:Int)>0)))<|AA<|Cn a (fun dl a=>?_) fun dl a=>?_
 refine AM<|Vm<|have dm:=Bs aq g;have dn:=Ss Ac a3 g;Bi a fun ab dp a=>Ca (Cg [Pt l 0,Sb ([44]:Bts)] rfl) (BP ak ar dp dcd dcd dm (AO (x:=(AD.mk h p m q (Ae.mk r u w y) z)) dn)) ?_
 rintro _ fl ⟨dq,fm,rfl,dr,ds,dt⟩
 obtain ⟨du,dv,rfl,ch⟩:=E1 (AX dt)
 refine AA<|⟨_,dq,ab.marks,du,dv,ab.at_,ab.why,ab.where_,ab.l.text,ab.l.funcs,ab.l.arity,ab.l.nest,ab.nest,Pu,a,(Mo [1] dr),ch,ds⟩
 refine WC.skip<|have dw:=Ss Ac a3 g;have dx:=Bs aq g;⟨_,ak,h,a1,a2,p,m,q,r,u,w,y,z,Pu,a,(AS.refl [1] _ _),dw,dx⟩
 rintro _ au ⟨af,av,al,br,bt,a4,a5,a6,a7,a8,a9,ba,bb,rfl,a,bu,dy,dz⟩
 rw [DO] at a
 refine Sr<|Vm<|Bi a fun c d0 a=>Ca (Cg [Pt l 0] rfl) (co.ref04_reader_expr av au d0 dcd dcd dz (AO (x:=(AD.mk al a4 a5 a6 (Ae.mk a7 a8 a9 ba) bb)) dy)) ?_
 rintro _ fo ⟨d1,fp,fq,rfl,bv,d2,d3,d4⟩
 obtain ⟨bc,bd,rfl,ci⟩:=E1 (Ai d2)
 obtain ⟨d5,d6,rfl,cj⟩:=E1 (AX d4)
 refine Ef<|AU d1 23 By rfl fun d7 ft fu d8 am=>have d9:=Ss AJ ci am;Eu<|St CV d8 rfl rfl rfl rfl fun fv ea an=>AA<|AM<|Vx (Fd Bh rfl)<|have ck:=Bs (Y4 bp g bu bv am) an;Vx (Ld EC rfl (Bc ck rfl))<|Vx (Lx BA rfl rfl (Bw ea))<|Ef<|Bf (cs:=[I c.1.op,Sb c.1.name,Sb c.1.tail,I c.1.type_,Cx c.1.num,Sl bc c.1.args bd,I c.1.at_]) d7 24 [[I c.1.op,Sb c.1.name,Sb c.1.tail,I c.1.type_,Cx c.1.num,Sl bc c.1.args bd,I c.1.at_]] C9 By rfl rfl (.cons rfl rfl rfl .nil) rfl fun eb ec ed ee ao=>have ef:=K2 AJ d9 an ao;have eg:Own AJ 56 eb ec 24 (.slice (some ⟨ed,0,none⟩) 1 1) ([c.1]:List AB):=Own.lit (css:=[[I c.1.op,Sb c.1.name,Sb c.1.tail,I c.1.type_,Cx c.1.num,Sl bc c.1.args bd,I c.1.at_]]) ee rfl rfl rfl (AQ (Ab (x:=c.1) ef) Au) (Av rfl CP) rfl;have eh:=Os (Os (Os (Os (Os (Os bo g) bu) bv) am) an) ao;Bi a fun fw cl a=>Ef<|Az (κ:=AJ) rfl rfl eh dcd Wi (BL eg) (CF cl) (CK cl) fun fx ei fy bw be=>?_
 obtain ⟨bx,bz,rfl⟩:=Own.len bw
 refine Vx (Fd Bh rfl)<|have ej:=Y2 ck ao be;Eu<|BB (vs:=[Sl bx ((f++([c.1]:List AB))) bz]) (cs':=[I 7,Sb d.text,Sb ([]:Bts),I 0,Cx (((0,0):Nat×Nat)),Sl bx ((f++([c.1]:List AB))) bz,I d.at_]) Qk rfl rfl rfl rfl (AP (Own.one bw) BO) ej dcd rfl rfl fun fz ek bf=>AA<|have el:=Ss Ac (K4 Ac cj am an ao be) bf;have em:=Os bw bf;have en:=Bs (Y4 d3 am an ao be) bf;⟨ad,Nat.lt_succ_self ad,_,ei,c.2.marks,d5,d6,c.2.at_,c.2.why,c.2.where_,c.2.l.text,c.2.l.funcs,c.2.l.arity,c.2.l.nest,c.2.nest,(f++([c.1]:List AB)),bx,bz,Pu,(cf▸a),(T4 (T4 (Mo [1,22,23,25] bn) g bu bv am) an ao be bf),el,em,en,ek⟩
 refine BZ<|Sr<|Vm<|have eo:=Bs aq g;have ep:=Ss Ac a3 g;Bi a fun n eq a=>Ca (Cg [Pt l 0,Sb ([41]:Bts)] rfl) (BP ak ar eq dcd dcd eo (AO (x:=(AD.mk h p m q (Ae.mk r u w y) z)) ep)) ?_
 rintro _ f0 ⟨f1,f2,rfl,bg,er,es⟩
 obtain ⟨et,eu,rfl,cm⟩:=E1 (AX es)
 refine AA<|Sr<|have ew:=Y2 bp g bg;Vx (Lx BA rfl rfl (Bw ew))<|have ex:=Y2 (Y4 b5 aj az a0 bn) g bg;have cn:=Os (Os bo g) bg;Eu<|BB (vs:=[I 7,Sb d.text,Sb ([]:Bts),I 0,Cx (((0,0):Nat×Nat)),Sl ag f ah,I d.at_]) (cs':=[I 7,Sb d.text,Sb ([]:Bts),I 0,Cx (((0,0):Nat×Nat)),Sl ag f ah,I d.at_]) CV rfl rfl rfl rfl (AP rfl (AP rfl (AP rfl (AP rfl (AP rfl (AP (Own.one cn) (AP rfl BO))))))) ex dcd rfl rfl fun f4 ey bh=>AA<|AW<|have ez:=Os cn bh; ?_
 obtain ⟨e0,bi,e1⟩:=Own.freeze (S:=[25]) ez dcd dcd
 obtain rfl:=AN a
 refine have e2:=Bs ey bi;O1 B b3 rfl (.agg BA rfl rfl (Bw e2))<|have e3:=Y2 er bh bi;have e4:=K2 Ac cm bh bi;⟨e0,[I 7,Sb d.text,Sb ([]:Bts),I 0,Cx (((0,0):Nat×Nat)),Sl ag f ah,I d.at_],[Sl et n.marks eu,I n.at_,I n.why,I n.where_,I n.l.text,I n.l.funcs,I n.l.arity,I n.l.nest,I n.nest],rfl,Ho (Tn (T4 (T4 (Mo [1,21,22,23,25] ax) ai aj az a0) bn g bg bh) bi) b1,(Ab (x:=(AB.mk 7 d.text ([]:Bts) 0 ((0,0):Nat×Nat) f d.at_)) e1),e3,(AO (x:=n) e4)⟩
theorem Nj(c:AC)(e:Nat)(h:AC.Good c):ref04_reader_named.Spec (Cf c e):=lk1 (Ni c e h)
theorem AC.good:∀d,AC.Good (AC.at d)
 |0=>⟨by intro a c;intros;(try intro _);intros;exact A6 (by assumption),by intro a c;intros;(try intro _);intros;exact A6 (by assumption),by intro a c;intros;(try intro _);intros;exact A6 (by assumption),by intro a c;intros;(try intro _);intros;exact A6 (by assumption),by intro a c;intros;(try intro _);intros;exact A6 (by assumption),by intro a c;intros;(try intro _);intros;exact A6 (by assumption),by intro a c;intros;(try intro _);intros;exact A6 (by assumption),by intro a c;intros;(try intro _);intros;exact A6 (by assumption),by intro a c;intros;(try intro _);intros;exact A6 (by assumption)⟩
 |n+1=>⟨OC _ n (AC.good n),OE _ n (AC.good n),Nh _ n (AC.good n),Mq _ n (AC.good n),OG _ n (AC.good n),Oj _ n (AC.good n),OI _ n (AC.good n),OK _ n (AC.good n),Nj _ n (AC.good n)⟩
theorem Ok(a:Nat):ref04_reader_expr.Spec (ref04_reader_expr a):=(AC.good a).ref04_reader_expr
def Cp.At(G1 G2:Prop)(e:Col)(a:World)(f:AD→Int→Option (AE×AD))(g:Nat):Prop:=
 ∀{h m n o l},f m o=some l→G1→G2→Bk e a g h n 126→BE.rep e.F a n m→
  Calls PG 74 #[Pt h 0,I o] a fun r c=>∃d p q,r=.returned (Ag p)∧AS [g] e a d c∧AI.rep d.F c p l.1∧Bk d c g h q 126∧BE.rep d.F c q l.2
def Cp.Spec(f:AD→Int→Option (AE×AD)):Prop:=
 ∀c d {a},Cp.At ([a].Nodup) (0∉[a]) c d f a
end Fth
