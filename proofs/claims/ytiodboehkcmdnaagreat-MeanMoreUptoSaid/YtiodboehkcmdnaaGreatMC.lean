/- Part 3 of the proof: what it says holds of the given program; no condition. -/
import Derived.Test.YtiodboehkcmdnaaGreatProg
import Derived.KernelRfl
import Derived.Test.YtiodboehkcmdnaaGreatMB
set_option linter.all false
set_option exponentiation.threshold 3000
namespace Fth
open Go Go.Proofs Sh
set_option maxRecDepth 100000
set_option maxHeartbeats 8000000
def GI:Kd Ak:=VQ 89 90
theorem CS{F:Nat→Prop}{a:World}{c hv tv:Value}{x:Ak}(d:Slc Kd.cpx F a c x.plain.list)(e:MTh 89 90 F a hv x.head)(f:MTh 89 90 F a tv x.tail):GI.rep F a [I x.plain.type_,Cx x.plain.num,.bool x.plain.bool,c,hv,tv] x:=⟨_,_,_,rfl,d,e,f⟩
theorem DE{F:Nat→Prop}{a:World}{cs:List Value}{x:Ak}(h:GI.rep F a cs x):∃c hv tv,cs=[I x.plain.type_,Cx x.plain.num,.bool x.plain.bool,c,hv,tv]∧Slc Kd.cpx F a c x.plain.list∧MTh 89 90 F a hv x.head∧MTh 89 90 F a tv x.tail:=h
theorem Ff:Tryz.prog.follows .mixedOrders=true:=by kernel_rfl
theorem I2:MA Tryz.prog 111 2=true:=by kernel_rfl
theorem HW:MA Tryz.prog 159 4=true:=by kernel_rfl
theorem Z4:MA Tryz.prog 24 3=true:=by kernel_rfl
theorem JI:MA Tryz.prog 28 1=true:=by kernel_rfl
theorem Dc:MA Tryz.prog 38 4=true:=by kernel_rfl
theorem LQ:MA Tryz.prog 40 9=true:=by kernel_rfl
theorem BL:MA Tryz.prog 56 7=true:=by kernel_rfl
theorem M9:MA Tryz.prog 58 11=true:=by kernel_rfl
theorem Mb:MA Tryz.prog 63 2=true:=by kernel_rfl
theorem XH:MA Tryz.prog 76 4=true:=by kernel_rfl
theorem VS:MA Tryz.prog 87 3=true:=by kernel_rfl
theorem In:MA Tryz.prog 96 6=true:=by kernel_rfl
theorem Ok:Tryz.prog.underlying 22=some (.slice 5)∧Tryz.prog.underlying 5=some (.int .u8)∧Tryz.prog.underlying 9=some .string:=by exact ⟨by kernel_rfl,by kernel_rfl,by kernel_rfl⟩
theorem Z5:CE Tryz.prog 10:=CE.of Tryz.func10 rfl dcd
theorem Yf:CE Tryz.prog 100:=CE.of Tryz.func100 rfl dcd
theorem NA:CE Tryz.prog 101:=CE.of Tryz.func101 rfl dcd
theorem PR:CE Tryz.prog 102:=CE.of Tryz.func102 rfl dcd
theorem Hx:CE Tryz.prog 103:=CE.of Tryz.func103 rfl dcd
theorem KE:CE Tryz.prog 104:=CE.of Tryz.func104 rfl dcd
theorem RK:CE Tryz.prog 105:=CE.of Tryz.func105 rfl dcd
theorem MQ:CE Tryz.prog 106:=CE.of Tryz.func106 rfl dcd
theorem Vw:CE Tryz.prog 107:=CE.of Tryz.func107 rfl dcd
theorem Yg:CE Tryz.prog 108:=CE.of Tryz.func108 rfl dcd
theorem Vy:CE Tryz.prog 109:=CE.of Tryz.func109 rfl dcd
theorem XI:CE Tryz.prog 11:=CE.of Tryz.func11 rfl dcd
theorem Vz:CE Tryz.prog 110:=CE.of Tryz.func110 rfl dcd
theorem Yh:CE Tryz.prog 111:=CE.of Tryz.func111 rfl dcd
theorem Yi:CE Tryz.prog 112:=CE.of Tryz.func112 rfl dcd
theorem Yj:CE Tryz.prog 113:=CE.of Tryz.func113 rfl dcd
theorem Yk:CE Tryz.prog 114:=CE.of Tryz.func114 rfl dcd
theorem Yl:CE Tryz.prog 115:=CE.of Tryz.func115 rfl dcd
theorem NB:CE Tryz.prog 116:=CE.of Tryz.func116 rfl dcd
theorem Ym:CE Tryz.prog 117:=CE.of Tryz.func117 rfl dcd
theorem Yn:CE Tryz.prog 118:=CE.of Tryz.func118 rfl dcd
theorem VT:CE Tryz.prog 12:=CE.of Tryz.func12 rfl dcd
theorem Yo:CE Tryz.prog 128:=CE.of Tryz.func128 rfl dcd
theorem Yp:CE Tryz.prog 129:=CE.of Tryz.func129 rfl dcd
theorem P6:CE Tryz.prog 13:=CE.of Tryz.func13 rfl dcd
theorem NC:CE Tryz.prog 130:=CE.of Tryz.func130 rfl dcd
theorem V0:CE Tryz.prog 131:=CE.of Tryz.func131 rfl dcd
theorem V1:CE Tryz.prog 132:=CE.of Tryz.func132 rfl dcd
theorem Yq:CE Tryz.prog 133:=CE.of Tryz.func133 rfl dcd
theorem MR:CE Tryz.prog 134:=CE.of Tryz.func134 rfl dcd
theorem PS:CE Tryz.prog 137:=CE.of Tryz.func137 rfl dcd
theorem Yr:CE Tryz.prog 138:=CE.of Tryz.func138 rfl dcd
theorem Ys:CE Tryz.prog 139:=CE.of Tryz.func139 rfl dcd
theorem Yt:CE Tryz.prog 140:=CE.of Tryz.func140 rfl dcd
theorem Yu:CE Tryz.prog 141:=CE.of Tryz.func141 rfl dcd
theorem Yv:CE Tryz.prog 142:=CE.of Tryz.func142 rfl dcd
theorem Yw:CE Tryz.prog 143:=CE.of Tryz.func143 rfl dcd
theorem RL:CE Tryz.prog 144:=CE.of Tryz.func144 rfl dcd
theorem Tt:CE Tryz.prog 145:=CE.of Tryz.func145 rfl dcd
theorem Yx:CE Tryz.prog 146:=CE.of Tryz.func146 rfl dcd
theorem V2:CE Tryz.prog 147:=CE.of Tryz.func147 rfl dcd
theorem V3:CE Tryz.prog 148:=CE.of Tryz.func148 rfl dcd
theorem Yy:CE Tryz.prog 150:=CE.of Tryz.func150 rfl dcd
theorem V4:CE Tryz.prog 151:=CE.of Tryz.func151 rfl dcd
theorem Tu:CE Tryz.prog 152:=CE.of Tryz.func152 rfl dcd
theorem RM:CE Tryz.prog 153:=CE.of Tryz.func153 rfl dcd
theorem Yz:CE Tryz.prog 154:=CE.of Tryz.func154 rfl dcd
theorem V5:CE Tryz.prog 155:=CE.of Tryz.func155 rfl dcd
theorem Y0:CE Tryz.prog 156:=CE.of Tryz.func156 rfl dcd
theorem V6:CE Tryz.prog 157:=CE.of Tryz.func157 rfl dcd
theorem Y1:CE Tryz.prog 159:=CE.of Tryz.func159 rfl dcd
theorem Y5:CE Tryz.prog 161:=CE.of Tryz.func161 rfl dcd
theorem Y6:CE Tryz.prog 162:=CE.of Tryz.func162 rfl dcd
theorem Tv:CE Tryz.prog 163:=CE.of Tryz.func163 rfl dcd
theorem V7:CE Tryz.prog 164:=CE.of Tryz.func164 rfl dcd
theorem V8:CE Tryz.prog 165:=CE.of Tryz.func165 rfl dcd
theorem VU:CE Tryz.prog 17:=CE.of Tryz.func17 rfl dcd
theorem Z6:CE Tryz.prog 22:=CE.of Tryz.func22 rfl dcd
theorem Z7:CE Tryz.prog 23:=CE.of Tryz.func23 rfl dcd
theorem Lx:CE Tryz.prog 26:=CE.of Tryz.func26 rfl dcd
theorem Rj:CE Tryz.prog 27:=CE.of Tryz.func27 rfl dcd
theorem Z8:CE Tryz.prog 28:=CE.of Tryz.func28 rfl dcd
theorem Z9:CE Tryz.prog 29:=CE.of Tryz.func29 rfl dcd
theorem XJ:CE Tryz.prog 30:=CE.of Tryz.func30 rfl dcd
theorem AAA:CE Tryz.prog 31:=CE.of Tryz.func31 rfl dcd
theorem K0:CE Tryz.prog 33:=CE.of Tryz.func33 rfl dcd
theorem AAB:CE Tryz.prog 34:=CE.of Tryz.func34 rfl dcd
theorem VW:CE Tryz.prog 39:=CE.of Tryz.func39 rfl dcd
theorem AAC:CE Tryz.prog 47:=CE.of Tryz.func47 rfl dcd
theorem AAD:CE Tryz.prog 48:=CE.of Tryz.func48 rfl dcd
theorem AAE:CE Tryz.prog 49:=CE.of Tryz.func49 rfl dcd
theorem AAF:CE Tryz.prog 50:=CE.of Tryz.func50 rfl dcd
theorem AAG:CE Tryz.prog 51:=CE.of Tryz.func51 rfl dcd
theorem K1:CE Tryz.prog 53:=CE.of Tryz.func53 rfl dcd
theorem Ju:CE Tryz.prog 54:=CE.of Tryz.func54 rfl dcd
theorem Rk:CE Tryz.prog 55:=CE.of Tryz.func55 rfl dcd
theorem AAH:CE Tryz.prog 56:=CE.of Tryz.func56 rfl dcd
theorem Tw:CE Tryz.prog 57:=CE.of Tryz.func57 rfl dcd
theorem AAI:CE Tryz.prog 58:=CE.of Tryz.func58 rfl dcd
theorem XK:CE Tryz.prog 64:=CE.of Tryz.func64 rfl dcd
theorem AAJ:CE Tryz.prog 71:=CE.of Tryz.func71 rfl dcd
theorem AAK:CE Tryz.prog 72:=CE.of Tryz.func72 rfl dcd
theorem LR:CE Tryz.prog 73:=CE.of Tryz.func73 rfl dcd
theorem AAL:CE Tryz.prog 74:=CE.of Tryz.func74 rfl dcd
theorem VX:CE Tryz.prog 75:=CE.of Tryz.func75 rfl dcd
theorem VY:CE Tryz.prog 76:=CE.of Tryz.func76 rfl dcd
theorem AAM:CE Tryz.prog 77:=CE.of Tryz.func77 rfl dcd
theorem AAN:CE Tryz.prog 78:=CE.of Tryz.func78 rfl dcd
theorem XL:CE Tryz.prog 80:=CE.of Tryz.func80 rfl dcd
theorem VZ:CE Tryz.prog 82:=CE.of Tryz.func82 rfl dcd
theorem Vb:CE Tryz.prog 83:=CE.of Tryz.func83 rfl dcd
theorem AAO:CE Tryz.prog 87:=CE.of Tryz.func87 rfl dcd
theorem XM:CE Tryz.prog 88:=CE.of Tryz.func88 rfl dcd
theorem AAP:CE Tryz.prog 91:=CE.of Tryz.func91 rfl dcd
theorem AAQ:CE Tryz.prog 97:=CE.of Tryz.func97 rfl dcd
theorem XN:CE Tryz.prog 98:=CE.of Tryz.func98 rfl dcd
theorem AAR:CE Tryz.prog 99:=CE.of Tryz.func99 rfl dcd
theorem Vc:Tryz.prog.underlying 145=some (.float .f64)∧Tryz.prog.underlying 3=some (.int .i64):=by exact ⟨by kernel_rfl,by kernel_rfl⟩
theorem AAS{ρ:Env}{a:World}{d:Option Nat}{ty:Nat}{pos:String}{af:Array Edge}{g:Option (Nat×Bool)}{x:Operand}{xs:List Operand}{vs caps:List Value}{ts:Array Nat}(hx:ev ρ x=.func (.func 52) #[] caps.toArray)(hv:xs.map (ev ρ)=vs):
 (execOp (ev ρ) ⟨d,.call {callee:=.value x,args:=xs.toArray,argTypes:=ts},ty,pos,af,g⟩).run Tryz.prog a=.ok (.enter 52 (vs++caps).toArray) a:=Run.enterV Tryz.func52 rfl dcd hx hv
theorem Rl{ρ:Env}{a:World}{d:Option Nat}{ty:Nat}{pos:String}{af:Array Edge}{g:Option (Nat×Bool)}{x:Operand}{xs:List Operand}{vs caps:List Value}{ts:Array Nat}(hx:ev ρ x=.func (.func 79) #[] caps.toArray)(hv:xs.map (ev ρ)=vs):
 (execOp (ev ρ) ⟨d,.call {callee:=.value x,args:=xs.toArray,argTypes:=ts},ty,pos,af,g⟩).run Tryz.prog a=.ok (.enter 79 (vs++caps).toArray) a:=Run.enterV Tryz.func79 rfl dcd hx hv
theorem AAT{ρ:Env}{a:World}{d:Option Nat}{ty:Nat}{pos:String}{af:Array Edge}{g:Option (Nat×Bool)}{x:Operand}{xs:List Operand}{vs caps:List Value}{ts:Array Nat}(hx:ev ρ x=.func (.func 81) #[] caps.toArray)(hv:xs.map (ev ρ)=vs):
 (execOp (ev ρ) ⟨d,.call {callee:=.value x,args:=xs.toArray,argTypes:=ts},ty,pos,af,g⟩).run Tryz.prog a=.ok (.enter 81 (vs++caps).toArray) a:=Run.enterV Tryz.func81 rfl dcd hx hv
theorem AAU{ρ:Env}{a:World}{d:Option Nat}{ty:Nat}{pos:String}{af:Array Edge}{g:Option (Nat×Bool)}{x:Operand}{xs:List Operand}{vs caps:List Value}{ts:Array Nat}(hx:ev ρ x=.func (.func 84) #[] caps.toArray)(hv:xs.map (ev ρ)=vs):
 (execOp (ev ρ) ⟨d,.call {callee:=.value x,args:=xs.toArray,argTypes:=ts},ty,pos,af,g⟩).run Tryz.prog a=.ok (.enter 84 (vs++caps).toArray) a:=Run.enterV Tryz.func84 rfl dcd hx hv
theorem AAV{ρ:Env}{a:World}{d:Option Nat}{ty:Nat}{pos:String}{af:Array Edge}{g:Option (Nat×Bool)}{x:Operand}{xs:List Operand}{vs caps:List Value}{ts:Array Nat}(hx:ev ρ x=.func (.func 85) #[] caps.toArray)(hv:xs.map (ev ρ)=vs):
 (execOp (ev ρ) ⟨d,.call {callee:=.value x,args:=xs.toArray,argTypes:=ts},ty,pos,af,g⟩).run Tryz.prog a=.ok (.enter 85 (vs++caps).toArray) a:=Run.enterV Tryz.func85 rfl dcd hx hv
theorem AAW{ρ:Env}{a:World}{d:Option Nat}{ty:Nat}{pos:String}{af:Array Edge}{g:Option (Nat×Bool)}{x:Operand}{xs:List Operand}{vs caps:List Value}{ts:Array Nat}(hx:ev ρ x=.func (.func 86) #[] caps.toArray)(hv:xs.map (ev ρ)=vs):
 (execOp (ev ρ) ⟨d,.call {callee:=.value x,args:=xs.toArray,argTypes:=ts},ty,pos,af,g⟩).run Tryz.prog a=.ok (.enter 86 (vs++caps).toArray) a:=Run.enterV Tryz.func86 rfl dcd hx hv
theorem AAX{ρ:Env}{a:World}{d:Option Nat}{ty:Nat}{pos:String}{af:Array Edge}{g:Option (Nat×Bool)}{x:Operand}{xs:List Operand}{vs caps:List Value}{ts:Array Nat}(hx:ev ρ x=.func (.func 89) #[] caps.toArray)(hv:xs.map (ev ρ)=vs):
 (execOp (ev ρ) ⟨d,.call {callee:=.value x,args:=xs.toArray,argTypes:=ts},ty,pos,af,g⟩).run Tryz.prog a=.ok (.enter 89 (vs++caps).toArray) a:=Run.enterV Tryz.func89 rfl dcd hx hv
theorem AAY{ρ:Env}{a:World}{d:Option Nat}{ty:Nat}{pos:String}{af:Array Edge}{g:Option (Nat×Bool)}{x:Operand}{xs:List Operand}{vs caps:List Value}{ts:Array Nat}(hx:ev ρ x=.func (.func 90) #[] caps.toArray)(hv:xs.map (ev ρ)=vs):
 (execOp (ev ρ) ⟨d,.call {callee:=.value x,args:=xs.toArray,argTypes:=ts},ty,pos,af,g⟩).run Tryz.prog a=.ok (.enter 90 (vs++caps).toArray) a:=Run.enterV Tryz.func90 rfl dcd hx hv
theorem V9:Elt Tryz.prog AW 121 159 48:=⟨by kernel_rfl,by kernel_rfl,⟨.agg #[I 0,.string ⟨#[]⟩,.complex .f64 0 0,I 0],by kernel_rfl,by kernel_rfl⟩,by decide⟩
theorem XO:Elt Tryz.prog Kd.u8 22 5 1:=⟨by kernel_rfl,by kernel_rfl,⟨.int .u8 0,by kernel_rfl,by kernel_rfl⟩,by decide⟩
theorem AAZ:Elt Tryz.prog AL 26 58 152:=⟨by kernel_rfl,by kernel_rfl,⟨.agg #[.string ⟨#[]⟩,.slice none 0 0,I 0,I 0,.string ⟨#[]⟩,.string ⟨#[]⟩,I 0,.complex .f64 0 0,.slice none 0 0,I 0,I 0],by kernel_rfl,by kernel_rfl⟩,by decide⟩
theorem XP:Elt Tryz.prog Ax 29 38 56:=⟨by kernel_rfl,by kernel_rfl,⟨.agg #[I 0,.complex .f64 0 0,.bool false,.slice none 0 0],by kernel_rfl,by kernel_rfl⟩,by decide⟩
theorem XQ:Elt Tryz.prog Kd.cpx 36 35 16:=⟨by kernel_rfl,by kernel_rfl,⟨.complex .f64 0 0,by kernel_rfl,by kernel_rfl⟩,by decide⟩
theorem Rm:Elt Tryz.prog Ai 52 87 32:=⟨by kernel_rfl,by kernel_rfl,⟨.agg #[.string ⟨#[]⟩,I 0,I 0],by kernel_rfl,by kernel_rfl⟩,by decide⟩
theorem XR:Elt Tryz.prog AJ 54 56 96:=⟨by kernel_rfl,by kernel_rfl,⟨.agg #[I 0,.string ⟨#[]⟩,.string ⟨#[]⟩,I 0,.complex .f64 0 0,.slice none 0 0,I 0],by kernel_rfl,by kernel_rfl⟩,by decide⟩
theorem AAa:Elt Tryz.prog E9 68 9 16:=⟨by kernel_rfl,by kernel_rfl,⟨.string ⟨#[]⟩,by kernel_rfl,by kernel_rfl⟩,by decide⟩
theorem K5:FJ Tryz.prog 111 0 0=true:=by kernel_rfl
theorem Jp:FJ Tryz.prog 111 1 1=true:=by kernel_rfl
theorem Wq:FJ Tryz.prog 126 0 0=true:=by kernel_rfl
theorem Fd:FJ Tryz.prog 126 1 1=true:=by kernel_rfl
theorem H3:FJ Tryz.prog 126 2 2=true:=by kernel_rfl
theorem TR:FJ Tryz.prog 126 3 3=true:=by kernel_rfl
theorem P7:FJ Tryz.prog 126 4 4=true:=by kernel_rfl
theorem Mw:FJ Tryz.prog 126 5 8=true:=by kernel_rfl
theorem TS:FJ Tryz.prog 134 0 0=true:=by kernel_rfl
theorem P8:FJ Tryz.prog 134 1 1=true:=by kernel_rfl
theorem En:FJ Tryz.prog 134 2 2=true:=by kernel_rfl
theorem Ws:FJ Tryz.prog 134 3 3=true:=by kernel_rfl
theorem Jq:FJ Tryz.prog 159 0 0=true:=by kernel_rfl
theorem Eo:FJ Tryz.prog 159 1 1=true:=by kernel_rfl
theorem TT:FJ Tryz.prog 159 2 2=true:=by kernel_rfl
theorem KR:FJ Tryz.prog 159 3 3=true:=by kernel_rfl
theorem XS:FJ Tryz.prog 24 0 0=true:=by kernel_rfl
theorem PT:FJ Tryz.prog 24 1 1=true:=by kernel_rfl
theorem XT:FJ Tryz.prog 24 2 2=true:=by kernel_rfl
theorem IC:FJ Tryz.prog 28 0 0=true:=by kernel_rfl
theorem JB:FJ Tryz.prog 38 0 0=true:=by kernel_rfl
theorem HQ:FJ Tryz.prog 38 1 1=true:=by kernel_rfl
theorem J6:FJ Tryz.prog 38 2 2=true:=by kernel_rfl
theorem Ew:FJ Tryz.prog 38 3 3=true:=by kernel_rfl
theorem Jh:FJ Tryz.prog 40 0 0=true:=by kernel_rfl
theorem N9:FJ Tryz.prog 40 1 1=true:=by kernel_rfl
theorem G7:FJ Tryz.prog 40 2 5=true:=by kernel_rfl
theorem Um:FJ Tryz.prog 40 3 6=true:=by kernel_rfl
theorem Un:FJ Tryz.prog 40 4 7=true:=by kernel_rfl
theorem Uo:FJ Tryz.prog 40 5 8=true:=by kernel_rfl
theorem GJ:FJ Tryz.prog 56 0 0=true:=by kernel_rfl
theorem HR:FJ Tryz.prog 56 1 1=true:=by kernel_rfl
theorem PU:FJ Tryz.prog 56 2 2=true:=by kernel_rfl
theorem Ly:FJ Tryz.prog 56 3 3=true:=by kernel_rfl
theorem XU:FJ Tryz.prog 56 4 4=true:=by kernel_rfl
theorem B6:FJ Tryz.prog 56 5 5=true:=by kernel_rfl
theorem PV:FJ Tryz.prog 56 6 6=true:=by kernel_rfl
theorem PW:FJ Tryz.prog 58 0 0=true:=by kernel_rfl
theorem Io:FJ Tryz.prog 58 1 1=true:=by kernel_rfl
theorem Ro:FJ Tryz.prog 58 2 2=true:=by kernel_rfl
theorem OA:FJ Tryz.prog 58 3 3=true:=by kernel_rfl
theorem XV:FJ Tryz.prog 58 4 10=true:=by kernel_rfl
theorem PX:FJ Tryz.prog 63 0 0=true:=by kernel_rfl
theorem Uq:FJ Tryz.prog 63 1 1=true:=by kernel_rfl
theorem PY:FJ Tryz.prog 76 0 0=true:=by kernel_rfl
theorem XW:FJ Tryz.prog 76 1 1=true:=by kernel_rfl
theorem XX:FJ Tryz.prog 76 2 2=true:=by kernel_rfl
theorem XY:FJ Tryz.prog 76 3 3=true:=by kernel_rfl
theorem Rp:FJ Tryz.prog 83 0 0=true:=by kernel_rfl
theorem XZ:FJ Tryz.prog 83 1 1=true:=by kernel_rfl
theorem OB:FJ Tryz.prog 83 2 2=true:=by kernel_rfl
theorem Xa:FJ Tryz.prog 83 3 3=true:=by kernel_rfl
theorem OC:FJ Tryz.prog 87 0 0=true:=by kernel_rfl
theorem Rq:FJ Tryz.prog 87 1 1=true:=by kernel_rfl
theorem Xb:FJ Tryz.prog 87 2 2=true:=by kernel_rfl
theorem Xc:FJ Tryz.prog 93 0 0=true:=by kernel_rfl
theorem Ur:FJ Tryz.prog 93 1 1=true:=by kernel_rfl
theorem Xd:FJ Tryz.prog 93 2 2=true:=by kernel_rfl
theorem Xe:FJ Tryz.prog 96 0 0=true:=by kernel_rfl
theorem OD:FJ Tryz.prog 96 1 4=true:=by kernel_rfl
theorem Us:FJ Tryz.prog 96 2 5=true:=by kernel_rfl
theorem Tx:Uj Tryz.prog 90=true:=by kernel_rfl
theorem P9:QX Tryz.prog 159 0 0=true:=by kernel_rfl
theorem Wt:QX Tryz.prog 159 3 3=true:=by kernel_rfl
theorem Xf:QX Tryz.prog 38 1 1=true:=by kernel_rfl
theorem Xg:QX Tryz.prog 38 2 2=true:=by kernel_rfl
theorem Xh:QX Tryz.prog 63 0 0=true:=by kernel_rfl
theorem Rr:Vt Tryz.prog 96 0 0 4=true:=by kernel_rfl
theorem Y7:(Tryz.prog.info? 33).map (·.zero)=some (some (I 0)):=by kernel_rfl
theorem Jv:VP Tryz.prog 81 3=true:=by kernel_rfl
theorem Y8:Tryz.prog.underlying 22=some (.slice 5)∧Tryz.prog.underlying 5=some (.int .u8):=by exact ⟨by kernel_rfl,by kernel_rfl⟩
theorem IU:(Tryz.prog.info? 111).map (·.size)=some 2:=by kernel_rfl
theorem Ty:(Tryz.prog.info? 157).map (·.size)=some 1:=by kernel_rfl
theorem GC:(Tryz.prog.info? 159).map (·.size)=some 4:=by kernel_rfl
theorem Y9:(Tryz.prog.info? 169).map (·.size)=some 1:=by kernel_rfl
theorem AAb:(Tryz.prog.info? 26).map (·.size)=some 1:=by kernel_rfl
theorem Hz:(Tryz.prog.info? 28).map (·.size)=some 1:=by kernel_rfl
theorem Lz:(Tryz.prog.info? 3).map (·.size)=some 1:=by kernel_rfl
theorem Vd:(Tryz.prog.info? 34).map (·.size)=some 1:=by kernel_rfl
theorem AAc:(Tryz.prog.info? 35).map (·.size)=some 1:=by kernel_rfl
theorem Xi:(Tryz.prog.info? 36).map (·.size)=some 1:=by kernel_rfl
theorem Fe:(Tryz.prog.info? 38).map (·.size)=some 4:=by kernel_rfl
theorem L0:(Tryz.prog.info? 40).map (·.size)=some 9:=by kernel_rfl
theorem OE:(Tryz.prog.info? 52).map (·.size)=some 1:=by kernel_rfl
theorem Tz:(Tryz.prog.info? 53).map (·.size)=some 1:=by kernel_rfl
theorem Rs:(Tryz.prog.info? 54).map (·.size)=some 1:=by kernel_rfl
theorem Dd:(Tryz.prog.info? 56).map (·.size)=some 7:=by kernel_rfl
theorem ND:(Tryz.prog.info? 58).map (·.size)=some 11:=by kernel_rfl
theorem H0:(Tryz.prog.info? 63).map (·.size)=some 2:=by kernel_rfl
theorem AAd:(Tryz.prog.info? 76).map (·.size)=some 4:=by kernel_rfl
theorem AAe:(Tryz.prog.info? 80).map (·.size)=some 1:=by kernel_rfl
theorem AAf:(Tryz.prog.info? 81).map (·.size)=some 1:=by kernel_rfl
theorem Ve:(Tryz.prog.info? 87).map (·.size)=some 3:=by kernel_rfl
theorem WB:(Tryz.prog.info? 9).map (·.size)=some 1:=by kernel_rfl
theorem AAg:(Tryz.prog.info? 90).map (·.size)=some 1:=by kernel_rfl
theorem IP:(Tryz.prog.info? 96).map (·.size)=some 6:=by kernel_rfl
theorem ZA:KJ Tryz.prog 121=true:=by kernel_rfl
theorem JM:KJ Tryz.prog 130=true:=by kernel_rfl
theorem ZB:KJ Tryz.prog 132=true:=by kernel_rfl
theorem Ol:KJ Tryz.prog 157=true:=by kernel_rfl
theorem PZ:KJ Tryz.prog 169=true:=by kernel_rfl
theorem AAh:KJ Tryz.prog 22=true:=by kernel_rfl
theorem Ji:KJ Tryz.prog 26=true:=by kernel_rfl
theorem Be:KJ Tryz.prog 3=true:=by kernel_rfl
theorem KO:KJ Tryz.prog 33=true:=by kernel_rfl
theorem Fy:KJ Tryz.prog 34=true:=by kernel_rfl
theorem HX:KJ Tryz.prog 35=true:=by kernel_rfl
theorem Ip:KJ Tryz.prog 36=true:=by kernel_rfl
theorem Oz:KJ Tryz.prog 4=true:=by kernel_rfl
theorem L1:KJ Tryz.prog 5=true:=by kernel_rfl
theorem HY:KJ Tryz.prog 52=true:=by kernel_rfl
theorem Kl:KJ Tryz.prog 53=true:=by kernel_rfl
theorem Ez:KJ Tryz.prog 54=true:=by kernel_rfl
theorem QA:KJ Tryz.prog 80=true:=by kernel_rfl
theorem OF:KJ Tryz.prog 81=true:=by kernel_rfl
theorem Xj:KJ Tryz.prog 85=true:=by kernel_rfl
theorem De:KJ Tryz.prog 9=true:=by kernel_rfl
theorem OG:KJ Tryz.prog 90=true:=by kernel_rfl
theorem NE:plc Tryz.prog 111=some [(0,1),(1,1)]:=by kernel_rfl
theorem ZC:plc Tryz.prog 126=some [(0,1),(1,1),(2,1),(3,1),(4,4),(8,1)]:=by kernel_rfl
theorem ZD:plc Tryz.prog 134=some [(0,1),(1,1),(2,1),(3,1)]:=by kernel_rfl
theorem T0:plc Tryz.prog 159=some [(0,1),(1,1),(2,1),(3,1)]:=by kernel_rfl
theorem Tb.p24:plc Tryz.prog 24=some [(0,1),(1,1),(2,1)]:=by kernel_rfl
theorem Vf:plc Tryz.prog 28=some [(0,1)]:=by kernel_rfl
theorem Iq:plc Tryz.prog 38=some [(0,1),(1,1),(2,1),(3,1)]:=by kernel_rfl
theorem QB:plc Tryz.prog 40=some [(0,1),(1,4),(5,1),(6,1),(7,1),(8,1)]:=by kernel_rfl
theorem Mc:plc Tryz.prog 56=some [(0,1),(1,1),(2,1),(3,1),(4,1),(5,1),(6,1)]:=by kernel_rfl
theorem AAi:plc Tryz.prog 58=some [(0,1),(1,1),(2,1),(3,7),(10,1)]:=by kernel_rfl
theorem QC:plc Tryz.prog 63=some [(0,1),(1,1)]:=by kernel_rfl
theorem AAj:plc Tryz.prog 76=some [(0,1),(1,1),(2,1),(3,1)]:=by kernel_rfl
theorem AAk:plc Tryz.prog 83=some [(0,1),(1,1),(2,1),(3,1)]:=by kernel_rfl
theorem Ru:plc Tryz.prog 87=some [(0,1),(1,1),(2,1)]:=by kernel_rfl
theorem QD:plc Tryz.prog 93=some [(0,1),(1,1),(2,1)]:=by kernel_rfl
theorem Md:plc Tryz.prog 96=some [(0,4),(4,1),(5,1)]:=by kernel_rfl
theorem T5:N1 Tryz.prog 121 159 4=true:=by kernel_rfl
theorem G8:N1 Tryz.prog 22 5 1=true:=by kernel_rfl
theorem I3:N1 Tryz.prog 26 58 11=true:=by kernel_rfl
theorem L2:N1 Tryz.prog 29 38 4=true:=by kernel_rfl
theorem IQ:N1 Tryz.prog 36 35 1=true:=by kernel_rfl
theorem G9:N1 Tryz.prog 52 87 3=true:=by kernel_rfl
theorem Dx:N1 Tryz.prog 54 56 7=true:=by kernel_rfl
theorem Ir:N1 Tryz.prog 68 9 1=true:=by kernel_rfl
theorem Xk:Tryz.prog.underlying 33=some (.int .i64):=by kernel_rfl
theorem IS:Tryz.prog.underlying 9=some .string:=by kernel_rfl
theorem AAl:Tryz.prog.underlying 4=some .bool:=by kernel_rfl
theorem ZE{ρ:Env}{a:World}{d:Option Nat}{ty:Nat}{pos:String}{af:Array Edge}{g:Option (Nat×Bool)}{xs:List Operand}{vs:List Value}{v:Value}{ts:Array Nat}(hv:xs.map (ev ρ)=vs)(hr:((Extern.MathFloor.toIntegral "math.archTrunc" .zero) vs.toArray).run Tryz.prog a= .ok v a):
 (execOp (ev ρ) ⟨d,.call {callee:= .value (.func 135),args:=xs.toArray,argTypes:=ts},ty,pos,af,g⟩).run Tryz.prog a= .ok (.value v) a:=Run.ext Tryz.func135 (by kernel_rfl) dcd (by kernel_rfl) (show Extern.find Tryz.f135=some (Extern.MathFloor.toIntegral "math.archTrunc" .zero) by kernel_rfl) hv hr
theorem QE{ρ:Env}{a:World}{d:Option Nat}{ty:Nat}{pos:String}{af:Array Edge}{g:Option (Nat×Bool)}{xs:List Operand}{vs:List Value}{v:Value}{ts:Array Nat}(hv:xs.map (ev ρ)=vs)(hr:(Extern.MathFloatBits.float64frombits vs.toArray).run Tryz.prog a=.ok v a):
 (execOp (ev ρ) ⟨d,.call {callee:=.value (.func 63),args:=xs.toArray,argTypes:=ts},ty,pos,af,g⟩).run Tryz.prog a=.ok (.value v) a:=Run.ext Tryz.func63 (by kernel_rfl) dcd (by kernel_rfl) (show Extern.find Tryz.f63=some Extern.MathFloatBits.float64frombits by kernel_rfl) hv hr
theorem OH{ρ:Env}{a:World}{d:Option Nat}{ty:Nat}{pos:String}{af:Array Edge}{g:Option (Nat×Bool)}{xs:List Operand}{vs:List Value}{v:Value}{ts:Array Nat}(hv:xs.map (ev ρ)=vs)(hr:(Extern.MathFloatBits.float64bits vs.toArray).run Tryz.prog a=.ok v a):
 (execOp (ev ρ) ⟨d,.call {callee:=.value (.func 93),args:=xs.toArray,argTypes:=ts},ty,pos,af,g⟩).run Tryz.prog a=.ok (.value v) a:=Run.ext Tryz.func93 (by kernel_rfl) dcd (by kernel_rfl) (show Extern.find Tryz.f93=some Extern.MathFloatBits.float64bits by kernel_rfl) hv hr
theorem ID:(Tryz.prog.info? 111).map (·.zero)=some (some (.agg #[I 0,I 0])):=by kernel_rfl
theorem ZF:(Tryz.prog.info? 126).map (·.zero)=some (some (.agg #[.slice none 0 0,I 0,I 0,I 0,I 0,I 0,I 0,I 0,I 0])):=by kernel_rfl
theorem ZG:(Tryz.prog.info? 134).map (·.zero)=some (some (.agg #[.map none,.slice none 0 0,.slice none 0 0,.nilFunc])):=by kernel_rfl
theorem F0:(Tryz.prog.info? 159).map (·.zero)=some (some (.agg #[I 0,.string ⟨#[]⟩,.complex .f64 0 0,I 0])):=by kernel_rfl
theorem ZH:(Tryz.prog.info? 169).map (·.zero)=some (some .nilFunc):=by kernel_rfl
theorem AAm:(Tryz.prog.info? 24).map (·.zero)=some (some (.agg #[.slice none 0 0,.string ⟨#[]⟩,.string ⟨#[]⟩])):=by kernel_rfl
theorem I4:(Tryz.prog.info? 28).map (·.zero)=some (some (.agg #[.slice none 0 0])):=by kernel_rfl
theorem Xl:(Tryz.prog.info? 35).map (·.zero)=some (some (.complex .f64 0 0)):=by kernel_rfl
theorem Ep:(Tryz.prog.info? 38).map (·.zero)=some (some (.agg #[I 0,.complex .f64 0 0,.bool false,.slice none 0 0])):=by kernel_rfl
theorem LT:(Tryz.prog.info? 40).map (·.zero)=some (some (.agg #[I 0,I 0,.complex .f64 0 0,.bool false,.slice none 0 0,I 0,I 0,I 0,I 0])):=by kernel_rfl
theorem Xm:(Tryz.prog.info? 5).map (·.zero)=some (some (.int .u8 0)):=by kernel_rfl
theorem DJ:(Tryz.prog.info? 56).map (·.zero)=some (some (.agg #[I 0,.string ⟨#[]⟩,.string ⟨#[]⟩,I 0,.complex .f64 0 0,.slice none 0 0,I 0])):=by kernel_rfl
theorem L3:(Tryz.prog.info? 58).map (·.zero)=some (some (.agg #[.string ⟨#[]⟩,.slice none 0 0,I 0,I 0,.string ⟨#[]⟩,.string ⟨#[]⟩,I 0,.complex .f64 0 0,.slice none 0 0,I 0,I 0])):=by kernel_rfl
theorem Is:(Tryz.prog.info? 63).map (·.zero)=some (some (.agg #[I 0,I 0])):=by kernel_rfl
theorem Xn:(Tryz.prog.info? 76).map (·.zero)=some (some (.agg #[I 0,I 0,I 0,I 0])):=by kernel_rfl
theorem AAn:(Tryz.prog.info? 80).map (·.zero)=some (some (.pointer none)):=by kernel_rfl
theorem AAo:(Tryz.prog.info? 81).map (·.zero)=some (some (.map none)):=by kernel_rfl
theorem AAp:(Tryz.prog.info? 83).map (·.zero)=some (some (.agg #[.map none,.slice none 0 0,I 0,I 0])):=by kernel_rfl
theorem LU:(Tryz.prog.info? 87).map (·.zero)=some (some (.agg #[.string ⟨#[]⟩,I 0,I 0])):=by kernel_rfl
theorem Rw:(Tryz.prog.info? 9).map (·.zero)=some (some (.string ⟨#[]⟩)):=by kernel_rfl
theorem QF:(Tryz.prog.info? 93).map (·.zero)=some (some (.agg #[.string ⟨#[]⟩,.nilFunc,.pointer none])):=by kernel_rfl
theorem Jj:(Tryz.prog.info? 96).map (·.zero)=some (some (.agg #[I 0,.complex .f64 0 0,.bool false,.slice none 0 0,.nilFunc,.nilFunc])):=by kernel_rfl
theorem AAq:(Tryz.prog.info? 5).map (·.zero)=some (some (.int .u8 0)):=by kernel_rfl
theorem Wu(e:Value)(f:Value)(d:World):
  CallsD Tryz.prog 32 [e,f].toArray .returning d fun g u' l=>(∃v,g=.returned v)∧u'=.returning∧l=d:=by
 refine N3 (rv:=.nilIface) (u1:=.returning) Tryz.func32 rfl Tryz.ntmps32 rfl (fun c cs h=>.inr ⟨Sq c cs h,rfl,rfl⟩) fun c cs K hu hK m n=>LS.recover (v:=.nilIface) (cs':=m) rfl (.none rfl) rfl rfl Qe n<|LS.val rfl (.none rfl) rfl rfl (So Xk Y7 rfl)<|LS.val rfl (.none rfl) rfl rfl (v:=.tuple #[I 0,.bool false]) (Run.move rfl)<|LS.val rfl (.none rfl) rfl rfl (v:=I 0) rfl<|LS.val rfl (.none rfl) rfl rfl (v:=.bool false) rfl<|LS.val rfl (.none rfl) rfl rfl (v:=I 0) (Run.assign rfl)<|LS.val rfl (.none rfl) rfl rfl (v:=.bool false) (Run.assign rfl)<|LS.nil fun a ha=>⟨rfl,_,ha,hK _ _ ?_⟩
 refine Sr<|Vm<|AA<|WC.cond (t:=false) rfl (fun h=>by cases h) (fun h=>?_)
 refine WC.skip<|⟨.tuple #[],fun tmps _=>by rw [Ku,show Tryz.f32.results=#[] from rfl];simp,⟨_,rfl⟩,rfl,rfl⟩
theorem Qg(d:Col)(e:World)(l:Nat)(f:Nat)(o:Int)(p:Int)(q:(Nat×Nat))(r:Bool)(s:Value)(u:Int)(w:Int)(z:Int)(aa:Int)(m:Nat)(ab:Value)(ac:Value)(g:Int)(ad:Int)(y:Int)(ae:Bk d e 24 l [Pt m 0] 80)(af:Bk d e 21 f [I o,I p,Cx q,.bool r,s,I u,I w,I z,I aa] 40)(ag:Bk d e 23 m [ab,ac,I g,I ad] 83):
  CallsD Tryz.prog 32 [Pt l 0,Pt f 0].toArray (.panicking [{v:=.iface 33 (I y),recovered:=false}]) e fun ah u' n=>(∃v,ah=.returned v)∧u'=.panicking [{v:=.iface 33 (I y),recovered:=true}]∧Bk d n 21 f [I y,I 0,Cx (((0,0):Nat×Nat)),.bool false,.slice none 0 0,I g,I 0,I 0,I 0] 40∧AO [21] d e d n:=by
 refine N3 (rv:=(.iface 33 (I y))) (u1:=.panicking [{v:=.iface 33 (I y),recovered:=true}]) Tryz.func32 rfl Tryz.ntmps32 rfl (fun c cs h=>.inl (Tq c cs h)) fun c cs K hu hK ai aj=>LS.recover (v:=(.iface 33 (I y))) (cs':=ai) rfl (.none rfl) rfl rfl Qe aj<|LS.val rfl (.none rfl) rfl rfl (Sp Xk rfl)<|LS.val rfl (.none rfl) rfl rfl (v:=.tuple #[I y,.bool true]) (Run.move rfl)<|LS.val rfl (.none rfl) rfl rfl (v:=I y) rfl<|LS.val rfl (.none rfl) rfl rfl (v:=.bool true) rfl<|LS.val rfl (.none rfl) rfl rfl (v:=I y) (Run.assign rfl)<|LS.val rfl (.none rfl) rfl rfl (v:=.bool true) (Run.assign rfl)<|LS.nil fun a ha=>⟨rfl,_,ha,hK _ _ ?_⟩
 refine Sr<|Vm<|AA<|WC.cond (t:=true) rfl (fun h=>?_) (fun h=>by cases h)
 refine AQ<|Vm<|Vx (Run.load1 QA rfl (Bk.cell ae rfl))<|Vx (Run.nilCheck rfl)<|Vx (Run.fieldAddr OB rfl)<|Vx (Run.load1 Be rfl (Bk.cell ag rfl))<|Vx (v:=.agg [I y,I 0,Cx (((0,0):Nat×Nat)),.bool false,.slice none 0 0,I g,I 0,I 0,I 0].toArray) (Bp LT QB rfl (.cons rfl rfl rfl (.cons rfl rfl rfl .nil)))<|Eu (St L0 af rfl rfl rfl rfl fun am ak al=>?_)
 refine AA<|⟨.tuple #[],fun tmps _=>by rw [Ku,show Tryz.f32.results=#[] from rfl];simp,⟨_,rfl⟩,rfl,ak,(Mo [21] al)⟩
def Iz.At(h:Col)(a:World)(f:Option Ab):Prop:=
 ∀{c:Ab},f=some c→
  Calls Tryz.prog 27 #[] a fun l d=>∃(e:Col) (g:List Value),l=.returned (.agg g.toArray)∧AO [] h a e d∧Kw.rep e.F d g c
def Iz.Spec(f:Option Ab):Prop:=
 ∀(a:Col) (c:World),Iz.At a c f
theorem Rx(a:Col)(d:World)(e:∀b,a b<10):Iz.At a d Iz:=by
 intro o c
 rw [Iz] at c
 refine A5 Tryz.func27 rfl Tryz.ntmps27 rfl fun B f p=>Sr<|Ef (AY a 20 Xn rfl fun g q r h l=>?_)
 refine AA<|Sr<|Vx (v:=.agg [I 32768,I 32768,I 32768,I 32768].toArray) (Bp Xn AAj rfl (.cons rfl rfl rfl (.cons rfl rfl rfl (.cons rfl rfl rfl (.cons rfl rfl rfl .nil)))))<|Eu (St AAd h rfl rfl rfl rfl fun s m n=>?_)
 refine AA<|AZ ?_
 obtain rfl:=AP c
 refine A0 (B:=B) f (BQ rfl (.agg XH rfl rfl (Bk.part m 0 [I 32768,I 32768,I 32768,I 32768] rfl)) ?_)
 exact ⟨g,[I 32768,I 32768,I 32768,I 32768],rfl,Ho (Tn (Mo [20] l) n) e,(EX (x:=(Ab.mk 32768 32768 32768 32768)))⟩
theorem J7:Iz.Spec Iz:=by
 intro a c m d
 refine Calls.mono (Rx (recol (see []) a) c (A3 lbr a) d) ?_
 rintro n o ⟨e,f,g,h,l⟩
 exact ⟨glue [] c a e,f,g,Ah h A2,BA Kw l⟩
def Gh.At(e:Col)(a:World)(f:UInt8→Option Bool):Prop:=
 ∀{c:UInt8} {d:Bool},f c=some d→
  Calls Tryz.prog 71 #[.int .u8 (c.toNat:Int)] a fun g h=>∃(l:Col),g=.returned (.bool d)∧AO [] e a l h
def Gh.Spec(f:UInt8→Option Bool):Prop:=
 ∀(a:Col) (c:World),Gh.At a c f
theorem Qr(c:Col)(m:World)(p:∀b,c b<10):Gh.At c m Gh:=by
 intro g q a
 rw [Gh] at a
 refine A5 Tryz.func71 rfl Tryz.ntmps71 rfl fun B r w=>Sr<|Va (.bool false)<|AA<|Au (fun s n=>∃(o:Env) (h:Col) (l:Bool),s=o.puts [(2,.bool l)]∧Hi l=some q∧AO [] c m h n) ?_ ?_
 refine AQ<|Vm<|Vr (.bool ((g.toNat:Int)==((9:UInt8).toNat:Int)))<|Vm<|Bo a (fun d a=>?_) fun d a=>?_
 refine Pg d<|Pg d<|Vp d<|Vm<|Pg rfl<|Pg rfl<|Vr (.bool true)<|Vm<|Pg rfl<|Pg rfl<|Vr (.bool true)<|Va (.bool true)<|AA<|⟨_,c,true,Pu,a,(AO.refl [] _ _)⟩
 refine Gm d<|Gr d (.bool ((g.toNat:Int)==((10:UInt8).toNat:Int)))<|Vp d<|Vm<|Bo a (fun e a=>?_) fun e a=>?_
 refine Pg e<|Pg e<|Vp e<|Vm<|Pg rfl<|Pg rfl<|Vr (.bool true)<|Va (.bool true)<|AA<|⟨_,c,true,Pu,a,(AO.refl [] _ _)⟩
 refine Gm e<|Gr e (.bool ((g.toNat:Int)==((13:UInt8).toNat:Int)))<|Vp e<|Vm<|Bo a (fun f a=>?_) fun f a=>?_
 refine Pg f<|Pg f<|Vp f<|Va (.bool true)<|AA<|⟨_,c,true,Pu,a,(AO.refl [] _ _)⟩
 refine Gm f<|Gr f (.bool ((g.toNat:Int)==((32:UInt8).toNat:Int)))<|Vp f<|Va (.bool ((g.toNat:Int)==((32:UInt8).toNat:Int)))<|AA<|⟨_,c,((g.toNat:Int)==((32:UInt8).toNat:Int)),Pu,a,(AO.refl [] _ _)⟩
 rintro _ n ⟨o,h,l,rfl,a,u⟩
 rw [Hi] at a
 refine AZ ?_
 obtain rfl:=AP a
 refine A0 (B:=B) r (BQ rfl (.tmp rfl) ?_)
 exact ⟨h,rfl,Ho (Mo [] u) p⟩
theorem Ry:Gh.Spec Gh:=by
 intro a c h l d
 refine Calls.mono (Qr (recol (see []) a) c (A3 lbr a) d) ?_
 rintro m n ⟨e,f,g⟩
 exact ⟨glue [] c a e,f,Ah g A2⟩
def Fm.At(e:Col)(a:World)(f:UInt8→Option Bool):Prop:=
 ∀{c:UInt8} {d:Bool},f c=some d→
  Calls Tryz.prog 128 #[.int .u8 (c.toNat:Int)] a fun g h=>∃(l:Col),g=.returned (.bool d)∧AO [] e a l h
def Fm.Spec(f:UInt8→Option Bool):Prop:=
 ∀(a:Col) (c:World),Fm.At a c f
theorem QG(e:Col)(n:World)(q:∀b,e b<10):Fm.At e n Fm:=by
 intro d r a
 rw [Fm] at a
 refine A5 Tryz.func128 rfl Tryz.ntmps128 rfl fun B s y=>Sr<|Va (.bool false)<|AA<|Au (fun u o=>∃(p:Env) (l:Col) (m:Bool),u=p.puts [(2,.bool m)]∧F5 m=some r∧AO [] e n l o) ?_ ?_
 refine AQ<|Vm<|Vr (.bool (decide ((d.toNat:Int)≥((65:UInt8).toNat:Int))))<|Vm<|Bo a (fun f a=>?_) fun f a=>?_
 refine Gm f<|Gr f (.bool (decide ((d.toNat:Int)≤((90:UInt8).toNat:Int))))<|Vp f<|Vm<|Bo a (fun c a=>?_) fun c a=>?_
 refine Pg c<|Pg c<|Pg c<|Po<|Po<|Pg c<|Vp c<|Va (.bool true)<|AA<|⟨_,e,true,Pu,a,(AO.refl [] _ _)⟩
 refine Gm c<|Gr c (.bool (decide ((d.toNat:Int)≥((97:UInt8).toNat:Int))))<|Gm c<|Bo a (fun g a=>?_) fun g a=>?_
 refine Gm g<|Gr g (.bool (decide ((d.toNat:Int)≤((122:UInt8).toNat:Int))))<|Gp c g<|Vp c<|Va (.bool (decide ((d.toNat:Int)≤((122:UInt8).toNat:Int))))<|AA<|⟨_,e,(decide ((d.toNat:Int)≤((122:UInt8).toNat:Int))),Pu,a,(AO.refl [] _ _)⟩
 refine Pg g<|Pg g<|Gp c g<|Vp c<|Va (.bool false)<|AA<|⟨_,e,false,Pu,a,(AO.refl [] _ _)⟩
 refine Pg f<|Pg f<|Vp f<|Vm<|Gm rfl<|Gr rfl (.bool (decide ((d.toNat:Int)≥((97:UInt8).toNat:Int))))<|Gm rfl<|Bo a (fun h a=>?_) fun h a=>?_
 refine Gm h<|Gr h (.bool (decide ((d.toNat:Int)≤((122:UInt8).toNat:Int))))<|Gp rfl h<|Vr (.bool (decide ((d.toNat:Int)≤((122:UInt8).toNat:Int))))<|Va (.bool (decide ((d.toNat:Int)≤((122:UInt8).toNat:Int))))<|AA<|⟨_,e,(decide ((d.toNat:Int)≤((122:UInt8).toNat:Int))),Pu,a,(AO.refl [] _ _)⟩
 refine Pg h<|Pg h<|Gp rfl h<|Vr (.bool false)<|Va (.bool false)<|AA<|⟨_,e,false,Pu,a,(AO.refl [] _ _)⟩
 rintro _ o ⟨p,l,m,rfl,a,w⟩
 rw [F5] at a
 refine AZ ?_
 obtain rfl:=AP a
 refine A0 (B:=B) s (BQ rfl (.tmp rfl) ?_)
 exact ⟨l,rfl,Ho (Mo [] w) q⟩
theorem Qs:Fm.Spec Fm:=by
 intro a c h l d
 refine Calls.mono (QG (recol (see []) a) c (A3 lbr a) d) ?_
 rintro m n ⟨e,f,g⟩
 exact ⟨glue [] c a e,f,Ah g A2⟩
def F6.At(e:Col)(a:World)(f:UInt8→Option Bool):Prop:=
 ∀{c:UInt8} {d:Bool},f c=some d→
  Calls Tryz.prog 98 #[.int .u8 (c.toNat:Int)] a fun g h=>∃(l:Col),g=.returned (.bool d)∧AO [] e a l h
def F6.Spec(f:UInt8→Option Bool):Prop:=
 ∀(a:Col) (c:World),F6.At a c f
theorem Qt(d:Col)(h:World)(n:∀b,d b<10):F6.At d h F6:=by
 intro e o a
 rw [F6] at a
 refine A5 Tryz.func98 rfl Tryz.ntmps98 rfl fun B p s=>Sr<|Va (.bool false)<|AA<|Au (fun q l=>∃(m:Env) (f:Col) (g:Bool),q=m.puts [(2,.bool g)]∧JS g=some o∧AO [] d h f l) ?_ ?_
 refine AQ<|Vm<|Vr (.bool (decide ((e.toNat:Int)≥((48:UInt8).toNat:Int))))<|Vm<|Bo a (fun c a=>?_) fun c a=>?_
 refine Gm c<|Gr c (.bool (decide ((e.toNat:Int)≤((57:UInt8).toNat:Int))))<|Vp c<|Va (.bool (decide ((e.toNat:Int)≤((57:UInt8).toNat:Int))))<|AA<|⟨_,d,(decide ((e.toNat:Int)≤((57:UInt8).toNat:Int))),Pu,a,(AO.refl [] _ _)⟩
 refine Pg c<|Pg c<|Vp c<|Va (.bool false)<|AA<|⟨_,d,false,Pu,a,(AO.refl [] _ _)⟩
 rintro _ l ⟨m,f,g,rfl,a,r⟩
 rw [JS] at a
 refine AZ ?_
 obtain rfl:=AP a
 refine A0 (B:=B) p (BQ rfl (.tmp rfl) ?_)
 exact ⟨f,rfl,Ho (Mo [] r) n⟩
theorem OI:F6.Spec F6:=by
 intro a c h l d
 refine Calls.mono (Qt (recol (see []) a) c (A3 lbr a) d) ?_
 rintro m n ⟨e,f,g⟩
 exact ⟨glue [] c a e,f,Ah g A2⟩
def Hf.At(c:Col)(a:World)(f:Bts→Int→Option Int):Prop:=
 ∀{d:Bts} {v0:Value} {e:Int} {g:Int},f d e=some g→Slc Kd.u8 c.F a v0 d→
  Calls Tryz.prog 97 #[v0,I e] a fun h l=>∃(m:Col),h=.returned (I g)∧AO [] c a m l
def Hf.Spec(f:Bts→Int→Option Int):Prop:=
 ∀(a:Col) (c:World),Hf.At a c f
theorem Su(ag:Nat)(q:Col)(ah:World)(av:∀b,q b<10):Hf.At q ah (Hf ag):=by
 intro h v0 g y a ai
 rw [Hf] at a
 obtain ⟨aj,ak,rfl⟩:=AI ai
 refine A5 Tryz.func97 rfl Tryz.ntmps97 rfl fun B aw a8=>Sr<|Va (I 0)<|AA<|Sr<|Va (I 0)<|AA<|Ac<|Ao<|CZ (fun l z n=>∃(o:Env) (m:Col) (f:Int),z=o.puts [(0,.slice aj h.length ak),(1,.int .i64 g),(5,.int .i64 f)]∧D9 h g l f=some y∧AO [] q ah m n) ag ?_ ?_
 exact ⟨_,q,0,Pu,a,(AO.refl [] _ _)⟩
 rintro l _ n ⟨o,m,f,rfl,a,aa⟩
 rcases l with _|l
 exact BK a
 refine have a:Fh h g (D9 h g l) f=some y:=a; ?_
 obtain ⟨ax,al⟩:∃s,s=D9 h g l:=⟨_,rfl⟩
 rw [←al,Fh] at a
 refine Ac<|Au (fun z am=>∃(o:Env) (r:Col) (ab:Bool),z=o.puts [(0,.slice aj h.length ak),(1,.int .i64 g),(5,.int .i64 f),(38,.bool ab)]∧Fn f ax ab=some y∧AO [] m n r am) ?_ ?_
 refine AQ<|Vm<|Vm<|Vr (I (Wr (g+f)))<|Vm<|have an:=Ss Kd.u8 ai aa; ?_
 obtain ⟨a9,ba,ay⟩:=AI an
 refine Vx (v:=I (h.length:Int)) (Run.lenSlc G8 ay)<|Vr (.bool (decide ((Wr (g+f))< (h.length:Int))))<|Vm<|Bo a (fun c a=>?_) fun c a=>?_
 refine Gm c<|Gm c<|Gm c<|Gr c (I (Wr (g+f)))<|Bi a fun p az a=>?_
 obtain ⟨a0,a1,bb,ao,ac,ad,ae,a2,u⟩:=BX (κ:=Kd.u8) an az
 replace u:BG m n a0 (a1+((Wr (g+f))).toNat*1) ao:=u
 obtain rfl:=(show ao=[.int .u8 (p.toNat:Int)] from a2)
 refine Gx c (Run.indexAddr G8 ac rfl ad ae)<|Gx c (Run.load1 L1 rfl (BG.cell0 u rfl))<|Bi a fun bc a3 a=>Bx (.guard (t:=true) (b:=true) rfl rfl rfl rfl (Cb c)) rfl rfl (Yo [.int .u8 (p.toNat:Int)] rfl)<|Calls.mono (Qs m n a3) ?_
 rintro _ a4 ⟨ap,rfl,w⟩
 refine ⟨_,rfl,?_⟩
 refine Gm c<|Bo a (fun d a=>?_) fun d a=>?_
 refine Pg d<|Pg d<|Pg d<|Pg d<|Pg d<|Pg d<|Pg d<|Gp c d<|Gm c<|Pg rfl<|Pg rfl<|Pg rfl<|Pg rfl<|Pg rfl<|Pg rfl<|Pg rfl<|Gr c (.bool true)<|Vp c<|AA<|⟨_,ap,true,Pu,a,(Mo [] w)⟩
 refine Gm d<|Gm d<|Gm d<|Gr d (I (Wr (g+f)))<|Gx d (Run.indexAddr G8 ac rfl ad ae)<|have aq:=Es u w;Gx d (Run.load1 L1 rfl (BG.cell0 aq rfl))<|Bi a fun bd a5 a=>Bx (.guard (t:=false) (b:=false) rfl rfl rfl rfl (Cb d)) rfl rfl (XN [.int .u8 (p.toNat:Int)] rfl)<|Calls.mono (OI ap a4 a5) ?_
 rintro _ be ⟨ar,rfl,af⟩
 refine ⟨_,rfl,?_⟩
 refine Gp c d<|Gm c<|Bo a (fun e a=>?_) fun e a=>?_
 refine Pg e<|Pg e<|Pg e<|Pg e<|Pg e<|Pg e<|Pg e<|Gp c e<|Vp c<|AA<|⟨_,ar,true,Pu,a,(Tn (Mo [] w) af)⟩
 refine Gm e<|Gm e<|Gm e<|Gr e (I (Wr (g+f)))<|Gx e (Run.indexAddr G8 ac rfl ad ae)<|have a6:=Es aq af;Gx e (Run.load1 L1 rfl (BG.cell0 a6 rfl))<|Gr e (.bool ((p.toNat:Int)==((95:UInt8).toNat:Int)))<|Gp c e<|Vp c<|AA<|⟨_,ar,((p.toNat:Int)==((95:UInt8).toNat:Int)),Pu,a,(Tn (Mo [] w) af)⟩
 refine Pg c<|Pg c<|Pg c<|Pg c<|Pg c<|Pg c<|Pg c<|Pg c<|Po<|Po<|Po<|Po<|Po<|Po<|Po<|Pg c<|Pg c<|Po<|Po<|Po<|Po<|Po<|Po<|Po<|Pg c<|Vp c<|AA<|⟨_,m,false,Pu,a,(AO.refl [] _ _)⟩
 rintro _ am ⟨o,r,ab,rfl,a,au⟩
 rw [Fn] at a
 refine Cn a (fun a7 a=>?_) fun a7 a=>?_
 refine WC.skip<|Ao<|AQ<|Vm<|Vr (I (Wr (f+1)))<|Va (I (Wr (f+1)))<|AA<|⟨l,Nat.lt_succ_self l,_,r,(Wr (f+1)),Pu,(al▸a),(Tn (Mo [] aa) au)⟩
 refine CF<|Sr<|Vm<|Va (I f)<|AA<|AZ ?_
 obtain rfl:=AP a
 refine A0 (B:=B) aw (BQ rfl (.tmp rfl) ?_)
 exact ⟨r,rfl,Ho (Tn (Mo [] aa) au) av⟩
theorem T6(c:Nat):Hf.Spec (Hf c):=by
 intro a d m v0 n o e f
 refine Calls.mono (Su c (recol (see []) a) d (A3 lbr a) e (DC Kd.u8 f [])) ?_
 rintro p q ⟨g,h,l⟩
 exact ⟨glue [] d a g,h,Ah l A2⟩
def EI.At(e:Col)(c:World)(f:Bts→Option (Int×Int)):Prop:=
 ∀{d:Bts} {a:Int×Int},f d=some a→
  Calls Tryz.prog 107 #[Sb d] c fun g h=>∃(l:Col),g=.returned (.tuple #[I a.1,I a.2])∧AO [] e c l h
def EI.Spec(f:Bts→Option (Int×Int)):Prop:=
 ∀(a:Col) (c:World),EI.At a c f
theorem Qu(y:Nat)(r:Col)(ac:World)(an:∀b,r b<10):EI.At r ac (EI y):=by
 intro d u a
 rw [EI] at a
 refine A5 Tryz.func107 rfl Tryz.ntmps107 rfl fun B ao a7=>Sr<|Va (I 0)<|Va (I 0)<|AA<|Sr<|Va (I 0)<|AA<|Au (fun n ad=>∃(e:Env) (z:Col) (f:Int),n=e.puts [(0,.string (bs d)),(4,.int .i64 f)]∧Hj y d f=some u∧AO [] r ac z ad) ?_ ?_
 refine Au (fun n ap=>∃(e:Env) (aa:Col) (ae:Bool),n=e.puts [(0,.string (bs d)),(4,.int .i64 0),(14,.bool ae)]∧Gi y d ae=some u∧AO [] r ac aa ap) ?_ ?_
 refine AQ<|Vm<|Vx (v:=I (d.length:Int)) (Run.lenStr IS rfl)<|Vr (.bool (decide ((d.length:Int)>0)))<|Vm<|Bo a (fun o a=>?_) fun o a=>?_
 refine Gm o<|Bi a fun af ax a=>Gx o (v:=.int .u8 (af.toNat:Int)) (Run.indexBs IS rfl rfl ax)<|Gr o (.bool ((af.toNat:Int)==((45:UInt8).toNat:Int)))<|Vp o<|AA<|⟨_,r,((af.toNat:Int)==((45:UInt8).toNat:Int)),Pu,a,(AO.refl [] _ _)⟩
 refine Pg o<|Pg o<|Pg o<|Vp o<|AA<|⟨_,r,false,Pu,a,(AO.refl [] _ _)⟩
 rintro _ ap ⟨e,aa,ae,rfl,a,aq⟩
 rw [Gi] at a
 refine Cn a (fun ay a=>?_) fun ay a=>?_
 refine AQ<|Va (I 1)<|AA<|⟨_,aa,1,Pu,a,(Mo [] aq)⟩
 refine WC.skip<|⟨_,aa,0,Pu,a,(Mo [] aq)⟩
 rintro _ ad ⟨e,z,f,rfl,a,ar⟩
 rw [Hj] at a
 refine Sr<|Va (I 0)<|AA<|Sr<|Vm<|Va (I f)<|AA<|Ac<|Ao<|CZ (fun p n ag=>∃(e:Env) (w:Col) (c:Int) (g:Int),n=e.puts [(0,.string (bs d)),(4,.int .i64 f),(5,.int .i64 c),(6,.int .i64 g)]∧Dz d f p c g=some u∧AO [] z ad w ag) y ?_ ?_
 exact ⟨_,z,0,f,Pu,a,(AO.refl [] _ _)⟩
 rintro p _ ag ⟨e,w,c,g,rfl,a,ah⟩
 rcases p with _|p
 exact BK a
 refine have a:EY d f (Dz d f p) c g=some u:=a; ?_
 obtain ⟨az,au⟩:∃s,s=Dz d f p:=⟨_,rfl⟩
 rw [←au,EY] at a
 refine Ac<|Au (fun n ai=>∃(e:Env) (q:Col) (aj:Bool),n=e.puts [(0,.string (bs d)),(4,.int .i64 f),(5,.int .i64 c),(6,.int .i64 g),(31,.bool aj)]∧EH d f c g az aj=some u∧AO [] w ag q ai) ?_ ?_
 refine AQ<|Vm<|Vm<|Vx (v:=I (d.length:Int)) (Run.lenStr IS rfl)<|Vr (.bool (decide (g< (d.length:Int))))<|Vm<|Bo a (fun h a=>?_) fun h a=>?_
 refine Gm h<|Gm h<|Bi a fun av a0 a=>Gx h (v:=.int .u8 (av.toNat:Int)) (Run.indexBs IS rfl rfl a0)<|Gr h (.bool (decide ((av.toNat:Int)≥((48:UInt8).toNat:Int))))<|Vp h<|Vm<|Bo a (fun l a=>?_) fun l a=>?_
 refine Gm l<|Gm l<|Bi a fun ak a1 a=>Gx l (v:=.int .u8 (ak.toNat:Int)) (Run.indexBs IS rfl rfl a1)<|Gr l (.bool (decide ((ak.toNat:Int)≤((57:UInt8).toNat:Int))))<|Vp l<|AA<|⟨_,w,(decide ((ak.toNat:Int)≤((57:UInt8).toNat:Int))),Pu,a,(AO.refl [] _ _)⟩
 refine Pg l<|Pg l<|Pg l<|Pg l<|Vp l<|AA<|⟨_,w,false,Pu,a,(AO.refl [] _ _)⟩
 refine Pg h<|Pg h<|Pg h<|Pg h<|Vp h<|Vm<|Pg rfl<|Pg rfl<|Pg rfl<|Pg rfl<|Vr (.bool false)<|AA<|⟨_,w,false,Pu,a,(AO.refl [] _ _)⟩
 rintro _ ai ⟨e,q,aj,rfl,a,al⟩
 rw [EH] at a
 refine Cn a (fun a2 a=>?_) fun a2 a=>?_
 refine WC.skip<|Ao<|Sr<|Vm<|Vr (I (Wr (10*c)))<|Vm<|Vm<|Bi a fun m a3 a=>Vx (v:=.int .u8 (m.toNat:Int)) (Run.indexBs IS rfl rfl a3)<|Vx (v:=.int .u8 (((u8c ((m.toNat:Int) - ((48:UInt8).toNat:Int)))).toNat:Int)) (Zx rfl)<|Vr (I (Wr (((u8c ((m.toNat:Int) - ((48:UInt8).toNat:Int)))).toNat:Int)))<|Vr (I (Wr ((Wr (10*c))+(Wr (((u8c ((m.toNat:Int) - ((48:UInt8).toNat:Int)))).toNat:Int)))))<|Vx (v:=I (if 16777217< (Wr ((Wr (10*c))+(Wr (((u8c ((m.toNat:Int) - ((48:UInt8).toNat:Int)))).toNat:Int)))) then 16777217 else (Wr ((Wr (10*c))+(Wr (((u8c ((m.toNat:Int) - ((48:UInt8).toNat:Int)))).toNat:Int)))))) (Run.min rfl rfl)<|Va (I (if 16777217< (Wr ((Wr (10*c))+(Wr (((u8c ((m.toNat:Int) - ((48:UInt8).toNat:Int)))).toNat:Int)))) then 16777217 else (Wr ((Wr (10*c))+(Wr (((u8c ((m.toNat:Int) - ((48:UInt8).toNat:Int)))).toNat:Int))))))<|AA<|AQ<|Vm<|Vr (I (Wr (g+1)))<|Va (I (Wr (g+1)))<|AA<|⟨p,Nat.lt_succ_self p,_,q,(if 16777217< (Wr ((Wr (10*c))+(Wr (((u8c ((m.toNat:Int) - ((48:UInt8).toNat:Int)))).toNat:Int)))) then 16777217 else (Wr ((Wr (10*c))+(Wr (((u8c ((m.toNat:Int) - ((48:UInt8).toNat:Int)))).toNat:Int))))),(Wr (g+1)),Pu,(au▸a),(Tn (Mo [] ah) al)⟩
 refine CF<|Ac<|Sr<|Vm<|Vm<|Vr (.bool (g==f))<|AA<|Cn a (fun a4 a=>?_) fun a4 a=>?_
 refine Sr<|Va (I 0)<|Va (I 0)<|AA<|AZ ?_
 obtain rfl:=AP a
 refine A0 (B:=B) ao (D4 rfl (.tmp rfl) (.tmp rfl) ?_)
 exact ⟨q,rfl,Ho (T2 (Mo [] ar) ah al) an⟩
 refine WC.skip<|Au (fun n aw=>∃(e:Env) (am:Col) (ab:Int),n=e.puts [(5,.int .i64 ab),(6,.int .i64 g)]∧KV g ab=some u∧AO [] q ai am aw) ?_ ?_
 refine Sr<|Vm<|Vr (.bool (f==1))<|AA<|Cn a (fun a5 a=>?_) fun a5 a=>?_
 refine AQ<|Vm<|Vr (I (Wr (0 - c)))<|Va (I (Wr (0 - c)))<|AA<|⟨_,q,(Wr (0 - c)),Pu,a,(AO.refl [] _ _)⟩
 refine WC.skip<|⟨_,q,c,Pu,a,(AO.refl [] _ _)⟩
 rintro _ aw ⟨e,am,ab,rfl,a,a6⟩
 rw [KV] at a
 refine Sr<|Vm<|Vm<|Va (I ab)<|Va (I g)<|AA<|AZ ?_
 obtain rfl:=AP a
 refine A0 (B:=B) ao (D4 rfl (.tmp rfl) (.tmp rfl) ?_)
 exact ⟨am,rfl,Ho (T3 (Mo [] ar) ah al a6) an⟩
theorem OJ(c:Nat):EI.Spec (EI c):=by
 intro a d l m e
 refine Calls.mono (Qu c (recol (see []) a) d (A3 lbr a) e) ?_
 rintro n o ⟨f,g,h⟩
 exact ⟨glue [] d a f,g,Ah h A2⟩
def Gj.At(d:Col)(a:World)(f:Ad→Option (Ad×Int)):Prop:=
 ∀{e:Ad} {g:List Value} {c:Ad×Int},f e=some c→HB.rep d.F a g e→
  Calls Tryz.prog 108 #[.agg g.toArray] a fun n h=>∃(l:Col) (m:List Value),n=.returned (.tuple #[.agg m.toArray,I c.2])∧AO [] d a l h∧HB.rep l.F h m c.1
def Gj.Spec(f:Ad→Option (Ad×Int)):Prop:=
 ∀(a:Col) (c:World),Gj.At a c f
theorem T7(o:Col)(aa:World)(q:∀b,o b<10):Gj.At o aa Gj:=by
 intro c aq ab a ac
 rw [Gj] at a
 obtain rfl:=GW ac
 refine A5 Tryz.func108 rfl Tryz.ntmps108 rfl fun B r ar=>Sr<|Ef (By o 20 rfl rfl fun ad au ae s u=>?_)
 refine Ef (AY ad 21 ID rfl fun g af ag w l=>?_)
 refine Va (I 0)<|AA<|Ac<|Au (fun ah y=>∃(z:Env) (m:Col) (p:Bool),ah=z.puts [(1,.pointer (some ⟨ae,0,none⟩)),(2,.pointer (some ⟨ag,0,none⟩)),(21,.bool p)]∧Iv c p=some ab∧AO [] g af m y) ?_ ?_
 refine AQ<|Vx (Run.fieldAddr0 K5 rfl)<|have n:=Bs s l;Vx (Run.load1 Be rfl (Bk.cell n rfl))<|Vr (.bool (decide (c.re< (-16777216:Int))))<|Vm<|Bo a (fun d a=>?_) fun d a=>?_
 refine Pg d<|Pg d<|Pg d<|Vp d<|Vm<|Pg rfl<|Pg rfl<|Pg rfl<|Vr (.bool true)<|Vm<|Pg rfl<|Pg rfl<|Pg rfl<|Vr (.bool true)<|AA<|⟨_,g,true,Pu,a,(AO.refl [] _ _)⟩
 refine Gx d (Run.fieldAddr0 K5 rfl)<|Gx d (Run.load1 Be rfl (Bk.cell n rfl))<|Gr d (.bool (decide (c.re>16777216)))<|Vp d<|Vm<|Bo a (fun e a=>?_) fun e a=>?_
 refine Pg e<|Pg e<|Pg e<|Vp e<|Vm<|Pg rfl<|Pg rfl<|Pg rfl<|Vr (.bool true)<|AA<|⟨_,g,true,Pu,a,(AO.refl [] _ _)⟩
 refine Gx e (Run.fieldAddr Jp rfl)<|Gx e (Run.load1 Be rfl (Bk.cell n rfl))<|Gr e (.bool (decide (c.im< (-16777216:Int))))<|Vp e<|Vm<|Bo a (fun f a=>?_) fun f a=>?_
 refine Pg f<|Pg f<|Pg f<|Vp f<|AA<|⟨_,g,true,Pu,a,(AO.refl [] _ _)⟩
 refine Gx f (Run.fieldAddr Jp rfl)<|Gx f (Run.load1 Be rfl (Bk.cell n rfl))<|Gr f (.bool (decide (c.im>16777216)))<|Vp f<|AA<|⟨_,g,(decide (c.im>16777216)),Pu,a,(AO.refl [] _ _)⟩
 rintro _ y ⟨z,m,p,rfl,a,h⟩
 rw [Iv] at a
 refine Cn a (fun ai a=>?_) fun ai a=>?_
 refine Sr<|Vx (v:=.agg [I 0,I 0].toArray) (Bp ID NE rfl .nil)<|have aj:=Bs w h;Eu (St IU aj rfl rfl rfl rfl fun av ak al=>?_)
 refine Va (I 50)<|AA<|AZ ?_
 obtain rfl:=AP a
 refine A0 (B:=B) r (D4 rfl (.agg I2 rfl rfl (Bk.part ak 0 [I 0,I 0] rfl)) (.tmp rfl) ?_)
 exact ⟨m,[I 0,I 0],rfl,Ho (T3 (Mo [21] u) l h al) q,(Ei (x:=(Ad.mk 0 0)))⟩
 refine WC.skip<|Sr<|have am:=Y2 s l h;Vx (Run.loadN I2 rfl rfl (Bk.part am 0 [I c.re,I c.im] rfl))<|have an:=Bs w h;Eu (St IU an rfl rfl rfl rfl fun aw ao ap=>?_)
 refine Va (I 0)<|AA<|AZ ?_
 obtain rfl:=AP a
 refine A0 (B:=B) r (D4 rfl (.agg I2 rfl rfl (Bk.part ao 0 [I c.re,I c.im] rfl)) (.tmp rfl) ?_)
 exact ⟨m,[I c.re,I c.im],rfl,Ho (T3 (Mo [21] u) l h ap) q,(Ei (x:=c))⟩
theorem Ut:Gj.Spec Gj:=by
 intro a c n o p d e
 refine Calls.mono (T7 (recol (see []) a) c (A3 lbr a) d (Av HB e [])) ?_
 rintro q r ⟨f,g,h,l,m⟩
 exact ⟨glue [] c a f,g,h,Ah l A2,BA HB m⟩
def ref01_digits.At(e:Col)(a:World)(f:Int→Option Bts):Prop:=
 ∀{c:Int} {d:Bts},f c=some d→
  Calls Tryz.prog 134 #[I c] a fun g h=>∃(l:Col),g=.returned (Sb d)∧AO [] e a l h
def ref01_digits.Spec(f:Int→Option Bts):Prop:=
 ∀(a:Col) (c:World),ref01_digits.At a c f
structure A6.Good(a:A6):Prop where
 ref01_digits:ref01_digits.Spec a.ref01_digits
theorem QH(m:A6)(w:Nat)(n:A6.Good m)(d:Col)(o:World)(p:∀b,d b<10):ref01_digits.At d o (Cz m w):=by
 intro c y a
 rw [Cz] at a
 refine A5 Tryz.func134 rfl Tryz.ntmps134 rfl fun B q aw=>Sr<|Va (Sb ([]:List UInt8))<|AA<|Ac<|Sr<|Vm<|Vr (.bool (decide (c<0)))<|AA<|Cn a (fun z a=>?_) fun z a=>?_
 refine Sr<|Vm<|Vr (I (Wr (0 - c)))<|Bi a fun ax aa a=>Ca (MR [I (Wr (0 - c))] rfl) (n.ref01_digits d o aa) ?_
 rintro _ ay ⟨ab,rfl,ac⟩
 refine ⟨_,rfl,?_⟩
 refine Bi a fun r ad a=>Vx (v:=Sb r) (Run.strAdd rfl rfl ad)<|Va (Sb r)<|AA<|AZ ?_
 obtain rfl:=AP a
 refine A0 (B:=B) q (BQ rfl (.tmp rfl) ?_)
 exact ⟨ab,rfl,Ho (Mo [] ac) p⟩
 refine WC.skip<|Sr<|Vm<|Bi a fun az ae a=>Vx (v:=I (c.tmod 10)) (Run.rem rfl rfl (RI ae))<|Vr (I (Wr (48+(c.tmod 10))))<|Vx (v:=.int .u8 (((u8c (Wr (48+(c.tmod 10))))).toNat:Int)) (Zx rfl)<|Ef (E1 (cs:=[.int .u8 (((u8c (Wr (48+(c.tmod 10))))).toNat:Int)]) d 20 [[.int .u8 (((u8c (Wr (48+(c.tmod 10))))).toNat:Int)]] G8 Xm rfl rfl (.cons rfl rfl rfl .nil) rfl fun af f ag ah ai=>?_)
 refine have aj:Own Kd.u8 5 af f 20 (.slice (some ⟨ag,0,none⟩) 1 1) ([(u8c (Wr (48+(c.tmod 10))))]:List UInt8):=Own.lit (css:=[[.int .u8 (((u8c (Wr (48+(c.tmod 10))))).toNat:Int)]]) ah rfl rfl rfl (Aa rfl Ba) (A9 rfl Gg) rfl; ?_
 obtain ⟨g,ak,al⟩:=Own.freeze (S:=[20]) aj dcd dcd
 refine Vx (v:=Sb ([(u8c (Wr (48+(c.tmod 10))))]:List UInt8)) (Run.bytesStr Ok rfl al)<|Va (Sb ([(u8c (Wr (48+(c.tmod 10))))]:List UInt8))<|AA<|Au (fun am s=>∃(u:Env) (h:Col) (e:Bts),am=u.puts [(3,.string (bs e))]∧J9 e=some y∧AO [] g f h s) ?_ ?_
 refine Sr<|Vm<|Vr (.bool (decide (c≥10)))<|AA<|Cn a (fun an a=>?_) fun an a=>?_
 refine AQ<|Vm<|Bi a fun a0 ao a=>Vx (v:=I (Wr (c.tdiv 10))) (Run.quo rfl rfl (RI ao))<|Bi a fun a1 ap a=>Ca (MR [I (Wr (c.tdiv 10))] rfl) (n.ref01_digits g f ap) ?_
 rintro _ a2 ⟨aq,rfl,ar⟩
 refine ⟨_,rfl,?_⟩
 refine Vm<|Bi a fun l au a=>Vx (v:=Sb l) (Run.strAdd rfl rfl au)<|Va (Sb l)<|AA<|⟨_,aq,l,Pu,a,(Mo [] ar)⟩
 refine WC.skip<|⟨_,g,([(u8c (Wr (48+(c.tmod 10))))]:List UInt8),Pu,a,(AO.refl [] _ _)⟩
 rintro _ s ⟨u,h,e,rfl,a,av⟩
 rw [J9] at a
 refine Sr<|Vm<|Va (Sb e)<|AA<|AZ ?_
 obtain rfl:=AP a
 refine A0 (B:=B) q (BQ rfl (.tmp rfl) ?_)
 exact ⟨h,rfl,Ho (T2 (Mo [20] ai) ak av) p⟩
theorem QI(a:A6)(d:Nat)(f:A6.Good a):ref01_digits.Spec (Cz a d):=by
 intro c e n o g
 refine Calls.mono (QH a d f (recol (see []) c) e (A3 lbr c) g) ?_
 rintro p q ⟨h,l,m⟩
 exact ⟨glue [] e c h,l,Ah m A2⟩
theorem A6.good:∀a,A6.Good (A6.at a)
 |0=>⟨by intro c d;intros;(try intro _);intros;exact BK (by assumption)⟩
 |n+1=>⟨QI _ n (A6.good n)⟩
theorem H4(a:Nat):ref01_digits.Spec (ref01_digits a):=(A6.good a).ref01_digits
def FP.At(c:Col)(a:World)(f:Ad→Option Bts):Prop:=
 ∀{d:Ad} {e:List Value} {g:Bts},f d=some g→HB.rep c.F a e d→
  Calls Tryz.prog 109 #[.agg e.toArray] a fun h l=>∃(m:Col),h=.returned (Sb g)∧AO [] c a m l
def FP.Spec(f:Ad→Option Bts):Prop:=
 ∀(a:Col) (c:World),FP.At a c f
theorem Rz(f:Nat)(o:Col)(ae:World)(l:∀b,o b<10):FP.At o ae (FP f):=by
 intro e bd be a af
 rw [FP] at a
 obtain rfl:=GW af
 refine A5 Tryz.func109 rfl Tryz.ntmps109 rfl fun B m d=>Sr<|Ef (By o 20 rfl rfl fun h r bf g n=>?_)
 refine Va (Sb ([]:List UInt8))<|AA<|Ac<|Ao<|Sr<|Vx (Run.fieldAddr Jp rfl)<|Vx (Run.load1 Be rfl (Bk.cell g rfl))<|Vr (.bool (e.im==0))<|Va (.bool (e.im==0))<|AA<|Cn a (fun ag a=>?_) fun ag a=>?_
 refine Sr<|Vx (Run.fieldAddr0 K5 rfl)<|Vx (Run.load1 Be rfl (Bk.cell g rfl))<|Bi a fun ah ai a=>Ca (MR [I e.re] rfl) (H4 f h r ai) ?_
 rintro _ bg ⟨aj,rfl,ak⟩
 refine ⟨_,rfl,?_⟩
 refine Va (Sb ah)<|AA<|AZ ?_
 obtain rfl:=AP a
 refine A0 (B:=B) m (BQ rfl (.tmp rfl) ?_)
 exact ⟨aj,rfl,Ho (Tn (Mo [] n) ak) l⟩
 refine Sr<|Vx (Run.fieldAddr0 K5 rfl)<|Vx (Run.load1 Be rfl (Bk.cell g rfl))<|Vr (.bool (e.re==0))<|Va (.bool (e.re==0))<|AA<|Cn a (fun al a=>?_) fun al a=>?_
 refine Sr<|Vx (Run.fieldAddr Jp rfl)<|Vx (Run.load1 Be rfl (Bk.cell g rfl))<|Bi a fun bh am a=>Ca (MR [I e.im] rfl) (H4 f h r am) ?_
 rintro _ bi ⟨an,rfl,ao⟩
 refine ⟨_,rfl,?_⟩
 refine Bi a fun s ap a=>Vx (v:=Sb s) (Run.strAdd rfl rfl ap)<|Va (Sb s)<|AA<|AZ ?_
 obtain rfl:=AP a
 refine A0 (B:=B) m (BQ rfl (.tmp rfl) ?_)
 exact ⟨an,rfl,Ho (Tn (Mo [] n) ao) l⟩
 refine Sr<|Vx (Run.fieldAddr Jp rfl)<|Vx (Run.load1 Be rfl (Bk.cell g rfl))<|Vr (.bool (decide (e.im>0)))<|Va (.bool (decide (e.im>0)))<|AA<|Cn a (fun aq a=>?_) fun aq a=>?_
 refine Ac<|Cc Ff (.q 0 (.q 1 (.q 4 (.q 5 (.one 2 (.q 3 (.one 6 (.q 7 (.q 8 (.q 9 .nil)))))))))) [] [] h (by kernel_rfl) fun ar u=>Qx d rfl (fun _ ⟨_,c⟩=>Run.fieldAddr0 K5 rfl)<|have w:=Bs g u;Qx d rfl (fun _ ⟨_,c⟩=>Run.load1 Be rfl (Bk.cell (Bs w c) rfl))<|Qx d rfl (fun _ ⟨_,c⟩=>Run.fieldAddr Jp rfl)<|Qx d rfl (fun _ ⟨_,c⟩=>Run.load1 Be rfl (Bk.cell (Bs w c) rfl))<|BW rfl<|Bi a fun bj au a=>BN rfl (.none rfl) rfl rfl (MR [I e.re] rfl)<|Calls.mono (H4 f h ar au) ?_
 rintro _ av ⟨aw,rfl,p⟩
 refine ⟨_,rfl,⟨_,(Mo [] p)⟩,?_⟩
 refine Bi a fun ax ay a=>Qx d rfl (v:=Sb ax) (fun _ ⟨_,c⟩=>Run.strAdd rfl rfl ay)<|BW rfl<|Bi a fun bk az a=>BN rfl (.none rfl) rfl rfl (MR [I e.im] rfl)<|Calls.mono (H4 f aw av az) ?_
 rintro _ bl ⟨a0,rfl,y⟩
 refine ⟨_,rfl,⟨_,(Tn (Mo [] p) y)⟩,?_⟩
 refine Bi a fun a1 a2 a=>Qx d rfl (v:=Sb a1) (fun _ ⟨_,c⟩=>Run.strAdd rfl rfl a2)<|Bi a fun z a3 a=>Qx d rfl (v:=Sb z) (fun _ ⟨_,c⟩=>Run.strAdd rfl rfl a3)<|Qx d rfl (v:=Sb z) (fun _ ⟨_,c⟩=>Run.assign rfl)<|Ex<|AZ ?_
 obtain rfl:=AP a
 refine A0 (B:=B) m (BQ rfl (.tmp rfl) ?_)
 exact ⟨a0,rfl,Ho (T3 (Mo [] n) u p y) l⟩
 refine WC.skip<|Ac<|Cc Ff (.q 0 (.q 1 (.q 3 (.q 4 (.one 2 (.one 5 (.q 6 (.q 7 (.q 8 .nil))))))))) [] [] h (by kernel_rfl) fun a4 aa=>Qx d rfl (fun _ ⟨_,c⟩=>Run.fieldAddr0 K5 rfl)<|have ab:=Bs g aa;Qx d rfl (fun _ ⟨_,c⟩=>Run.load1 Be rfl (Bk.cell (Bs ab c) rfl))<|Qx d rfl (fun _ ⟨_,c⟩=>Run.fieldAddr Jp rfl)<|Qx d rfl (fun _ ⟨_,c⟩=>Run.load1 Be rfl (Bk.cell (Bs ab c) rfl))<|BW rfl<|Bi a fun bm a5 a=>BN rfl (.none rfl) rfl rfl (MR [I e.re] rfl)<|Calls.mono (H4 f h a4 a5) ?_
 rintro _ a6 ⟨a7,rfl,q⟩
 refine ⟨_,rfl,⟨_,(Mo [] q)⟩,?_⟩
 refine BW rfl<|Bi a fun bn a8 a=>BN rfl (.none rfl) rfl rfl (MR [I e.im] rfl)<|Calls.mono (H4 f a7 a6 a8) ?_
 rintro _ bo ⟨a9,rfl,ac⟩
 refine ⟨_,rfl,⟨_,(Tn (Mo [] q) ac)⟩,?_⟩
 refine Bi a fun ba bb a=>Qx d rfl (v:=Sb ba) (fun _ ⟨_,c⟩=>Run.strAdd rfl rfl bb)<|Bi a fun ad bc a=>Qx d rfl (v:=Sb ad) (fun _ ⟨_,c⟩=>Run.strAdd rfl rfl bc)<|Qx d rfl (v:=Sb ad) (fun _ ⟨_,c⟩=>Run.assign rfl)<|Ex<|AZ ?_
 obtain rfl:=AP a
 refine A0 (B:=B) m (BQ rfl (.tmp rfl) ?_)
 exact ⟨a9,rfl,Ho (T3 (Mo [] n) aa q ac) l⟩
theorem O0(c:Nat):FP.Spec (FP c):=by
 intro a d m n o e f
 refine Calls.mono (Rz c (recol (see []) a) d (A3 lbr a) e (Av HB f [])) ?_
 rintro p q ⟨g,h,l⟩
 exact ⟨glue [] d a g,h,Ah l A2⟩
def D6.At(l:Col)(c:World)(f:Bts→Option (Ad×Int)):Prop:=
 ∀{d:Bts} {a:Ad×Int},f d=some a→
  Calls Tryz.prog 75 #[Sb d] c fun m e=>∃(g:Col) (h:List Value),m=.returned (.tuple #[.agg h.toArray,I a.2])∧AO [] l c g e∧HB.rep g.F e h a.1
def D6.Spec(f:Bts→Option (Ad×Int)):Prop:=
 ∀(a:Col) (c:World),D6.At a c f
theorem Qv(l:Nat)(ah:Col)(a5:World)(ai:∀b,ah b<10):D6.At ah a5 (D6 l):=by
 intro h aj a
 rw [D6] at a
 refine A5 Tryz.func75 rfl Tryz.ntmps75 rfl fun B ak b9=>Sr<|Ef (AY ah 20 ID rfl fun a6 a7 al am an=>?_)
 refine Va (I 0)<|AA<|Sr<|Vm<|Bi a fun e a8 a=>Ca (Vw [Sb h] rfl) (OJ l a6 a7 a8) ?_
 rintro _ ca ⟨ax,rfl,m⟩
 refine ⟨_,rfl,?_⟩
 refine Vm<|Vr (I e.1)<|Vr (I e.2)<|Va (I e.1)<|Va (I e.2)<|AA<|Ac<|Sr<|Vm<|Vr (.bool (e.2==0))<|AA<|Cn a (fun a9 a=>?_) fun a9 a=>?_
 refine Sr<|Vx (v:=.agg [I 0,I 0].toArray) (Bp ID NE rfl .nil)<|have ba:=Bs am m;Eu (St IU ba rfl rfl rfl rfl fun cb bb bc=>?_)
 refine Va (I 10)<|AA<|AZ ?_
 obtain rfl:=AP a
 refine A0 (B:=B) ak (D4 rfl (.agg I2 rfl rfl (Bk.part bb 0 [I 0,I 0] rfl)) (.tmp rfl) ?_)
 exact ⟨ax,[I 0,I 0],rfl,Ho (T2 (Mo [20] an) m bc) ai,(Ei (x:=(Ad.mk 0 0)))⟩
 refine WC.skip<|Sr<|Vm<|Vx (v:=.agg [I e.1,I 0].toArray) (Bp ID NE rfl (.cons rfl rfl rfl .nil))<|Ef (AY ax 21 ID rfl fun n cc z bd aa=>?_)
 refine Eu (St IU bd rfl rfl rfl rfl fun ay ao ab=>?_)
 refine AA<|Sr<|Vm<|Vm<|Bi a fun r be a=>Vx (v:=Sb r) (Run.sliceStr IS rfl ⟨_,rfl⟩ rfl be)<|Va (Sb r)<|AA<|Au (fun s ac=>∃(g:Env) (ad:Col) (c:Int) (d:Int),s=g.puts [(0,.string (bs h)),(2,.pointer (some ⟨al,0,none⟩)),(6,.pointer (some ⟨z,0,none⟩))]∧FA l h c d=some aj∧AO [21] n ay ad ac∧Bk ad ac 21 z [I c,I d] 111) ?_ ?_
 refine Sr<|Vm<|Vx (v:=.bool (r==([105]:List UInt8))) (Run.strEq rfl rfl)<|AA<|Cn a (fun bf a=>?_) fun bf a=>?_
 refine AQ<|Vm<|Vx (v:=.agg [I 0,I e.1].toArray) (Bp ID NE rfl (.cons rfl rfl rfl .nil))<|Eu (St IU ao rfl rfl rfl rfl fun cd bg bh=>?_)
 refine AA<|⟨_,n,0,e.1,Pu,a,(Mo [21] bh),bg⟩
 refine Sr<|Vm<|Vx (v:=.bool (!(r==([]:List UInt8)))) (Run.strNe rfl rfl)<|AA<|Cn a (fun bi a=>?_) fun bi a=>?_
 refine Au (fun s ap=>∃(g:Env) (aq:Col) (ae:Bts),s=g.puts [(0,.string (bs h)),(2,.pointer (some ⟨al,0,none⟩)),(6,.pointer (some ⟨z,0,none⟩)),(7,.string (bs ae))]∧Gk l h e ae=some aj∧AO [] n ay aq ap) ?_ ?_
 refine Sr<|Vm<|Bi a fun az bj a=>Vx (v:=.int .u8 (az.toNat:Int)) (Run.indexBs IS rfl rfl bj)<|Vr (.bool ((az.toNat:Int)==((43:UInt8).toNat:Int)))<|AA<|Cn a (fun bk a=>?_) fun bk a=>?_
 refine AQ<|Vm<|Bi a fun ar bl a=>Vx (v:=Sb ar) (Run.sliceStr IS rfl ⟨_,rfl⟩ rfl bl)<|Va (Sb ar)<|AA<|⟨_,n,ar,Pu,a,(AO.refl [] _ _)⟩
 refine WC.skip<|⟨_,n,r,Pu,a,(AO.refl [] _ _)⟩
 rintro _ ap ⟨g,aq,ae,rfl,a,a0⟩
 rw [Gk] at a
 refine Sr<|Vm<|Bi a fun u bm a=>Ca (Vw [Sb ae] rfl) (OJ l aq ap bm) ?_
 rintro _ cf ⟨bn,rfl,a1⟩
 refine ⟨_,rfl,?_⟩
 refine Vm<|Vr (I u.1)<|Vr (I u.2)<|Va (I u.1)<|Va (I u.2)<|AA<|AQ<|Vm<|Vx (Run.fieldAddr Jp rfl)<|have bo:=Y2 ao a0 a1;Eu (St Lz bo rfl rfl rfl rfl fun cg bp bq=>?_)
 refine AA<|⟨_,bn,e.1,u.1,Pu,a,(T2 (Mo [21] a0) a1 bq),bp⟩
 refine WC.skip<|⟨_,n,e.1,0,Pu,a,(AO.refl [21] _ _),ao⟩
 rintro _ ac ⟨g,ad,c,d,rfl,a,af,au⟩
 rw [FA] at a
 refine Sr<|Vx (Run.loadN I2 rfl rfl (Bk.part au 0 [I c,I d] rfl))<|Bi a fun w br a=>Ca (Yg [.agg [I c,I d].toArray] rfl) (Ut ad ac br (Ei (x:=(Ad.mk c d)))) ?_
 rintro _ ch ⟨bt,ci,rfl,o,bu⟩
 obtain rfl:=GW bu
 refine ⟨_,rfl,?_⟩
 refine Vm<|Vr (.agg [I w.1.re,I w.1.im].toArray)<|Vr (I w.2)<|Ef (AY bt 22 ID rfl fun av cj ck bv p=>?_)
 refine Eu (St IU bv rfl rfl rfl rfl fun a2 cl q=>?_)
 refine Va (I w.2)<|AA<|Ac<|Au (fun s a3=>∃(g:Env) (ag:Col) (aw:Bool),s=g.puts [(2,.pointer (some ⟨al,0,none⟩)),(6,.pointer (some ⟨z,0,none⟩)),(55,.bool aw)]∧KW c d aw=some aj∧AO [] av a2 ag a3) ?_ ?_
 refine AQ<|Vm<|Vr (.bool (w.2 != 0))<|Vm<|Bo a (fun f a=>?_) fun f a=>?_
 refine Pg f<|Pg f<|Pg f<|Pg f<|Vp f<|AA<|⟨_,av,true,Pu,a,(AO.refl [] _ _)⟩
 refine have bw:=Y3 au o p q;Gx f (Run.loadN I2 rfl rfl (Bk.part bw 0 [I c,I d] rfl))<|Bi a fun a4 bx a=>Bx (.guard (t:=false) (b:=false) rfl rfl rfl rfl (Cb f)) rfl rfl (Vy [.agg [I c,I d].toArray] rfl)<|Calls.mono (O0 l av a2 bx (Ei (x:=(Ad.mk c d)))) ?_
 rintro _ cm ⟨bz,rfl,b0⟩
 refine ⟨_,rfl,?_⟩
 refine Gm f<|Gx f (v:=.bool (!(a4==h))) (Run.strNe rfl rfl)<|Vp f<|AA<|⟨_,bz,(!(a4==h)),Pu,a,(Mo [] b0)⟩
 rintro _ a3 ⟨g,ag,aw,rfl,a,y⟩
 rw [KW] at a
 refine Cn a (fun b1 a=>?_) fun b1 a=>?_
 refine Sr<|Vx (v:=.agg [I 0,I 0].toArray) (Bp ID NE rfl .nil)<|have b2:=Y4 (Y4 am m aa ab af) o p q y;Eu (St IU b2 rfl rfl rfl rfl fun cn b3 b4=>?_)
 refine Va (I 10)<|AA<|AZ ?_
 obtain rfl:=AP a
 refine A0 (B:=B) ak (D4 rfl (.agg I2 rfl rfl (Bk.part b3 0 [I 0,I 0] rfl)) (.tmp rfl) ?_)
 exact ⟨ag,[I 0,I 0],rfl,Ho (Tn (T4 (T4 (Mo [20,21,22] an) m aa ab af) o p q y) b4) ai,(Ei (x:=(Ad.mk 0 0)))⟩
 refine WC.skip<|Sr<|have b5:=Y4 au o p q y;Vx (Run.loadN I2 rfl rfl (Bk.part b5 0 [I c,I d] rfl))<|have b6:=Y4 (Y4 am m aa ab af) o p q y;Eu (St IU b6 rfl rfl rfl rfl fun co b7 b8=>?_)
 refine Va (I 0)<|AA<|AZ ?_
 obtain rfl:=AP a
 refine A0 (B:=B) ak (D4 rfl (.agg I2 rfl rfl (Bk.part b7 0 [I c,I d] rfl)) (.tmp rfl) ?_)
 exact ⟨ag,[I c,I d],rfl,Ho (Tn (T4 (T4 (Mo [20,21,22] an) m aa ab af) o p q y) b8) ai,(Ei (x:=(Ad.mk c d)))⟩
theorem L4(c:Nat):D6.Spec (D6 c):=by
 intro a d n o e
 refine Calls.mono (Qv c (recol (see []) a) d (A3 lbr a) e) ?_
 rintro p q ⟨f,g,h,l,m⟩
 exact ⟨glue [] d a f,g,h,Ah l A2,BA HB m⟩
def FQ.At(c:Col)(a:World)(f:Ad→Option (Nat×Nat)):Prop:=
 ∀{d:Ad} {e:List Value} {g:(Nat×Nat)},f d=some g→HB.rep c.F a e d→
  Calls Tryz.prog 76 #[.agg e.toArray] a fun h l=>∃(m:Col),h=.returned (Cx g)∧AO [] c a m l
def FQ.Spec(f:Ad→Option (Nat×Nat)):Prop:=
 ∀(a:Col) (c:World),FQ.At a c f
theorem Qw(c:Col)(f:World)(g:∀b,c b<10):FQ.At c f FQ:=by
 intro a o p d h
 rw [FQ] at d
 obtain rfl:=GW h
 refine A5 Tryz.func76 rfl Tryz.ntmps76 rfl fun B l q=>Sr<|Ef (By c 20 rfl rfl fun m r s e n=>?_)
 refine Va (Cx (((0,0):Nat×Nat)))<|AA<|Sr<|Vx (Run.fieldAddr0 K5 rfl)<|Vx (Run.load1 Be rfl (Bk.cell e rfl))<|Vr (Fl (FloatKind.f64.nearest a.re))<|Vx (Run.fieldAddr Jp rfl)<|Vx (Run.load1 Be rfl (Bk.cell e rfl))<|Vr (Fl (FloatKind.f64.nearest a.im))<|Vx (v:=Cx (((FloatKind.f64.nearest a.re),(FloatKind.f64.nearest a.im)))) (Run.complex rfl rfl)<|Va (Cx (((FloatKind.f64.nearest a.re),(FloatKind.f64.nearest a.im))))<|AA<|AZ ?_
 obtain rfl:=AP d
 refine A0 (B:=B) l (BQ rfl (.tmp rfl) ?_)
 exact ⟨m,rfl,Ho (Mo [] n) g⟩
theorem L5:FQ.Spec FQ:=by
 intro a c l m n d e
 refine Calls.mono (Qw (recol (see []) a) c (A3 lbr a) d (Av HB e [])) ?_
 rintro o p ⟨f,g,h⟩
 exact ⟨glue [] c a f,g,Ah h A2⟩
def H5.At(h:Col)(a:World)(f:Option (List Bts)):Prop:=
 ∀{c:(List Bts)},f=some c→
  Calls Tryz.prog 129 #[] a fun l d=>∃(e:Col) (g:Value),l=.returned g∧AO [] h a e d∧Slc E9 e.F d g c
def H5.Spec(f:Option (List Bts)):Prop:=
 ∀(a:Col) (c:World),H5.At a c f
theorem Qy(a:Col)(e:World)(f:∀b,a b<10):H5.At a e H5:=by
 intro s d
 rw [H5] at d
 refine A5 Tryz.func129 rfl Tryz.ntmps129 rfl fun B g u=>Sr<|Va (.slice none 0 0)<|AA<|Sr<|Ef (E1 (cs:=[Sb ([66]:List UInt8),Sb ([76]:List UInt8),Sb ([78]:List UInt8),Sb ([99,97,115,101]:List UInt8),Sb ([99,111,110,106]:List UInt8),Sb ([101,108,115,101]:List UInt8),Sb ([102,97,105,108]:List UInt8),Sb ([102,97,108,115,101]:List UInt8),Sb ([105,102]:List UInt8),Sb ([105,109]:List UInt8),Sb ([105,110]:List UInt8),Sb ([108,101,116]:List UInt8),Sb ([110,105,108]:List UInt8),Sb ([110,111,116]:List UInt8),Sb ([111,102]:List UInt8),Sb ([114,101]:List UInt8),Sb ([115,116,114,105,99,116]:List UInt8),Sb ([116,104,101,110]:List UInt8),Sb ([116,114,117,101]:List UInt8)]) a 20 [[Sb ([66]:List UInt8)],[Sb ([76]:List UInt8)],[Sb ([78]:List UInt8)],[Sb ([99,97,115,101]:List UInt8)],[Sb ([99,111,110,106]:List UInt8)],[Sb ([101,108,115,101]:List UInt8)],[Sb ([102,97,105,108]:List UInt8)],[Sb ([102,97,108,115,101]:List UInt8)],[Sb ([105,102]:List UInt8)],[Sb ([105,109]:List UInt8)],[Sb ([105,110]:List UInt8)],[Sb ([108,101,116]:List UInt8)],[Sb ([110,105,108]:List UInt8)],[Sb ([110,111,116]:List UInt8)],[Sb ([111,102]:List UInt8)],[Sb ([114,101]:List UInt8)],[Sb ([115,116,114,105,99,116]:List UInt8)],[Sb ([116,104,101,110]:List UInt8)],[Sb ([116,114,117,101]:List UInt8)]] Ir Rw rfl rfl (.cons rfl rfl rfl (.cons rfl rfl rfl (.cons rfl rfl rfl (.cons rfl rfl rfl (.cons rfl rfl rfl (.cons rfl rfl rfl (.cons rfl rfl rfl (.cons rfl rfl rfl (.cons rfl rfl rfl (.cons rfl rfl rfl (.cons rfl rfl rfl (.cons rfl rfl rfl (.cons rfl rfl rfl (.cons rfl rfl rfl (.cons rfl rfl rfl (.cons rfl rfl rfl (.cons rfl rfl rfl (.cons rfl rfl rfl (.cons rfl rfl rfl .nil))))))))))))))))))) rfl fun h l c m n=>?_)
 refine have o:Own E9 9 h l 20 (.slice (some ⟨c,0,none⟩) 19 19) ([([66]:List UInt8),([76]:List UInt8),([78]:List UInt8),([99,97,115,101]:List UInt8),([99,111,110,106]:List UInt8),([101,108,115,101]:List UInt8),([102,97,105,108]:List UInt8),([102,97,108,115,101]:List UInt8),([105,102]:List UInt8),([105,109]:List UInt8),([105,110]:List UInt8),([108,101,116]:List UInt8),([110,105,108]:List UInt8),([110,111,116]:List UInt8),([111,102]:List UInt8),([114,101]:List UInt8),([115,116,114,105,99,116]:List UInt8),([116,104,101,110]:List UInt8),([116,114,117,101]:List UInt8)]:List Bts):=Own.lit (css:=[[Sb ([66]:List UInt8)],[Sb ([76]:List UInt8)],[Sb ([78]:List UInt8)],[Sb ([99,97,115,101]:List UInt8)],[Sb ([99,111,110,106]:List UInt8)],[Sb ([101,108,115,101]:List UInt8)],[Sb ([102,97,105,108]:List UInt8)],[Sb ([102,97,108,115,101]:List UInt8)],[Sb ([105,102]:List UInt8)],[Sb ([105,109]:List UInt8)],[Sb ([105,110]:List UInt8)],[Sb ([108,101,116]:List UInt8)],[Sb ([110,105,108]:List UInt8)],[Sb ([110,111,116]:List UInt8)],[Sb ([111,102]:List UInt8)],[Sb ([114,101]:List UInt8)],[Sb ([115,116,114,105,99,116]:List UInt8)],[Sb ([116,104,101,110]:List UInt8)],[Sb ([116,114,117,101]:List UInt8)]]) m rfl rfl rfl (Aa rfl (Aa rfl (Aa rfl (Aa rfl (Aa rfl (Aa rfl (Aa rfl (Aa rfl (Aa rfl (Aa rfl (Aa rfl (Aa rfl (Aa rfl (Aa rfl (Aa rfl (Aa rfl (Aa rfl (Aa rfl (Aa rfl Ba))))))))))))))))))) (A9 rfl (A9 rfl (A9 rfl (A9 rfl (A9 rfl (A9 rfl (A9 rfl (A9 rfl (A9 rfl (A9 rfl (A9 rfl (A9 rfl (A9 rfl (A9 rfl (A9 rfl (A9 rfl (A9 rfl (A9 rfl (A9 rfl Gg))))))))))))))))))) rfl;Va (Sl (some ⟨c,0,none⟩) (([([66]:List UInt8),([76]:List UInt8),([78]:List UInt8),([99,97,115,101]:List UInt8),([99,111,110,106]:List UInt8),([101,108,115,101]:List UInt8),([102,97,105,108]:List UInt8),([102,97,108,115,101]:List UInt8),([105,102]:List UInt8),([105,109]:List UInt8),([105,110]:List UInt8),([108,101,116]:List UInt8),([110,105,108]:List UInt8),([110,111,116]:List UInt8),([111,102]:List UInt8),([114,101]:List UInt8),([115,116,114,105,99,116]:List UInt8),([116,104,101,110]:List UInt8),([116,114,117,101]:List UInt8)]:List Bts)) 19)<|AA<|AZ ?_
 obtain ⟨p,q,r⟩:=Own.freeze (S:=[20]) o dcd dcd
 obtain rfl:=AP d
 refine A0 (B:=B) g (BQ rfl (.tmp rfl) ?_)
 exact ⟨p,Sl (some ⟨c,0,none⟩) (([([66]:List UInt8),([76]:List UInt8),([78]:List UInt8),([99,97,115,101]:List UInt8),([99,111,110,106]:List UInt8),([101,108,115,101]:List UInt8),([102,97,105,108]:List UInt8),([102,97,108,115,101]:List UInt8),([105,102]:List UInt8),([105,109]:List UInt8),([105,110]:List UInt8),([108,101,116]:List UInt8),([110,105,108]:List UInt8),([110,111,116]:List UInt8),([111,102]:List UInt8),([114,101]:List UInt8),([115,116,114,105,99,116]:List UInt8),([116,104,101,110]:List UInt8),([116,114,117,101]:List UInt8)]:List Bts)) 19,rfl,Ho (Tn (Mo [20] n) q) f,r⟩
theorem R0:H5.Spec H5:=by
 intro a c m d
 refine Calls.mono (Qy (recol (see []) a) c (A3 lbr a) d) ?_
 rintro n o ⟨e,f,g,h,l⟩
 exact ⟨glue [] c a e,f,g,Ah h A2,Et E9 l⟩
def DN.At(e:Col)(a:World)(f:Bts→Option Bool):Prop:=
 ∀{c:Bts} {d:Bool},f c=some d→
  Calls Tryz.prog 99 #[Sb c] a fun g h=>∃(l:Col),g=.returned (.bool d)∧AO [] e a l h
def DN.Spec(f:Bts→Option Bool):Prop:=
 ∀(a:Col) (c:World),DN.At a c f
theorem O9(o:Nat)(l:Col)(p:World)(q:∀b,l b<10):DN.At l p (DN o):=by
 intro f r a
 rw [DN] at a
 refine A5 Tryz.func99 rfl Tryz.ntmps99 rfl fun B u aw=>Sr<|Va (.bool false)<|AA<|Sr<|Bi a fun d ah a=>Ca (Yp [] rfl) (R0 l p ah) ?_
 rintro _ ai ⟨w,ax,rfl,y,z⟩
 obtain ⟨aa,ab,rfl⟩:=AI z
 refine ⟨_,rfl,?_⟩
 refine Va (Sl aa d ab)<|AA<|Ac<|Sr<|Va (I 0)<|AA<|Ao<|CZ (fun e aj m=>∃(ac:Env) (g:Col) (c:Int),aj=ac.puts [(0,.string (bs f)),(3,.slice aa d.length ab),(4,.int .i64 c)]∧DM f d e c=some r∧AO [] w ai g m) o ?_ ?_
 exact ⟨_,w,0,Pu,a,(AO.refl [] _ _)⟩
 rintro e _ m ⟨ac,g,c,rfl,a,h⟩
 rcases e with _|e
 exact BK a
 refine have a:DZ f d (DM f d e) c=some r:=a; ?_
 obtain ⟨ay,ad⟩:∃s,s=DM f d e:=⟨_,rfl⟩
 rw [←ad,DZ] at a
 refine Ac<|Sr<|Vm<|Vm<|have ae:=Ss E9 z h; ?_
 obtain ⟨az,a0,ak⟩:=AI ae
 refine Vx (v:=I (d.length:Int)) (Run.lenSlc Ir ak)<|Vr (.bool (decide (c< (d.length:Int))))<|AA<|Cn a (fun al a=>?_) fun al a=>?_
 refine WC.skip<|Ac<|Ao<|Sr<|Vm<|Vm<|Bi a fun af am a=>?_
 obtain ⟨an,ao,a1,ag,ap,aq,ar,au,n⟩:=BX (κ:=E9) ae am
 replace n:BG g m an (ao+c.toNat*1) ag:=n
 obtain rfl:=(show ag=[Sb af] from au)
 refine Vx (Run.indexAddr Ir ap rfl aq ar)<|Vx (Run.load1 De rfl (BG.cell0 n rfl))<|Vm<|Vx (v:=.bool (af==f)) (Run.strEq rfl rfl)<|AA<|Cn a (fun av a=>?_) fun av a=>?_
 refine Sr<|Va (.bool true)<|AA<|AZ ?_
 obtain rfl:=AP a
 refine A0 (B:=B) u (BQ rfl (.tmp rfl) ?_)
 exact ⟨g,rfl,Ho (Tn (Mo [] y) h) q⟩
 refine WC.skip<|AQ<|Vm<|Vr (I (Wr (c+1)))<|Va (I (Wr (c+1)))<|AA<|⟨e,Nat.lt_succ_self e,_,g,(Wr (c+1)),Pu,(ad▸a),(Mo [] h)⟩
 refine CF<|Sr<|Va (.bool false)<|AA<|AZ ?_
 obtain rfl:=AP a
 refine A0 (B:=B) u (BQ rfl (.tmp rfl) ?_)
 exact ⟨g,rfl,Ho (Tn (Mo [] y) h) q⟩
theorem Pa(c:Nat):DN.Spec (DN c):=by
 intro a d l m e
 refine Calls.mono (O9 c (recol (see []) a) d (A3 lbr a) e) ?_
 rintro n o ⟨f,g,h⟩
 exact ⟨glue [] d a f,g,Ah h A2⟩
def Hk.At(c:Col)(a:World)(f:Bts→Int→Option Int):Prop:=
 ∀{d:Bts} {v0:Value} {e:Int} {g:Int},f d e=some g→Slc Kd.u8 c.F a v0 d→
  Calls Tryz.prog 100 #[v0,I e] a fun h l=>∃(m:Col),h=.returned (I g)∧AO [] c a m l
def Hk.Spec(f:Bts→Int→Option Int):Prop:=
 ∀(a:Col) (c:World),Hk.At a c f
theorem R1(m:Col)(p:World)(ad:∀b,m b<10):Hk.At m p Hk:=by
 intro s v0 n an a o
 rw [Hk] at a
 obtain ⟨az,a0,rfl⟩:=AI o
 refine A5 Tryz.func100 rfl Tryz.ntmps100 rfl fun B ae b4=>Sr<|Va (I 0)<|AA<|Ac<|Au (fun af u=>∃(q:Env) (f:Col) (ag:Bool),af=q.puts [(0,.slice az s.length a0),(1,.int .i64 n),(39,.bool ag)]∧FB s n ag=some an∧AO [] m p f u) ?_ ?_
 refine AQ<|Vm<|Vr (I (Wr (n+1)))<|Vm ?_
 obtain ⟨b5,b6,a1⟩:=AI o
 refine Vx (v:=I (s.length:Int)) (Run.lenSlc G8 a1)<|Vr (.bool (decide ((Wr (n+1))< (s.length:Int))))<|Vm<|Bo a (fun d a=>?_) fun d a=>?_
 refine Gm d<|Gm d<|Bi a fun w a2 a=>?_
 obtain ⟨a3,a4,b7,ao,ah,ai,aj,a5,r⟩:=BX (κ:=Kd.u8) o a2
 replace r:BG m p a3 (a4+n.toNat*1) ao:=r
 obtain rfl:=(show ao=[.int .u8 (w.toNat:Int)] from a5)
 refine Gx d (Run.indexAddr G8 ah rfl ai aj)<|Gx d (Run.load1 L1 rfl (BG.cell0 r rfl))<|Gr d (.bool ((w.toNat:Int)==((45:UInt8).toNat:Int)))<|Gm d<|Bo a (fun g a=>?_) fun g a=>?_
 refine Gm g<|Gm g<|Gr g (I (Wr (n+1)))<|Bi a fun y a6 a=>?_
 obtain ⟨a7,a8,b8,ap,aq,ar,au,a9,z⟩:=BX (κ:=Kd.u8) o a6
 replace z:BG m p a7 (a8+((Wr (n+1))).toNat*1) ap:=z
 obtain rfl:=(show ap=[.int .u8 (y.toNat:Int)] from a9)
 refine Gx g (Run.indexAddr G8 aq rfl ar au)<|Gx g (Run.load1 L1 rfl (BG.cell0 z rfl))<|Gr g (.bool ((y.toNat:Int)==((62:UInt8).toNat:Int)))<|Gp d g<|Gm d<|Bo a (fun e a=>?_) fun e a=>?_
 refine Pg e<|Pg e<|Pg e<|Pg e<|Pg e<|Pg e<|Po<|Po<|Po<|Po<|Po<|Po<|Pg e<|Gp d e<|Vp d<|AA<|⟨_,m,true,Pu,a,(AO.refl [] _ _)⟩
 refine Gm e<|Gm e<|Gx e (Run.indexAddr G8 ah rfl ai aj)<|Gx e (Run.load1 L1 rfl (BG.cell0 r rfl))<|Gr e (.bool ((w.toNat:Int)==((61:UInt8).toNat:Int)))<|Gm e<|Bo a (fun h a=>?_) fun h a=>?_
 refine Gm h<|Gm h<|Gr h (I (Wr (n+1)))<|Gx h (Run.indexAddr G8 aq rfl ar au)<|Gx h (Run.load1 L1 rfl (BG.cell0 z rfl))<|Gr h (.bool ((y.toNat:Int)==((61:UInt8).toNat:Int)))<|Gp e h<|Gp d e<|Vp d<|AA<|⟨_,m,((y.toNat:Int)==((61:UInt8).toNat:Int)),Pu,a,(AO.refl [] _ _)⟩
 refine Pg h<|Pg h<|Pg h<|Pg h<|Pg h<|Pg h<|Gp e h<|Gp d e<|Vp d<|AA<|⟨_,m,false,Pu,a,(AO.refl [] _ _)⟩
 refine Pg g<|Pg g<|Pg g<|Pg g<|Pg g<|Pg g<|Gp d g<|Gm d<|Gm rfl<|Gm rfl<|Gx rfl (Run.indexAddr G8 ah rfl ai aj)<|Gx rfl (Run.load1 L1 rfl (BG.cell0 r rfl))<|Gr rfl (.bool ((w.toNat:Int)==((61:UInt8).toNat:Int)))<|Gm rfl<|Bo a (fun l a=>?_) fun l a=>?_
 refine Gm l<|Gm l<|Gr l (I (Wr (n+1)))<|Bi a fun aa ba a=>?_
 obtain ⟨bb,bc,b9,av,bd,be,bf,bg,ak⟩:=BX (κ:=Kd.u8) o ba
 replace ak:BG m p bb (bc+((Wr (n+1))).toNat*1) av:=ak
 obtain rfl:=(show av=[.int .u8 (aa.toNat:Int)] from bg)
 refine Gx l (Run.indexAddr G8 bd rfl be bf)<|Gx l (Run.load1 L1 rfl (BG.cell0 ak rfl))<|Gr l (.bool ((aa.toNat:Int)==((61:UInt8).toNat:Int)))<|Gp rfl l<|Gr d (.bool ((aa.toNat:Int)==((61:UInt8).toNat:Int)))<|Vp d<|AA<|⟨_,m,((aa.toNat:Int)==((61:UInt8).toNat:Int)),Pu,a,(AO.refl [] _ _)⟩
 refine Pg l<|Pg l<|Pg l<|Pg l<|Pg l<|Pg l<|Gp rfl l<|Gr d (.bool false)<|Vp d<|AA<|⟨_,m,false,Pu,a,(AO.refl [] _ _)⟩
 refine Pg d<|Pg d<|Pg d<|Pg d<|Pg d<|Pg d<|Po<|Po<|Po<|Po<|Po<|Po<|Pg d<|Pg d<|Po<|Po<|Po<|Po<|Po<|Po<|Po<|Po<|Po<|Po<|Po<|Po<|Po<|Pg d<|Vp d<|AA<|⟨_,m,false,Pu,a,(AO.refl [] _ _)⟩
 rintro _ u ⟨q,f,ag,rfl,a,ab⟩
 rw [FB] at a
 refine Cn a (fun bh a=>?_) fun bh a=>?_
 refine Sr<|Va (I 2)<|AA<|AZ ?_
 obtain rfl:=AP a
 refine A0 (B:=B) ae (BQ rfl (.tmp rfl) ?_)
 exact ⟨f,rfl,Ho (Mo [] ab) ad⟩
 refine WC.skip<|Ac<|Sr<|Vm<|Vm<|Bi a fun c bi a=>have bj:=Ss Kd.u8 o ab; ?_
 obtain ⟨bk,bl,ca,aw,bm,bn,bo,bp,al⟩:=BX (κ:=Kd.u8) bj bi
 replace al:BG f u bk (bl+n.toNat*1) aw:=al
 obtain rfl:=(show aw=[.int .u8 (c.toNat:Int)] from bp)
 refine Vx (Run.indexAddr G8 bm rfl bn bo)<|Vx (Run.load1 L1 rfl (BG.cell0 al rfl))<|AA<|Ao<|Au (fun af ax=>∃(q:Env) (ac:Col) (am:Bool),af=q.puts [(44,.bool am)]∧Da am=some an∧AO [] f u ac ax) ?_ ?_
 refine Sr<|Vr (.bool ((c.toNat:Int)==((40:UInt8).toNat:Int)))<|Va (.bool ((c.toNat:Int)==((40:UInt8).toNat:Int)))<|AA<|Cn a (fun bq a=>?_) fun bq a=>?_
 refine WC.skip<|⟨_,f,((c.toNat:Int)==((40:UInt8).toNat:Int)),Pu,a,(AO.refl [] _ _)⟩
 refine Sr<|Vr (.bool ((c.toNat:Int)==((41:UInt8).toNat:Int)))<|Va (.bool ((c.toNat:Int)==((41:UInt8).toNat:Int)))<|AA<|Cn a (fun br a=>?_) fun br a=>?_
 refine WC.skip<|⟨_,f,((c.toNat:Int)==((41:UInt8).toNat:Int)),Pu,a,(AO.refl [] _ _)⟩
 refine Sr<|Vr (.bool ((c.toNat:Int)==((44:UInt8).toNat:Int)))<|Va (.bool ((c.toNat:Int)==((44:UInt8).toNat:Int)))<|AA<|Cn a (fun bt a=>?_) fun bt a=>?_
 refine WC.skip<|⟨_,f,((c.toNat:Int)==((44:UInt8).toNat:Int)),Pu,a,(AO.refl [] _ _)⟩
 refine Sr<|Vr (.bool ((c.toNat:Int)==((58:UInt8).toNat:Int)))<|Va (.bool ((c.toNat:Int)==((58:UInt8).toNat:Int)))<|AA<|Cn a (fun bu a=>?_) fun bu a=>?_
 refine WC.skip<|⟨_,f,((c.toNat:Int)==((58:UInt8).toNat:Int)),Pu,a,(AO.refl [] _ _)⟩
 refine Sr<|Vr (.bool ((c.toNat:Int)==((59:UInt8).toNat:Int)))<|Va (.bool ((c.toNat:Int)==((59:UInt8).toNat:Int)))<|AA<|Cn a (fun bv a=>?_) fun bv a=>?_
 refine WC.skip<|⟨_,f,((c.toNat:Int)==((59:UInt8).toNat:Int)),Pu,a,(AO.refl [] _ _)⟩
 refine Sr<|Vr (.bool ((c.toNat:Int)==((61:UInt8).toNat:Int)))<|Va (.bool ((c.toNat:Int)==((61:UInt8).toNat:Int)))<|AA<|Cn a (fun bw a=>?_) fun bw a=>?_
 refine WC.skip<|⟨_,f,((c.toNat:Int)==((61:UInt8).toNat:Int)),Pu,a,(AO.refl [] _ _)⟩
 refine Sr<|Vr (.bool ((c.toNat:Int)==((43:UInt8).toNat:Int)))<|Va (.bool ((c.toNat:Int)==((43:UInt8).toNat:Int)))<|AA<|Cn a (fun bx a=>?_) fun bx a=>?_
 refine WC.skip<|⟨_,f,((c.toNat:Int)==((43:UInt8).toNat:Int)),Pu,a,(AO.refl [] _ _)⟩
 refine Sr<|Vr (.bool ((c.toNat:Int)==((45:UInt8).toNat:Int)))<|Va (.bool ((c.toNat:Int)==((45:UInt8).toNat:Int)))<|AA<|Cn a (fun bz a=>?_) fun bz a=>?_
 refine WC.skip<|⟨_,f,((c.toNat:Int)==((45:UInt8).toNat:Int)),Pu,a,(AO.refl [] _ _)⟩
 refine Sr<|Vr (.bool ((c.toNat:Int)==((42:UInt8).toNat:Int)))<|Va (.bool ((c.toNat:Int)==((42:UInt8).toNat:Int)))<|AA<|Cn a (fun b0 a=>?_) fun b0 a=>?_
 refine WC.skip<|⟨_,f,((c.toNat:Int)==((42:UInt8).toNat:Int)),Pu,a,(AO.refl [] _ _)⟩
 refine Sr<|Vr (.bool ((c.toNat:Int)==((47:UInt8).toNat:Int)))<|Va (.bool ((c.toNat:Int)==((47:UInt8).toNat:Int)))<|AA<|Cn a (fun b1 a=>?_) fun b1 a=>?_
 refine WC.skip<|⟨_,f,((c.toNat:Int)==((47:UInt8).toNat:Int)),Pu,a,(AO.refl [] _ _)⟩
 refine Sr<|Vr (.bool ((c.toNat:Int)==((60:UInt8).toNat:Int)))<|Va (.bool ((c.toNat:Int)==((60:UInt8).toNat:Int)))<|AA<|Cn a (fun b2 a=>?_) fun b2 a=>?_
 refine WC.skip<|⟨_,f,((c.toNat:Int)==((60:UInt8).toNat:Int)),Pu,a,(AO.refl [] _ _)⟩
 refine AQ<|Vr (.bool ((c.toNat:Int)==((124:UInt8).toNat:Int)))<|Va (.bool ((c.toNat:Int)==((124:UInt8).toNat:Int)))<|AA<|⟨_,f,((c.toNat:Int)==((124:UInt8).toNat:Int)),Pu,a,(AO.refl [] _ _)⟩
 rintro _ ax ⟨q,ac,am,rfl,a,ay⟩
 rw [Da] at a
 refine Cn a (fun b3 a=>?_) fun b3 a=>?_
 refine Sr<|Va (I 1)<|AA<|AZ ?_
 obtain rfl:=AP a
 refine A0 (B:=B) ae (BQ rfl (.tmp rfl) ?_)
 exact ⟨ac,rfl,Ho (Tn (Mo [] ab) ay) ad⟩
 refine WC.skip<|Sr<|Va (I 0)<|AA<|AZ ?_
 obtain rfl:=AP a
 refine A0 (B:=B) ae (BQ rfl (.tmp rfl) ?_)
 exact ⟨ac,rfl,Ho (Tn (Mo [] ab) ay) ad⟩
theorem Sv:Hk.Spec Hk:=by
 intro a c l v0 m n d e
 refine Calls.mono (R1 (recol (see []) a) c (A3 lbr a) d (DC Kd.u8 e [])) ?_
 rintro o p ⟨f,g,h⟩
 exact ⟨glue [] c a f,g,Ah h A2⟩
def HC.At(d:Col)(a:World)(f:Bts→Int→Option (AX×Bool)):Prop:=
 ∀{e:Bts} {v0:Value} {g:Int} {c:AX×Bool},f e g=some c→Slc Kd.u8 d.F a v0 e→
  Calls Tryz.prog 72 #[v0,I g] a fun n h=>∃(l:Col) (m:List Value),n=.returned (.tuple #[.agg m.toArray,.bool c.2])∧AO [] d a l h∧AW.rep l.F h m c.1
def HC.Spec(f:Bts→Int→Option (AX×Bool)):Prop:=
 ∀(a:Col) (c:World),HC.At a c f
theorem Sw(w:Nat)(aw:Col)(bz:World)(ag:∀b,aw b<10):HC.At aw bz (HC w):=by
 intro y v0 c ax a bd
 rw [HC] at a
 obtain ⟨ah,ai,rfl⟩:=AI bd
 refine A5 Tryz.func72 rfl Tryz.ntmps72 rfl fun B aj ee=>Sr<|Ef (AY aw 20 F0 rfl fun b0 b1 ay ak ab=>?_)
 refine Va (.bool false)<|AA<|Sr<|Vm<|Vm<|have be:=Ss Kd.u8 bd ab;Bi a fun h b2 a=>Ca (AAQ [Sl ah y ai,I c] rfl) (T6 w b0 b1 b2 be) ?_
 rintro _ ef ⟨b3,rfl,p⟩
 refine ⟨_,rfl,?_⟩
 refine Va (I h)<|AA<|Sr<|Vm<|Vm<|Vm<|Vm<|Vr (I (Wr (c+h)))<|Bi a fun d bf a=>have al:=Ss Kd.u8 be p; ?_
 obtain ⟨bg,bh,b4,b5,az⟩:=Te al bf
 obtain ⟨eg,bi⟩:∃s,s=Value.slice (if bh=c.toNat then bg else bg.map (·.add (c.toNat*Kd.u8.size))) (((Wr (c+h))).toNat - c.toNat) (bh - c.toNat):=⟨_,rfl⟩
 rw [←bi] at az
 obtain ⟨b6,b7,b8,_⟩:=KT bf
 obtain ⟨b9,ca,rfl⟩:=AI az
 refine Vx (v:=.slice b9 d.length ca) (by rw [bi];exact Run.sliceSlc G8 b4 ⟨_,rfl⟩ ⟨_,rfl⟩ b6 b7 b8 b5)<|Vx (v:=Sb d) (Run.bytesStr Ok rfl az)<|Vm<|Vx (v:=.agg [I 0,Sb d,Cx (((0,0):Nat×Nat)),I c].toArray) (Bp F0 T0 rfl (.cons rfl rfl rfl (.cons rfl rfl rfl .nil)))<|Ef (AY b3 21 F0 rfl fun am eh an cb l=>?_)
 refine Eu (St GC cb rfl rfl rfl rfl fun a0 ao m=>?_)
 refine AA<|Ac<|Ao<|Au (fun ac ad=>∃(q:Env) (r:Col) (x63:Bool),ac=q.puts [(0,.slice ah y.length ai),(1,.int .i64 c),(4,.pointer (some ⟨ay,0,none⟩)),(6,.int .i64 h),(7,.pointer (some ⟨an,0,none⟩)),(22,.bool x63)]∧HU w y c h d x63=some ax∧AO [] am a0 r ad) ?_ ?_
 refine AQ<|Vm<|Vr (.bool (decide (h>0)))<|Vm<|Bo a (fun f a=>?_) fun f a=>?_
 refine Gm f<|Gm f<|Bi a fun bj cc a=>have cd:=K2 Kd.u8 al l m; ?_
 obtain ⟨cf,cg,ei,bk,ch,ci,cj,ck,a1⟩:=BX (κ:=Kd.u8) cd cc
 replace a1:BG am a0 cf (cg+c.toNat*1) bk:=a1
 obtain rfl:=(show bk=[.int .u8 (bj.toNat:Int)] from ck)
 refine Gx f (Run.indexAddr G8 ch rfl ci cj)<|Gx f (Run.load1 L1 rfl (BG.cell0 a1 rfl))<|Bi a fun bl cl a=>Bx (.guard (t:=true) (b:=true) rfl rfl rfl rfl (Cb f)) rfl rfl (XN [.int .u8 (bj.toNat:Int)] rfl)<|Calls.mono (OI am a0 cl) ?_
 rintro _ ej ⟨cm,rfl,cn⟩
 refine ⟨_,rfl,?_⟩
 refine Vp f<|Va (.bool bl)<|AA<|⟨_,cm,bl,Pu,a,(Mo [] cn)⟩
 refine Pg f<|Pg f<|Pg f<|Pg f<|Pg f<|Vp f<|Va (.bool false)<|AA<|⟨_,am,false,Pu,a,(AO.refl [] _ _)⟩
 rintro _ ad ⟨q,r,x63,rfl,a,e⟩
 rw [HU] at a
 refine Cn a (fun co a=>?_) fun co a=>?_
 refine Sr<|Vx (Run.fieldAddr Eo rfl)<|have bm:=Bs ao e;Vx (Run.load1 De rfl (Bk.cell bm rfl))<|Bi a fun n cq a=>Ca (VX [Sb d] rfl) (L4 w r ad cq) ?_
 rintro _ ek ⟨cr,el,rfl,a2,ct⟩
 obtain rfl:=GW ct
 refine ⟨_,rfl,?_⟩
 refine Vm<|Vr (.agg [I n.1.re,I n.1.im].toArray)<|Vr (I n.2)<|Ef (AY cr 22 ID rfl fun cu em en cv a3=>?_)
 refine Eu (St IU cv rfl rfl rfl rfl fun eo cw a4=>?_)
 refine Va (I n.2)<|AA<|Sr<|Vx (Run.fieldAddr0 Jq rfl)<|have cx:=Y3 bm a2 a3 a4;Eu (St Ty cx rfl rfl rfl rfl fun cy cz a5=>?_)
 refine AA<|Sr<|have c0:=Bs cw a5;Vx (Run.loadN I2 rfl rfl (Bk.part c0 0 [I n.1.re,I n.1.im] rfl))<|Bi a fun ap c1 a=>Ca (VY [.agg [I n.1.re,I n.1.im].toArray] rfl) (L5 cu cy c1 (Ei (x:=n.1))) ?_
 rintro _ ep ⟨c2,rfl,a6⟩
 refine ⟨_,rfl,?_⟩
 refine Vx (Run.fieldAddr TT rfl)<|have c3:=Bs cz a6;Eu (St AAc c3 rfl rfl rfl rfl fun eq c4 bn=>?_)
 refine AA<|Sr<|Vx (Run.loadN HW rfl rfl (Bk.part c4 0 [I 2,Sb d,Cx ap,I c] rfl))<|Vm<|Vr (.bool (n.2==0))<|have c5:=Y2 (Y4 (Y4 ak p l m e) a2 a3 a4 a5) a6 bn;Eu (St GC c5 rfl rfl rfl rfl fun er c6 c7=>?_)
 refine Va (.bool (n.2==0))<|AA<|AZ ?_
 obtain rfl:=AP a
 refine A0 (B:=B) aj (D4 rfl (.agg HW rfl rfl (Bk.part c6 0 [I 2,Sb d,Cx ap,I c] rfl)) (.tmp rfl) ?_)
 exact ⟨c2,[I 2,Sb d,Cx ap,I c],rfl,Ho (T3 (T4 (T4 (Mo [20,21,22] ab) p l m e) a2 a3 a4 a5) a6 bn c7) ag,(E3 (x:=(AX.mk 2 d ap c)))⟩
 refine Au (fun ac ae=>∃(q:Env) (z:Col) (a7:Bool),ac=q.puts [(0,.slice ah y.length ai),(1,.int .i64 c),(4,.pointer (some ⟨ay,0,none⟩)),(6,.int .i64 h),(7,.pointer (some ⟨an,0,none⟩)),(45,.bool a7)]∧HT w y c h d a7=some ax∧AO [] r ad z ae) ?_ ?_
 refine AQ<|Vm<|Vr (.bool (decide (h>0)))<|Vm<|Bo a (fun g a=>?_) fun g a=>?_
 refine Gm g<|Gm g<|Bi a fun aq c8 a=>have c9:=K3 Kd.u8 al l m e; ?_
 obtain ⟨da,db,es,bo,dc,de,df,dg,a8⟩:=BX (κ:=Kd.u8) c9 c8
 replace a8:BG r ad da (db+c.toNat*1) bo:=a8
 obtain rfl:=(show bo=[.int .u8 (aq.toNat:Int)] from dg)
 refine Gx g (Run.indexAddr G8 dc rfl de df)<|Gx g (Run.load1 L1 rfl (BG.cell0 a8 rfl))<|Gr g (.bool ((aq.toNat:Int)==((95:UInt8).toNat:Int)))<|Vp g<|Va (.bool ((aq.toNat:Int)==((95:UInt8).toNat:Int)))<|AA<|⟨_,r,((aq.toNat:Int)==((95:UInt8).toNat:Int)),Pu,a,(AO.refl [] _ _)⟩
 refine Pg g<|Pg g<|Pg g<|Pg g<|Pg g<|Vp g<|Va (.bool false)<|AA<|⟨_,r,false,Pu,a,(AO.refl [] _ _)⟩
 rintro _ ae ⟨q,z,a7,rfl,a,o⟩
 rw [HT] at a
 refine Cn a (fun dh a=>?_) fun dh a=>?_
 refine Sr<|have di:=Y2 ao e o;Vx (Run.loadN HW rfl rfl (Bk.part di 0 [I 0,Sb d,Cx (((0,0):Nat×Nat)),I c] rfl))<|have dj:=Bs (Y4 ak p l m e) o;Eu (St GC dj rfl rfl rfl rfl fun et dk dl=>?_)
 refine Va (.bool false)<|AA<|AZ ?_
 obtain rfl:=AP a
 refine A0 (B:=B) aj (D4 rfl (.agg HW rfl rfl (Bk.part dk 0 [I 0,Sb d,Cx (((0,0):Nat×Nat)),I c] rfl)) (.tmp rfl) ?_)
 exact ⟨z,[I 0,Sb d,Cx (((0,0):Nat×Nat)),I c],rfl,Ho (T2 (T4 (Mo [20,21] ab) p l m e) o dl) ag,(E3 (x:=(AX.mk 0 d ((0,0):Nat×Nat) c)))⟩
 refine Sr<|Vm<|Vr (.bool (decide (h>0)))<|Va (.bool (decide (h>0)))<|AA<|Cn a (fun dm a=>?_) fun dm a=>?_
 refine Au (fun ac a9=>∃(q:Env) (ar:Col) (u:Int),ac=q.puts [(4,.pointer (some ⟨ay,0,none⟩)),(7,.pointer (some ⟨an,0,none⟩))]∧LZ c d u=some ax∧AO [21] z ae ar a9∧Bk ar a9 21 an [I u,Sb d,Cx (((0,0):Nat×Nat)),I c] 159) ?_ ?_
 refine Sr<|Vx (Run.fieldAddr Eo rfl)<|have ba:=Y2 ao e o;Vx (Run.load1 De rfl (Bk.cell ba rfl))<|Bi a fun eu dn a=>Ca (AAR [Sb d] rfl) (Pa w z ae dn) ?_
 rintro _ ew ⟨bp,rfl,au⟩
 refine ⟨_,rfl,?_⟩
 refine AA<|Cn a (fun dp a=>?_) fun dp a=>?_
 refine AQ<|Vx (Run.fieldAddr0 Jq rfl)<|have dq:=Bs ba au;Eu (St Ty dq rfl rfl rfl rfl fun ex dr ds=>?_)
 refine AA<|⟨_,bp,1,Pu,a,(Tn (Mo [21] au) ds),dr⟩
 refine WC.skip<|have dt:=Bs ba au;⟨_,bp,0,Pu,a,(Mo [21] au),dt⟩
 rintro _ a9 ⟨q,ar,u,rfl,a,bq,du⟩
 rw [LZ] at a
 refine Sr<|Vx (Run.loadN HW rfl rfl (Bk.part du 0 [I u,Sb d,Cx (((0,0):Nat×Nat)),I c] rfl))<|have dv:=Y2 (Y4 ak p l m e) o bq;Eu (St GC dv rfl rfl rfl rfl fun ey dw dx=>?_)
 refine Va (.bool true)<|AA<|AZ ?_
 obtain rfl:=AP a
 refine A0 (B:=B) aj (D4 rfl (.agg HW rfl rfl (Bk.part dw 0 [I u,Sb d,Cx (((0,0):Nat×Nat)),I c] rfl)) (.tmp rfl) ?_)
 exact ⟨ar,[I u,Sb d,Cx (((0,0):Nat×Nat)),I c],rfl,Ho (T3 (T4 (Mo [20,21] ab) p l m e) o bq dx) ag,(E3 (x:=(AX.mk u d ((0,0):Nat×Nat) c)))⟩
 refine WC.skip<|Sr<|Vm<|Vm<|have br:=K4 Kd.u8 al l m e o;Bi a fun af dy a=>Ca (Yf [Sl ah y ai,I c] rfl) (Sv z ae dy br) ?_
 rintro _ ez ⟨dz,rfl,av⟩
 refine ⟨_,rfl,?_⟩
 refine Va (I af)<|AA<|Sr<|Vx (Run.fieldAddr0 Jq rfl)<|have d0:=Y3 ao e o av;Eu (St Ty d0 rfl rfl rfl rfl fun e0 d1 bb=>?_)
 refine AA<|Sr<|Vm<|Vm<|Vm<|Vm<|Vr (I (Wr (c+af)))<|Bi a fun aa bt a=>have d2:=K2 Kd.u8 br av bb; ?_
 obtain ⟨bu,bv,d3,d4,bc⟩:=Te d2 bt
 obtain ⟨e1,bw⟩:∃s,s=Value.slice (if bv=c.toNat then bu else bu.map (·.add (c.toNat*Kd.u8.size))) (((Wr (c+af))).toNat - c.toNat) (bv - c.toNat):=⟨_,rfl⟩
 rw [←bw] at bc
 obtain ⟨d5,d6,d7,_⟩:=KT bt
 obtain ⟨d8,d9,rfl⟩:=AI bc
 refine Vx (v:=.slice d8 aa.length d9) (by rw [bw];exact Run.sliceSlc G8 d3 ⟨_,rfl⟩ ⟨_,rfl⟩ d5 d6 d7 d4)<|Vx (v:=Sb aa) (Run.bytesStr Ok rfl bc)<|Vx (Run.fieldAddr Eo rfl)<|Eu (St WB d1 rfl rfl rfl rfl fun e2 ea bx=>?_)
 refine AA<|Sr<|Vx (Run.loadN HW rfl rfl (Bk.part ea 0 [I 3,Sb aa,Cx (((0,0):Nat×Nat)),I c] rfl))<|Vm<|Vr (.bool (decide (af>0)))<|have eb:=Y4 (Y4 ak p l m e) o av bb bx;Eu (St GC eb rfl rfl rfl rfl fun e3 ec ed=>?_)
 refine Va (.bool (decide (af>0)))<|AA<|AZ ?_
 obtain rfl:=AP a
 refine A0 (B:=B) aj (D4 rfl (.agg HW rfl rfl (Bk.part ec 0 [I 3,Sb aa,Cx (((0,0):Nat×Nat)),I c] rfl)) (.tmp rfl) ?_)
 exact ⟨dz,[I 3,Sb aa,Cx (((0,0):Nat×Nat)),I c],rfl,Ho (Tn (T4 (T4 (Mo [20,21] ab) p l m e) o av bb bx) ed) ag,(E3 (x:=(AX.mk 3 aa ((0,0):Nat×Nat) c)))⟩
theorem T8(c:Nat):HC.Spec (HC c):=by
 intro a d o v0 p q e f
 refine Calls.mono (Sw c (recol (see []) a) d (A3 lbr a) e (DC Kd.u8 f [])) ?_
 rintro r s ⟨g,h,l,m,n⟩
 exact ⟨glue [] d a g,h,l,Ah m A2,BA AW n⟩
def FR.At(d:Col)(a:World)(f:Bts→Option ((List AX)×Int)):Prop:=
 ∀{e:Bts} {v0:Value} {c:(List AX)×Int},f e=some c→Slc Kd.u8 d.F a v0 e→
  Calls Tryz.prog 47 #[v0] a fun m g=>∃(h:Col) (l:Value),m=.returned (.tuple #[l,I c.2])∧AO [] d a h g∧Slc AW h.F g l c.1
def FR.Spec(f:Bts→Option ((List AX)×Int)):Prop:=
 ∀(a:Col) (c:World),FR.At a c f
theorem Qz(n:Nat)(ae:Col)(az:World)(a0:∀b,ae b<10):FR.At ae az (FR n):=by
 intro d v0 z a a1
 rw [FR] at a
 obtain ⟨af,ag,rfl⟩:=AI a1
 refine A5 Tryz.func47 rfl Tryz.ntmps47 rfl fun B a2 c4=>Sr<|Va (.slice none 0 0)<|Va (I 0)<|AA<|Sr<|Va (.slice none 0 0)<|AA<|Sr<|Va (I 0)<|AA<|Ac<|Ao<|CZ (fun h aa ab=>∃(o:Env) (u:Col) (e:(List AX)) (q:Option Addr) (r:Nat) (f:Int),aa=o.puts [(0,.slice af d.length ag),(4,.slice q e.length r),(5,.int .i64 f)]∧DO n d h e f=some z∧AO [20,22] ae az u ab∧Own AW 159 u ab 22 (Sl q e r) e) n ?_ ?_
 exact ⟨_,ae,([]:List AX),none,0,0,Pu,a,(AO.refl [20,22] _ _),Own.nil⟩
 rintro h _ ab ⟨o,u,e,q,r,f,rfl,a,w,ah⟩
 rcases h with _|h
 exact BK a
 refine have a:Ea n d (DO n d h) e f=some z:=a; ?_
 obtain ⟨ac,ai⟩:∃s,s=DO n d h:=⟨_,rfl⟩
 rw [←ai,Ea] at a
 refine Ac<|Sr<|Vm<|Vm<|have ad:=Ss Kd.u8 a1 w; ?_
 obtain ⟨c5,c6,bo⟩:=AI ad
 refine Vx (v:=I (d.length:Int)) (Run.lenSlc G8 bo)<|Vr (.bool (decide (f< (d.length:Int))))<|AA<|Cn a (fun bp a=>?_) fun bp a=>?_
 refine WC.skip<|Ao<|Ac<|Sr<|Vm<|Vm<|Bi a fun ao bq a=>?_
 obtain ⟨br,bt,c7,a3,a4,a5,a6,bu,aj⟩:=BX (κ:=Kd.u8) ad bq
 replace aj:BG u ab br (bt+f.toNat*1) a3:=aj
 obtain rfl:=(show a3=[.int .u8 (ao.toNat:Int)] from bu)
 refine Vx (Run.indexAddr G8 a4 rfl a5 a6)<|Vx (Run.load1 L1 rfl (BG.cell0 aj rfl))<|Bi a fun c8 bv a=>Ca (AAJ [.int .u8 (ao.toNat:Int)] rfl) (Ry u ab bv) ?_
 rintro _ a7 ⟨ak,rfl,m⟩
 refine ⟨_,rfl,?_⟩
 refine AA<|Cn a (fun bw a=>?_) fun bw a=>?_
 refine Sr<|Vm<|Vr (I (Wr (f+1)))<|Va (I (Wr (f+1)))<|AA<|CF<|have bx:=Os ah m;⟨h,Nat.lt_succ_self h,_,ak,e,q,r,(Wr (f+1)),Pu,(ai▸a),(Tn (Mo [20,22] w) m),bx⟩
 refine WC.skip<|Ac<|Sr<|Vm<|Vm<|Vx (Run.indexAddr G8 a4 rfl a5 a6)<|have bz:=Es aj m;Vx (Run.load1 L1 rfl (BG.cell0 bz rfl))<|Vr (.bool ((ao.toNat:Int)==((35:UInt8).toNat:Int)))<|AA<|Cn a (fun b0 a=>?_) fun b0 a=>?_
 refine Ac<|Ao<|CZ (fun p aa al=>∃(o:Env) (y:Col) (l:Int),aa=o.puts [(0,.slice af d.length ag),(4,.slice q e.length r),(5,.int .i64 l)]∧EJ d e ac p l=some z∧AO [] ak a7 y al) n ?_ ?_
 exact ⟨_,ak,f,Pu,a,(AO.refl [] _ _)⟩
 rintro p _ al ⟨o,y,l,rfl,a,am⟩
 rcases p with _|p
 exact BK a
 refine have a:EZ d e ac (EJ d e ac p) l=some z:=a; ?_
 obtain ⟨b1,a8⟩:∃s,s=EJ d e ac p:=⟨_,rfl⟩
 rw [←a8,EZ] at a
 refine Ac<|Au (fun aa a9=>∃(o:Env) (an:Col) (ap:Bool),aa=o.puts [(0,.slice af d.length ag),(4,.slice q e.length r),(5,.int .i64 l),(34,.bool ap)]∧Gl e ac l b1 ap=some z∧AO [] y al an a9) ?_ ?_
 refine AQ<|Vm<|Vm<|have ba:=K2 Kd.u8 ad m am; ?_
 obtain ⟨c9,da,b2⟩:=AI ba
 refine Vx (v:=I (d.length:Int)) (Run.lenSlc G8 b2)<|Vr (.bool (decide (l< (d.length:Int))))<|Vm<|Bo a (fun g a=>?_) fun g a=>?_
 refine Gm g<|Gm g<|Bi a fun aq b3 a=>?_
 obtain ⟨b4,b5,db,bb,b6,b7,b8,b9,ar⟩:=BX (κ:=Kd.u8) ba b3
 replace ar:BG y al b4 (b5+l.toNat*1) bb:=ar
 obtain rfl:=(show bb=[.int .u8 (aq.toNat:Int)] from b9)
 refine Gx g (Run.indexAddr G8 b6 rfl b7 b8)<|Gx g (Run.load1 L1 rfl (BG.cell0 ar rfl))<|Gr g (.bool ((aq.toNat:Int) != ((10:UInt8).toNat:Int)))<|Vp g<|AA<|⟨_,y,((aq.toNat:Int) != ((10:UInt8).toNat:Int)),Pu,a,(AO.refl [] _ _)⟩
 refine Pg g<|Pg g<|Pg g<|Pg g<|Pg g<|Vp g<|AA<|⟨_,y,false,Pu,a,(AO.refl [] _ _)⟩
 rintro _ a9 ⟨o,an,ap,rfl,a,au⟩
 rw [Gl] at a
 refine Cn a (fun ca a=>?_) fun ca a=>?_
 refine WC.skip<|Ao<|AQ<|Vm<|Vr (I (Wr (l+1)))<|Va (I (Wr (l+1)))<|AA<|⟨p,Nat.lt_succ_self p,_,an,(Wr (l+1)),Pu,(a8▸a),(Tn (Mo [] am) au)⟩
 refine CF<|CF<|have cb:=Os (Os (Os ah m) am) au;⟨h,Nat.lt_succ_self h,_,an,e,q,r,l,Pu,(ai▸a),(T3 (Mo [20,22] w) m am au),cb⟩
 refine WC.skip<|Sr<|Vm<|Vm<|have cc:=Ss Kd.u8 ad m;Bi a fun c cd a=>Ca (AAK [Sl af d ag,I f] rfl) (T8 n ak a7 cd cc) ?_
 rintro _ dc ⟨cf,de,rfl,av,cg⟩
 obtain rfl:=Cq cg
 refine ⟨_,rfl,?_⟩
 refine Vm<|Vr (.agg [I c.1.kind,Sb c.1.text,Cx c.1.num,I c.1.at_].toArray)<|Vr (.bool c.2)<|Ef (AY cf 20 F0 rfl fun bc df dg ch aw=>?_)
 refine Eu (St GC ch rfl rfl rfl rfl fun dh bd ax=>?_)
 refine Va (.bool c.2)<|AA<|Ac<|Sr<|Vm<|Vr (.bool (!c.2))<|AA<|Cn a (fun ci a=>?_) fun ci a=>?_
 refine Sr<|Vm<|Va (.slice none 0 0)<|Va (I f)<|AA<|AZ ?_
 obtain rfl:=AP a
 refine A0 (B:=B) a2 (D4 rfl (.tmp rfl) (.tmp rfl) ?_)
 exact ⟨bc,.slice none 0 0,rfl,Ho (T4 (Mo [20,22] w) m av aw ax) a0,Cd⟩
 refine WC.skip<|Sr<|Vm<|Vx (Run.loadN HW rfl rfl (Bk.part bd 0 [I c.1.kind,Sb c.1.text,Cx c.1.num,I c.1.at_] rfl))<|Ef (E1 (cs:=[I c.1.kind,Sb c.1.text,Cx c.1.num,I c.1.at_]) bc 21 [[I c.1.kind,Sb c.1.text,Cx c.1.num,I c.1.at_]] T5 F0 rfl rfl (.cons rfl rfl rfl .nil) rfl fun cj ck cl cm ay=>?_)
 refine have cn:Own AW 159 cj ck 21 (.slice (some ⟨cl,0,none⟩) 1 1) ([c.1]:List AX):=Own.lit (css:=[[I c.1.kind,Sb c.1.text,Cx c.1.num,I c.1.at_]]) cm rfl rfl rfl (Aa (E3 (x:=c.1)) Ba) (A9 rfl Gg) rfl;have co:=Os (Os (Os (Os (Os ah m) av) aw) ax) ay;Bi a fun di be a=>Ef (Ey (κ:=AW) rfl rfl co dcd V9 (F3 cn) (JP be) (Js be) fun dj cq dk bf bg=>?_)
 obtain ⟨bh,bi,rfl⟩:=Own.len bf
 refine Va (Sl bh ((e++([c.1]:List AX))) bi)<|AA<|AQ<|Vm<|Vx (Run.fieldAddr Eo rfl)<|have cr:=Y2 bd ay bg;Vx (Run.load1 De rfl (Bk.cell cr rfl))<|Vx (v:=I (c.1.text.length:Int)) (Run.lenStr IS rfl)<|Vr (I (Wr (f+(c.1.text.length:Int))))<|Va (I (Wr (f+(c.1.text.length:Int))))<|AA<|⟨h,Nat.lt_succ_self h,_,cq,(e++([c.1]:List AX)),bh,bi,(Wr (f+(c.1.text.length:Int))),Pu,(ai▸a),(T2 (T4 (Mo [20,22] w) m av aw ax) ay bg),bf⟩
 refine CF<|Sr<|Vm<|Vm ?_
 obtain ⟨dl,dm,ct⟩:=AI ad
 refine Vx (v:=I (d.length:Int)) (Run.lenSlc G8 ct)<|Vx (v:=.agg [I 4,Sb ([]:List UInt8),Cx (((0,0):Nat×Nat)),I (d.length:Int)].toArray) (Bp F0 T0 rfl (.cons rfl rfl rfl (.cons rfl rfl rfl .nil)))<|Ef (E1 (cs:=[I 4,Sb ([]:List UInt8),Cx (((0,0):Nat×Nat)),I (d.length:Int)]) u 23 [[I 4,Sb ([]:List UInt8),Cx (((0,0):Nat×Nat)),I (d.length:Int)]] T5 F0 rfl rfl (.cons rfl rfl rfl .nil) rfl fun cu cv cw cx bj=>?_)
 refine have cy:Own AW 159 cu cv 23 (.slice (some ⟨cw,0,none⟩) 1 1) ([(AX.mk 4 ([]:List UInt8) ((0,0):Nat×Nat) (d.length:Int))]:List AX):=Own.lit (css:=[[I 4,Sb ([]:List UInt8),Cx (((0,0):Nat×Nat)),I (d.length:Int)]]) cx rfl rfl rfl (Aa (E3 (x:=(AX.mk 4 ([]:List UInt8) ((0,0):Nat×Nat) (d.length:Int)))) Ba) (A9 rfl Gg) rfl;have cz:=Os ah bj;Bi a fun dn bk a=>Ef (Ey (κ:=AW) rfl rfl cz dcd V9 (F3 cy) (JP bk) (Js bk) fun dp dq dr bl c0=>?_)
 obtain ⟨bm,bn,rfl⟩:=Own.len bl
 refine Va (Sl bm ((e++([(AX.mk 4 ([]:List UInt8) ((0,0):Nat×Nat) (d.length:Int))]:List AX))) bn)<|Va (I (-1:Int))<|AA<|AZ ?_
 obtain ⟨c1,c2,c3⟩:=Own.freeze (S:=[22]) bl dcd dcd
 obtain rfl:=AP a
 refine A0 (B:=B) a2 (D4 rfl (.tmp rfl) (.tmp rfl) ?_)
 exact ⟨c1,Sl bm ((e++([(AX.mk 4 ([]:List UInt8) ((0,0):Nat×Nat) (d.length:Int))]:List AX))) bn,rfl,Ho (T3 (Mo [20,22] w) bj c0 c2) a0,c3⟩
theorem R2(c:Nat):FR.Spec (FR c):=by
 intro a d o v0 p e f
 refine Calls.mono (Qz c (recol (see []) a) d (A3 lbr a) e (DC Kd.u8 f [])) ?_
 rintro q r ⟨g,h,l,m,n⟩
 exact ⟨glue [] d a g,h,l,Ah m A2,Et AW n⟩
def BM.At(G1 G2:Prop)(c:Col)(a:World)(f:AB→Option AX)(o:Nat):Prop:=
 ∀{d:Nat} {e:AB} {g:List Value} {h:AX},f e=some h→G1→G2→Bk c a o d g 126→Al.rep c.F a g e→
  Calls Tryz.prog 73 #[Pt d 0] a fun p l=>∃(m:Col) (n:List Value),p=.returned (.agg n.toArray)∧AO [] c a m l∧AW.rep m.F l n h
def BM.Spec(f:AB→Option AX):Prop:=
 ∀(c:Col) (d:World) {a:Nat},BM.At ([a].Nodup) (0∉[a]) c d f a
theorem Nb(g:Col)(q:World)(r:∀b,g b<10):BM.At True True g q BM 1:=by
 intro n s an ao e _ _ u w
 rw [BM] at e
 obtain ⟨ap,rfl,o⟩:=AS w
 obtain ⟨aq,ar,rfl⟩:=AI o
 refine A5 Tryz.func73 rfl Tryz.ntmps73 rfl fun B y d=>Sr<|Ef (AY g 20 F0 rfl fun h au av z l=>?_)
 refine AA<|Ac<|Cc Ff (.q 0 (.q 1 (.q 2 (.q 3 (.q 4 (.q 5 (.q 6 (.q 7 (.q 8 (.q 9 (.one 10 .nil))))))))))) [10] [] h (by kernel_rfl) fun aa f=>Qx d rfl (v:=Pt n 0) (fun _ ⟨_,c⟩=>Run.move rfl)<|Qx d rfl (fun _ ⟨_,c⟩=>Run.nilCheck rfl)<|Qx d rfl (fun _ ⟨_,c⟩=>Run.fieldAddr0 Wq rfl)<|have p:=Y2 u l f;Qx d rfl (fun _ ⟨_,c⟩=>Run.load1 ZA rfl (Bk.cell (Bs p c) rfl))<|Qx d rfl (v:=Pt n 0) (fun _ ⟨_,c⟩=>Run.move rfl)<|Qx d rfl (fun _ ⟨_,c⟩=>Run.nilCheck rfl)<|Qx d rfl (fun _ ⟨_,c⟩=>Run.fieldAddr Fd rfl)<|Qx d rfl (fun _ ⟨_,c⟩=>Run.load1 Be rfl (Bk.cell (Bs p c) rfl))<|Bi e fun a ab e=>have ac:=K2 AW o l f; ?_
 obtain ⟨ad,ae,aw,af,ag,ah,ai,aj,m⟩:=BX (κ:=AW) ac ab
 replace m:BG h aa ad (ae+s.at_.toNat*4) af:=m
 obtain rfl:=Cq aj
 refine Qx d rfl (fun _ ⟨_,c⟩=>Run.indexAddr T5 ag rfl ah ai)<|Qx d rfl (fun _ ⟨_,c⟩=>Run.loadN HW rfl rfl (BG.part0 (Es m c) [I a.kind,Sb a.text,Cx a.num,I a.at_] rfl))<|E0 dcd<|WY.one<|have ak:=Bs z f;BT rfl (.none rfl) rfl (St GC ak rfl rfl rfl rfl fun ax al am=>?_)
 refine WY.nil<|AZ ?_
 obtain rfl:=AP e
 refine A0 (B:=B) y (BQ rfl (.agg HW rfl rfl (Bk.part al 0 [I a.kind,Sb a.text,Cx a.num,I a.at_] rfl)) ?_)
 exact ⟨h,[I a.kind,Sb a.text,Cx a.num,I a.at_],rfl,Ho (T2 (Mo [20] l) f am) r,(E3 (x:=a))⟩
theorem B7:BM.Spec BM:=by
 intro c d a p q r s e hnd hnz f g
 refine Calls.mono (Nb (recol (see [a]) c) d (A3 lbr c) e trivial trivial (A1 f [a] (A8 hnd hnz (i:=0) rfl)) (Av Al g [a])) ?_
 rintro u w ⟨h,l,m,n,o⟩
 exact ⟨glue [a] d c h,l,m,Ah n A2,BA AW o⟩
def Bb.At(G1 G2:Prop)(c:Col)(a:World)(f:AB→Int→Option AB)(d:Nat):Prop:=
 ∀{e:Nat} {l:AB} {m:List Value} {n:Int} {o:AB},f l n=some o→G1→G2→Bk c a d e m 126→Al.rep c.F a m l→
  Calls Tryz.prog 101 #[Pt e 0,I n] a fun q g=>∃(h:Col) (p:List Value),q=.returned (.tuple #[])∧AO [d] c a h g∧Bk h g d e p 126∧Al.rep h.F g p o
def Bb.Spec(f:AB→Int→Option AB):Prop:=
 ∀(c:Col) (d:World) {a:Nat},Bb.At ([a].Nodup) (0∉[a]) c d f a
theorem Nc(e:Col)(w:World)(m:∀b,e b<10):Bb.At True True e w Bb 1:=by
 intro y a ai f aj c _ _ g z
 rw [Bb] at c
 obtain ⟨ak,rfl,h⟩:=AS z
 obtain ⟨n,o,rfl⟩:=AI h
 refine A5 Tryz.func101 rfl Tryz.ntmps101 rfl fun B p al=>Sr<|Vm<|Vx (Run.nilCheck rfl)<|Vx (Run.fieldAddr H3 rfl)<|Vx (Run.load1 Be rfl (Bk.cell g rfl))<|Vr (.bool (a.why==0))<|AA<|Cn c (fun aa c=>?_) fun aa c=>?_
 refine Sr<|Vm<|Vm<|Vx (Run.nilCheck rfl)<|Vx (Run.fieldAddr H3 rfl)<|Eu (St Lz g rfl rfl rfl rfl fun ab q r=>?_)
 refine AA<|AQ<|Vm<|Vm<|have s:=Ss AW h r;Bi c fun d ac c=>Ca (LR [Pt y 0] rfl) (B7 e ab ac dcd dcd q (AM (x:=(AB.mk a.marks a.at_ f a.where_ (Ab.mk a.l.text a.l.funcs a.l.arity a.l.nest) a.nest)) s)) ?_
 rintro _ am ⟨ad,an,rfl,l,ae⟩
 obtain rfl:=Cq ae
 refine ⟨_,rfl,?_⟩
 refine Vx (v:=I d.at_) (KK (cs:=[I d.kind,Sb d.text,Cx d.num,I d.at_]) Wt rfl rfl)<|Vx (Run.nilCheck rfl)<|Vx (Run.fieldAddr TR rfl)<|have af:=Bs q l;Eu (St Lz af rfl rfl rfl rfl fun ao ag u=>?_)
 refine AA ?_
 obtain rfl:=AP c
 refine Ln (B:=B) p (Lm rfl ?_)
 refine have ah:=K2 AW s l u;⟨ad,[Sl n a.marks o,I a.at_,I f,I d.at_,I a.l.text,I a.l.funcs,I a.l.arity,I a.l.nest,I a.nest],rfl,Ho (T2 (Mo [1] r) l u) m,ag,(AM (x:=(AB.mk a.marks a.at_ f d.at_ (Ab.mk a.l.text a.l.funcs a.l.arity a.l.nest) a.nest)) ah)⟩
 refine WC.skip ?_
 obtain rfl:=AP c
 refine Ln (B:=B) p (Lm rfl ?_)
 exact ⟨e,[Sl n a.marks o,I a.at_,I a.why,I a.where_,I a.l.text,I a.l.funcs,I a.l.arity,I a.l.nest,I a.nest],rfl,Ho (AO.refl [] _ _) m,g,(AM (x:=a) h)⟩
theorem EU:Bb.Spec Bb:=by
 intro c d a q r s u w f hnd hnz e g
 refine Calls.mono (Nc (recol (see [a]) c) d (A3 lbr c) f trivial trivial (A1 e [a] (A8 hnd hnz (i:=0) rfl)) (Av Al g [a])) ?_
 rintro y z ⟨h,l,m,n,o,p⟩
 exact ⟨glue [a] d c h,l,m,Ah n (DI rfl rfl),B9 e o dcd,BA Al p⟩
def Bz.At(G1 G2:Prop)(e:Col)(a:World)(f:AB→Option (AX×AB))(g:Nat):Prop:=
 ∀{h:Nat} {m:AB} {n:List Value} {l:AX×AB},f m=some l→G1→G2→Bk e a g h n 126→Al.rep e.F a n m→
  Calls Tryz.prog 102 #[Pt h 0] a fun q c=>∃(d:Col) (o:List Value) (p:List Value),q=.returned (.agg o.toArray)∧AO [g] e a d c∧AW.rep d.F c o l.1∧Bk d c g h p 126∧Al.rep d.F c p l.2
def Bz.Spec(f:AB→Option (AX×AB)):Prop:=
 ∀(c:Col) (d:World) {a:Nat},Bz.At ([a].Nodup) (0∉[a]) c d f a
theorem Nd(r:Col)(al:World)(ac:∀b,r b<10):Bz.At True True r al Bz 1:=by
 intro s a bn am c _ _ an ao
 rw [Bz] at c
 obtain ⟨bo,rfl,ad⟩:=AS ao
 obtain ⟨ap,aq,rfl⟩:=AI ad
 refine A5 Tryz.func102 rfl Tryz.ntmps102 rfl fun B ae bp=>Sr<|Ef (AY r 20 F0 rfl fun ar au av af n=>?_)
 refine AA<|Sr<|Vm<|have o:=Bs an n;have u:=Ss AW ad n;Bi c fun d aw c=>Ca (LR [Pt s 0] rfl) (B7 ar au aw dcd dcd o (AM (x:=a) u)) ?_
 rintro _ bq ⟨ax,br,rfl,f,ay⟩
 obtain rfl:=Cq ay
 refine ⟨_,rfl,?_⟩
 refine Ef (AY ax 21 F0 rfl fun w bt az a0 g=>?_)
 refine Eu (St GC a0 rfl rfl rfl rfl fun a1 ag h=>?_)
 refine AA<|Ac<|Au (fun a2 y=>∃(ah:Env) (p:Col) (z:Bool),a2=ah.puts [(0,.pointer (some ⟨s,0,none⟩)),(2,.pointer (some ⟨av,0,none⟩)),(3,.pointer (some ⟨az,0,none⟩)),(15,.bool z)]∧FS a d z=some am∧AO [] w a1 p y) ?_ ?_
 refine AQ<|Vm<|Vx (Run.nilCheck rfl)<|Vx (Run.fieldAddr H3 rfl)<|have a3:=Y3 o f g h;Vx (Run.load1 Be rfl (Bk.cell a3 rfl))<|Vr (.bool (a.why != 0))<|Vm<|Bo c (fun l c=>?_) fun l c=>?_
 refine Pg l<|Pg l<|Pg l<|Vp l<|AA<|⟨_,w,true,Pu,c,(AO.refl [] _ _)⟩
 refine Gx l (Run.fieldAddr0 Jq rfl)<|Gx l (Run.load1 Ol rfl (Bk.cell ag rfl))<|Gr l (.bool (d.kind != 0))<|Vp l<|AA<|⟨_,w,(d.kind != 0),Pu,c,(AO.refl [] _ _)⟩
 rintro _ y ⟨ah,p,z,rfl,c,m⟩
 rw [FS] at c
 refine Cn c (fun a4 c=>?_) fun a4 c=>?_
 refine Sr<|Vm<|have a5:=Y4 o f g h m;have a6:=K4 AW u f g h m;Bi c fun e a7 c=>Ca (NA [Pt s 0,I 21] rfl) (EU p y a7 dcd dcd a5 (AM (x:=a) a6)) ?_
 rintro _ bu ⟨a8,bv,rfl,ai,a9,ba⟩
 obtain ⟨bw,rfl,aj⟩:=AS ba
 obtain ⟨bb,bc,rfl⟩:=AI aj
 refine ⟨_,rfl,?_⟩
 refine AA<|Sr<|Vx (v:=.agg [I 0,Sb ([]:List UInt8),Cx (((0,0):Nat×Nat)),I 0].toArray) (Bp F0 T0 rfl .nil)<|have bd:=Bs (Y4 af f g h m) ai;Eu (St GC bd rfl rfl rfl rfl fun bx be aa=>?_)
 refine AA<|AZ ?_
 obtain rfl:=AP c
 refine A0 (B:=B) ae (BQ rfl (.agg HW rfl rfl (Bk.part be 0 [I 0,Sb ([]:List UInt8),Cx (((0,0):Nat×Nat)),I 0] rfl)) ?_)
 refine have bf:=Bs a9 aa;have bg:=Ss AW aj aa;⟨a8,[I 0,Sb ([]:List UInt8),Cx (((0,0):Nat×Nat)),I 0],[Sl bb e.marks bc,I e.at_,I e.why,I e.where_,I e.l.text,I e.l.funcs,I e.l.arity,I e.l.nest,I e.nest],rfl,Ho (T2 (T4 (Mo [1,20,21] n) f g h m) ai aa) ac,(E3 (x:=(AX.mk 0 ([]:List UInt8) ((0,0):Nat×Nat) 0))),bf,(AM (x:=e) bg)⟩
 refine WC.skip<|Sr<|Vm<|Vx (Run.nilCheck rfl)<|Vx (Run.fieldAddr Fd rfl)<|have ak:=Y4 o f g h m;Vx (Run.load1 Be rfl (Bk.cell ak rfl))<|Vr (I (Wr (a.at_+1)))<|Vx (Run.nilCheck rfl)<|Vx (Run.fieldAddr Fd rfl)<|Eu (St Lz ak rfl rfl rfl rfl fun bz bh q=>?_)
 refine AA<|Sr<|have bi:=Y2 ag m q;Vx (Run.loadN HW rfl rfl (Bk.part bi 0 [I d.kind,Sb d.text,Cx d.num,I d.at_] rfl))<|have bj:=Bs (Y4 af f g h m) q;Eu (St GC bj rfl rfl rfl rfl fun b0 bk ab=>?_)
 refine AA<|AZ ?_
 obtain rfl:=AP c
 refine A0 (B:=B) ae (BQ rfl (.agg HW rfl rfl (Bk.part bk 0 [I d.kind,Sb d.text,Cx d.num,I d.at_] rfl)) ?_)
 refine have bl:=Bs bh ab;have bm:=K2 AW (K4 AW u f g h m) q ab;⟨p,[I d.kind,Sb d.text,Cx d.num,I d.at_],[Sl ap a.marks aq,I (Wr (a.at_+1)),I a.why,I a.where_,I a.l.text,I a.l.funcs,I a.l.arity,I a.l.nest,I a.nest],rfl,Ho (T2 (T4 (Mo [1,20,21] n) f g h m) q ab) ac,(E3 (x:=d)),bl,(AM (x:=(AB.mk a.marks (Wr (a.at_+1)) a.why a.where_ (Ab.mk a.l.text a.l.funcs a.l.arity a.l.nest) a.nest)) bm)⟩
theorem HA:Bz.Spec Bz:=by
 intro c d a s u w y f hnd hnz e g
 refine Calls.mono (Nd (recol (see [a]) c) d (A3 lbr c) f trivial trivial (A1 e [a] (A8 hnd hnz (i:=0) rfl)) (Av Al g [a])) ?_
 rintro z aa ⟨h,l,m,n,o,p,q,r⟩
 exact ⟨glue [a] d c h,l,m,n,Ah o (DI rfl rfl),BA AW p,B9 e q dcd,BA Al r⟩
def BR.At(G1 G2:Prop)(c:Col)(a:World)(f:AB→Bts→Option Bool)(m:Nat):Prop:=
 ∀{d:Nat} {e:AB} {g:List Value} {h:Bts} {l:Bool},f e h=some l→G1→G2→Bk c a m d g 126→Al.rep c.F a g e→
  Calls Tryz.prog 104 #[Pt d 0,Sb h] a fun n o=>∃(p:Col),n=.returned (.bool l)∧AO [] c a p o
def BR.Spec(f:AB→Bts→Option Bool):Prop:=
 ∀(c:Col) (d:World) {a:Nat},BR.At ([a].Nodup) (0∉[a]) c d f a
theorem Oo(m:Col)(p:World)(ab:∀b,m b<10):BR.At True True m p BR 1:=by
 intro ac q ao g ad a _ _ r ae
 rw [BR] at a
 obtain ⟨ap,rfl,s⟩:=AS ae
 obtain ⟨aq,ar,rfl⟩:=AI s
 refine A5 Tryz.func104 rfl Tryz.ntmps104 rfl fun B af au=>Sr<|Va (.bool false)<|AA<|Sr<|Vm<|Bi a fun e ag a=>Ca (LR [Pt ac 0] rfl) (B7 m p ag dcd dcd r (AM (x:=q) s)) ?_
 rintro _ av ⟨ah,aw,rfl,u,ai⟩
 obtain rfl:=Cq ai
 refine ⟨_,rfl,?_⟩
 refine Ef (AY ah 20 F0 rfl fun h ax ay aj w=>?_)
 refine Eu (St GC aj rfl rfl rfl rfl fun ak l y=>?_)
 refine AA<|Au (fun al z=>∃(aa:Env) (n:Col) (o:Bool),al=aa.puts [(4,.bool o)]∧GL o=some ad∧AO [] h ak n z) ?_ ?_
 refine AQ<|Vm<|Vx (Run.nilCheck rfl)<|Vx (Run.fieldAddr H3 rfl)<|have am:=Y3 r u w y;Vx (Run.load1 Be rfl (Bk.cell am rfl))<|Vr (.bool (q.why==0))<|Vm<|Bo a (fun c a=>?_) fun c a=>?_
 refine Gx c (Run.fieldAddr0 Jq rfl)<|Gx c (Run.load1 Ol rfl (Bk.cell l rfl))<|Gr c (.bool (e.kind==1))<|Gm c<|Bo a (fun f a=>?_) fun f a=>?_
 refine Pg f<|Pg f<|Pg f<|Gp c f<|Vp c<|Vm<|Gx rfl (Run.fieldAddr Eo rfl)<|Gx rfl (Run.load1 De rfl (Bk.cell l rfl))<|Gm rfl<|Gx rfl (v:=.bool (e.text==g)) (Run.strEq rfl rfl)<|Vr (.bool (e.text==g))<|Va (.bool (e.text==g))<|AA<|⟨_,h,(e.text==g),Pu,a,(AO.refl [] _ _)⟩
 refine Gx f (Run.fieldAddr0 Jq rfl)<|Gx f (Run.load1 Ol rfl (Bk.cell l rfl))<|Gr f (.bool (e.kind==3))<|Gp c f<|Vp c<|Vm<|Bo a (fun d a=>?_) fun d a=>?_
 refine Gx d (Run.fieldAddr Eo rfl)<|Gx d (Run.load1 De rfl (Bk.cell l rfl))<|Gm d<|Gx d (v:=.bool (e.text==g)) (Run.strEq rfl rfl)<|Vp d<|Va (.bool (e.text==g))<|AA<|⟨_,h,(e.text==g),Pu,a,(AO.refl [] _ _)⟩
 refine Pg d<|Pg d<|Pg d<|Pg d<|Vp d<|Va (.bool false)<|AA<|⟨_,h,false,Pu,a,(AO.refl [] _ _)⟩
 refine Pg c<|Pg c<|Pg c<|Pg c<|Po<|Po<|Po<|Pg c<|Vp c<|Vm<|Pg rfl<|Pg rfl<|Pg rfl<|Pg rfl<|Vr (.bool false)<|Va (.bool false)<|AA<|⟨_,h,false,Pu,a,(AO.refl [] _ _)⟩
 rintro _ z ⟨aa,n,o,rfl,a,an⟩
 rw [GL] at a
 refine AZ ?_
 obtain rfl:=AP a
 refine A0 (B:=B) af (BQ rfl (.tmp rfl) ?_)
 exact ⟨n,rfl,Ho (T3 (Mo [20] u) w y an) ab⟩
theorem CX:BR.Spec BR:=by
 intro c d a n o p q r e hnd hnz f g
 refine Calls.mono (Oo (recol (see [a]) c) d (A3 lbr c) e trivial trivial (A1 f [a] (A8 hnd hnz (i:=0) rfl)) (Av Al g [a])) ?_
 rintro s u ⟨h,l,m⟩
 exact ⟨glue [a] d c h,l,Ah m A2⟩
def Bc.At(G1 G2:Prop)(c:Col)(a:World)(f:AB→Bts→Option (Bool×AB))(d:Nat):Prop:=
 ∀{e:Nat} {m:AB} {n:List Value} {o:Bts} {g:Bool×AB},f m o=some g→G1→G2→Bk c a d e n 126→Al.rep c.F a n m→
  Calls Tryz.prog 130 #[Pt e 0,Sb o] a fun q h=>∃(l:Col) (p:List Value),q=.returned (.bool g.1)∧AO [d] c a l h∧Bk l h d e p 126∧Al.rep l.F h p g.2
def Bc.Spec(f:AB→Bts→Option (Bool×AB)):Prop:=
 ∀(c:Col) (d:World) {a:Nat},Bc.At ([a].Nodup) (0∉[a]) c d f a
theorem Nf(f:Col)(h:World)(l:∀b,f b<10):Bc.At True True f h Bc 1:=by
 intro s a af u ag c _ _ g w
 rw [Bc] at c
 obtain ⟨ah,rfl,e⟩:=AS w
 obtain ⟨m,n,rfl⟩:=AI e
 refine A5 Tryz.func130 rfl Tryz.ntmps130 rfl fun B o ai=>Sr<|Va (.bool false)<|AA<|Ac<|Sr<|Vm<|Vm<|Bi c fun y z c=>Ca (KE [Pt s 0,Sb u] rfl) (CX f h z dcd dcd g (AM (x:=a) e)) ?_
 rintro _ aj ⟨p,rfl,d⟩
 refine ⟨_,rfl,?_⟩
 refine Vr (.bool (!y))<|AA<|Cn c (fun aa c=>?_) fun aa c=>?_
 refine Sr<|Va (.bool false)<|AA<|AZ ?_
 obtain rfl:=AP c
 refine A0 (B:=B) o (BQ rfl (.tmp rfl) ?_)
 refine have ab:=Bs g d;have ac:=Ss AW e d;⟨p,[Sl m a.marks n,I a.at_,I a.why,I a.where_,I a.l.text,I a.l.funcs,I a.l.arity,I a.l.nest,I a.nest],rfl,Ho (Mo [] d) l,ab,(AM (x:=a) ac)⟩
 refine WC.skip<|Sr<|Vm<|Vx (Run.nilCheck rfl)<|Vx (Run.fieldAddr Fd rfl)<|have q:=Bs g d;Vx (Run.load1 Be rfl (Bk.cell q rfl))<|Vr (I (Wr (a.at_+1)))<|Vx (Run.nilCheck rfl)<|Vx (Run.fieldAddr Fd rfl)<|Eu (St Lz q rfl rfl rfl rfl fun ak ad r=>?_)
 refine AA<|Sr<|Va (.bool true)<|AA<|AZ ?_
 obtain rfl:=AP c
 refine A0 (B:=B) o (BQ rfl (.tmp rfl) ?_)
 refine have ae:=K2 AW e d r;⟨p,[Sl m a.marks n,I (Wr (a.at_+1)),I a.why,I a.where_,I a.l.text,I a.l.funcs,I a.l.arity,I a.l.nest,I a.nest],rfl,Ho (Tn (Mo [1] d) r) l,ad,(AM (x:=(AB.mk a.marks (Wr (a.at_+1)) a.why a.where_ (Ab.mk a.l.text a.l.funcs a.l.arity a.l.nest) a.nest)) ae)⟩
theorem EV:Bc.Spec Bc:=by
 intro c d a q r s u w f hnd hnz e g
 refine Calls.mono (Nf (recol (see [a]) c) d (A3 lbr c) f trivial trivial (A1 e [a] (A8 hnd hnz (i:=0) rfl)) (Av Al g [a])) ?_
 rintro y z ⟨h,l,m,n,o,p⟩
 exact ⟨glue [a] d c h,l,m,Ah n (DI rfl rfl),B9 e o dcd,BA Al p⟩
def A4.At(G1 G2:Prop)(c:Col)(a:World)(f:AB→Bts→Option AB)(d:Nat):Prop:=
 ∀{e:Nat} {l:AB} {m:List Value} {n:Bts} {o:AB},f l n=some o→G1→G2→Bk c a d e m 126→Al.rep c.F a m l→
  Calls Tryz.prog 103 #[Pt e 0,Sb n] a fun q g=>∃(h:Col) (p:List Value),q=.returned (.tuple #[])∧AO [d] c a h g∧Bk h g d e p 126∧Al.rep h.F g p o
def A4.Spec(f:AB→Bts→Option AB):Prop:=
 ∀(c:Col) (d:World) {a:Nat},A4.At ([a].Nodup) (0∉[a]) c d f a
theorem Ng(e:Col)(g:World)(h:∀b,e b<10):A4.At True True e g A4 1:=by
 intro l s am u an c _ _ w y
 rw [A4] at c
 obtain ⟨ao,rfl,m⟩:=AS y
 obtain ⟨ap,aq,rfl⟩:=AI m
 refine A5 Tryz.func103 rfl Tryz.ntmps103 rfl fun B n ar=>Sr<|Vm<|Vm<|Bi c fun a z c=>Ca (NC [Pt l 0,Sb u] rfl) (EV e g z dcd dcd w (AM (x:=s) m)) ?_
 rintro _ aa ⟨o,au,rfl,p,q,ab⟩
 obtain ⟨av,rfl,f⟩:=AS ab
 obtain ⟨ac,ad,rfl⟩:=AI f
 refine ⟨_,rfl,?_⟩
 refine Vr (.bool (!a.1))<|AA<|Cn c (fun ae c=>?_) fun ae c=>?_
 refine AQ<|Vm<|Bi c fun d af c=>Ca (NA [Pt l 0,I 21] rfl) (EU o aa af dcd dcd q (AM (x:=a.2) f)) ?_
 rintro _ aw ⟨ag,ax,rfl,ah,ai,aj⟩
 obtain ⟨ay,rfl,r⟩:=AS aj
 obtain ⟨ak,al,rfl⟩:=AI r
 refine ⟨_,rfl,?_⟩
 refine AA ?_
 obtain rfl:=AP c
 refine Ln (B:=B) n (Lm rfl ?_)
 exact ⟨ag,[Sl ak d.marks al,I d.at_,I d.why,I d.where_,I d.l.text,I d.l.funcs,I d.l.arity,I d.l.nest,I d.nest],rfl,Ho (Tn (Mo [1] p) ah) h,ai,(AM (x:=d) r)⟩
 refine WC.skip ?_
 obtain rfl:=AP c
 refine Ln (B:=B) n (Lm rfl ?_)
 exact ⟨o,[Sl ac a.2.marks ad,I a.2.at_,I a.2.why,I a.2.where_,I a.2.l.text,I a.2.l.funcs,I a.2.l.arity,I a.2.l.nest,I a.2.nest],rfl,Ho (Mo [1] p) h,q,(AM (x:=a.2) f)⟩
theorem BF:A4.Spec A4:=by
 intro c d a q r s u w f hnd hnz e g
 refine Calls.mono (Ng (recol (see [a]) c) d (A3 lbr c) f trivial trivial (A1 e [a] (A8 hnd hnz (i:=0) rfl)) (Av Al g [a])) ?_
 rintro y z ⟨h,l,m,n,o,p⟩
 exact ⟨glue [a] d c h,l,m,Ah n (DI rfl rfl),B9 e o dcd,BA Al p⟩
def B4.At(G1 G2:Prop)(c:Col)(a:World)(f:AB→Option (Int×AB))(d:Nat):Prop:=
 ∀{e:Nat} {m:AB} {n:List Value} {g:Int×AB},f m=some g→G1→G2→Bk c a d e n 126→Al.rep c.F a n m→
  Calls Tryz.prog 105 #[Pt e 0] a fun p h=>∃(l:Col) (o:List Value),p=.returned (I g.1)∧AO [d] c a l h∧Bk l h d e o 126∧Al.rep l.F h o g.2
def B4.Spec(f:AB→Option (Int×AB)):Prop:=
 ∀(c:Col) (d:World) {a:Nat},B4.At ([a].Nodup) (0∉[a]) c d f a
theorem OK(aj:Nat)(ac:Col)(a4:World)(ak:∀b,ac b<10):B4.At True True ac a4 (B4 aj) 1:=by
 intro z f bx al a _ _ a5 a6
 rw [B4] at a
 obtain ⟨bz,rfl,am⟩:=AS a6
 obtain ⟨a7,a8,rfl⟩:=AI am
 refine A5 Tryz.func105 rfl Tryz.ntmps105 rfl fun B an b0=>Sr<|Va (I 0)<|AA<|Sr<|Ef (E1 (cs:=[Sb ([78]:List UInt8),Sb ([66]:List UInt8),Sb ([76]:List UInt8)]) ac 20 [[Sb ([78]:List UInt8)],[Sb ([66]:List UInt8)],[Sb ([76]:List UInt8)]] Ir Rw rfl rfl (.cons rfl rfl rfl (.cons rfl rfl rfl (.cons rfl rfl rfl .nil))) rfl fun ad ao ae a9 aa=>?_)
 refine have ba:Own E9 9 ad ao 20 (.slice (some ⟨ae,0,none⟩) 3 3) ([([78]:List UInt8),([66]:List UInt8),([76]:List UInt8)]:List Bts):=Own.lit (css:=[[Sb ([78]:List UInt8)],[Sb ([66]:List UInt8)],[Sb ([76]:List UInt8)]]) a9 rfl rfl rfl (Aa rfl (Aa rfl (Aa rfl Ba))) (A9 rfl (A9 rfl (A9 rfl Gg))) rfl;Va (Sl (some ⟨ae,0,none⟩) (([([78]:List UInt8),([66]:List UInt8),([76]:List UInt8)]:List Bts)) 3)<|AA<|Ac<|Sr<|Va (I 0)<|AA<|Ao<|CZ (fun g bb l=>∃(ap:Env) (m:Col) (d:Int) (h:(List AX)) (af:Option Addr) (ag:Nat) (n:Int) (o:Int) (p:Int) (q:Int) (r:Int) (u:Int) (w:Int) (y:Int),bb=ap.puts [(0,.pointer (some ⟨z,0,none⟩)),(3,.slice (some ⟨ae,0,none⟩) (([([78]:List UInt8),([66]:List UInt8),([76]:List UInt8)]:List Bts)).length 3),(4,.int .i64 d)]∧B3 g d h n o p q r u w y=some al∧AO [1] ad ao m l∧Slc AW m.F l (Sl af h ag) h∧Bk m l 1 z [Sl af h ag,I n,I o,I p,I q,I r,I u,I w,I y] 126) aj ?_ ?_
 refine have bc:=Ss AW am aa;have bd:=Bs a5 aa;⟨_,ad,0,f.marks,a7,a8,f.at_,f.why,f.where_,f.l.text,f.l.funcs,f.l.arity,f.l.nest,f.nest,Pu,a,(AO.refl [1] _ _),bc,bd⟩
 rintro g _ l ⟨ap,m,d,h,af,ag,n,o,p,q,r,u,w,y,rfl,a,ab,aq,ar⟩
 rcases g with _|g
 exact BK a
 refine have a:Cr (B3 g) d h n o p q r u w y=some al:=a; ?_
 obtain ⟨b1,au⟩:∃s,s=B3 g:=⟨_,rfl⟩
 rw [←au,Cr] at a
 refine Ac<|Sr<|Vm<|Vm<|have av:=Os ba ab; ?_
 obtain ⟨b2,b3,be⟩:=Own.len av
 refine Vx (v:=I (([([78]:List UInt8),([66]:List UInt8),([76]:List UInt8)]:List Bts).length:Int)) (Run.lenSlc Ir be)<|Vr (.bool (decide (d< (([([78]:List UInt8),([66]:List UInt8),([76]:List UInt8)]:List Bts).length:Int))))<|AA<|Cn a (fun bf a=>?_) fun bf a=>?_
 refine WC.skip<|Ac<|Ao<|Sr<|Vm<|Vm<|Vm<|Bi a fun aw bg a=>?_
 obtain ⟨bh,b4,ax,bi,bj,bk,bl,ah⟩:=VM (κ:=E9) av bg
 replace ah:O6 20 m l bh (0+d.toNat*1) ax:=ah
 obtain rfl:=(show ax=[Sb aw] from bl)
 refine Vx (Run.indexAddr Ir bi rfl bj bk)<|Vx (Run.load1 De rfl (O6.cell0 ah rfl))<|Bi a fun c bm a=>Ca (NC [Pt z 0,Sb aw] rfl) (EV m l bm dcd dcd ar (AM (x:=(AB.mk h n o p (Ab.mk q r u w) y)) aq)) ?_
 rintro _ b5 ⟨ay,b6,rfl,az,a0,bn⟩
 obtain ⟨b7,rfl,ai⟩:=AS bn
 obtain ⟨a1,a2,rfl⟩:=AI ai
 refine ⟨_,rfl,?_⟩
 refine AA<|Cn a (fun bo a=>?_) fun bo a=>?_
 refine Sr<|Vm<|Vr (I (Wr (d+1)))<|Va (I (Wr (d+1)))<|AA<|AZ ?_
 obtain rfl:=AP a
 refine A0 (B:=B) an (BQ rfl (.tmp rfl) ?_)
 exact ⟨ay,[Sl a1 c.2.marks a2,I c.2.at_,I c.2.why,I c.2.where_,I c.2.l.text,I c.2.l.funcs,I c.2.l.arity,I c.2.l.nest,I c.2.nest],rfl,Ho (T2 (Mo [1] aa) ab az) ak,a0,(AM (x:=c.2) ai)⟩
 refine WC.skip<|AQ<|Vm<|Vr (I (Wr (d+1)))<|Va (I (Wr (d+1)))<|AA<|⟨g,Nat.lt_succ_self g,_,ay,(Wr (d+1)),c.2.marks,a1,a2,c.2.at_,c.2.why,c.2.where_,c.2.l.text,c.2.l.funcs,c.2.l.arity,c.2.l.nest,c.2.nest,Pu,(au▸a),(Tn (Mo [1] ab) az),ai,a0⟩
 refine CF<|Sr<|Vm<|Bi a fun e bp a=>Ca (NA [Pt z 0,I 21] rfl) (EU m l bp dcd dcd ar (AM (x:=(AB.mk h n o p (Ab.mk q r u w) y)) aq)) ?_
 rintro _ b8 ⟨bq,b9,rfl,br,bt,bu⟩
 obtain ⟨ca,rfl,a3⟩:=AS bu
 obtain ⟨bv,bw,rfl⟩:=AI a3
 refine ⟨_,rfl,?_⟩
 refine AA<|Sr<|Va (I 0)<|AA<|AZ ?_
 obtain rfl:=AP a
 refine A0 (B:=B) an (BQ rfl (.tmp rfl) ?_)
 exact ⟨bq,[Sl bv e.marks bw,I e.at_,I e.why,I e.where_,I e.l.text,I e.l.funcs,I e.l.arity,I e.l.nest,I e.nest],rfl,Ho (T2 (Mo [1] aa) ab br) ak,bt,(AM (x:=e) a3)⟩
theorem IV(d:Nat):B4.Spec (B4 d):=by
 intro c e a r s u w g hnd hnz f h
 refine Calls.mono (OK d (recol (see [a]) c) e (A3 lbr c) g trivial trivial (A1 f [a] (A8 hnd hnz (i:=0) rfl)) (Av Al h [a])) ?_
 rintro y z ⟨l,m,n,o,p,q⟩
 exact ⟨glue [a] e c l,m,n,Ah o (DI rfl rfl),B9 f p dcd,BA Al q⟩
def H2.At(c:Col)(a:World)(f:Int→AD→AD→AX→Option AD):Prop:=
 ∀{d:Int} {e:AD} {g:List Value} {h:AD} {l:List Value} {m:AX} {n:List Value} {o:AD},f d e h m=some o→AJ.rep c.F a g e→AJ.rep c.F a l h→AW.rep c.F a n m→
  Calls Tryz.prog 144 #[I d,.agg g.toArray,.agg l.toArray,.agg n.toArray] a fun s p=>∃(q:Col) (r:List Value),s=.returned (.agg r.toArray)∧AO [] c a q p∧AJ.rep q.F p r o
def H2.Spec(f:Int→AD→AD→AX→Option AD):Prop:=
 ∀(a:Col) (c:World),H2.At a c f
theorem Sx(r:Col)(ac:World)(ad:∀b,r b<10):H2.At r ac H2:=by
 intro d a a6 c a7 e a8 a9 u ae af ag
 rw [H2] at u
 obtain ⟨ba,rfl,w⟩:=Am ae
 obtain ⟨m,n,rfl⟩:=AI w
 obtain ⟨bb,rfl,y⟩:=Am af
 obtain ⟨o,p,rfl⟩:=AI y
 obtain rfl:=Cq ag
 refine A5 Tryz.func144 rfl Tryz.ntmps144 rfl fun B ah bc=>Sr<|Ef (By r 20 rfl rfl fun ai bd be aj s=>?_)
 refine Ef (By ai 21 rfl rfl fun ak bf bg al q=>?_)
 refine Ef (By ak 22 rfl rfl fun am bh bi an h=>?_)
 refine Ef (AY am 23 DJ rfl fun ao bj bk ap f=>?_)
 refine AA<|Sr<|Vm<|have aq:=Y3 aj q h f;Vx (Run.loadN BL rfl rfl (Bk.part aq 0 [I a.op,Sb a.name,Sb a.tail,I a.type_,Cx a.num,Sl m a.args n,I a.at_] rfl))<|have ar:=Y2 al h f;Vx (Run.loadN BL rfl rfl (Bk.part ar 0 [I c.op,Sb c.name,Sb c.tail,I c.type_,Cx c.num,Sl o c.args p,I c.at_] rfl))<|Ef (E1 (cs:=[I a.op,Sb a.name,Sb a.tail,I a.type_,Cx a.num,Sl m a.args n,I a.at_,I c.op,Sb c.name,Sb c.tail,I c.type_,Cx c.num,Sl o c.args p,I c.at_]) ao 24 [[I a.op,Sb a.name,Sb a.tail,I a.type_,Cx a.num,Sl m a.args n,I a.at_],[I c.op,Sb c.name,Sb c.tail,I c.type_,Cx c.num,Sl o c.args p,I c.at_]] Dx DJ rfl rfl (.cons rfl rfl rfl (.cons rfl rfl rfl .nil)) rfl fun au av g aw l=>?_)
 refine have ax:=Ss AJ (K4 AJ y s q h f) l;have ay:=Ss AJ (K4 AJ w s q h f) l;have z:Own AJ 56 au av 24 (.slice (some ⟨g,0,none⟩) 2 2) ([a,c]:List AD):=Own.lit (css:=[[I a.op,Sb a.name,Sb a.tail,I a.type_,Cx a.num,Sl m a.args n,I a.at_],[I c.op,Sb c.name,Sb c.tail,I c.type_,Cx c.num,Sl o c.args p,I c.at_]]) aw rfl rfl rfl (Aa (Ag (x:=a) ay) (Aa (Ag (x:=c) ax) Ba)) (A9 rfl (A9 rfl Gg)) rfl;Vx (Run.fieldAddr KR rfl)<|have az:=Y2 an f l;Vx (Run.load1 Be rfl (Bk.cell az rfl))<|Vx (v:=.agg [I d,Sb ([]:List UInt8),Sb ([]:List UInt8),I 0,Cx (((0,0):Nat×Nat)),Sl (some ⟨g,0,none⟩) (([a,c]:List AD)) 2,I e.at_].toArray) (Bp DJ Mc rfl (.cons rfl rfl rfl (.cons rfl rfl rfl (.cons rfl rfl rfl .nil))))<|have a0:=Bs ap l;Eu (Bf (vs:=[I d,Sb ([]:List UInt8),Sb ([]:List UInt8),I 0,Cx (((0,0):Nat×Nat)),Sl (some ⟨g,0,none⟩) (([a,c]:List AD)) 2,I e.at_]) (cs':=[I d,Sb ([]:List UInt8),Sb ([]:List UInt8),I 0,Cx (((0,0):Nat×Nat)),Sl (some ⟨g,0,none⟩) (([a,c]:List AD)) 2,I e.at_]) Dd rfl rfl rfl rfl (AU rfl (AU rfl (AU rfl (AU rfl (AU rfl (AU (Own.one z) (AU rfl CI))))))) a0 dcd rfl rfl fun bl a1 aa=>?_)
 refine AA<|AZ<|have a2:=Os z aa; ?_
 obtain ⟨a3,ab,a4⟩:=Own.freeze (S:=[24]) a2 dcd dcd
 obtain rfl:=AP u
 refine have a5:=Bs a1 ab;A0 (B:=B) ah (BQ rfl (.agg BL rfl rfl (Bk.part a5 0 [I d,Sb ([]:List UInt8),Sb ([]:List UInt8),I 0,Cx (((0,0):Nat×Nat)),Sl (some ⟨g,0,none⟩) (([a,c]:List AD)) 2,I e.at_] rfl)) ?_)
 exact ⟨a3,[I d,Sb ([]:List UInt8),Sb ([]:List UInt8),I 0,Cx (((0,0):Nat×Nat)),Sl (some ⟨g,0,none⟩) (([a,c]:List AD)) 2,I e.at_],rfl,Ho (T2 (T4 (Mo [23,24] s) q h f l) aa ab) ad,(Ag (x:=(AD.mk d ([]:List UInt8) ([]:List UInt8) 0 ((0,0):Nat×Nat) ([a,c]:List AD) e.at_)) a4)⟩
theorem Lf:H2.Spec H2:=by
 intro a c p q r s u w y z d e f g
 refine Calls.mono (Sx (recol (see []) a) c (A3 lbr a) d (Av AJ e []) (Av AJ f []) (Av AW g [])) ?_
 rintro aa ab ⟨h,l,m,n,o⟩
 exact ⟨glue [] c a h,l,m,Ah n A2,BA AJ o⟩
def HE.At(e:Col)(a:World)(f:Bts→Option Int):Prop:=
 ∀{c:Bts} {d:Int},f c=some d→
  Calls Tryz.prog 163 #[Sb c] a fun g h=>∃(l:Col),g=.returned (I d)∧AO [] e a l h
def HE.Spec(f:Bts→Option Int):Prop:=
 ∀(a:Col) (c:World),HE.At a c f
theorem R3(d:Col)(g:World)(e:∀b,d b<10):HE.At d g HE:=by
 intro c s a
 rw [HE] at a
 refine A5 Tryz.func163 rfl Tryz.ntmps163 rfl fun B f u=>Sr<|Va (I 0)<|AA<|Ac<|Sr<|Vm<|AA<|Ao<|Sr<|Vx (v:=.bool (c==([116,114,117,101]:List UInt8))) (Run.strEq rfl rfl)<|Va (.bool (c==([116,114,117,101]:List UInt8)))<|AA<|Cn a (fun h a=>?_) fun h a=>?_
 refine Sr<|Va (I 2)<|AA<|AZ ?_
 obtain rfl:=AP a
 refine A0 (B:=B) f (BQ rfl (.tmp rfl) ?_)
 exact ⟨d,rfl,Ho (AO.refl [] _ _) e⟩
 refine Sr<|Vx (v:=.bool (c==([102,97,108,115,101]:List UInt8))) (Run.strEq rfl rfl)<|Va (.bool (c==([102,97,108,115,101]:List UInt8)))<|AA<|Cn a (fun l a=>?_) fun l a=>?_
 refine Sr<|Va (I 3)<|AA<|AZ ?_
 obtain rfl:=AP a
 refine A0 (B:=B) f (BQ rfl (.tmp rfl) ?_)
 exact ⟨d,rfl,Ho (AO.refl [] _ _) e⟩
 refine Sr<|Vx (v:=.bool (c==([110,105,108]:List UInt8))) (Run.strEq rfl rfl)<|Va (.bool (c==([110,105,108]:List UInt8)))<|AA<|Cn a (fun m a=>?_) fun m a=>?_
 refine Sr<|Va (I 4)<|AA<|AZ ?_
 obtain rfl:=AP a
 refine A0 (B:=B) f (BQ rfl (.tmp rfl) ?_)
 exact ⟨d,rfl,Ho (AO.refl [] _ _) e⟩
 refine Sr<|Vx (v:=.bool (c==([102,97,105,108]:List UInt8))) (Run.strEq rfl rfl)<|Va (.bool (c==([102,97,105,108]:List UInt8)))<|AA<|Cn a (fun n a=>?_) fun n a=>?_
 refine Sr<|Va (I 5)<|AA<|AZ ?_
 obtain rfl:=AP a
 refine A0 (B:=B) f (BQ rfl (.tmp rfl) ?_)
 exact ⟨d,rfl,Ho (AO.refl [] _ _) e⟩
 refine Sr<|Vx (v:=.bool (c==([110,111,116]:List UInt8))) (Run.strEq rfl rfl)<|Va (.bool (c==([110,111,116]:List UInt8)))<|AA<|Cn a (fun o a=>?_) fun o a=>?_
 refine Sr<|Va (I 14)<|AA<|AZ ?_
 obtain rfl:=AP a
 refine A0 (B:=B) f (BQ rfl (.tmp rfl) ?_)
 exact ⟨d,rfl,Ho (AO.refl [] _ _) e⟩
 refine Sr<|Vx (v:=.bool (c==([114,101]:List UInt8))) (Run.strEq rfl rfl)<|Va (.bool (c==([114,101]:List UInt8)))<|AA<|Cn a (fun p a=>?_) fun p a=>?_
 refine Sr<|Va (I 15)<|AA<|AZ ?_
 obtain rfl:=AP a
 refine A0 (B:=B) f (BQ rfl (.tmp rfl) ?_)
 exact ⟨d,rfl,Ho (AO.refl [] _ _) e⟩
 refine Sr<|Vx (v:=.bool (c==([105,109]:List UInt8))) (Run.strEq rfl rfl)<|Va (.bool (c==([105,109]:List UInt8)))<|AA<|Cn a (fun q a=>?_) fun q a=>?_
 refine Sr<|Va (I 16)<|AA<|AZ ?_
 obtain rfl:=AP a
 refine A0 (B:=B) f (BQ rfl (.tmp rfl) ?_)
 exact ⟨d,rfl,Ho (AO.refl [] _ _) e⟩
 refine Sr<|Vx (v:=.bool (c==([99,111,110,106]:List UInt8))) (Run.strEq rfl rfl)<|Va (.bool (c==([99,111,110,106]:List UInt8)))<|AA<|Cn a (fun r a=>?_) fun r a=>?_
 refine Sr<|Va (I 17)<|AA<|AZ ?_
 obtain rfl:=AP a
 refine A0 (B:=B) f (BQ rfl (.tmp rfl) ?_)
 exact ⟨d,rfl,Ho (AO.refl [] _ _) e⟩
 refine WC.skip<|Sr<|Va (I 0)<|AA<|AZ ?_
 obtain rfl:=AP a
 refine A0 (B:=B) f (BQ rfl (.tmp rfl) ?_)
 exact ⟨d,rfl,Ho (AO.refl [] _ _) e⟩
theorem Mf:HE.Spec HE:=by
 intro a c h l d
 refine Calls.mono (R3 (recol (see []) a) c (A3 lbr a) d) ?_
 rintro m n ⟨e,f,g⟩
 exact ⟨glue [] c a e,f,Ah g A2⟩
def ref04_reader_expr.At(G1 G2:Prop)(e:Col)(a:World)(f:AB→Option (AD×AB))(g:Nat):Prop:=
 ∀{h:Nat} {m:AB} {n:List Value} {l:AD×AB},f m=some l→G1→G2→Bk e a g h n 126→Al.rep e.F a n m→
  Calls Tryz.prog 106 #[Pt h 0] a fun q c=>∃(d:Col) (o:List Value) (p:List Value),q=.returned (.agg o.toArray)∧AO [g] e a d c∧AJ.rep d.F c o l.1∧Bk d c g h p 126∧Al.rep d.F c p l.2
def ref04_reader_expr.Spec(f:AB→Option (AD×AB)):Prop:=
 ∀(c:Col) (d:World) {a:Nat},ref04_reader_expr.At ([a].Nodup) (0∉[a]) c d f a
def ref04_reader_cons.At(G1 G2:Prop)(e:Col)(a:World)(f:AB→Option (AD×AB))(g:Nat):Prop:=
 ∀{h:Nat} {m:AB} {n:List Value} {l:AD×AB},f m=some l→G1→G2→Bk e a g h n 126→Al.rep e.F a n m→
  Calls Tryz.prog 131 #[Pt h 0] a fun q c=>∃(d:Col) (o:List Value) (p:List Value),q=.returned (.agg o.toArray)∧AO [g] e a d c∧AJ.rep d.F c o l.1∧Bk d c g h p 126∧Al.rep d.F c p l.2
def ref04_reader_cons.Spec(f:AB→Option (AD×AB)):Prop:=
 ∀(c:Col) (d:World) {a:Nat},ref04_reader_cons.At ([a].Nodup) (0∉[a]) c d f a
def ref04_reader_parts.At(G1 G2:Prop)(c:Col)(a:World)(f:AB→(List Bts)→Option ((List AD)×AB))(g:Nat):Prop:=
 ∀{h:Nat} {m:AB} {n:List Value} {o:(List Bts)} {p:Value} {l:(List AD)×AB},f m o=some l→G1→G2→Bk c a g h n 126→Al.rep c.F a n m→Slc E9 c.F a p o→
  Calls Tryz.prog 132 #[Pt h 0,p] a fun s d=>∃(e:Col) (q:Value) (r:List Value),s=.returned q∧AO [g] c a e d∧Slc AJ e.F d q l.1∧Bk e d g h r 126∧Al.rep e.F d r l.2
def ref04_reader_parts.Spec(f:AB→(List Bts)→Option ((List AD)×AB)):Prop:=
 ∀(c:Col) (d:World) {a:Nat},ref04_reader_parts.At ([a].Nodup) (0∉[a]) c d f a
def ref04_reader_branches.At(G1 G2:Prop)(c:Col)(a:World)(f:AB→AD→Option (AB×AD))(g:Nat)(h:Nat):Prop:=
 ∀{l:Nat} {o:AB} {p:List Value} {m:Nat} {q:AD} {r:List Value} {n:AB×AD},f o q=some n→G1→G2→Bk c a g l p 126→Al.rep c.F a p o→Bk c a h m r 56→AJ.rep c.F a r q→
  Calls Tryz.prog 133 #[Pt l 0,Pt m 0] a fun w d=>∃(e:Col) (s:List Value) (u:List Value),w=.returned (.tuple #[])∧AO [g,h] c a e d∧Bk e d g l s 126∧Al.rep e.F d s n.1∧Bk e d h m u 56∧AJ.rep e.F d u n.2
def ref04_reader_branches.Spec(f:AB→AD→Option (AB×AD)):Prop:=
 ∀(d:Col) (e:World) {a:Nat} {c:Nat},ref04_reader_branches.At ([a,c].Nodup) (0∉[a,c]) d e f a c
def ref04_reader_comp.At(G1 G2:Prop)(e:Col)(a:World)(f:AB→Option (AD×AB))(g:Nat):Prop:=
 ∀{h:Nat} {m:AB} {n:List Value} {l:AD×AB},f m=some l→G1→G2→Bk e a g h n 126→Al.rep e.F a n m→
  Calls Tryz.prog 143 #[Pt h 0] a fun q c=>∃(d:Col) (o:List Value) (p:List Value),q=.returned (.agg o.toArray)∧AO [g] e a d c∧AJ.rep d.F c o l.1∧Bk d c g h p 126∧Al.rep d.F c p l.2
def ref04_reader_comp.Spec(f:AB→Option (AD×AB)):Prop:=
 ∀(c:Col) (d:World) {a:Nat},ref04_reader_comp.At ([a].Nodup) (0∉[a]) c d f a
def ref04_reader_sum.At(G1 G2:Prop)(e:Col)(a:World)(f:AB→Option (AD×AB))(g:Nat):Prop:=
 ∀{h:Nat} {m:AB} {n:List Value} {l:AD×AB},f m=some l→G1→G2→Bk e a g h n 126→Al.rep e.F a n m→
  Calls Tryz.prog 148 #[Pt h 0] a fun q c=>∃(d:Col) (o:List Value) (p:List Value),q=.returned (.agg o.toArray)∧AO [g] e a d c∧AJ.rep d.F c o l.1∧Bk d c g h p 126∧Al.rep d.F c p l.2
def ref04_reader_sum.Spec(f:AB→Option (AD×AB)):Prop:=
 ∀(c:Col) (d:World) {a:Nat},ref04_reader_sum.At ([a].Nodup) (0∉[a]) c d f a
def ref04_reader_term.At(G1 G2:Prop)(e:Col)(a:World)(f:AB→Option (AD×AB))(g:Nat):Prop:=
 ∀{h:Nat} {m:AB} {n:List Value} {l:AD×AB},f m=some l→G1→G2→Bk e a g h n 126→Al.rep e.F a n m→
  Calls Tryz.prog 151 #[Pt h 0] a fun q c=>∃(d:Col) (o:List Value) (p:List Value),q=.returned (.agg o.toArray)∧AO [g] e a d c∧AJ.rep d.F c o l.1∧Bk d c g h p 126∧Al.rep d.F c p l.2
def ref04_reader_term.Spec(f:AB→Option (AD×AB)):Prop:=
 ∀(c:Col) (d:World) {a:Nat},ref04_reader_term.At ([a].Nodup) (0∉[a]) c d f a
def ref04_reader_unit.At(G1 G2:Prop)(e:Col)(a:World)(f:AB→Option (AD×AB))(g:Nat):Prop:=
 ∀{h:Nat} {m:AB} {n:List Value} {l:AD×AB},f m=some l→G1→G2→Bk e a g h n 126→Al.rep e.F a n m→
  Calls Tryz.prog 157 #[Pt h 0] a fun q c=>∃(d:Col) (o:List Value) (p:List Value),q=.returned (.agg o.toArray)∧AO [g] e a d c∧AJ.rep d.F c o l.1∧Bk d c g h p 126∧Al.rep d.F c p l.2
def ref04_reader_unit.Spec(f:AB→Option (AD×AB)):Prop:=
 ∀(c:Col) (d:World) {a:Nat},ref04_reader_unit.At ([a].Nodup) (0∉[a]) c d f a
def ref04_reader_named.At(G1 G2:Prop)(c:Col)(a:World)(f:AB→AX→Option (AD×AB))(g:Nat):Prop:=
 ∀{h:Nat} {m:AB} {n:List Value} {o:AX} {p:List Value} {l:AD×AB},f m o=some l→G1→G2→Bk c a g h n 126→Al.rep c.F a n m→AW.rep c.F a p o→
  Calls Tryz.prog 162 #[Pt h 0,.agg p.toArray] a fun s d=>∃(e:Col) (q:List Value) (r:List Value),s=.returned (.agg q.toArray)∧AO [g] c a e d∧AJ.rep e.F d q l.1∧Bk e d g h r 126∧Al.rep e.F d r l.2
def ref04_reader_named.Spec(f:AB→AX→Option (AD×AB)):Prop:=
 ∀(c:Col) (d:World) {a:Nat},ref04_reader_named.At ([a].Nodup) (0∉[a]) c d f a
structure AC.Good(a:AC):Prop where
 ref04_reader_expr:ref04_reader_expr.Spec a.ref04_reader_expr
 ref04_reader_cons:ref04_reader_cons.Spec a.ref04_reader_cons
 ref04_reader_parts:ref04_reader_parts.Spec a.ref04_reader_parts
 ref04_reader_branches:ref04_reader_branches.Spec a.ref04_reader_branches
 ref04_reader_comp:ref04_reader_comp.Spec a.ref04_reader_comp
 ref04_reader_sum:ref04_reader_sum.Spec a.ref04_reader_sum
 ref04_reader_term:ref04_reader_term.Spec a.ref04_reader_term
 ref04_reader_unit:ref04_reader_unit.Spec a.ref04_reader_unit
 ref04_reader_named:ref04_reader_named.Spec a.ref04_reader_named
theorem Nh(ar:AC)(au:Nat)(b5:AC.Good ar)(cu:Col)(el:World)(cv:∀b,cu b<10):ref04_reader_expr.At True True cu el (Ce ar au) 1:=by
 intro c e i4 av a _ _ em en
 rw [Ce] at a
 obtain ⟨i5,rfl,dc⟩:=AS en
 obtain ⟨eo,ep,rfl⟩:=AI dc
 refine A5 Tryz.func106 rfl Tryz.ntmps106 rfl fun B cw f=>Sr<|Ef (AY cu 20 DJ rfl fun eq er aw cx bu=>?_)
 refine AA<|Sr<|Vm<|have bv:=Bs em bu;have b6:=Ss AW dc bu;Bi a fun n es a=>Ca (LR [Pt c 0] rfl) (B7 eq er es dcd dcd bv (AM (x:=e) b6)) ?_
 rintro _ i6 ⟨et,i7,rfl,ac,eu⟩
 obtain rfl:=Cq eu
 refine ⟨_,rfl,?_⟩
 refine Ef (AY et 21 F0 rfl fun de i8 bw ew ad=>?_)
 refine Eu (St GC ew rfl rfl rfl rfl fun df ex ae=>?_)
 refine AA<|Au (fun q b7=>∃(g:Env) (a4:Col) (m:Bool),q=g.puts [(0,.pointer (some ⟨c,0,none⟩)),(2,.pointer (some ⟨aw,0,none⟩)),(3,.pointer (some ⟨bw,0,none⟩)),(4,.bool m)]∧Cs ar au e n m=some av∧AO [] de df a4 b7) ?_ ?_
 refine AQ<|Vm<|have dg:=Y3 bv ac ad ae;have dh:=K3 AW b6 ac ad ae;Bi a fun i9 ey a=>Ca (KE [Pt c 0,Sb ([108,101,116]:List UInt8)] rfl) (CX de df ey dcd dcd dg (AM (x:=e) dh)) ?_
 rintro _ ez ⟨di,rfl,bx⟩
 refine ⟨_,rfl,?_⟩
 refine Vm<|Bo a (fun a5 a=>?_) fun a5 a=>?_
 refine Pg a5<|Pg a5<|Vp a5<|Vm<|Pg rfl<|Pg rfl<|Vr (.bool true)<|Va (.bool true)<|AA<|⟨_,di,true,Pu,a,(Mo [] bx)⟩
 refine Gm a5<|have dj:=Bs dg bx;have dk:=Ss AW dh bx;Bi a fun ja e0 a=>Bx (.guard (t:=false) (b:=false) rfl rfl rfl rfl (Cb a5)) rfl rfl (KE [Pt c 0,Sb ([115,116,114,105,99,116]:List UInt8)] rfl)<|Calls.mono (CX di ez e0 dcd dcd dj (AM (x:=e) dk)) ?_
 rintro _ e1 ⟨dl,rfl,b8⟩
 refine ⟨_,rfl,?_⟩
 refine Vp a5<|Vm<|Bo a (fun a6 a=>?_) fun a6 a=>?_
 refine Pg a6<|Pg a6<|Vp a6<|Va (.bool true)<|AA<|⟨_,dl,true,Pu,a,(Tn (Mo [] bx) b8)⟩
 refine Gm a6<|have e2:=Bs dj b8;have e3:=Ss AW dk b8;Bi a fun dm e4 a=>Bx (.guard (t:=false) (b:=false) rfl rfl rfl rfl (Cb a6)) rfl rfl (KE [Pt c 0,Sb ([99,97,115,101]:List UInt8)] rfl)<|Calls.mono (CX dl e1 e4 dcd dcd e2 (AM (x:=e) e3)) ?_
 rintro _ jb ⟨e5,rfl,e6⟩
 refine ⟨_,rfl,?_⟩
 refine Vp a6<|Va (.bool dm)<|AA<|⟨_,e5,dm,Pu,a,(T2 (Mo [] bx) b8 e6)⟩
 rintro _ b7 ⟨g,a4,m,rfl,a,af⟩
 rw [Cs] at a
 refine Au (fun q bh=>∃(g:Env) (ax:Col) (o:(List AX)) (bz:Option Addr) (b0:Nat) (r:Int) (s:Int) (w:Int) (y:Int) (z:Int) (aa:Int) (ab:Int) (ah:Int),q=g.puts [(0,.pointer (some ⟨c,0,none⟩)),(2,.pointer (some ⟨aw,0,none⟩)),(3,.pointer (some ⟨bw,0,none⟩)),(4,.bool m)]∧DS ar au n m o r s w y z aa ab ah=some av∧AO [1] a4 b7 ax bh∧Slc AW ax.F bh (Sl bz o b0) o∧Bk ax bh 1 c [Sl bz o b0,I r,I s,I w,I y,I z,I aa,I ab,I ah] 126) ?_ ?_
 refine Au (fun q cy=>∃(g:Env) (b9:Col) (cz:Bool),q=g.puts [(0,.pointer (some ⟨c,0,none⟩)),(2,.pointer (some ⟨aw,0,none⟩)),(3,.pointer (some ⟨bw,0,none⟩)),(4,.bool m),(31,.bool cz)]∧DT ar au e n m cz=some av∧AO [] a4 b7 b9 cy) ?_ ?_
 refine Cc Ff (.q 0 (.q 1 (.q 2 (.q 3 (.q 4 (.q 5 (.q 6 (.q 7 (.q 8 (.q 9 (.q 10 (.q 11 (.q 12 .nil))))))))))))) [] [] a4 (by kernel_rfl) fun jc c0=>Qx f rfl (v:=.bool m) (fun _ ⟨_,u⟩=>Run.move rfl)<|Qx f rfl (v:=.bool m) (fun _ ⟨_,u⟩=>Run.move rfl)<|Bo a (fun l a=>?_) fun l a=>?_
 refine BC (fun _ _ _ _ h=>f _ _ _ _ h) rfl rfl (.guard (t:=true) (b:=true) rfl rfl rfl rfl (Cb l)) rfl rfl (v:=Pt c 0) (fun _ ⟨_,u⟩=>Run.move rfl)<|BC (fun _ _ _ _ h=>f _ _ _ _ h) rfl rfl (.guard (t:=true) (b:=true) rfl rfl rfl rfl (Cb l)) rfl rfl (v:=Pt c 0) (fun _ ⟨_,u⟩=>Run.nilCheck rfl)<|BC (fun _ _ _ _ h=>f _ _ _ _ h) rfl rfl (.guard (t:=true) (b:=true) rfl rfl rfl rfl (Cb l)) rfl rfl (v:=Pt c 8) (fun _ ⟨_,u⟩=>Run.fieldAddr Mw rfl)<|have dn:=Bs (Y4 bv ac ad ae af) c0;BC (fun _ _ _ _ h=>f _ _ _ _ h) rfl rfl (.guard (t:=true) (b:=true) rfl rfl rfl rfl (Cb l)) rfl rfl (v:=I e.nest) (fun _ ⟨_,u⟩=>Run.load1 Be rfl (Bk.cell (Bs dn u) rfl))<|BC (fun _ _ _ _ h=>f _ _ _ _ h) rfl rfl (.guard (t:=true) (b:=true) rfl rfl rfl rfl (Cb l)) rfl rfl (v:=Pt c 0) (fun _ ⟨_,u⟩=>Run.move rfl)<|BC (fun _ _ _ _ h=>f _ _ _ _ h) rfl rfl (.guard (t:=true) (b:=true) rfl rfl rfl rfl (Cb l)) rfl rfl (v:=Pt c 0) (fun _ ⟨_,u⟩=>Run.nilCheck rfl)<|BC (fun _ _ _ _ h=>f _ _ _ _ h) rfl rfl (.guard (t:=true) (b:=true) rfl rfl rfl rfl (Cb l)) rfl rfl (v:=Pt c 4) (fun _ ⟨_,u⟩=>Run.fieldAddr P7 rfl)<|BC (fun _ _ _ _ h=>f _ _ _ _ h) rfl rfl (.guard (t:=true) (b:=true) rfl rfl rfl rfl (Cb l)) rfl rfl (v:=Pt c 7) (fun _ ⟨_,u⟩=>Run.fieldAddr XY rfl)<|BC (fun _ _ _ _ h=>f _ _ _ _ h) rfl rfl (.guard (t:=true) (b:=true) rfl rfl rfl rfl (Cb l)) rfl rfl (v:=I e.l.nest) (fun _ ⟨_,u⟩=>Run.load1 Be rfl (Bk.cell (Bs dn u) rfl))<|BC (fun _ _ _ _ h=>f _ _ _ _ h) rfl rfl (.guard (t:=true) (b:=true) rfl rfl rfl rfl (Cb l)) rfl rfl (v:=.bool (decide (e.nest≥e.l.nest))) (fun _ ⟨_,u⟩=>rfl)<|Qx f rfl (v:=.bool (decide (e.nest≥e.l.nest))) (fun _ ⟨_,u⟩=>(Pk l))<|Ex<|⟨_,a4,(decide (e.nest≥e.l.nest)),Pu,a,(Mo [] c0)⟩
 refine Qp f rfl l<|Qp f rfl l<|Qp f rfl l<|Qp f rfl l<|Qp f rfl l<|Qp f rfl l<|Qp f rfl l<|Qp f rfl l<|Qp f rfl l<|Qp f rfl l<|Qx f rfl (v:=.bool false) (fun _ ⟨_,u⟩=>(Pk l))<|Ex<|⟨_,a4,false,Pu,a,(Mo [] c0)⟩
 rintro _ cy ⟨g,b9,cz,rfl,a,bi⟩
 rw [DT] at a
 refine Cn a (fun e7 a=>?_) fun e7 a=>?_
 refine AQ<|Vm<|have e8:=Bs (Y4 bv ac ad ae af) bi;have e9:=Ss AW (K4 AW b6 ac ad ae af) bi;Bi a fun al fa a=>Ca (NA [Pt c 0,I 23] rfl) (EU b9 cy fa dcd dcd e8 (AM (x:=e) e9)) ?_
 rintro _ jd ⟨fb,je,rfl,fc,fd,fe⟩
 obtain ⟨jf,rfl,dp⟩:=AS fe
 obtain ⟨ff,fg,rfl⟩:=AI dp
 refine ⟨_,rfl,?_⟩
 refine AA<|⟨_,fb,al.marks,ff,fg,al.at_,al.why,al.where_,al.l.text,al.l.funcs,al.l.arity,al.l.nest,al.nest,Pu,a,(Tn (Mo [1] bi) fc),dp,fd⟩
 refine WC.skip<|have fh:=Ss AW (K4 AW b6 ac ad ae af) bi;have fi:=Bs (Y4 bv ac ad ae af) bi;⟨_,b9,e.marks,eo,ep,e.at_,e.why,e.where_,e.l.text,e.l.funcs,e.l.arity,e.l.nest,e.nest,Pu,a,(Mo [1] bi),fh,fi⟩
 rintro _ bh ⟨g,ax,o,bz,b0,r,s,w,y,z,aa,ab,ah,rfl,a,a7,bj,bk⟩
 rw [DS] at a
 refine Ac<|Sr<|Vm<|Vx (Run.nilCheck rfl)<|Vx (Run.fieldAddr H3 rfl)<|Vx (Run.load1 Be rfl (Bk.cell bk rfl))<|Vr (.bool (s != 0))<|AA<|Cn a (fun fj a=>?_) fun fj a=>?_
 refine Sr<|Vx (v:=.agg [I 0,Sb ([]:List UInt8),Sb ([]:List UInt8),I 0,Cx (((0,0):Nat×Nat)),.slice none 0 0,I 0].toArray) (Bp DJ Mc rfl .nil)<|have fk:=Bs (Y4 cx ac ad ae af) a7;Eu (St Dd fk rfl rfl rfl rfl fun jg fl c1=>?_)
 refine AA<|AZ ?_
 obtain rfl:=AP a
 refine A0 (B:=B) cw (BQ rfl (.agg BL rfl rfl (Bk.part fl 0 [I 0,Sb ([]:List UInt8),Sb ([]:List UInt8),I 0,Cx (((0,0):Nat×Nat)),.slice none 0 0,I 0] rfl)) ?_)
 refine have fm:=Bs bk c1;have fn:=Ss AW bj c1;⟨ax,[I 0,Sb ([]:List UInt8),Sb ([]:List UInt8),I 0,Cx (((0,0):Nat×Nat)),.slice none 0 0,I 0],[Sl bz o b0,I r,I s,I w,I y,I z,I aa,I ab,I ah],rfl,Ho (T2 (T4 (Mo [1,20,21] bu) ac ad ae af) a7 c1) cv,(Ag (x:=(AD.mk 0 ([]:List UInt8) ([]:List UInt8) 0 ((0,0):Nat×Nat) [] 0)) Cd),fm,(AM (x:=(AB.mk o r s w (Ab.mk y z aa ab) ah)) fn)⟩
 refine WC.skip<|Ac<|Au (fun q ca=>∃(g:Env) (bl:Col) (c2:Bool),q=g.puts [(0,.pointer (some ⟨c,0,none⟩)),(2,.pointer (some ⟨aw,0,none⟩)),(3,.pointer (some ⟨bw,0,none⟩)),(4,.bool m),(46,.bool c2)]∧DR ar au n m o r s w y z aa ab ah c2=some av∧AO [] ax bh bl ca) ?_ ?_
 refine AQ<|Vm<|Vr (.bool (!m))<|Vm<|Bo a (fun am a=>?_) fun am a=>?_
 refine Gm am<|Bi a fun dq fo a=>Bx (.guard (t:=true) (b:=true) rfl rfl rfl rfl (Cb am)) rfl rfl (KE [Pt c 0,Sb ([105,102]:List UInt8)] rfl)<|Calls.mono (CX ax bh fo dcd dcd bk (AM (x:=(AB.mk o r s w (Ab.mk y z aa ab) ah)) bj)) ?_
 rintro _ jh ⟨fp,rfl,fq⟩
 refine ⟨_,rfl,?_⟩
 refine Gr am (.bool (!dq))<|Vp am<|AA<|⟨_,fp,(!dq),Pu,a,(Mo [] fq)⟩
 refine Pg am<|Pg am<|Pg am<|Vp am<|AA<|⟨_,ax,false,Pu,a,(AO.refl [] _ _)⟩
 rintro _ ca ⟨g,bl,c2,rfl,a,ag⟩
 rw [DR] at a
 refine Cn a (fun fr a=>?_) fun fr a=>?_
 refine Sr<|Vm<|have fs:=Bs bk ag;have ft:=Ss AW bj ag;Bi a fun d fu a=>Ca (V0 [Pt c 0] rfl) (b5.ref04_reader_cons bl ca fu dcd dcd fs (AM (x:=(AB.mk o r s w (Ab.mk y z aa ab) ah)) ft)) ?_
 rintro _ ji ⟨fv,jj,jk,rfl,dr,fw,fx,fy⟩
 obtain ⟨jl,rfl,ds⟩:=Am fw
 obtain ⟨dt,du,rfl⟩:=AI ds
 obtain ⟨jm,rfl,dv⟩:=AS fy
 obtain ⟨fz,f0,rfl⟩:=AI dv
 refine ⟨_,rfl,?_⟩
 refine have f1:=Y3 (Y4 cx ac ad ae af) a7 ag dr;Eu (St Dd f1 rfl rfl rfl rfl fun jn f2 cb=>?_)
 refine AA<|AZ ?_
 obtain rfl:=AP a
 refine A0 (B:=B) cw (BQ rfl (.agg BL rfl rfl (Bk.part f2 0 [I d.1.op,Sb d.1.name,Sb d.1.tail,I d.1.type_,Cx d.1.num,Sl dt d.1.args du,I d.1.at_] rfl)) ?_)
 refine have f3:=Ss AJ ds cb;have f4:=Bs fx cb;have f5:=Ss AW dv cb;⟨fv,[I d.1.op,Sb d.1.name,Sb d.1.tail,I d.1.type_,Cx d.1.num,Sl dt d.1.args du,I d.1.at_],[Sl fz d.2.marks f0,I d.2.at_,I d.2.why,I d.2.where_,I d.2.l.text,I d.2.l.funcs,I d.2.l.arity,I d.2.l.nest,I d.2.nest],rfl,Ho (T4 (T4 (Mo [1,20,21] bu) ac ad ae af) a7 ag dr cb) cv,(Ag (x:=d.1) f3),f4,(AM (x:=d.2) f5)⟩
 refine WC.skip<|Au (fun q c3=>∃(g:Env) (cc:Col) (a8:Int),q=g.puts [(0,.pointer (some ⟨c,0,none⟩)),(2,.pointer (some ⟨aw,0,none⟩)),(3,.pointer (some ⟨bw,0,none⟩)),(4,.bool m)]∧DQ ar au n m o r s w y z aa ab a8=some av∧AO [1] bl ca cc c3∧Bk cc c3 1 c [Sl bz o b0,I r,I s,I w,I y,I z,I aa,I ab,I a8] 126) ?_ ?_
 refine Sr<|Vm<|AA<|Cn a (fun f6 a=>?_) fun f6 a=>?_
 refine AQ<|Vm<|Vx (Run.nilCheck rfl)<|Vx (Run.fieldAddr Mw rfl)<|have dw:=Bs bk ag;Vx (Run.load1 Be rfl (Bk.cell dw rfl))<|Vr (I (Wr (ah+1)))<|Vx (Run.nilCheck rfl)<|Vx (Run.fieldAddr Mw rfl)<|Eu (St Lz dw rfl rfl rfl rfl fun jo f7 f8=>?_)
 refine AA<|⟨_,bl,(Wr (ah+1)),Pu,a,(Mo [1] f8),f7⟩
 refine WC.skip<|have f9:=Bs bk ag;⟨_,bl,ah,Pu,a,(AO.refl [1] _ _),f9⟩
 rintro _ c3 ⟨g,cc,a8,rfl,a,bm,dx⟩
 rw [DQ] at a
 refine Sr<|Vm<|Vx (Run.nilCheck rfl)<|Vx (Run.fieldAddr Fd rfl)<|Vx (Run.load1 Be rfl (Bk.cell dx rfl))<|Vr (I (Wr (r+1)))<|Vx (Run.nilCheck rfl)<|Vx (Run.fieldAddr Fd rfl)<|Eu (St Lz dx rfl rfl rfl rfl fun jp c4 bn=>?_)
 refine AA<|Sr<|Vx (Run.fieldAddr KR rfl)<|have dy:=Bs (Y4 ex af a7 ag bm) bn;Vx (Run.load1 Be rfl (Bk.cell dy rfl))<|Vx (v:=.agg [I 0,Sb ([]:List UInt8),Sb ([]:List UInt8),I 0,Cx (((0,0):Nat×Nat)),.slice none 0 0,I n.at_].toArray) (Bp DJ Mc rfl (.cons rfl rfl rfl .nil))<|Ef (AY cc 22 DJ rfl fun bo jq bp ga an=>?_)
 refine Eu (St Dd ga rfl rfl rfl rfl fun dz c5 ao=>?_)
 refine AA<|Au (fun q a9=>∃(g:Env) (ap:Col) (aq:(List AX)) (b1:Option Addr) (b2:Nat) (ba:Int) (bb:Int) (bc:Int) (bd:Int) (be:Int) (bf:Int) (bg:Int) (bq:Int) (ay:Int) (az:Bts) (a0:Bts) (a1:Int) (a2:(Nat×Nat)) (ai:(List AD)) (br:Option Addr) (bt:Nat) (a3:Int),q=g.puts [(0,.pointer (some ⟨c,0,none⟩)),(2,.pointer (some ⟨aw,0,none⟩)),(4,.bool m),(5,.pointer (some ⟨bp,0,none⟩))]∧EK m aq ba bb bc bd be bf bg bq ay az a0 a1 a2 ai a3=some av∧AO [1,22,23,24,25] bo dz ap a9∧Slc AW ap.F a9 (Sl b1 aq b2) aq∧Slc AJ ap.F a9 (Sl br ai bt) ai∧Bk ap a9 1 c [Sl b1 aq b2,I ba,I bb,I bc,I bd,I be,I bf,I bg,I bq] 126∧Bk ap a9 22 bp [I ay,Sb az,Sb a0,I a1,Cx a2,Sl br ai bt,I a3] 56) ?_ ?_
 refine Sr<|Vx (Run.fieldAddr Eo rfl)<|have d0:=Y2 dy an ao;Vx (Run.load1 De rfl (Bk.cell d0 rfl))<|AA<|Ao<|Sr<|Vx (v:=.bool (n.text==([105,102]:List UInt8))) (Run.strEq rfl rfl)<|Va (.bool (n.text==([105,102]:List UInt8)))<|AA<|Cn a (fun gb a=>?_) fun gb a=>?_
 refine Sr<|Vx (Run.fieldAddr0 GJ rfl)<|Eu (St Tz c5 rfl rfl rfl rfl fun jr gc c6=>?_)
 refine AA<|AQ<|Vm<|Ef (E1 (cs:=[Sb ([]:List UInt8),Sb ([116,104,101,110]:List UInt8),Sb ([101,108,115,101]:List UInt8)]) bo 23 [[Sb ([]:List UInt8)],[Sb ([116,104,101,110]:List UInt8)],[Sb ([101,108,115,101]:List UInt8)]] Ir Rw rfl rfl (.cons rfl rfl rfl (.cons rfl rfl rfl (.cons rfl rfl rfl .nil))) rfl fun gd d1 d2 ge cd=>?_)
 refine have gf:Own E9 9 gd d1 23 (.slice (some ⟨d2,0,none⟩) 3 3) ([([]:List UInt8),([116,104,101,110]:List UInt8),([101,108,115,101]:List UInt8)]:List Bts):=Own.lit (css:=[[Sb ([]:List UInt8)],[Sb ([116,104,101,110]:List UInt8)],[Sb ([101,108,115,101]:List UInt8)]]) ge rfl rfl rfl (Aa rfl (Aa rfl (Aa rfl Ba))) (A9 rfl (A9 rfl (A9 rfl Gg))) rfl; ?_
 obtain ⟨gg,cf,gh⟩:=Own.freeze (S:=[23]) gf dcd dcd
 refine have gi:=Bs (Y4 c4 an ao c6 cd) cf;have gj:=K4 AW (K4 AW bj ag bm bn an) ao c6 cd cf;Bi a fun aj gk a=>Ca (V1 [Pt c 0,Sl (some ⟨d2,0,none⟩) (([([]:List UInt8),([116,104,101,110]:List UInt8),([101,108,115,101]:List UInt8)]:List Bts)) 3] rfl) (b5.ref04_reader_parts gg d1 gk dcd dcd gi (AM (x:=(AB.mk o (Wr (r+1)) s w (Ab.mk y z aa ab) a8)) gj) gh) ?_
 rintro _ js ⟨gl,jt,ju,rfl,d3,d4,gm,gn⟩
 obtain ⟨go,gp,rfl⟩:=AI d4
 obtain ⟨jv,rfl,d5⟩:=AS gn
 obtain ⟨gq,gr,rfl⟩:=AI d5
 refine ⟨_,rfl,?_⟩
 refine Vx (Run.fieldAddr B6 rfl)<|have gs:=Y3 gc cd cf d3;Eu (St Rs gs rfl rfl rfl rfl fun jw gt cg=>?_)
 refine AA<|have gu:=Ss AW d5 cg;have gv:=Ss AJ d4 cg;have gw:=Bs gm cg;⟨_,gl,aj.2.marks,gq,gr,aj.2.at_,aj.2.why,aj.2.where_,aj.2.l.text,aj.2.l.funcs,aj.2.l.arity,aj.2.l.nest,aj.2.nest,19,([]:List UInt8),([]:List UInt8),0,((0,0):Nat×Nat),aj.1,go,gp,n.at_,Pu,a,(T4 (Mo [1,22,23,24,25] c6) cd cf d3 cg),gu,gv,gw,gt⟩
 refine Sr<|Vx (v:=.bool (n.text==([99,97,115,101]:List UInt8))) (Run.strEq rfl rfl)<|Va (.bool (n.text==([99,97,115,101]:List UInt8)))<|AA<|Cn a (fun gx a=>?_) fun gx a=>?_
 refine AQ<|Vm<|have gy:=Y2 c4 an ao;have gz:=Ss AW (K4 AW bj ag bm bn an) ao;Bi a fun p g0 a=>Ca (Yq [Pt c 0,Pt bp 0] rfl) (b5.ref04_reader_branches bo dz g0 dcd dcd gy (AM (x:=(AB.mk o (Wr (r+1)) s w (Ab.mk y z aa ab) a8)) gz) c5 (Ag (x:=(AD.mk 0 ([]:List UInt8) ([]:List UInt8) 0 ((0,0):Nat×Nat) [] n.at_)) Cd)) ?_
 rintro _ jx ⟨g1,jy,jz,rfl,g2,g3,g4,g5,g6⟩
 obtain ⟨j0,rfl,d6⟩:=AS g4
 obtain ⟨g7,g8,rfl⟩:=AI d6
 obtain ⟨j1,rfl,d7⟩:=Am g6
 obtain ⟨g9,ha,rfl⟩:=AI d7
 refine ⟨_,rfl,?_⟩
 refine AA<|⟨_,g1,p.1.marks,g7,g8,p.1.at_,p.1.why,p.1.where_,p.1.l.text,p.1.l.funcs,p.1.l.arity,p.1.l.nest,p.1.nest,p.2.op,p.2.name,p.2.tail,p.2.type_,p.2.num,p.2.args,g9,ha,p.2.at_,Pu,a,(Mo [1,22,23,24,25] g2),d6,d7,g3,g5⟩
 refine Sr<|Vx (Run.fieldAddr0 GJ rfl)<|Eu (St Tz c5 rfl rfl rfl rfl fun hb d8 ch=>?_)
 refine AA<|Au (fun q ci=>∃(g:Env) (cj:Col) (ck:Int),q=g.puts [(0,.pointer (some ⟨c,0,none⟩)),(2,.pointer (some ⟨aw,0,none⟩)),(4,.bool m),(5,.pointer (some ⟨bp,0,none⟩))]∧DP ar au n m o r s w y z aa ab a8 ck=some av∧AO [22] bo hb cj ci∧Bk cj ci 22 bp [I ck,Sb ([]:List UInt8),Sb ([]:List UInt8),I 0,Cx (((0,0):Nat×Nat)),.slice none 0 0,I n.at_] 56) ?_ ?_
 refine Sr<|Vx (Run.fieldAddr Eo rfl)<|have hc:=Bs d0 ch;Vx (Run.load1 De rfl (Bk.cell hc rfl))<|Vx (v:=.bool (n.text==([115,116,114,105,99,116]:List UInt8))) (Run.strEq rfl rfl)<|AA<|Cn a (fun hd a=>?_) fun hd a=>?_
 refine AQ<|Vx (Run.fieldAddr0 GJ rfl)<|Eu (St Tz d8 rfl rfl rfl rfl fun j2 he hf=>?_)
 refine AA<|⟨_,bo,22,Pu,a,(Mo [22] hf),he⟩
 refine WC.skip<|⟨_,bo,21,Pu,a,(AO.refl [22] _ _),d8⟩
 rintro _ ci ⟨g,cj,ck,rfl,a,c7,hg⟩
 rw [DP] at a
 refine Sr<|Vm<|have hh:=Y4 c4 an ao ch c7;have hi:=K3 AW (K4 AW bj ag bm bn an) ao ch c7;Bi a fun d9 hj a=>Ca (PR [Pt c 0] rfl) (HA cj ci hj dcd dcd hh (AM (x:=(AB.mk o (Wr (r+1)) s w (Ab.mk y z aa ab) a8)) hi)) ?_
 rintro _ j3 ⟨hk,j4,j5,rfl,ea,hl,hm,hn⟩
 obtain rfl:=Cq hl
 obtain ⟨j6,rfl,eb⟩:=AS hn
 obtain ⟨j7,j8,rfl⟩:=AI eb
 refine ⟨_,rfl,?_⟩
 refine Ef (AY hk 24 F0 rfl fun ho j9 ka hp cl=>?_)
 refine Eu (St GC hp rfl rfl rfl rfl fun kb hq cm=>?_)
 refine AA<|Sr<|Vx (Run.fieldAddr Eo rfl)<|Vx (Run.load1 De rfl (Bk.cell hq rfl))<|Vx (Run.fieldAddr HR rfl)<|have hr:=Y3 hg ea cl cm;Eu (St WB hr rfl rfl rfl rfl fun hs ht c8=>?_)
 refine AA<|Sr<|Vm<|have hu:=Y3 hm cl cm c8;have hw:=K3 AW eb cl cm c8;Bi a fun ec hx a=>Ca (RK [Pt c 0] rfl) (IV au ho hs hx dcd dcd hu (AM (x:=d9.2) hw)) ?_
 rintro _ kc ⟨hy,kd,rfl,ed,hz,h0⟩
 obtain ⟨ke,rfl,ee⟩:=AS h0
 obtain ⟨kf,kg,rfl⟩:=AI ee
 refine ⟨_,rfl,?_⟩
 refine Vx (Run.fieldAddr Ly rfl)<|have h1:=Bs ht ed;Eu (St Vd h1 rfl rfl rfl rfl fun kh h2 c9=>?_)
 refine AA<|AQ<|Vm<|Ef (E1 (cs:=[Sb ([61]:List UInt8),Sb ([105,110]:List UInt8)]) hy 25 [[Sb ([61]:List UInt8)],[Sb ([105,110]:List UInt8)]] Ir Rw rfl rfl (.cons rfl rfl rfl (.cons rfl rfl rfl .nil)) rfl fun h3 ef eg h4 cn=>?_)
 refine have h5:Own E9 9 h3 ef 25 (.slice (some ⟨eg,0,none⟩) 2 2) ([([61]:List UInt8),([105,110]:List UInt8)]:List Bts):=Own.lit (css:=[[Sb ([61]:List UInt8)],[Sb ([105,110]:List UInt8)]]) h4 rfl rfl rfl (Aa rfl (Aa rfl Ba)) (A9 rfl (A9 rfl Gg)) rfl; ?_
 obtain ⟨h6,co,h7⟩:=Own.freeze (S:=[25]) h5 dcd dcd
 refine have h8:=Y3 hz c9 cn co;have h9:=K3 AW ee c9 cn co;Bi a fun ak ia a=>Ca (V1 [Pt c 0,Sl (some ⟨eg,0,none⟩) (([([61]:List UInt8),([105,110]:List UInt8)]:List Bts)) 2] rfl) (b5.ref04_reader_parts h6 ef ia dcd dcd h8 (AM (x:=ec.2) h9) h7) ?_
 rintro _ ki ⟨ib,kj,kk,rfl,eh,ei,ic,id⟩
 obtain ⟨ie,ig,rfl⟩:=AI ei
 obtain ⟨kl,rfl,ej⟩:=AS id
 obtain ⟨ih,ii,rfl⟩:=AI ej
 refine ⟨_,rfl,?_⟩
 refine Vx (Run.fieldAddr B6 rfl)<|have ij:=Y3 h2 cn co eh;Eu (St Rs ij rfl rfl rfl rfl fun km ik cq=>?_)
 refine AA<|have il:=Ss AW ej cq;have im:=Ss AJ ei cq;have io:=Bs ic cq;⟨_,ib,ak.2.marks,ih,ii,ak.2.at_,ak.2.why,ak.2.where_,ak.2.l.text,ak.2.l.funcs,ak.2.l.arity,ak.2.l.nest,ak.2.nest,ck,d9.1.text,([]:List UInt8),ec.1,((0,0):Nat×Nat),ak.1,ie,ig,n.at_,Pu,a,(T3 (T4 (T4 (Mo [1,22,23,24,25] ch) c7 ea cl cm) c8 ed c9 cn) co eh cq),il,im,io,ik⟩
 rintro _ a9 ⟨g,ap,aq,b1,b2,ba,bb,bc,bd,be,bf,bg,bq,ay,az,a0,a1,a2,ai,br,bt,a3,rfl,a,ek,ip,iq,da,ir⟩
 rw [EK] at a
 refine Au (fun q db=>∃(g:Env) (cr:Col) (b3:Int),q=g.puts [(2,.pointer (some ⟨aw,0,none⟩)),(5,.pointer (some ⟨bp,0,none⟩))]∧Gq aq ba bb bc bd be bf bg ay az a0 a1 a2 ai a3 b3=some av∧AO [1] ap a9 cr db∧Bk cr db 1 c [Sl b1 aq b2,I ba,I bb,I bc,I bd,I be,I bf,I bg,I b3] 126) ?_ ?_
 refine Sr<|Vm<|AA<|Cn a (fun it a=>?_) fun it a=>?_
 refine AQ<|Vm<|Vx (Run.nilCheck rfl)<|Vx (Run.fieldAddr Mw rfl)<|Vx (Run.load1 Be rfl (Bk.cell da rfl))<|Vr (I (Wr (bq - 1)))<|Vx (Run.nilCheck rfl)<|Vx (Run.fieldAddr Mw rfl)<|Eu (St Lz da rfl rfl rfl rfl fun kn iu iv=>?_)
 refine AA<|⟨_,ap,(Wr (bq - 1)),Pu,a,(Mo [1] iv),iu⟩
 refine WC.skip<|⟨_,ap,bq,Pu,a,(AO.refl [1] _ _),da⟩
 rintro _ db ⟨g,cr,b3,rfl,a,b4,iw⟩
 rw [Gq] at a
 refine Sr<|have ix:=Bs ir b4;Vx (Run.loadN BL rfl rfl (Bk.part ix 0 [I ay,Sb az,Sb a0,I a1,Cx a2,Sl br ai bt,I a3] rfl))<|have iy:=Y4 (Y4 (Y4 cx ac ad ae af) a7 ag bm bn) an ao ek b4;have iz:=Ss AJ iq b4;Eu (St Dd iy rfl rfl rfl rfl fun ko i0 ct=>?_)
 refine AA<|AZ ?_
 obtain rfl:=AP a
 refine A0 (B:=B) cw (BQ rfl (.agg BL rfl rfl (Bk.part i0 0 [I ay,Sb az,Sb a0,I a1,Cx a2,Sl br ai bt,I a3] rfl)) ?_)
 refine have i1:=Ss AJ iz ct;have i2:=Bs iw ct;have i3:=K2 AW ip b4 ct;⟨cr,[I ay,Sb az,Sb a0,I a1,Cx a2,Sl br ai bt,I a3],[Sl b1 aq b2,I ba,I bb,I bc,I bd,I be,I bf,I bg,I b3],rfl,Ho (Tn (T4 (T4 (T4 (Mo [1,20,21,22,23,24,25] bu) ac ad ae af) a7 ag bm bn) an ao ek b4) ct) cv,(Ag (x:=(AD.mk ay az a0 a1 a2 ai a3)) i1),i2,(AM (x:=(AB.mk aq ba bb bc (Ab.mk bd be bf bg) b3)) i3)⟩
theorem Ni(c:AC)(e:Nat)(h:AC.Good c):ref04_reader_expr.Spec (Ce c e):=by
 intro d f a y z aa ab l hnd hnz g m
 refine Calls.mono (Nh c e h (recol (see [a]) d) f (A3 lbr d) l trivial trivial (A1 g [a] (A8 hnd hnz (i:=0) rfl)) (Av Al m [a])) ?_
 rintro ac ad ⟨n,o,p,q,r,s,u,w⟩
 exact ⟨glue [a] f d n,o,p,q,Ah r (DI rfl rfl),BA AJ s,B9 g u dcd,BA Al w⟩
theorem Nj(af:AC)(a2:Nat)(ag:AC.Good af)(ad:Col)(a3:World)(ah:∀b,ad b<10):ref04_reader_cons.At True True ad a3 (Cf af a2) 1:=by
 intro w a4 cy cz d _ _ a5 a6
 rw [Cf] at d
 obtain ⟨c0,rfl,ai⟩:=AS a6
 obtain ⟨c1,c2,rfl⟩:=AI ai
 refine A5 Tryz.func131 rfl Tryz.ntmps131 rfl fun B aj c3=>Sr<|Ef (AY ad 20 DJ rfl fun a7 a8 c4 ak y=>?_)
 refine AA<|Sr<|Vm<|have a9:=Bs a5 y;have ba:=Ss AW ai y;Bi d fun a bb d=>Ca (Yw [Pt w 0] rfl) (ag.ref04_reader_comp a7 a8 bb dcd dcd a9 (AM (x:=a4) ba)) ?_
 rintro _ c5 ⟨bc,c6,c7,rfl,z,bd,be,bf⟩
 obtain ⟨s26,rfl,al⟩:=Am bd
 obtain ⟨r,s,rfl⟩:=AI al
 obtain ⟨c8,rfl,am⟩:=AS bf
 obtain ⟨c9,da,rfl⟩:=AI am
 refine ⟨_,rfl,?_⟩
 refine Ef (AY bc 21 DJ rfl fun bg db dc bh q=>?_)
 refine have an:=Ss AJ al q;Eu (St Dd bh rfl rfl rfl rfl fun bi ao n=>?_)
 refine AA<|Sr<|Vm<|have ap:=Y2 be q n;have aq:=K2 AW am q n;Bi d fun l bj d=>Ca (LR [Pt w 0] rfl) (B7 bg bi bj dcd dcd ap (AM (x:=a.2) aq)) ?_
 rintro _ de ⟨bk,df,rfl,f,bl⟩
 obtain rfl:=Cq bl
 refine ⟨_,rfl,?_⟩
 refine Ef (AY bk 22 F0 rfl fun bm dg dh bn g=>?_)
 refine Eu (St GC bn rfl rfl rfl rfl fun bo bp h=>?_)
 refine AA<|Ac<|Sr<|Vm<|have bq:=Y3 ap f g h;have br:=K3 AW aq f g h;Bi d fun e bt d=>Ca (NC [Pt w 0,Sb ([58]:List UInt8)] rfl) (EV bm bo bt dcd dcd bq (AM (x:=a.2) br)) ?_
 rintro _ bu ⟨ar,di,rfl,m,au,bv⟩
 obtain ⟨dj,rfl,ae⟩:=AS bv
 obtain ⟨bw,bx,rfl⟩:=AI ae
 refine ⟨_,rfl,?_⟩
 refine Vr (.bool (!e.1))<|AA<|Cn d (fun bz d=>?_) fun bz d=>?_
 refine Sr<|have b0:=Y4 ao f g h m;Vx (Run.loadN BL rfl rfl (Bk.part b0 0 [I a.1.op,Sb a.1.name,Sb a.1.tail,I a.1.type_,Cx a.1.num,Sl r a.1.args s,I a.1.at_] rfl))<|have b1:=Y3 (Y4 ak z q n f) g h m;have b2:=Ss AJ (K4 AJ an n f g h) m;Eu (St Dd b1 rfl rfl rfl rfl fun dk b3 aa=>?_)
 refine AA<|AZ ?_
 obtain rfl:=AP d
 refine A0 (B:=B) aj (BQ rfl (.agg BL rfl rfl (Bk.part b3 0 [I a.1.op,Sb a.1.name,Sb a.1.tail,I a.1.type_,Cx a.1.num,Sl r a.1.args s,I a.1.at_] rfl)) ?_)
 refine have b4:=Ss AJ b2 aa;have b5:=Bs au aa;have b6:=Ss AW ae aa;⟨ar,[I a.1.op,Sb a.1.name,Sb a.1.tail,I a.1.type_,Cx a.1.num,Sl r a.1.args s,I a.1.at_],[Sl bw e.2.marks bx,I e.2.at_,I e.2.why,I e.2.where_,I e.2.l.text,I e.2.l.funcs,I e.2.l.arity,I e.2.l.nest,I e.2.nest],rfl,Ho (T4 (T4 (Mo [1,20,21,22] y) z q n f) g h m aa) ah,(Ag (x:=a.1) b4),b5,(AM (x:=e.2) b6)⟩
 refine WC.skip<|Sr<|Vm<|Bi d fun c b7 d=>Ca (V0 [Pt w 0] rfl) (ag.ref04_reader_cons ar bu b7 dcd dcd au (AM (x:=e.2) ae)) ?_
 rintro _ dl ⟨b8,dm,dn,rfl,u,b9,ca,cb⟩
 obtain ⟨dp,rfl,av⟩:=Am b9
 obtain ⟨aw,ax,rfl⟩:=AI av
 obtain ⟨dq,rfl,ay⟩:=AS cb
 obtain ⟨cc,cd,rfl⟩:=AI ay
 refine ⟨_,rfl,?_⟩
 refine Ef (AY b8 23 DJ rfl fun cf dr ds cg o=>?_)
 refine have ch:=Ss AJ av o;Eu (St Dd cg rfl rfl rfl rfl fun ci cj p=>?_)
 refine AA<|Sr<|have ck:=Y3 (Y4 ao f g h m) u o p;Vx (Run.loadN BL rfl rfl (Bk.part ck 0 [I a.1.op,Sb a.1.name,Sb a.1.tail,I a.1.type_,Cx a.1.num,Sl r a.1.args s,I a.1.at_] rfl))<|Vx (Run.loadN BL rfl rfl (Bk.part cj 0 [I c.1.op,Sb c.1.name,Sb c.1.tail,I c.1.type_,Cx c.1.num,Sl aw c.1.args ax,I c.1.at_] rfl))<|have cl:=Y4 bp m u o p;Vx (Run.loadN HW rfl rfl (Bk.part cl 0 [I l.kind,Sb l.text,Cx l.num,I l.at_] rfl))<|have cm:=K4 AJ (K4 AJ an n f g h) m u o p;have cn:=Ss AJ ch p;Bi d fun x135 co d=>Ca (RL [I 18,.agg [I a.1.op,Sb a.1.name,Sb a.1.tail,I a.1.type_,Cx a.1.num,Sl r a.1.args s,I a.1.at_].toArray,.agg [I c.1.op,Sb c.1.name,Sb c.1.tail,I c.1.type_,Cx c.1.num,Sl aw c.1.args ax,I c.1.at_].toArray,.agg [I l.kind,Sb l.text,Cx l.num,I l.at_].toArray] rfl) (Lf cf ci co (Ag (x:=a.1) cm) (Ag (x:=c.1) cn) (E3 (x:=l))) ?_
 rintro _ dt ⟨cq,du,rfl,ab,cr⟩
 obtain ⟨dv,rfl,az⟩:=Am cr
 obtain ⟨a0,a1,rfl⟩:=AI az
 refine ⟨_,rfl,?_⟩
 refine have ct:=Y3 (Y4 (Y4 ak z q n f) g h m u) o p ab;Eu (St Dd ct rfl rfl rfl rfl fun dw cu ac=>?_)
 refine AA<|AZ ?_
 obtain rfl:=AP d
 refine A0 (B:=B) aj (BQ rfl (.agg BL rfl rfl (Bk.part cu 0 [I x135.op,Sb x135.name,Sb x135.tail,I x135.type_,Cx x135.num,Sl a0 x135.args a1,I x135.at_] rfl)) ?_)
 refine have cv:=Ss AJ az ac;have cw:=Y4 ca o p ab ac;have cx:=K4 AW ay o p ab ac;⟨cq,[I x135.op,Sb x135.name,Sb x135.tail,I x135.type_,Cx x135.num,Sl a0 x135.args a1,I x135.at_],[Sl cc c.2.marks cd,I c.2.at_,I c.2.why,I c.2.where_,I c.2.l.text,I c.2.l.funcs,I c.2.l.arity,I c.2.l.nest,I c.2.nest],rfl,Ho (T4 (T4 (T4 (Mo [1,20,21,22,23] y) z q n f) g h m u) o p ab ac) ah,(Ag (x:=x135) cv),cw,(AM (x:=c.2) cx)⟩
theorem Nk(c:AC)(e:Nat)(h:AC.Good c):ref04_reader_cons.Spec (Cf c e):=by
 intro d f a y z aa ab l hnd hnz g m
 refine Calls.mono (Nj c e h (recol (see [a]) d) f (A3 lbr d) l trivial trivial (A1 g [a] (A8 hnd hnz (i:=0) rfl)) (Av Al m [a])) ?_
 rintro ac ad ⟨n,o,p,q,r,s,u,w⟩
 exact ⟨glue [a] f d n,o,p,q,Ah r (DI rfl rfl),BA AJ s,B9 g u dcd,BA Al w⟩
theorem NF(ab:AC)(bc:Nat)(b0:AC.Good ab)(ao:Col)(bd:World)(b1:∀b,ao b<10):ref04_reader_parts.At True True ao bd (CO ab bc) 1:=by
 intro ac g dh m di a2 c _ _ b2 b3 be
 rw [CO] at c
 obtain ⟨dj,rfl,bf⟩:=AS b3
 obtain ⟨b4,b5,rfl⟩:=AI bf
 obtain ⟨bg,bh,rfl⟩:=AI be
 refine A5 Tryz.func132 rfl Tryz.ntmps132 rfl fun B b6 dk=>Sr<|Va (.slice none 0 0)<|AA<|Sr<|Va (.slice none 0 0)<|AA<|Ac<|Sr<|Va (I 0)<|AA<|Ao<|CZ (fun n a3 o=>∃(ag:Env) (h:Col) (d:(List AD)) (ad:Option Addr) (ae:Nat) (e:Int) (f:(List AX)) (ah:Option Addr) (ai:Nat) (p:Int) (q:Int) (r:Int) (u:Int) (w:Int) (y:Int) (z:Int) (aa:Int),a3=ag.puts [(0,.pointer (some ⟨ac,0,none⟩)),(1,.slice bg m.length bh),(5,.slice ad d.length ae),(6,.int .i64 e)]∧BU ab m n d e f p q r u w y z aa=some a2∧AO [1,20,22] ao bd h o∧Own AJ 56 h o 22 (Sl ad d ae) d∧Slc AW h.F o (Sl ah f ai) f∧Bk h o 1 ac [Sl ah f ai,I p,I q,I r,I u,I w,I y,I z,I aa] 126) bc ?_ ?_
 exact ⟨_,ao,([]:List AD),none,0,0,g.marks,b4,b5,g.at_,g.why,g.where_,g.l.text,g.l.funcs,g.l.arity,g.l.nest,g.nest,Pu,c,(AO.refl [1,20,22] _ _),Own.nil,bf,b2⟩
 rintro n _ o ⟨ag,h,d,ad,ae,e,f,ah,ai,p,q,r,u,w,y,z,aa,rfl,c,a4,bi,a5,a6⟩
 rcases n with _|n
 exact BK c
 refine have c:CL ab m (BU ab m n) d e f p q r u w y z aa=some a2:=c; ?_
 obtain ⟨b7,bj⟩:∃s,s=BU ab m n:=⟨_,rfl⟩
 rw [←bj,CL] at c
 refine Ac<|Sr<|Vm<|Vm<|have bk:=Ss E9 be a4; ?_
 obtain ⟨dl,dm,b8⟩:=AI bk
 refine Vx (v:=I (m.length:Int)) (Run.lenSlc Ir b8)<|Vr (.bool (decide (e< (m.length:Int))))<|AA<|Cn c (fun b9 c=>?_) fun b9 c=>?_
 refine WC.skip<|Ac<|Ao<|Au (fun a3 aj=>∃(ag:Env) (ak:Col) (af:(List AX)) (a7:Option Addr) (a8:Nat) (ap:Int) (aq:Int) (ar:Int) (au:Int) (av:Int) (aw:Int) (ax:Int) (ay:Int),a3=ag.puts [(0,.pointer (some ⟨ac,0,none⟩)),(1,.slice bg m.length bh),(5,.slice ad d.length ae),(6,.int .i64 e)]∧C9 ab d e b7 af ap aq ar au av aw ax ay=some a2∧AO [1] h o ak aj∧Slc AW ak.F aj (Sl a7 af a8) af∧Bk ak aj 1 ac [Sl a7 af a8,I ap,I aq,I ar,I au,I av,I aw,I ax,I ay] 126) ?_ ?_
 refine Sr<|Vm<|Vm<|Bi c fun a9 ca c=>?_
 obtain ⟨cb,cc,dn,bl,bm,bn,bo,cd,az⟩:=BX (κ:=E9) bk ca
 replace az:BG h o cb (cc+e.toNat*1) bl:=az
 obtain rfl:=(show bl=[Sb a9] from cd)
 refine Vx (Run.indexAddr Ir bm rfl bn bo)<|Vx (Run.load1 De rfl (BG.cell0 az rfl))<|Vx (v:=.bool (!(a9==([]:List UInt8)))) (Run.strNe rfl rfl)<|AA<|Cn c (fun cf c=>?_) fun cf c=>?_
 refine AQ<|Vm<|Vm<|Vm<|Vx (Run.indexAddr Ir bm rfl bn bo)<|Vx (Run.load1 De rfl (BG.cell0 az rfl))<|Bi c fun l cg c=>Ca (Hx [Pt ac 0,Sb a9] rfl) (BF h o cg dcd dcd a6 (AM (x:=(AB.mk f p q r (Ab.mk u w y z) aa)) a5)) ?_
 rintro _ dp ⟨ch,dq,rfl,ci,cj,ck⟩
 obtain ⟨dr,rfl,bp⟩:=AS ck
 obtain ⟨cl,cm,rfl⟩:=AI bp
 refine ⟨_,rfl,?_⟩
 refine AA<|⟨_,ch,l.marks,cl,cm,l.at_,l.why,l.where_,l.l.text,l.l.funcs,l.l.arity,l.l.nest,l.nest,Pu,c,(Mo [1] ci),bp,cj⟩
 refine WC.skip<|⟨_,h,f,ah,ai,p,q,r,u,w,y,z,aa,Pu,c,(AO.refl [1] _ _),a5,a6⟩
 rintro _ aj ⟨ag,ak,af,a7,a8,ap,aq,ar,au,av,aw,ax,ay,rfl,c,bq,cn,co⟩
 rw [C9] at c
 refine Sr<|Vm<|Bi c fun a cq c=>Ca (MQ [Pt ac 0] rfl) (b0.ref04_reader_expr ak aj cq dcd dcd co (AM (x:=(AB.mk af ap aq ar (Ab.mk au av aw ax) ay)) cn)) ?_
 rintro _ ds ⟨cr,dt,du,rfl,br,ct,cu,cv⟩
 obtain ⟨dv,rfl,bt⟩:=Am ct
 obtain ⟨a0,a1,rfl⟩:=AI bt
 obtain ⟨dw,rfl,bu⟩:=AS cv
 obtain ⟨cw,cx,rfl⟩:=AI bu
 refine ⟨_,rfl,?_⟩
 refine Ef (AY cr 20 DJ rfl fun cy dx dy cz al=>?_)
 refine have c0:=Ss AJ bt al;Eu (St Dd cz rfl rfl rfl rfl fun dz c1 am=>?_)
 refine AA<|AQ<|Vm<|Vx (Run.loadN BL rfl rfl (Bk.part c1 0 [I a.1.op,Sb a.1.name,Sb a.1.tail,I a.1.type_,Cx a.1.num,Sl a0 a.1.args a1,I a.1.at_] rfl))<|Ef (E1 (cs:=[I a.1.op,Sb a.1.name,Sb a.1.tail,I a.1.type_,Cx a.1.num,Sl a0 a.1.args a1,I a.1.at_]) cy 21 [[I a.1.op,Sb a.1.name,Sb a.1.tail,I a.1.type_,Cx a.1.num,Sl a0 a.1.args a1,I a.1.at_]] Dx DJ rfl rfl (.cons rfl rfl rfl .nil) rfl fun c2 c3 c4 c5 an=>?_)
 refine have c6:=K2 AJ c0 am an;have c7:Own AJ 56 c2 c3 21 (.slice (some ⟨c4,0,none⟩) 1 1) ([a.1]:List AD):=Own.lit (css:=[[I a.1.op,Sb a.1.name,Sb a.1.tail,I a.1.type_,Cx a.1.num,Sl a0 a.1.args a1,I a.1.at_]]) c5 rfl rfl rfl (Aa (Ag (x:=a.1) c6) Ba) (A9 rfl Gg) rfl;have c8:=Os (Os (Os (Os (Os bi bq) br) al) am) an;Bi c fun d0 bv c=>Ef (Ey (κ:=AJ) rfl rfl c8 dcd XR (F3 c7) (JP bv) (Js bv) fun d1 c9 d2 bw ba=>?_)
 obtain ⟨bx,bz,rfl⟩:=Own.len bw
 refine Va (Sl bx ((d++([a.1]:List AD))) bz)<|AA<|AQ<|Vm<|Vr (I (Wr (e+1)))<|Va (I (Wr (e+1)))<|AA<|have da:=K4 AW bu al am an ba;have db:=Y4 cu al am an ba;⟨n,Nat.lt_succ_self n,_,c9,(d++([a.1]:List AD)),bx,bz,(Wr (e+1)),a.2.marks,cw,cx,a.2.at_,a.2.why,a.2.where_,a.2.l.text,a.2.l.funcs,a.2.l.arity,a.2.l.nest,a.2.nest,Pu,(bj▸c),(T2 (T4 (Mo [1,20,22] a4) bq br al am) an ba),bw,da,db⟩
 refine CF<|Sr<|Vm<|Va (Sl ad d ae)<|AA<|AZ ?_
 obtain ⟨dc,bb,de⟩:=Own.freeze (S:=[22]) bi dcd dcd
 obtain rfl:=AP c
 refine A0 (B:=B) b6 (BQ rfl (.tmp rfl) ?_)
 refine have df:=Bs a6 bb;have dg:=Ss AW a5 bb;⟨dc,Sl ad d ae,[Sl ah f ai,I p,I q,I r,I u,I w,I y,I z,I aa],rfl,Ho (Tn (Mo [1,20,22] a4) bb) b1,de,df,(AM (x:=(AB.mk f p q r (Ab.mk u w y z) aa)) dg)⟩
theorem NG(c:AC)(e:Nat)(h:AC.Good c):ref04_reader_parts.Spec (CO c e):=by
 intro d f a z aa ab ac ad ae l hnd hnz g m n
 refine Calls.mono (NF c e h (recol (see [a]) d) f (A3 lbr d) l trivial trivial (A1 g [a] (A8 hnd hnz (i:=0) rfl)) (Av Al m [a]) (DC E9 n [a])) ?_
 rintro af ag ⟨o,p,q,r,s,u,w,y⟩
 exact ⟨glue [a] f d o,p,q,r,Ah s (DI rfl rfl),Et AJ u,B9 g w dcd,BA Al y⟩
theorem MC(a0:AC)(bi:Nat)(ax:AC.Good a0)(ay:Col)(bj:World)(bk:∀b,ay b<10):ref04_reader_branches.At True True ay bj (Bm a0 bi) 1 2:=by
 intro f bl fb fc m fd fe e _ _ bm bn bo bp
 rw [Bm] at e
 obtain ⟨ff,rfl,a1⟩:=AS bn
 obtain ⟨fg,fh,rfl⟩:=AI a1
 obtain ⟨fi,rfl,bq⟩:=Am bp
 obtain ⟨fj,fk,rfl⟩:=AI bq
 refine A5 Tryz.func133 rfl Tryz.ntmps133 rfl fun B br fl=>Sr<|Vm<|Vx (Run.nilCheck rfl)<|Vx (Run.fieldAddr0 GJ rfl)<|Eu (St Tz bo rfl rfl rfl rfl fun bt bu az=>?_)
 refine AA<|Sr<|Vm<|have bv:=Bs bm az;have bw:=Ss AW a1 az;Bi e fun c bx e=>Ca (MQ [Pt f 0] rfl) (ax.ref04_reader_expr ay bt bx dcd dcd bv (AM (x:=bl) bw)) ?_
 rintro _ fm ⟨bz,fn,fo,rfl,a2,b0,b1,b2⟩
 obtain ⟨fp,rfl,a3⟩:=Am b0
 obtain ⟨ag,ah,rfl⟩:=AI a3
 obtain ⟨fq,rfl,a4⟩:=AS b2
 obtain ⟨fr,fs,rfl⟩:=AI a4
 refine ⟨_,rfl,?_⟩
 refine Ef (AY bz 20 DJ rfl fun b3 ft fu b4 ae=>?_)
 refine have b5:=Ss AJ a3 ae;Eu (St Dd b4 rfl rfl rfl rfl fun b6 b7 af=>?_)
 refine AA<|Sr<|Vm<|have b8:=Y2 b1 ae af;have b9:=K2 AW a4 ae af;Bi e fun ca cb e=>Ca (Hx [Pt f 0,Sb ([111,102]:List UInt8)] rfl) (BF b3 b6 cb dcd dcd b8 (AM (x:=c.2) b9)) ?_
 rintro _ cc ⟨cd,fv,rfl,ai,cf,cg⟩
 obtain ⟨fw,rfl,a5⟩:=AS cg
 obtain ⟨fx,fy,rfl⟩:=AI a5
 refine ⟨_,rfl,?_⟩
 refine AA<|Sr<|Vm<|Bi e fun ch ci e=>Ca (Hx [Pt f 0,Sb ([110,105,108]:List UInt8)] rfl) (BF cd cc ci dcd dcd cf (AM (x:=ca) a5)) ?_
 rintro _ cj ⟨ck,fz,rfl,aj,cl,cm⟩
 obtain ⟨f0,rfl,a6⟩:=AS cm
 obtain ⟨f1,f2,rfl⟩:=AI a6
 refine ⟨_,rfl,?_⟩
 refine AA<|Sr<|Vm<|Bi e fun cn co e=>Ca (Hx [Pt f 0,Sb ([45,62]:List UInt8)] rfl) (BF ck cj co dcd dcd cl (AM (x:=ch) a6)) ?_
 rintro _ cq ⟨cr,f3,rfl,ak,ct,cu⟩
 obtain ⟨f4,rfl,a7⟩:=AS cu
 obtain ⟨f5,f6,rfl⟩:=AI a7
 refine ⟨_,rfl,?_⟩
 refine AA<|Sr<|Vm<|Bi e fun d cv e=>Ca (MQ [Pt f 0] rfl) (ax.ref04_reader_expr cr cq cv dcd dcd ct (AM (x:=cn) a7)) ?_
 rintro _ f7 ⟨cw,f8,f9,rfl,al,cx,cy,cz⟩
 obtain ⟨ga,rfl,a8⟩:=Am cx
 obtain ⟨am,an,rfl⟩:=AI a8
 obtain ⟨gb,rfl,a9⟩:=AS cz
 obtain ⟨gc,gd,rfl⟩:=AI a9
 refine ⟨_,rfl,?_⟩
 refine Ef (AY cw 21 DJ rfl fun c0 ge gf c1 w=>?_)
 refine have c2:=Ss AJ a8 w;Eu (St Dd c1 rfl rfl rfl rfl fun c3 c4 y=>?_)
 refine AA<|Sr<|Vm<|have c5:=Y2 cy w y;have c6:=K2 AW a9 w y;Bi e fun c7 c8 e=>Ca (Hx [Pt f 0,Sb ([124]:List UInt8)] rfl) (BF c0 c3 c8 dcd dcd c5 (AM (x:=d.2) c6)) ?_
 rintro _ c9 ⟨da,gg,rfl,ac,db,dc⟩
 obtain ⟨gh,rfl,ba⟩:=AS dc
 obtain ⟨gi,gj,rfl⟩:=AI ba
 refine ⟨_,rfl,?_⟩
 refine AA<|Sr<|Vm<|Bi e fun ao de e=>Ca (PR [Pt f 0] rfl) (HA da c9 de dcd dcd db (AM (x:=c7) ba)) ?_
 rintro _ gk ⟨df,gl,gm,rfl,ad,dg,dh,di⟩
 obtain rfl:=Cq dg
 obtain ⟨gn,rfl,bb⟩:=AS di
 obtain ⟨go,gp,rfl⟩:=AI bb
 refine ⟨_,rfl,?_⟩
 refine Ef (AY df 22 F0 rfl fun dj gq gr dk q=>?_)
 refine Eu (St GC dk rfl rfl rfl rfl fun dl dm r=>?_)
 refine AA<|Sr<|Vm<|have dn:=Y2 dh q r;have dp:=K2 AW bb q r;Bi e fun dq dr e=>Ca (Hx [Pt f 0,Sb ([58]:List UInt8)] rfl) (BF dj dl dr dcd dcd dn (AM (x:=ao.2) dp)) ?_
 rintro _ ds ⟨dt,gs,rfl,z,du,dv⟩
 obtain ⟨gt,rfl,bc⟩:=AS dv
 obtain ⟨gu,gv,rfl⟩:=AI bc
 refine ⟨_,rfl,?_⟩
 refine AA<|Sr<|Vm<|Bi e fun ap dw e=>Ca (PR [Pt f 0] rfl) (HA dt ds dw dcd dcd du (AM (x:=dq) bc)) ?_
 rintro _ gw ⟨dx,gx,gy,rfl,aa,dy,dz,d0⟩
 obtain rfl:=Cq dy
 obtain ⟨gz,rfl,bd⟩:=AS d0
 obtain ⟨g0,g1,rfl⟩:=AI bd
 refine ⟨_,rfl,?_⟩
 refine Ef (AY dx 23 F0 rfl fun d1 g2 g3 d2 n=>?_)
 refine Eu (St GC d2 rfl rfl rfl rfl fun d3 d4 o=>?_)
 refine AA<|Sr<|Vm<|have d5:=Y2 dz n o;have d6:=K2 AW bd n o;Bi e fun d7 d8 e=>Ca (Hx [Pt f 0,Sb ([45,62]:List UInt8)] rfl) (BF d1 d3 d8 dcd dcd d5 (AM (x:=ap.2) d6)) ?_
 rintro _ d9 ⟨ea,g4,rfl,s,eb,ec⟩
 obtain ⟨g5,rfl,be⟩:=AS ec
 obtain ⟨g6,g7,rfl⟩:=AI be
 refine ⟨_,rfl,?_⟩
 refine AA<|Sr<|Vm<|Bi e fun a ed e=>Ca (MQ [Pt f 0] rfl) (ax.ref04_reader_expr ea d9 ed dcd dcd eb (AM (x:=d7) be)) ?_
 rintro _ g8 ⟨ee,g9,ha,rfl,u,ef,eg,eh⟩
 obtain ⟨hb,rfl,bf⟩:=Am ef
 obtain ⟨aq,ar,rfl⟩:=AI bf
 obtain ⟨hc,rfl,bg⟩:=AS eh
 obtain ⟨ei,ej,rfl⟩:=AI bg
 refine ⟨_,rfl,?_⟩
 refine Ef (AY ee 24 DJ rfl fun ek hd he el g=>?_)
 refine have em:=Ss AJ bf g;Eu (St Dd el rfl rfl rfl rfl fun hf en h=>?_)
 refine AA<|Sr<|Vm<|Vx (Run.fieldAddr Eo rfl)<|have eo:=Y4 (Y4 dm z aa n o) s u g h;Vx (Run.load1 De rfl (Bk.cell eo rfl))<|Vx (Run.nilCheck rfl)<|Vx (Run.fieldAddr HR rfl)<|have ep:=Bs (Y4 (Y4 (Y4 (Y4 (Y4 bu a2 ae af ai) aj ak al w) y ac ad q) r z aa n) o s u g) h;Eu (St WB ep rfl rfl rfl rfl fun hg eq l=>?_)
 refine AA<|Sr<|Vm<|Vx (Run.fieldAddr Eo rfl)<|have er:=Bs (Y4 d4 s u g h) l;Vx (Run.load1 De rfl (Bk.cell er rfl))<|Vx (Run.nilCheck rfl)<|Vx (Run.fieldAddr PU rfl)<|Eu (St WB eq rfl rfl rfl rfl fun hh es p=>?_)
 refine AA<|AQ<|Vm<|have et:=Y4 (Y4 (Y4 (Y4 (Y4 b7 ai aj ak al) w y ac ad) q r z aa) n o s u) g h l p;Vx (Run.loadN BL rfl rfl (Bk.part et 0 [I c.1.op,Sb c.1.name,Sb c.1.tail,I c.1.type_,Cx c.1.num,Sl ag c.1.args ah,I c.1.at_] rfl))<|have eu:=Y2 (Y4 (Y4 (Y4 c4 ac ad q r) z aa n o) s u g h) l p;Vx (Run.loadN BL rfl rfl (Bk.part eu 0 [I d.1.op,Sb d.1.name,Sb d.1.tail,I d.1.type_,Cx d.1.num,Sl am d.1.args an,I d.1.at_] rfl))<|have ew:=Y2 en l p;Vx (Run.loadN BL rfl rfl (Bk.part ew 0 [I a.1.op,Sb a.1.name,Sb a.1.tail,I a.1.type_,Cx a.1.num,Sl aq a.1.args ar,I a.1.at_] rfl))<|Ef (E1 (cs:=[I c.1.op,Sb c.1.name,Sb c.1.tail,I c.1.type_,Cx c.1.num,Sl ag c.1.args ah,I c.1.at_,I d.1.op,Sb d.1.name,Sb d.1.tail,I d.1.type_,Cx d.1.num,Sl am d.1.args an,I d.1.at_,I a.1.op,Sb a.1.name,Sb a.1.tail,I a.1.type_,Cx a.1.num,Sl aq a.1.args ar,I a.1.at_]) ek 25 [[I c.1.op,Sb c.1.name,Sb c.1.tail,I c.1.type_,Cx c.1.num,Sl ag c.1.args ah,I c.1.at_],[I d.1.op,Sb d.1.name,Sb d.1.tail,I d.1.type_,Cx d.1.num,Sl am d.1.args an,I d.1.at_],[I a.1.op,Sb a.1.name,Sb a.1.tail,I a.1.type_,Cx a.1.num,Sl aq a.1.args ar,I a.1.at_]] Dx DJ rfl rfl (.cons rfl rfl rfl (.cons rfl rfl rfl (.cons rfl rfl rfl .nil))) rfl fun ex ey au ez ab=>?_)
 refine have e0:=K4 AJ em h l p ab;have e1:=K4 AJ (K4 AJ (K4 AJ (K4 AJ c2 y ac ad q) r z aa n) o s u g) h l p ab;have e2:=K2 AJ (K4 AJ (K4 AJ (K4 AJ (K4 AJ (K4 AJ b5 af ai aj ak) al w y ac) ad q r z) aa n o s) u g h l) p ab;have bh:Own AJ 56 ex ey 25 (.slice (some ⟨au,0,none⟩) 3 3) ([c.1,d.1,a.1]:List AD):=Own.lit (css:=[[I c.1.op,Sb c.1.name,Sb c.1.tail,I c.1.type_,Cx c.1.num,Sl ag c.1.args ah,I c.1.at_],[I d.1.op,Sb d.1.name,Sb d.1.tail,I d.1.type_,Cx d.1.num,Sl am d.1.args an,I d.1.at_],[I a.1.op,Sb a.1.name,Sb a.1.tail,I a.1.type_,Cx a.1.num,Sl aq a.1.args ar,I a.1.at_]]) ez rfl rfl rfl (Aa (Ag (x:=c.1) e2) (Aa (Ag (x:=d.1) e1) (Aa (Ag (x:=a.1) e0) Ba))) (A9 rfl (A9 rfl (A9 rfl Gg))) rfl;Vx (Run.nilCheck rfl)<|Vx (Run.fieldAddr B6 rfl)<|have e3:=Bs es ab;Eu (Bf (vs:=[Sl (some ⟨au,0,none⟩) (([c.1,d.1,a.1]:List AD)) 3]) (cs':=[I 20,Sb ao.1.text,Sb ap.1.text,I m.type_,Cx m.num,Sl (some ⟨au,0,none⟩) (([c.1,d.1,a.1]:List AD)) 3,I m.at_]) Rs rfl rfl rfl rfl (AU (Own.one bh) CI) e3 dcd rfl rfl fun hi e4 av=>?_)
 refine AA<|have e5:=Os bh av; ?_
 obtain ⟨e6,aw,e7⟩:=Own.freeze (S:=[25]) e5 dcd dcd
 obtain rfl:=AP e
 refine Ln (B:=B) br (Lm rfl ?_)
 refine have e8:=Y3 (Y4 eg g h l p) ab av aw;have e9:=K3 AW (K4 AW bg g h l p) ab av aw;have fa:=Bs e4 aw;⟨e6,[Sl ei a.2.marks ej,I a.2.at_,I a.2.why,I a.2.where_,I a.2.l.text,I a.2.l.funcs,I a.2.l.arity,I a.2.l.nest,I a.2.nest],[I 20,Sb ao.1.text,Sb ap.1.text,I m.type_,Cx m.num,Sl (some ⟨au,0,none⟩) (([c.1,d.1,a.1]:List AD)) 3,I m.at_],rfl,Ho (T2 (T4 (T4 (T4 (T4 (T4 (T4 (Mo [1,2,20,21,22,23,24,25] az) a2 ae af ai) aj ak al w) y ac ad q) r z aa n) o s u g) h l p ab) av aw) bk,e8,(AM (x:=a.2) e9),fa,(Ag (x:=(AD.mk 20 ao.1.text ap.1.text m.type_ m.num ([c.1,d.1,a.1]:List AD) m.at_)) e7)⟩
theorem MD(d:AC)(f:Nat)(m:AC.Good d):ref04_reader_branches.Spec (Bm d f):=by
 intro e g a c ac ad ae af ag ah ai n hnd hnz h o l p
 refine Calls.mono (MC d f m (recol (see [a,c]) e) g (A3 lbr e) n trivial trivial (A1 h [a,c] (A8 hnd hnz (i:=0) rfl)) (Av Al o [a,c]) (A1 l [a,c] (A8 hnd hnz (i:=1) rfl)) (Av AJ p [a,c])) ?_
 rintro aj ak ⟨q,r,s,u,w,y,z,aa,ab⟩
 exact ⟨glue [a,c] g e q,r,s,u,Ah w (DI rfl rfl),B9 h y dcd,BA Al z,B9 l aa dcd,BA AJ ab⟩
theorem Nl(ap:AC)(b3:Nat)(a7:AC.Good ap)(a1:Col)(b4:World)(a8:∀b,a1 b<10):ref04_reader_comp.At True True a1 b4 (Cg ap b3) 1:=by
 intro p b5 d8 a9 c _ _ b6 b7
 rw [Cg] at c
 obtain ⟨d9,rfl,ba⟩:=AS b7
 obtain ⟨ea,eb,rfl⟩:=AI ba
 refine A5 Tryz.func143 rfl Tryz.ntmps143 rfl fun B bb ec=>Sr<|Ef (AY a1 20 DJ rfl fun b8 b9 bc bd aq=>?_)
 refine AA<|Sr<|Vm<|have ca:=Bs b6 aq;have cb:=Ss AW ba aq;Bi c fun a cc c=>Ca (V3 [Pt p 0] rfl) (a7.ref04_reader_sum b8 b9 cc dcd dcd ca (AM (x:=b5) cb)) ?_
 rintro _ ed ⟨cd,ee,ef,rfl,ar,cf,cg,ch⟩
 obtain ⟨s26,rfl,be⟩:=Am cf
 obtain ⟨ak,al,rfl⟩:=AI be
 obtain ⟨eg,rfl,bf⟩:=AS ch
 obtain ⟨eh,ei,rfl⟩:=AI bf
 refine ⟨_,rfl,?_⟩
 refine Ef (AY cd 21 DJ rfl fun ci ej bg cj z=>?_)
 refine have bh:=Ss AJ be z;Eu (St Dd cj rfl rfl rfl rfl fun ck bi s=>?_)
 refine AA<|Sr<|Vm<|have a2:=Y2 cg z s;have a3:=K2 AW bf z s;Bi c fun l cl c=>Ca (LR [Pt p 0] rfl) (B7 ci ck cl dcd dcd a2 (AM (x:=a.2) a3)) ?_
 rintro _ ek ⟨cm,el,rfl,f,cn⟩
 obtain rfl:=Cq cn
 refine ⟨_,rfl,?_⟩
 refine Ef (AY cm 22 F0 rfl fun bj em bk co g=>?_)
 refine Eu (St GC co rfl rfl rfl rfl fun bl cq h=>?_)
 refine AA<|Sr<|Va (I 12)<|AA<|Au (fun a4 au=>∃(am:Env) (av:Col) (aa:Int),a4=am.puts [(0,.pointer (some ⟨p,0,none⟩)),(2,.pointer (some ⟨bc,0,none⟩)),(3,.pointer (some ⟨bg,0,none⟩)),(4,.pointer (some ⟨bk,0,none⟩)),(5,.int .i64 aa)]∧DU ap a l aa=some a9∧AO [] bj bl av au) ?_ ?_
 refine Sr<|Vm<|have cr:=Y3 a2 f g h;have ct:=K3 AW a3 f g h;Bi c fun en cu c=>Ca (KE [Pt p 0,Sb ([60]:List UInt8)] rfl) (CX bj bl cu dcd dcd cr (AM (x:=a.2) ct)) ?_
 rintro _ eo ⟨bm,rfl,bn⟩
 refine ⟨_,rfl,?_⟩
 refine AA<|Cn c (fun cv c=>?_) fun cv c=>?_
 refine AQ<|Va (I 13)<|AA<|⟨_,bm,13,Pu,c,(Mo [] bn)⟩
 refine WC.skip<|⟨_,bm,12,Pu,c,(Mo [] bn)⟩
 rintro _ au ⟨am,av,aa,rfl,c,m⟩
 rw [DU] at c
 refine Ac<|Au (fun a4 an=>∃(am:Env) (ab:Col) (a5:Bool) (u:(List AX)) (aw:Option Addr) (ax:Nat) (ac:Int) (ad:Int) (ae:Int) (af:Int) (ag:Int) (ah:Int) (ai:Int) (aj:Int),a4=am.puts [(0,.pointer (some ⟨p,0,none⟩)),(2,.pointer (some ⟨bc,0,none⟩)),(3,.pointer (some ⟨bg,0,none⟩)),(4,.pointer (some ⟨bk,0,none⟩)),(5,.int .i64 aa),(20,.bool a5)]∧Dt ap a l aa a5 u ac ad ae af ag ah ai aj=some a9∧AO [1] av au ab an∧Slc AW ab.F an (Sl aw u ax) u∧Bk ab an 1 p [Sl aw u ax,I ac,I ad,I ae,I af,I ag,I ah,I ai,I aj] 126) ?_ ?_
 refine AQ<|Vm<|have cw:=Y4 a2 f g h m;have cx:=K4 AW a3 f g h m;Bi c fun n cy c=>Ca (NC [Pt p 0,Sb ([61,61]:List UInt8)] rfl) (EV av au cy dcd dcd cw (AM (x:=a.2) cx)) ?_
 rintro _ cz ⟨bo,ep,rfl,bp,bq,c0⟩
 obtain ⟨eq,rfl,a6⟩:=AS c0
 obtain ⟨c1,c2,rfl⟩:=AI a6
 refine ⟨_,rfl,?_⟩
 refine Vr (.bool (!n.1))<|Vm<|Bo c (fun q c=>?_) fun q c=>?_
 refine Gm q<|Bi c fun o c3 c=>Bx (.guard (t:=true) (b:=true) rfl rfl rfl rfl (Cb q)) rfl rfl (NC [Pt p 0,Sb ([60]:List UInt8)] rfl)<|Calls.mono (EV bo cz c3 dcd dcd bq (AM (x:=n.2) a6)) ?_
 rintro _ er ⟨c4,es,rfl,c5,c6,c7⟩
 obtain ⟨et,rfl,br⟩:=AS c7
 obtain ⟨c8,c9,rfl⟩:=AI br
 refine ⟨_,rfl,?_⟩
 refine Gr q (.bool (!o.1))<|Vp q<|AA<|⟨_,c4,(!o.1),o.2.marks,c8,c9,o.2.at_,o.2.why,o.2.where_,o.2.l.text,o.2.l.funcs,o.2.l.arity,o.2.l.nest,o.2.nest,Pu,c,(Tn (Mo [1] bp) c5),br,c6⟩
 refine Pg q<|Pg q<|Pg q<|Vp q<|AA<|⟨_,bo,false,n.2.marks,c1,c2,n.2.at_,n.2.why,n.2.where_,n.2.l.text,n.2.l.funcs,n.2.l.arity,n.2.l.nest,n.2.nest,Pu,c,(Mo [1] bp),a6,bq⟩
 rintro _ an ⟨am,ab,a5,u,aw,ax,ac,ad,ae,af,ag,ah,ai,aj,rfl,c,r,bt,bu⟩
 rw [Dt] at c
 refine Cn c (fun da c=>?_) fun da c=>?_
 refine Sr<|have db:=Bs (Y4 bi f g h m) r;Vx (Run.loadN BL rfl rfl (Bk.part db 0 [I a.1.op,Sb a.1.name,Sb a.1.tail,I a.1.type_,Cx a.1.num,Sl ak a.1.args al,I a.1.at_] rfl))<|have dc:=Y4 (Y4 bd ar z s f) g h m r;have de:=K2 AJ (K4 AJ bh s f g h) m r;Eu (St Dd dc rfl rfl rfl rfl fun eu df ay=>?_)
 refine AA<|AZ ?_
 obtain rfl:=AP c
 refine A0 (B:=B) bb (BQ rfl (.agg BL rfl rfl (Bk.part df 0 [I a.1.op,Sb a.1.name,Sb a.1.tail,I a.1.type_,Cx a.1.num,Sl ak a.1.args al,I a.1.at_] rfl)) ?_)
 refine have dg:=Ss AJ de ay;have dh:=Bs bu ay;have di:=Ss AW bt ay;⟨ab,[I a.1.op,Sb a.1.name,Sb a.1.tail,I a.1.type_,Cx a.1.num,Sl ak a.1.args al,I a.1.at_],[Sl aw u ax,I ac,I ad,I ae,I af,I ag,I ah,I ai,I aj],rfl,Ho (Tn (T4 (T4 (Mo [1,20,21,22] aq) ar z s f) g h m r) ay) a8,(Ag (x:=a.1) dg),dh,(AM (x:=(AB.mk u ac ad ae (Ab.mk af ag ah ai) aj)) di)⟩
 refine WC.skip<|Sr<|Vm<|Bi c fun d dj c=>Ca (V3 [Pt p 0] rfl) (a7.ref04_reader_sum ab an dj dcd dcd bu (AM (x:=(AB.mk u ac ad ae (Ab.mk af ag ah ai) aj)) bt)) ?_
 rintro _ ew ⟨dk,ex,ey,rfl,ao,dl,dm,dn⟩
 obtain ⟨ez,rfl,bv⟩:=Am dl
 obtain ⟨bw,bx,rfl⟩:=AI bv
 obtain ⟨e0,rfl,bz⟩:=AS dn
 obtain ⟨dp,dq,rfl⟩:=AI bz
 refine ⟨_,rfl,?_⟩
 refine Ef (AY dk 23 DJ rfl fun dr e1 e2 ds w=>?_)
 refine have dt:=Ss AJ bv w;Eu (St Dd ds rfl rfl rfl rfl fun du dv y=>?_)
 refine AA<|Sr<|Vm<|have dw:=Y4 (Y4 bi f g h m) r ao w y;Vx (Run.loadN BL rfl rfl (Bk.part dw 0 [I a.1.op,Sb a.1.name,Sb a.1.tail,I a.1.type_,Cx a.1.num,Sl ak a.1.args al,I a.1.at_] rfl))<|Vx (Run.loadN BL rfl rfl (Bk.part dv 0 [I d.1.op,Sb d.1.name,Sb d.1.tail,I d.1.type_,Cx d.1.num,Sl bw d.1.args bx,I d.1.at_] rfl))<|have dx:=Bs (Y4 cq m r ao w) y;Vx (Run.loadN HW rfl rfl (Bk.part dx 0 [I l.kind,Sb l.text,Cx l.num,I l.at_] rfl))<|have dy:=Ss AJ (K4 AJ (K4 AJ bh s f g h) m r ao w) y;have dz:=Ss AJ dt y;Bi c fun e d0 c=>Ca (RL [I aa,.agg [I a.1.op,Sb a.1.name,Sb a.1.tail,I a.1.type_,Cx a.1.num,Sl ak a.1.args al,I a.1.at_].toArray,.agg [I d.1.op,Sb d.1.name,Sb d.1.tail,I d.1.type_,Cx d.1.num,Sl bw d.1.args bx,I d.1.at_].toArray,.agg [I l.kind,Sb l.text,Cx l.num,I l.at_].toArray] rfl) (Lf dr du d0 (Ag (x:=a.1) dy) (Ag (x:=d.1) dz) (E3 (x:=l))) ?_
 rintro _ e3 ⟨d1,e4,rfl,az,d2⟩
 obtain ⟨e5,rfl,b0⟩:=Am d2
 obtain ⟨b1,b2,rfl⟩:=AI b0
 refine ⟨_,rfl,?_⟩
 refine have d3:=Y4 (Y4 (Y4 bd ar z s f) g h m r) ao w y az;Eu (St Dd d3 rfl rfl rfl rfl fun e6 d4 a0=>?_)
 refine AA<|AZ ?_
 obtain rfl:=AP c
 refine A0 (B:=B) bb (BQ rfl (.agg BL rfl rfl (Bk.part d4 0 [I e.op,Sb e.name,Sb e.tail,I e.type_,Cx e.num,Sl b1 e.args b2,I e.at_] rfl)) ?_)
 refine have d5:=Ss AJ b0 a0;have d6:=Y4 dm w y az a0;have d7:=K4 AW bz w y az a0;⟨d1,[I e.op,Sb e.name,Sb e.tail,I e.type_,Cx e.num,Sl b1 e.args b2,I e.at_],[Sl dp d.2.marks dq,I d.2.at_,I d.2.why,I d.2.where_,I d.2.l.text,I d.2.l.funcs,I d.2.l.arity,I d.2.l.nest,I d.2.nest],rfl,Ho (Tn (T4 (T4 (T4 (Mo [1,20,21,22,23] aq) ar z s f) g h m r) ao w y az) a0) a8,(Ag (x:=e) d5),d6,(AM (x:=d.2) d7)⟩
theorem Nn(c:AC)(e:Nat)(h:AC.Good c):ref04_reader_comp.Spec (Cg c e):=by
 intro d f a y z aa ab l hnd hnz g m
 refine Calls.mono (Nl c e h (recol (see [a]) d) f (A3 lbr d) l trivial trivial (A1 g [a] (A8 hnd hnz (i:=0) rfl)) (Av Al m [a])) ?_
 rintro ac ad ⟨n,o,p,q,r,s,u,w⟩
 exact ⟨glue [a] f d n,o,p,q,Ah r (DI rfl rfl),BA AJ s,B9 g u dcd,BA Al w⟩
theorem OM(an:AC)(bl:Nat)(bm:AC.Good an)(bc:Col)(b9:World)(ca:∀b,bc b<10):ref04_reader_sum.At True True bc b9 (C7 an bl) 1:=by
 intro ad cb em a0 a _ _ cc cd
 rw [C7] at a
 obtain ⟨en,rfl,bn⟩:=AS cd
 obtain ⟨eo,ep,rfl⟩:=AI bn
 refine A5 Tryz.func148 rfl Tryz.ntmps148 rfl fun B cf eq=>Sr<|Ef (AY bc 20 DJ rfl fun cg ch bd ci be=>?_)
 refine AA<|Sr<|Vm<|have cj:=Bs cc be;have ck:=Ss AW bn be;Bi a fun d cl a=>Ca (V4 [Pt ad 0] rfl) (bm.ref04_reader_term cg ch cl dcd dcd cj (AM (x:=cb) ck)) ?_
 rintro _ er ⟨cm,es,et,rfl,bo,cn,co,cq⟩
 obtain ⟨s26,rfl,bp⟩:=Am cn
 obtain ⟨cr,ct,rfl⟩:=AI bp
 obtain ⟨eu,rfl,bq⟩:=AS cq
 obtain ⟨cu,cv,rfl⟩:=AI bq
 refine ⟨_,rfl,?_⟩
 refine Ef (AY cm 21 DJ rfl fun br ew a1 cw ar=>?_)
 refine have cx:=Ss AJ bp ar;Eu (St Dd cw rfl rfl rfl rfl fun cy cz au=>?_)
 refine AA<|Ac<|Ao<|CZ (fun ae av af=>∃(ag:Env) (ah:Col) (f:(List AX)) (a2:Option Addr) (a3:Nat) (p:Int) (q:Int) (r:Int) (u:Int) (w:Int) (y:Int) (z:Int) (aa:Int) (g:Int) (h:Bts) (l:Bts) (m:Int) (n:(Nat×Nat)) (e:(List AD)) (ai:Option Addr) (aj:Nat) (o:Int),av=ag.puts [(0,.pointer (some ⟨ad,0,none⟩)),(2,.pointer (some ⟨bd,0,none⟩)),(3,.pointer (some ⟨a1,0,none⟩))]∧BZ an ae f p q r u w y z aa g h l m n e o=some a0∧AO [1,21,22,23] br cy ah af∧Slc AW ah.F af (Sl a2 f a3) f∧Slc AJ ah.F af (Sl ai e aj) e∧Bk ah af 1 ad [Sl a2 f a3,I p,I q,I r,I u,I w,I y,I z,I aa] 126∧Bk ah af 21 a1 [I g,Sb h,Sb l,I m,Cx n,Sl ai e aj,I o] 56) bl ?_ ?_
 refine have c0:=K2 AW bq ar au;have c1:=Ss AJ cx au;have c2:=Y2 co ar au;⟨_,br,d.2.marks,cu,cv,d.2.at_,d.2.why,d.2.where_,d.2.l.text,d.2.l.funcs,d.2.l.arity,d.2.l.nest,d.2.nest,d.1.op,d.1.name,d.1.tail,d.1.type_,d.1.num,d.1.args,cr,ct,d.1.at_,Pu,a,(AO.refl [1,21,22,23] _ _),c0,c1,c2,cz⟩
 rintro ae _ af ⟨ag,ah,f,a2,a3,p,q,r,u,w,y,z,aa,g,h,l,m,n,e,ai,aj,o,rfl,a,bf,a4,bt,a5,bu⟩
 rcases ae with _|ae
 exact BK a
 refine have a:Ct an (BZ an ae) f p q r u w y z aa g h l m n e o=some a0:=a; ?_
 obtain ⟨bv,bw⟩:∃s,s=BZ an ae:=⟨_,rfl⟩
 rw [←bw,Ct] at a
 refine Ac<|Au (fun av bg=>∃(ag:Env) (a6:Col) (bh:Bool),av=ag.puts [(0,.pointer (some ⟨ad,0,none⟩)),(2,.pointer (some ⟨bd,0,none⟩)),(3,.pointer (some ⟨a1,0,none⟩)),(14,.bool bh)]∧Dk an f p q r u w y z aa g h l m n e o bv bh=some a0∧AO [] ah af a6 bg) ?_ ?_
 refine AQ<|Vm<|Bi a fun ex c3 a=>Ca (KE [Pt ad 0,Sb ([43]:List UInt8)] rfl) (CX ah af c3 dcd dcd a5 (AM (x:=(AB.mk f p q r (Ab.mk u w y z) aa)) a4)) ?_
 rintro _ c4 ⟨bx,rfl,a7⟩
 refine ⟨_,rfl,?_⟩
 refine Vm<|Bo a (fun ao a=>?_) fun ao a=>?_
 refine Pg ao<|Pg ao<|Vp ao<|AA<|⟨_,bx,true,Pu,a,(Mo [] a7)⟩
 refine Gm ao<|have c5:=Bs a5 a7;have c6:=Ss AW a4 a7;Bi a fun c7 c8 a=>Bx (.guard (t:=false) (b:=false) rfl rfl rfl rfl (Cb ao)) rfl rfl (KE [Pt ad 0,Sb ([45]:List UInt8)] rfl)<|Calls.mono (CX bx c4 c8 dcd dcd c5 (AM (x:=(AB.mk f p q r (Ab.mk u w y z) aa)) c6)) ?_
 rintro _ ey ⟨c9,rfl,da⟩
 refine ⟨_,rfl,?_⟩
 refine Vp ao<|AA<|⟨_,c9,c7,Pu,a,(Tn (Mo [] a7) da)⟩
 rintro _ bg ⟨ag,a6,bh,rfl,a,ab⟩
 rw [Dk] at a
 refine Cn a (fun db a=>?_) fun db a=>?_
 refine WC.skip<|Ao<|Sr<|Vm<|have bz:=Bs a5 ab;have b0:=Ss AW a4 ab;Bi a fun ac dc a=>Ca (LR [Pt ad 0] rfl) (B7 a6 bg dc dcd dcd bz (AM (x:=(AB.mk f p q r (Ab.mk u w y z) aa)) b0)) ?_
 rintro _ ez ⟨de,e0,rfl,aw,df⟩
 obtain rfl:=Cq df
 refine ⟨_,rfl,?_⟩
 refine Ef (AY de 22 F0 rfl fun dg e1 dh di ax=>?_)
 refine Eu (St GC di rfl rfl rfl rfl fun e2 b1 ay=>?_)
 refine AA<|Sr<|Vm<|Vx (Run.nilCheck rfl)<|Vx (Run.fieldAddr Fd rfl)<|have b2:=Y3 bz aw ax ay;Vx (Run.load1 Be rfl (Bk.cell b2 rfl))<|Vr (I (Wr (p+1)))<|Vx (Run.nilCheck rfl)<|Vx (Run.fieldAddr Fd rfl)<|Eu (St Lz b2 rfl rfl rfl rfl fun dj dk aq=>?_)
 refine AA<|Sr<|Vm<|have dl:=K4 AW b0 aw ax ay aq;Bi a fun c dm a=>Ca (V4 [Pt ad 0] rfl) (bm.ref04_reader_term dg dj dm dcd dcd dk (AM (x:=(AB.mk f (Wr (p+1)) q r (Ab.mk u w y z) aa)) dl)) ?_
 rintro _ e3 ⟨dn,e4,e5,rfl,az,dp,dq,dr⟩
 obtain ⟨e6,rfl,b3⟩:=Am dp
 obtain ⟨b4,b5,rfl⟩:=AI b3
 obtain ⟨e7,rfl,b6⟩:=AS dr
 obtain ⟨ds,dt,rfl⟩:=AI b6
 refine ⟨_,rfl,?_⟩
 refine Ef (AY dn 23 DJ rfl fun bi e8 du dv ak=>?_)
 refine have dw:=Ss AJ b3 ak;Eu (St Dd dv rfl rfl rfl rfl fun dx dy al=>?_)
 refine AA<|Sr<|Va (I 8)<|AA<|Au (fun av bj=>∃(ag:Env) (bk:Col) (a8:Int),av=ag.puts [(0,.pointer (some ⟨ad,0,none⟩)),(2,.pointer (some ⟨bd,0,none⟩)),(3,.pointer (some ⟨a1,0,none⟩)),(4,.pointer (some ⟨dh,0,none⟩)),(5,.pointer (some ⟨du,0,none⟩)),(6,.int .i64 a8)]∧Dj g h l m n e o bv ac c a8=some a0∧AO [] bi dx bk bj) ?_ ?_
 refine Sr<|Vx (Run.fieldAddr Eo rfl)<|have dz:=Y4 b1 aq az ak al;Vx (Run.load1 De rfl (Bk.cell dz rfl))<|Vx (v:=.bool (ac.text==([45]:List UInt8))) (Run.strEq rfl rfl)<|AA<|Cn a (fun d0 a=>?_) fun d0 a=>?_
 refine AQ<|Va (I 9)<|AA<|⟨_,bi,9,Pu,a,(AO.refl [] _ _)⟩
 refine WC.skip<|⟨_,bi,8,Pu,a,(AO.refl [] _ _)⟩
 rintro _ bj ⟨ag,bk,a8,rfl,a,am⟩
 rw [Dj] at a
 refine AQ<|Vm<|have b7:=Bs (Y4 (Y4 bu ab aw ax ay) aq az ak al) am;Vx (Run.loadN BL rfl rfl (Bk.part b7 0 [I g,Sb h,Sb l,I m,Cx n,Sl ai e aj,I o] rfl))<|have d1:=Bs dy am;Vx (Run.loadN BL rfl rfl (Bk.part d1 0 [I c.1.op,Sb c.1.name,Sb c.1.tail,I c.1.type_,Cx c.1.num,Sl b4 c.1.args b5,I c.1.at_] rfl))<|have d2:=Bs (Y4 b1 aq az ak al) am;Vx (Run.loadN HW rfl rfl (Bk.part d2 0 [I ac.kind,Sb ac.text,Cx ac.num,I ac.at_] rfl))<|have d3:=Ss AJ (K4 AJ (K4 AJ bt ab aw ax ay) aq az ak al) am;have d4:=K2 AJ dw al am;Bi a fun ap d5 a=>Ca (RL [I a8,.agg [I g,Sb h,Sb l,I m,Cx n,Sl ai e aj,I o].toArray,.agg [I c.1.op,Sb c.1.name,Sb c.1.tail,I c.1.type_,Cx c.1.num,Sl b4 c.1.args b5,I c.1.at_].toArray,.agg [I ac.kind,Sb ac.text,Cx ac.num,I ac.at_].toArray] rfl) (Lf bk bj d5 (Ag (x:=(AD.mk g h l m n e o)) d3) (Ag (x:=c.1) d4) (E3 (x:=ac))) ?_
 rintro _ e9 ⟨d6,fa,rfl,a9,d7⟩
 obtain ⟨fb,rfl,b8⟩:=Am d7
 obtain ⟨d8,d9,rfl⟩:=AI b8
 refine ⟨_,rfl,?_⟩
 refine have ea:=Bs b7 a9;Eu (St Dd ea rfl rfl rfl rfl fun fc eb ba=>?_)
 refine AA<|have ec:=Ss AW (K4 AW b6 ak al am a9) ba;have ed:=Ss AJ b8 ba;have ee:=Bs (Y4 dq ak al am a9) ba;⟨ae,Nat.lt_succ_self ae,_,d6,c.2.marks,ds,dt,c.2.at_,c.2.why,c.2.where_,c.2.l.text,c.2.l.funcs,c.2.l.arity,c.2.l.nest,c.2.nest,ap.op,ap.name,ap.tail,ap.type_,ap.num,ap.args,d8,d9,ap.at_,Pu,(bw▸a),(T3 (T4 (T4 (Mo [1,21,22,23] bf) ab aw ax ay) aq az ak al) am a9 ba),ec,ed,ee,eb⟩
 refine CF<|Sr<|have ef:=Bs bu ab;Vx (Run.loadN BL rfl rfl (Bk.part ef 0 [I g,Sb h,Sb l,I m,Cx n,Sl ai e aj,I o] rfl))<|have eg:=Bs (Y4 ci bo ar au bf) ab;have eh:=Ss AJ bt ab;Eu (St Dd eg rfl rfl rfl rfl fun fd ei bb=>?_)
 refine AA<|AZ ?_
 obtain rfl:=AP a
 refine A0 (B:=B) cf (BQ rfl (.agg BL rfl rfl (Bk.part ei 0 [I g,Sb h,Sb l,I m,Cx n,Sl ai e aj,I o] rfl)) ?_)
 refine have ej:=Ss AJ eh bb;have ek:=Y2 a5 ab bb;have el:=K2 AW a4 ab bb;⟨a6,[I g,Sb h,Sb l,I m,Cx n,Sl ai e aj,I o],[Sl a2 f a3,I p,I q,I r,I u,I w,I y,I z,I aa],rfl,Ho (T2 (T4 (Mo [1,20,21,22,23] be) bo ar au bf) ab bb) ca,(Ag (x:=(AD.mk g h l m n e o)) ej),ek,(AM (x:=(AB.mk f p q r (Ab.mk u w y z) aa)) el)⟩
theorem ON(c:AC)(e:Nat)(h:AC.Good c):ref04_reader_sum.Spec (C7 c e):=by
 intro d f a y z aa ab l hnd hnz g m
 refine Calls.mono (OM c e h (recol (see [a]) d) f (A3 lbr d) l trivial trivial (A1 g [a] (A8 hnd hnz (i:=0) rfl)) (Av Al m [a])) ?_
 rintro ac ad ⟨n,o,p,q,r,s,u,w⟩
 exact ⟨glue [a] f d n,o,p,q,Ah r (DI rfl rfl),BA AJ s,B9 g u dcd,BA Al w⟩
theorem No(an:AC)(bl:Nat)(bm:AC.Good an)(bc:Col)(b9:World)(ca:∀b,bc b<10):ref04_reader_term.At True True bc b9 (Ch an bl) 1:=by
 intro ad cb em a0 a _ _ cc cd
 rw [Ch] at a
 obtain ⟨en,rfl,bn⟩:=AS cd
 obtain ⟨eo,ep,rfl⟩:=AI bn
 refine A5 Tryz.func151 rfl Tryz.ntmps151 rfl fun B cf eq=>Sr<|Ef (AY bc 20 DJ rfl fun cg ch bd ci be=>?_)
 refine AA<|Sr<|Vm<|have cj:=Bs cc be;have ck:=Ss AW bn be;Bi a fun d cl a=>Ca (V6 [Pt ad 0] rfl) (bm.ref04_reader_unit cg ch cl dcd dcd cj (AM (x:=cb) ck)) ?_
 rintro _ er ⟨cm,es,et,rfl,bo,cn,co,cq⟩
 obtain ⟨s26,rfl,bp⟩:=Am cn
 obtain ⟨cr,ct,rfl⟩:=AI bp
 obtain ⟨eu,rfl,bq⟩:=AS cq
 obtain ⟨cu,cv,rfl⟩:=AI bq
 refine ⟨_,rfl,?_⟩
 refine Ef (AY cm 21 DJ rfl fun br ew a1 cw ar=>?_)
 refine have cx:=Ss AJ bp ar;Eu (St Dd cw rfl rfl rfl rfl fun cy cz au=>?_)
 refine AA<|Ac<|Ao<|CZ (fun ae av af=>∃(ag:Env) (ah:Col) (f:(List AX)) (a2:Option Addr) (a3:Nat) (p:Int) (q:Int) (r:Int) (u:Int) (w:Int) (y:Int) (z:Int) (aa:Int) (g:Int) (h:Bts) (l:Bts) (m:Int) (n:(Nat×Nat)) (e:(List AD)) (ai:Option Addr) (aj:Nat) (o:Int),av=ag.puts [(0,.pointer (some ⟨ad,0,none⟩)),(2,.pointer (some ⟨bd,0,none⟩)),(3,.pointer (some ⟨a1,0,none⟩))]∧BS an ae f p q r u w y z aa g h l m n e o=some a0∧AO [1,21,22,23] br cy ah af∧Slc AW ah.F af (Sl a2 f a3) f∧Slc AJ ah.F af (Sl ai e aj) e∧Bk ah af 1 ad [Sl a2 f a3,I p,I q,I r,I u,I w,I y,I z,I aa] 126∧Bk ah af 21 a1 [I g,Sb h,Sb l,I m,Cx n,Sl ai e aj,I o] 56) bl ?_ ?_
 refine have c0:=K2 AW bq ar au;have c1:=Ss AJ cx au;have c2:=Y2 co ar au;⟨_,br,d.2.marks,cu,cv,d.2.at_,d.2.why,d.2.where_,d.2.l.text,d.2.l.funcs,d.2.l.arity,d.2.l.nest,d.2.nest,d.1.op,d.1.name,d.1.tail,d.1.type_,d.1.num,d.1.args,cr,ct,d.1.at_,Pu,a,(AO.refl [1,21,22,23] _ _),c0,c1,c2,cz⟩
 rintro ae _ af ⟨ag,ah,f,a2,a3,p,q,r,u,w,y,z,aa,g,h,l,m,n,e,ai,aj,o,rfl,a,bf,a4,bt,a5,bu⟩
 rcases ae with _|ae
 exact BK a
 refine have a:CV an (BS an ae) f p q r u w y z aa g h l m n e o=some a0:=a; ?_
 obtain ⟨bv,bw⟩:∃s,s=BS an ae:=⟨_,rfl⟩
 rw [←bw,CV] at a
 refine Ac<|Au (fun av bg=>∃(ag:Env) (a6:Col) (bh:Bool),av=ag.puts [(0,.pointer (some ⟨ad,0,none⟩)),(2,.pointer (some ⟨bd,0,none⟩)),(3,.pointer (some ⟨a1,0,none⟩)),(14,.bool bh)]∧DW an f p q r u w y z aa g h l m n e o bv bh=some a0∧AO [] ah af a6 bg) ?_ ?_
 refine AQ<|Vm<|Bi a fun ex c3 a=>Ca (KE [Pt ad 0,Sb ([42]:List UInt8)] rfl) (CX ah af c3 dcd dcd a5 (AM (x:=(AB.mk f p q r (Ab.mk u w y z) aa)) a4)) ?_
 rintro _ c4 ⟨bx,rfl,a7⟩
 refine ⟨_,rfl,?_⟩
 refine Vm<|Bo a (fun ao a=>?_) fun ao a=>?_
 refine Pg ao<|Pg ao<|Vp ao<|AA<|⟨_,bx,true,Pu,a,(Mo [] a7)⟩
 refine Gm ao<|have c5:=Bs a5 a7;have c6:=Ss AW a4 a7;Bi a fun c7 c8 a=>Bx (.guard (t:=false) (b:=false) rfl rfl rfl rfl (Cb ao)) rfl rfl (KE [Pt ad 0,Sb ([47]:List UInt8)] rfl)<|Calls.mono (CX bx c4 c8 dcd dcd c5 (AM (x:=(AB.mk f p q r (Ab.mk u w y z) aa)) c6)) ?_
 rintro _ ey ⟨c9,rfl,da⟩
 refine ⟨_,rfl,?_⟩
 refine Vp ao<|AA<|⟨_,c9,c7,Pu,a,(Tn (Mo [] a7) da)⟩
 rintro _ bg ⟨ag,a6,bh,rfl,a,ab⟩
 rw [DW] at a
 refine Cn a (fun db a=>?_) fun db a=>?_
 refine WC.skip<|Ao<|Sr<|Vm<|have bz:=Bs a5 ab;have b0:=Ss AW a4 ab;Bi a fun ac dc a=>Ca (LR [Pt ad 0] rfl) (B7 a6 bg dc dcd dcd bz (AM (x:=(AB.mk f p q r (Ab.mk u w y z) aa)) b0)) ?_
 rintro _ ez ⟨de,e0,rfl,aw,df⟩
 obtain rfl:=Cq df
 refine ⟨_,rfl,?_⟩
 refine Ef (AY de 22 F0 rfl fun dg e1 dh di ax=>?_)
 refine Eu (St GC di rfl rfl rfl rfl fun e2 b1 ay=>?_)
 refine AA<|Sr<|Vm<|Vx (Run.nilCheck rfl)<|Vx (Run.fieldAddr Fd rfl)<|have b2:=Y3 bz aw ax ay;Vx (Run.load1 Be rfl (Bk.cell b2 rfl))<|Vr (I (Wr (p+1)))<|Vx (Run.nilCheck rfl)<|Vx (Run.fieldAddr Fd rfl)<|Eu (St Lz b2 rfl rfl rfl rfl fun dj dk aq=>?_)
 refine AA<|Sr<|Vm<|have dl:=K4 AW b0 aw ax ay aq;Bi a fun c dm a=>Ca (V6 [Pt ad 0] rfl) (bm.ref04_reader_unit dg dj dm dcd dcd dk (AM (x:=(AB.mk f (Wr (p+1)) q r (Ab.mk u w y z) aa)) dl)) ?_
 rintro _ e3 ⟨dn,e4,e5,rfl,az,dp,dq,dr⟩
 obtain ⟨e6,rfl,b3⟩:=Am dp
 obtain ⟨b4,b5,rfl⟩:=AI b3
 obtain ⟨e7,rfl,b6⟩:=AS dr
 obtain ⟨ds,dt,rfl⟩:=AI b6
 refine ⟨_,rfl,?_⟩
 refine Ef (AY dn 23 DJ rfl fun bi e8 du dv ak=>?_)
 refine have dw:=Ss AJ b3 ak;Eu (St Dd dv rfl rfl rfl rfl fun dx dy al=>?_)
 refine AA<|Sr<|Va (I 10)<|AA<|Au (fun av bj=>∃(ag:Env) (bk:Col) (a8:Int),av=ag.puts [(0,.pointer (some ⟨ad,0,none⟩)),(2,.pointer (some ⟨bd,0,none⟩)),(3,.pointer (some ⟨a1,0,none⟩)),(4,.pointer (some ⟨dh,0,none⟩)),(5,.pointer (some ⟨du,0,none⟩)),(6,.int .i64 a8)]∧DV g h l m n e o bv ac c a8=some a0∧AO [] bi dx bk bj) ?_ ?_
 refine Sr<|Vx (Run.fieldAddr Eo rfl)<|have dz:=Y4 b1 aq az ak al;Vx (Run.load1 De rfl (Bk.cell dz rfl))<|Vx (v:=.bool (ac.text==([47]:List UInt8))) (Run.strEq rfl rfl)<|AA<|Cn a (fun d0 a=>?_) fun d0 a=>?_
 refine AQ<|Va (I 11)<|AA<|⟨_,bi,11,Pu,a,(AO.refl [] _ _)⟩
 refine WC.skip<|⟨_,bi,10,Pu,a,(AO.refl [] _ _)⟩
 rintro _ bj ⟨ag,bk,a8,rfl,a,am⟩
 rw [DV] at a
 refine AQ<|Vm<|have b7:=Bs (Y4 (Y4 bu ab aw ax ay) aq az ak al) am;Vx (Run.loadN BL rfl rfl (Bk.part b7 0 [I g,Sb h,Sb l,I m,Cx n,Sl ai e aj,I o] rfl))<|have d1:=Bs dy am;Vx (Run.loadN BL rfl rfl (Bk.part d1 0 [I c.1.op,Sb c.1.name,Sb c.1.tail,I c.1.type_,Cx c.1.num,Sl b4 c.1.args b5,I c.1.at_] rfl))<|have d2:=Bs (Y4 b1 aq az ak al) am;Vx (Run.loadN HW rfl rfl (Bk.part d2 0 [I ac.kind,Sb ac.text,Cx ac.num,I ac.at_] rfl))<|have d3:=Ss AJ (K4 AJ (K4 AJ bt ab aw ax ay) aq az ak al) am;have d4:=K2 AJ dw al am;Bi a fun ap d5 a=>Ca (RL [I a8,.agg [I g,Sb h,Sb l,I m,Cx n,Sl ai e aj,I o].toArray,.agg [I c.1.op,Sb c.1.name,Sb c.1.tail,I c.1.type_,Cx c.1.num,Sl b4 c.1.args b5,I c.1.at_].toArray,.agg [I ac.kind,Sb ac.text,Cx ac.num,I ac.at_].toArray] rfl) (Lf bk bj d5 (Ag (x:=(AD.mk g h l m n e o)) d3) (Ag (x:=c.1) d4) (E3 (x:=ac))) ?_
 rintro _ e9 ⟨d6,fa,rfl,a9,d7⟩
 obtain ⟨fb,rfl,b8⟩:=Am d7
 obtain ⟨d8,d9,rfl⟩:=AI b8
 refine ⟨_,rfl,?_⟩
 refine have ea:=Bs b7 a9;Eu (St Dd ea rfl rfl rfl rfl fun fc eb ba=>?_)
 refine AA<|have ec:=Ss AW (K4 AW b6 ak al am a9) ba;have ed:=Ss AJ b8 ba;have ee:=Bs (Y4 dq ak al am a9) ba;⟨ae,Nat.lt_succ_self ae,_,d6,c.2.marks,ds,dt,c.2.at_,c.2.why,c.2.where_,c.2.l.text,c.2.l.funcs,c.2.l.arity,c.2.l.nest,c.2.nest,ap.op,ap.name,ap.tail,ap.type_,ap.num,ap.args,d8,d9,ap.at_,Pu,(bw▸a),(T3 (T4 (T4 (Mo [1,21,22,23] bf) ab aw ax ay) aq az ak al) am a9 ba),ec,ed,ee,eb⟩
 refine CF<|Sr<|have ef:=Bs bu ab;Vx (Run.loadN BL rfl rfl (Bk.part ef 0 [I g,Sb h,Sb l,I m,Cx n,Sl ai e aj,I o] rfl))<|have eg:=Bs (Y4 ci bo ar au bf) ab;have eh:=Ss AJ bt ab;Eu (St Dd eg rfl rfl rfl rfl fun fd ei bb=>?_)
 refine AA<|AZ ?_
 obtain rfl:=AP a
 refine A0 (B:=B) cf (BQ rfl (.agg BL rfl rfl (Bk.part ei 0 [I g,Sb h,Sb l,I m,Cx n,Sl ai e aj,I o] rfl)) ?_)
 refine have ej:=Ss AJ eh bb;have ek:=Y2 a5 ab bb;have el:=K2 AW a4 ab bb;⟨a6,[I g,Sb h,Sb l,I m,Cx n,Sl ai e aj,I o],[Sl a2 f a3,I p,I q,I r,I u,I w,I y,I z,I aa],rfl,Ho (T2 (T4 (Mo [1,20,21,22,23] be) bo ar au bf) ab bb) ca,(Ag (x:=(AD.mk g h l m n e o)) ej),ek,(AM (x:=(AB.mk f p q r (Ab.mk u w y z) aa)) el)⟩
theorem Np(c:AC)(e:Nat)(h:AC.Good c):ref04_reader_term.Spec (Ch c e):=by
 intro d f a y z aa ab l hnd hnz g m
 refine Calls.mono (No c e h (recol (see [a]) d) f (A3 lbr d) l trivial trivial (A1 g [a] (A8 hnd hnz (i:=0) rfl)) (Av Al m [a])) ?_
 rintro ac ad ⟨n,o,p,q,r,s,u,w⟩
 exact ⟨glue [a] f d n,o,p,q,Ah r (DI rfl rfl),BA AJ s,B9 g u dcd,BA Al w⟩
end Fth
