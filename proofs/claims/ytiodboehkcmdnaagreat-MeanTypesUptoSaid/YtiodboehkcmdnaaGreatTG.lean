/- Part 7 of the proof: what it says holds of the given program; no condition. -/
import Derived.Test.YtiodboehkcmdnaaGreatTF
set_option linter.all false
set_option exponentiation.threshold 3000
namespace Fth
open Go Ieee
theorem wu{x:Int}(h1:0≤x)(h2:x<18446744073709551616):IntKind.u64.wrap x=x:=by
 simp only [IntKind.wrap,IntKind.signed,IntKind.bits]
 simp
 omega
theorem OY{x:Nat}(h:x<2^64):(BitVec.ofInt 64 (x:Int)).toNat=x:=by
 rw [BitVec.toNat_ofInt];omega
theorem Zm{x y:Nat}(hx:x<2^64)(hy:y<2^64):EZ .u64 (x:Int) (y:Int)=((x&&& y:Nat):Int):=by
 have hb:(x&&& y)<2^64:=Nat.lt_of_le_of_lt Nat.and_le_left hx
 have e:(BitVec.ofInt IntKind.u64.bits (x:Int)&&& BitVec.ofInt IntKind.u64.bits (y:Int)).toNat=x&&& y:=by
  show (BitVec.ofInt 64 (x:Int)&&& BitVec.ofInt 64 (y:Int)).toNat=_
  rw [BitVec.toNat_and,OY hx,OY hy]
 rw [EZ,e,wu (by omega) (by omega)]
theorem YM{x y:Nat}(hx:x<2^64)(hy:y<2^64):LG .u64 (x:Int) (y:Int)=((x|||y:Nat):Int):=by
 have hb:(x|||y)<2^64:=Nat.or_lt_two_pow hx hy
 have e:(BitVec.ofInt IntKind.u64.bits (x:Int)|||BitVec.ofInt IntKind.u64.bits (y:Int)).toNat=x|||y:=by
  show (BitVec.ofInt 64 (x:Int)|||BitVec.ofInt 64 (y:Int)).toNat=_
  rw [BitVec.toNat_or,OY hx,OY hy]
 rw [LG,e,wu (by omega) (by omega)]
theorem PJ{x y:Nat}(hx:x<2^64)(hy:y<2^64):Ce .u64 (x:Int) (y:Int)=((x&&& (2^64 - 1 - y):Nat):Int):=by
 have hb:(x&&& (2^64 - 1 - y))<2^64:=Nat.lt_of_le_of_lt Nat.and_le_left hx
 have e:(BitVec.ofInt IntKind.u64.bits (x:Int)&&& ~~~ BitVec.ofInt IntKind.u64.bits (y:Int)).toNat=x&&& (2^64 - 1 - y):=by
  show (BitVec.ofInt 64 (x:Int)&&& ~~~ BitVec.ofInt 64 (y:Int)).toNat=_
  rw [BitVec.toNat_and,BitVec.toNat_not,OY hx,OY hy]
 rw [Ce,e,wu (by omega) (by omega)]
theorem Zn{x n:Nat}(h:x<2^n):x&&& 2^n=0:=by
 refine Nat.eq_of_testBit_eq fun i=>?_
 rw [Nat.testBit_and,Nat.testBit_two_pow,Nat.zero_testBit]
 by_cases hi:n=i
 ·subst hi;simp [Nat.testBit_lt_two_pow h]
 ·simp [hi]
theorem Wk{x:Nat}(h:x<2^63):Hj x=some x:=by
 unfold Hj
 have:=PJ (x:=x) (y:=9223372036854775808) (by omega) (by omega)
 rw [show ((9223372036854775808:Nat):Int)=9223372036854775808 from rfl] at this
 rw [this]
 have e:(2^64 - 1 - 9223372036854775808:Nat)=2^63 - 1:=by decide
 rw [e,Nat.and_two_pow_sub_one_eq_mod,Nat.mod_eq_of_lt h];rfl
theorem Zo{r:Nat}(h:r<2^63):Hj (2^63+r)=some r:=by
 unfold Hj
 have:=PJ (x:=2^63+r) (y:=9223372036854775808) (by omega) (by omega)
 rw [show ((9223372036854775808:Nat):Int)=9223372036854775808 from rfl] at this
 rw [this]
 have e:(2^64 - 1 - 9223372036854775808:Nat)=2^63 - 1:=by decide
 rw [e,Nat.and_two_pow_sub_one_eq_mod,Nat.add_mod_left,Nat.mod_eq_of_lt h];rfl
theorem Wm{m:Nat}(h0:0<m)(h:m<2^53):fw false m<2^63∧fw false m / 2^52=m.log2+1023∧fw false m % 2^52=m*2^(52 - m.log2) - 2^52∧fw true m=2^63+fw false m:=by
 have hb:=Lx h0 h
 have hl:=Ke h0 h
 have hs:double.signWeight=2^63:=by decide
 simp only [fw,Format.word,hs,if_true,Bool.false_eq_true,if_false]
 generalize m*2^(52 - m.log2)=q at*
 refine ⟨?_,?_,?_,trivial⟩<;>omega
theorem YN{x:Nat}{a:Int}(h:Fz x a)(ha:a.natAbs<2^53):Hj x=some (FloatKind.f64.nearest a.natAbs):=by
 rcases Decidable.em (a=0) with h0|h0
 ·subst h0
  rcases h with rfl| ⟨_,rfl⟩<;>decide
 ·rw [h.eq h0,KB h0 ha,KB (n:=(a.natAbs:Int)) (by omega) (by omega)]
  have hb:=Wm (m:=a.natAbs) (by omega) ha
  have e:((a.natAbs:Int)).natAbs=a.natAbs:=rfl
  have e2:decide ((a.natAbs:Int)<0)=false:=by simp
  rw [e,e2]
  cases h1:decide (a<0)
  ·exact Wk hb.1
  ·rw [hb.2.2.2];exact Zo hb.1
theorem XI{x:Nat}{a:Int}(h:Fz x a)(ha:a.natAbs<2^53):fgt x 9218868437227405311=false:=by
 obtain ⟨s,k,hk,hs⟩:=h.read ha
 have hm:double.read 9218868437227405311= .number false 9007199254740991 971:=by decide
 have:FloatKind.f64.format.order x 9218868437227405311=some (compare (signed s (a.natAbs*2^k) 0) (signed false 9007199254740991 (971+k))):=by
  show (double.read x).order (double.read 9218868437227405311)=_
  rw [hk,hm]
  simp only [Datum.order]
  have e1:min (-(k:Int)) 971= -(k:Int):=by omega
  rw [e1]
  have e2:(-(k:Int) - -(k:Int)).toNat=0:=by omega
  have e3:((971:Int) - -(k:Int)).toNat=971+k:=by omega
  rw [e2,e3]
 rw [fgt,this,L0 hs]
 have h1:signed false 9007199254740991 (971+k)=9007199254740991*(2^971*2^k):=by
  simp only [signed,Bool.false_eq_true,if_false,Nat.shiftLeft_eq]
  rw [Int.natCast_mul,Int.natCast_pow,Int.pow_add];rfl
 rw [h1]
 have h2:a*2^(k+0)<9007199254740991*(2^971*2^k):=by
  rw [Nat.add_zero,←Int.mul_assoc]
  have hp:(0:Int)<2^k:=Int.pow_pos (by decide)
  refine Int.mul_lt_mul_of_pos_right ?_ hp
  have hp2:(4:Int)≤2^971:=by
   have:(2:Int)^2≤2^971:=by exact_mod_cast Nat.pow_le_pow_right (by decide:0<2) (by omega:2≤971)
   simpa using this
  generalize (2:Int)^971=q at*
  omega
 have h3:=Sj.2 h2
 rw [h3];rfl
theorem V4{x:Nat}{a:Int}(h:Fz x a)(ha:a.natAbs<2^53):Gs x 0=some false:=by
 unfold Gs Jk
 simp only [YN h ha,Option.bind_some]
 rw [XI (a:=(a.natAbs:Int)) .of (by omega)];rfl
theorem Ud{x:Nat}{a:Int}(h:Fz x a)(ha:a.natAbs<2^53):GJ x=some false:=by
 unfold GJ
 rw [h.fne h ha ha];simp
theorem YO{m:Nat}(h0:0<m)(h:m<2^53):flt_ (fw false m) 4503599627370496=false:=by
 have hl:=Ke h0 h
 have hb:=Lx h0 h
 have hm:double.read 4503599627370496= .number false 4503599627370496 (-1074):=by decide
 have:FloatKind.f64.format.order (fw false m) 4503599627370496=some (compare (signed false (m*2^(52 - m.log2)) (1074 - (52 - m.log2))) (signed false 4503599627370496 0)):=by
  show (double.read (fw false m)).order (double.read 4503599627370496)=_
  rw [We h0 h,hm]
  simp only [Datum.order]
  have e1:min (-((52 - m.log2:Nat):Int)) (-1074)= -1074:=by omega
  rw [e1]
  have e2:(-((52 - m.log2:Nat):Int) - -1074).toNat=1074 - (52 - m.log2):=by omega
  have e3:((-1074:Int) - -1074).toNat=0:=by omega
  rw [e2,e3]
 rw [flt_,this]
 simp only [signed,Bool.false_eq_true,if_false,Nat.shiftLeft_eq,Nat.pow_zero,Nat.mul_one]
 generalize m*2^(52 - m.log2)=q at*
 have hp:1≤2^(1074 - (52 - m.log2)):=Nat.pow_pos (by decide)
 generalize 2^(1074 - (52 - m.log2))=p at*
 have:q*1≤q*p:=Nat.mul_le_mul_left _ hp
 cases hc:compare ((q*p:Nat):Int) ((4503599627370496:Nat):Int)
 ·have:=Sj.1 hc;omega
 ·rfl
 ·rfl
theorem Ph{m:Nat}(h0:0<m)(h:m<2^53):EI (fw false m)=some (fw false m,0):=by
 unfold EI
 rw [Wk (Wm h0 h).1,Option.bind_some,YO h0 h,cond_false]
theorem Mb{m:Nat}(h0:0<m)(h:m<2^53):FloatKind.f64.nearest (m:Int)=fw false m:=by
 have e:decide ((m:Int)<0)=false:=decide_eq_false (by omega)
 have:=KB (n:=(m:Int)) (by omega) (by omega)
 rw [e] at this
 exact this
theorem Pi{m:Nat}(h0:0<m)(h:m<2^53):Fz (fw false m) m:= .inl (Mb h0 h).symm
theorem AAH{f e:Nat}(hf:f<2^52):f|||e*2^52=e*2^52+f:=by
 have h:=Nat.two_pow_add_eq_or_of_lt hf e
 rw [Nat.mul_comm e,h,Nat.or_comm]
theorem Wq{x:Nat}(h:x<2^63):Ce .u64 ((x:Nat):Int) 9218868437227405312=((x % 2^52:Nat):Int):=by
 have:=PJ (x:=x) (y:=9218868437227405312) (by omega) (by omega)
 rw [show ((9218868437227405312:Nat):Int)=9218868437227405312 from rfl] at this
 rw [this]
 have e:(2^64 - 1 - 9218868437227405312:Nat)=2^63||| (2^52 - 1):=by decide
 rw [e,Nat.and_or_distrib_left,Zn h,Nat.zero_or,Nat.and_two_pow_sub_one_eq_mod]
theorem AAI(x:Nat):shr .u64 ((x:Nat):Int) 52=((x / 2^52:Nat):Int):=by
 have e:min (52:Int).toNat IntKind.u64.bits=52:=by decide
 rw [shr,e,Int.fdiv_eq_ediv_of_nonneg _ (by decide)];rfl
theorem AB2{x:Nat}(h:x<2^63):EZ .u64 (shr .u64 ((x:Nat):Int) 52) 2047=((x / 2^52:Nat):Int):=by
 rw [AAI]
 have:=Zm (x:=x / 2^52) (y:=2047) (by omega) (by omega)
 rw [show ((2047:Nat):Int)=2047 from rfl] at this
 rw [this]
 have e:(2047:Nat)=2^11 - 1:=by decide
 rw [e,Nat.and_two_pow_sub_one_eq_mod,Nat.mod_eq_of_lt (by omega)]
theorem ABR{m:Nat}(h0:0<m)(h:m<2^53):feq (fw false m) 0=false:=by
 rw [(Pi h0 h).feq fz0 (by omega) (by decide)];simp;omega
theorem VH{m:Nat}(h0:0<m)(h:m<2^53):He (fw false m)=some (1021*2^52+m*2^(52 - m.log2),(m.log2:Int)+1):=by
 have hl:=Ke h0 h
 have hb:=Lx h0 h
 have hf:=Wm h0 h
 have hz:=Pi h0 h
 unfold He In KN
 rw [ABR h0 h,V4 hz (by omega),Ud hz (by omega),Ph h0 h]
 have nn52:nn 52=some ():=rfl
 simp only [cond_false,Option.bind_some,nn52,Wq hf.1,AB2 hf.1,hf.2.1]
 have hr:=YM (x:=fw false m % 2^52) (y:=4602678819172646912) (by omega) (by omega)
 rw [show ((4602678819172646912:Nat):Int)=4602678819172646912 from rfl] at hr
 rw [hr,show (4602678819172646912:Nat)=1022*2^52 by decide,AAH (by omega),hf.2.2.1]
 generalize m*2^(52 - m.log2)=q at*
 refine congrArg some (Prod.ext ?_ ?_)
 ·simp only [Int.toNat_natCast];omega
 ·dsimp only
  rw [wr (x:=((m.log2+1023:Nat):Int)) (by omega) (by omega),wr (x:=((m.log2+1023:Nat):Int) - 1023) (by omega) (by omega),wr (x:=((m.log2+1023:Nat):Int) - 1023+1) (by omega) (by omega),wr (by omega) (by omega)];omega
theorem Zp{x:Nat}(h:x<2^11):EZ .i64 (x:Int) 2047=(x:Int):=by
 have e:(BitVec.ofInt IntKind.i64.bits (x:Int)&&& BitVec.ofInt IntKind.i64.bits (2047:Int)).toNat=x:=by
  show (BitVec.ofInt 64 (x:Int)&&& BitVec.ofInt 64 ((2047:Nat):Int)).toNat=_
  rw [BitVec.toNat_and,OY (by omega),OY (by omega),show (2047:Nat)=2^11 - 1 by decide,Nat.and_two_pow_sub_one_eq_mod,Nat.mod_eq_of_lt h]
 rw [EZ,e,wr (by omega) (by omega)]
theorem ABq{x:Nat}(h:x<2^11):shl .u64 (x:Int) 52=((x*2^52:Nat):Int):=by
 have e:min (52:Int).toNat IntKind.u64.bits=52:=by decide
 rw [shl,e,wu (by omega) (by omega)];omega
theorem V5{m k:Nat}(h0:0<m)(hb:2^52≤m*2^(52 - m.log2))(hl2:m.log2+k≤52):(m.log2+k+1023)*2^52+(m*2^(52 - m.log2) - 2^52)=fw false (m*2^k):=by
 have e7:m*2^k*2^(52 - (m.log2+k))=m*2^(52 - m.log2):=by
  rw [Nat.mul_assoc,←Nat.pow_add];congr 2;omega
 simp only [fw,Format.word,MH h0,e7,Bool.false_eq_true,if_false]
 generalize m*2^(52 - m.log2)=q at*
 omega
theorem YP{m k:Nat}(h0:0<m)(h:m*2^k<2^53):IE (fw false m) (k:Int)=some (fw false (m*2^k)):=by
 have hm:m<2^53:=Nat.lt_of_le_of_lt (Nat.le_mul_of_pos_right m (Nat.pow_pos (by decide))) h
 have h1:0<m*2^k:=Nat.mul_pos h0 (Nat.pow_pos (by decide))
 have hl:=Ke h0 hm
 have hl2:=Ke h1 h
 rw [MH h0] at hl2
 have e3:IntKind.i64.wrap (IntKind.i64.wrap ((k:Int)+0)+IntKind.i64.wrap (((m.log2+1023:Nat):Int) - 1023))=(m.log2+k:Nat):=by
  rw [wr (x:=(k:Int)+0) (by omega) (by omega),wr (x:=((m.log2+1023:Nat):Int) - 1023) (by omega) (by omega),wr (by omega) (by omega)];omega
 have hL:m.log2+1023<2^11:=by omega
 have hL2:m.log2+k+1023<2^11:=by omega
 have e6a:0≤((m.log2+k+1023:Nat):Int):=by omega
 have e6b:((m.log2+k+1023:Nat):Int)<18446744073709551616:=by omega
 have e7:fw false m % 2^52<2^64:=Nat.lt_trans (Nat.mod_lt _ (Nat.pow_pos (by decide))) (by decide)
 have e8:(m.log2+k+1023)*2^52<2^64:=Nat.lt_of_lt_of_le (Nat.mul_lt_mul_of_pos_right hL2 (Nat.pow_pos (by decide))) (by decide)
 have d1:decide (((m.log2+k:Nat):Int)< -1075)=false:=by simp;omega
 have d2:decide (((m.log2+k:Nat):Int)>1023)=false:=by simp;omega
 have d3:decide (((m.log2+k:Nat):Int)< -1022)=false:=by simp;omega
 have e4:IntKind.i64.wrap (((m.log2+k:Nat):Int)+1023)=((m.log2+k+1023:Nat):Int):=by rw [wr (by omega) (by omega)];omega
 have hb:=Lx h0 hm
 have hf:=Wm h0 hm
 have hz:=Pi h0 hm
 have nn52:nn 52=some ():=rfl
 unfold IE Io
 rw [ABR h0 hm,cond_false,V4 hz (by omega),Option.bind_some,cond_false,Ud hz (by omega),Option.bind_some]
 unfold KQ
 rw [cond_false,Ph h0 hm,Option.bind_some,nn52,Option.bind_some]
 have e1:IntKind.i64.wrap (shr .u64 ((fw false m:Nat):Int) 52)=((fw false m / 2^52:Nat):Int):=by
  rw [AAI,hf.2.1,wr (by omega) (by omega)]
 have e2:EZ .i64 ((fw false m / 2^52:Nat):Int) 2047=((m.log2+1023:Nat):Int):=by rw [hf.2.1];exact Zp hL
 dsimp only
 rw [e1,e2,e3]
 rw [d1,cond_false,d2,cond_false,d3,cond_false]
 unfold KP
 rw [nn52,Option.bind_some]
 dsimp only
 have e5:=ABq hL2
 rw [e4,wu e6a e6b,e5,Wq hf.1,YM e7 e8,AAH (Nat.mod_lt _ (Nat.pow_pos (by decide))),hf.2.2.1,Int.toNat_natCast]
 have e6:=V5 h0 hb.1 hl2
 rw [e6]
 have one:Fz 4607182418800017408 1:= .inl (by decide)
 obtain ⟨z,hz1,hz2⟩:=one.mul (Pi h1 h) (by decide) (by omega) (by omega)
 rw [Int.one_mul] at hz2
 rw [hz1,hz2.eq (by omega),Mb h1 h];rfl
theorem Zq{p q:Nat}(hp:2^52≤p)(hp':p<2^53)(hq:2^52≤q)(hq':q<2^53):flt_ (1021*2^52+p) (1021*2^52+q)=decide (p<q):=by
 have rd: ∀p,2^52≤p→p<2^53→double.read (1021*2^52+p)= .number false p (-53):=by
  intro p h1 h2
  have e0:double.signWeight=2^63:=by decide
  have e4:double.binade=2^52:=rfl
  have e5:double.infRung=2047*2^52:=by decide
  have e6:double.leastPlace= -1074:=by decide
  have hr:(1021*2^52+p) % 2^63=1021*2^52+p:=by omega
  have hn:((1021*2^52+p) / 2^63 % 2==1)=false:=by simp;omega
  simp only [Format.read,e0,hr,hn,e4,e5,e6]
  rw [if_neg (by omega),if_pos (by omega)]
  congr 1
  ·omega
  ·omega
 have:FloatKind.f64.format.order (1021*2^52+p) (1021*2^52+q)=some (compare (p:Int) (q:Int)):=by
  show (double.read _).order (double.read _)=_
  rw [rd p hp hp',rd q hq hq']
  simp [Datum.order,signed]
 rw [flt_,this,Bool.eq_iff_iff]
 simp [Sj]
theorem YQ{n r j:Nat}{R:Nat→Option Nat}{B:Nat→Nat}(h0:0<n)(hj:n*2^j≤r)(hr:r<2^53){e1:Nat×Int}
  (ih: ∀w,Fz w ((r - n*2^j:Nat):Int)→∃z,R w=some (B z)∧Fz z (((r - n*2^j) % n:Nat):Int)) (hj53:j<53) (he:e1.2=(n.log2:Int)+1) (_hn:n.log2≤52):
  ∃z,J0 (fw false n) e1 (fw false r) R ((n.log2:Int)+1+j)=some (B z)∧Fz z ((r % n:Nat):Int):=by
 have hpj:0<n*2^j:=Nat.mul_pos h0 (Nat.pow_pos (by decide))
 have hnj:n*2^j<2^53:=Nat.lt_of_le_of_lt hj hr
 have hr0:0<r:=Nat.lt_of_lt_of_le hpj hj
 have e:IntKind.i64.wrap ((n.log2:Int)+1+j - e1.2)=(j:Int):=by rw [he,wr (by omega) (by omega)];omega
 have e2:((r:Int) - ((n*2^j:Nat):Int))=((r - n*2^j:Nat):Int):=by omega
 have k1:(r:Int).natAbs<2^53:=hr
 have k2:((n*2^j:Nat):Int).natAbs<2^53:=hnj
 have k3:((r:Int) - ((n*2^j:Nat):Int)).natAbs<2^53:=by rw [e2];exact Nat.lt_of_le_of_lt (Nat.sub_le _ _) hr
 have hm:(r - n*2^j) % n=r % n:=by
  conv=>rhs;rw [←Nat.sub_add_cancel hj]
  rw [Nat.add_mul_mod_self_left]
 unfold J0
 rw [e,YP h0 hnj,Option.bind_some]
 obtain ⟨z,hz1,hz2⟩:=(Pi hr0 hr).sub (Pi hpj hnj) k1 k2 k3
 rw [hz1,Option.bind_some]
 rw [e2] at hz2
 obtain ⟨z',h1,h2⟩:=ih z hz2
 rw [hm] at h2
 exact ⟨z',h1,h2⟩
theorem V6{n r:Nat}(hn:n.log2≤52)(hr:r.log2≤52)(hle:n.log2≤r.log2)(hq:n*2^(52 - n.log2)≤r*2^(52 - r.log2)):n*2^(r.log2 - n.log2)≤r:=by
 have h1:n*2^(r.log2 - n.log2)*2^(52 - r.log2)=n*2^(52 - n.log2):=by
  rw [Nat.mul_assoc,←Nat.pow_add];congr 2;omega
 have h2:n*2^(r.log2 - n.log2)*2^(52 - r.log2)≤r*2^(52 - r.log2):=by rw [h1];exact hq
 exact Nat.le_of_mul_le_mul_right h2 (Nat.pow_pos (by decide))
theorem V7{n r:Nat}(hr0:0<r)(hlt:n.log2<r.log2):n*2^(r.log2 - n.log2 - 1)≤r:=by
 have h1:n*2^(r.log2 - n.log2 - 1)<2^(n.log2+1)*2^(r.log2 - n.log2 - 1):=Nat.mul_lt_mul_of_pos_right Nat.lt_log2_self (Nat.pow_pos (by decide))
 rw [←Nat.pow_add,show n.log2+1+(r.log2 - n.log2 - 1)=r.log2 by omega] at h1
 exact Nat.le_trans (Nat.le_of_lt h1) (Nat.log2_self_le (by omega))
theorem XJ{n r:Nat}(h0:0<n)(h:n≤r):n.log2≤r.log2:=by
 have h1:=Nat.log2_self_le (n:=n) (by omega)
 have h2:=Nat.lt_log2_self (n:=r)
 have h3:2^n.log2<2^(r.log2+1):=by omega
 have:=(Nat.pow_lt_pow_iff_right (by decide:1<2)).1 h3
 omega
theorem VI{x n:Nat}(h0:0<n)(hlt:n<2^53): ∀(k:Nat) (w:Nat) (r:Nat),Fz w (r:Int)→r<2^53→r<k→
  ∃z,JM x (fw false n) (1021*2^52+n*2^(52 - n.log2),(n.log2:Int)+1) k w=some (bif flt_ x 0 then Op.negFloat .f64 z else z)∧Fz z ((r % n:Nat):Int):=by
 intro k
 have bn:=Lx h0 hlt
 have ln:=Ke h0 hlt
 have lnI:(n:Int).natAbs<2^53:=hlt
 obtain ⟨c,hc0⟩: ∃c:Nat×Int,c=(1021*2^52+n*2^(52 - n.log2),(n.log2:Int)+1):=⟨_,rfl⟩
 rw [←hc0]
 have c1:c.1=1021*2^52+n*2^(52 - n.log2):=by rw [hc0]
 have c2:c.2=(n.log2:Int)+1:=by rw [hc0]
 clear hc0
 induction k with
 |zero=>intro w r _ _ h;exact absurd h (Nat.not_lt_zero _)
 |succ k ih=>
  intro w r hw hr hk
  have lrI:(r:Int).natAbs<2^53:=hr
  show∃z,Kx x (fw false n) c (JM x (fw false n) c k) w=some _∧_
  unfold Kx
  rw [hw.fge (Pi h0 hlt) lrI lnI]
  cases hc:decide ((n:Int)≤(r:Int))
  ·have hc:=Dn hc
   refine ⟨w,?_,by rw [Nat.mod_eq_of_lt (by omega)];exact hw⟩
   rw [cond_false]
   cases flt_ x 0<;>rfl
  ·have hc:n≤r:=by have:=CN hc;omega
   have hr0:0<r:=Nat.lt_of_lt_of_le h0 hc
   have hwr:w=fw false r:=by rw [hw.eq (by omega),Mb hr0 hr]
   subst hwr
   have br:=Lx hr0 hr
   have lr:=Ke hr0 hr
   have hLe:=XJ h0 hc
   rw [cond_true,VH hr0 hr,Option.bind_some]
   dsimp only
   rw [c1,Zq br.1 br.2 bn.1 bn.2]
   have step: ∀j:Nat,n*2^j≤r→j<53→∃z,J0 (fw false n) c (fw false r) (JM x (fw false n) c k) ((n.log2:Int)+1+j)=some (bif flt_ x 0 then Op.negFloat .f64 z else z)∧Fz z ((r % n:Nat):Int):=by
    intro j hj hj53
    have hpj:0<n*2^j:=Nat.mul_pos h0 (Nat.pow_pos (by decide))
    exact YQ h0 hj hr (fun w hw=>ih w _ hw (Nat.lt_of_le_of_lt (Nat.sub_le _ _) hr) (by omega)) hj53 c2 ln
   cases hq:decide (r*2^(52 - r.log2)<n*2^(52 - n.log2))
   ·have hq:=Dn hq
    obtain ⟨z,h1,h2⟩:=step _ (V6 ln lr hLe (Nat.le_of_not_lt hq)) (by omega)
    refine ⟨z,?_,h2⟩
    have e:(r.log2:Int)+1=(n.log2:Int)+1+((r.log2 - n.log2:Nat):Int):=by omega
    rw [cond_false,e]
    exact h1
   ·have hq:=CN hq
    have hLt:n.log2<r.log2:=by
     rcases Nat.lt_or_ge n.log2 r.log2 with h|h
     ·exact h
     ·have e:n.log2=r.log2:=Nat.le_antisymm hLe h
      rw [e] at hq
      exact absurd (Nat.lt_of_mul_lt_mul_right hq) (Nat.not_lt.2 hc)
    obtain ⟨z,h1,h2⟩:=step _ (V7 hr0 hLt) (by omega)
    refine ⟨z,?_,h2⟩
    have e:IntKind.i64.wrap ((r.log2:Int)+1 - 1)=(n.log2:Int)+1+((r.log2 - n.log2 - 1:Nat):Int):=by rw [wr (by omega) (by omega)];omega
    rw [cond_true,e]
    exact h1
theorem YR{N:Nat}{x y:Nat}{a n:Int}(hN:2^54≤N)(hx:Fz x a)(hy:Fz y n)(ha:a.natAbs<2^53)(hn0:0<n)(hn:n<2^53): ∃z,JZ N x y=some z∧Fz z (a.tmod n):=by
 obtain ⟨n,rfl⟩: ∃m:Nat,n=m:=⟨n.toNat,by omega⟩
 have h0:0<n:=by omega
 have hlt:n<2^53:=by omega
 have lnI:(n:Int).natAbs<2^53:=hlt
 have h254: ∀q:Nat,q<2^53→q<N:=fun q h=>by omega
 clear hN hn hn0
 have ey:=Mb h0 hlt
 have hyy:y=fw false n:=by rw [hy.eq (by omega),ey]
 subst hyy
 have eabs:=YN (Pi h0 hlt) lnI
 rw [show ((n:Int).natAbs:Int)=(n:Int) from rfl,ey] at eabs
 have nz0:(0:Int).natAbs<2^53:=by decide
 unfold JZ KR
 rw [ABR h0 hlt,cond_false,V4 hx ha,Option.bind_some,cond_false,Ud hx ha,Option.bind_some,cond_false,Ud (Pi h0 hlt) lnI,Option.bind_some]
 unfold J1
 rw [cond_false,eabs,Option.bind_some,VH h0 hlt,Option.bind_some,hx.flt fz0 ha nz0]
 cases hs:decide (a<0)
 ·have hs':=Dn hs
  have ea:((a.toNat:Nat):Int)=a:=by omega
  have hxa:Fz x ((a.toNat:Nat):Int):=by rw [ea];exact hx
  have la:a.toNat<2^53:=by omega
  obtain ⟨z,h1,h2⟩:=VI (x:=x) h0 hlt N x a.toNat hxa la (h254 _ la)
  rw [hx.flt fz0 ha nz0,hs] at h1
  refine ⟨z,?_,?_⟩
  ·rw [cond_false]
   unfold Km
   rw [h1];rfl
  ·have e:((a.toNat % n:Nat):Int)=a.tmod n:=by rw [Int.tmod_eq_emod_of_nonneg (by omega),Int.natCast_emod,ea]
   rw [e] at h2;exact h2
 ·have hs':=CN hs
  have ea:((a.natAbs:Nat):Int)= -a:=by omega
  have hxa:Fz (Op.negFloat .f64 x) ((a.natAbs:Nat):Int):=by rw [ea];exact Uc hx ha
  obtain ⟨z,h1,h2⟩:=VI (x:=x) h0 hlt N (Op.negFloat .f64 x) a.natAbs hxa ha (h254 _ ha)
  rw [hx.flt fz0 ha nz0,hs] at h1
  have hm:(((a.natAbs % n:Nat):Int)).natAbs<2^53:=Nat.lt_of_le_of_lt (Nat.mod_le _ _) ha
  refine ⟨Op.negFloat .f64 z,?_,?_⟩
  ·rw [cond_true]
   unfold Km
   rw [h1];rfl
  ·have h3:=Uc h2 hm
   have e: -((a.natAbs % n:Nat):Int)=a.tmod n:=by
    rw [show a= -(a.natAbs:Int) by omega,Int.neg_tmod,Int.tmod_eq_emod_of_nonneg (by omega),Int.natCast_emod,Int.natAbs_neg]
    rfl
   rw [e] at h3;exact h3
theorem YS{x y:Nat}{a n c:Int}(hx:Fz x a)(hy:Fz y n)(ha:a.natAbs<2^53)(hn0:0<n)(hn:n<2^53)(hc:a=c*n): ∃z,FloatKind.f64.format.div x y=some z∧Fz z c:=by
 obtain ⟨s,k,hk,hs⟩:=hx.read ha
 obtain ⟨t,j,hj,ht⟩:=hy.read (show n.natAbs<2^53 by omega)
 have ht':t=false:=by rw [ht (by omega)];simp;omega
 subst ht'
 have hcl:c.natAbs<2^53:=by
  have h1:a.natAbs=c.natAbs*n.natAbs:=by rw [hc,Int.natAbs_mul]
  have h2:c.natAbs*1≤c.natAbs*n.natAbs:=Nat.mul_le_mul_left _ (by omega)
  omega
 have main: ∃e,(double.read x).quotient (double.fractionBits+2) (double.read y)=some e∧Wd e c:=by
  rw [hk,hj]
  simp only [Datum.quotient]
  have hp:0<n.natAbs*2^j:=Nat.mul_pos (by omega) (Nat.pow_pos (by decide))
  rw [if_neg (by omega)]
  have hlog:j≤k+(double.fractionBits+2+(n.natAbs*2^j).log2 - (a.natAbs*2^k).log2):=by
   have e1:double.fractionBits+2=54:=rfl
   rw [e1,MH (by omega)]
   rcases Nat.eq_zero_or_pos a.natAbs with h|h
   ·rw [h];simp;omega
   ·have:=Ke h ha
    rw [MH h];omega
  generalize double.fractionBits+2+(n.natAbs*2^j).log2 - (a.natAbs*2^k).log2=more at*
  have e2:(a.natAbs*2^k) <<< more=c.natAbs*2^(k+more - j)*(n.natAbs*2^j):=by
   rw [Nat.shiftLeft_eq,hc,Int.natAbs_mul]
   have:2^k*2^more=2^(k+more - j)*2^j:=by rw [←Nat.pow_add,←Nat.pow_add];congr 1;omega
   calc c.natAbs*n.natAbs*2^k*2^more=c.natAbs*n.natAbs*(2^k*2^more):=by rw [Nat.mul_assoc]
    _=c.natAbs*n.natAbs*(2^(k+more - j)*2^j):=by rw [this]
    _=c.natAbs*2^(k+more - j)*(n.natAbs*2^j):=by simp only [Nat.mul_assoc,Nat.mul_left_comm]
  rw [e2,Nat.mul_div_cancel _ hp,Nat.mul_mod_left]
  refine ⟨_,rfl,s,k+more - j+1,?_,fun h=>?_⟩
  ·simp only [bne_self_eq_false,Bool.toNat_false,Nat.add_zero,Bool.bne_false]
   congr 1
   ·rw [Nat.pow_succ];simp only [Nat.mul_comm,Nat.mul_left_comm]
   ·omega
  ·rw [hs (by rw [hc];exact Int.mul_ne_zero h (by omega)),hc]
   have:c*n<0↔c<0:=by
    constructor
    ·intro h1
     rcases Int.lt_or_le c 0 with h2|h2
     ·exact h2
     ·have:=Int.mul_nonneg h2 (Int.le_of_lt hn0);omega
    ·intro h1;exact Int.mul_neg_of_neg_of_pos h1 hn0
   simp [this]
 obtain ⟨e,he,hw⟩:=main
 refine ⟨double.write e,?_,Fz.write hw hcl⟩
 show ((double.read x).quotient (double.fractionBits+2) (double.read y)).map double.write=_
 rw [he];rfl
theorem Ws(a b:Int):(a.tmod b).natAbs≤a.natAbs:=by rw [Int.natAbs_tmod];exact Nat.mod_le _ _
theorem RO(a b:Int):(a.tdiv b).natAbs≤a.natAbs:=by rw [Int.natAbs_tdiv];exact Nat.div_le_self _ _
def quo(a b:Ai):Ai×Int:=
 let n:=b.re*b.re+b.im*b.im
 let x:=a.re*b.re+a.im*b.im
 let y:=a.im*b.re - a.re*b.im
 if n=0∨x.tmod n≠0∨y.tmod n≠0 then (⟨0,0⟩,51) else inn ⟨x.tdiv n,y.tdiv n⟩
section
variable{a b:Ai}(ha:G6 a)(hb:G6 b)
include ha hb
theorem ABS(h: ¬(b.re=0∧b.im=0)):0<b.re*b.re+b.im*b.im:=by
 have h1:0≤b.re*b.re:=by
  rcases Int.le_total 0 b.re with h|h
  ·exact Int.mul_nonneg h h
  ·exact Int.mul_nonneg_of_nonpos_of_nonpos h h
 have h2:0≤b.im*b.im:=by
  rcases Int.le_total 0 b.im with h|h
  ·exact Int.mul_nonneg h h
  ·exact Int.mul_nonneg_of_nonpos_of_nonpos h h
 rcases Decidable.em (b.re*b.re=0) with h3|h3
 ·rcases Decidable.em (b.im*b.im=0) with h4|h4
  ·refine absurd ⟨?_,?_⟩ h
   ·rcases Int.mul_eq_zero.1 h3 with h|h<;>exact h
   ·rcases Int.mul_eq_zero.1 h4 with h|h<;>exact h
  ·omega
 ·omega
theorem ABT{N:Nat}(hN:2^54≤N):JB N (rn a) (rn b)=some (rn (quo a b).1,(quo a b).2):=by
 unfold JB Kz
 simp only [Jg ha,Jg hb,Option.bind_some,Bool.not_true,cond_false]
 have hz:ceq (rn b) (0,0)=(decide (b.re=0)&&decide (b.im=0)):=by
  rw [ceq,(Fz.re hb).feq fz0 hb.re (by decide),(Fz.im hb).feq fz0 hb.im (by decide)]
 rw [hz]
 cases h0:(decide (b.re=0)&&decide (b.im=0))
 ·simp only [cond_false]
  have hne: ¬(b.re=0∧b.im=0):=by
   intro h;rw [h.1,h.2] at h0;simp at h0
  have hn:=ABS ha hb hne
  have hni:=Uc (Fz.im hb) hb.im
  have hia:(-b.im).natAbs≤16777216:=by have:=hb.imA;omega
  obtain ⟨p1,p2,hp,q1,q2,l1,l2⟩:=Ub (Fz.re ha) (Fz.im ha) (Fz.re hb) hni ha.reA ha.imA hb.reA hia
  obtain ⟨n1,n2,hm,q3,_,l3,_⟩:=Ub (Fz.re hb) (Fz.im hb) (Fz.re hb) hni hb.reA hb.imA hb.reA hia
  have e1:a.re*b.re - a.im* -b.im=a.re*b.re+a.im*b.im:=by rw [Int.mul_neg];omega
  have e2:a.re* -b.im+a.im*b.re=a.im*b.re - a.re*b.im:=by rw [Int.mul_neg];omega
  have e3:b.re*b.re - b.im* -b.im=b.re*b.re+b.im*b.im:=by rw [Int.mul_neg];omega
  rw [e1] at q1 l1;rw [e2] at q2 l2;rw [e3] at q3 l3
  have ep:cmul (rn a) ((rn b).1,Op.negFloat .f64 (rn b).2)=some (p1,p2):=hp
  have em:cmul (rn b) ((rn b).1,Op.negFloat .f64 (rn b).2)=some (n1,n2):=hm
  obtain ⟨z1,hz1,w1⟩:=YR hN q1 q3 (by omega) hn (by omega)
  obtain ⟨z2,hz2,w2⟩:=YR hN q2 q3 (by omega) hn (by omega)
  have b1:=Ws (a.re*b.re+a.im*b.im) (b.re*b.re+b.im*b.im)
  have b2:=Ws (a.im*b.re - a.re*b.im) (b.re*b.re+b.im*b.im)
  simp only [ep,em,Option.bind_some,hz1,hz2]
  rw [w1.fne fz0 (by omega) (by decide),w2.fne fz0 (by omega) (by decide)]
  unfold Ky quo
  simp only
  cases h1:decide ((a.re*b.re+a.im*b.im).tmod (b.re*b.re+b.im*b.im)=0)
  ·have h1:=Dn h1
   rw [if_pos (.inr (.inl h1))]
   rfl
  ·have h1:=CN h1
   simp only [Bool.not_true,cond_false]
   cases h2:decide ((a.im*b.re - a.re*b.im).tmod (b.re*b.re+b.im*b.im)=0)
   ·have h2:=Dn h2
    rw [if_pos (.inr (.inr h2))]
    rfl
   ·have h2:=CN h2
    rw [if_neg (by rintro (h|h|h)<;>omega)]
    simp only [Bool.not_true,cond_false]
    have c1:a.re*b.re+a.im*b.im=(a.re*b.re+a.im*b.im).tdiv (b.re*b.re+b.im*b.im)*(b.re*b.re+b.im*b.im):=by
     have:=Int.tmod_add_tdiv_mul (a.re*b.re+a.im*b.im) (b.re*b.re+b.im*b.im);omega
    have c2:a.im*b.re - a.re*b.im=(a.im*b.re - a.re*b.im).tdiv (b.re*b.re+b.im*b.im)*(b.re*b.re+b.im*b.im):=by
     have:=Int.tmod_add_tdiv_mul (a.im*b.re - a.re*b.im) (b.re*b.re+b.im*b.im);omega
    obtain ⟨d1,hd1,v1⟩:=YS q1 q3 (by omega) hn (by omega) c1
    obtain ⟨d2,hd2,v2⟩:=YS q2 q3 (by omega) hn (by omega) c2
    have k1:=RO (a.re*b.re+a.im*b.im) (b.re*b.re+b.im*b.im)
    have k2:=RO (a.im*b.re - a.re*b.im) (b.re*b.re+b.im*b.im)
    simp only [hd1,hd2,Option.bind_some,OX v1 v2 (by omega) (by omega)]
 ·simp only [Bool.and_eq_true,decide_eq_true_eq] at h0
  unfold quo
  simp only
  rw [if_pos (.inl (by rw [h0.1,h0.2];rfl))]
  rfl
theorem Zr:Oh a b=some (quo a b):=by
 have m1:=LE hb.reA hb.reA
 have m2:=LE hb.imA hb.imA
 have m3:=LE ha.reA hb.reA
 have m4:=LE ha.imA hb.imA
 have m5:=LE ha.imA hb.reA
 have m6:=LE ha.reA hb.imA
 unfold Oh Lv
 rw [wr (x:=b.re*b.re) (by omega) (by omega),wr (x:=b.im*b.im) (by omega) (by omega),wr (x:=a.re*b.re) (by omega) (by omega),wr (x:=a.im*b.im) (by omega) (by omega),wr (x:=a.im*b.re) (by omega) (by omega),wr (x:=a.re*b.im) (by omega) (by omega),
  wr (x:=b.re*b.re+b.im*b.im) (by omega) (by omega),wr (x:=a.re*b.re+a.im*b.im) (by omega) (by omega),wr (x:=a.im*b.re - a.re*b.im) (by omega) (by omega)]
 have k1:=RO (a.re*b.re+a.im*b.im) (b.re*b.re+b.im*b.im)
 have k2:=RO (a.im*b.re - a.re*b.im) (b.re*b.re+b.im*b.im)
 rw [wr (x:=(a.re*b.re+a.im*b.im).tdiv (b.re*b.re+b.im*b.im)) (by omega) (by omega),wr (x:=(a.im*b.re - a.re*b.im).tdiv (b.re*b.re+b.im*b.im)) (by omega) (by omega)]
 unfold quo
 simp only
 cases h0:(b.re*b.re+b.im*b.im==0)
 ·have h0:=Bh h0
  have hnz:nz (b.re*b.re+b.im*b.im)=some ():=by rw [nz,if_neg h0]
  simp only [cond_false,hnz,Option.bind_some]
  cases h1:((a.re*b.re+a.im*b.im).tmod (b.re*b.re+b.im*b.im) != 0)
  ·have h1:=JK h1
   simp only [cond_false]
   cases h2:((a.im*b.re - a.re*b.im).tmod (b.re*b.re+b.im*b.im) != 0)
   ·have h2:=JK h2
    rw [if_neg (by rintro (h|h|h)<;>contradiction),Wj]
    rfl
   ·have h2:=Ko h2
    rw [if_pos (.inr (.inr h2))];rfl
  ·have h1:=Ko h1
   rw [if_pos (.inr (.inl h1))];rfl
 ·have h0:=B7 h0
  rw [if_pos (.inl h0)];rfl
end
end Fth
namespace Fth
open Go
def VV(t:Int)(v:AI):Prop:=
 (t=1∧v.type_=1∧Gn v.num∧v.bool=false∧v.list=[])∨(t=2∧v.type_=2∧v.num=(0,0)∧v.list=[])∨
 (t=3∧v.type_=3∧v.num=(0,0)∧v.bool=false∧∀z∈v.list,Gn z)
def GV(v:AI):Prop:=Gn v.num∧(∀z∈v.list,Gn z)∧v.list.length≤1000000000000
def chk(v:AI):Bool:=
 bif v.type_==1 then !v.bool&&v.list.isEmpty else bif v.type_==2 then decide (v.num=(0,0))&&v.list.isEmpty else bif v.type_==3 then decide (v.num=(0,0))&& !v.bool else false
theorem gn0:Gn (0,0):=⟨0,0,⟨z0,by decide,by decide⟩,⟨z0,by decide,by decide⟩⟩
theorem YT{v:AI}(h:GV v):chk v=true↔VV v.type_ v:=by
 obtain ⟨h1,h2,_⟩:=h
 unfold chk VV
 cases e1:(v.type_==1)
 ·have e1:=Bh e1
  cases e2:(v.type_==2)
  ·have e2:=Bh e2
   cases e3:(v.type_==3)
   ·have e3:=Bh e3
    simp [e1,e2,e3]
   ·have e3:=B7 e3
    simp [e3];intro _ _;exact fun z w hz=>h2 (z,w) hz
  ·have e2:=B7 e2
   simp [e2]
 ·have e1:=B7 e1
  simp [e1,h1]
theorem VV.gv{t:Int}{v:AI}(h:VV t v)(hl:v.list.length≤1000000000000):GV v:=by
 rcases h with ⟨_,_,h,_,h'⟩| ⟨_,_,h,h'⟩| ⟨_,_,h,_,h'⟩
 ·exact ⟨h,by rw [h'];simp,hl⟩
 ·exact ⟨by rw [h];exact gn0,by rw [h'];simp,hl⟩
 ·exact ⟨by rw [h];exact gn0,h',hl⟩
theorem VV.type{t:Int}{v:AI}(h:VV t v):v.type_=t:=by
 rcases h with ⟨h1,h2,_⟩| ⟨h1,h2,_⟩| ⟨h1,h2,_⟩<;>rw [h1,h2]
theorem ABr{z:Nat×Nat}(h:Gn z):ceq z (0,0)=decide (z=(0,0)):=by
 obtain ⟨n,hn,rfl⟩:=(Sm z).1 h
 have e1:=(Fz.re hn).feq fz0 hn.re (by decide)
 have e2:=(Fz.im hn).feq fz0 hn.im (by decide)
 rw [ceq]
 dsimp only
 rw [e1,e2,Bool.eq_iff_iff]
 simp only [Bool.and_eq_true,decide_eq_true_eq]
 constructor
 ·rintro ⟨h1,h2⟩
  rw [rn,h1,h2,Ok]
 ·intro h
  have h1:FloatKind.f64.nearest n.re=0:=congrArg Prod.fst h
  have h2:FloatKind.f64.nearest n.im=0:=congrArg Prod.snd h
  have f0:feq 0 0=true:=by decide
  have k1:(rn n).1=0:=h1
  have k2:(rn n).2=0:=h2
  rw [k1,f0] at e1
  rw [k2,f0] at e2
  exact ⟨CN e1.symm,CN e2.symm⟩
theorem VJ{z:Nat×Nat}(h:Gn z):Bv z=some true:=by
 obtain ⟨n,hn,rfl⟩:=(Sm z).1 h
 exact Jg hn
theorem M7{N:Nat}{v:AI}(h:GV v)(hN:v.list.length+2≤N):DB N v=some (bif chk v then 0 else 3):=by
 obtain ⟨h1,h2,h3⟩:=h
 have loop: ∀(k:Nat) (b:Bool) (i:Nat),i≤v.list.length→v.list.length<i+k→IC v k b (i:Int)=some (bif b then 0 else 3):=by
  intro k
  induction k with
  |zero=>intro b i _ _;omega
  |succ k ih=>
   intro b i hi hk
   show JY v (IC v k) b i=_
   unfold JY Jy EH
   cases hc:decide ((i:Int)< (v.list.length:Int))
   ·rw [cond_false];cases b<;>rfl
   ·have hc:=CN hc
    obtain ⟨z,hz,hz'⟩:=FJ (xs:=v.list) (i:=(i:Int)) (by omega) hc
    rw [cond_true,hz,Option.bind_some,wr (by omega) (by omega),show (i:Int)+1=((i+1:Nat):Int) by omega]
    have hg:=h2 z (List.mem_of_getElem? hz')
    rw [VJ hg,Option.bind_some]
    cases b
    ·exact ih false (i+1) (by omega) (by omega)
    ·exact ih true (i+1) (by omega) (by omega)
 have loop0:=fun b=>loop N b 0 (by omega) (by omega)
 have he:((v.list.length:Int)==0)=v.list.isEmpty:=by cases v.list<;>simp;omega
 unfold DB EH I7 chk
 rw [VJ h1,Option.bind_some,ABr h1,he]
 cases e1:(v.type_==1)
 ·rw [cond_false,cond_false]
  cases e2:(v.type_==2)
  ·rw [cond_false,cond_false]
   cases e3:(v.type_==3)
   ·rfl
   ·rw [cond_true,cond_true,Option.bind_some,cond_true]
    cases decide (v.num=(0,0))
    ·exact loop0 false
    ·exact loop0 (!v.bool)
  ·rw [cond_true,cond_true,Option.bind_some,cond_true]
   cases decide (v.num=(0,0))
   ·rfl
   ·cases v.list.isEmpty<;>rfl
 ·rw [cond_true,cond_true,cond_true]
  cases v.bool
  ·cases v.list.isEmpty<;>rfl
  ·rfl
theorem Ll{N:Nat}{v:AI}(h:GV v)(hN:v.list.length+2≤N):B1 N v=some (chk v):=by
 obtain ⟨h1,h2,h3⟩:=h
 have he:((v.list.length:Int)==0)=v.list.isEmpty:=by cases v.list<;>simp;omega
 have loop: ∀(k:Nat) (i:Nat),i≤v.list.length→v.list.length<i+k→Eg v k true (i:Int)=some (chk v):=by
  intro k
  induction k with
  |zero=>intro i _ _;omega
  |succ k ih=>
   intro i hi hk
   show E3 v (Eg v k) true i=_
   unfold E3 HH Iz I0 I1
   cases hc:decide ((i:Int)< (v.list.length:Int))
   ·rw [cond_false,ABr h1,he]
    unfold chk
    cases e1:(v.type_==1)
    ·rw [cond_false,cond_false]
     cases e2:(v.type_==2)
     ·rw [cond_false,cond_false]
      cases e3:(v.type_==3)
      ·rfl
      ·cases decide (v.num=(0,0))<;>rfl
     ·cases decide (v.num=(0,0))<;>rfl
    ·cases v.bool<;>rfl
   ·have hc:=CN hc
    obtain ⟨z,hz,hz'⟩:=FJ (xs:=v.list) (i:=(i:Int)) (by omega) hc
    rw [cond_true,hz,Option.bind_some,wr (by omega) (by omega),show (i:Int)+1=((i+1:Nat):Int) by omega]
    obtain ⟨n,_,_,hn⟩:=YL (h2 z (List.mem_of_getElem? hz'))
    rw [hn,Option.bind_some,cond_true]
    exact ih (i+1) (by omega) (by omega)
 obtain ⟨n,_,_,hn⟩:=YL h1
 unfold B1
 rw [hn,Option.bind_some]
 exact loop N 0 (by omega) (by omega)
def v0:AI:=⟨0,(0,0),false,[]⟩
def nv(x:Ai×Int):AI×Int:=if x.2=0 then (⟨1,rn x.1,false,[]⟩,0) else (v0,x.2)
theorem Zs(x:Ai×Int):Dq (rn x.1) x.2=some (nv x):=by
 unfold Dq nv
 cases h:(x.2 != 0)
 ·rw [if_pos (JK h)];rfl
 ·rw [if_neg (Ko h)];rfl
theorem Ue(x:Ai×Int):EW x.1 x.2=some (nv x):=by
 unfold EW nv
 cases h:(x.2 != 0)
 ·rw [if_pos (JK h)];rfl
 ·rw [if_neg (Ko h)];rfl
def two(op:Int)(a b:Ai):AI×Int:=
 if op=8 then nv (inn ⟨a.re+b.re,a.im+b.im⟩) else if op=9 then nv (inn ⟨a.re - b.re,a.im - b.im⟩)
 else if op=10 then nv (inn ⟨a.re*b.re - a.im*b.im,a.re*b.im+a.im*b.re⟩) else if op=11 then nv (quo a b)
 else if op=12 then (⟨2,(0,0),decide (a.re=b.re)&&decide (a.im=b.im),[]⟩,0)
 else (⟨2,(0,0),decide (a.re<b.re)||(decide (a.re=b.re)&&decide (a.im<b.im)),[]⟩,0)
theorem YU{N:Nat}{op:Int}{a b:Ai}(hN:2^54≤N)(ha:G6 a)(hb:G6 b):Ja N op (rn a) (rn b)=some (two op a b):=by
 unfold Ja two
 rw [ABN ha hb,ABO ha hb,ABP ha hb,ABT ha hb hN,ABQ ha hb,Zk ha hb]
 simp only [Option.bind_some,Zs]
 cases h1:(op==8)
 ·rw [if_neg (Bh h1)]
  cases h2:(op==9)
  ·rw [if_neg (Bh h2)]
   cases h3:(op==10)
   ·rw [if_neg (Bh h3)]
    cases h4:(op==11)
    ·rw [if_neg (Bh h4)]
     cases h5:(op==12)
     ·rw [if_neg (Bh h5)];rfl
     ·rw [if_pos (B7 h5)];rfl
    ·rw [if_pos (B7 h4)];rfl
   ·rw [if_pos (B7 h3)];rfl
  ·rw [if_pos (B7 h2)];rfl
 ·rw [if_pos (B7 h1)];rfl
section
variable{a b:Ai}(ha:G6 a)(hb:G6 b)
include ha hb
theorem Zt:Oe a b=some (inn ⟨a.re+b.re,a.im+b.im⟩):=by
 obtain ⟨⟨h1,h2⟩,h3,h4⟩:=ha
 obtain ⟨⟨h5,h6⟩,h7,h8⟩:=hb
 unfold Oe
 rw [wr (by omega) (by omega),wr (by omega) (by omega),Wj];rfl
theorem Zu:Of a b=some (inn ⟨a.re - b.re,a.im - b.im⟩):=by
 obtain ⟨⟨h1,h2⟩,h3,h4⟩:=ha
 obtain ⟨⟨h5,h6⟩,h7,h8⟩:=hb
 unfold Of
 rw [wr (by omega) (by omega),wr (by omega) (by omega),Wj];rfl
theorem Zv:Og a b=some (inn ⟨a.re*b.re - a.im*b.im,a.re*b.im+a.im*b.re⟩):=by
 have m3:=LE ha.reA hb.reA
 have m4:=LE ha.imA hb.imA
 have m5:=LE ha.imA hb.reA
 have m6:=LE ha.reA hb.imA
 unfold Og
 rw [wr (x:=a.re*b.re) (by omega) (by omega),wr (x:=a.im*b.im) (by omega) (by omega),wr (x:=a.im*b.re) (by omega) (by omega),wr (x:=a.re*b.im) (by omega) (by omega),wr (by omega) (by omega),wr (by omega) (by omega),Wj];rfl
theorem YV:ND a b=some (decide (a.re<b.re)||(decide (a.re=b.re)&&decide (a.im<b.im))):=by
 unfold ND LZ
 have e:(a.re==b.re)=decide (a.re=b.re):=by rw [Bool.eq_iff_iff];simp
 rw [e]
 cases decide (a.re<b.re)
 ·cases decide (a.re=b.re)<;>rfl
 ·rfl
end
theorem YW{op:Int}(h:8≤op∧op≤13):Hc op=some (2,1)∧MT op=some (2,1):=by
 have:op=8∨op=9∨op=10∨op=11∨op=12∨op=13:=by omega
 rcases this with rfl|rfl|rfl|rfl|rfl|rfl<;>exact ⟨rfl,rfl⟩
theorem YX{op:Int}(h:15≤op∧op≤17):Hc op=some (1,1)∧MT op=some (1,1):=by
 have:op=15∨op=16∨op=17:=by omega
 rcases this with rfl|rfl|rfl<;>exact ⟨rfl,rfl⟩
def Ck(a:Ai):AI:=⟨1,rn a,false,[]⟩
theorem XK{a:Ai}(ha:G6 a):GV (Ck a):=⟨.of ha,by simp [Ck],by simp [Ck]⟩
theorem Tl(a:Ai):chk (Ck a)=true:=rfl
def Ii(c:Bool):AI:=⟨2,(0,0),c,[]⟩
theorem Zw(b:Bool):GV (Ii b):=⟨gn0,by simp [Ii],by simp [Ii]⟩
theorem ABU{N:Nat}{op:Int}{a b:Ai}(hN:2^54≤N)(h:8≤op∧op≤13)(ha:G6 a)(hb:G6 b):
  D0 N op [Ck a,Ck b]=some (two op a b)∧Ga N op [Ck a,Ck b]=some (two op a b):=by
 obtain ⟨M,rfl⟩: ∃M,N=M+3:=⟨N - 3,by omega⟩
 have c1:DB (M+3) (Ck a)=some 0:=by rw [M7 (XK ha) (by simp [Ck]),Tl];rfl
 have c2:DB (M+3) (Ck b)=some 0:=by rw [M7 (XK hb) (by simp [Ck]),Tl];rfl
 have d1:B1 (M+3) (Ck a)=some true:=by rw [Ll (XK ha) (by simp [Ck]),Tl]
 have d2:B1 (M+3) (Ck b)=some true:=by rw [Ll (XK hb) (by simp [Ck]),Tl]
 have o1:EU (Ck a).num=some (a,true):=Tk ha
 have o2:EU (Ck b).num=some (b,true):=Tk hb
 constructor
 ·unfold D0
  rw [(YW h).1,Option.bind_some]
  show Cc (M+3) op [Ck a,Ck b] (2,1) (DQ (M+3) op [Ck a,Ck b] (2,1) (M+2)) 0=_
  unfold Cc
  show (DB (M+3) (Ck a)).bind (fun x208=>Hx 0 (DQ (M+3) op [Ck a,Ck b] (2,1) (M+2)) (x208 != 0))=_
  rw [c1,Option.bind_some]
  show Cc (M+3) op [Ck a,Ck b] (2,1) (DQ (M+3) op [Ck a,Ck b] (2,1) (M+1)) 1=_
  unfold Cc
  show (DB (M+3) (Ck b)).bind (fun x208=>Hx 1 (DQ (M+3) op [Ck a,Ck b] (2,1) (M+1)) (x208 != 0))=_
  rw [c2,Option.bind_some]
  show Cc (M+3) op [Ck a,Ck b] (2,1) (DQ (M+3) op [Ck a,Ck b] (2,1) M) 2=_
  unfold Cc
  have hop:(op==14)=false∧(op==15)=false∧(op==16)=false∧(op==17)=false:=by
   refine ⟨?_,?_,?_,?_⟩<;>(simp;omega)
  rw [hop.1,hop.2.1,hop.2.2.1,hop.2.2.2]
  show (Ja (M+3) op (rn a) (rn b)).bind (fun x321=>some (x321.1,x321.2))=_
  rw [YU hN ha hb];rfl
 ·unfold Ga
  rw [(YW h).2,Option.bind_some]
  show Ch (M+3) op [Ck a,Ck b] (2,1) (Bu (M+3) op [Ck a,Ck b] (2,1) (M+2)) true [] 0=_
  unfold Ch
  show (B1 (M+3) (Ck a)).bind (fun x412=>bif x412 then (Ff [Ck a,Ck b] [] 0 (Bu (M+3) op [Ck a,Ck b] (2,1) (M+2)) true) else (Ff [Ck a,Ck b] [] 0 (Bu (M+3) op [Ck a,Ck b] (2,1) (M+2)) false))=_
  rw [d1,Option.bind_some,cond_true]
  show (EU (Ck a).num).bind (fun x354=>(Gd 16 ([]:List Ai) [x354.1]).bind fun _=>Bu (M+3) op [Ck a,Ck b] (2,1) (M+2) true ([]++[x354.1]) (IntKind.i64.wrap (0+1)))=_
  rw [o1,Option.bind_some]
  show Ch (M+3) op [Ck a,Ck b] (2,1) (Bu (M+3) op [Ck a,Ck b] (2,1) (M+1)) true [a] 1=_
  unfold Ch
  show (B1 (M+3) (Ck b)).bind (fun x412=>bif x412 then (Ff [Ck a,Ck b] [a] 1 (Bu (M+3) op [Ck a,Ck b] (2,1) (M+1)) true) else (Ff [Ck a,Ck b] [a] 1 (Bu (M+3) op [Ck a,Ck b] (2,1) (M+1)) false))=_
  rw [d2,Option.bind_some,cond_true]
  show (EU (Ck b).num).bind (fun x354=>(Gd 16 [a] [x354.1]).bind fun _=>Bu (M+3) op [Ck a,Ck b] (2,1) (M+1) true ([a]++[x354.1]) (IntKind.i64.wrap (1+1)))=_
  rw [o2,Option.bind_some]
  show Ch (M+3) op [Ck a,Ck b] (2,1) (Bu (M+3) op [Ck a,Ck b] (2,1) M) true [a,b] 2=_
  unfold Ch two
  have e:(a.re==b.re&&a.im==b.im)=(decide (a.re=b.re)&&decide (a.im=b.im)):=by rw [Bool.eq_iff_iff];simp
  have hh:op=8∨op=9∨op=10∨op=11∨op=12∨op=13:=by omega
  rcases hh with rfl|rfl|rfl|rfl|rfl|rfl
  ·show ((Oe a b).bind fun x504=>(EW x504.1 x504.2).bind fun x511=>some (x511.1,x511.2))=_
   rw [Zt ha hb,Option.bind_some,Ue];rfl
  ·show ((Of a b).bind fun x504=>(EW x504.1 x504.2).bind fun x511=>some (x511.1,x511.2))=_
   rw [Zu ha hb,Option.bind_some,Ue];rfl
  ·show ((Og a b).bind fun x504=>(EW x504.1 x504.2).bind fun x511=>some (x511.1,x511.2))=_
   rw [Zv ha hb,Option.bind_some,Ue];rfl
  ·show ((Oh a b).bind fun x504=>(EW x504.1 x504.2).bind fun x511=>some (x511.1,x511.2))=_
   rw [Zr ha hb,Option.bind_some,Ue];rfl
  ·show some ((⟨2,(0,0),(a.re==b.re&&a.im==b.im),[]⟩:AI),(0:Int))=_
   rw [e];rfl
  ·show ((ND a b).bind fun x1013=>(MU x1013).bind fun x1018=>some (x1018.1,x1018.2))=_
   rw [YV ha hb];rfl
theorem Wt{op:Int}(h:op=14):Hc op=some (1,2)∧MT op=some (1,2):=by subst h;exact ⟨rfl,rfl⟩
theorem ABV{N:Nat}{c:Bool}{op:Int}(h:op=14)(hN:10≤N):D0 N op [Ii c]=some (Ii !c,0):=by
 obtain ⟨M,rfl⟩: ∃M,N=M+3:=⟨N - 3,by omega⟩
 clear hN
 have c1:DB (M+3) (Ii c)=some 0:=by rw [M7 (Zw c) (by simp [Ii])];rfl
 have d1:B1 (M+3) (Ii c)=some true:=by rw [Ll (Zw c) (by simp [Ii])];rfl
 have o1:EU (Ii c).num=some (⟨0,0⟩,true):=Tk (n:=⟨0,0⟩) ⟨⟨by decide,by decide⟩,by decide,by decide⟩
 unfold D0
 rw [(Wt h).1,Option.bind_some]
 show Cc (M+3) op [Ii c] (1,2) (DQ (M+3) op [Ii c] (1,2) (M+2)) 0=_
 unfold Cc
 show (DB (M+3) (Ii c)).bind (fun x208=>Hx 0 (DQ (M+3) op [Ii c] (1,2) (M+2)) (x208 != 0))=_
 rw [c1,Option.bind_some]
 show Cc (M+3) op [Ii c] (1,2) (DQ (M+3) op [Ii c] (1,2) (M+1)) 1=_
 unfold Cc
 have h1:decide ((1:Int)< (([Ii c].length:Nat):Int))=false:=rfl
 have h2:idx [Ii c] 0=some (Ii c):=rfl
 have h3:(op==14)=true:=by rw [h];rfl
 rw [h1,cond_false,h2,Option.bind_some,h3,cond_true]
 rfl
theorem ABs{N:Nat}{c:Bool}{op:Int}(h:op=14)(hN:10≤N):Ga N op [Ii c]=some (Ii !c,0):=by
 obtain ⟨M,rfl⟩: ∃M,N=M+3:=⟨N - 3,by omega⟩
 clear hN
 have c1:DB (M+3) (Ii c)=some 0:=by rw [M7 (Zw c) (by simp [Ii])];rfl
 have d1:B1 (M+3) (Ii c)=some true:=by rw [Ll (Zw c) (by simp [Ii])];rfl
 have o1:EU (Ii c).num=some (⟨0,0⟩,true):=Tk (n:=⟨0,0⟩) ⟨⟨by decide,by decide⟩,by decide,by decide⟩
 unfold Ga
 rw [(Wt h).2,Option.bind_some]
 show Ch (M+3) op [Ii c] (1,2) (Bu (M+3) op [Ii c] (1,2) (M+2)) true [] 0=_
 unfold Ch
 show (B1 (M+3) (Ii c)).bind (fun x412=>bif x412 then (Ff [Ii c] [] 0 (Bu (M+3) op [Ii c] (1,2) (M+2)) true) else (Ff [Ii c] [] 0 (Bu (M+3) op [Ii c] (1,2) (M+2)) false))=_
 rw [d1,Option.bind_some,cond_true]
 show (EU (Ii c).num).bind (fun x354=>(Gd 16 ([]:List Ai) [x354.1]).bind fun _=>Bu (M+3) op [Ii c] (1,2) (M+2) true ([]++[x354.1]) (IntKind.i64.wrap (0+1)))=_
 rw [o1,Option.bind_some]
 show Ch (M+3) op [Ii c] (1,2) (Bu (M+3) op [Ii c] (1,2) (M+1)) true [⟨0,0⟩] 1=_
 unfold Ch
 have h1:decide ((1:Int)< ((1,2):Int×Int).1)=false:=rfl
 rw [cond_true,h1]
 unfold L6
 have h2:idx [Ii c] 0=some (Ii c):=rfl
 have h3:(op==14)=true:=by rw [h];rfl
 have k1:(op==8)=false:=by rw [h];rfl
 have k2:(op==9)=false:=by rw [h];rfl
 have k3:(op==10)=false:=by rw [h];rfl
 have k4:(op==11)=false:=by rw [h];rfl
 have k5:(op==12)=false:=by rw [h];rfl
 have k6:(op==13)=false:=by rw [h];rfl
 rw [cond_false,Bool.not_true,cond_false,k1,cond_false,k2,cond_false,k3,cond_false,k4,cond_false,k5,cond_false,k6,cond_false,h3,cond_true,h2,Option.bind_some]
 rfl
theorem Zx{N:Nat}{c:Bool}(hN:2^54≤N):D0 N 14 [Ii c]=some (Ii !c,0)∧Ga N 14 [Ii c]=some (Ii !c,0):=⟨ABV rfl (by omega),ABs rfl (by omega)⟩
theorem nv0(x:Int):Ck ⟨x,0⟩=⟨1,(FloatKind.f64.nearest x,0),false,[]⟩:=by rw [Ck,rn,Ok]
def uno(op:Int)(a:Ai):AI×Int:=(Ck (if op=15 then ⟨a.re,0⟩ else if op=16 then ⟨a.im,0⟩ else ⟨a.re,-a.im⟩),0)
theorem ABW{N:Nat}{op:Int}{a:Ai}(hN:2^54≤N)(h:15≤op∧op≤17)(ha:G6 a):D0 N op [Ck a]=some (uno op a)∧Ga N op [Ck a]=some (uno op a):=by
 obtain ⟨M,rfl⟩: ∃M,N=M+3:=⟨N - 3,by omega⟩
 have c1:DB (M+3) (Ck a)=some 0:=by rw [M7 (XK ha) (by simp [Ck]),Tl];rfl
 have d1:B1 (M+3) (Ck a)=some true:=by rw [Ll (XK ha) (by simp [Ck]),Tl]
 have o1:EU (Ck a).num=some (a,true):=Tk ha
 have hh:op=15∨op=16∨op=17:=by omega
 constructor
 ·unfold D0
  rw [(YX h).1,Option.bind_some]
  show Cc (M+3) op [Ck a] (1,1) (DQ (M+3) op [Ck a] (1,1) (M+2)) 0=_
  unfold Cc
  show (DB (M+3) (Ck a)).bind (fun x208=>Hx 0 (DQ (M+3) op [Ck a] (1,1) (M+2)) (x208 != 0))=_
  rw [c1,Option.bind_some]
  show Cc (M+3) op [Ck a] (1,1) (DQ (M+3) op [Ck a] (1,1) (M+1)) 1=_
  unfold Cc uno
  rcases hh with rfl|rfl|rfl
  ·rw [if_pos rfl,nv0];rfl
  ·rw [if_neg (by decide),if_pos rfl,nv0];rfl
  ·rw [if_neg (by decide),if_neg (by decide)]
   show ((Hd (rn a)).bind fun x279=>(Dq x279.1 x279.2).bind fun x284=>some (x284.1,x284.2))=_
   rw [Zl ha];rfl
 ·unfold Ga
  rw [(YX h).2,Option.bind_some]
  show Ch (M+3) op [Ck a] (1,1) (Bu (M+3) op [Ck a] (1,1) (M+2)) true [] 0=_
  unfold Ch
  show (B1 (M+3) (Ck a)).bind (fun x412=>bif x412 then (Ff [Ck a] [] 0 (Bu (M+3) op [Ck a] (1,1) (M+2)) true) else (Ff [Ck a] [] 0 (Bu (M+3) op [Ck a] (1,1) (M+2)) false))=_
  rw [d1,Option.bind_some,cond_true]
  show (EU (Ck a).num).bind (fun x354=>(Gd 16 ([]:List Ai) [x354.1]).bind fun _=>Bu (M+3) op [Ck a] (1,1) (M+2) true ([]++[x354.1]) (IntKind.i64.wrap (0+1)))=_
  rw [o1,Option.bind_some]
  show Ch (M+3) op [Ck a] (1,1) (Bu (M+3) op [Ck a] (1,1) (M+1)) true [a] 1=_
  unfold Ch uno
  rcases hh with rfl|rfl|rfl
  ·rw [if_pos rfl];rfl
  ·rw [if_neg (by decide),if_pos rfl];rfl
  ·rw [if_neg (by decide),if_neg (by decide)]
   show ((EW ⟨a.re,IntKind.i64.wrap (0 - a.im)⟩ 0).bind fun x1213=>some (x1213.1,x1213.2))=_
   have:=ha.imA
   rw [wr (by omega) (by omega),Int.zero_sub];rfl
def Res(t:Int)(r:AI×Int):Prop:=(r.2=0∧VV t r.1)∨((r.2=50∨r.2=51)∧r.1=v0)
theorem ABX{a:Ai}(h:G6 a):VV 1 (Ck a):= .inl ⟨rfl,rfl,.of h,rfl,rfl⟩
theorem Uf{x:Ai×Int}(h:(x.2=0∧G6 x.1)∨x.2=50∨x.2=51):Res 1 (nv x):=by
 unfold nv
 rcases h with ⟨h1,h2⟩|h
 ·rw [if_pos h1];exact .inl ⟨rfl,ABX h2⟩
 ·rw [if_neg (by omega)];exact .inr ⟨h,rfl⟩
theorem Ug(n:Ai):((inn n).2=0∧G6 (inn n).1)∨(inn n).2=50∨(inn n).2=51:=by
 unfold inn
 rcases Decidable.em (G6 n) with h|h
 ·rw [if_pos h];exact .inl ⟨rfl,h⟩
 ·rw [if_neg h];exact .inr (.inl rfl)
theorem ABY(a b:Ai):((quo a b).2=0∧G6 (quo a b).1)∨(quo a b).2=50∨(quo a b).2=51:=by
 unfold quo
 simp only
 split
 ·exact .inr (.inr rfl)
 ·exact Ug _
theorem XL(b:Bool):VV 2 ⟨2,(0,0),b,[]⟩:= .inr (.inl ⟨rfl,rfl,rfl,rfl⟩)
def opT(op:Int):Int:=if op=12∨op=13∨op=14 then 2 else 1
theorem vv1{v:AI}(h:VV 1 v): ∃a,G6 a∧v=Ck a:=by
 rcases h with ⟨_,h1,h2,h3,h4⟩| ⟨h,_⟩| ⟨h,_⟩
 ·obtain ⟨n,hn,e⟩:=(Sm _).1 h2
  refine ⟨n,hn,?_⟩
  cases v;simp only at h1 h2 h3 h4 e;rw [Ck,h1,h3,h4,e]
 ·cases h
 ·cases h
theorem vv2{v:AI}(h:VV 2 v):v=⟨2,(0,0),v.bool,[]⟩:=by
 rcases h with ⟨h,_⟩| ⟨_,h1,h2,h3⟩| ⟨h,_⟩
 ·cases h
 ·cases v;simp only at h1 h2 h3;rw [h1,h2,h3]
 ·cases h
theorem VK{op:Int}{args:List AI}(h:(8≤op∧op≤13∧∃a b,VV 1 a∧VV 1 b∧args=[a,b])∨(op=14∧∃a,VV 2 a∧args=[a])∨(15≤op∧op≤17∧∃a,VV 1 a∧args=[a])):
  ∃r,Res (opT op) r∧∀N,2^54≤N→D0 N op args=some r∧Ga N op args=some r:=by
 rcases h with ⟨h1,h2,x,y,hx,hy,rfl⟩| ⟨rfl,x,hx,rfl⟩| ⟨h1,h2,x,hx,rfl⟩
 ·obtain ⟨a,ha,rfl⟩:=vv1 hx
  obtain ⟨b,hb,rfl⟩:=vv1 hy
  refine ⟨two op a b,?_,fun N hN=>ABU hN ⟨h1,h2⟩ ha hb⟩
  unfold two opT
  have hh:op=8∨op=9∨op=10∨op=11∨op=12∨op=13:=by omega
  rcases hh with rfl|rfl|rfl|rfl|rfl|rfl
  ·exact Uf (Ug _)
  ·exact Uf (Ug _)
  ·exact Uf (Ug _)
  ·exact Uf (ABY a b)
  ·exact .inl ⟨rfl,XL _⟩
  ·exact .inl ⟨rfl,XL _⟩
 ·rw [vv2 hx]
  exact ⟨(Ii !x.bool,0),.inl ⟨rfl,XL _⟩,fun N hN=>Zx hN⟩
 ·obtain ⟨a,ha,rfl⟩:=vv1 hx
  refine ⟨uno op a,?_,fun N hN=>ABW hN ⟨h1,h2⟩ ha⟩
  have e:opT op=1:=by unfold opT;rw [if_neg (by omega)]
  rw [e]
  refine .inl ⟨rfl,ABX ?_⟩
  obtain ⟨⟨l1,l2⟩,l3,l4⟩:=ha
  split
  ·exact ⟨⟨l1,l2⟩,by simp,by simp⟩
  ·split
   ·exact ⟨⟨l3,l4⟩,by simp,by simp⟩
   ·exact ⟨⟨l1,l2⟩,by simp only;omega,by simp only;omega⟩
end Fth
namespace Fth
open Go
theorem YY{N:Nat}{t:List UInt8}(hl:t.length≤10000000)(hN:t.length+3≤N):T (Fv N t) fun ws=>ws.length≤t.length+1∧∀w∈ws,w.length≤t.length:=by
 have key: ∀(k:Nat) (ws:List (List UInt8)) (f i:Int),0≤f→f≤i+1→0≤i→i≤t.length+1→(t.length:Int)+1 - i<k→ws.length≤i→(∀w∈ws,w.length≤t.length)→T (EF t k ws f i) fun ws=>ws.length≤t.length+1∧∀w∈ws,w.length≤t.length:=by
  intro k
  induction k with
  |zero=>intro ws f i _ _ _ _ _;omega
  |succ k ih=>
   intro ws f i h1 h2 h3 h4 h5 h6 h7
   show T (E1 t (EF t k) ws f i) _
   unfold E1
   refine T.cond (fun h=>?_) fun h=>?_
   ·have h:=CN h
    have e1:IntKind.i64.wrap (i+1)=i+1:=wr (by omega) (by omega)
    have go: ∀b,T (GE t ws f i (EF t k) b) fun ws=>ws.length≤t.length+1∧∀w∈ws,w.length≤t.length:=by
     intro b
     unfold GE HG HF
     rw [e1]
     refine T.cond (fun _=>ih _ _ _ h1 (by omega) (by omega) (by omega) (by omega) (by omega) h7) fun _=>T.cond (fun hgt=>?_) fun _=>ih _ _ _ (by omega) (by omega) (by omega) (by omega) (by omega) (by omega) h7
     have hgt:=CN hgt
     refine T.bind (Mx h1 (by omega) h) fun w hw=>T.bind (GS (by omega) (by simp;omega)) fun _ _=>ih _ _ _ (by omega) (by omega) (by omega) (by omega) (by omega) (by simp;omega) fun x hx=>?_
     rcases List.mem_append.1 hx with hx|hx
     ·exact h7 x hx
     ·simp at hx;subst hx;subst hw;simp;omega
    exact T.cond (fun hi=>T.bind (FJ h3 (CN hi)) fun c _=>go _) fun _=>go _
   ·have h:=Dn h
    exact .some ⟨by omega,h7⟩
 exact key N [] 0 0 (by omega) (by omega) (by omega) (by omega) (by omega) (by simp) (by simp)
theorem Tm{N:Nat}{z:Nat×Nat}(hN:40≤N)(h:Gn z):T (D6 N z) fun s=>s.length≤100:=by
 obtain ⟨n,hn,rfl,ho⟩:=YL h
 unfold D6
 exact T.eq ho (T.bind (Wc hN hn.1.1 hn.1.2 hn.2.1 hn.2.2) fun s hs=> .some hs)
theorem YZ{N:Nat}{v:AI}(h:GV v)(hl:v.list.length≤20000000)(hN:v.list.length+50≤N):T (GG N v) fun _=>True:=by
 unfold GG
 refine T.eq (Ll h (by omega)) (T.cond (fun _=> .some trivial) fun _=>T.cond (fun _=>T.bind (Tm (by omega) h.1) fun _ _=> .some trivial) fun _=>T.cond (fun _=>T.cond (fun _=> .some trivial) fun _=> .some trivial) fun _=>?_)
 have key: ∀(k:Nat) (s:List UInt8) (i:Int),0≤i→i≤v.list.length→(v.list.length:Int) - i<k→(s.length:Int)≤101*i→T (E4 N v k s i) fun _=>True:=by
  intro k
  induction k with
  |zero=>intro s i _ _ _;omega
  |succ k ih=>
   intro s i h0 h1 h2 h3
   show T (FZ N v (E4 N v k) s i) _
   unfold FZ
   refine T.cond (fun hi=>?_) fun _=>T.bind (Lc (by simp;omega)) fun u hu=>T.bind (Lc (by subst hu;simp;omega)) fun _ _=> .some trivial
   have hi:=CN hi
   have go: ∀s':List UInt8,(s'.length:Int)≤101*i+1→T (G3 N v i (E4 N v k) s') fun _=>True:=by
    intro s' hs'
    unfold G3
    refine T.bind (FJ h0 hi) fun z hz=>T.bind (Tm (by omega) (h.2.1 z (List.mem_of_getElem? hz))) fun u hu=>T.bind (GS (by omega) (by omega)) fun _ _=>?_
    rw [wr (by omega) (by omega)]
    exact ih _ _ (by omega) (by omega) (by omega) (by simp;omega)
   exact T.cond (fun _=>T.bind (GS (by omega) (by simp;omega)) fun _ _=>go _ (by simp;omega)) fun _=>go _ (by omega)
 exact key N [] 0 (by omega) (by omega) (by omega) (by simp)
theorem XM{N:Nat}{t:List UInt8}(hl:t.length≤10000000)(hN:t.length+100≤N):T (FT N t) fun x=>x.2=0→VV x.1.type_ x.1∧x.1.list.length≤t.length+1:=by
 have j1: ∀b,T (GH N t b) fun x=>x.2=0→VV x.1.type_ x.1∧x.1.list.length≤t.length+1:=by
  intro b
  unfold GH
  refine T.cond (fun _=> .some fun _=>⟨XL _,by simp⟩) fun _=>T.bind (QM (by omega) (by omega)) fun x hx=>T.cond (fun h=>?_) fun _=>?_
  ·have hx:=hx (B7 h)
   refine .some (a:=_) fun _=>⟨ABX (a:=x.1) ⟨⟨hx.1,hx.2.1⟩,hx.2.2.1,hx.2.2.2⟩,by simp⟩
  ·have j2: ∀b,(b=false→2≤t.length)→T (Fa N t x b) fun x=>x.2=0→VV x.1.type_ x.1∧x.1.list.length≤t.length+1:=by
    intro b hb
    unfold Fa
    refine T.cond (fun _=> .some fun h=>by cases h) fun h=>?_
    have h2:=hb h
    rw [wr (by omega) (by omega)]
    refine T.bind (Mx (by omega) (by omega) (by omega)) fun u hu=>?_
    have hul:u.length≤t.length:=by subst hu;simp;omega
    refine T.bind (YY (by omega) (by omega)) fun ws hws=>?_
    have key: ∀(k:Nat) (i a b:Int) (l:List (Nat×Nat)),0≤i→i≤ws.length→(ws.length:Int) - i<k→(l.length:Int)=i→(∀z∈l,Gn z)→T (Eh N t ws k i a b l) fun x=>x.2=0→VV x.1.type_ x.1∧x.1.list.length≤t.length+1:=by
     intro k
     induction k with
     |zero=>intro i a b l _ _ _;omega
     |succ k ih=>
      intro i a b l h0 h1 h3 h4 h5
      show T (E5 N t ws (Eh N t ws k) i a b l) _
      unfold E5
      refine T.cond (fun hi=>?_) fun _=>?_
      ·have hi:=CN hi
       refine T.bind (FJ h0 hi) fun w hw=>?_
       have hwl:=hws.2 w (List.mem_of_getElem? hw)
       refine T.bind (QM (by omega) (by omega)) fun y hy=>T.cond (fun _=> .some fun h=>by cases h) fun h=>?_
       have hy:=hy (JK h)
       refine T.bind (AB1 hy) fun z hz=>T.bind (GS (by omega) (by simp;omega)) fun _ _=>?_
       rw [wr (by omega) (by omega)]
       refine ih _ _ _ _ (by omega) (by omega) (by omega) (by simp;omega) fun q hq=>?_
       rcases List.mem_append.1 hq with hq|hq
       ·exact h5 q hq
       ·simp at hq;subst hq;exact hz
      ·have gv:GV ⟨3,(0,0),false,l⟩:=⟨gn0,h5,by simp only;omega⟩
       refine T.bind (YZ gv (by simp only;omega) (by simp only;omega)) fun _ _=>T.cond (fun _=> .some fun h=>by cases h) fun _=> .some fun _=>⟨.inr (.inr ⟨rfl,rfl,rfl,rfl,h5⟩),by simp only;omega⟩
    exact key N 0 _ _ [] (by omega) (by omega) (by omega) (by simp) (by simp)
   refine T.cond (fun _=>j2 _ fun h=>by cases h) fun h=>?_
   have h:=Dn h
   refine T.bind (FJ (by omega) (by omega)) fun c _=>T.cond (fun _=>j2 _ fun h=>by cases h) fun _=>?_
   rw [wr (by omega) (by omega)]
   exact T.bind (FJ (by omega) (by omega)) fun c _=>j2 _ fun _=>by omega
 unfold FT
 exact T.cond (fun _=>j1 _) fun _=>j1 _
def LV(l:List AI):Prop:=(∀v∈l,VV v.type_ v∧v.list.length≤1048577)∧l.length≤1048576
theorem Ya{N:Nat}{t:List UInt8}(hl:t.length≤1048576)(hN:t.length+200≤N):T (Fw N t) fun x=>x.2=0→LV x.1:=by
 have outer: ∀(k:Nat) (l:List AI) (i:Int),0≤i→i≤t.length→(t.length:Int) - i<k→(l.length:Int)≤i→(∀v∈l,VV v.type_ v∧v.list.length≤1048577)→T (CL N t k l i) fun x=>x.2=0→LV x.1:=by
  intro k
  induction k with
  |zero=>intro l i _ _ _;omega
  |succ k ih=>
   intro l i h0 h1 h2 h3 h4
   show T (E7 N t (CL N t k) l i) _
   unfold E7
   refine T.cond (fun hi=>?_) fun hi=> .some fun _=>⟨h4,by have:=Dn hi;simp only;omega⟩
   have hi:=CN hi
   refine T.bind (FJ h0 hi) fun c hc=>T.cond (fun _=>?_) fun hb=>?_
   ·rw [wr (by omega) (by omega)]
    exact ih _ _ (by omega) (by omega) (by omega) (by omega) h4
   ·have hb:=Bh hb
    refine T.bind (FJ h0 hi) fun c' _=>?_
    have inner: ∀(j:Nat) (p:Int) (b:Bool),i≤p→p≤t.length→(t.length:Int) - p<j→(p=i∨i<p)→T (Dz N t l i (CL N t k) j p b) fun x=>x.2=0→LV x.1:=by
     intro j
     induction j with
     |zero=>intro p b _ _ _;omega
     |succ j ihj=>
      intro p b hp1 hp2 hp3 hp4
      show T (E6 N t l i (CL N t k) (Dz N t l i (CL N t k) j) p b) _
      unfold E6
      have on:p<t.length→T (EG N t l i (CL N t k) p b (Dz N t l i (CL N t k) j) true) fun x=>x.2=0→LV x.1:=by
       intro hp
       unfold EG HI
       rw [wr (x:=p+1) (by omega) (by omega)]
       refine T.cond (fun _=>T.bind (FJ (by omega) hp) fun d _=>T.cond (fun _=>ihj _ _ (by omega) (by omega) (by omega) (by omega)) fun _=>ihj _ _ (by omega) (by omega) (by omega) (by omega)) fun h=>by cases h
      have off:i<p→T (EG N t l i (CL N t k) p b (Dz N t l i (CL N t k) j) false) fun x=>x.2=0→LV x.1:=by
       intro hp
       unfold EG
       refine T.cond (fun h=>by cases h) fun _=>T.bind (Mx h0 (by omega) hp2) fun u hu=>?_
       have hul:u.length≤t.length:=by subst hu;simp;omega
       refine T.bind (XM (by omega) (by omega)) fun x hx=>T.cond (fun _=> .some fun h=>by cases h) fun h=>?_
       have hx:=hx (JK h)
       refine T.bind (GS (by omega) (by simp;omega)) fun _ _=>ih _ _ (by omega) (by omega) (by omega) (by simp;omega) fun v hv=>?_
       rcases List.mem_append.1 hv with hv|hv
       ·exact h4 v hv
       ·simp at hv;subst hv;exact ⟨hx.1,by have:=hx.2;omega⟩
      refine T.cond (fun hp=>?_) fun hp=>?_
      ·have hp:=CN hp
       refine T.cond (fun _=>on hp) fun _=>T.bind (FJ (by omega) hp) fun d hd=>?_
       cases hne:(((d.toNat:Nat):Int) != (((32:UInt8).toNat:Nat):Int))
       ·have hne:=JK hne
        refine off ?_
        rcases hp4 with rfl|hp4
        ·rw [hd] at hc;cases hc;exact absurd hne hb
        ·exact hp4
       ·exact on hp
      ·have hp:=Dn hp
       exact off (by omega)
    exact inner N i _ (by omega) (by omega) (by omega) (.inl rfl)
 exact outer N [] 0 (by omega) (by omega) (by omega) (by simp) (by simp)
theorem Zy{N:Nat}{a:FK}(hl:a.args.length≤1048576)(hN:20000000≤N):T (B3 N a) fun x=>x.2.2=true→WP x.1∧LV x.2.1:=by
 unfold B3 GI Id
 refine T.bind (P:=fun l=>l=⟨32768,32768,32768,32768⟩) (.some rfl) fun l hlm=>?_
 subst hlm
 refine T.bind (XH (by omega) a.text) fun x hx=>T.bind (Ya hl (by omega)) fun y hy=>T.cond (fun h=> .some fun h'=>?_) fun _=> .some fun h'=>by cases h'
 exact ⟨hx (B7 h),hy (B7 h')⟩
end Fth
namespace Fth
open Go
theorem Ev.up{p:Nat→Prop}(k:Nat)(h:Ev p):Ev fun N=>p (N+k):=let ⟨n,hn⟩:=h;⟨n,fun N hN=>hn _ (by omega)⟩
theorem Ev.down{p:Nat→Prop}(k:Nat)(h:Ev fun N=>p (N+k)):Ev p:=by
 obtain ⟨n,hn⟩:=h
 refine ⟨n+k,fun N hN=>?_⟩
 have:=hn (N - k) (by omega)
 dsimp only at this
 rwa [Nat.sub_add_cancel (by omega)] at this
def hd(p:AM)(nm:List UInt8):Option AK:=p.funcs.find? fun f=>f.name==nm
def fnd(nm:List UInt8):Nm→Option Th
 | .nil=>none
 | .bind n t o=>bif n==nm then some t else fnd nm o
 | .letrec n e o=>bif n==nm then some (.later e (.letrec n e o)) else fnd nm o
theorem RP{nm:List UInt8}{ρ:Nm}{th:Th}(h:fnd nm ρ=some th):Ev fun N=>DU N ρ nm=some th∧Lg N ρ nm=some th:=by
 revert h
 refine Nm.rec (motive_1:=fun ρ=>fnd nm ρ=some th→Ev fun N=>DU N ρ nm=some th∧Lg N ρ nm=some th) (motive_2:=fun _=>True) ?_ ?_ ?_ ?_ ?_ ?_ ρ
 ·intro h;cases h
 ·intro n t o _ ih h
  rw [fnd] at h
  cases hn:(n==nm)
  ·rw [hn] at h
   refine Ev.down 1 ((ih h).mono fun N hN=>?_)
   constructor
   ·show (bif !(n==nm) then D8 nm N o else some t)=_
    rw [hn];exact hN.1
   ·show (bif !(n==nm) then JE nm N o else some t)=_
    rw [hn];exact hN.2
  ·rw [hn] at h
   refine Ev.down 1 (Ev.all fun N=>?_)
   constructor
   ·show (bif !(n==nm) then D8 nm N o else some t)=_
    rw [hn];exact h
   ·show (bif !(n==nm) then JE nm N o else some t)=_
    rw [hn];exact h
 ·intro n e o ih h
  rw [fnd] at h
  cases hn:(n==nm)
  ·rw [hn] at h
   refine Ev.down 1 ((ih h).mono fun N hN=>?_)
   constructor
   ·show (bif !(n==nm) then D8 nm N o else some (.later e (.letrec n e o)))=_
    rw [hn];exact hN.1
   ·show (bif !(n==nm) then JE nm N o else some (.later e (.letrec n e o)))=_
    rw [hn];exact hN.2
  ·rw [hn] at h
   refine Ev.down 1 (Ev.all fun N=>?_)
   constructor
   ·show (bif !(n==nm) then D8 nm N o else some (.later e (.letrec n e o)))=_
    rw [hn];exact h
   ·show (bif !(n==nm) then JE nm N o else some (.later e (.letrec n e o)))=_
    rw [hn];exact h
 ·trivial
 ·intros;trivial
 ·intros;trivial
def Sn(ρ:Nm):List AH→List AE→Nm→Nm
 |x::ps,a::bs,acc=>Sn ρ ps bs (.bind x.name (.later a ρ) acc)
 |_,_,acc=>acc
def Ap(op:Int)(args:List AI)(r:AI×Int):Prop:=∀N,2^54≤N→D0 N op args=some r∧Ga N op args=some r
def fin(r:AI×Int):Except Int Aq:=bif r.2 != 0 then .error r.2 else .ok ⟨r.1,.nil,.nil⟩
def plain(v:AI):Except Int Aq:= .ok ⟨v,.nil,.nil⟩
inductive Lk(p:AM)(m:Nat):Nat→AE→Nm→Except Int Aq→Nat→Prop
 |fuel {c e ρ} (h:m≤c):Lk p m c e ρ (.error 60) c
 |num {c e ρ} (h:c<m) (ho:e.op=1):Lk p m c e ρ (plain ⟨1,e.num,false,[]⟩) (c+1)
 |tru {c e ρ} (h:c<m) (ho:e.op=2):Lk p m c e ρ (plain ⟨2,(0,0),true,[]⟩) (c+1)
 |fls {c e ρ} (h:c<m) (ho:e.op=3):Lk p m c e ρ (plain ⟨2,(0,0),false,[]⟩) (c+1)
 |nil {c e ρ} (h:c<m) (ho:e.op=4):Lk p m c e ρ (plain ⟨3,(0,0),false,[]⟩) (c+1)
 |fail {c e ρ} (h:c<m) (ho:e.op=5):Lk p m c e ρ (.error 52) (c+1)
 |vdone {c e ρ x} (h:c<m) (ho:e.op=6) (hf:fnd e.name ρ=some (.done x.plain x.head x.tail)):Lk p m c e ρ (.ok x) (c+1)
 |vlater {c e ρ e' ρ' r c'} (h:c<m) (ho:e.op=6) (hf:fnd e.name ρ=some (.later e' ρ')) (h1:Lk p m (c+1) e' ρ' r c'):Lk p m c e ρ r c'
 |call {c e ρ f r c'} (h:c<m) (ho:e.op=7) (hf:hd p e.name=some f) (hl:f.params.length=e.args.length) (h1:Lk p m (c+1) f.body (Sn ρ f.params e.args .nil) r c'):Lk p m c e ρ r c'
 |cons {c e ρ a b} (h:c<m) (ho:e.op=18) (ha:e.args=[a,b]):Lk p m c e ρ (.ok ⟨v0,.later a ρ,.later b ρ⟩) (c+1)
 |ifE {c e ρ a b d y c'} (h:c<m) (ho:e.op=19) (ha:e.args=[a,b,d]) (h1:Lk p m (c+1) a ρ (.error y) c'):Lk p m c e ρ (.error y) c'
 |ifT {c e ρ a b d x c1 r c'} (h:c<m) (ho:e.op=19) (ha:e.args=[a,b,d]) (h1:Lk p m (c+1) a ρ (.ok x) c1) (hb:x.plain.bool=true) (h2:Lk p m c1 b ρ r c'):Lk p m c e ρ r c'
 |ifF {c e ρ a b d x c1 r c'} (h:c<m) (ho:e.op=19) (ha:e.args=[a,b,d]) (h1:Lk p m (c+1) a ρ (.ok x) c1) (hb:x.plain.bool=false) (h2:Lk p m c1 d ρ r c'):Lk p m c e ρ r c'
 |caE {c e ρ a b d y c'} (h:c<m) (ho:e.op=20) (ha:e.args=[a,b,d]) (h1:Lk p m (c+1) a ρ (.error y) c'):Lk p m c e ρ (.error y) c'
 |caN {c e ρ a b d x c1 r c'} (h:c<m) (ho:e.op=20) (ha:e.args=[a,b,d]) (h1:Lk p m (c+1) a ρ (.ok x) c1) (hb:x.head.isNil=true) (h2:Lk p m c1 b ρ r c'):Lk p m c e ρ r c'
 |caC {c e ρ a b d x c1 r c'} (h:c<m) (ho:e.op=20) (ha:e.args=[a,b,d]) (h1:Lk p m (c+1) a ρ (.ok x) c1) (hb:x.head.isNil=false) (h2:Lk p m c1 d (.bind e.tail x.tail (.bind e.name x.head ρ)) r c'):Lk p m c e ρ r c'
 |lt {c e ρ a b r c'} (h:c<m) (ho:e.op=21) (ha:e.args=[a,b]) (h1:Lk p m (c+1) b (.letrec e.name a ρ) r c'):Lk p m c e ρ r c'
 |stE {c e ρ a b y c'} (h:c<m) (ho:e.op=22) (ha:e.args=[a,b]) (h1:Lk p m (c+1) a ρ (.error y) c'):Lk p m c e ρ (.error y) c'
 |stV {c e ρ a b x c1 r c'} (h:c<m) (ho:e.op=22) (ha:e.args=[a,b]) (h1:Lk p m (c+1) a ρ (.ok x) c1) (h2:Lk p m c1 b (.bind e.name (.done x.plain x.head x.tail) ρ) r c'):Lk p m c e ρ r c'
 |unE {c e ρ a y c'} (h:c<m) (ho:14≤e.op∧e.op≤17) (ha:e.args=[a]) (h1:Lk p m (c+1) a ρ (.error y) c'):Lk p m c e ρ (.error y) c'
 |un {c e ρ a x c' r} (h:c<m) (ho:14≤e.op∧e.op≤17) (ha:e.args=[a]) (h1:Lk p m (c+1) a ρ (.ok x) c') (hr:Ap e.op [x.plain] r):Lk p m c e ρ (fin r) c'
 |biE {c e ρ a b y c'} (h:c<m) (ho:8≤e.op∧e.op≤13) (ha:e.args=[a,b]) (h1:Lk p m (c+1) a ρ (.error y) c'):Lk p m c e ρ (.error y) c'
 |biE2 {c e ρ a b x c1 y c'} (h:c<m) (ho:8≤e.op∧e.op≤13) (ha:e.args=[a,b]) (h1:Lk p m (c+1) a ρ (.ok x) c1) (h2:Lk p m c1 b ρ (.error y) c'):Lk p m c e ρ (.error y) c'
 |bi {c e ρ a b x c1 z c' r} (h:c<m) (ho:8≤e.op∧e.op≤13) (ha:e.args=[a,b]) (h1:Lk p m (c+1) a ρ (.ok x) c1) (h2:Lk p m c1 b ρ (.ok z) c') (hr:Ap e.op [x.plain,z.plain] r):Lk p m c e ρ (fin r) c'
theorem OZ{α:Type}(r:Except Int α){β:Type}(b:β):Iu r (fun y=>some ((Except.error y:Except Int α),b)) (fun x=>some ((Except.ok x:Except Int α),b))=some (r,b):=by cases r<;>rfl
def Mpp(p:AM)(mp:Ak):Prop:=∀nm f,hd p nm=some f→idx p.funcs (CR mp nm)=some f
section
variable{φ:AU}{N:Nat}{fs:List AK}{c m:Int}{mp:Ak}{e:AE}{ρ:Nm}
theorem KC(h:c<m):BA φ N fs c m mp e ρ=CO φ N fs c m mp e ρ:=by
 unfold BA
 rw [show decide (c≥m)=false from decide_eq_false (by omega)];rfl
theorem Ij(h:(8≤e.op∧e.op≤17)∨(19≤e.op∧e.op≤22)):CO φ N fs c m mp e ρ=φ.mean_run_parts fs (IntKind.i64.wrap (c+1)) m mp e ρ:=by
 unfold CO KF
 rw [show (e.op==1)=false by simp;omega,show (e.op==2)=false by simp;omega,show (e.op==3)=false by simp;omega,show (e.op==4)=false by simp;omega,show (e.op==5)=false by simp;omega,show (e.op==6)=false by simp;omega,show (e.op==7)=false by simp;omega,show (e.op==18)=false by simp;omega]
 simp only [cond_false]
 cases φ.mean_run_parts fs (IntKind.i64.wrap (c+1)) m mp e ρ with
 |none=>rfl
 |some x=>exact OZ x.1 x.2
end
section
variable{p:AM}{mp:Ak}{m:Nat}
theorem Uh(hp:WP p)(hmp:Mpp p mp)(hm:m≤16384){c:Nat}{e:AE}{ρ:Nm}{r:Except Int Aq}{c':Nat}(h:Lk p m c e ρ r c'):
  Ev fun N=>mean_run_look N p.funcs c m mp e ρ=some (r,p.funcs,(c':Int),(m:Int)):=by
 have w1: ∀c:Nat,c<m→IntKind.i64.wrap ((c:Int)+1)=((c+1:Nat):Int):=fun c h=>by rw [wr (by omega) (by omega)];omega
 have lt: ∀c:Nat,c<m→(c:Int)< (m:Int):=fun c h=>by omega
 induction h with
 | @fuel c e ρ h=>
  refine Ev.down 1 (Ev.all fun N=>?_)
  show BA _ N p.funcs c m mp e ρ=_
  unfold BA
  rw [show decide ((c:Int)≥(m:Int))=true from decide_eq_true (by omega)];rfl
 | @num c e ρ h ho=>
  refine Ev.down 1 (Ev.all fun N=>?_)
  show BA _ N p.funcs c m mp e ρ=_
  rw [KC (lt c h)];unfold CO;rw [ho,w1 c h];rfl
 | @tru c e ρ h ho=>
  refine Ev.down 1 (Ev.all fun N=>?_)
  show BA _ N p.funcs c m mp e ρ=_
  rw [KC (lt c h)];unfold CO;rw [ho,w1 c h];rfl
 | @fls c e ρ h ho=>
  refine Ev.down 1 (Ev.all fun N=>?_)
  show BA _ N p.funcs c m mp e ρ=_
  rw [KC (lt c h)];unfold CO;rw [ho,w1 c h];rfl
 | @nil c e ρ h ho=>
  refine Ev.down 1 (Ev.all fun N=>?_)
  show BA _ N p.funcs c m mp e ρ=_
  rw [KC (lt c h)];unfold CO;rw [ho,w1 c h];rfl
 | @fail c e ρ h ho=>
  refine Ev.down 1 (Ev.all fun N=>?_)
  show BA _ N p.funcs c m mp e ρ=_
  rw [KC (lt c h)];unfold CO;rw [ho,w1 c h];rfl
 | @vdone c e ρ x h ho hf=>
  refine Ev.down 2 (((RP hf).up 1).mono fun N hN=>?_)
  show BA _ (N+1) p.funcs c m mp e ρ=_
  rw [KC (lt c h)];unfold CO;rw [ho,w1 c h]
  show ((DU (N+1) ρ e.name).bind fun x1087=>_)=_
  rw [hN.1];rfl
 | @vlater c e ρ e' ρ' r c' h ho hf _ ih=>
  refine Ev.down 3 ((((RP hf).up 2).and ih).mono fun N hN=>?_)
  show BA _ (N+2) p.funcs c m mp e ρ=_
  rw [KC (lt c h)];unfold CO;rw [ho,w1 c h]
  show ((DU (N+2) ρ e.name).bind fun x1087=>_)=_
  rw [hN.1.1]
  show (((mean_run_look N p.funcs ((c+1:Nat):Int) m mp e' ρ').bind fun x29=>Iu x29.1 (fun y43=>some ((Except.error y43:Except Int Aq),x29.2.1,x29.2.2.1,x29.2.2.2)) fun r45=>some ((Except.ok r45:Except Int Aq),x29.2.1,x29.2.2.1,x29.2.2.2)).bind fun x1098=>Iu x1098.1 (fun y1116=>some ((Except.error y1116:Except Int Aq),x1098.2.1,x1098.2.2.1,x1098.2.2.2)) fun r1118=>some ((Except.ok r1118:Except Int Aq),x1098.2.1,x1098.2.2.1,x1098.2.2.2))=_
  rw [hN.2,Option.bind_some]
  dsimp only
  rw [OZ,Option.bind_some]
  exact OZ _ _
 | @call c e ρ f r c' h ho hf hl _ ih=>
  have hfm:f∈p.funcs:=List.mem_of_find?_eq_some hf
  have hps:=(hp.fns f hfm).pars
  have loop: ∀(N k:Nat) (i:Nat) (acc:Nm),i≤f.params.length→f.params.length<i+k→mean_run_look N p.funcs ((c+1:Nat):Int) m mp f.body (Sn ρ (f.params.drop i) (e.args.drop i) acc)=some (r,p.funcs,(c':Int),(m:Int))→
    F3 (AU.at N) p.funcs c m mp e ρ f k acc (i:Int)=some (r,p.funcs,(c':Int),(m:Int)):=by
   intro N k
   induction k with
   |zero=>intro i acc _ _;omega
   |succ k ihk=>
    intro i acc hi hk hN
    show If _ p.funcs c m mp e ρ f (F3 _ p.funcs c m mp e ρ f k) acc i=_
    unfold If
    cases hd':decide ((i:Int)< (f.params.length:Int))
    ·have hd':=Dn hd'
     have hi':i=f.params.length:=by omega
     rw [cond_false,w1 c h,PH]
     have e1:f.params.drop i=[]:=by rw [hi'];exact List.drop_length
     rw [e1] at hN
     have e2:Sn ρ [] (e.args.drop i) acc=acc:=by cases e.args.drop i<;>rfl
     rw [e2] at hN
     show ((mean_run_look N p.funcs ((c+1:Nat):Int) m mp f.body acc).bind fun x1655=>_)=_
     rw [hN]
     exact OZ _ _
    ·have hd':=CN hd'
     have i1:i<f.params.length:=by omega
     have i2:i<e.args.length:=by omega
     obtain ⟨x,hx,hx'⟩:=FJ (xs:=f.params) (i:=(i:Int)) (by omega) hd'
     obtain ⟨a,ha,ha'⟩:=FJ (xs:=e.args) (i:=(i:Int)) (by omega) (by omega)
     rw [cond_true,hx,Option.bind_some,ha,Option.bind_some,wr (by omega) (by omega),show (i:Int)+1=((i+1:Nat):Int) by omega]
     refine ihk (i+1) (.bind x.name (.later a ρ) acc) (by omega) (by omega) ?_
     have e1:f.params.drop i=x::f.params.drop (i+1):=by
      rw [List.drop_eq_getElem_cons i1];congr 1
      have:=List.getElem?_eq_getElem i1
      rw [Int.toNat_natCast,this] at hx';exact Option.some.inj hx'
     have e2:e.args.drop i=a::e.args.drop (i+1):=by
      rw [List.drop_eq_getElem_cons i2];congr 1
      have:=List.getElem?_eq_getElem i2
      rw [Int.toNat_natCast,this] at ha';exact Option.some.inj ha'
     rw [e1,e2] at hN
     exact hN
  refine Ev.down 1 ((ih.and (Ls (f.params.length+1))).mono fun N hN=>?_)
  show BA _ N p.funcs c m mp e ρ=_
  rw [KC (lt c h)];unfold CO;rw [ho]
  show ((idx p.funcs (CR mp e.name)).bind fun x1151=>F3 _ p.funcs c m mp e ρ x1151 N Nm.nil 0)=_
  rw [hmp _ _ hf,Option.bind_some]
  exact loop N N 0 .nil (by omega) (by omega) hN.1
 | @cons c e ρ a b h ho ha=>
  refine Ev.down 1 (Ev.all fun N=>?_)
  show BA _ N p.funcs c m mp e ρ=_
  rw [KC (lt c h)];unfold CO;rw [ho,w1 c h,ha];rfl
 | @ifE c e ρ a b d y c' h ho ha _ ih=>
  refine Ev.down 2 (ih.mono fun N hN=>?_)
  show BA _ (N+1) p.funcs c m mp e ρ=_
  rw [KC (lt c h),Ij (by omega),w1 c h]
  show A3 (AU.at N) N p.funcs ((c+1:Nat):Int) m mp e ρ=_
  unfold A3;rw [ho,ha]
  show ((mean_run_look N p.funcs ((c+1:Nat):Int) m mp a ρ).bind fun x51=>_)=_
  rw [hN];rfl
 | @ifT c e ρ a b d x c1 r c' h ho ha _ hb _ ih1 ih2=>
  refine Ev.down 2 ((ih1.and ih2).mono fun N hN=>?_)
  show BA _ (N+1) p.funcs c m mp e ρ=_
  rw [KC (lt c h),Ij (by omega),w1 c h]
  show A3 (AU.at N) N p.funcs ((c+1:Nat):Int) m mp e ρ=_
  unfold A3;rw [ho,ha]
  show ((mean_run_look N p.funcs ((c+1:Nat):Int) m mp a ρ).bind fun x51=>Iu x51.1 _ fun r67=>bif r67.plain.bool then _ else _)=_
  rw [hN.1,Option.bind_some]
  show (bif x.plain.bool then ((mean_run_look N p.funcs (c1:Int) m mp b ρ).bind fun x107=>_) else _)=_
  rw [hb,cond_true,hN.2]
  exact OZ _ _
 | @ifF c e ρ a b d x c1 r c' h ho ha _ hb _ ih1 ih2=>
  refine Ev.down 2 ((ih1.and ih2).mono fun N hN=>?_)
  show BA _ (N+1) p.funcs c m mp e ρ=_
  rw [KC (lt c h),Ij (by omega),w1 c h]
  show A3 (AU.at N) N p.funcs ((c+1:Nat):Int) m mp e ρ=_
  unfold A3;rw [ho,ha]
  show ((mean_run_look N p.funcs ((c+1:Nat):Int) m mp a ρ).bind fun x51=>Iu x51.1 _ fun r67=>bif r67.plain.bool then _ else _)=_
  rw [hN.1,Option.bind_some]
  show (bif x.plain.bool then _ else ((mean_run_look N p.funcs (c1:Int) m mp d ρ).bind fun x107=>_))=_
  rw [hb,cond_false,hN.2]
  exact OZ _ _
 | @caE c e ρ a b d y c' h ho ha _ ih=>
  refine Ev.down 2 (ih.mono fun N hN=>?_)
  show BA _ (N+1) p.funcs c m mp e ρ=_
  rw [KC (lt c h),Ij (by omega),w1 c h]
  show A3 (AU.at N) N p.funcs ((c+1:Nat):Int) m mp e ρ=_
  unfold A3;rw [ho,ha]
  show ((mean_run_look N p.funcs ((c+1:Nat):Int) m mp a ρ).bind fun x51=>_)=_
  rw [hN];rfl
 | @caN c e ρ a b d x c1 r c' h ho ha _ hb _ ih1 ih2=>
  refine Ev.down 2 ((ih1.and ih2).mono fun N hN=>?_)
  show BA _ (N+1) p.funcs c m mp e ρ=_
  rw [KC (lt c h),Ij (by omega),w1 c h]
  show A3 (AU.at N) N p.funcs ((c+1:Nat):Int) m mp e ρ=_
  unfold A3;rw [ho,ha]
  show ((mean_run_look N p.funcs ((c+1:Nat):Int) m mp a ρ).bind fun x51=>Iu x51.1 _ fun r67=>bif Th.isNil r67.head then _ else _)=_
  rw [hN.1,Option.bind_some]
  show (bif Th.isNil x.head then ((mean_run_look N p.funcs (c1:Int) m mp b ρ).bind fun x107=>_) else _)=_
  rw [hb,cond_true,hN.2]
  exact OZ _ _
 | @caC c e ρ a b d x c1 r c' h ho ha _ hb _ ih1 ih2=>
  refine Ev.down 2 ((ih1.and ih2).mono fun N hN=>?_)
  show BA _ (N+1) p.funcs c m mp e ρ=_
  rw [KC (lt c h),Ij (by omega),w1 c h]
  show A3 (AU.at N) N p.funcs ((c+1:Nat):Int) m mp e ρ=_
  unfold A3;rw [ho,ha]
  show ((mean_run_look N p.funcs ((c+1:Nat):Int) m mp a ρ).bind fun x51=>Iu x51.1 _ fun r67=>bif Th.isNil r67.head then _ else _)=_
  rw [hN.1,Option.bind_some]
  show (bif Th.isNil x.head then _ else ((mean_run_look N p.funcs (c1:Int) m mp d (.bind e.tail x.tail (.bind e.name x.head ρ))).bind fun x107=>_))=_
  rw [hb,cond_false,hN.2]
  exact OZ _ _
 | @lt c e ρ a b r c' h ho ha _ ih=>
  refine Ev.down 2 (ih.mono fun N hN=>?_)
  show BA _ (N+1) p.funcs c m mp e ρ=_
  rw [KC (lt c h),Ij (by omega),w1 c h]
  show A3 (AU.at N) N p.funcs ((c+1:Nat):Int) m mp e ρ=_
  unfold A3;rw [ho,ha]
  have ea:Im a=some a:=rfl
  rw [show ((21:Int)==19)=false from rfl,cond_false,show ((21:Int)==20)=false from rfl,cond_false,show ((21:Int)==21)=true from rfl,cond_true,show idx [a,b] 0=some a from rfl,Option.bind_some,ea,Option.bind_some,show idx [a,b] 1=some b from rfl,Option.bind_some]
  show ((mean_run_look N p.funcs ((c+1:Nat):Int) m mp b (.letrec e.name a ρ)).bind fun x662=>_)=_
  rw [hN]
  exact OZ _ _
 | @stE c e ρ a b y c' h ho ha _ ih=>
  refine Ev.down 2 (ih.mono fun N hN=>?_)
  show BA _ (N+1) p.funcs c m mp e ρ=_
  rw [KC (lt c h),Ij (by omega),w1 c h]
  show A3 (AU.at N) N p.funcs ((c+1:Nat):Int) m mp e ρ=_
  unfold A3;rw [ho,ha]
  show ((mean_run_look N p.funcs ((c+1:Nat):Int) m mp a ρ).bind fun x51=>_)=_
  rw [hN];rfl
 | @stV c e ρ a b x c1 r c' h ho ha _ _ ih1 ih2=>
  refine Ev.down 2 ((ih1.and ih2).mono fun N hN=>?_)
  show BA _ (N+1) p.funcs c m mp e ρ=_
  rw [KC (lt c h),Ij (by omega),w1 c h]
  show A3 (AU.at N) N p.funcs ((c+1:Nat):Int) m mp e ρ=_
  unfold A3;rw [ho,ha]
  show ((mean_run_look N p.funcs ((c+1:Nat):Int) m mp a ρ).bind fun x51=>_)=_
  rw [hN.1,Option.bind_some]
  show ((mean_run_look N p.funcs (c1:Int) m mp b (.bind e.name (.done x.plain x.head x.tail) ρ)).bind fun x107=>_)=_
  rw [hN.2]
  exact OZ _ _
 | @unE c e ρ a y c' h ho ha _ ih=>
  refine Ev.down 5 ((ih.up 3).mono fun N hN=>?_)
  show BA _ (N+4) p.funcs c m mp e ρ=_
  rw [KC (lt c h),Ij (by omega),w1 c h]
  show A3 (AU.at (N+3)) (N+3) p.funcs ((c+1:Nat):Int) m mp e ρ=_
  unfold A3
  rw [show (e.op==19)=false by simp;omega,show (e.op==20)=false by simp;omega,show (e.op==21)=false by simp;omega,show (e.op==22)=false by simp;omega]
  show BJ _ (N+3) mp e ρ _ [] 0 p.funcs ((c+1:Nat):Int) m=_
  unfold BJ
  rw [ha]
  show ((mean_run_look (N+3) p.funcs ((c+1:Nat):Int) m mp a ρ).bind fun x51=>_)=_
  rw [hN];rfl
 | @un c e ρ a x c' r h ho ha _ hr ih=>
  refine Ev.down 5 (((ih.up 3).and (Ls (2^54))).mono fun N hN=>?_)
  show BA _ (N+4) p.funcs c m mp e ρ=_
  rw [KC (lt c h),Ij (by omega),w1 c h]
  show A3 (AU.at (N+3)) (N+3) p.funcs ((c+1:Nat):Int) m mp e ρ=_
  unfold A3
  rw [show (e.op==19)=false by simp;omega,show (e.op==20)=false by simp;omega,show (e.op==21)=false by simp;omega,show (e.op==22)=false by simp;omega]
  have hA:=(hr (N+3) (by have:=hN.2;omega)).1
  generalize hop:e.op=op at*
  show BJ _ (N+3) mp e ρ (DD (AU.at (N+3)) (N+3) mp e ρ (N+2)) [] 0 p.funcs ((c+1:Nat):Int) m=_
  unfold BJ
  rw [ha]
  show ((mean_run_look (N+3) p.funcs ((c+1:Nat):Int) m mp a ρ).bind fun x51=>_)=_
  rw [hN.1,Option.bind_some]
  show BJ _ (N+3) mp e ρ (DD (AU.at (N+3)) (N+3) mp e ρ (N+1)) [x.plain] 1 p.funcs (c':Int) m=_
  unfold BJ
  rw [ha,hop]
  show ((D0 (N+3) op [x.plain]).bind fun x1312=>bif (x1312.2 != 0) then _ else _)=_
  rw [hA,Option.bind_some,fin]
  cases (r.2 != 0)<;>rfl
 | @biE c e ρ a b y c' h ho ha _ ih=>
  refine Ev.down 5 ((ih.up 3).mono fun N hN=>?_)
  show BA _ (N+4) p.funcs c m mp e ρ=_
  rw [KC (lt c h),Ij (by omega),w1 c h]
  show A3 (AU.at (N+3)) (N+3) p.funcs ((c+1:Nat):Int) m mp e ρ=_
  unfold A3
  rw [show (e.op==19)=false by simp;omega,show (e.op==20)=false by simp;omega,show (e.op==21)=false by simp;omega,show (e.op==22)=false by simp;omega]
  show BJ _ (N+3) mp e ρ _ [] 0 p.funcs ((c+1:Nat):Int) m=_
  unfold BJ
  rw [ha]
  show ((mean_run_look (N+3) p.funcs ((c+1:Nat):Int) m mp a ρ).bind fun x51=>_)=_
  rw [hN];rfl
 | @biE2 c e ρ a b x c1 y c' h ho ha _ _ ih1 ih2=>
  refine Ev.down 5 (((ih1.up 3).and (ih2.up 3)).mono fun N hN=>?_)
  show BA _ (N+4) p.funcs c m mp e ρ=_
  rw [KC (lt c h),Ij (by omega),w1 c h]
  show A3 (AU.at (N+3)) (N+3) p.funcs ((c+1:Nat):Int) m mp e ρ=_
  unfold A3
  rw [show (e.op==19)=false by simp;omega,show (e.op==20)=false by simp;omega,show (e.op==21)=false by simp;omega,show (e.op==22)=false by simp;omega]
  show BJ _ (N+3) mp e ρ (DD (AU.at (N+3)) (N+3) mp e ρ (N+2)) [] 0 p.funcs ((c+1:Nat):Int) m=_
  unfold BJ
  rw [ha]
  show ((mean_run_look (N+3) p.funcs ((c+1:Nat):Int) m mp a ρ).bind fun x51=>_)=_
  rw [hN.1,Option.bind_some]
  show BJ _ (N+3) mp e ρ (DD (AU.at (N+3)) (N+3) mp e ρ (N+1)) [x.plain] 1 p.funcs (c1:Int) m=_
  unfold BJ
  rw [ha]
  show ((mean_run_look (N+3) p.funcs (c1:Int) m mp b ρ).bind fun x51=>_)=_
  rw [hN.2];rfl
 | @bi c e ρ a b x c1 z c' r h ho ha _ _ hr ih1 ih2=>
  refine Ev.down 5 ((((ih1.up 3).and (ih2.up 3)).and (Ls (2^54))).mono fun N hN=>?_)
  show BA _ (N+4) p.funcs c m mp e ρ=_
  rw [KC (lt c h),Ij (by omega),w1 c h]
  show A3 (AU.at (N+3)) (N+3) p.funcs ((c+1:Nat):Int) m mp e ρ=_
  unfold A3
  rw [show (e.op==19)=false by simp;omega,show (e.op==20)=false by simp;omega,show (e.op==21)=false by simp;omega,show (e.op==22)=false by simp;omega]
  have hA:=(hr (N+3) (by have:=hN.2;omega)).1
  generalize hop:e.op=op at*
  show BJ _ (N+3) mp e ρ (DD (AU.at (N+3)) (N+3) mp e ρ (N+2)) [] 0 p.funcs ((c+1:Nat):Int) m=_
  unfold BJ
  rw [ha]
  show ((mean_run_look (N+3) p.funcs ((c+1:Nat):Int) m mp a ρ).bind fun x51=>_)=_
  rw [hN.1.1,Option.bind_some]
  show BJ _ (N+3) mp e ρ (DD (AU.at (N+3)) (N+3) mp e ρ (N+1)) [x.plain] 1 p.funcs (c1:Int) m=_
  unfold BJ
  rw [ha]
  show ((mean_run_look (N+3) p.funcs (c1:Int) m mp b ρ).bind fun x51=>_)=_
  rw [hN.1.2,Option.bind_some]
  show BJ _ (N+3) mp e ρ (DD (AU.at (N+3)) (N+3) mp e ρ N) [x.plain,z.plain] 2 p.funcs (c':Int) m=_
  unfold BJ
  rw [ha,hop]
  show ((D0 (N+3) op [x.plain,z.plain]).bind fun x1312=>bif (x1312.2 != 0) then _ else _)=_
  rw [hA,Option.bind_some,fin]
  cases (r.2 != 0)<;>rfl
end
end Fth
namespace Fth
open Go
def th0:Th:= .later ⟨0,[],[],0,(0,0),[],0⟩ .nil
def f0:AK:=⟨[],[],0,⟨0,[],[],0,(0,0),[],0⟩,0⟩
def hdR(o:Option AK):AK×Bool:=match o with |some f=>(f,true)|none=>(f0,false)
theorem Kp{α:Type}{l:List α}{i:Nat}{x:α}(h:l[i]?=some x):l.drop i=x::l.drop (i+1):=by
 obtain ⟨hi,rfl⟩:=List.getElem?_eq_some_iff.1 h
 exact List.drop_eq_getElem_cons hi
theorem Pj{p:AM}{nm:List UInt8}{N:Nat}(hl:p.funcs.length≤1000000)(hN:p.funcs.length+2≤N):FO N p nm=some (hdR (hd p nm)):=by
 have loop: ∀(k i:Nat),i≤p.funcs.length→p.funcs.length<i+k→Ir p nm k (i:Int)=some (hdR ((p.funcs.drop i).find? fun f=>f.name==nm)):=by
  intro k
  induction k with
  |zero=>intro i _ _;omega
  |succ k ih=>
   intro i hi hk
   show J5 p nm (Ir p nm k) i=_
   unfold J5
   cases hc:decide ((i:Int)< (p.funcs.length:Int))
   ·have hc:=Dn hc
    rw [cond_false,List.drop_eq_nil_of_le (by omega)];rfl
   ·have hc:=CN hc
    obtain ⟨f,hf,hf'⟩:=FJ (xs:=p.funcs) (i:=(i:Int)) (by omega) hc
    rw [cond_true,hf,Option.bind_some,wr (by omega) (by omega),show (i:Int)+1=((i+1:Nat):Int) by omega,Kp (by rwa [Int.toNat_natCast] at hf'),List.find?_cons]
    cases hn:(f.name==nm)
    ·rw [cond_false]
     exact ih (i+1) (by omega) (by omega)
    ·rfl
 have:=loop N 0 (by omega) (by omega)
 rw [List.drop_zero] at this
 exact this
def rth:Except Int Aq→Th
 | .ok x=> .done x.plain x.head x.tail
 | .error _=>th0
def rwy:Except Int Aq→Int
 | .ok _=>0
 | .error y=>y
section
variable{p:AM}{m:Nat}
theorem Oa{c:Nat}{e:AE}{ρ:Nm}{r:Except Int Aq}{c':Nat}(h:Lk p m c e ρ r c'): ∀y,r= .error y→y≠0:=by
 induction h with
 |fuel=>rintro y ⟨⟩;decide
 |fail=>rintro y ⟨⟩;decide
 |num=>rintro y ⟨⟩
 |tru=>rintro y ⟨⟩
 |fls=>rintro y ⟨⟩
 |nil=>rintro y ⟨⟩
 |vdone=>rintro y ⟨⟩
 |cons=>rintro y ⟨⟩
 |vlater _ _ _ _ ih=>exact ih
 |call _ _ _ _ _ ih=>exact ih
 |ifE _ _ _ _ ih=>exact ih
 |ifT _ _ _ _ _ _ _ ih=>exact ih
 |ifF _ _ _ _ _ _ _ ih=>exact ih
 |caE _ _ _ _ ih=>exact ih
 |caN _ _ _ _ _ _ _ ih=>exact ih
 |caC _ _ _ _ _ _ _ ih=>exact ih
 |lt _ _ _ _ ih=>exact ih
 |stE _ _ _ _ ih=>exact ih
 |stV _ _ _ _ _ _ ih=>exact ih
 |unE _ _ _ _ ih=>exact ih
 |biE _ _ _ _ ih=>exact ih
 |biE2 _ _ _ _ _ _ ih=>exact ih
 | @un c e ρ a x c' r=>
  intro y hy
  unfold fin at hy
  cases hr:(r.2 != 0)
  ·rw [hr] at hy;cases hy
  ·rw [hr] at hy;cases hy;exact Ko hr
 | @bi c e ρ a b x c1 z c' r=>
  intro y hy
  unfold fin at hy
  cases hr:(r.2 != 0)
  ·rw [hr] at hy;cases hy
  ·rw [hr] at hy;cases hy;exact Ko hr
theorem Wu{N:Nat}{c y:Int}{e:AE}{ρ:Nm}(hy:y≠0):ref11_Machine_look (N+1) ⟨p,m,c,y⟩ e ρ=some (th0,⟨p,m,c,y⟩):=by
 show BI _ N ⟨p,m,c,y⟩ e ρ=_
 unfold BI
 rw [show (((Al.mk p m c y).why != 0))=true by simpa using hy];rfl
theorem Pm{φ:AR}{N:Nat}{c:Nat}{e:AE}{ρ:Nm}(h:c<m)(h1:e.op≠1):BI φ N ⟨p,m,c,0⟩ e ρ=B6 φ N ⟨p,m,c,0⟩ e ρ (bif e.op==2 then e.op==2 else e.op==3):=by
 unfold BI
 rw [show (((Al.mk p m c 0).why != 0))=false from rfl,cond_false,show decide ((Al.mk p m c 0).cost≥(Al.mk p m c 0).most)=false from decide_eq_false (by simp only;omega),cond_false,show (e.op==1)=false by simpa using h1,cond_false]
 cases (e.op==2)<;>rfl
theorem ABt{φ:AR}{N:Nat}{c:Nat}{e:AE}{ρ:Nm}(h:c<m)(hm:m≤16384)(ho:(8≤e.op∧e.op≤17)∨(19≤e.op∧e.op≤22)):BI φ N ⟨p,m,c,0⟩ e ρ=φ.ref11_Machine_inside ⟨p,m,((c+1:Nat):Int),0⟩ e ρ:=by
 rw [Pm h (by omega),show (e.op==2)=false by simp;omega,show (e.op==3)=false by simp;omega]
 unfold B6
 rw [cond_false,cond_false,show (e.op==4)=false by simp;omega,show (e.op==5)=false by simp;omega,show (e.op==6)=false by simp;omega,show (e.op==7)=false by simp;omega,show (e.op==18)=false by simp;omega]
 simp only [cond_false]
 rw [wr (by omega) (by omega),show (c:Int)+1=((c+1:Nat):Int) by omega]
 show ((φ.ref11_Machine_inside ⟨p,m,((c+1:Nat):Int),0⟩ e ρ).bind fun x824=>some (x824.1,x824.2))=_
 cases φ.ref11_Machine_inside ⟨p,m,((c+1:Nat):Int),0⟩ e ρ<;>rfl
theorem V8(hp:WP p)(hm:m≤16384){c:Nat}{e:AE}{ρ:Nm}{r:Except Int Aq}{c':Nat}(h:Lk p m c e ρ r c'):
  Ev fun N=>ref11_Machine_look N ⟨p,m,c,0⟩ e ρ=some (rth r,⟨p,m,c',rwy r⟩):=by
 have w1: ∀c:Nat,c<m→IntKind.i64.wrap ((c:Int)+1)=((c+1:Nat):Int):=fun c h=>by rw [wr (by omega) (by omega)];omega
 have go: ∀{c:Nat} {e:AE} {ρ:Nm} {r:Except Int Aq} {c':Nat},c<m→(8≤e.op∧e.op≤17)∨(19≤e.op∧e.op≤22)→(Ev fun N=>BQ (AR.at N) N ⟨p,m,((c+1:Nat):Int),0⟩ e ρ=some (rth r,⟨p,m,c',rwy r⟩))→
   Ev fun N=>ref11_Machine_look N ⟨p,m,c,0⟩ e ρ=some (rth r,⟨p,m,c',rwy r⟩):=fun {c e ρ r c'} h ho hE=>by
  refine Ev.down 2 (hE.mono fun N hN=>?_)
  show BI (AR.at (N+1)) (N+1) ⟨p,m,c,0⟩ e ρ=_
  rw [ABt h hm ho]
  exact hN
 induction h with
 | @fuel c e ρ h=>
  refine Ev.down 1 (Ev.all fun N=>?_)
  show BI _ N ⟨p,m,c,0⟩ e ρ=_
  unfold BI
  rw [show (((Al.mk p m c 0).why != 0))=false from rfl,cond_false,show decide ((Al.mk p m c 0).cost≥(Al.mk p m c 0).most)=true from decide_eq_true (by simp only;omega)];rfl
 | @num c e ρ h ho=>
  refine Ev.down 1 (Ev.all fun N=>?_)
  show BI _ N ⟨p,m,c,0⟩ e ρ=_
  unfold BI
  rw [show (((Al.mk p m c 0).why != 0))=false from rfl,cond_false,show decide ((Al.mk p m c 0).cost≥(Al.mk p m c 0).most)=false from decide_eq_false (by simp only;omega),ho,w1 c h];rfl
 | @tru c e ρ h ho=>
  refine Ev.down 1 (Ev.all fun N=>?_)
  show BI _ N ⟨p,m,c,0⟩ e ρ=_
  rw [Pm h (by omega)];unfold B6;rw [ho,w1 c h];rfl
 | @fls c e ρ h ho=>
  refine Ev.down 1 (Ev.all fun N=>?_)
  show BI _ N ⟨p,m,c,0⟩ e ρ=_
  rw [Pm h (by omega)];unfold B6;rw [ho,w1 c h];rfl
 | @nil c e ρ h ho=>
  refine Ev.down 1 (Ev.all fun N=>?_)
  show BI _ N ⟨p,m,c,0⟩ e ρ=_
  rw [Pm h (by omega)];unfold B6;rw [ho,w1 c h];rfl
 | @fail c e ρ h ho=>
  refine Ev.down 1 (Ev.all fun N=>?_)
  show BI _ N ⟨p,m,c,0⟩ e ρ=_
  rw [Pm h (by omega)];unfold B6;rw [ho,w1 c h];rfl
 | @vdone c e ρ x h ho hf=>
  refine Ev.down 2 (((RP hf).up 1).mono fun N hN=>?_)
  show BI _ (N+1) ⟨p,m,c,0⟩ e ρ=_
  rw [Pm h (by omega)];unfold B6;rw [ho,w1 c h]
  show ((Lg (N+1) ρ e.name).bind fun x132=>_)=_
  rw [hN.2];rfl
 | @vlater c e ρ e' ρ' r c' h ho hf _ ih=>
  refine Ev.down 2 ((((RP hf).up 1).and ih).mono fun N hN=>?_)
  show BI _ (N+1) ⟨p,m,c,0⟩ e ρ=_
  rw [Pm h (by omega)];unfold B6;rw [ho,w1 c h]
  show ((Lg (N+1) ρ e.name).bind fun x132=>_)=_
  rw [hN.1.2]
  show (((ref11_Machine_look N ⟨p,m,((c+1:Nat):Int),0⟩ e' ρ').bind fun x131=>some (x131.1,x131.2)).bind fun x142=>some (x142.1,x142.2))=_
  rw [hN.2];rfl
 | @call c e ρ f r c' h ho hf hl _ ih=>
  have hfm:f∈p.funcs:=List.mem_of_find?_eq_some hf
  have hps:=(hp.fns f hfm).pars
  have hpl:=hp.len
  have loop: ∀(N k:Nat) (i:Nat) (acc:Nm),i≤f.params.length→f.params.length<i+k→ref11_Machine_look N ⟨p,m,((c+1:Nat):Int),0⟩ f.body (Sn ρ (f.params.drop i) (e.args.drop i) acc)=some (rth r,⟨p,m,c',rwy r⟩)→
    IP (AR.at N) ⟨p,m,c,0⟩ e ρ f.params f.body.op f.body.name f.body.tail f.body.type_ f.body.num f.body.args f.body.at_ k acc (i:Int)=some (rth r,⟨p,m,c',rwy r⟩):=by
   intro N k
   induction k with
   |zero=>intro i acc _ _;omega
   |succ k ihk=>
    intro i acc hi hk hN
    show JR _ ⟨p,m,c,0⟩ e ρ f.params f.body.op f.body.name f.body.tail f.body.type_ f.body.num f.body.args f.body.at_ (IP _ ⟨p,m,c,0⟩ e ρ f.params f.body.op f.body.name f.body.tail f.body.type_ f.body.num f.body.args f.body.at_ k) acc i=_
    unfold JR
    cases hd':decide ((i:Int)< (e.args.length:Int))
    ·have hd':=Dn hd'
     have hi':i=f.params.length:=by omega
     rw [cond_false,w1 c h,PH]
     have e1:f.params.drop i=[]:=by rw [hi'];exact List.drop_length
     rw [e1] at hN
     have e2:Sn ρ [] (e.args.drop i) acc=acc:=by cases e.args.drop i<;>rfl
     rw [e2] at hN
     show ((ref11_Machine_look N ⟨p,m,((c+1:Nat):Int),0⟩ f.body acc).bind fun x493=>_)=_
     rw [hN];rfl
    ·have hd':=CN hd'
     have i1:i<f.params.length:=by omega
     obtain ⟨x,hx,hx'⟩:=FJ (xs:=f.params) (i:=(i:Int)) (by omega) (by omega)
     obtain ⟨a,ha,ha'⟩:=FJ (xs:=e.args) (i:=(i:Int)) (by omega) hd'
     rw [cond_true,hx,Option.bind_some,ha,Option.bind_some,wr (by omega) (by omega),show (i:Int)+1=((i+1:Nat):Int) by omega]
     refine ihk (i+1) (.bind x.name (.later a ρ) acc) (by omega) (by omega) ?_
     rw [Int.toNat_natCast] at hx' ha'
     rw [Kp hx',Kp ha'] at hN
     exact hN
  refine Ev.down 1 ((ih.and (Ls (f.params.length+p.funcs.length+2))).mono fun N hN=>?_)
  show BI _ N ⟨p,m,c,0⟩ e ρ=_
  rw [Pm h (by omega)];unfold B6;rw [ho]
  show ((FO N p e.name).bind fun x551=>LI (AR.at N) N ⟨p,m,c,0⟩ e ρ x551.1.params x551.1.body.op x551.1.body.name x551.1.body.tail x551.1.body.type_ x551.1.body.num x551.1.body.args x551.1.body.at_)=_
  rw [Pj (by omega) (by omega),hf,Option.bind_some]
  exact loop N N 0 .nil (by omega) (by omega) hN.1
 | @cons c e ρ a b h ho ha=>
  refine Ev.down 1 (Ev.all fun N=>?_)
  show BI _ N ⟨p,m,c,0⟩ e ρ=_
  rw [Pm h (by omega)];unfold B6 LJ;rw [ho,w1 c h,ha];rfl
 | @ifE c e ρ a b d y c' h ho ha h1 ih=>
  have hy:=Oa h1 y rfl
  refine go h (by omega) (Ev.down 1 ((ih.up 1).mono fun N hN=>?_))
  unfold BQ;rw [ho,ha]
  show ((ref11_Machine_look (N+1) ⟨p,m,((c+1:Nat):Int),0⟩ a ρ).bind fun x44=>_)=_
  rw [hN]
  show ((ref11_Machine_look (N+1) ⟨p,m,c',y⟩ d ρ).bind fun x154=>_)=_
  rw [Wu hy];rfl
 | @ifT c e ρ a b d x c1 r c' h ho ha _ hb _ ih1 ih2=>
  refine go h (by omega) ((ih1.and ih2).mono fun N hN=>?_)
  unfold BQ;rw [ho,ha]
  show ((ref11_Machine_look N ⟨p,m,((c+1:Nat):Int),0⟩ a ρ).bind fun x44=>_)=_
  rw [hN.1]
  show (bif x.plain.bool then ((ref11_Machine_look N ⟨p,m,c1,0⟩ b ρ).bind fun x154=>some (x154.1,x154.2)) else _)=_
  rw [hb,cond_true,hN.2];rfl
 | @ifF c e ρ a b d x c1 r c' h ho ha _ hb _ ih1 ih2=>
  refine go h (by omega) ((ih1.and ih2).mono fun N hN=>?_)
  unfold BQ;rw [ho,ha]
  show ((ref11_Machine_look N ⟨p,m,((c+1:Nat):Int),0⟩ a ρ).bind fun x44=>_)=_
  rw [hN.1]
  show (bif x.plain.bool then _ else ((ref11_Machine_look N ⟨p,m,c1,0⟩ d ρ).bind fun x154=>some (x154.1,x154.2)))=_
  rw [hb,cond_false,hN.2];rfl
 | @caE c e ρ a b d y c' h ho ha h1 ih=>
  have hy:=Oa h1 y rfl
  refine go h (by omega) (Ev.down 1 ((ih.up 1).mono fun N hN=>?_))
  unfold BQ;rw [ho,ha]
  show ((ref11_Machine_look (N+1) ⟨p,m,((c+1:Nat):Int),0⟩ a ρ).bind fun x44=>_)=_
  rw [hN,Option.bind_some]
  show (bif (y != 0) then DL (AR.at (N+1)) e ρ (th0,⟨p,m,c',y⟩) true else _)=_
  rw [show (y != 0)=true by simpa using hy,cond_true]
  unfold DL
  rw [ha]
  show ((ref11_Machine_look (N+1) ⟨p,m,c',y⟩ b ρ).bind fun x273=>_)=_
  rw [Wu hy];rfl
 | @caN c e ρ a b d x c1 r c' h ho ha _ hb _ ih1 ih2=>
  refine go h (by omega) ((ih1.and ih2).mono fun N hN=>?_)
  unfold BQ;rw [ho,ha]
  show ((ref11_Machine_look N ⟨p,m,((c+1:Nat):Int),0⟩ a ρ).bind fun x44=>_)=_
  rw [hN.1,Option.bind_some]
  show DL (AR.at N) e ρ (.done x.plain x.head x.tail,⟨p,m,c1,0⟩) (!!x.head.isNil)=_
  unfold DL
  rw [ha,hb]
  show ((ref11_Machine_look N ⟨p,m,c1,0⟩ b ρ).bind fun x273=>_)=_
  rw [hN.2];rfl
 | @caC c e ρ a b d x c1 r c' h ho ha _ hb _ ih1 ih2=>
  refine go h (by omega) ((ih1.and ih2).mono fun N hN=>?_)
  unfold BQ;rw [ho,ha]
  show ((ref11_Machine_look N ⟨p,m,((c+1:Nat):Int),0⟩ a ρ).bind fun x44=>_)=_
  rw [hN.1,Option.bind_some]
  show DL (AR.at N) e ρ (.done x.plain x.head x.tail,⟨p,m,c1,0⟩) (!!x.head.isNil)=_
  unfold DL
  rw [ha,hb]
  show ((ref11_Machine_look N ⟨p,m,c1,0⟩ d (.bind e.tail x.tail (.bind e.name x.head ρ))).bind fun x273=>_)=_
  rw [hN.2];rfl
 | @lt c e ρ a b r c' h ho ha _ ih=>
  refine go h (by omega) (ih.mono fun N hN=>?_)
  unfold BQ
  rw [ho,ha,show ((21:Int)==19)=false from rfl,cond_false,show ((21:Int)==20)=false from rfl,cond_false,show ((21:Int)==21)=true from rfl,cond_true,show idx [a,b] 0=some a from rfl,Option.bind_some,show idx [a,b] 1=some b from rfl,Option.bind_some]
  show ((ref11_Machine_look N ⟨p,m,((c+1:Nat):Int),0⟩ b (.letrec e.name a ρ)).bind fun x735=>_)=_
  rw [hN];rfl
 | @stE c e ρ a b y c' h ho ha h1 ih=>
  have hy:=Oa h1 y rfl
  refine go h (by omega) (Ev.down 1 ((ih.up 1).mono fun N hN=>?_))
  unfold BQ;rw [ho,ha]
  show ((ref11_Machine_look (N+1) ⟨p,m,((c+1:Nat):Int),0⟩ a ρ).bind fun x44=>_)=_
  rw [hN]
  show ((ref11_Machine_look (N+1) ⟨p,m,c',y⟩ b (.bind e.name th0 ρ)).bind fun x154=>_)=_
  rw [Wu hy];rfl
 | @stV c e ρ a b x c1 r c' h ho ha _ _ ih1 ih2=>
  refine go h (by omega) ((ih1.and ih2).mono fun N hN=>?_)
  unfold BQ;rw [ho,ha]
  show ((ref11_Machine_look N ⟨p,m,((c+1:Nat):Int),0⟩ a ρ).bind fun x44=>_)=_
  rw [hN.1]
  show ((ref11_Machine_look N ⟨p,m,c1,0⟩ b (.bind e.name (.done x.plain x.head x.tail) ρ)).bind fun x154=>_)=_
  rw [hN.2];rfl
 | @unE c e ρ a y c' h ho ha h1 ih=>
  have hy:=Oa h1 y rfl
  refine go h (by omega) (Ev.down 3 ((ih.up 3).mono fun N hN=>?_))
  unfold BQ
  rw [show (e.op==19)=false by simp;omega,show (e.op==20)=false by simp;omega,show (e.op==21)=false by simp;omega,show (e.op==22)=false by simp;omega]
  show Av (AR.at (N+3)) (N+3) e ρ (BV (AR.at (N+3)) (N+3) e ρ (N+2)) [] 0 p.funcs m ((c+1:Nat):Int) 0=_
  unfold Av
  rw [ha]
  show ((ref11_Machine_look (N+3) ⟨p,m,((c+1:Nat):Int),0⟩ a ρ).bind fun x44=>_)=_
  rw [hN,Option.bind_some]
  show Av (AR.at (N+3)) (N+3) e ρ (BV (AR.at (N+3)) (N+3) e ρ (N+1)) [NB] 1 p.funcs m c' y=_
  unfold Av
  rw [ha]
  show (bif (y != 0) then _ else _)=_
  rw [show (y != 0)=true by simpa using hy];rfl
 | @un c e ρ a x c' r h ho ha _ hr ih=>
  refine go h (by omega) (Ev.down 3 (((ih.up 3).and (Ls (2^54))).mono fun N hN=>?_))
  unfold BQ
  rw [show (e.op==19)=false by simp;omega,show (e.op==20)=false by simp;omega,show (e.op==21)=false by simp;omega,show (e.op==22)=false by simp;omega]
  have hA:=(hr (N+3) (by have:=hN.2;omega)).2
  generalize hop:e.op=op at*
  show Av (AR.at (N+3)) (N+3) e ρ (BV (AR.at (N+3)) (N+3) e ρ (N+2)) [] 0 p.funcs m ((c+1:Nat):Int) 0=_
  unfold Av
  rw [ha]
  show ((ref11_Machine_look (N+3) ⟨p,m,((c+1:Nat):Int),0⟩ a ρ).bind fun x44=>_)=_
  rw [hN.1,Option.bind_some]
  show Av (AR.at (N+3)) (N+3) e ρ (BV (AR.at (N+3)) (N+3) e ρ (N+1)) [x.plain] 1 p.funcs m c' 0=_
  unfold Av
  rw [ha,hop]
  show ((Ga (N+3) op [x.plain]).bind fun x1299=>bif (x1299.2 != 0) then _ else _)=_
  rw [hA,Option.bind_some,fin]
  cases (r.2 != 0)<;>rfl
 | @biE c e ρ a b y c' h ho ha h1 ih=>
  have hy:=Oa h1 y rfl
  refine go h (by omega) (Ev.down 3 ((ih.up 3).mono fun N hN=>?_))
  unfold BQ
  rw [show (e.op==19)=false by simp;omega,show (e.op==20)=false by simp;omega,show (e.op==21)=false by simp;omega,show (e.op==22)=false by simp;omega]
  show Av (AR.at (N+3)) (N+3) e ρ (BV (AR.at (N+3)) (N+3) e ρ (N+2)) [] 0 p.funcs m ((c+1:Nat):Int) 0=_
  unfold Av
  rw [ha]
  show ((ref11_Machine_look (N+3) ⟨p,m,((c+1:Nat):Int),0⟩ a ρ).bind fun x44=>_)=_
  rw [hN,Option.bind_some]
  show Av (AR.at (N+3)) (N+3) e ρ (BV (AR.at (N+3)) (N+3) e ρ (N+1)) [NB] 1 p.funcs m c' y=_
  unfold Av
  rw [ha]
  show ((ref11_Machine_look (N+3) ⟨p,m,c',y⟩ b ρ).bind fun x44=>_)=_
  rw [Wu hy,Option.bind_some]
  show Av (AR.at (N+3)) (N+3) e ρ (BV (AR.at (N+3)) (N+3) e ρ N) [NB,NB] 2 p.funcs m c' y=_
  unfold Av
  rw [ha]
  show (bif (y != 0) then _ else _)=_
  rw [show (y != 0)=true by simpa using hy];rfl
 | @biE2 c e ρ a b x c1 y c' h ho ha _ h2 ih1 ih2=>
  have hy:=Oa h2 y rfl
  refine go h (by omega) (Ev.down 3 (((ih1.up 3).and (ih2.up 3)).mono fun N hN=>?_))
  unfold BQ
  rw [show (e.op==19)=false by simp;omega,show (e.op==20)=false by simp;omega,show (e.op==21)=false by simp;omega,show (e.op==22)=false by simp;omega]
  show Av (AR.at (N+3)) (N+3) e ρ (BV (AR.at (N+3)) (N+3) e ρ (N+2)) [] 0 p.funcs m ((c+1:Nat):Int) 0=_
  unfold Av
  rw [ha]
  show ((ref11_Machine_look (N+3) ⟨p,m,((c+1:Nat):Int),0⟩ a ρ).bind fun x44=>_)=_
  rw [hN.1,Option.bind_some]
  show Av (AR.at (N+3)) (N+3) e ρ (BV (AR.at (N+3)) (N+3) e ρ (N+1)) [x.plain] 1 p.funcs m c1 0=_
  unfold Av
  rw [ha]
  show ((ref11_Machine_look (N+3) ⟨p,m,c1,0⟩ b ρ).bind fun x44=>_)=_
  rw [hN.2,Option.bind_some]
  show Av (AR.at (N+3)) (N+3) e ρ (BV (AR.at (N+3)) (N+3) e ρ N) [x.plain,NB] 2 p.funcs m c' y=_
  unfold Av
  rw [ha]
  show (bif (y != 0) then _ else _)=_
  rw [show (y != 0)=true by simpa using hy];rfl
 | @bi c e ρ a b x c1 z c' r h ho ha _ _ hr ih1 ih2=>
  refine go h (by omega) (Ev.down 3 ((((ih1.up 3).and (ih2.up 3)).and (Ls (2^54))).mono fun N hN=>?_))
  unfold BQ
  rw [show (e.op==19)=false by simp;omega,show (e.op==20)=false by simp;omega,show (e.op==21)=false by simp;omega,show (e.op==22)=false by simp;omega]
  have hA:=(hr (N+3) (by have:=hN.2;omega)).2
  generalize hop:e.op=op at*
  show Av (AR.at (N+3)) (N+3) e ρ (BV (AR.at (N+3)) (N+3) e ρ (N+2)) [] 0 p.funcs m ((c+1:Nat):Int) 0=_
  unfold Av
  rw [ha]
  show ((ref11_Machine_look (N+3) ⟨p,m,((c+1:Nat):Int),0⟩ a ρ).bind fun x44=>_)=_
  rw [hN.1.1,Option.bind_some]
  show Av (AR.at (N+3)) (N+3) e ρ (BV (AR.at (N+3)) (N+3) e ρ (N+1)) [x.plain] 1 p.funcs m c1 0=_
  unfold Av
  rw [ha]
  show ((ref11_Machine_look (N+3) ⟨p,m,c1,0⟩ b ρ).bind fun x44=>_)=_
  rw [hN.1.2,Option.bind_some]
  show Av (AR.at (N+3)) (N+3) e ρ (BV (AR.at (N+3)) (N+3) e ρ N) [x.plain,z.plain] 2 p.funcs m c' 0=_
  unfold Av
  rw [ha,hop]
  show ((Ga (N+3) op [x.plain,z.plain]).bind fun x1299=>bif (x1299.2 != 0) then _ else _)=_
  rw [hA,Option.bind_some,fin]
  cases (r.2 != 0)<;>rfl
end
end Fth
namespace Fth
open Go
def QN(Γ:List AH)(nm:List UInt8):Option Int:=(Γ.find? fun x=>x.name==nm).map (·.type_)
def Win(Γ:List AH)(e:AE)(i:Nat):List AH:=
 if e.op=21∨(e.op=22∧i=1) then ⟨e.name,e.type_,0⟩::Γ else if e.op=20∧i=2 then ⟨e.tail,3,0⟩::⟨e.name,1,0⟩::Γ else Γ
def Wan(p:AM)(e:AE)(i:Nat)(t:Int):Int:=
 if e.op=14 then 2 else if e.op=18∧i=1 then 3 else if e.op=7 then (match (hd p e.name).bind fun f=>f.params[i]? with |some x=>x.type_|none=>1)
 else if e.op=19 then (if i=0 then 2 else t) else if e.op=20 then (if i=0 then 3 else t) else if e.op=21∨e.op=22 then (if i=0 then e.type_ else t) else 1
structure OwT(p:AM)(Γ:List AH)(e:AE)(t:Int):Prop where
 n:(e.op=1∨(8≤e.op∧e.op≤11)∨(15≤e.op∧e.op≤17))→t=1
 b:(e.op=2∨e.op=3∨(12≤e.op∧e.op≤14))→t=2
 l:(e.op=4∨e.op=18)→t=3
 f:e.op=5→t=e.type_
 v:e.op=6→QN Γ e.name=some t
 c:e.op=7→∃f,hd p e.name=some f∧f.params.length=e.args.length∧f.type_=t
inductive WTy(p:AM):List AH→AE→Int→Prop
 |mk (Γ:List AH) (e:AE) (t:Int) (ho:OwT p Γ e t) (hs: ∀i a,e.args[i]?=some a→WTy p (Win Γ e i) a (Wan p e i t)):WTy p Γ e t
theorem WTy.own{p Γ e t}(h:WTy p Γ e t):OwT p Γ e t:=by cases h;assumption
theorem WTy.sub{p Γ e t}(h:WTy p Γ e t): ∀i a,e.args[i]?=some a→WTy p (Win Γ e i) a (Wan p e i t):=by cases h;assumption
def ch:Th→Nat
 | .done _ _ t=>1+ch t
 |_=>0
mutual
inductive EOK(p:AM)(L:Nat):List AH→Nm→Prop
 |nil:EOK p L [] .nil
 |bind (x:AH) (Γ:List AH) (t:Th) (ρ:Nm) (ht:TOK p L x.type_ t) (he:EOK p L Γ ρ):EOK p L (x::Γ) (.bind x.name t ρ)
 |letrec (x:AH) (Γ:List AH) (e:AE) (ρ:Nm) (hw:WTy p (x::Γ) e x.type_) (hwe:WE e) (ht:1≤x.type_∧x.type_≤3) (he:EOK p L Γ ρ):EOK p L (x::Γ) (.letrec x.name e ρ)
inductive TOK(p:AM)(L:Nat):Int→Th→Prop
 |val (t:Int) (v:AI) (hv:VV t v) (h3:t=3→v.list=[]):TOK p L t (.done v .nil .nil)
 |pair (h t:Th) (h1:TOK p L 1 h) (h2:TOK p L 3 t) (hc:ch t<L):TOK p L 3 (.done v0 h t)
 |later (Γ:List AH) (ρ:Nm) (e:AE) (t:Int) (he:EOK p L Γ ρ) (hw:WTy p Γ e t) (hwe:WE e) (ht:1≤t∧t≤3):TOK p L t (.later e ρ)
end
section
variable{p:AM}{L m:Nat}
theorem Wv{t:Int}{h:Th}(hh:TOK p L t h):h.isNil=false:=by cases hh<;>rfl
theorem Pn{t:Int}{x:Aq}(h:TOK p L t (.done x.plain x.head x.tail))(h3:t≠3):VV t x.plain:=by
 obtain ⟨pl,hh,tl⟩:=x
 cases h with
 |val _ _ hv _=>exact hv
 |pair=>exact absurd rfl h3
theorem ABZ{nm:List UInt8}: ∀(Γ:List AH) (ρ:Nm) (t:Int),EOK p L Γ ρ→QN Γ nm=some t→∃th,fnd nm ρ=some th∧TOK p L t th:=by
 intro Γ
 induction Γ with
 |nil=>intro ρ t _ h;simp [QN] at h
 |cons x Γ ih=>
  intro ρ t he h
  unfold QN at h
  rw [List.find?_cons] at h
  cases he with
  |bind _ _ th ρ ht he=>
   rw [fnd]
   cases hn:(x.name==nm)
   ·rw [hn] at h
    exact ih ρ t he h
   ·rw [hn] at h
    cases h
    exact ⟨th,rfl,ht⟩
  |letrec _ _ e ρ hw hwe ht he=>
   rw [fnd]
   cases hn:(x.name==nm)
   ·rw [hn] at h
    exact ih ρ t he h
   ·rw [hn] at h
    cases h
    exact ⟨_,rfl,.later (x::Γ) _ _ _ (.letrec x Γ e ρ hw hwe ht he) hw hwe ht⟩
theorem Yb{Γ:List AH}{ρ:Nm}(hρ:EOK p L Γ ρ): ∀(ps:List AH) (zs:List AE) (Δ:List AH) (acc:Nm),ps.length=zs.length→EOK p L Δ acc→
  (∀(i:Nat) (x:AH) (a:AE),ps[i]?=some x→zs[i]?=some a→WTy p Γ a x.type_∧WE a∧1≤x.type_∧x.type_≤3)→EOK p L (ps.reverse++Δ) (Sn ρ ps zs acc):=by
 intro ps
 induction ps with
 |nil=>intro zs Δ acc h he _;cases zs with
  |nil=>exact he
  |cons=>cases h
 |cons x ps ih=>
  intro zs Δ acc h he ha
  cases zs with
  |nil=>cases h
  |cons a zs=>
   have h0:=ha 0 x a rfl rfl
   have:=ih zs (x::Δ) (.bind x.name (.later a ρ) acc) (by simpa using h) (.bind x Δ _ acc (.later Γ ρ a x.type_ hρ h0.1 h0.2.1 h0.2.2) he) fun i y b h1 h2=>ha (i+1) y b h1 h2
   rw [List.reverse_cons,List.append_assoc]
   exact this
def Rt(p:AM)(L m:Nat)(t:Int)(r:Except Int Aq)(c c':Nat):Prop:=
 match r with
 | .ok x=>TOK p L t (.done x.plain x.head x.tail)∧c<c'
 | .error y=>(y=60∧c'=m)∨((y=50∨y=51∨y=52)∧c<c')
theorem Rt.back{t t':Int}{r:Except Int Aq}{c c1 c':Nat}(h:Rt p L m t r c1 c')(hc:c≤c1)(ht:t=t'):Rt p L m t' r c c':=by
 subst ht
 cases r with
 |ok x=>exact ⟨h.1,by have:=h.2;omega⟩
 |error y=>exact h.imp id fun h=>⟨h.1,by have:=h.2;omega⟩
theorem Rt.err{t t':Int}{y:Int}{c c1 c':Nat}(h:Rt p L m t (.error y) c1 c')(hc:c≤c1):Rt p L m t' (.error y) c c':=
 Or.imp id (fun h=>⟨h.1,by have:=h.2;omega⟩) h
theorem QO{α:Type}{l:List α}(h:l.length=2): ∃a b,l=[a,b]:=by
 match l,h with
 | [a,b],_=>exact ⟨a,b,rfl⟩
theorem So{α:Type}{l:List α}(h:l.length=3): ∃a b c,l=[a,b,c]:=by
 match l,h with
 | [a,b,c],_=>exact ⟨a,b,c,rfl⟩
theorem ABa{α:Type}{l:List α}(h:l.length=1): ∃a,l=[a]:=by
 match l,h with
 | [a],_=>exact ⟨a,rfl⟩
theorem Yc(hp:WP p)(hS: ∀f∈p.funcs,WTy p f.params.reverse f.body f.type_)(hL:1≤L): ∀(k c:Nat),m - c≤k→c≤m→∀(Γ:List AH) (e:AE) (ρ:Nm) (t:Int),EOK p L Γ ρ→WTy p Γ e t→WE e→1≤t∧t≤3→
  ∃r c',Lk p m c e ρ r c'∧c≤c'∧c'≤m∧Rt p L m t r c c':=by
 intro k
 induction k with
 |zero=>
  intro c hk hc Γ e ρ t _ _ _ _
  exact ⟨_,_,.fuel (by omega),by omega,hc,.inl ⟨rfl,by omega⟩⟩
 |succ k ih=>
  intro c hk hc Γ e ρ t hρ hw he ht
  rcases Nat.lt_or_ge c m with h|h
  rotate_left
  ·exact ⟨_,_,.fuel h,by omega,hc,.inl ⟨rfl,by omega⟩⟩
  have ow:=hw.own
  have sb:=hw.sub
  have se:=he.sub
  have mem: ∀{i:Nat} {a:AE},e.args[i]?=some a→WE a:=fun h=>se _ (List.mem_of_getElem? h)
  rcases he.ar with ⟨h1,h2,h3⟩|h7| ⟨h1,h2,h3⟩| ⟨h1,h2,h3⟩| ⟨h1,h3⟩| ⟨h1,h2,h3⟩| ⟨h1,h2,h3⟩
  ·have hh:e.op=1∨e.op=2∨e.op=3∨e.op=4∨e.op=5∨e.op=6:=by omega
   rcases hh with ho|ho|ho|ho|ho|ho
   ·refine ⟨_,_,.num h ho,by omega,by omega,?_,by omega⟩
    rw [ow.n (.inl ho)]
    exact .val 1 _ (.inl ⟨rfl,rfl,he.num ho,rfl,rfl⟩) fun h=>by cases h
   ·refine ⟨_,_,.tru h ho,by omega,by omega,?_,by omega⟩
    rw [ow.b (.inl ho)]
    exact .val 2 _ (XL _) fun h=>by cases h
   ·refine ⟨_,_,.fls h ho,by omega,by omega,?_,by omega⟩
    rw [ow.b (.inr (.inl ho))]
    exact .val 2 _ (XL _) fun h=>by cases h
   ·refine ⟨_,_,.nil h ho,by omega,by omega,?_,by omega⟩
    rw [ow.l (.inl ho)]
    exact .val 3 _ (.inr (.inr ⟨rfl,rfl,rfl,rfl,by simp⟩)) fun _=>rfl
   ·exact ⟨_,_,.fail h ho,by omega,by omega,.inr ⟨.inr (.inr rfl),by omega⟩⟩
   ·obtain ⟨th,hf,htok⟩:=ABZ Γ ρ t hρ (ow.v ho)
    cases th with
    |nil=>cases htok
    |done pl hh tl=>exact ⟨_,_,.vdone (x:=⟨pl,hh,tl⟩) h ho hf,by omega,by omega,htok,by omega⟩
    |later e' ρ'=>
     cases htok with
     |later Γ' _ _ _ he' hw' hwe' ht'=>
      obtain ⟨r,c',h1,h2,h3,h4⟩:=ih (c+1) (by omega) (by omega) Γ' e' ρ' t he' hw' hwe' ht'
      exact ⟨r,c',.vlater h ho hf h1,by omega,h3,h4.back (by omega) rfl⟩
  ·obtain ⟨f,hf,hl,hft⟩:=ow.c h7
   have hfm:f∈p.funcs:=List.mem_of_find?_eq_some hf
   have hfn:=hp.fns f hfm
   have henv:=Yb hρ f.params e.args [] .nil hl .nil fun i x a hx ha=>by
    have h1:=sb i a ha
    have e1:Win Γ e i=Γ:=by unfold Win;rw [if_neg (by omega),if_neg (by omega)]
    have e2:Wan p e i t=x.type_:=by
     unfold Wan
     rw [if_neg (by omega),if_neg (by omega),if_pos h7,hf]
     show (match f.params[i]? with |some x=>x.type_|none=>1)=_
     rw [hx]
    rw [e1,e2] at h1
    exact ⟨h1,mem ha,hfn.ptyp x (List.mem_of_getElem? hx)⟩
   rw [List.append_nil] at henv
   obtain ⟨r,c',h1,h2,h3,h4⟩:=ih (c+1) (by omega) (by omega) _ f.body _ f.type_ henv (hS f hfm) hfn.body hfn.typ
   exact ⟨r,c',.call h h7 hf hl h1,by omega,h3,h4.back (by omega) hft⟩
  ·
   obtain ⟨a,b,ha⟩:=QO h3
   have wa:=sb 0 a (by rw [ha];rfl)
   have wb:=sb 1 b (by rw [ha];rfl)
   have e1: ∀i,Win Γ e i=Γ:=fun i=>by unfold Win;rw [if_neg (by omega),if_neg (by omega)]
   have e2: ∀i,Wan p e i t=1:=fun i=>by unfold Wan;rw [if_neg (by omega),if_neg (by omega),if_neg (by omega),if_neg (by omega),if_neg (by omega),if_neg (by omega)]
   rw [e1,e2] at wa wb
   obtain ⟨r1,c1,l1,l2,l3,l4⟩:=ih (c+1) (by omega) (by omega) Γ a ρ 1 hρ wa (mem (i:=0) (by rw [ha];rfl)) (by omega)
   cases r1 with
   |error y=>exact ⟨_,c1,.biE h ⟨h1,h2⟩ ha l1,by omega,l3,l4.err (by omega)⟩
   |ok x=>
    obtain ⟨r2,c2,k1,k2,k3,k4⟩:=ih c1 (by omega) l3 Γ b ρ 1 hρ wb (mem (i:=1) (by rw [ha];rfl)) (by omega)
    cases r2 with
    |error y=>exact ⟨_,c2,.biE2 h ⟨h1,h2⟩ ha l1 k1,by omega,k3,k4.err (by omega)⟩
    |ok z=>
     have vx:VV 1 x.plain:=Pn l4.1 (by decide)
     have vz:VV 1 z.plain:=Pn k4.1 (by decide)
     obtain ⟨r,hr,hA⟩:=VK (op:=e.op) (args:=[x.plain,z.plain]) (.inl ⟨h1,h2,_,_,vx,vz,rfl⟩)
     refine ⟨fin r,c2,.bi h ⟨h1,h2⟩ ha l1 k1 hA,by omega,k3,?_⟩
     unfold fin
     rcases hr with ⟨hr0,hv⟩| ⟨hr0,_⟩
     ·rw [show (r.2 != 0)=false by rw [hr0];rfl]
      have hT:opT e.op=t:=by
       unfold opT
       rcases Decidable.em (e.op=12∨e.op=13∨e.op=14) with ho|ho
       ·rw [if_pos ho,ow.b (by omega)]
       ·rw [if_neg ho,ow.n (by omega)]
      refine ⟨.val t _ (hT▸hv) fun h3=>?_,by omega⟩
      have:=hT
      unfold opT at this
      split at this<;>omega
     ·rw [show (r.2 != 0)=true by simp;omega]
      exact .inr ⟨by omega,by omega⟩
  ·
   obtain ⟨a,ha⟩:=ABa h3
   have wa:=sb 0 a (by rw [ha];rfl)
   have e1: ∀i,Win Γ e i=Γ:=fun i=>by unfold Win;rw [if_neg (by omega),if_neg (by omega)]
   have e2:Wan p e 0 t=if e.op=14 then 2 else 1:=by
    unfold Wan
    rcases Decidable.em (e.op=14) with ho|ho
    ·rw [if_pos ho,if_pos ho]
    ·rw [if_neg ho,if_neg ho,if_neg (by omega),if_neg (by omega),if_neg (by omega),if_neg (by omega),if_neg (by omega)]
   rw [e1,e2] at wa
   obtain ⟨r1,c1,l1,l2,l3,l4⟩:=ih (c+1) (by omega) (by omega) Γ a ρ _ hρ wa (mem (i:=0) (by rw [ha];rfl)) (by split<;>omega)
   cases r1 with
   |error y=>exact ⟨_,c1,.unE h ⟨h1,h2⟩ ha l1,by omega,l3,l4.err (by omega)⟩
   |ok x=>
    have vx:VV (if e.op=14 then 2 else 1) x.plain:=Pn l4.1 (by split<;>decide)
    have hargs:(8≤e.op∧e.op≤13∧∃a b,VV 1 a∧VV 1 b∧[x.plain]=[a,b])∨(e.op=14∧∃a,VV 2 a∧[x.plain]=[a])∨(15≤e.op∧e.op≤17∧∃a,VV 1 a∧[x.plain]=[a]):=by
     rcases Decidable.em (e.op=14) with ho|ho
     ·rw [if_pos ho] at vx;exact .inr (.inl ⟨ho,_,vx,rfl⟩)
     ·rw [if_neg ho] at vx;exact .inr (.inr ⟨by omega,by omega,_,vx,rfl⟩)
    obtain ⟨r,hr,hA⟩:=VK hargs
    refine ⟨fin r,c1,.un h ⟨h1,h2⟩ ha l1 hA,by omega,l3,?_⟩
    unfold fin
    rcases hr with ⟨hr0,hv⟩| ⟨hr0,_⟩
    ·rw [show (r.2 != 0)=false by rw [hr0];rfl]
     have hT:opT e.op=t:=by
      unfold opT
      rcases Decidable.em (e.op=12∨e.op=13∨e.op=14) with ho|ho
      ·rw [if_pos ho,ow.b (by omega)]
      ·rw [if_neg ho,ow.n (by omega)]
     refine ⟨.val t _ (hT▸hv) fun h3=>?_,by omega⟩
     have:=hT
     unfold opT at this
     split at this<;>omega
    ·rw [show (r.2 != 0)=true by simp;omega]
     exact .inr ⟨by omega,by omega⟩
  ·
   obtain ⟨a,b,ha⟩:=QO h3
   have wa:=sb 0 a (by rw [ha];rfl)
   have wb:=sb 1 b (by rw [ha];rfl)
   have e1: ∀i,Win Γ e i=Γ:=fun i=>by unfold Win;rw [if_neg (by omega),if_neg (by omega)]
   have e2:Wan p e 0 t=1:=by unfold Wan;rw [if_neg (by omega),if_neg (by omega),if_neg (by omega),if_neg (by omega),if_neg (by omega),if_neg (by omega)]
   have e3:Wan p e 1 t=3:=by unfold Wan;rw [if_neg (by omega),if_pos ⟨h1,rfl⟩]
   rw [e1,e2] at wa
   rw [e1,e3] at wb
   refine ⟨_,_,.cons h h1 ha,by omega,by omega,?_,by omega⟩
   rw [ow.l (.inr h1)]
   exact .pair _ _ (.later Γ ρ a 1 hρ wa (mem (i:=0) (by rw [ha];rfl)) (by omega)) (.later Γ ρ b 3 hρ wb (mem (i:=1) (by rw [ha];rfl)) (by omega)) (by simp only [ch];omega)
  ·obtain ⟨a,b,d,ha⟩:=So h3
   have wa:=sb 0 a (by rw [ha];rfl)
   have wb:=sb 1 b (by rw [ha];rfl)
   have wd:=sb 2 d (by rw [ha];rfl)
   have ma:=mem (i:=0) (a:=a) (by rw [ha];rfl)
   have mb:=mem (i:=1) (a:=b) (by rw [ha];rfl)
   have md:=mem (i:=2) (a:=d) (by rw [ha];rfl)
   rcases (show e.op=19∨e.op=20 by omega) with ho|ho
   ·have e1: ∀i,Win Γ e i=Γ:=fun i=>by unfold Win;rw [if_neg (by omega),if_neg (by omega)]
    have e2: ∀i,Wan p e i t=if i=0 then 2 else t:=fun i=>by unfold Wan;rw [if_neg (by omega),if_neg (by omega),if_neg (by omega),if_pos ho]
    rw [e1,e2] at wa wb wd
    obtain ⟨r1,c1,l1,l2,l3,l4⟩:=ih (c+1) (by omega) (by omega) Γ a ρ 2 hρ wa ma (by omega)
    cases r1 with
    |error y=>exact ⟨_,c1,.ifE h ho ha l1,by omega,l3,l4.err (by omega)⟩
    |ok x=>
     cases hb:x.plain.bool
     ·obtain ⟨r2,c2,k1,k2,k3,k4⟩:=ih c1 (by omega) l3 Γ d ρ t hρ wd md ht
      exact ⟨r2,c2,.ifF h ho ha l1 hb k1,by omega,k3,k4.back (by omega) rfl⟩
     ·obtain ⟨r2,c2,k1,k2,k3,k4⟩:=ih c1 (by omega) l3 Γ b ρ t hρ wb mb ht
      exact ⟨r2,c2,.ifT h ho ha l1 hb k1,by omega,k3,k4.back (by omega) rfl⟩
   ·have e1: ∀i,i≠2→Win Γ e i=Γ:=fun i hi=>by unfold Win;rw [if_neg (by omega),if_neg (by omega)]
    have e1':Win Γ e 2=⟨e.tail,3,0⟩::⟨e.name,1,0⟩::Γ:=by unfold Win;rw [if_neg (by omega),if_pos ⟨ho,rfl⟩]
    have e2: ∀i,Wan p e i t=if i=0 then 3 else t:=fun i=>by unfold Wan;rw [if_neg (by omega),if_neg (by omega),if_neg (by omega),if_neg (by omega),if_pos ho]
    rw [e1 _ (by omega),e2] at wa wb
    rw [e1',e2] at wd
    obtain ⟨r1,c1,l1,l2,l3,l4⟩:=ih (c+1) (by omega) (by omega) Γ a ρ 3 hρ wa ma (by omega)
    cases r1 with
    |error y=>exact ⟨_,c1,.caE h ho ha l1,by omega,l3,l4.err (by omega)⟩
    |ok x=>
     obtain ⟨pl,hx,tx⟩:=x
     have hl4:=l4.1
     simp only at hl4
     generalize hT:(3:Int)=T3 at hl4
     cases hl4 with
     |val _ _ hv h3=>
      obtain ⟨r2,c2,k1,k2,k3,k4⟩:=ih c1 (by omega) l3 Γ b ρ t hρ wb mb ht
      exact ⟨r2,c2,.caN h ho ha l1 rfl k1,by omega,k3,k4.back (by omega) rfl⟩
     |pair _ _ t1 t2 hc=>
      have henv:EOK p L (⟨e.tail,3,0⟩::⟨e.name,1,0⟩::Γ) (.bind e.tail tx (.bind e.name hx ρ)):= .bind ⟨e.tail,3,0⟩ _ _ _ t2 (.bind ⟨e.name,1,0⟩ _ _ _ t1 hρ)
      obtain ⟨r2,c2,k1,k2,k3,k4⟩:=ih c1 (by omega) l3 _ d _ t henv wd md ht
      exact ⟨r2,c2,.caC h ho ha l1 (Wv t1) k1,by omega,k3,k4.back (by omega) rfl⟩
  ·obtain ⟨a,b,ha⟩:=QO h3
   have wa:=sb 0 a (by rw [ha];rfl)
   have wb:=sb 1 b (by rw [ha];rfl)
   have ma:=mem (i:=0) (a:=a) (by rw [ha];rfl)
   have mb:=mem (i:=1) (a:=b) (by rw [ha];rfl)
   have e2: ∀i,Wan p e i t=if i=0 then e.type_ else t:=fun i=>by unfold Wan;rw [if_neg (by omega),if_neg (by omega),if_neg (by omega),if_neg (by omega),if_neg (by omega),if_pos (by omega)]
   have et:=he.typ (by omega)
   rcases (show e.op=21∨e.op=22 by omega) with ho|ho
   ·have e1: ∀i,Win Γ e i=⟨e.name,e.type_,0⟩::Γ:=fun i=>by unfold Win;rw [if_pos (.inl ho)]
    rw [e1,e2] at wa wb
    have henv:EOK p L (⟨e.name,e.type_,0⟩::Γ) (.letrec e.name a ρ):= .letrec ⟨e.name,e.type_,0⟩ Γ a ρ wa ma et hρ
    obtain ⟨r2,c2,k1,k2,k3,k4⟩:=ih (c+1) (by omega) (by omega) _ b _ t henv wb mb ht
    exact ⟨r2,c2,.lt h ho ha k1,by omega,k3,k4.back (by omega) rfl⟩
   ·have e1:Win Γ e 0=Γ:=by unfold Win;rw [if_neg (by omega),if_neg (by omega)]
    have e1':Win Γ e 1=⟨e.name,e.type_,0⟩::Γ:=by unfold Win;rw [if_pos (.inr ⟨ho,rfl⟩)]
    rw [e1,e2] at wa
    rw [e1',e2] at wb
    obtain ⟨r1,c1,l1,l2,l3,l4⟩:=ih (c+1) (by omega) (by omega) Γ a ρ _ hρ wa ma et
    cases r1 with
    |error y=>exact ⟨_,c1,.stE h ho ha l1,by omega,l3,l4.err (by omega)⟩
    |ok x=>
     have henv:EOK p L (⟨e.name,e.type_,0⟩::Γ) (.bind e.name (.done x.plain x.head x.tail) ρ):= .bind ⟨e.name,e.type_,0⟩ Γ _ ρ l4.1 hρ
     obtain ⟨r2,c2,k1,k2,k3,k4⟩:=ih c1 (by omega) l3 _ b _ t henv wb mb ht
     exact ⟨r2,c2,.stV h ho ha l1 k1,by omega,k3,k4.back (by omega) rfl⟩
end
end Fth
namespace Fth
open Go
inductive Tg(p:AM)(m:Nat):Nat→Th→Except Int Aq→Nat→Prop
 |done {c:Nat} {x:Aq}:Tg p m c (.done x.plain x.head x.tail) (.ok x) c
 |later {c e ρ r c'} (h:Lk p m c e ρ r c'):Tg p m c (.later e ρ) r c'
inductive Wl(p:AM)(m:Nat):Nat→Th→Th→List (Nat×Nat)→Except Int AI→Nat→Prop
 |hE {c h t acc y c'} (hb:acc.length≤34000000000) (h1:Tg p m c h (.error y) c'):Wl p m c h t acc (.error y) c'
 |tE {c h t acc x c1 y c'} (hb:acc.length≤34000000000) (h1:Tg p m c h (.ok x) c1) (h2:Tg p m c1 t (.error y) c'):Wl p m c h t acc (.error y) c'
 |stop {c h t acc x c1 z c'} (hb:acc.length≤34000000000) (h1:Tg p m c h (.ok x) c1) (h2:Tg p m c1 t (.ok z) c') (hz:z.head.isNil=true):Wl p m c h t acc (.ok ⟨3,(0,0),false,acc++[x.plain.num]⟩) c'
 |go {c h t acc x c1 z c2 r c'} (hb:acc.length≤34000000000) (h1:Tg p m c h (.ok x) c1) (h2:Tg p m c1 t (.ok z) c2) (hz:z.head.isNil=false) (h3:Wl p m c2 z.head z.tail (acc++[x.plain.num]) r c'):Wl p m c h t acc r c'
inductive Wh(p:AM)(m:Nat):Nat→Aq→Except Int AI→Nat→Prop
 |plain {c x} (hx:x.head.isNil=true):Wh p m c x (.ok x.plain) c
 |list {c x r c'} (hx:x.head.isNil=false) (h:Wl p m c x.head x.tail [] r c'):Wh p m c x r c'
inductive Rn(p:AM)(m:Nat):AE→Nm→Except Int AI→Nat→Prop
 |err {e ρ y c'} (h:Lk p m 0 e ρ (.error y) c'):Rn p m e ρ (.error y) c'
 |val {e ρ x c1 r c'} (h:Lk p m 0 e ρ (.ok x) c1) (h2:Wh p m c1 x r c'):Rn p m e ρ r c'
def rwv:Except Int AI→Int
 | .ok _=>0
 | .error y=>y
section
variable{p:AM}{m:Nat}{mp:Ak}
theorem Yd{c:Nat}{h:Th}{r:Except Int Aq}{c':Nat}(ht:Tg p m c h r c'): ∀y,r= .error y→y≠0:=by
 cases ht with
 |done=>rintro y ⟨⟩
 |later h=>exact Oa h
theorem NZ(hp:WP p)(hmp:Mpp p mp)(hm:m≤16384){c:Nat}{h:Th}{r:Except Int Aq}{c':Nat}(ht:Tg p m c h r c'):Ev fun N=>mean_callth N p.funcs c m mp h=some (r,p.funcs,(c':Int),(m:Int)):=by
 cases ht with
 |done=>exact Ev.down 1 (Ev.all fun N=>rfl)
 |later h=>
  rename_i e ρ
  refine Ev.down 2 ((Uh hp hmp hm h).mono fun N hN=>?_)
  show ((mean_run_look N p.funcs c m mp e ρ).bind fun x29=>Iu x29.1 (fun y43=>some ((Except.error y43:Except Int Aq),x29.2.1,x29.2.2.1,x29.2.2.2)) fun r45=>some ((Except.ok r45:Except Int Aq),x29.2.1,x29.2.2.1,x29.2.2.2))=_
  rw [hN]
  exact OZ _ _
theorem PK(hp:WP p)(hm:m≤16384){c:Nat}{h:Th}{r:Except Int Aq}{c':Nat}(ht:Tg p m c h r c'):Ev fun N=>ref11_Machine_of N ⟨p,m,c,0⟩ h=some (rth r,⟨p,m,c',rwy r⟩):=by
 cases ht with
 |done=>exact Ev.down 1 (Ev.all fun N=>rfl)
 |later h=>
  rename_i e ρ
  refine Ev.down 1 ((V8 hp hm h).mono fun N hN=>?_)
  show ((ref11_Machine_look N ⟨p,m,c,0⟩ e ρ).bind fun x131=>some (x131.1,x131.2))=_
  rw [hN];rfl
theorem Zz{N:Nat}{c y:Int}{h:Th}(hy:y≠0):ref11_Machine_of (N+1) ⟨p,m,c,y⟩ h=some (h,⟨p,m,c,y⟩):=by
 show Ki _ N ⟨p,m,c,y⟩ h=_
 unfold Ki
 rw [show (((Al.mk p m c y).why != 0))=true by simpa using hy];rfl
theorem Sp{acc:List (Nat×Nat)}{z:Nat×Nat}(h:acc.length≤34000000000):Gd 16 acc [z]=some ():=by
 obtain ⟨u,hu,_⟩:=GS (b:=16) (xs:=acc) (ys:=[z]) (by decide) (by simp;omega)
 exact hu
theorem Z0(hp:WP p)(hmp:Mpp p mp)(hm:m≤16384){c:Nat}{h t:Th}{acc:List (Nat×Nat)}{r:Except Int AI}{c':Nat}(hw:Wl p m c h t acc r c')(hn:h.isNil=false):
  ∃k0,Ev fun N=>∀k,k0≤k→∀(a:Int) (b:Nat×Nat) (d:Bool) (l:List (Nat×Nat)),Di N mp k p.funcs c m a b d l h t acc=some (r,p.funcs,(c':Int),(m:Int)):=by
 induction hw with
 | @hE c h t acc y c' hb h1=>
  refine ⟨1,(NZ hp hmp hm h1).mono fun N hN k hk a b d l=>?_⟩
  obtain ⟨k,rfl⟩: ∃j,k=j+1:=⟨k - 1,by omega⟩
  show CP N mp (Di N mp k) p.funcs c m a b d l h t acc=_
  unfold CP
  rw [hn,hN];rfl
 | @tE c h t acc x c1 y c' hb h1 h2=>
  refine ⟨1,((NZ hp hmp hm h1).and (NZ hp hmp hm h2)).mono fun N hN k hk a b d l=>?_⟩
  obtain ⟨k,rfl⟩: ∃j,k=j+1:=⟨k - 1,by omega⟩
  show CP N mp (Di N mp k) p.funcs c m a b d l h t acc=_
  unfold CP
  rw [hn,hN.1]
  show ((Gd 16 acc [x.plain.num]).bind fun _=>(mean_callth N p.funcs c1 m mp t).bind fun x730=>_)=_
  rw [Sp hb,Option.bind_some,hN.2];rfl
 | @stop c h t acc x c1 z c' hb h1 h2 hz=>
  refine ⟨2,((NZ hp hmp hm h1).and (NZ hp hmp hm h2)).mono fun N hN k hk a b d l=>?_⟩
  obtain ⟨k,rfl⟩: ∃j,k=j+2:=⟨k - 2,by omega⟩
  show CP N mp (Di N mp (k+1)) p.funcs c m a b d l h t acc=_
  unfold CP
  rw [hn,hN.1]
  show ((Gd 16 acc [x.plain.num]).bind fun _=>(mean_callth N p.funcs c1 m mp t).bind fun x730=>_)=_
  rw [Sp hb,Option.bind_some,hN.2]
  show CP N mp (Di N mp k) p.funcs c' m z.plain.type_ z.plain.num z.plain.bool z.plain.list z.head z.tail (acc++[x.plain.num])=_
  unfold CP
  rw [hz];rfl
 | @go c h t acc x c1 z c2 r c' hb h1 h2 hz _ ih=>
  obtain ⟨k0,ih⟩:=ih hz
  refine ⟨k0+1,(((NZ hp hmp hm h1).and (NZ hp hmp hm h2)).and ih).mono fun N hN k hk a b d l=>?_⟩
  obtain ⟨k,rfl⟩: ∃j,k=j+1:=⟨k - 1,by omega⟩
  show CP N mp (Di N mp k) p.funcs c m a b d l h t acc=_
  unfold CP
  rw [hn,hN.1.1]
  show ((Gd 16 acc [x.plain.num]).bind fun _=>(mean_callth N p.funcs c1 m mp t).bind fun x730=>_)=_
  rw [Sp hb,Option.bind_some,hN.1.2]
  exact hN.2 k (by omega) _ _ _ _
theorem Z1(hp:WP p)(hmp:Mpp p mp)(hm:m≤16384){c:Nat}{x:Aq}{r:Except Int AI}{c':Nat}(hw:Wh p m c x r c'):Ev fun N=>D1 N p.funcs c m mp x=some (r,p.funcs,(c':Int),(m:Int)):=by
 cases hw with
 |plain hx=>
  refine Ev.all fun N=>?_
  unfold D1
  rw [hx];rfl
 |list hx h=>
  obtain ⟨k0,h⟩:=Z0 hp hmp hm h hx
  refine (h.and (Ls k0)).mono fun N hN=>?_
  unfold D1
  rw [hx]
  exact hN.1 N hN.2 _ _ _ _
theorem ABb(hp:WP p)(hm:m≤16384){c:Nat}{h t:Th}{acc:List (Nat×Nat)}{r:Except Int AI}{c':Nat}(hw:Wl p m c h t acc r c')(hn:h.isNil=false):
  ∃k0,Ev fun N=>∀k,k0≤k→∀(pl:AI),∃v,CA N k (.done pl h t) p.funcs m c 0 acc=some (v,⟨p,m,c',rwv r⟩)∧∀u,r= .ok u→v=u:=by
 induction hw with
 | @hE c h t acc y c' hb h1=>
  have hy:=Yd h1 y rfl
  refine ⟨2,Ev.down 1 (((PK hp hm h1).up 1).mono fun N hN k hk pl=>?_)⟩
  obtain ⟨k,rfl⟩: ∃j,k=j+2:=⟨k - 2,by omega⟩
  refine ⟨⟨3,(0,0),false,acc++[NB.num]⟩,?_,fun u h=>by cases h⟩
  show Bw (N+1) (.done pl h t) p.funcs m c 0 acc (CA (N+1) (k+1)) (!h.isNil)=_
  unfold Bw
  rw [hn]
  show ((ref11_Machine_of (N+1) ⟨p,m,c,0⟩ h).bind fun x764=>_)=_
  rw [hN]
  show ((Gd 16 acc [NB.num]).bind fun _=>(ref11_Machine_of (N+1) ⟨p,m,c',y⟩ t).bind fun x901=>_)=_
  rw [Sp hb,Option.bind_some,Zz hy,Option.bind_some]
  show D2 (N+1) (CA (N+1) k) t p.funcs m c' y (acc++[NB.num])=_
  unfold D2
  rw [show (y==0)=false by simpa using hy];rfl
 | @tE c h t acc x c1 y c' hb h1 h2=>
  have hy:=Yd h2 y rfl
  refine ⟨2,(((PK hp hm h1).and (PK hp hm h2)).mono fun N hN k hk pl=>?_)⟩
  obtain ⟨k,rfl⟩: ∃j,k=j+2:=⟨k - 2,by omega⟩
  refine ⟨⟨3,(0,0),false,acc++[x.plain.num]⟩,?_,fun u h=>by cases h⟩
  show Bw N (.done pl h t) p.funcs m c 0 acc (CA N (k+1)) (!h.isNil)=_
  unfold Bw
  rw [hn]
  show ((ref11_Machine_of N ⟨p,m,c,0⟩ h).bind fun x764=>_)=_
  rw [hN.1]
  show ((Gd 16 acc [x.plain.num]).bind fun _=>(ref11_Machine_of N ⟨p,m,c1,0⟩ t).bind fun x901=>_)=_
  rw [Sp hb,Option.bind_some,hN.2,Option.bind_some]
  show D2 N (CA N k) th0 p.funcs m c' y (acc++[x.plain.num])=_
  unfold D2
  rw [show (y==0)=false by simpa using hy];rfl
 | @stop c h t acc x c1 z c' hb h1 h2 hz=>
  refine ⟨2,(((PK hp hm h1).and (PK hp hm h2)).mono fun N hN k hk pl=>?_)⟩
  obtain ⟨k,rfl⟩: ∃j,k=j+2:=⟨k - 2,by omega⟩
  refine ⟨⟨3,(0,0),false,acc++[x.plain.num]⟩,?_,fun u h=>by cases h;rfl⟩
  show Bw N (.done pl h t) p.funcs m c 0 acc (CA N (k+1)) (!h.isNil)=_
  unfold Bw
  rw [hn]
  show ((ref11_Machine_of N ⟨p,m,c,0⟩ h).bind fun x764=>_)=_
  rw [hN.1]
  show ((Gd 16 acc [x.plain.num]).bind fun _=>(ref11_Machine_of N ⟨p,m,c1,0⟩ t).bind fun x901=>_)=_
  rw [Sp hb,Option.bind_some,hN.2,Option.bind_some]
  show Bw N (.done z.plain z.head z.tail) p.funcs m c' 0 (acc++[x.plain.num]) (CA N k) (!z.head.isNil)=_
  unfold Bw
  rw [hz];rfl
 | @go c h t acc x c1 z c2 r c' hb h1 h2 hz _ ih=>
  obtain ⟨k0,ih⟩:=ih hz
  refine ⟨k0+1,((((PK hp hm h1).and (PK hp hm h2)).and ih).mono fun N hN k hk pl=>?_)⟩
  obtain ⟨k,rfl⟩: ∃j,k=j+1:=⟨k - 1,by omega⟩
  obtain ⟨v,hv,hv'⟩:=hN.2 k (by omega) z.plain
  refine ⟨v,?_,hv'⟩
  show Bw N (.done pl h t) p.funcs m c 0 acc (CA N k) (!h.isNil)=_
  unfold Bw
  rw [hn]
  show ((ref11_Machine_of N ⟨p,m,c,0⟩ h).bind fun x764=>_)=_
  rw [hN.1.1]
  show ((Gd 16 acc [x.plain.num]).bind fun _=>(ref11_Machine_of N ⟨p,m,c1,0⟩ t).bind fun x901=>_)=_
  rw [Sp hb,Option.bind_some,hN.1.2]
  exact hv
theorem ABc(hp:WP p)(hm:m≤16384){c:Nat}{x:Aq}{r:Except Int AI}{c':Nat}(hw:Wh p m c x r c'):Ev fun N=>∃v,Hk N ⟨p,m,c,0⟩ (.done x.plain x.head x.tail)=some (v,⟨p,m,c',rwv r⟩)∧∀u,r= .ok u→v=u:=by
 cases hw with
 |plain hx=>
  refine Ev.all fun N=>⟨x.plain,?_,fun u h=>by cases h;rfl⟩
  show GO N ⟨p,m,c,0⟩ (.done x.plain x.head x.tail) (!!x.head.isNil)=_
  rw [hx];rfl
 |list hx h=>
  obtain ⟨k0,h⟩:=ABb hp hm h hx
  refine (h.and (Ls k0)).mono fun N hN=>?_
  obtain ⟨v,hv,hv'⟩:=hN.1 N hN.2 x.plain
  refine ⟨v,?_,hv'⟩
  show GO N ⟨p,m,c,0⟩ (.done x.plain x.head x.tail) (!!x.head.isNil)=_
  rw [hx]
  exact hv
def Rv(m:Nat)(t:Int)(r:Except Int AI)(c':Nat):Prop:=
 match r with
 | .ok v=>VV t v∧0<c'∧v.list.length≤34000000001
 | .error y=>(y=60∧c'=m)∨((y=50∨y=51∨y=52)∧0<c')
variable{L:Nat}
theorem QP(hp:WP p)(hS: ∀f∈p.funcs,WTy p f.params.reverse f.body f.type_)(hL:1≤L){c:Nat}(hc:c≤m){t:Int}{h:Th}(ht:TOK p L t h):
  ∃r c',Tg p m c h r c'∧c≤c'∧c'≤m∧(∀y,r= .error y→(y=60∧c'=m)∨((y=50∨y=51∨y=52)∧c<c'))∧(∀x,r= .ok x→TOK p L t (.done x.plain x.head x.tail)∧(c<c'∨(c'=c∧ch x.tail<ch h))):=by
 cases ht with
 |val _ v hv h3=>exact ⟨_,_,.done (x:=⟨v,.nil,.nil⟩),by omega,hc,fun y h=>(by cases h),fun x h=>by cases h;exact ⟨.val t v hv h3,.inr ⟨rfl,by simp [ch]⟩⟩⟩
 |pair a b h1 h2 h3=>exact ⟨_,_,.done (x:=⟨v0,a,b⟩),by omega,hc,fun y h=>(by cases h),fun x h=>by cases h;exact ⟨.pair a b h1 h2 h3,.inr ⟨rfl,by simp [ch]⟩⟩⟩
 |later Γ ρ e _ he hw hwe ht=>
  obtain ⟨r,c',l1,l2,l3,l4⟩:=Yc hp hS hL (m - c) c (by omega) hc Γ e ρ t he hw hwe ht
  refine ⟨r,c',.later l1,l2,l3,fun y h=>?_,fun x h=>?_⟩
  ·subst h;exact l4
  ·subst h;exact ⟨l4.1,.inl l4.2⟩
theorem ABd(hp:WP p)(hS: ∀f∈p.funcs,WTy p f.params.reverse f.body f.type_)(hL:1≤L): ∀(k n c:Nat) (h t:Th) (acc:List (Nat×Nat)),m - c≤k→ch t≤n→c≤m→TOK p L 1 h→TOK p L 3 t→acc.length+ch t+(L+1)*(m - c)≤34000000000→(∀z∈acc,Gn z)→
  ∃r c',Wl p m c h t acc r c'∧c≤c'∧c'≤m∧(∀y,r= .error y→(y=60∧c'=m)∨((y=50∨y=51∨y=52)∧c<c'))∧∀v,r= .ok v→VV 3 v∧v.list.length≤34000000001:=by
 intro k
 induction k with
 |zero=>
  intro n
  induction n with
  |zero=>
   intro c h t acc hk hn hc h1 h3 hb hg
   obtain ⟨r,c1,t1,t2,t3,t4,t5⟩:=QP hp hS hL hc h1
   cases r with
   |error y=>exact ⟨_,c1,.hE (by omega) t1,t2,t3,fun z hz=>by cases hz;exact t4 y rfl,fun v hv=>by cases hv⟩
   |ok x=>
    have hc1:c1=c:=by omega
    obtain ⟨r2,c2,s1,s2,s3,s4,s5⟩:=QP hp hS hL t3 h3
    cases r2 with
    |error y=>exact ⟨_,c2,.tE (by omega) t1 s1,by omega,s3,fun z hz=>by cases hz;rw [hc1] at s4;exact s4 y rfl,fun v hv=>by cases hv⟩
    |ok z=>have:=(s5 z rfl).2;omega
  |succ n ih=>
   intro c h t acc hk hn hc h1 h3 hb hg
   obtain ⟨r,c1,t1,t2,t3,t4,t5⟩:=QP hp hS hL hc h1
   cases r with
   |error y=>exact ⟨_,c1,.hE (by omega) t1,t2,t3,fun z hz=>by cases hz;exact t4 y rfl,fun v hv=>by cases hv⟩
   |ok x=>
    have hc1:c1=c:=by omega
    have vx:=Pn (t5 x rfl).1 (by decide)
    obtain ⟨a,ha,hae⟩:=vv1 vx
    have gx:Gn x.plain.num:=by rw [hae];exact .of ha
    obtain ⟨r2,c2,s1,s2,s3,s4,s5⟩:=QP hp hS hL t3 h3
    cases r2 with
    |error y=>exact ⟨_,c2,.tE (by omega) t1 s1,by omega,s3,fun z hz=>by cases hz;rw [hc1] at s4;exact s4 y rfl,fun v hv=>by cases hv⟩
    |ok z=>
     have s6:=s5 z rfl
     have hg': ∀w∈acc++[x.plain.num],Gn w:=fun w hw=>by
      rcases List.mem_append.1 hw with hw|hw
      ·exact hg w hw
      ·simp at hw;subst hw;exact gx
     obtain ⟨zp,zh,zt⟩:=z
     cases hz:zh.isNil
     ·have hp2:TOK p L 1 zh∧TOK p L 3 zt:=by
       have:=s6.1
       simp only at this
       generalize (3:Int)=T3 at this
       cases this with
       |val=>cases hz
       |pair _ _ a b _=>exact ⟨a,b⟩
      have hch:ch zt<ch t:=by have:=s6.2;simp only at this;omega
      obtain ⟨r,c',w1,w2,w3,w4,w5⟩:=ih c2 zh zt (acc++[x.plain.num]) (by omega) (by omega) s3 hp2.1 hp2.2 (by rw [List.length_append,List.length_singleton,show m - c2=m - c by omega];omega) hg'
      exact ⟨r,c',.go (by omega) t1 s1 hz w1,by omega,w3,fun y hy=>(w4 y hy).imp id fun h=>⟨h.1,by omega⟩,w5⟩
     ·exact ⟨_,c2,.stop (by omega) t1 s1 hz,by omega,s3,fun y h=>(by cases h),fun v hv=>by cases hv;exact ⟨.inr (.inr ⟨rfl,rfl,rfl,rfl,hg'⟩),by simp;omega⟩⟩
 |succ k ihk=>
  intro n
  induction n using Nat.strongRecOn with
  |ind n ih=>
   intro c h t acc hk hn hc h1 h3 hb hg
   obtain ⟨r,c1,t1,t2,t3,t4,t5⟩:=QP hp hS hL hc h1
   cases r with
   |error y=>exact ⟨_,c1,.hE (by omega) t1,t2,t3,fun z hz=>by cases hz;exact t4 y rfl,fun v hv=>by cases hv⟩
   |ok x=>
    have vx:=Pn (t5 x rfl).1 (by decide)
    obtain ⟨a,ha,hae⟩:=vv1 vx
    have gx:Gn x.plain.num:=by rw [hae];exact .of ha
    obtain ⟨r2,c2,s1,s2,s3,s4,s5⟩:=QP hp hS hL t3 h3
    cases r2 with
    |error y=>exact ⟨_,c2,.tE (by omega) t1 s1,by omega,s3,fun z hz=>by cases hz;exact (s4 y rfl).imp id fun h=>⟨h.1,by omega⟩,fun v hv=>by cases hv⟩
    |ok z=>
     have s6:=s5 z rfl
     have hg': ∀w∈acc++[x.plain.num],Gn w:=fun w hw=>by
      rcases List.mem_append.1 hw with hw|hw
      ·exact hg w hw
      ·simp at hw;subst hw;exact gx
     obtain ⟨zp,zh,zt⟩:=z
     cases hz:zh.isNil
     ·have hp2:TOK p L 1 zh∧TOK p L 3 zt∧ch zt<L:=by
       have:=s6.1
       simp only at this
       generalize (3:Int)=T3 at this
       cases this with
       |val=>cases hz
       |pair _ _ a b c=>exact ⟨a,b,c⟩
      rcases Nat.lt_or_ge c c2 with hlt|hge
      ·have hmul:(L+1)*(m - c2)+(L+1)≤(L+1)*(m - c):=by
        have:=Nat.mul_le_mul_left (L+1) (show m - c2+1≤m - c by omega)
        rw [Nat.mul_add,Nat.mul_one] at this;exact this
       obtain ⟨r,c',w1,w2,w3,w4,w5⟩:=ihk (ch zt) c2 zh zt (acc++[x.plain.num]) (by omega) (by omega) s3 hp2.1 hp2.2.1 (by rw [List.length_append,List.length_singleton];omega) hg'
       exact ⟨r,c',.go (by omega) t1 s1 hz w1,by omega,w3,fun y hy=>(w4 y hy).imp id fun h=>⟨h.1,by omega⟩,w5⟩
      ·have hch:ch zt<ch t:=by have:=s6.2;simp only at this;omega
       obtain ⟨r,c',w1,w2,w3,w4,w5⟩:=ih (ch zt) (by omega) c2 zh zt (acc++[x.plain.num]) (by omega) (by omega) s3 hp2.1 hp2.2.1 (by rw [List.length_append,List.length_singleton,show m - c2=m - c by omega];omega) hg'
       exact ⟨r,c',.go (by omega) t1 s1 hz w1,by omega,w3,fun y hy=>(w4 y hy).imp id fun h=>⟨h.1,by omega⟩,w5⟩
     ·exact ⟨_,c2,.stop (by omega) t1 s1 hz,by omega,s3,fun y h=>(by cases h),fun v hv=>by cases hv;exact ⟨.inr (.inr ⟨rfl,rfl,rfl,rfl,hg'⟩),by simp;omega⟩⟩
theorem ABe(hp:WP p)(hS: ∀f∈p.funcs,WTy p f.params.reverse f.body f.type_)(hL:1≤L)(hL2:L≤1100000)(hm:m≤16384){Γ:List AH}{e:AE}{ρ:Nm}{t:Int}(he:EOK p L Γ ρ)(hw:WTy p Γ e t)(hwe:WE e)(ht:1≤t∧t≤3):
  ∃r c',Rn p m e ρ r c'∧c'≤m∧Rv m t r c':=by
 obtain ⟨r,c1,l1,l2,l3,l4⟩:=Yc hp hS hL (m - 0) 0 (Nat.le_refl _) (Nat.zero_le _) Γ e ρ t he hw hwe ht
 cases r with
 |error y=>exact ⟨_,c1,.err l1,l3,l4⟩
 |ok x=>
  obtain ⟨xp,xh,xt⟩:=x
  obtain ⟨h4,h5⟩:=l4
  simp only at h4
  cases hz:xh.isNil
  ·generalize hT:t=T at h4
   cases h4 with
   |val=>cases hz
   |pair _ _ a b hc=>
    subst hT
    have hmul:(L+1)*(m - c1)≤1100001*16384:=Nat.mul_le_mul (by omega) (by omega)
    obtain ⟨r,c',w1,w2,w3,w4,w5⟩:=ABd hp hS hL (m - c1) (ch xt) c1 xh xt [] (Nat.le_refl _) (Nat.le_refl _) l3 a b (by simp only [List.length_nil];omega) (by simp)
    refine ⟨r,c',.val l1 (.list hz w1),w3,?_⟩
    cases r with
    |ok v=>exact ⟨(w5 v rfl).1,by omega,(w5 v rfl).2⟩
    |error y=>exact (w4 y rfl).imp id fun h=>⟨h.1,by omega⟩
  ·generalize hT:t=T at h4
   cases h4 with
   |val _ v hv h3=>
    have hn:xp.list=[]:=by
     rcases hv with ⟨_,_,_,_,h⟩| ⟨_,_,_,h⟩| ⟨h,_⟩
     ·exact h
     ·exact h
     ·exact h3 h
    exact ⟨_,c1,.val l1 (.plain hz),l3,hv,h5,by simp only;rw [hn];simp⟩
   |pair _ _ a b hc=>rw [Wv a] at hz;cases hz
end
end Fth
namespace Fth
open Go
def E2(p:Nat→Nat→Prop):Prop:=∃n,∀N k,n≤N→n≤k→p N k
theorem E2.and{p q:Nat→Nat→Prop}(hp:E2 p)(hq:E2 q):E2 fun N k=>p N k∧q N k:=by
 obtain ⟨n,hn⟩:=hp;obtain ⟨m,hm⟩:=hq
 exact ⟨n+m,fun N k h h'=>⟨hn N k (by omega) (by omega),hm N k (by omega) (by omega)⟩⟩
theorem E2.mono{p q:Nat→Nat→Prop}(hp:E2 p)(h: ∀N k,p N k→q N k):E2 q:=let ⟨n,hn⟩:=hp;⟨n,fun N k a b=>h N k (hn N k a b)⟩
theorem E2.of{p:Nat→Prop}(h:Ev p):E2 fun N _=>p N:=let ⟨n,hn⟩:=h;⟨n,fun N _ a _=>hn N a⟩
theorem E2.diag{p:Nat→Nat→Prop}(h:E2 p):Ev fun N=>p N N:=let ⟨n,hn⟩:=h;⟨n,fun N a=>hn N N a a⟩
theorem Ye{p:Nat→Nat→Prop}(h:E2 fun N k=>p N (k+1)):E2 p:=by
 obtain ⟨n,hn⟩:=h
 refine ⟨n+1,fun N k a b=>?_⟩
 obtain ⟨j,rfl⟩: ∃j,k=j+1:=⟨k - 1,by omega⟩
 exact hn N j (by omega) (by omega)
def ET{α:Type}(f:Nat→Option α)(Q:α→Prop):Prop:=∃r,Q r∧Ev fun N=>f N=some r
def EL{α:Type}(f:Nat→Nat→Option α)(Q:α→Prop):Prop:=∃r,Q r∧E2 fun N k=>f N k=some r
section
variable{α β:Type}
theorem ET.of{x:Option α}{Q:α→Prop}(h:T x Q):ET (fun _=>x) Q:=by obtain ⟨r,e,h⟩:=h;exact ⟨r,h,Ev.all fun _=>e⟩
theorem ET.some{r:α}{Q:α→Prop}(h:Q r):ET (fun _=>Option.some r) Q:=⟨r,h,Ev.all fun _=>rfl⟩
theorem ET.bind{f:Nat→Option α}{g:Nat→α→Option β}{P:α→Prop}{Q:β→Prop}(h:ET f P)(k: ∀a,P a→ET (fun N=>g N a) Q):ET (fun N=>(f N).bind (g N)) Q:=by
 obtain ⟨a,ha,hE⟩:=h
 obtain ⟨b,hb,hE2⟩:=k a ha
 exact ⟨b,hb,(hE.and hE2).mono fun N h=>by show (f N).bind (g N)=_;rw [h.1];exact h.2⟩
theorem ET.cond{c:Bool}{f g:Nat→Option α}{Q:α→Prop}(h1:c=true→ET f Q)(h2:c=false→ET g Q):ET (fun N=>bif c then f N else g N) Q:=by
 cases c
 ·exact h2 rfl
 ·exact h1 rfl
theorem ET.mono{f:Nat→Option α}{P Q:α→Prop}(h:ET f P)(k: ∀a,P a→Q a):ET f Q:=let ⟨r,hr,e⟩:=h;⟨r,k r hr,e⟩
theorem ET.down{f:Nat→Option α}{Q:α→Prop}(h:ET (fun N=>f (N+1)) Q):ET f Q:=let ⟨r,hr,e⟩:=h;⟨r,hr,Ev.down 1 e⟩
theorem ET.cg{f g:Nat→Option α}{Q:α→Prop}(h:ET f Q)(e: ∀N,g N=f N):ET g Q:=by
 have:g=f:=funext e
 rw [this];exact h
theorem Qb{f:Nat→Option α}{Q:α→Prop}(n:Nat)(h: ∃r,Q r∧∀N,n≤N→f N=Option.some r):ET f Q:=let ⟨r,hr,e⟩:=h;⟨r,hr,⟨n,e⟩⟩
theorem EL.bind{f:Nat→Option α}{g:Nat→Nat→α→Option β}{P:α→Prop}{Q:β→Prop}(h:ET f P)(k: ∀a,P a→EL (fun N k=>g N k a) Q):EL (fun N k=>(f N).bind (g N k)) Q:=by
 obtain ⟨a,ha,hE⟩:=h
 obtain ⟨b,hb,hE2⟩:=k a ha
 exact ⟨b,hb,((E2.of hE).and hE2).mono fun N k h=>by show (f N).bind (g N k)=_;rw [h.1];exact h.2⟩
theorem EL.cond{c:Bool}{f g:Nat→Nat→Option α}{Q:α→Prop}(h1:c=true→EL f Q)(h2:c=false→EL g Q):EL (fun N k=>bif c then f N k else g N k) Q:=by
 cases c
 ·exact h2 rfl
 ·exact h1 rfl
theorem ET.eq{x:Option α}{a:α}{g:Nat→α→Option β}{Q:β→Prop}(h:x=Option.some a)(k:ET (fun N=>g N a) Q):ET (fun N=>x.bind (g N)) Q:=by subst h;exact k
theorem EL.eq{x:Option α}{a:α}{g:Nat→Nat→α→Option β}{Q:β→Prop}(h:x=Option.some a)(k:EL (fun N k=>g N k a) Q):EL (fun N k=>x.bind (g N k)) Q:=by subst h;exact k
theorem ET.tb{x:Option α}{g:Nat→α→Option β}{P:α→Prop}{Q:β→Prop}(h:T x P)(k: ∀a,P a→ET (fun N=>g N a) Q):ET (fun N=>x.bind (g N)) Q:=by obtain ⟨a,e,ha⟩:=h;exact .eq e (k a ha)
theorem EL.tb{x:Option α}{g:Nat→Nat→α→Option β}{P:α→Prop}{Q:β→Prop}(h:T x P)(k: ∀a,P a→EL (fun N k=>g N k a) Q):EL (fun N k=>x.bind (g N k)) Q:=by obtain ⟨a,e,ha⟩:=h;exact .eq e (k a ha)
theorem EL.of{f:Nat→Option α}{Q:α→Prop}(h:ET f Q):EL (fun N _=>f N) Q:=let ⟨r,hr,e⟩:=h;⟨r,hr,E2.of e⟩
theorem EL.some{r:α}{Q:α→Prop}(h:Q r):EL (fun _ _=>Option.some r) Q:=⟨r,h,⟨0,fun _ _ _ _=>rfl⟩⟩
theorem EL.down{f:Nat→Nat→Option α}{Q:α→Prop}(h:EL (fun N k=>f N (k+1)) Q):EL f Q:=let ⟨r,hr,e⟩:=h;⟨r,hr,Ye e⟩
theorem EL.diag{f:Nat→Nat→Option α}{Q:α→Prop}(h:EL f Q):ET (fun N=>f N N) Q:=let ⟨r,hr,e⟩:=h;⟨r,hr,e.diag⟩
theorem EL.mono{f:Nat→Nat→Option α}{P Q:α→Prop}(h:EL f P)(k: ∀a,P a→Q a):EL f Q:=let ⟨r,hr,e⟩:=h;⟨r,k r hr,e⟩
end
theorem To{s:List UInt8}: ∀(m:Ak) (i j:Nat),(Kl s m i).map (·.2)=(Kl s m j).map (·.2):=by
 intro m
 induction m with
 |nil=>intro i j;rfl
 |cons x m ih=>
  intro i j
  obtain ⟨k,v⟩:=x
  simp only [Kl]
  cases (s==k)
  ·exact ih _ _
  ·rfl
theorem VL(m:Ak)(s:List UInt8):CR m s=((Kl s m 0).map (·.2)).getD 0:=by
 unfold CR
 cases Kl s m 0<;>rfl
theorem Sq(s:List UInt8):CR [] s=0:=rfl
theorem M8(k:List UInt8)(v:Int)(m:Ak)(s:List UInt8):CR ((k,v)::m) s=bif s==k then v else CR m s:=by
 rw [VL,VL]
 simp only [Kl]
 cases (s==k)
 ·simp only [cond_false];rw [To m 1 0]
 ·rfl
theorem VM(m:Ak)(s:List UInt8):Nf m s=((Kl s m 0).map (·.2)).isSome:=by
 unfold Nf
 cases Kl s m 0<;>rfl
theorem M9(k:List UInt8)(v:Int)(m:Ak)(s:List UInt8):Nf ((k,v)::m) s=bif s==k then true else Nf m s:=by
 rw [VM,VM]
 simp only [Kl]
 cases (s==k)
 ·simp only [cond_false];rw [To m 1 0]
 ·rfl
theorem L1(s:List UInt8)(v:Int)(m:Ak)(t:List UInt8):CR (LF s v m) t=bif t==s then v else CR m t:=by
 induction m with
 |nil=>exact M8 s v [] t
 |cons x m ih=>
  obtain ⟨k,u⟩:=x
  rw [LF]
  cases h:(s==k)
  ·rw [cond_false,M8,M8,ih]
   cases h1:(t==k)
   ·rfl
   ·have:t=k:=by simpa using h1
    have h2:(t==s)=false:=by
     rw [this];simp only [beq_eq_false_iff_ne,ne_eq] at h ⊢;exact fun e=>h e.symm
    rw [h2];rfl
  ·have e:s=k:=by simpa using h
   subst e
   rw [cond_true,M8,M8]
   cases (t==s)<;>rfl
theorem XN(s:List UInt8)(v:Int)(m:Ak)(t:List UInt8):Nf (LF s v m) t=bif t==s then true else Nf m t:=by
 induction m with
 |nil=>exact M9 s v [] t
 |cons x m ih=>
  obtain ⟨k,u⟩:=x
  rw [LF]
  cases h:(s==k)
  ·rw [cond_false,M9,M9,ih]
   cases h1:(t==k)
   ·rfl
   ·have:t=k:=by simpa using h1
    have h2:(t==s)=false:=by
     rw [this];simp only [beq_eq_false_iff_ne,ne_eq] at h ⊢;exact fun e=>h e.symm
    rw [h2];rfl
  ·have e:s=k:=by simpa using h
   subst e
   rw [cond_true,M9,M9]
   cases (t==s)<;>rfl
end Fth
namespace Fth
open Go
def bnd(e:AE)(i:Nat):List (List UInt8):=if e.op=21∨(e.op=22∧i=1) then [e.name] else if e.op=20∧i=2 then [e.name,e.tail] else []
def Jq(p:AM)(e:AE):Prop:=e.op=7→∃f,hd p e.name=some f∧f.params.length=e.args.length
inductive Sc(p:AM):(List UInt8→Prop)→AE→Prop
 |mk (B:List UInt8→Prop) (e:AE) (hv:e.op=6→B e.name) (hc:Jq p e) (hs: ∀i a,e.args[i]?=some a→Sc p (fun s=>s∈bnd e i∨B s) a):Sc p B e
theorem Yf{p:AM}{B:List UInt8→Prop}{e:AE}:Sc p B e↔(e.op=6→B e.name)∧Jq p e∧∀i a,e.args[i]?=some a→Sc p (fun s=>s∈bnd e i∨B s) a:=
 ⟨fun h=>by cases h with |mk _ _ a b c=>exact ⟨a,b,c⟩,fun h=> .mk B e h.1 h.2.1 h.2.2⟩
def FN(p:AM):Prop:=∀i f,p.funcs[i]?=some f→f.name∉(p.funcs.take i).map (·.name)
def PN(f:AK):Prop:=∀i x,f.params[i]?=some x→x.name∉(f.params.take i).map (·.name)
def Z2(p:AM):Prop:=FN p∧∀f∈p.funcs,PN f∧Sc p (fun s=>s∈f.params.map (·.name)) f.body
def Pl(p:AM)(mp:Ak):Prop:=∀nm,(hd p nm=none∧CR mp nm=0)∨∃(i:Nat) (f:AK),p.funcs[i]?=some f∧hd p nm=some f∧CR mp nm=(i:Int)+1
theorem Pp{y a:Int}{flt:AD}(hy:y≠0):T (Dm y a flt) fun r=>r.why≠0:=by
 unfold Dm I2
 exact T.cond (fun _=>T.cond (fun _=> .some hy) fun h=>by cases h) fun h=>T.cond (fun _=> .some hy) fun _=> .some (Bh h)
section
variable{p:AM}{mpl:Ak}(hpl:Pl p mpl)(hlen:p.funcs.length≤1000000)
include hpl hlen
theorem Yg{e:AE}{mi:Ak}{flt:AD}:T (Fb e mi mpl flt p) fun r=>r.why=0↔flt.why=0∧(e.op=6→CR mi e.name≠0)∧Jq p e:=by
 have j3: ∀b,(e.op≠6)→(b=false↔Jq p e)→T (Gk e flt b) fun r=>r.why=0↔flt.why=0∧(e.op=6→CR mi e.name≠0)∧Jq p e:=by
  intro b h6 hb
  unfold Gk
  refine T.cond (fun h=>T.bind (Pp (by decide)) fun r hr=> .some ?_) fun h=> .some ?_
  ·subst h
   exact ⟨fun h=>absurd h hr,fun h=>by have:=hb.2 h.2.2;cases this⟩
  ·subst h
   exact ⟨fun h=>⟨h,fun h'=>absurd h' h6,hb.1 rfl⟩,fun h=>h.1⟩
 have j2:e.op≠6→e.op≠7→T (Fx e mpl flt p false) fun r=>r.why=0↔flt.why=0∧(e.op=6→CR mi e.name≠0)∧Jq p e:=by
  intro h6 h7
  unfold Fx
  refine T.cond (fun h=>by cases h) fun _=>T.cond (fun h=>absurd (B7 h) h7) fun _=>j3 _ h6 ⟨fun _ h=>absurd h h7,fun _=>rfl⟩
 have j1:e.op≠6→T (Gl e mpl flt p false) fun r=>r.why=0↔flt.why=0∧(e.op=6→CR mi e.name≠0)∧Jq p e:=by
  intro h6
  unfold Gl
  refine T.cond (fun h=>by cases h) fun _=>T.cond (fun h=>?_) fun h=>j2 h6 (Bh h)
  have h7:=B7 h
  unfold Fx
  rcases hpl e.name with ⟨hn,h0⟩| ⟨i,f,hi,hf,hm⟩
  ·rw [h0]
   refine T.cond (fun _=>T.bind (Pp (by decide)) fun r hr=> .some ⟨fun h=>absurd h hr,fun h=>?_⟩) fun h=>by cases h
   obtain ⟨f,hf,_⟩:=h.2.2 h7
   rw [hn] at hf;cases hf
  ·rw [hm]
   have hil:=(List.getElem?_eq_some_iff.1 hi).1
   refine T.cond (fun h=>by have:=B7 h;omega) fun _=>T.cond (fun _=>?_) fun h=>absurd h7 (Bh h)
   rw [wr (x:=(i:Int)+1 - 1) (by omega) (by omega),show (i:Int)+1 - 1=(i:Int) by omega]
   refine T.eq (CD hi) (j3 _ h6 ⟨fun h _=>⟨f,hf,?_⟩,fun h=>?_⟩)
   ·have:=JK h;omega
   ·obtain ⟨g,hg,hl⟩:=h h7
    rw [hf] at hg;cases hg
    simp;omega
 unfold Fb
 refine T.cond (fun h=>?_) fun h=>j1 (Bh h)
 have h6:=B7 h
 unfold Gl
 refine T.cond (fun h=>T.bind (Pp (by decide)) fun r hr=> .some ⟨fun h=>absurd h hr,fun h'=>absurd (B7 h) (h'.2.1 h6)⟩) fun h=>T.cond (fun h=>by have:=B7 h;omega) fun h7=>?_
 unfold Fx
 refine T.cond (fun h=>by cases h) fun _=>T.cond (fun h=>by have:=B7 h;omega) fun _=>?_
 unfold Gk
 refine T.cond (fun h=>by cases h) fun _=> .some ⟨fun h'=>⟨h',fun _=>Bh h,fun h7=>by omega⟩,fun h=>h.1⟩
omit hpl hlen in
theorem Ww(e:AE)(i:Nat):HJ e (i:Int)=some (bnd e i):=by
 unfold HJ I3 Jv bnd
 have e1:((i:Int)==1)=decide (i=1):=by rw [Bool.eq_iff_iff];simp;omega
 have e2:((i:Int)==2)=decide (i=2):=by rw [Bool.eq_iff_iff];simp;omega
 rw [e1,e2]
 cases h1:(e.op==21)
 ·have h1:=Bh h1
  cases h2:(e.op==22)
  ·have h2:=Bh h2
   rw [if_neg (by omega)]
   cases h3:(e.op==20)
   ·have h3:=Bh h3
    rw [if_neg (by omega)];rfl
   ·have h3:=B7 h3
    cases h4:decide (i=2)
    ·have h4:=Dn h4;rw [if_neg (by omega)];rfl
    ·have h4:=CN h4;rw [if_pos ⟨h3,h4⟩];rfl
  ·have h2:=B7 h2
   cases h3:decide (i=1)
   ·have h3:=Dn h3
    rw [if_neg (by omega),if_neg (by omega),show (e.op==20)=false by simp;omega];rfl
   ·have h3:=CN h3
    rw [if_pos (.inr ⟨h2,h3⟩)];rfl
 ·have h1:=B7 h1
  rw [if_pos (.inl h1)];rfl
omit hpl hlen in
theorem Z3(e:AE)(i:Nat):Hy e (i:Int)=some (bnd e i):=Ww e i
omit hpl hlen in
theorem Wx(e:AE)(i:Nat):(bnd e i).length≤2:=by
 unfold bnd;split
 ·simp
 ·split<;>simp
theorem Z4: ∀(n:Nat) (e:AE),EY e≤n→∀(C:List (List UInt8)) (mi:Ak) (flt:AD),(∀s,CR mi s=(C.count s:Int))→C.length+2*n≤1000000000→
  ET (fun N=>scope_walk N e mi mpl flt p) fun r=>(∀s,CR r.1 s=(C.count s:Int))∧(r.2.why=0↔flt.why=0∧Sc p (fun s=>s∈C) e):=by
 intro n
 induction n with
 |zero=>intro e he;have:=Lz e;omega
 |succ n ih=>
  intro e he C mi flt hmi hC
  have hal:=MG e.args
  have hes:=OW e
  refine ET.down ?_
  show ET (fun N=>KE (Aw.at N) N e mi mpl flt p) _
  unfold KE
  refine ET.bind (.of (Yg hpl hlen)) fun f1 hf1=>?_
  have cc: ∀s,(C.count s:Int)≠0↔s∈C:=fun s=>by
   have:=List.count_pos_iff (a:=s) (l:=C)
   constructor
   ·intro h;exact this.1 (by omega)
   ·intro h;have:=this.2 h;omega
  have loop: ∀(j i:Nat),i+j=e.args.length→∀(mi:Ak) (f2:AD),(∀s,CR mi s=(C.count s:Int))→
    EL (fun N k=>CX (Aw.at N) N e mpl p k (i:Int) mi f2.why f2.at_) fun r=>(∀s,CR r.1 s=(C.count s:Int))∧(r.2.why=0↔f2.why=0∧∀i' a,i≤i'→e.args[i']?=some a→Sc p (fun s=>s∈bnd e i'∨s∈C) a):=by
   intro j
   induction j with
   |zero=>
    intro i hi mi f2 hmi
    refine EL.down ?_
    show EL (fun N k=>H9 (Aw.at N) N e mpl p (CX (Aw.at N) N e mpl p k) i mi f2.why f2.at_) _
    unfold H9
    refine EL.cond (fun h=>by have:=CN h;omega) fun _=> .some ⟨hmi,fun h=>⟨h,fun i' a hi' ha=>?_⟩,fun h=>h.1⟩
    have:=(List.getElem?_eq_some_iff.1 ha).1
    omega
   |succ j ihj=>
    intro i hi mi f2 hmi
    refine EL.down ?_
    show EL (fun N k=>H9 (Aw.at N) N e mpl p (CX (Aw.at N) N e mpl p k) i mi f2.why f2.at_) _
    unfold H9
    refine EL.cond (fun _=>?_) fun h=>by have:=Dn h;omega
    have hil:i<e.args.length:=by omega
    obtain ⟨a,ha⟩: ∃a,e.args[i]?=some a:=⟨_,List.getElem?_eq_getElem hil⟩
    have has:=NW (List.mem_of_getElem? ha)
    refine EL.eq (CD ha) (EL.eq (Ww e i) ?_)
    have hbl:=Wx e i
    have l3: ∀(q t:Nat),t+q=(bnd e i).length→∀(m3:Ak) (w:Ak×AD),(∀s,CR m3 s=(((bnd e i).drop t).count s+C.count s:Nat))→
      E2 (fun N k=>True)→∀(R:Ak×AD→Prop),(∀m4,(∀s,CR m4 s=(C.count s:Int))→EL (fun N k=>CX (Aw.at N) N e mpl p k ((i+1:Nat):Int) m4 w.2.why w.2.at_) R)→
      ∃r,R r∧∃n0,∀N k kk,n0≤N→n0≤k→n0≤kk→Ht i (CX (Aw.at N) N e mpl p k) (bnd e i) w kk (t:Int) m3=some r:=by
     intro q
     induction q with
     |zero=>
      intro t ht m3 w hm3 _ R hR
      have hd0:(bnd e i).drop t=[]:=List.drop_eq_nil_of_le (by omega)
      obtain ⟨r,hr,n0,hn0⟩:=hR m3 (fun s=>by rw [hm3,hd0];simp)
      refine ⟨r,hr,n0+1,fun N k kk h1 h2 h3=>?_⟩
      obtain ⟨kk,rfl⟩: ∃j,kk=j+1:=⟨kk - 1,by omega⟩
      show H7 i (CX (Aw.at N) N e mpl p k) (bnd e i) w (Ht i (CX (Aw.at N) N e mpl p k) (bnd e i) w kk) t m3=_
      unfold H7
      rw [show decide ((t:Int)< ((bnd e i).length:Int))=false from decide_eq_false (by omega),cond_false,wr (by omega) (by omega),show (i:Int)+1=((i+1:Nat):Int) by omega]
      exact hn0 N k (by omega) (by omega)
     |succ q ihq=>
      intro t ht m3 w hm3 ht2 R hR
      have htl:t< (bnd e i).length:=by omega
      obtain ⟨s0,hs0⟩: ∃s0,(bnd e i)[t]?=some s0:=⟨_,List.getElem?_eq_getElem htl⟩
      have hdr:=Kp hs0
      have h0:=hm3 s0
      have hc1:((bnd e i).drop t).count s0+C.count s0≤2+C.length:=by
       have a1:=List.count_le_length (a:=s0) (l:=(bnd e i).drop t)
       have a2:=List.count_le_length (a:=s0) (l:=C)
       simp at a1;omega
      obtain ⟨r,hr,n0,hn0⟩:=ihq (t+1) (by omega) (LF s0 (CR m3 s0 - 1) m3) w (fun s=>by
       rw [L1]
       cases hs:(s==s0)
       ·rw [cond_false,hm3,hdr,List.count_cons_of_ne (fun e=>by subst e;simp at hs)]
       ·have:s=s0:=by simpa using hs
        subst this
        rw [cond_true,hm3,hdr,List.count_cons_self];omega) ht2 R hR
      refine ⟨r,hr,n0+1,fun N k kk h1 h2 h3=>?_⟩
      obtain ⟨kk,rfl⟩: ∃j,kk=j+1:=⟨kk - 1,by omega⟩
      show H7 i (CX (Aw.at N) N e mpl p k) (bnd e i) w (Ht i (CX (Aw.at N) N e mpl p k) (bnd e i) w kk) t m3=_
      unfold H7
      rw [show decide ((t:Int)< ((bnd e i).length:Int))=true from decide_eq_true (by omega),cond_true,CD hs0,Option.bind_some,wr (x:=(t:Int)+1) (by omega) (by omega),wr (x:=CR m3 s0 - 1) (by omega) (by omega),show (t:Int)+1=((t+1:Nat):Int) by omega]
      exact hn0 N k kk (by omega) (by omega) (by omega)
    have l2: ∀(q t:Nat),t+q=(bnd e i).length→∀(m2:Ak),(∀s,CR m2 s=(((bnd e i).take t).count s+C.count s:Nat))→
      ∃r:Ak×AD,((∀s,CR r.1 s=(C.count s:Int))∧(r.2.why=0↔f2.why=0∧∀i' a,i≤i'→e.args[i']?=some a→Sc p (fun s=>s∈bnd e i'∨s∈C) a))∧
       ∃n0,∀N k kk,n0≤N→n0≤k→n0≤kk→Hu (Aw.at N) N mpl p i f2.why f2.at_ (CX (Aw.at N) N e mpl p k) a (bnd e i) kk (t:Int) m2=some r:=by
     intro q
     induction q with
     |zero=>
      intro t ht m2 hm2
      have htk:(bnd e i).take t=bnd e i:=List.take_of_length_le (by omega)
      obtain ⟨w,hw,hE⟩:=ih a (by omega) (bnd e i++C) m2 ⟨f2.why,f2.at_⟩ (fun s=>by rw [hm2,htk,List.count_append]) (by rw [List.length_append];omega)
      obtain ⟨n1,hn1⟩:=hE
      obtain ⟨r,hr,n0,hn0⟩:=l3 (bnd e i).length 0 (by omega) w.1 w (fun s=>by rw [hw.1,List.drop_zero,List.count_append]) ⟨0,fun _ _ _ _=>trivial⟩ (fun r=>(∀s,CR r.1 s=(C.count s:Int))∧(r.2.why=0↔f2.why=0∧∀i' a,i≤i'→e.args[i']?=some a→Sc p (fun s=>s∈bnd e i'∨s∈C) a)) fun m4 hm4=>(ihj (i+1) (by omega) m4 w.2 hm4).mono fun r hr=>⟨hr.1,by
       rw [hr.2,hw.2]
       have eB:(fun s=>s∈bnd e i++C)=fun s=>s∈bnd e i∨s∈C:=funext fun s=>propext List.mem_append
       rw [eB]
       constructor
       ·rintro ⟨⟨h1,h2⟩,h3⟩
        refine ⟨h1,fun i' a' hi' ha'=>?_⟩
        rcases Nat.eq_or_lt_of_le hi' with rfl|hlt
        ·rw [ha] at ha';cases ha';exact h2
        ·exact h3 i' a' hlt ha'
       ·rintro ⟨h1,h2⟩
        exact ⟨⟨h1,h2 i a (Nat.le_refl _) ha⟩,fun i' a' hi' ha'=>h2 i' a' (by omega) ha'⟩⟩
      refine ⟨r,hr,n0+n1+1,fun N k kk h1 h2 h3=>?_⟩
      obtain ⟨kk,rfl⟩: ∃j,kk=j+1:=⟨kk - 1,by omega⟩
      show H8 (Aw.at N) N mpl p i f2.why f2.at_ (CX (Aw.at N) N e mpl p k) a (bnd e i) (Hu (Aw.at N) N mpl p i f2.why f2.at_ (CX (Aw.at N) N e mpl p k) a (bnd e i) kk) t m2=_
      unfold H8
      rw [show decide ((t:Int)< ((bnd e i).length:Int))=false from decide_eq_false (by omega),cond_false]
      show ((scope_walk N a m2 mpl ⟨f2.why,f2.at_⟩ p).bind fun x649=>_)=_
      have ew:scope_walk N a m2 mpl ⟨f2.why,f2.at_⟩ p=some w:=hn1 N (by omega)
      rw [ew,Option.bind_some]
      exact hn0 N k N (by omega) (by omega) (by omega)
     |succ q ihq=>
      intro t ht m2 hm2
      have htl:t< (bnd e i).length:=by omega
      obtain ⟨s0,hs0⟩: ∃s0,(bnd e i)[t]?=some s0:=⟨_,List.getElem?_eq_getElem htl⟩
      have htk:(bnd e i).take (t+1)=(bnd e i).take t++[s0]:=by rw [List.take_add_one,hs0];rfl
      have h0:=hm2 s0
      have hc1:((bnd e i).take t).count s0+C.count s0≤2+C.length:=by
       have a1:=List.count_le_length (a:=s0) (l:=(bnd e i).take t)
       have a2:=List.count_le_length (a:=s0) (l:=C)
       simp at a1;omega
      obtain ⟨r,hr,n0,hn0⟩:=ihq (t+1) (by omega) (LF s0 (CR m2 s0+1) m2) fun s=>by
       rw [L1,htk,List.count_append]
       cases hs:(s==s0)
       ·rw [cond_false,hm2,List.count_cons_of_ne (fun e=>by subst e;simp at hs)];simp
       ·have:s=s0:=by simpa using hs
        subst this
        rw [cond_true,hm2,List.count_singleton_self];omega
      refine ⟨r,hr,n0+1,fun N k kk h1 h2 h3=>?_⟩
      obtain ⟨kk,rfl⟩: ∃j,kk=j+1:=⟨kk - 1,by omega⟩
      show H8 (Aw.at N) N mpl p i f2.why f2.at_ (CX (Aw.at N) N e mpl p k) a (bnd e i) (Hu (Aw.at N) N mpl p i f2.why f2.at_ (CX (Aw.at N) N e mpl p k) a (bnd e i) kk) t m2=_
      unfold H8
      rw [show decide ((t:Int)< ((bnd e i).length:Int))=true from decide_eq_true (by omega),cond_true,CD hs0,Option.bind_some,wr (x:=(t:Int)+1) (by omega) (by omega),wr (x:=CR m2 s0+1) (by omega) (by omega),show (t:Int)+1=((t+1:Nat):Int) by omega]
      exact hn0 N k kk (by omega) (by omega) (by omega)
    obtain ⟨r,hr,n0,hn0⟩:=l2 (bnd e i).length 0 (by omega) mi fun s=>by rw [hmi];simp
    exact ⟨r,hr,n0,fun N k h1 h2=>hn0 N k N h1 h2 h1⟩
  refine (loop e.args.length 0 (by omega) mi f1 hmi).diag.mono fun r hr=>⟨hr.1,?_⟩
  rw [hr.2,hf1,hmi,Yf,cc]
  constructor
  ·rintro ⟨⟨h1,h2,h3⟩,h4⟩;exact ⟨h1,h2,h3,fun i a ha=>h4 i a (Nat.zero_le _) ha⟩
  ·rintro ⟨h1,h2,h3,h4⟩;exact ⟨⟨h1,h2,h3⟩,fun i a _ ha=>h4 i a ha⟩
end
end Fth
namespace Fth
open Go
theorem RQ{p:AM}{nm:List UInt8}{i:Nat}{f:AK}(hi:p.funcs[i]?=some f)(hn:f.name=nm)(h:nm∉(p.funcs.take i).map (·.name)):hd p nm=some f:=by
 unfold hd
 rw [List.find?_eq_some_iff_getElem]
 obtain ⟨hl,he⟩:=List.getElem?_eq_some_iff.1 hi
 refine ⟨by simpa using hn,i,hl,he,fun j hj=>?_⟩
 simp only [Bool.not_eq_true',beq_eq_false_iff_ne,ne_eq]
 intro e
 refine h (List.mem_map.2 ⟨p.funcs[j],?_,e⟩)
 rw [List.mem_take_iff_getElem]
 exact ⟨j,by omega,rfl⟩
theorem Ui{p:AM}{nm:List UInt8}(h:nm∉p.funcs.map (·.name)):hd p nm=none:=by
 unfold hd
 rw [List.find?_eq_none]
 intro f hf e
 exact h (List.mem_map.2 ⟨f,hf,by simpa using e⟩)
section
variable{p:AM}
theorem Z5(hlen:p.funcs.length≤50000)(hb: ∀f∈p.funcs,EY f.body≤1000000∧f.params.length≤1000000):ET (fun N=>Hv N p) fun r=>r.why=0↔Z2 p:=by
 have bodies: ∀(mpl:Ak),Pl p mpl→∀(j i:Nat),i+j=p.funcs.length→∀(f0:AD),
   EL (fun N k=>Cs N p mpl k (i:Int) f0.why f0.at_) fun r=>r.why=0↔f0.why=0∧∀i' f,i≤i'→p.funcs[i']?=some f→PN f∧Sc p (fun s=>s∈f.params.map (·.name)) f.body:=by
  intro mpl hpl j
  induction j with
  |zero=>
   intro i hi f0
   refine EL.down ?_
   show EL (fun N k=>HZ N p mpl (Cs N p mpl k) i f0.why f0.at_) _
   unfold HZ
   refine EL.cond (fun h=>by have:=CN h;omega) fun _=> .some ⟨fun h=>⟨h,fun i' f hi' hf=>?_⟩,fun h=>h.1⟩
   have:=(List.getElem?_eq_some_iff.1 hf).1
   omega
  |succ j ihj=>
   intro i hi f0
   refine EL.down ?_
   show EL (fun N k=>HZ N p mpl (Cs N p mpl k) i f0.why f0.at_) _
   unfold HZ
   refine EL.cond (fun _=>?_) fun h=>by have:=Dn h;omega
   obtain ⟨f,hf⟩: ∃f,p.funcs[i]?=some f:=⟨_,List.getElem?_eq_getElem (by omega)⟩
   have hfb:=hb f (List.mem_of_getElem? hf)
   refine EL.eq (CD hf) ?_
   have pars: ∀(q t:Nat),t+q=f.params.length→∀(f2:AD) (m:Ak),(∀s,CR m s=(((f.params.take t).map (·.name)).count s:Int))→
     ∃r:AD,(r.why=0↔f2.why=0∧(∀i' x,t≤i'→f.params[i']?=some x→x.name∉(f.params.take i').map (·.name))∧Sc p (fun s=>s∈f.params.map (·.name)) f.body∧∀i' f,i+1≤i'→p.funcs[i']?=some f→PN f∧Sc p (fun s=>s∈f.params.map (·.name)) f.body)∧
      ∃n0,∀N k kk,n0≤N→n0≤k→n0≤kk→Fc N p mpl i (Cs N p mpl k) f kk (t:Int) f2.why f2.at_ m=some r:=by
    intro q
    induction q with
    |zero=>
     intro t ht f2 m hm
     have htk:f.params.take t=f.params:=List.take_of_length_le (by omega)
     obtain ⟨w,hw,n1,hn1⟩:=Z4 hpl (by omega) (EY f.body) f.body (Nat.le_refl _) (f.params.map (·.name)) m ⟨f2.why,f2.at_⟩ (fun s=>by rw [hm,htk]) (by rw [List.length_map];omega)
     obtain ⟨r,hr,n0,hn0⟩:=ihj (i+1) (by omega) w.2
     refine ⟨r,?_,n0+n1+1,fun N k kk h1 h2 h3=>?_⟩
     ·rw [hr,hw.2]
      constructor
      ·rintro ⟨⟨h1,h2⟩,h3⟩
       exact ⟨h1,fun i' x hi' hx=>by have:=(List.getElem?_eq_some_iff.1 hx).1;omega,h2,h3⟩
      ·rintro ⟨h1,_,h2,h3⟩;exact ⟨⟨h1,h2⟩,h3⟩
     ·obtain ⟨kk,rfl⟩: ∃j,kk=j+1:=⟨kk - 1,by omega⟩
      show Fh N p mpl i (Cs N p mpl k) f (Fc N p mpl i (Cs N p mpl k) f kk) t f2.why f2.at_ m=_
      unfold Fh
      have ew:scope_walk N f.body m mpl ⟨f2.why,f2.at_⟩ p=some w:=hn1 N (by omega)
      rw [show decide ((t:Int)< (f.params.length:Int))=false from decide_eq_false (by omega),cond_false,PH,ew,Option.bind_some,wr (by omega) (by omega),show (i:Int)+1=((i+1:Nat):Int) by omega]
      exact hn0 N k (by omega) (by omega)
    |succ q ihq=>
     intro t ht f2 m hm
     obtain ⟨x,hx⟩: ∃x,f.params[t]?=some x:=⟨_,List.getElem?_eq_getElem (by omega)⟩
     have htk:(f.params.take (t+1)).map (·.name)=(f.params.take t).map (·.name)++[x.name]:=by rw [List.take_add_one,hx];simp
     have hcl:=List.count_le_length (a:=x.name) (l:=(f.params.take t).map (·.name))
     simp only [List.length_map,List.length_take] at hcl
     have hm': ∀s,CR (LF x.name (CR m x.name+1) m) s=(((f.params.take (t+1)).map (·.name)).count s:Int):=fun s=>by
      rw [L1,htk,List.count_append]
      cases hs:(s==x.name)
      ·rw [cond_false,hm,List.count_cons_of_ne (fun e=>by subst e;simp at hs)];simp
      ·have:s=x.name:=by simpa using hs
       subst this
       rw [cond_true,hm,List.count_singleton_self];omega
     have next: ∀f3:AD,(f3.why=0↔f2.why=0∧x.name∉(f.params.take t).map (·.name))→∃r:AD,(r.why=0↔f2.why=0∧(∀i' x,t≤i'→f.params[i']?=some x→x.name∉(f.params.take i').map (·.name))∧Sc p (fun s=>s∈f.params.map (·.name)) f.body∧∀i' f,i+1≤i'→p.funcs[i']?=some f→PN f∧Sc p (fun s=>s∈f.params.map (·.name)) f.body)∧
       ∃n0,∀N k kk,n0≤N→n0≤k→n0≤kk→I5 (t:Int) m (Fc N p mpl i (Cs N p mpl k) f kk) x f3.why f3.at_=some r:=by
      intro f3 hf3
      obtain ⟨r,hr,n0,hn0⟩:=ihq (t+1) (by omega) f3 _ hm'
      refine ⟨r,?_,n0,fun N k kk h1 h2 h3=>?_⟩
      ·rw [hr,hf3]
       constructor
       ·rintro ⟨⟨h1,h2⟩,h3,h4⟩
        refine ⟨h1,fun i' y hi' hy=>?_,h4⟩
        rcases Nat.eq_or_lt_of_le hi' with rfl|hlt
        ·rw [hx] at hy;cases hy;exact h2
        ·exact h3 i' y hlt hy
       ·rintro ⟨h1,h2,h3⟩
        exact ⟨⟨h1,h2 t x (Nat.le_refl _) hx⟩,fun i' y hi' hy=>h2 i' y (by omega) hy,h3⟩
      ·unfold I5
       have:=hm x.name
       rw [wr (x:=(t:Int)+1) (by omega) (by omega),wr (x:=CR m x.name+1) (by omega) (by omega),show (t:Int)+1=((t+1:Nat):Int) by omega]
       exact hn0 N k kk h1 h2 h3
     have hcnt:=List.count_pos_iff (a:=x.name) (l:=(f.params.take t).map (·.name))
     cases hpos:decide (CR m x.name>0)
     ·have hpos':=Dn hpos
      obtain ⟨r,hr,n0,hn0⟩:=next f2 ⟨fun h=>⟨h,fun h'=>by have:=hcnt.2 h';rw [hm] at hpos';omega⟩,fun h=>h.1⟩
      refine ⟨r,hr,n0+1,fun N k kk h1 h2 h3=>?_⟩
      obtain ⟨kk,rfl⟩: ∃j,kk=j+1:=⟨kk - 1,by omega⟩
      show Fh N p mpl i (Cs N p mpl k) f (Fc N p mpl i (Cs N p mpl k) f kk) t f2.why f2.at_ m=_
      unfold Fh
      rw [show decide ((t:Int)< (f.params.length:Int))=true from decide_eq_true (by omega),cond_true,CD hx,Option.bind_some,hpos,cond_false]
      exact hn0 N k kk (by omega) (by omega) (by omega)
     ·have hpos':=CN hpos
      obtain ⟨f3,e3,h3⟩:=Pp (y:=30) (a:=x.at_) (flt:=⟨f2.why,f2.at_⟩) (by decide)
      obtain ⟨r,hr,n0,hn0⟩:=next f3 ⟨fun h=>absurd h h3,fun h=>absurd (hcnt.1 (by rw [hm] at hpos';omega)) h.2⟩
      refine ⟨r,hr,n0+1,fun N k kk h1 h2 h3=>?_⟩
      obtain ⟨kk,rfl⟩: ∃j,kk=j+1:=⟨kk - 1,by omega⟩
      show Fh N p mpl i (Cs N p mpl k) f (Fc N p mpl i (Cs N p mpl k) f kk) t f2.why f2.at_ m=_
      unfold Fh
      rw [show decide ((t:Int)< (f.params.length:Int))=true from decide_eq_true (by omega),cond_true,CD hx,Option.bind_some,hpos,cond_true,e3,Option.bind_some]
      exact hn0 N k kk (by omega) (by omega) (by omega)
   obtain ⟨r,hr,n0,hn0⟩:=pars f.params.length 0 (by omega) f0 [] fun s=>by simp [Sq]
   refine ⟨r,hr.trans ?_,n0,fun N k h1 h2=>hn0 N k N h1 h2 h1⟩
   constructor
   ·rintro ⟨h1,h2,h3,h4⟩
    refine ⟨h1,fun i' g hi' hg=>?_⟩
    rcases Nat.eq_or_lt_of_le hi' with rfl|hlt
    ·rw [hf] at hg;cases hg;exact ⟨fun i x hx=>h2 i x (Nat.zero_le _) hx,h3⟩
    ·exact h4 i' g hlt hg
   ·rintro ⟨h1,h2⟩
    have:=h2 i f (Nat.le_refl _) hf
    exact ⟨h1,fun i' x _ hx=>this.1 i' x hx,this.2,fun i' g hi' hg=>h2 i' g (by omega) hg⟩
 have places: ∀(j i:Nat),i+j=p.funcs.length→∀(f0:AD) (m:Ak),(∀nm,(nm∉(p.funcs.take i).map (·.name)∧CR m nm=0)∨∃(k:Nat) (f:AK),k<i∧p.funcs[k]?=some f∧hd p nm=some f∧CR m nm=(k:Int)+1)→
   EL (fun N k=>HK N p k (i:Int) f0.why f0.at_ m) fun r=>r.why=0↔f0.why=0∧(∀i' f,i≤i'→p.funcs[i']?=some f→f.name∉(p.funcs.take i').map (·.name))∧∀f∈p.funcs,PN f∧Sc p (fun s=>s∈f.params.map (·.name)) f.body:=by
  intro j
  induction j with
  |zero=>
   intro i hi f0 m hm
   have htk:p.funcs.take i=p.funcs:=List.take_of_length_le (by omega)
   refine EL.down ?_
   show EL (fun N k=>Ha N p (HK N p k) i f0.why f0.at_ m) _
   unfold Ha
   refine EL.cond (fun h=>by have:=CN h;omega) fun _=>?_
   have hpl:Pl p m:=fun nm=>by
    rcases hm nm with ⟨h1,h2⟩| ⟨k,f,h1,h2,h3,h4⟩
    ·rw [htk] at h1;exact .inl ⟨Ui h1,h2⟩
    ·exact .inr ⟨k,f,h2,h3,h4⟩
   refine EL.of ((bodies m hpl p.funcs.length 0 (by omega) f0).diag.mono fun r hr=>?_)
   rw [hr]
   constructor
   ·rintro ⟨h1,h2⟩
    refine ⟨h1,fun i' f hi' hf=>by have:=(List.getElem?_eq_some_iff.1 hf).1;omega,fun f hf=>?_⟩
    obtain ⟨i',hi'⟩:=List.mem_iff_getElem?.1 hf
    exact h2 i' f (Nat.zero_le _) hi'
   ·rintro ⟨h1,_,h2⟩
    exact ⟨h1,fun i' f _ hf=>h2 f (List.mem_of_getElem? hf)⟩
  |succ j ihj=>
   intro i hi f0 m hm
   obtain ⟨f,hf⟩: ∃f,p.funcs[i]?=some f:=⟨_,List.getElem?_eq_getElem (by omega)⟩
   have htk:(p.funcs.take (i+1)).map (·.name)=(p.funcs.take i).map (·.name)++[f.name]:=by rw [List.take_add_one,hf];simp
   refine EL.down ?_
   show EL (fun N k=>Ha N p (HK N p k) i f0.why f0.at_ m) _
   unfold Ha
   refine EL.cond (fun _=>?_) fun h=>by have:=Dn h;omega
   refine EL.eq (CD hf) ?_
   have e1:IntKind.i64.wrap ((i:Int)+1)=((i+1:Nat):Int):=by rw [wr (by omega) (by omega)];omega
   refine EL.cond (fun h=>?_) fun h=>?_
   ·have h:=CN h
    refine EL.tb (Pp (by decide)) fun f3 h3=>?_
    unfold I4
    rw [e1]
    have hin:f.name∈(p.funcs.take i).map (·.name):=by
     rcases hm f.name with ⟨_,h2⟩| ⟨k,g,h1,h2,h3,h4⟩
     ·omega
     ·have hgn:g.name=f.name:=by unfold hd at h3;have:=List.find?_some h3;simpa using this
      rw [←hgn]
      refine List.mem_map.2 ⟨g,?_,rfl⟩
      rw [List.mem_take_iff_getElem]
      obtain ⟨hkl,hke⟩:=List.getElem?_eq_some_iff.1 h2
      exact ⟨k,by omega,hke⟩
    refine (ihj (i+1) (by omega) f3 m fun nm=>?_).mono fun r hr=>?_
    ·rcases hm nm with ⟨h1,h2⟩| ⟨k,g,h1,h2,h3,h4⟩
     ·refine .inl ⟨fun h'=>?_,h2⟩
      rw [htk] at h'
      rcases List.mem_append.1 h' with h'|h'
      ·exact h1 h'
      ·simp at h';subst h';exact h1 hin
     ·exact .inr ⟨k,g,by omega,h2,h3,h4⟩
    ·rw [hr]
     exact ⟨fun h=>absurd h.1 h3,fun h=>absurd hin (h.2.1 i f (Nat.le_refl _) hf)⟩
   ·have h:=Dn h
    unfold I4
    rw [e1]
    have hout:f.name∉(p.funcs.take i).map (·.name):=by
     rcases hm f.name with ⟨h1,_⟩| ⟨k,g,h1,h2,h3,h4⟩
     ·exact h1
     ·omega
    refine (ihj (i+1) (by omega) f0 (LF f.name ((i+1:Nat):Int) m) fun nm=>?_).mono fun r hr=>?_
    ·rw [L1]
     cases hn:(nm==f.name)
     ·have hne:nm≠f.name:=by simpa using hn
      rw [cond_false]
      rcases hm nm with ⟨h1,h2⟩| ⟨k,g,h1,h2,h3,h4⟩
      ·refine .inl ⟨fun h'=>?_,h2⟩
       rw [htk] at h'
       rcases List.mem_append.1 h' with h'|h'
       ·exact h1 h'
       ·simp at h';exact hne h'
      ·exact .inr ⟨k,g,by omega,h2,h3,h4⟩
     ·have hne:nm=f.name:=by simpa using hn
      subst hne
      rw [cond_true]
      exact .inr ⟨i,f,by omega,hf,RQ hf rfl hout,by omega⟩
    ·rw [hr]
     constructor
     ·rintro ⟨h1,h2,h3⟩
      refine ⟨h1,fun i' g hi' hg=>?_,h3⟩
      rcases Nat.eq_or_lt_of_le hi' with rfl|hlt
      ·rw [hf] at hg;cases hg;exact hout
      ·exact h2 i' g hlt hg
     ·rintro ⟨h1,h2,h3⟩
      exact ⟨h1,fun i' g hi' hg=>h2 i' g (by omega) hg,h3⟩
 refine (places p.funcs.length 0 (by omega) ⟨0,0⟩ [] fun nm=> .inl ⟨by simp,Sq nm⟩).diag.mono fun r hr=>?_
 rw [hr]
 constructor
 ·rintro ⟨_,h1,h2⟩;exact ⟨fun i f hf=>h1 i f (Nat.zero_le _) hf,h2⟩
 ·rintro ⟨h1,h2⟩;exact ⟨rfl,fun i f _ hf=>h1 i f hf,h2⟩
end
end Fth
namespace Fth
open Go
theorem PL{α:Type}{b:Nat}{xs ys:List α}(hb:b≤16)(h:xs.length+ys.length≤8000000000000):T (Gd b xs ys) fun _=>True:=by
 rw [Gd,if_pos]
 ·exact .some trivial
 ·refine ⟨?_,by omega⟩
  have:=Nat.mul_le_mul h hb
  omega
theorem Pq{p:AM}{nm:List UInt8}{N:Nat}(hl:p.funcs.length≤1000000)(hN:p.funcs.length+2≤N):
  T (GZ N p nm) fun r=>(hd p nm=none∧r= -1)∨∃(i:Nat) (f:AK),p.funcs[i]?=some f∧hd p nm=some f∧r=(i:Int)∧f.name=nm∧nm∉(p.funcs.take i).map (·.name):=by
 have loop: ∀(k i:Nat),i≤p.funcs.length→p.funcs.length<i+k→nm∉(p.funcs.take i).map (·.name)→T (IG p nm k (i:Int)) fun r=>(hd p nm=none∧r= -1)∨∃(i:Nat) (f:AK),p.funcs[i]?=some f∧hd p nm=some f∧r=(i:Int)∧f.name=nm∧nm∉(p.funcs.take i).map (·.name):=by
  intro k
  induction k with
  |zero=>intro i _ _;omega
  |succ k ih=>
   intro i hi hk hno
   show T (Jb p nm (IG p nm k) i) _
   unfold Jb
   refine T.cond (fun h=>?_) fun h=>?_
   ·have h:=CN h
    obtain ⟨f,hf⟩: ∃f,p.funcs[i]?=some f:=⟨_,List.getElem?_eq_getElem (by omega)⟩
    refine T.eq (CD hf) (T.cond (fun hn=>?_) fun hn=>?_)
    ·have hn:f.name=nm:=by simpa using hn
     exact .some (.inr ⟨i,f,hf,RQ hf hn hno,rfl,hn,hno⟩)
    ·have hn:f.name≠nm:=by simpa using hn
     rw [wr (by omega) (by omega),show (i:Int)+1=((i+1:Nat):Int) by omega]
     refine ih (i+1) (by omega) (by omega) fun h'=>?_
     rw [List.take_add_one,hf] at h'
     simp only [List.map_append,List.mem_append] at h'
     rcases h' with h'|h'
     ·exact hno h'
     ·simp at h';exact hn h'.symm
   ·have h:=Dn h
    rw [List.take_of_length_le (by omega)] at hno
    exact .some (.inl ⟨Ui hno,rfl⟩)
 exact loop N 0 (by omega) (by omega) (by simp)
theorem Yh{l:List (List UInt8)}{s:List UInt8}{N:Nat}(hl:l.length≤2000000000)(hN:l.length+2≤N):IV N l s=some (decide (s∈l)):=by
 have loop: ∀(k i:Nat),i≤l.length→l.length<i+k→s∉l.take i→JP l s k (i:Int)=some (decide (s∈l)):=by
  intro k
  induction k with
  |zero=>intro i _ _;omega
  |succ k ih=>
   intro i hi hk hno
   show KU l s (JP l s k) i=_
   unfold KU
   cases h:decide ((i:Int)< (l.length:Int))
   ·have h:=Dn h
    rw [List.take_of_length_le (by omega)] at hno
    rw [cond_false,decide_eq_false hno]
   ·have h:=CN h
    obtain ⟨x,hx⟩: ∃f,l[i]?=some f:=⟨_,List.getElem?_eq_getElem (by omega)⟩
    rw [cond_true,CD hx,Option.bind_some]
    cases hn:(x==s)
    ·have hn:x≠s:=by simpa using hn
     rw [cond_false,wr (by omega) (by omega),show (i:Int)+1=((i+1:Nat):Int) by omega]
     refine ih (i+1) (by omega) (by omega) fun h'=>?_
     rw [List.take_add_one,hx] at h'
     rcases List.mem_append.1 h' with h'|h'
     ·exact hno h'
     ·simp at h';exact hn h'.symm
    ·have hn:x=s:=by simpa using hn
     subst hn
     rw [cond_true,decide_eq_true (List.mem_of_getElem? hx)]
 exact loop N 0 (by omega) (by omega) (by simp)
theorem Z6{a b:List (List UInt8)}(h:a.length+b.length≤2000000000):IH a b=some (a++b):=by
 unfold IH
 obtain ⟨_,e1,_⟩:=PL (b:=16) (xs:=([]:List (List UInt8))) (ys:=a) (by decide) (by simp;omega)
 obtain ⟨_,e2,_⟩:=PL (b:=16) (xs:=([]:List (List UInt8))++a) (ys:=b) (by decide) (by simp;omega)
 rw [e1,Option.bind_some,e2,Option.bind_some,List.nil_append]
section
variable{p:AM}
def My(p:AM)(l:List A5):Prop:=∀s∈l,s.free=false∧Jq p s.e
theorem Z7: ∀(n:Nat) (e:AE),EY e≤n→∀(C:List (List UInt8)),C.length+2*n≤1000000000→n≤10000000→ET (fun N=>ref06_seen N e C) fun l=>l.length≤EY e∧(My p l↔Sc p (fun s=>s∈C) e):=by
 intro n
 induction n with
 |zero=>intro e he;have:=Lz e;omega
 |succ n ih=>
  intro e he C hC hn
  have hal:=MG e.args
  have hes:=OW e
  refine ET.down ?_
  show ET (fun N=>KG (BU.at N) N e C) _
  have loop: ∀(j i:Nat),i+j=e.args.length→∀(acc:List A5),acc.length≤1+Cv (e.args.take i)→
    EL (fun N k=>Hz (BU.at N) e C k acc (i:Int)) fun l=>l.length≤1+Cv e.args - (1+Cv (e.args.take i) - acc.length)∧(My p l↔My p acc∧∀i' a,i≤i'→e.args[i']?=some a→Sc p (fun s=>s∈bnd e i'∨s∈C) a):=by
   intro j
   induction j with
   |zero=>
    intro i hi acc hacc
    refine EL.down ?_
    show EL (fun N k=>II (BU.at N) e C (Hz (BU.at N) e C k) acc i) _
    unfold II
    have htk:e.args.take i=e.args:=List.take_of_length_le (by omega)
    refine EL.cond (fun h=>by have:=CN h;omega) fun _=> .some ⟨by rw [htk] at hacc ⊢;omega,fun h=>⟨h,fun i' a hi' ha=>?_⟩,fun h=>h.1⟩
    have:=(List.getElem?_eq_some_iff.1 ha).1
    omega
   |succ j ihj=>
    intro i hi acc hacc
    refine EL.down ?_
    show EL (fun N k=>II (BU.at N) e C (Hz (BU.at N) e C k) acc i) _
    unfold II
    obtain ⟨a,ha⟩: ∃a,e.args[i]?=some a:=⟨_,List.getElem?_eq_getElem (by omega)⟩
    have has:=NW (List.mem_of_getElem? ha)
    have hbl:=Wx e i
    have htk:Cv (e.args.take (i+1))=Cv (e.args.take i)+EY a:=by rw [List.take_add_one,ha];simp [Jm,Cv]
    have htk2:Cv (e.args.take (i+1))≤Cv e.args:=by
     have:=Jm (e.args.take (i+1)) (e.args.drop (i+1))
     rw [List.take_append_drop] at this;omega
    refine EL.cond (fun _=>?_) fun h=>by have:=Dn h;omega
    refine EL.eq (Z3 e i) (EL.eq (Z6 (by omega)) (EL.eq (CD ha) (EL.bind (P:=fun l=>l.length≤EY a∧(My p l↔Sc p (fun s=>s∈bnd e i∨s∈C) a)) ?_ fun l hl=>?_)))
    ·have:=ih a (by omega) (C++bnd e i) (by rw [List.length_append];omega) (by omega)
     have eB:(fun s=>s∈C++bnd e i)=fun s=>s∈bnd e i∨s∈C:=funext fun s=>propext (List.mem_append.trans Or.comm)
     rw [eB] at this
     exact this
    ·refine EL.tb (GS (by decide) (by omega)) fun _ _=>?_
     rw [wr (by omega) (by omega),show (i:Int)+1=((i+1:Nat):Int) by omega]
     refine (ihj (i+1) (by omega) (acc++l) (by rw [List.length_append,htk];omega)).mono fun r hr=>⟨by have:=hr.1;rw [List.length_append,htk] at this;omega,?_⟩
     rw [hr.2]
     constructor
     ·rintro ⟨h1,h2⟩
      have a1:My p acc:=fun s hs=>h1 s (List.mem_append_left _ hs)
      have a2:My p l:=fun s hs=>h1 s (List.mem_append_right _ hs)
      refine ⟨a1,fun i' b hi' hb=>?_⟩
      rcases Nat.eq_or_lt_of_le hi' with rfl|hlt
      ·rw [ha] at hb;cases hb;exact hl.2.1 a2
      ·exact h2 i' b hlt hb
     ·rintro ⟨h1,h2⟩
      refine ⟨fun s hs=>?_,fun i' b hi' hb=>h2 i' b (by omega) hb⟩
      rcases List.mem_append.1 hs with hs|hs
      ·exact h1 s hs
      ·exact hl.2.2 (h2 i a (Nat.le_refl _) ha) s hs
  have j1: ∀(acc:List A5),acc.length≤1→(My p acc↔(e.op=6→e.name∈C)∧Jq p e)→ET (fun N=>Iq (BU.at N) N e C acc) fun l=>l.length≤EY e∧(My p l↔Sc p (fun s=>s∈C) e):=by
   intro acc hacc hok
   unfold Iq
   refine (loop e.args.length 0 (by omega) acc (by omega)).diag.mono fun r hr=>⟨by omega,?_⟩
   rw [hr.2,hok,Yf]
   constructor
   ·rintro ⟨⟨h1,h2⟩,h3⟩;exact ⟨h1,h2,fun i a ha=>h3 i a (Nat.zero_le _) ha⟩
   ·rintro ⟨h1,h2,h3⟩;exact ⟨⟨h1,h2⟩,fun i a _ ha=>h3 i a ha⟩
  unfold KG KV
  refine ET.cond (fun h=>?_) fun h=>?_
  ·have h6:=B7 h
   refine ET.cond (fun _=>ET.cond (fun _=>?_) fun h=>absurd h6 (Bh h)) fun h=>by cases h
   refine ET.bind (P:=fun b=>b=decide (e.name∈C)) (Qb (C.length+2) ⟨_,rfl,fun N hN=>Yh (by omega) hN⟩) fun b hb=>?_
   subst hb
   refine ET.tb (GS (by decide) (by simp)) fun _ _=>j1 _ (by simp) ?_
   simp only [List.nil_append,My,List.mem_singleton,forall_eq]
   constructor
   ·rintro ⟨h1,h2⟩;exact ⟨fun _=>by simpa using h1,h2⟩
   ·rintro ⟨h1,h2⟩;exact ⟨by simpa using h1 h6,h2⟩
  ·have h6:=Bh h
   cases h7:(e.op==7)
   ·have h7:=Bh h7
    refine ET.cond (fun h=>by cases h) fun _=>j1 _ (by simp) ?_
    exact ⟨fun _=>⟨fun h=>absurd h h6,fun h=>absurd h h7⟩,fun _ s hs=>by cases hs⟩
   ·refine ET.cond (fun _=>ET.cond (fun h=>absurd (B7 h) h6) fun _=>?_) fun h=>by cases h
    refine ET.tb (GS (by decide) (by simp)) fun _ _=>j1 _ (by simp) ?_
    simp only [List.nil_append,My,List.mem_singleton,forall_eq]
    exact ⟨fun h=>⟨fun h'=>absurd h' h6,h.2⟩,fun h=>⟨trivial,h.2⟩⟩
def GF(l:List AD)(n:Nat):Prop:=(∀y∈l,y.why≠0)∧l.length≤n
theorem GF.snoc{l:List AD}{n:Nat}{y:AD}(h:GF l n)(hy:y.why≠0):GF (l++[y]) (n+1):=by
 refine ⟨fun z hz=>?_,by simp;exact h.2⟩
 rcases List.mem_append.1 hz with hz|hz
 ·exact h.1 z hz
 ·simp at hz;subst hz;exact hy
theorem XO(hlen:p.funcs.length≤50000)(hb: ∀f∈p.funcs,EY f.body≤1000000∧f.params.length≤1000000):ET (fun N=>G5 N p) fun l=>GF l 200000000000∧(l=[]↔Z2 p):=by
 have seens: ∀(l:List A5),l.length≤1000000→∀(i:Nat) (S:Nat→Nat→List AD→Int→Option (List AD)) (n0:Nat),n0+2*l.length≤300000000000→i≤50000→∀(j t:Nat),t+j=l.length→∀acc,GF acc (n0+2*t)→
   ∃acc',GF acc' (n0+2*l.length)∧(acc'=[]↔acc=[]∧∀t' s,t≤t'→l[t']?=some s→s.free=false∧Jq p s.e)∧∃n1,∀N k kk,n1≤N→n1≤kk→Dx N p i (S N k) l kk acc (t:Int)=S N k acc' ((i+1:Nat):Int):=by
  intro l hl i S n0 hn0 hi j
  induction j with
  |zero=>
   intro t ht acc hacc
   refine ⟨acc,by rw [show t=l.length by omega] at hacc;exact hacc,⟨fun h=>⟨h,fun t' s ht' hs=>by have:=(List.getElem?_eq_some_iff.1 hs).1;omega⟩,fun h=>h.1⟩,1,fun N k kk _ hkk=>?_⟩
   obtain ⟨kk,rfl⟩: ∃j,kk=j+1:=⟨kk - 1,by omega⟩
   show FD N p i (S N k) l (Dx N p i (S N k) l kk) acc t=_
   unfold FD
   rw [show decide ((t:Int)< (l.length:Int))=false from decide_eq_false (by omega),cond_false,wr (by omega) (by omega),show (i:Int)+1=((i+1:Nat):Int) by omega]
  |succ j ihj=>
   intro t ht acc hacc
   obtain ⟨s,hs⟩: ∃s,l[t]?=some s:=⟨_,List.getElem?_eq_getElem (by omega)⟩
   have iff: ∀{A:Prop},(A↔acc=[]∧(s.free=false∧Jq p s.e))→((A∧∀t' s,t+1≤t'→l[t']?=some s→s.free=false∧Jq p s.e)↔acc=[]∧∀t' s,t≤t'→l[t']?=some s→s.free=false∧Jq p s.e):=by
    intro A hA
    rw [hA]
    constructor
    ·rintro ⟨⟨h1,h2⟩,h3⟩
     refine ⟨h1,fun t' s' ht' hs'=>?_⟩
     rcases Nat.eq_or_lt_of_le ht' with rfl|hlt
     ·rw [hs] at hs';cases hs';exact h2
     ·exact h3 t' s' hlt hs'
    ·rintro ⟨h1,h2⟩
     exact ⟨⟨h1,h2 t s (Nat.le_refl _) hs⟩,fun t' s' ht' hs'=>h2 t' s' (by omega) hs'⟩
   have e1:IntKind.i64.wrap ((t:Int)+1)=((t+1:Nat):Int):=by rw [wr (by omega) (by omega)];omega
   have call: ∀(a1:List AD),GF a1 (n0+2*t+1)→(a1=[]↔acc=[]∧s.free=false)→∃acc',GF acc' (n0+2*l.length)∧(acc'=[]↔acc=[]∧∀t' s,t≤t'→l[t']?=some s→s.free=false∧Jq p s.e)∧∃n1,∀N k kk,n1≤N→n1≤kk→Fj N p t (Dx N p i (S N k) l kk) s a1=S N k acc' ((i+1:Nat):Int):=by
    intro a1 ha1 hf
    have go: ∀a2,GF a2 (n0+2*(t+1))→(a2=[]↔acc=[]∧(s.free=false∧Jq p s.e))→∃acc',GF acc' (n0+2*l.length)∧(acc'=[]↔acc=[]∧∀t' s,t≤t'→l[t']?=some s→s.free=false∧Jq p s.e)∧∃n1,∀N k kk,n1≤N→n1≤kk→Fi t (Dx N p i (S N k) l kk) a2=S N k acc' ((i+1:Nat):Int):=by
     intro a2 h2 h3
     obtain ⟨acc',q1,q2,n1,q3⟩:=ihj (t+1) (by omega) a2 h2
     refine ⟨acc',q1,q2.trans (iff h3),n1,fun N k kk hN hkk=>?_⟩
     unfold Fi
     rw [e1]
     exact q3 N k kk hN hkk
    have up:GF a1 (n0+2*(t+1)):=⟨ha1.1,by have:=ha1.2;omega⟩
    cases h7:(s.e.op != 7)
    ·have h7':=JK h7
     have hcall: ∀N,p.funcs.length+2≤N→T (GZ N p s.e.name) fun r=>(hd p s.e.name=none∧r= -1)∨∃(i:Nat) (f:AK),p.funcs[i]?=some f∧hd p s.e.name=some f∧r=(i:Int)∧f.name=s.e.name∧s.e.name∉(p.funcs.take i).map (·.name):=fun N hN=>Pq (by omega) hN
     have bad: ∀y:Int,y≠0→¬Jq p s.e→∃acc',GF acc' (n0+2*l.length)∧(acc'=[]↔acc=[]∧∀t' s,t≤t'→l[t']?=some s→s.free=false∧Jq p s.e)∧∃n1,∀N k kk,n1≤N→n1≤kk→((Gd 16 a1 [AD.mk y s.e.at_]).bind fun _=>Fi t (Dx N p i (S N k) l kk) (a1++[AD.mk y s.e.at_]))=S N k acc' ((i+1:Nat):Int):=by
      intro y hy hno
      obtain ⟨acc',q1,q2,n1,q3⟩:=go (a1++[AD.mk y s.e.at_]) ⟨(ha1.snoc hy).1,by have:=(ha1.snoc (y:=AD.mk y s.e.at_) hy).2;omega⟩ ⟨fun h=>by simp at h,fun h=>absurd h.2.2 hno⟩
      refine ⟨acc',q1,q2,n1,fun N k kk hN hkk=>?_⟩
      obtain ⟨_,e,_⟩:=PL (b:=16) (xs:=a1) (ys:=[AD.mk y s.e.at_]) (by decide) (by have:=ha1.2;simp;omega)
      rw [e,Option.bind_some]
      exact q3 N k kk hN hkk
     cases hh:hd p s.e.name with
     |none=>
      obtain ⟨acc',q1,q2,n1,q3⟩:=bad 32 (by decide) fun h=>by obtain ⟨f,hf',_⟩:=h h7';rw [hh] at hf';cases hf'
      refine ⟨acc',q1,q2,n1+p.funcs.length+2,fun N k kk hN hkk=>?_⟩
      unfold Fj
      obtain ⟨r,hr,hr'⟩:=hcall N (by omega)
      rcases hr' with ⟨_,h0⟩| ⟨_,f,_,h0,_⟩
      ·subst h0
       rw [h7,cond_false,hr,Option.bind_some,show decide ((-1:Int)<0)=true from rfl,cond_true]
       exact q3 N k kk (by omega) (by omega)
      ·rw [hh] at h0;cases h0
     |some f=>
      rcases Decidable.em (f.params.length=s.e.args.length) with hfl|hfl
      ·obtain ⟨acc',q1,q2,n1,q3⟩:=go a1 up (by rw [hf];exact ⟨fun h=>⟨h.1,h.2,fun _=>⟨f,hh,hfl⟩⟩,fun h=>⟨h.1,h.2.1⟩⟩)
       refine ⟨acc',q1,q2,n1+p.funcs.length+2,fun N k kk hN hkk=>?_⟩
       unfold Fj
       obtain ⟨r,hr,hr'⟩:=hcall N (by omega)
       rcases hr' with ⟨h0,_⟩| ⟨i2,f2,h1,h0,h3,_⟩
       ·rw [hh] at h0;cases h0
       ·rw [hh] at h0;cases h0
        subst h3
        rw [h7,cond_false,hr,Option.bind_some,show decide ((i2:Int)<0)=false from decide_eq_false (by omega),cond_false,CD h1,Option.bind_some,show ((f.params.length:Int) != (s.e.args.length:Int))=false by simp;omega,cond_false]
        exact q3 N k kk (by omega) (by omega)
      ·obtain ⟨acc',q1,q2,n1,q3⟩:=bad 33 (by decide) fun h=>by obtain ⟨g,hg,hl⟩:=h h7';rw [hh] at hg;cases hg;exact hfl hl
       refine ⟨acc',q1,q2,n1+p.funcs.length+2,fun N k kk hN hkk=>?_⟩
       unfold Fj
       obtain ⟨r,hr,hr'⟩:=hcall N (by omega)
       rcases hr' with ⟨h0,_⟩| ⟨i2,f2,h1,h0,h3,_⟩
       ·rw [hh] at h0;cases h0
       ·rw [hh] at h0;cases h0
        subst h3
        rw [h7,cond_false,hr,Option.bind_some,show decide ((i2:Int)<0)=false from decide_eq_false (by omega),cond_false,CD h1,Option.bind_some,show ((f.params.length:Int) != (s.e.args.length:Int))=true by simp;omega,cond_true]
        exact q3 N k kk (by omega) (by omega)
    ·have h7':=Ko h7
     obtain ⟨acc',q1,q2,n1,q3⟩:=go a1 up (by rw [hf];exact ⟨fun h=>⟨h.1,h.2,fun h=>absurd h h7'⟩,fun h=>⟨h.1,h.2.1⟩⟩)
     refine ⟨acc',q1,q2,n1,fun N k kk hN hkk=>?_⟩
     unfold Fj
     rw [h7,cond_true]
     exact q3 N k kk hN hkk
   cases hfr:s.free
   ·obtain ⟨acc',q1,q2,n1,q3⟩:=call acc ⟨hacc.1,by have:=hacc.2;omega⟩ ⟨fun h=>⟨h,hfr⟩,fun h=>h.1⟩
    refine ⟨acc',q1,q2,n1+1,fun N k kk hN hkk=>?_⟩
    obtain ⟨kk,rfl⟩: ∃j,kk=j+1:=⟨kk - 1,by omega⟩
    show FD N p i (S N k) l (Dx N p i (S N k) l kk) acc t=_
    unfold FD
    rw [show decide ((t:Int)< (l.length:Int))=true from decide_eq_true (by omega),cond_true,CD hs,Option.bind_some,hfr,cond_false]
    exact q3 N k kk (by omega) (by omega)
   ·obtain ⟨acc',q1,q2,n1,q3⟩:=call (acc++[AD.mk 31 s.e.at_]) (hacc.snoc (y:=AD.mk 31 s.e.at_) (show (31:Int)≠0 by decide)) ⟨fun h=>by simp at h,fun h=>by rw [hfr] at h;cases h.2⟩
    refine ⟨acc',q1,q2,n1+1,fun N k kk hN hkk=>?_⟩
    obtain ⟨kk,rfl⟩: ∃j,kk=j+1:=⟨kk - 1,by omega⟩
    show FD N p i (S N k) l (Dx N p i (S N k) l kk) acc t=_
    unfold FD
    obtain ⟨_,e,_⟩:=PL (b:=16) (xs:=acc) (ys:=[AD.mk 31 s.e.at_]) (by decide) (by have:=hacc.2;simp;omega)
    rw [show decide ((t:Int)< (l.length:Int))=true from decide_eq_true (by omega),cond_true,CD hs,Option.bind_some,hfr,cond_true,e,Option.bind_some]
    exact q3 N k kk (by omega) (by omega)
 have pars: ∀(i:Nat) (f:AK),p.funcs[i]?=some f→∀(S:Nat→Nat→List AD→Int→Option (List AD)) (n0:Nat),n0+3000000≤300000000000→∀(j t:Nat),t+j=f.params.length→∀acc,GF acc (n0+t)→
   ∃acc',GF acc' (n0+3000000)∧(acc'=[]↔acc=[]∧(∀t' x,t≤t'→f.params[t']?=some x→x.name∉(f.params.take t').map (·.name))∧Sc p (fun s=>s∈f.params.map (·.name)) f.body)∧∃n1,∀N k kk,n1≤N→n1≤kk→EJ N p i (S N k) f kk acc ((f.params.take t).map (·.name)) (t:Int)=S N k acc' ((i+1:Nat):Int):=by
  intro i f hf S n0 hn0 j
  have hfb:=hb f (List.mem_of_getElem? hf)
  have hil:=(List.getElem?_eq_some_iff.1 hf).1
  induction j with
  |zero=>
   intro t ht acc hacc
   have htk:f.params.take t=f.params:=List.take_of_length_le (by omega)
   obtain ⟨l,hl,n2,hn2⟩:=Z7 (p:=p) (EY f.body) f.body (Nat.le_refl _) (f.params.map (·.name)) (by rw [List.length_map];omega) (by omega)
   obtain ⟨acc',q1,q2,n1,q3⟩:=seens l (by omega) i S (n0+t) (by omega) (by omega) l.length 0 (by omega) acc (by simpa using hacc)
   refine ⟨acc',⟨q1.1,by have:=q1.2;omega⟩,?_,n1+n2+1,fun N k kk hN hkk=>?_⟩
   ·rw [q2,←hl.2]
    constructor
    ·rintro ⟨h1,h2⟩
     refine ⟨h1,fun t' x ht' hx=>by have:=(List.getElem?_eq_some_iff.1 hx).1;omega,fun s hs=>?_⟩
     obtain ⟨t',ht'⟩:=List.mem_iff_getElem?.1 hs
     exact h2 t' s (Nat.zero_le _) ht'
    ·rintro ⟨h1,_,h2⟩
     exact ⟨h1,fun t' s _ hs=>h2 s (List.mem_of_getElem? hs)⟩
   ·obtain ⟨kk,rfl⟩: ∃j,kk=j+1:=⟨kk - 1,by omega⟩
    show FE N p i (S N k) f (EJ N p i (S N k) f kk) acc ((f.params.take t).map (·.name)) t=_
    unfold FE
    have es:ref06_seen N f.body (f.params.map (·.name))=some l:=hn2 N (by omega)
    rw [show decide ((t:Int)< (f.params.length:Int))=false from decide_eq_false (by omega),cond_false,PH,htk,es,Option.bind_some]
    exact q3 N k N (by omega) (by omega)
  |succ j ihj=>
   intro t ht acc hacc
   obtain ⟨x,hx⟩: ∃x,f.params[t]?=some x:=⟨_,List.getElem?_eq_getElem (by omega)⟩
   have htk:(f.params.take (t+1)).map (·.name)=(f.params.take t).map (·.name)++[x.name]:=by rw [List.take_add_one,hx];simp
   have hln:((f.params.take t).map (·.name)).length=t:=by simp;omega
   have go: ∀a2,GF a2 (n0+(t+1))→(a2=[]↔acc=[]∧x.name∉(f.params.take t).map (·.name))→∃acc',GF acc' (n0+3000000)∧(acc'=[]↔acc=[]∧(∀t' x,t≤t'→f.params[t']?=some x→x.name∉(f.params.take t').map (·.name))∧Sc p (fun s=>s∈f.params.map (·.name)) f.body)∧
     ∃n1,∀N k kk,n1≤N→n1≤kk→IW f ((f.params.take t).map (·.name)) t (EJ N p i (S N k) f kk) a2=S N k acc' ((i+1:Nat):Int):=by
    intro a2 h2 h3
    obtain ⟨acc',q1,q2,n1,q3⟩:=ihj (t+1) (by omega) a2 h2
    refine ⟨acc',q1,q2.trans ?_,n1,fun N k kk hN hkk=>?_⟩
    ·rw [h3]
     constructor
     ·rintro ⟨⟨h1,h2⟩,h3,h4⟩
      refine ⟨h1,fun t' y ht' hy=>?_,h4⟩
      rcases Nat.eq_or_lt_of_le ht' with rfl|hlt
      ·rw [hx] at hy;cases hy;exact h2
      ·exact h3 t' y hlt hy
     ·rintro ⟨h1,h2,h3⟩
      exact ⟨⟨h1,h2 t x (Nat.le_refl _) hx⟩,fun t' y ht' hy=>h2 t' y (by omega) hy,h3⟩
    ·unfold IW
     obtain ⟨_,e,_⟩:=PL (b:=16) (xs:=(f.params.take t).map (·.name)) (ys:=[x.name]) (by decide) (by rw [hln];simp;omega)
     rw [CD hx,Option.bind_some,e,Option.bind_some,wr (by omega) (by omega),show (t:Int)+1=((t+1:Nat):Int) by omega,←htk]
     exact q3 N k kk hN hkk
   have hhas: ∀N,t+2≤N→IV N ((f.params.take t).map (·.name)) x.name=some (decide (x.name∈(f.params.take t).map (·.name))):=fun N hN=>Yh (by rw [hln];omega) (by rw [hln];omega)
   rcases Decidable.em (x.name∈(f.params.take t).map (·.name)) with hin|hin
   ·obtain ⟨acc',q1,q2,n1,q3⟩:=go (acc++[AD.mk 30 x.at_]) ⟨(hacc.snoc (y:=AD.mk 30 x.at_) (show (30:Int)≠0 by decide)).1,by have:=hacc.2;simp;omega⟩ ⟨fun h=>by simp at h,fun h=>absurd hin h.2⟩
    refine ⟨acc',q1,q2,n1+t+2,fun N k kk hN hkk=>?_⟩
    obtain ⟨kk,rfl⟩: ∃j,kk=j+1:=⟨kk - 1,by omega⟩
    show FE N p i (S N k) f (EJ N p i (S N k) f kk) acc ((f.params.take t).map (·.name)) t=_
    unfold FE
    obtain ⟨_,e,_⟩:=PL (b:=16) (xs:=acc) (ys:=[AD.mk 30 x.at_]) (by decide) (by have:=hacc.2;simp;omega)
    rw [show decide ((t:Int)< (f.params.length:Int))=true from decide_eq_true (by omega),cond_true,CD hx,Option.bind_some,hhas N (by omega),Option.bind_some,decide_eq_true hin,cond_true,e,Option.bind_some]
    exact q3 N k kk (by omega) (by omega)
   ·obtain ⟨acc',q1,q2,n1,q3⟩:=go acc ⟨hacc.1,by have:=hacc.2;omega⟩ ⟨fun h=>⟨h,hin⟩,fun h=>h.1⟩
    refine ⟨acc',q1,q2,n1+t+2,fun N k kk hN hkk=>?_⟩
    obtain ⟨kk,rfl⟩: ∃j,kk=j+1:=⟨kk - 1,by omega⟩
    show FE N p i (S N k) f (EJ N p i (S N k) f kk) acc ((f.params.take t).map (·.name)) t=_
    unfold FE
    rw [show decide ((t:Int)< (f.params.length:Int))=true from decide_eq_true (by omega),cond_true,CD hx,Option.bind_some,hhas N (by omega),Option.bind_some,decide_eq_false hin,cond_false]
    exact q3 N k kk (by omega) (by omega)
 have fns: ∀(j i:Nat),i+j=p.funcs.length→∀acc,GF acc (i*3000001)→EL (fun N k=>EK N p k acc (i:Int)) fun r=>GF r 200000000000∧(r=[]↔acc=[]∧∀i' f,i≤i'→p.funcs[i']?=some f→f.name∉(p.funcs.take i').map (·.name)∧PN f∧Sc p (fun s=>s∈f.params.map (·.name)) f.body):=by
  intro j
  induction j with
  |zero=>
   intro i hi acc hacc
   refine EL.down ?_
   show EL (fun N k=>Gt N p (EK N p k) acc i) _
   unfold Gt
   refine EL.cond (fun h=>by have:=CN h;omega) fun _=> .some ⟨⟨hacc.1,by have:=hacc.2;omega⟩,fun h=>⟨h,fun i' f hi' hf=>by have:=(List.getElem?_eq_some_iff.1 hf).1;omega⟩,fun h=>h.1⟩
  |succ j ihj=>
   intro i hi acc hacc
   obtain ⟨f,hf⟩: ∃f,p.funcs[i]?=some f:=⟨_,List.getElem?_eq_getElem (by omega)⟩
   have step: ∀a2,GF a2 (i*3000001+1)→(a2=[]↔acc=[]∧f.name∉(p.funcs.take i).map (·.name))→EL (fun N k=>IX N p i (EK N p k) f a2) fun r=>GF r 200000000000∧(r=[]↔acc=[]∧∀i' f,i≤i'→p.funcs[i']?=some f→f.name∉(p.funcs.take i').map (·.name)∧PN f∧Sc p (fun s=>s∈f.params.map (·.name)) f.body):=by
    intro a2 h2 h3
    obtain ⟨n0,hn0⟩: ∃n,n=i*3000001+1:=⟨_,rfl⟩
    rw [←hn0] at h2
    obtain ⟨acc',q1,q2,n1,q3⟩:=pars i f hf (fun N k=>EK N p k) n0 (by omega) f.params.length 0 (by omega) a2 h2
    obtain ⟨r,hr,n2,hn2⟩:=ihj (i+1) (by omega) acc' ⟨q1.1,by have:=q1.2;omega⟩
    refine ⟨r,⟨hr.1,hr.2.trans ?_⟩,n1+n2,fun N k hN hk=>?_⟩
    ·rw [q2,h3]
     constructor
     ·rintro ⟨⟨⟨h1,h2⟩,h3,h4⟩,h5⟩
      refine ⟨h1,fun i' g hi' hg=>?_⟩
      rcases Nat.eq_or_lt_of_le hi' with rfl|hlt
      ·rw [hf] at hg;cases hg;exact ⟨h2,fun t x hx=>h3 t x (Nat.zero_le _) hx,h4⟩
      ·exact h5 i' g hlt hg
     ·rintro ⟨h1,h2⟩
      have:=h2 i f (Nat.le_refl _) hf
      exact ⟨⟨⟨h1,this.1⟩,fun t x _ hx=>this.2.1 t x hx,this.2.2⟩,fun i' g hi' hg=>h2 i' g (by omega) hg⟩
    ·unfold IX
     have:=q3 N k N (by omega) (by omega)
     simp only [List.take_zero,List.map_nil] at this
     show EJ N p i (EK N p k) f N a2 [] 0=some r
     refine Eq.trans this ?_
     exact hn2 N k (by omega) (by omega)
   refine EL.down ?_
   show EL (fun N k=>Gt N p (EK N p k) acc i) _
   unfold Gt
   refine EL.cond (fun _=>?_) fun h=>by have:=Dn h;omega
   refine EL.eq (CD hf) (EL.bind (P:=fun r=>r=(i:Int)∧f.name∉(p.funcs.take i).map (·.name)∨r< (i:Int)∧f.name∈(p.funcs.take i).map (·.name)) ?_ fun r hr=>?_)
   ·rcases Decidable.em (f.name∈(p.funcs.take i).map (·.name)) with hin|hin
    ·obtain ⟨r,hr,hr'⟩:=Pq (p:=p) (nm:=f.name) (N:=p.funcs.length+2) (by omega) (Nat.le_refl _)
     obtain ⟨g,hg,hgn⟩:=List.mem_map.1 hin
     rw [List.mem_take_iff_getElem] at hg
     obtain ⟨q,hq,hqe⟩:=hg
     refine Qb (p.funcs.length+2) ⟨r,?_,fun N hN=>?_⟩
     ·rcases hr' with ⟨h1,_⟩| ⟨i2,f2,h1,h2,h3,h4,h5⟩
      ·unfold hd at h1
       rw [List.find?_eq_none] at h1
       exact absurd (by simp) (h1 f (List.mem_of_getElem? hf))
      ·refine .inr ⟨?_,hin⟩
       rw [h3]
       rcases Nat.lt_or_ge i2 i with h|h
       ·omega
       ·refine absurd (List.mem_map.2 ⟨g,?_,hgn⟩) h5
        rw [List.mem_take_iff_getElem]
        have:=(List.getElem?_eq_some_iff.1 h1).1
        exact ⟨q,by omega,hqe⟩
     ·obtain ⟨r2,hr2,hr2'⟩:=Pq (p:=p) (nm:=f.name) (N:=N) (by omega) hN
      rw [hr2];congr 1
      rcases hr' with ⟨h1,h2⟩| ⟨i2,f2,h1,h2,h3,h4,h5⟩
      ·rcases hr2' with ⟨_,h3⟩| ⟨_,_,_,h3,_⟩
       ·rw [h2,h3]
       ·rw [h1] at h3;cases h3
      ·rcases hr2' with ⟨k1,_⟩| ⟨i3,f3,k1,k2,k3,k4,k5⟩
       ·rw [h2] at k1;cases k1
       ·rw [h3,k3]
        rcases Nat.lt_trichotomy i2 i3 with h|h|h
        ·refine absurd (List.mem_map.2 ⟨f2,?_,h4⟩) k5
         rw [List.mem_take_iff_getElem]
         obtain ⟨a1,a2⟩:=List.getElem?_eq_some_iff.1 h1
         have:=(List.getElem?_eq_some_iff.1 k1).1
         exact ⟨i2,by omega,a2⟩
        ·rw [h]
        ·refine absurd (List.mem_map.2 ⟨f3,?_,k4⟩) h5
         rw [List.mem_take_iff_getElem]
         obtain ⟨a1,a2⟩:=List.getElem?_eq_some_iff.1 k1
         have:=(List.getElem?_eq_some_iff.1 h1).1
         exact ⟨i3,by omega,a2⟩
    ·refine Qb (p.funcs.length+2) ⟨(i:Int),.inl ⟨rfl,hin⟩,fun N hN=>?_⟩
     obtain ⟨r2,hr2,hr2'⟩:=Pq (p:=p) (nm:=f.name) (N:=N) (by omega) hN
     rw [hr2];congr 1
     have hdi:=RQ hf rfl hin
     rcases hr2' with ⟨k1,_⟩| ⟨i3,f3,k1,k2,k3,k4,k5⟩
     ·rw [hdi] at k1;cases k1
     ·rw [k3]
      rcases Nat.lt_trichotomy i3 i with h|h|h
      ·refine absurd (List.mem_map.2 ⟨f3,?_,k4⟩) hin
       rw [List.mem_take_iff_getElem]
       obtain ⟨a1,a2⟩:=List.getElem?_eq_some_iff.1 k1
       exact ⟨i3,by omega,a2⟩
      ·rw [h]
      ·refine absurd (List.mem_map.2 ⟨f,?_,rfl⟩) k5
       rw [List.mem_take_iff_getElem]
       obtain ⟨a1,a2⟩:=List.getElem?_eq_some_iff.1 hf
       have:=(List.getElem?_eq_some_iff.1 k1).1
       exact ⟨i,by omega,a2⟩
   ·rcases hr with ⟨h1,h2⟩| ⟨h1,h2⟩
    ·refine EL.cond (fun h=>by have:=CN h;omega) fun _=>step acc ⟨hacc.1,Nat.le_succ_of_le hacc.2⟩ ⟨fun h=>⟨h,h2⟩,fun h=>h.1⟩
    ·refine EL.cond (fun _=>EL.tb (PL (by decide) (by have:=hacc.2;simp;omega)) fun _ _=>step _ (hacc.snoc (y:=AD.mk 30 f.at_) (show (30:Int)≠0 by decide)) ⟨fun h=>by simp at h,fun h=>absurd h2 h.2⟩) fun h=>by have:=Dn h;omega
 refine (fns p.funcs.length 0 (by omega) [] ⟨fun y h=>(by cases h),by simp⟩).diag.mono fun r hr=>⟨hr.1,hr.2.trans ?_⟩
 constructor
 ·rintro ⟨_,h⟩
  refine ⟨fun i f hf=>(h i f (Nat.zero_le _) hf).1,fun f hf=>?_⟩
  obtain ⟨i,hi⟩:=List.mem_iff_getElem?.1 hf
  exact (h i f (Nat.zero_le _) hi).2
 ·rintro ⟨h1,h2⟩
  exact ⟨rfl,fun i f _ hf=>⟨h1 i f hf,h2 f (List.mem_of_getElem? hf)⟩⟩
theorem Yi(hlen:p.funcs.length≤50000)(hb: ∀f∈p.funcs,EY f.body≤1000000∧f.params.length≤1000000):ET (fun N=>HQ N p) fun r=>r.why=0↔Z2 p:=by
 unfold HQ
 refine ET.bind (XO hlen hb) fun l hl=>?_
 have loop: ∀(j i:Nat),i+j=l.length→∀(y a:Int),EL (fun _N k=>HP l k (i:Int) y a) fun r=>r.why=0↔y=0∧i=l.length:=by
  intro j
  induction j with
  |zero=>
   intro i hi y a
   refine EL.down ?_
   show EL (fun _N k=>Hf l (HP l k) i y a) _
   unfold Hf
   exact EL.cond (fun h=>by have:=CN h;omega) fun _=> .some ⟨fun h=>⟨h,by omega⟩,fun h=>h.1⟩
  |succ j ihj=>
   intro i hi y a
   obtain ⟨x,hx⟩: ∃x,l[i]?=some x:=⟨_,List.getElem?_eq_getElem (by omega)⟩
   have hy:=hl.1.1 x (List.mem_of_getElem? hx)
   have hll:=hl.1.2
   refine EL.down ?_
   show EL (fun _N k=>Hf l (HP l k) i y a) _
   unfold Hf J4 J3
   rw [wr (by omega) (by omega),show (i:Int)+1=((i+1:Nat):Int) by omega]
   have no: ∀{y':Int},y'≠0→∀{r:AD},(r.why=0↔y'=0∧i+1=l.length)→(r.why=0↔y=0∧i=l.length):=fun hy' _ hr=>hr.trans ⟨fun h=>absurd h.1 hy',fun h=>by omega⟩
   refine EL.cond (fun _=>EL.cond (fun _=>EL.cond (fun _=>EL.eq (CD hx) ((ihj (i+1) (by omega) x.why x.at_).mono fun r hr=>no hy hr)) fun h=>by cases h) fun h=>EL.eq (CD hx) (EL.cond (fun _=>EL.eq (CD hx) ((ihj (i+1) (by omega) x.why x.at_).mono fun r hr=>no hy hr)) fun _=>(ihj (i+1) (by omega) y a).mono fun r hr=>no (Bh h) hr)) fun h=>by have:=Dn h;omega
 refine (loop l.length 0 (by omega) 0 0).diag.mono fun r hr=>hr.trans ?_
 rw [←hl.2]
 constructor
 ·rintro ⟨_,h⟩;exact List.length_eq_zero_iff.1 h.symm
 ·intro h;subst h;exact ⟨rfl,rfl⟩
end
end Fth
namespace Fth
open Go
def TyE(Γ:List AH):Prop:=∀x∈Γ,1≤x.type_∧x.type_≤3
theorem Uj{Γ:List AH}{e:AE}(hΓ:TyE Γ)(he:WE e)(i:Nat):TyE (Win Γ e i)∧(Win Γ e i).length≤Γ.length+2:=by
 unfold Win
 split
 ·rename_i h
  refine ⟨fun x hx=>?_,by simp⟩
  rcases List.mem_cons.1 hx with rfl|hx
  ·exact he.typ (by omega)
  ·exact hΓ x hx
 ·split
  ·refine ⟨fun x hx=>?_,by simp⟩
   rcases List.mem_cons.1 hx with rfl|hx
   ·exact ⟨by simp,by simp⟩
   ·rcases List.mem_cons.1 hx with rfl|hx
    ·exact ⟨by simp,by simp⟩
    ·exact hΓ x hx
  ·exact ⟨hΓ,by omega⟩
theorem ABf{p:AM}(hp:WP p){e:AE}(he:WE e){t:Int}(ht:1≤t∧t≤3)(i:Nat):1≤Wan p e i t∧Wan p e i t≤3:=by
 unfold Wan
 split
 ·omega
 ·split
  ·omega
  ·split
   ·cases hh:hd p e.name with
    |none=>simp
    |some f=>
     have hf:=hp.fns f (List.mem_of_find?_eq_some hh)
     cases hx:f.params[i]? with
     |none=>simp [hx]
     |some x=>simpa [hx] using hf.ptyp x (List.mem_of_getElem? hx)
   ·split
    ·split<;>omega
    ·split
     ·split<;>omega
     ·split
      ·rename_i h
       have:=he.typ (by omega)
       split<;>omega
      ·omega
theorem Yj{α:Type}(a b:List α)(x:α):((a++x::b).reverse)[b.length]?=some x:=by
 rw [List.reverse_append,List.reverse_cons,List.append_assoc,List.getElem?_append_right (by simp)]
 simp
section
variable{p:AM}(hp:WP p)
theorem Z8{Γ:List AH}{e:AE}(hl:Γ.length≤1000000000): ∀(Γ2 Γ1:List AH),Γ=Γ1++Γ2→∀k,Γ2.length<k→JQ Γ.reverse e k ((Γ2.length:Int) - 1)=some ((QN Γ2 e.name).getD (-1)):=by
 intro Γ2
 induction Γ2 with
 |nil=>
  intro Γ1 h k hk
  obtain ⟨k,rfl⟩: ∃j,k=j+1:=⟨k - 1,by simp at hk;omega⟩
  rfl
 |cons x Γ2 ih=>
  intro Γ1 h k hk
  obtain ⟨k,rfl⟩: ∃j,k=j+1:=⟨k - 1,by simp at hk;omega⟩
  show KW Γ.reverse e (JQ Γ.reverse e k) (((x::Γ2).length:Int) - 1)=_
  unfold KW
  have hlen:Γ2.length<1000000000:=by rw [h] at hl;simp at hl;omega
  have e1:(((x::Γ2).length:Nat):Int) - 1=(Γ2.length:Int):=by simp
  have hat:Γ.reverse[Γ2.length]?=some x:=by rw [h];exact Yj _ _ _
  rw [e1,show decide ((Γ2.length:Int)≥0)=true from decide_eq_true (by omega),cond_true,CD hat,Option.bind_some,wr (by omega) (by omega)]
  unfold QN
  rw [List.find?_cons]
  cases hn:(x.name==e.name)
  ·rw [cond_false]
   exact ih (Γ1++[x]) (by rw [h];simp) k (by simp at hk;omega)
  ·rfl
include hp
theorem ABu{Γ:List AH}{e:AE}{t:Int}(hΓ:TyE Γ)(hl:Γ.length≤1000000000)(he:WE e)(ht:1≤t∧t≤3):ET (fun N=>JC N p Γ.reverse e) fun o=>(o=0∨o=t)↔OwT p Γ e t:=by
 have j1: ∀b,(b=true↔(e.op=1∨(8≤e.op∧e.op≤11)∨(15≤e.op∧e.op≤17)))→ET (fun N=>FF N p Γ.reverse e b) fun o=>(o=0∨o=t)↔OwT p Γ e t:=by
  intro b hb
  have j2: ∀b',b=false→(b'=true↔(e.op=2∨e.op=3∨(12≤e.op∧e.op≤14)))→ET (fun N=>Hr N p Γ.reverse e b') fun o=>(o=0∨o=t)↔OwT p Γ e t:=by
   intro b' hbf hb'
   have n1: ¬(e.op=1∨(8≤e.op∧e.op≤11)∨(15≤e.op∧e.op≤17)):=fun h=>by have:=hb.2 h;rw [hbf] at this;cases this
   have j3: ∀b'',b'=false→(b''=true↔(e.op=4∨e.op=18))→ET (fun N=>KH N p Γ.reverse e b'') fun o=>(o=0∨o=t)↔OwT p Γ e t:=by
    intro b'' hbf' hb''
    have n2: ¬(e.op=2∨e.op=3∨(12≤e.op∧e.op≤14)):=fun h=>by have:=hb'.2 h;rw [hbf'] at this;cases this
    unfold KH
    refine ET.cond (fun h=> .some ?_) fun h=>?_
    ·have h:=hb''.1 h
     exact ⟨fun h'=>⟨fun h=>absurd h n1,fun h=>absurd h n2,fun _=>by omega,fun h'=>by omega,fun h'=>by omega,fun h'=>by omega⟩,fun h'=> .inr (h'.l h).symm⟩
    have n3: ¬(e.op=4∨e.op=18):=fun h'=>by have:=hb''.2 h';rw [h] at this;cases this
    refine ET.cond (fun h=> .some ?_) fun h5=>ET.cond (fun h=>?_) fun h6=>ET.cond (fun h=>?_) fun h7=> .some ?_
    ·have h5:=B7 h
     have:=he.typ (.inl h5)
     exact ⟨fun h'=>⟨fun h=>absurd h n1,fun h=>absurd h n2,fun h=>absurd h n3,fun _=>by omega,fun h'=>by omega,fun h'=>by omega⟩,fun h'=> .inr (h'.f h5).symm⟩
    ·have h6:=B7 h
     refine Qb (Γ.length+2) ⟨(QN Γ e.name).getD (-1),?_,fun N hN=>?_⟩
     ·cases hlk:QN Γ e.name with
      |none=>exact ⟨fun h'=>by simp at h';omega,fun h'=>by have:=h'.v h6;rw [hlk] at this;cases this⟩
      |some u=>
       have hu:1≤u∧u≤3:=by
        unfold QN at hlk
        obtain ⟨x,hx,rfl⟩:=Option.map_eq_some_iff.1 hlk
        exact hΓ x (List.mem_of_find?_eq_some hx)
       refine ⟨fun h'=>⟨fun h=>absurd h n1,fun h=>absurd h n2,fun h=>absurd h n3,fun h'=>by omega,fun _=>?_,fun h'=>by omega⟩,fun h'=>?_⟩
       ·simp at h';rw [hlk];congr 1;omega
       ·have:=h'.v h6;rw [hlk] at this;cases this;exact .inr rfl
     ·have:=Z8 (e:=e) hl Γ [] rfl N (by omega)
      rw [wr (by simp;omega) (by simp;omega),List.length_reverse]
      exact this
    ·have h7:=B7 h
     have hl:=hp.len
     refine ET.bind (P:=fun r=>r=hdR (hd p e.name)) (Qb (p.funcs.length+2) ⟨_,rfl,fun N hN=>Pj (by omega) hN⟩) fun r hr=>?_
     subst hr
     unfold K7
     cases hh:hd p e.name with
     |none=>exact .some ⟨fun h=>by omega,fun h'=>by obtain ⟨f,hf,_⟩:=h'.c h7;rw [hh] at hf;cases hf⟩
     |some f=>
      have hf:=hp.fns f (List.mem_of_find?_eq_some hh)
      refine ET.cond (fun h=>by cases h) fun _=>ET.cond (fun h=> .some ?_) fun h=> .some ?_
      ·have h:=Ko h
       exact ⟨fun h=>by omega,fun h'=>by obtain ⟨g,hg,hgl,_⟩:=h'.c h7;rw [hh] at hg;cases hg;exact absurd (congrArg Int.ofNat hgl) h⟩
      ·have h:=JK h
       have:=hf.typ
       refine ⟨fun h'=>⟨fun h=>absurd h n1,fun h=>absurd h n2,fun h=>absurd h n3,fun h'=>by omega,fun h'=>by omega,fun _=>⟨f,hh,?_,?_⟩⟩,fun h'=>?_⟩
       ·have:(f.params.length:Int)=e.args.length:=h;omega
       ·have h':f.type_=0∨f.type_=t:=h';omega
       ·obtain ⟨g,hg,_,hgt⟩:=h'.c h7;rw [hh] at hg;cases hg;exact .inr hgt
    ·have h5:=Bh h5;have h6:=Bh h6;have h7:=Bh h7
     exact ⟨fun _=>⟨fun h=>absurd h n1,fun h=>absurd h n2,fun h=>absurd h n3,fun h=>absurd h h5,fun h=>absurd h h6,fun h=>absurd h h7⟩,fun _=> .inl rfl⟩
   unfold Hr
   refine ET.cond (fun h=> .some ?_) fun h=>?_
   ·have h:=hb'.1 h
    exact ⟨fun h'=>⟨fun h=>absurd h n1,fun _=>by omega,fun h'=>by omega,fun h'=>by omega,fun h'=>by omega,fun h'=>by omega⟩,fun h'=> .inr (h'.b h).symm⟩
   ·refine ET.cond (fun h4=>j3 _ h ⟨fun _=> .inl (B7 h4),fun _=>h4⟩) fun h4=>j3 _ h ⟨fun h=> .inr (B7 h),fun h=>?_⟩
    rcases h with h|h
    ·exact absurd h (Bh h4)
    ·simp [h]
  unfold FF
  refine ET.cond (fun h=> .some ?_) fun h=>?_
  ·have h:=hb.1 h
   exact ⟨fun h'=>⟨fun _=>by omega,fun h'=>by omega,fun h'=>by omega,fun h'=>by omega,fun h'=>by omega,fun h'=>by omega⟩,fun h'=> .inr (h'.n h).symm⟩
  ·refine ET.cond (fun h2=>j2 _ h ⟨fun _=>by have:=B7 h2;omega,fun _=>h2⟩) fun h2=>ET.cond (fun h3=>j2 _ h ⟨fun _=>by have:=B7 h3;omega,fun _=>h3⟩) fun h3=>ET.cond (fun h4=>j2 _ h ⟨fun _=>by have:=B7 h4;omega,fun _=>h4⟩) fun h4=>ET.cond (fun h5=>j2 _ h ⟨fun _=>by have:=B7 h5;omega,fun _=>h5⟩) fun h5=>j2 _ h ⟨fun h6=>by have:=B7 h6;omega,fun h6=>?_⟩
   have:=Bh h2;have:=Bh h3;have:=Bh h4;have:=Bh h5
   simp;omega
 unfold JC
 have yes: ∀{k:Int},(k=1∨(8≤k∧k≤11)∨(15≤k∧k≤17))→(e.op==k)=true→ET (fun N=>FF N p Γ.reverse e (e.op==k)) fun o=>(o=0∨o=t)↔OwT p Γ e t:=fun hk h=>j1 _ ⟨fun _=>by have:=B7 h;omega,fun _=>h⟩
 refine ET.cond (fun h=>yes (by omega) h) fun h1=>ET.cond (fun h=>yes (by omega) h) fun h2=>ET.cond (fun h=>yes (by omega) h) fun h3=>ET.cond (fun h=>yes (by omega) h) fun h4=>ET.cond (fun h=>yes (by omega) h) fun h5=>ET.cond (fun h=>yes (by omega) h) fun h6=>ET.cond (fun h=>yes (by omega) h) fun h7=>j1 _ ⟨fun h=>by have:=B7 h;omega,fun h=>?_⟩
 have:=Bh h1;have:=Bh h2;have:=Bh h3;have:=Bh h4;have:=Bh h5;have:=Bh h6;have:=Bh h7
 simp;omega
omit hp in
theorem Yk{l:List AH}{nm:List UInt8}{t:Int}(h:l.length≤1000000100):Gu l nm t=some (l++[⟨nm,t,0⟩]):=by
 unfold Gu
 obtain ⟨_,e1,_⟩:=GS (b:=32) (xs:=([]:List AH)) (ys:=l) (by decide) (by simp;omega)
 obtain ⟨_,e2,_⟩:=GS (b:=32) (xs:=([]:List AH)++l) (ys:=[AH.mk nm t 0]) (by decide) (by simp;omega)
 rw [e1,Option.bind_some,e2,Option.bind_some,List.nil_append]
omit hp in
theorem Yl{Γ:List AH}{e:AE}(hl:Γ.length≤1000000000)(i:Nat):GL Γ.reverse e (i:Int)=some (Win Γ e i).reverse:=by
 unfold GL IY Jc Win
 have e1:((i:Int)==1)=decide (i=1):=by rw [Bool.eq_iff_iff];simp;omega
 have e2:((i:Int)==2)=decide (i=2):=by rw [Bool.eq_iff_iff];simp;omega
 rw [e1,e2,Yk (by rw [List.length_reverse];omega),Yk (by rw [List.length_reverse];omega)]
 simp only [Option.bind_some]
 rw [Yk (by simp;omega)]
 cases h1:(e.op==21)
 ·have h1:=Bh h1
  cases h2:(e.op==22)
  ·have h2:=Bh h2
   rw [if_neg (by omega)]
   cases h3:(e.op==20)
   ·have h3:=Bh h3
    rw [if_neg (by omega)];rfl
   ·have h3:=B7 h3
    cases h4:decide (i=2)
    ·have h4:=Dn h4;rw [if_neg (by omega)];rfl
    ·have h4:=CN h4;rw [if_pos ⟨h3,h4⟩];simp
  ·have h2:=B7 h2
   cases h3:decide (i=1)
   ·have h3:=Dn h3
    rw [if_neg (by omega),if_neg (by omega),show (e.op==20)=false by simp;omega];rfl
   ·have h3:=CN h3
    rw [if_pos (.inr ⟨h2,h3⟩)];simp
 ·have h1:=B7 h1
  rw [if_pos (.inl h1)];simp
theorem Ym{e:AE}{t:Int}(i:Nat):ET (fun N=>GN N p e (i:Int) t) fun r=>r=Wan p e i t:=by
 have hl:=hp.len
 unfold GN Je IZ Wan
 have e1:((i:Int)==1)=decide (i=1):=by rw [Bool.eq_iff_iff];simp;omega
 have e0:((i:Int)==0)=decide (i=0):=by rw [Bool.eq_iff_iff];simp
 rw [e1,e0]
 refine ET.cond (fun h=> .some ?_) fun h14=>ET.cond (fun h=>ET.cond (fun h'=> .some ?_) fun h'=> .some ?_) fun h18=>ET.cond (fun h=>?_) fun h7=>ET.cond (fun h=>ET.cond (fun h'=> .some ?_) fun h'=> .some ?_) fun h19=>ET.cond (fun h=>ET.cond (fun h'=> .some ?_) fun h'=> .some ?_) fun h20=>ET.cond (fun h=>ET.cond (fun h'=>ET.cond (fun h''=> .some ?_) fun h''=> .some ?_) fun h'=>absurd (h.symm.trans h') (by decide)) fun h21=>ET.cond (fun h'=>ET.cond (fun h''=> .some ?_) fun h''=> .some ?_) fun h22=> .some ?_
 ·rw [if_pos (B7 h)]
 ·have:=Bh h14;rw [if_neg (by omega),if_pos ⟨B7 h,CN h'⟩]
 ·have:=Bh h14;have:=B7 h;have:=Dn h';rw [if_neg (by omega),if_neg (by omega),if_neg (by omega),if_neg (by omega),if_neg (by omega),if_neg (by omega)]
 ·have:=Bh h14;have:=Bh h18;have h7:=B7 h
  refine ET.bind (P:=fun r=>r=hdR (hd p e.name)) (Qb (p.funcs.length+2) ⟨_,rfl,fun N hN=>Pj (by omega) hN⟩) fun r hr=>?_
  subst hr
  rw [if_neg (by omega),if_neg (by omega),if_pos h7]
  unfold Jd
  cases hh:hd p e.name with
  |none=>exact .some rfl
  |some f=>
   refine ET.cond (fun _=>ET.cond (fun h'=>?_) fun h'=>?_) fun h=>by cases h
   ·have h':=CN h'
    have h':(i:Int)< (f.params.length:Int):=h'
    obtain ⟨x,hx⟩: ∃x,f.params[i]?=some x:=⟨_,List.getElem?_eq_getElem (by omega)⟩
    refine ET.eq (CD hx) (.some ?_)
    show x.type_=(match f.params[i]? with |some x=>x.type_|none=>1)
    rw [hx]
   ·have h':=Dn h'
    have h': ¬(i:Int)< (f.params.length:Int):=h'
    refine .some ?_
    show 1=(match f.params[i]? with |some x=>x.type_|none=>1)
    rw [List.getElem?_eq_none (by omega)]
 ·have:=Bh h14;have:=Bh h18;have:=Bh h7;rw [if_neg (by omega),if_neg (by omega),if_neg (by omega),if_pos (B7 h),if_pos (CN h')]
 ·have:=Bh h14;have:=Bh h18;have:=Bh h7;rw [if_neg (by omega),if_neg (by omega),if_neg (by omega),if_pos (B7 h),if_neg (Dn h')]
 ·have:=Bh h14;have:=Bh h18;have:=Bh h7;have:=Bh h19;rw [if_neg (by omega),if_neg (by omega),if_neg (by omega),if_neg (by omega),if_pos (B7 h),if_pos (CN h')]
 ·have:=Bh h14;have:=Bh h18;have:=Bh h7;have:=Bh h19;rw [if_neg (by omega),if_neg (by omega),if_neg (by omega),if_neg (by omega),if_pos (B7 h),if_neg (Dn h')]
 ·have:=B7 h;rw [if_neg (by omega),if_neg (by omega),if_neg (by omega),if_neg (by omega),if_neg (by omega),if_pos (by omega),if_pos (CN h'')]
 ·have:=B7 h;rw [if_neg (by omega),if_neg (by omega),if_neg (by omega),if_neg (by omega),if_neg (by omega),if_pos (by omega),if_neg (Dn h'')]
 ·have:=B7 h';rw [if_neg (by omega),if_neg (by omega),if_neg (by omega),if_neg (by omega),if_neg (by omega),if_pos (by omega),if_pos (CN h'')]
 ·have:=B7 h';rw [if_neg (by omega),if_neg (by omega),if_neg (by omega),if_neg (by omega),if_neg (by omega),if_pos (by omega),if_neg (Dn h'')]
 ·have:=Bh h14;have:=Bh h18;have:=Bh h7;have:=Bh h19;have:=Bh h20;have:=Bh h21;have:=Bh h22
  rw [if_neg (by omega),if_neg (by omega),if_neg (by omega),if_neg (by omega),if_neg (by omega),if_neg (by omega)]
omit hp in
theorem Ld{Γ:List AH}{e:AE}{t:Int}:WTy p Γ e t↔OwT p Γ e t∧∀i a,e.args[i]?=some a→WTy p (Win Γ e i) a (Wan p e i t):=
 ⟨fun h=>⟨h.own,h.sub⟩,fun h=> .mk Γ e t h.1 h.2⟩
theorem Z9: ∀(n:Nat) (e:AE),EY e≤n→n≤10000000→WE e→∀(Γ:List AH) (t:Int),TyE Γ→Γ.length+2*n≤1000000000→1≤t∧t≤3→
  ET (fun N=>ref07_wrong N p Γ.reverse e t) fun l=>l.length≤EY e∧(l=[]↔WTy p Γ e t):=by
 intro n
 induction n with
 |zero=>intro e he;have:=Lz e;omega
 |succ n ih=>
  intro e hen hn he Γ t hΓ hl ht
  have hal:=MG e.args
  have hes:=OW e
  refine ET.down ?_
  show ET (fun N=>Jl (BH.at N) N p Γ.reverse e t) _
  have loop: ∀(j i:Nat),i+j=e.args.length→∀(acc:List Int),acc.length≤1+Cv (e.args.take i)→
    EL (fun N k=>HR (BH.at N) N p Γ.reverse e t k acc (i:Int)) fun l=>l.length≤1+Cv e.args∧(l=[]↔acc=[]∧∀i' a,i≤i'→e.args[i']?=some a→WTy p (Win Γ e i') a (Wan p e i' t)):=by
   intro j
   induction j with
   |zero=>
    intro i hi acc hacc
    refine EL.down ?_
    show EL (fun N k=>Hg (BH.at N) N p Γ.reverse e t (HR (BH.at N) N p Γ.reverse e t k) acc i) _
    unfold Hg
    have htk:e.args.take i=e.args:=List.take_of_length_le (by omega)
    refine EL.cond (fun h=>by have:=CN h;omega) fun _=> .some ⟨by rw [htk] at hacc;omega,fun h=>⟨h,fun i' a hi' ha=>?_⟩,fun h=>h.1⟩
    have:=(List.getElem?_eq_some_iff.1 ha).1
    omega
   |succ j ihj=>
    intro i hi acc hacc
    refine EL.down ?_
    show EL (fun N k=>Hg (BH.at N) N p Γ.reverse e t (HR (BH.at N) N p Γ.reverse e t k) acc i) _
    unfold Hg
    obtain ⟨a,ha⟩: ∃a,e.args[i]?=some a:=⟨_,List.getElem?_eq_getElem (by omega)⟩
    have has:=NW (List.mem_of_getElem? ha)
    have htk:Cv (e.args.take (i+1))=Cv (e.args.take i)+EY a:=by rw [List.take_add_one,ha];simp [Jm,Cv]
    have htk2:Cv (e.args.take (i+1))≤Cv e.args:=by
     have:=Jm (e.args.take (i+1)) (e.args.drop (i+1))
     rw [List.take_append_drop] at this;omega
    have hwin:=Uj hΓ he i
    refine EL.cond (fun _=>?_) fun h=>by have:=Dn h;omega
    refine EL.eq (CD ha) (EL.eq (Yl (by omega) i) (EL.bind (Ym hp i) fun w hw=>?_))
    subst hw
    refine EL.bind (ih a (by omega) (by omega) (he.sub a (List.mem_of_getElem? ha)) (Win Γ e i) _ hwin.1 (by omega) (ABf hp he ht i)) fun l hl=>?_
    refine EL.tb (GS (by decide) (by omega)) fun _ _=>?_
    rw [wr (by omega) (by omega),show (i:Int)+1=((i+1:Nat):Int) by omega]
    refine (ihj (i+1) (by omega) (acc++l) (by rw [List.length_append,htk];omega)).mono fun r hr=>⟨hr.1,?_⟩
    rw [hr.2,List.append_eq_nil_iff,hl.2]
    constructor
    ·rintro ⟨⟨h1,h2⟩,h3⟩
     refine ⟨h1,fun i' b hi' hb=>?_⟩
     rcases Nat.eq_or_lt_of_le hi' with rfl|hlt
     ·rw [ha] at hb;cases hb;exact h2
     ·exact h3 i' b hlt hb
    ·rintro ⟨h1,h2⟩
     exact ⟨⟨h1,h2 i a (Nat.le_refl _) ha⟩,fun i' b hi' hb=>h2 i' b (by omega) hb⟩
  unfold Jl
  refine ET.bind (ABu hp hΓ (by omega) he ht) fun o ho=>?_
  have fin: ∀(acc:List Int),acc.length≤1→(acc=[]↔OwT p Γ e t)→ET (fun N=>JD (BH.at N) N p Γ.reverse e t acc) fun l=>l.length≤EY e∧(l=[]↔WTy p Γ e t):=by
   intro acc h1 h2
   unfold JD
   refine (loop e.args.length 0 (by omega) acc (by omega)).diag.mono fun r hr=>⟨by omega,?_⟩
   rw [hr.2,h2,Ld]
   exact ⟨fun h=>⟨h.1,fun i a ha=>h.2 i a (Nat.zero_le _) ha⟩,fun h=>⟨h.1,fun i a _ ha=>h.2 i a ha⟩⟩
  unfold J6
  refine ET.cond (fun h=>ET.cond (fun h'=>ET.tb (GS (by decide) (by simp)) fun _ _=>fin _ (by simp) ⟨fun h=>by simp at h,fun h''=>?_⟩) fun h'=>fin [] (by simp) ⟨fun _=>ho.1 (.inr (JK h')),fun _=>rfl⟩) fun h=>ET.cond (fun h'=>by cases h') fun _=>fin [] (by simp) ⟨fun _=>ho.1 (.inl (JK h)),fun _=>rfl⟩
  rcases ho.2 h'' with h0|h0
  ·exact absurd h0 (Ko h)
  ·exact absurd h0 (Ko h')
def Su(p:AM):Prop:=Z2 p∧∀f∈p.funcs,WTy p f.params.reverse f.body f.type_
theorem VN:ET (fun N=>Em N p) fun r=>r.why=0↔Su p:=by
 have hb: ∀f∈p.funcs,EY f.body≤1000000∧f.params.length≤1000000:=fun f hf=>⟨(hp.fns f hf).size,(hp.fns f hf).pars⟩
 have hlen:=hp.len
 unfold Em
 refine ET.bind (Yi hlen hb) fun r hr=>ET.cond (fun h=> .some ⟨fun h'=>absurd h' (Ko h),fun h'=>hr.2 h'.1⟩) fun h=>?_
 have h:=JK h
 have hsc:=hr.1 h
 have fns: ∀(j i:Nat),i+j=p.funcs.length→∀(y a:Int),EL (fun N k=>B4 N p k (i:Int) y a) fun r=>r.why=0↔y=0∧∀i' f,i≤i'→p.funcs[i']?=some f→WTy p f.params.reverse f.body f.type_:=by
  intro j
  induction j with
  |zero=>
   intro i hi y a
   refine EL.down ?_
   show EL (fun N k=>Hh N p (B4 N p k) i y a) _
   unfold Hh
   refine EL.cond (fun h=>by have:=CN h;omega) fun _=> .some ⟨fun h=>⟨h,fun i' f hi' hf=>by have:=(List.getElem?_eq_some_iff.1 hf).1;omega⟩,fun h=>h.1⟩
  |succ j ihj=>
   intro i hi y a
   obtain ⟨f,hf⟩: ∃f,p.funcs[i]?=some f:=⟨_,List.getElem?_eq_getElem (by omega)⟩
   have hfn:=hp.fns f (List.mem_of_getElem? hf)
   have hfs:=hfn.size
   have hfp:=hfn.pars
   refine EL.down ?_
   show EL (fun N k=>Hh N p (B4 N p k) i y a) _
   unfold Hh
   refine EL.cond (fun _=>?_) fun h=>by have:=Dn h;omega
   refine EL.eq (CD hf) ?_
   rw [PH]
   have hΓ:TyE f.params.reverse:=fun x hx=>hfn.ptyp x (List.mem_reverse.1 hx)
   have hw:=Z9 hp (EY f.body) f.body (Nat.le_refl _) (by omega) hfn.body f.params.reverse f.type_ hΓ (by rw [List.length_reverse];omega) hfn.typ
   rw [List.reverse_reverse] at hw
   refine EL.bind hw fun l hl=>?_
   have inner: ∀(q t:Nat),t+q=l.length→∀(y a:Int),∃y' a',(y'=0↔y=0∧t=l.length)∧∃n0,∀N k kk,n0≤kk→El i (B4 N p k) l kk (t:Int) y a=B4 N p k ((i+1:Nat):Int) y' a':=by
    intro q
    induction q with
    |zero=>
     intro t ht y a
     refine ⟨y,a,⟨fun h=>⟨h,by omega⟩,fun h=>h.1⟩,1,fun N k kk hkk=>?_⟩
     obtain ⟨kk,rfl⟩: ∃j,kk=j+1:=⟨kk - 1,by omega⟩
     show EM i (B4 N p k) l (El i (B4 N p k) l kk) t y a=_
     unfold EM
     rw [show decide ((t:Int)< (l.length:Int))=false from decide_eq_false (by omega),cond_false,wr (by omega) (by omega),show (i:Int)+1=((i+1:Nat):Int) by omega]
    |succ q ihq=>
     intro t ht y a
     obtain ⟨x,hx⟩: ∃x,l[t]?=some x:=⟨_,List.getElem?_eq_getElem (by omega)⟩
     have hll:=hl.1
     have e1:IntKind.i64.wrap ((t:Int)+1)=((t+1:Nat):Int):=by rw [wr (by omega) (by omega)];omega
     have take: ∃y' a',(y'=0↔y=0∧t=l.length)∧∃n0,∀N k kk,n0≤kk→El i (B4 N p k) l kk ((t+1:Nat):Int) 34 x=B4 N p k ((i+1:Nat):Int) y' a':=by
      obtain ⟨y',a',h1,n0,h2⟩:=ihq (t+1) (by omega) 34 x
      exact ⟨y',a',⟨fun h=>absurd (h1.1 h).1 (by decide),fun h=>by omega⟩,n0,h2⟩
     cases hy:(y==0)
     ·have hy':=Bh hy
      cases hlt:decide (x<a)
      ·obtain ⟨y',a',h1,n0,h2⟩:=ihq (t+1) (by omega) y a
       refine ⟨y',a',⟨fun h=>absurd (h1.1 h).1 hy',fun h=>by omega⟩,n0+1,fun N k kk hkk=>?_⟩
       obtain ⟨kk,rfl⟩: ∃j,kk=j+1:=⟨kk - 1,by omega⟩
       show EM i (B4 N p k) l (El i (B4 N p k) l kk) t y a=_
       unfold EM IK IJ
       rw [show decide ((t:Int)< (l.length:Int))=true from decide_eq_true (by omega),cond_true,hy,cond_false,CD hx,Option.bind_some,hlt,cond_false,e1]
       exact h2 N k kk (by omega)
      ·obtain ⟨y',a',h1,n0,h2⟩:=take
       refine ⟨y',a',h1,n0+1,fun N k kk hkk=>?_⟩
       obtain ⟨kk,rfl⟩: ∃j,kk=j+1:=⟨kk - 1,by omega⟩
       show EM i (B4 N p k) l (El i (B4 N p k) l kk) t y a=_
       unfold EM IK IJ
       rw [show decide ((t:Int)< (l.length:Int))=true from decide_eq_true (by omega),cond_true,hy,cond_false,CD hx,Option.bind_some,hlt,cond_true,Option.bind_some,e1]
       exact h2 N k kk (by omega)
     ·obtain ⟨y',a',h1,n0,h2⟩:=take
      refine ⟨y',a',h1,n0+1,fun N k kk hkk=>?_⟩
      obtain ⟨kk,rfl⟩: ∃j,kk=j+1:=⟨kk - 1,by omega⟩
      show EM i (B4 N p k) l (El i (B4 N p k) l kk) t y a=_
      unfold EM IK IJ
      rw [show decide ((t:Int)< (l.length:Int))=true from decide_eq_true (by omega),cond_true,hy,cond_true,cond_true,CD hx,Option.bind_some,e1]
      exact h2 N k kk (by omega)
   obtain ⟨y',a',h1,n0,h2⟩:=inner l.length 0 (by omega) y a
   obtain ⟨r,hr,n1,h3⟩:=ihj (i+1) (by omega) y' a'
   refine ⟨r,hr.trans ?_,n0+n1,fun N k hN hk=>?_⟩
   ·rw [h1]
    have hz:(0=l.length)↔WTy p f.params.reverse f.body f.type_:=by
     rw [←hl.2]
     exact ⟨fun h=>List.length_eq_zero_iff.1 h.symm,fun h=>by rw [h];rfl⟩
    rw [hz]
    constructor
    ·rintro ⟨⟨h1,h2⟩,h3⟩
     refine ⟨h1,fun i' g hi' hg=>?_⟩
     rcases Nat.eq_or_lt_of_le hi' with rfl|hlt
     ·rw [hf] at hg;cases hg;exact h2
     ·exact h3 i' g hlt hg
    ·rintro ⟨h1,h2⟩
     exact ⟨⟨h1,h2 i f (Nat.le_refl _) hf⟩,fun i' g hi' hg=>h2 i' g (by omega) hg⟩
   ·exact (h2 N k N (by omega)).trans (h3 N k (by omega) (by omega))
 refine (fns p.funcs.length 0 (by omega) r.why r.at_).diag.mono fun q hq=>hq.trans ⟨fun h'=>⟨hsc,fun f hf=>?_⟩,fun h'=>⟨h,fun i' f _ hf=>h'.2 f (List.mem_of_getElem? hf)⟩⟩
 obtain ⟨i,hi⟩:=List.mem_iff_getElem?.1 hf
 exact h'.2 i f (Nat.zero_le _) hi
end
end Fth
namespace Fth
open Go
theorem ABg{α:Type}{P:Nat→α→Prop}{a b:α}:(∀i x,[a,b][i]?=some x→P i x)↔P 0 a∧P 1 b:=by
 constructor
 ·intro h;exact ⟨h 0 a rfl,h 1 b rfl⟩
 ·intro h i x hx
  match i,hx with
  |0,hx=>cases hx;exact h.1
  |1,hx=>cases hx;exact h.2
theorem ABv{α:Type}{P:Nat→α→Prop}{a b c:α}:(∀i x,[a,b,c][i]?=some x→P i x)↔P 0 a∧P 1 b∧P 2 c:=by
 constructor
 ·intro h;exact ⟨h 0 a rfl,h 1 b rfl,h 2 c rfl⟩
 ·intro h i x hx
  match i,hx with
  |0,hx=>cases hx;exact h.1
  |1,hx=>cases hx;exact h.2.1
  |2,hx=>cases hx;exact h.2.2
section
variable{p:AM}
theorem AAA(hlen:p.funcs.length≤50000)(flt:AD):ET (fun N=>Jw N p flt) fun r=>r.2.1=p.funcs∧Pl p r.2.2.2:=by
 have loop: ∀(i:Nat),i≤p.funcs.length→∀(m:Ak),(∀nm,((∀k f,i≤k→p.funcs[k]?=some f→f.name≠nm)∧CR m nm=0)∨∃(k:Nat) (f:AK),i≤k∧p.funcs[k]?=some f∧f.name=nm∧(∀k' f',i≤k'→k'<k→p.funcs[k']?=some f'→f'.name≠nm)∧CR m nm=(k:Int)+1)→
   EL (fun _N k=>Hw p k ((i:Int) - 1) m) fun r=>r.2.1=p.funcs∧Pl p r.2.2.2:=by
  intro i
  induction i with
  |zero=>
   intro _ m hm
   refine EL.down ?_
   show EL (fun _N k=>IA p (Hw p k) (((0:Nat):Int) - 1) m) _
   unfold IA
   refine EL.cond (fun h=>by have:=CN h;omega) fun _=> .some ⟨rfl,fun nm=>?_⟩
   rcases hm nm with ⟨h1,h2⟩| ⟨k,f,_,h2,h3,h4,h5⟩
   ·refine .inl ⟨Ui fun h=>?_,h2⟩
    obtain ⟨f,hf,hfn⟩:=List.mem_map.1 h
    obtain ⟨k,hk⟩:=List.mem_iff_getElem?.1 hf
    exact h1 k f (Nat.zero_le _) hk hfn
   ·refine .inr ⟨k,f,h2,RQ h2 h3 fun h=>?_,h5⟩
    obtain ⟨g,hg,hgn⟩:=List.mem_map.1 h
    rw [List.mem_take_iff_getElem] at hg
    obtain ⟨q,hq,hqe⟩:=hg
    exact h4 q g (Nat.zero_le _) (by omega) (by rw [List.getElem?_eq_getElem (by omega),hqe]) hgn
  |succ i ih=>
   intro hi m hm
   obtain ⟨f,hf⟩: ∃f,p.funcs[i]?=some f:=⟨_,List.getElem?_eq_getElem (by omega)⟩
   refine EL.down ?_
   show EL (fun _N k=>IA p (Hw p k) (((i+1:Nat):Int) - 1) m) _
   unfold IA
   rw [show ((i+1:Nat):Int) - 1=(i:Int) by omega]
   refine EL.cond (fun _=>?_) fun h=>by have:=Dn h;omega
   refine EL.eq (CD hf) ?_
   rw [wr (by omega) (by omega),wr (by omega) (by omega)]
   refine ih (by omega) _ fun nm=>?_
   rw [L1]
   cases hn:(nm==f.name)
   ·have hne:nm≠f.name:=by simpa using hn
    rw [cond_false]
    rcases hm nm with ⟨h1,h2⟩| ⟨k,g,h1,h2,h3,h4,h5⟩
    ·refine .inl ⟨fun k g hk hg e=>?_,h2⟩
     rcases Nat.eq_or_lt_of_le hk with rfl|hlt
     ·rw [hf] at hg;cases hg;exact hne e.symm
     ·exact h1 k g hlt hg e
    ·refine .inr ⟨k,g,by omega,h2,h3,fun k' g' hk1 hk2 hg' e=>?_,h5⟩
     rcases Nat.eq_or_lt_of_le hk1 with rfl|hlt
     ·rw [hf] at hg';cases hg';exact hne e.symm
     ·exact h4 k' g' hlt hk2 hg' e
   ·have hne:nm=f.name:=by simpa using hn
    rw [cond_true]
    exact .inr ⟨i,f,Nat.le_refl _,hf,hne.symm,fun k' g' h1 h2=>by omega,rfl⟩
 have:=(loop p.funcs.length (Nat.le_refl _) [] fun nm=> .inl ⟨fun k f hk hf=>by have:=(List.getElem?_eq_some_iff.1 hf).1;omega,Sq nm⟩).diag
 refine this.cg fun N=>?_
 unfold Jw
 rw [wr (by omega) (by omega)]
theorem Yn{a:Int}{flt:AD}:T (Fd a flt) fun r=>r.why≠0:=by
 unfold Fd I6
 exact T.cond (fun _=>T.cond (fun _=> .some (show (34:Int)≠0 by decide)) fun h=>by cases h) fun h=>T.cond (fun _=> .some (show (34:Int)≠0 by decide)) fun _=> .some (Bh h)
theorem Yo{e:AE}{t o:Int}{fs:List AK}{env:List AH}{y a:Int}:T (CM e t o fs env y a) fun r=>r.1=fs∧r.2.1=env∧(r.2.2.why=0↔y=0∧o=t):=by
 unfold CM
 refine T.cond (fun h=>T.bind Yn fun r hr=> .some ⟨rfl,rfl,fun h'=>absurd h' hr,fun h'=>absurd h'.2 (Ko h)⟩) fun h=> .some ⟨rfl,rfl,fun h'=>⟨h',JK h⟩,fun h'=>h'.1⟩
def Wn(p:AM)(Γ:List AH)(flt:AD)(A:Prop)(r:List AK×List AH×AD):Prop:=r.1=p.funcs∧r.2.1=Γ.reverse∧(r.2.2.why=0↔flt.why=0∧A)
def Wo(p:AM)(Γ:List AH)(flt:AD)(t:Int)(A:Prop)(r:Int×List AK×List AH×AD):Prop:=r.2.1=p.funcs∧r.2.2.1=Γ.reverse∧((r.2.2.2.why=0∧r.1=t)↔flt.why=0∧A)
theorem ABh{Γ:List AH}{e:AE}{fs:List AK}{flt:AD}(hl:Γ.length≤1000000000): ∀(Γ2 Γ1:List AH),Γ=Γ1++Γ2→∀k,Γ2.length<k→Ei fs Γ.reverse flt e k ((Γ2.length:Int) - 1)=some ((QN Γ2 e.name).getD 0,fs,Γ.reverse,flt):=by
 intro Γ2
 induction Γ2 with
 |nil=>
  intro Γ1 h k hk
  obtain ⟨k,rfl⟩: ∃j,k=j+1:=⟨k - 1,by simp at hk;omega⟩
  rfl
 |cons x Γ2 ih=>
  intro Γ1 h k hk
  obtain ⟨k,rfl⟩: ∃j,k=j+1:=⟨k - 1,by simp at hk;omega⟩
  show Gh fs Γ.reverse flt e (Ei fs Γ.reverse flt e k) (((x::Γ2).length:Int) - 1)=_
  unfold Gh
  have hlen:Γ2.length<1000000000:=by rw [h] at hl;simp at hl;omega
  have e1:(((x::Γ2).length:Nat):Int) - 1=(Γ2.length:Int):=by simp
  have hat:Γ.reverse[Γ2.length]?=some x:=by rw [h];exact Yj _ _ _
  rw [e1,show decide ((Γ2.length:Int)≥0)=true from decide_eq_true (by omega),cond_true,CD hat,Option.bind_some,Option.bind_some,wr (by omega) (by omega)]
  unfold QN
  rw [List.find?_cons]
  cases hn:(x.name==e.name)
  ·rw [cond_false]
   exact ih (Γ1++[x]) (by rw [h];simp) k (by simp at hk;omega)
  ·rfl
variable(hp:WP p){mp:Ak}(hmp:Pl p mp)
include hp hmp
theorem Yp: ∀(n:Nat) (e:AE),EY e≤n→n≤10000000→WE e→∀(Γ:List AH) (t:Int) (flt:AD),TyE Γ→Γ.length+2*n≤1000000000→1≤t∧t≤3→
  ET (fun N=>types_checker_want N p.funcs Γ.reverse mp flt e t) (Wn p Γ flt (WTy p Γ e t)):=by
 intro n
 induction n with
 |zero=>intro e he;have:=Lz e;omega
 |succ n ih=>
  intro e hen hn he Γ t flt hΓ hl ht
  have hal:=MG e.args
  have hes:=OW e
  have hfl:=hp.len
  have mem: ∀{i:Nat} {a:AE},e.args[i]?=some a→WE a∧EY a≤n:=fun h=>⟨he.sub _ (List.mem_of_getElem? h),by have:=NW (List.mem_of_getElem? h);omega⟩
  have one: ∀{i:Nat} {a:AE},e.args[i]?=some a→∀(Δ:List AH) (u:Int) (flt:AD),TyE Δ→Δ.length≤Γ.length+2→1≤u∧u≤3→ET (fun N=>types_checker_want N p.funcs Δ.reverse mp flt a u) (Wn p Δ flt (WTy p Δ a u)):=
   fun h Δ u flt h1 h2 h3=>ih _ (mem h).2 (by omega) (mem h).1 Δ u flt h1 (by omega) h3
  have alls: ∀(l:List AE),(∀a∈l,a∈e.args)→l.length≤e.args.length→∀(u:Int) (flt:AD),1≤u∧u≤3→ET (fun N=>types_checker_all N p.funcs Γ.reverse mp flt u l) (Wn p Γ flt (∀a∈l,WTy p Γ a u)):=by
   intro l hl1 hl2 u flt hu
   refine ET.down ?_
   show ET (fun N=>Dh (AF.at N) mp u l N 0 p.funcs Γ.reverse flt.why flt.at_) _
   have loop: ∀(j i:Nat),i+j=l.length→∀(fs:List AK) (env:List AH) (f:AD),fs=p.funcs→env=Γ.reverse→EL (fun N k=>Dh (AF.at N) mp u l k (i:Int) fs env f.why f.at_) (Wn p Γ f (∀i' a,i≤i'→l[i']?=some a→WTy p Γ a u)):=by
    intro j
    induction j with
    |zero=>
     intro i hi fs env f hfs henv
     subst hfs;subst henv
     refine EL.down ?_
     show EL (fun N k=>EQ (AF.at N) mp u l (Dh (AF.at N) mp u l k) i p.funcs Γ.reverse f.why f.at_) _
     unfold EQ
     refine EL.cond (fun h=>by have:=CN h;omega) fun _=> .some ⟨rfl,rfl,fun h=>⟨h,fun i' a hi' ha=>by have:=(List.getElem?_eq_some_iff.1 ha).1;omega⟩,fun h=>h.1⟩
    |succ j ihj=>
     intro i hi fs env f hfs henv
     subst hfs;subst henv
     obtain ⟨a,ha⟩: ∃a,l[i]?=some a:=⟨_,List.getElem?_eq_getElem (by omega)⟩
     obtain ⟨q,hq⟩:=List.mem_iff_getElem?.1 (hl1 a (List.mem_of_getElem? ha))
     refine EL.down ?_
     show EL (fun N k=>EQ (AF.at N) mp u l (Dh (AF.at N) mp u l k) i p.funcs Γ.reverse f.why f.at_) _
     unfold EQ
     refine EL.cond (fun _=>?_) fun h=>by have:=Dn h;omega
     refine EL.eq (CD ha) (EL.bind (one hq Γ u ⟨f.why,f.at_⟩ hΓ (by omega) hu) fun r hr=>?_)
     rw [wr (by omega) (by omega),show (i:Int)+1=((i+1:Nat):Int) by omega]
     refine (ihj (i+1) (by omega) r.1 r.2.1 r.2.2 hr.1 hr.2.1).mono fun w hw=>⟨hw.1,hw.2.1,hw.2.2.trans ?_⟩
     rw [hr.2.2]
     constructor
     ·rintro ⟨⟨h1,h2⟩,h3⟩
      refine ⟨h1,fun i' b hi' hb=>?_⟩
      rcases Nat.eq_or_lt_of_le hi' with rfl|hlt
      ·rw [ha] at hb;cases hb;exact h2
      ·exact h3 i' b hlt hb
     ·rintro ⟨h1,h2⟩
      exact ⟨⟨h1,h2 i a (Nat.le_refl _) ha⟩,fun i' b hi' hb=>h2 i' b (by omega) hb⟩
   refine (loop l.length 0 (by omega) p.funcs Γ.reverse flt rfl rfl).diag.mono fun r hr=>⟨hr.1,hr.2.1,hr.2.2.trans ?_⟩
   constructor
   ·rintro ⟨h1,h2⟩
    refine ⟨h1,fun a ha=>?_⟩
    obtain ⟨i,hi⟩:=List.mem_iff_getElem?.1 ha
    exact h2 i a (Nat.zero_le _) hi
   ·rintro ⟨h1,h2⟩
    exact ⟨h1,fun i a _ ha=>h2 a (List.mem_of_getElem? ha)⟩
  have last: ∀(r:List AK×List AH×AD) (f:AD) (A:Prop),Wn p Γ f A r→(f.why=0↔flt.why=0)→(A↔WTy p Γ e t)→T (CM e t t r.1 r.2.1 r.2.2.why r.2.2.at_) (Wn p Γ flt (WTy p Γ e t)):=by
   intro r f A hr hf hA
   refine Yo.mono fun w hw=>⟨hw.1.trans hr.1,hw.2.1.trans hr.2.1,hw.2.2.trans ?_⟩
   rw [hr.2.2,hA,hf]
   exact ⟨fun h=>h.1,fun h=>⟨h,rfl⟩⟩
  refine ET.down ?_
  show ET (fun N=>Fy (AF.at N) N p.funcs Γ.reverse mp flt e t) _
  unfold Fy
  have ow:19≤e.op∧e.op≤22→OwT p Γ e t:=fun h=>⟨fun h=>by omega,fun h=>by omega,fun h=>by omega,fun h=>by omega,fun h=>by omega,fun h=>by omega⟩
  have har:=he.ar
  refine ET.cond (fun h=>?_) fun h19=>ET.cond (fun h=>?_) fun h20=>ET.cond (fun h=>?_) fun h21=>ET.cond (fun h=>?_) fun h22=>?_
  ·
   have ho:=B7 h
   obtain ⟨a,b,d,ha⟩:=So (l:=e.args) (by unfold Ar at har;omega)
   have ea:e.args[0]?=some a:=by rw [ha];rfl
   have eb:e.args[1]?=some b:=by rw [ha];rfl
   have ed:e.args[2]?=some d:=by rw [ha];rfl
   have hsub:sub e.args 1 (e.args.length:Int)=some [b,d]:=by rw [ha];rfl
   refine ET.eq (CD (i:=0) ea) (ET.bind (one ea Γ 2 flt hΓ (by omega) (by omega)) fun r hr=>ET.eq hsub ?_)
   rw [hr.1,hr.2.1]
   refine ET.bind (alls [b,d] (fun x hx=>by rw [ha];simp at hx ⊢;rcases hx with rfl|rfl<;>simp) (by rw [ha];simp) t r.2.2 ht) fun r2 hr2=> .of ?_
   refine last r2 flt (WTy p Γ a 2∧∀x∈[b,d],WTy p Γ x t) ⟨hr2.1,hr2.2.1,by rw [hr2.2.2,hr.2.2];exact and_assoc⟩ Iff.rfl ?_
   have e1: ∀i,Win Γ e i=Γ:=fun i=>by unfold Win;rw [if_neg (by omega),if_neg (by omega)]
   have e2: ∀i,Wan p e i t=if i=0 then 2 else t:=fun i=>by unfold Wan;rw [if_neg (by omega),if_neg (by omega),if_neg (by omega),if_pos ho]
   rw [Ld (e:=e),ha,ABv,e1,e1,e1,e2,e2,e2]
   simp only [List.mem_cons,List.not_mem_nil,or_false,forall_eq_or_imp,forall_eq]
   exact ⟨fun h=>⟨ow (by omega),h.1,h.2.1,h.2.2⟩,fun h=>⟨h.2.1,h.2.2.1,h.2.2.2⟩⟩
  ·
   have ho:=B7 h
   obtain ⟨a,b,d,ha⟩:=So (l:=e.args) (by unfold Ar at har;omega)
   have ea:e.args[0]?=some a:=by rw [ha];rfl
   have eb:e.args[1]?=some b:=by rw [ha];rfl
   have ed:e.args[2]?=some d:=by rw [ha];rfl
   have e1: ∀i,i≠2→Win Γ e i=Γ:=fun i hi=>by unfold Win;rw [if_neg (by omega),if_neg (by omega)]
   have e1':Win Γ e 2=⟨e.tail,3,0⟩::⟨e.name,1,0⟩::Γ:=by unfold Win;rw [if_neg (by omega),if_pos ⟨ho,rfl⟩]
   have e2: ∀i,Wan p e i t=if i=0 then 3 else t:=fun i=>by unfold Wan;rw [if_neg (by omega),if_neg (by omega),if_neg (by omega),if_neg (by omega),if_pos ho]
   have hwin:=Uj hΓ he 2
   rw [e1'] at hwin
   refine ET.eq (CD (i:=0) ea) (ET.bind (one ea Γ 3 flt hΓ (by omega) (by omega)) fun r hr=>ET.eq (CD (i:=1) eb) ?_)
   rw [hr.1,hr.2.1]
   refine ET.bind (one eb Γ t r.2.2 hΓ (by omega) ht) fun r2 hr2=>?_
   rw [hr2.1,hr2.2.1]
   refine ET.bind (P:=Wn p Γ r2.2.2 (WTy p (⟨e.tail,3,0⟩::⟨e.name,1,0⟩::Γ) d t)) ?_ fun r3 hr3=> .of ?_
   ·refine ET.down ?_
    show ET (fun N=>Gq (AF.at N) N p.funcs Γ.reverse mp r2.2.2 e t [⟨e.name,1,0⟩,⟨e.tail,3,0⟩]) _
    unfold Gq
    refine ET.tb (GS (by decide) (by simp;omega)) fun _ _=>?_
    refine ET.bind (P:=Wn p (⟨e.tail,3,0⟩::⟨e.name,1,0⟩::Γ) r2.2.2 (WTy p (⟨e.tail,3,0⟩::⟨e.name,1,0⟩::Γ) d t)) ?_ fun w hw=>?_
    ·refine ET.down ?_
     have hrev:Γ.reverse++[⟨e.name,1,0⟩,⟨e.tail,3,0⟩]=(⟨e.tail,3,0⟩::⟨e.name,1,0⟩::Γ:List AH).reverse:=by simp
     rw [hrev]
     show ET (fun N=>FA (AF.at N) N p.funcs (⟨e.tail,3,0⟩::⟨e.name,1,0⟩::Γ:List AH).reverse mp r2.2.2 e t) _
     unfold FA
     exact ET.eq (CD (i:=2) ed) (ET.bind (one ed _ t r2.2.2 hwin.1 hwin.2 ht) fun w hw=> .some hw)
    ·refine ET.tb (P:=fun x=>x=Γ.reverse) ?_ fun x hx=> .some ⟨hw.1,hx,hw.2.2⟩
     refine (Mx (by omega) (by omega) (by rw [hw.2.1];simp;omega)).mono fun x hx=>?_
     rw [hx,hw.2.1];simp
   ·refine last r3 flt (WTy p Γ a 3∧WTy p Γ b t∧WTy p (⟨e.tail,3,0⟩::⟨e.name,1,0⟩::Γ) d t) ⟨hr3.1,hr3.2.1,by rw [hr3.2.2,hr2.2.2,hr.2.2,and_assoc,and_assoc]⟩ Iff.rfl ?_
    rw [Ld (e:=e),ha,ABv,e1 0 (by omega),e1 1 (by omega),e1',e2,e2,e2]
    exact ⟨fun h=>⟨ow (by omega),h.1,h.2.1,h.2.2⟩,fun h=>⟨h.2.1,h.2.2.1,h.2.2.2⟩⟩
  ·
   have ho:=B7 h
   obtain ⟨a,b,ha⟩:=QO (l:=e.args) (by unfold Ar at har;omega)
   have ea:e.args[0]?=some a:=by rw [ha];rfl
   have eb:e.args[1]?=some b:=by rw [ha];rfl
   have e1: ∀i,Win Γ e i=⟨e.name,e.type_,0⟩::Γ:=fun i=>by unfold Win;rw [if_pos (.inl ho)]
   have e2: ∀i,Wan p e i t=if i=0 then e.type_ else t:=fun i=>by unfold Wan;rw [if_neg (by omega),if_neg (by omega),if_neg (by omega),if_neg (by omega),if_neg (by omega),if_pos (by omega)]
   have hwin:=Uj hΓ he 0
   rw [e1] at hwin
   have het:=he.typ (by omega)
   refine ET.bind (P:=Wn p Γ flt (WTy p (⟨e.name,e.type_,0⟩::Γ) a e.type_∧WTy p (⟨e.name,e.type_,0⟩::Γ) b t)) ?_ fun r3 hr3=> .of ?_
   ·refine ET.down ?_
    show ET (fun N=>F0 (AF.at N) N p.funcs Γ.reverse mp flt e t [⟨e.name,e.type_,0⟩]) _
    unfold F0
    refine ET.tb (GS (by decide) (by simp;omega)) fun _ _=>?_
    refine ET.bind (P:=Wn p (⟨e.name,e.type_,0⟩::Γ) flt (WTy p (⟨e.name,e.type_,0⟩::Γ) a e.type_∧WTy p (⟨e.name,e.type_,0⟩::Γ) b t)) ?_ fun w hw=>?_
    ·refine ET.down ?_
     have hrev:Γ.reverse++[⟨e.name,e.type_,0⟩]=(⟨e.name,e.type_,0⟩::Γ:List AH).reverse:=by simp
     rw [hrev]
     show ET (fun N=>FB (AF.at N) N p.funcs (⟨e.name,e.type_,0⟩::Γ:List AH).reverse mp flt e t) _
     unfold FB
     refine ET.eq (CD (i:=0) ea) (ET.bind (one ea _ e.type_ flt hwin.1 hwin.2 het) fun w hw=>ET.eq (CD (i:=1) eb) ?_)
     rw [hw.1,hw.2.1]
     exact ET.bind (one eb _ t w.2.2 hwin.1 hwin.2 ht) fun w2 hw2=> .some ⟨hw2.1,hw2.2.1,by rw [hw2.2.2,hw.2.2];exact and_assoc⟩
    ·refine ET.tb (P:=fun x=>x=Γ.reverse) ?_ fun x hx=> .some ⟨hw.1,hx,hw.2.2⟩
     refine (Mx (by omega) (by omega) (by rw [hw.2.1];simp;omega)).mono fun x hx=>?_
     rw [hx,hw.2.1];simp
   ·refine last r3 flt _ hr3 Iff.rfl ?_
    rw [Ld (e:=e),ha,ABg,e1,e1,e2,e2]
    exact ⟨fun h=>⟨ow (by omega),h.1,h.2⟩,fun h=>⟨h.2.1,h.2.2⟩⟩
  ·
   have ho:=B7 h
   obtain ⟨a,b,ha⟩:=QO (l:=e.args) (by unfold Ar at har;omega)
   have ea:e.args[0]?=some a:=by rw [ha];rfl
   have eb:e.args[1]?=some b:=by rw [ha];rfl
   have e1:Win Γ e 0=Γ:=by unfold Win;rw [if_neg (by omega),if_neg (by omega)]
   have e1':Win Γ e 1=⟨e.name,e.type_,0⟩::Γ:=by unfold Win;rw [if_pos (.inr ⟨ho,rfl⟩)]
   have e2: ∀i,Wan p e i t=if i=0 then e.type_ else t:=fun i=>by unfold Wan;rw [if_neg (by omega),if_neg (by omega),if_neg (by omega),if_neg (by omega),if_neg (by omega),if_pos (by omega)]
   have hwin:=Uj hΓ he 1
   rw [e1'] at hwin
   have het:=he.typ (by omega)
   refine ET.eq (CD (i:=0) ea) (ET.bind (one ea Γ e.type_ flt hΓ (by omega) het) fun r hr=>?_)
   rw [hr.1,hr.2.1]
   refine ET.bind (P:=Wn p Γ r.2.2 (WTy p (⟨e.name,e.type_,0⟩::Γ) b t)) ?_ fun r3 hr3=> .of ?_
   ·refine ET.down ?_
    show ET (fun N=>F1 (AF.at N) N p.funcs Γ.reverse mp r.2.2 e t [⟨e.name,e.type_,0⟩]) _
    unfold F1
    refine ET.tb (GS (by decide) (by simp;omega)) fun _ _=>?_
    refine ET.bind (P:=Wn p (⟨e.name,e.type_,0⟩::Γ) r.2.2 (WTy p (⟨e.name,e.type_,0⟩::Γ) b t)) ?_ fun w hw=>?_
    ·refine ET.down ?_
     have hrev:Γ.reverse++[⟨e.name,e.type_,0⟩]=(⟨e.name,e.type_,0⟩::Γ:List AH).reverse:=by simp
     rw [hrev]
     show ET (fun N=>FC (AF.at N) N p.funcs (⟨e.name,e.type_,0⟩::Γ:List AH).reverse mp r.2.2 e t) _
     unfold FC
     exact ET.eq (CD (i:=1) eb) (ET.bind (one eb _ t r.2.2 hwin.1 hwin.2 ht) fun w hw=> .some hw)
    ·refine ET.tb (P:=fun x=>x=Γ.reverse) ?_ fun x hx=> .some ⟨hw.1,hx,hw.2.2⟩
     refine (Mx (by omega) (by omega) (by rw [hw.2.1];simp;omega)).mono fun x hx=>?_
     rw [hx,hw.2.1];simp
   ·refine last r3 flt (WTy p Γ a e.type_∧WTy p (⟨e.name,e.type_,0⟩::Γ) b t) ⟨hr3.1,hr3.2.1,by rw [hr3.2.2,hr.2.2];exact and_assoc⟩ Iff.rfl ?_
    rw [Ld (e:=e),ha,ABg,e1,e1',e2,e2]
    exact ⟨fun h=>⟨ow (by omega),h.1,h.2⟩,fun h=>⟨h.2.1,h.2.2⟩⟩
  ·
   have h19:=Bh h19;have h20:=Bh h20;have h21:=Bh h21;have h22:=Bh h22
   have hop:1≤e.op∧e.op≤18:=by unfold Ar at har;omega
   have e1: ∀i,Win Γ e i=Γ:=fun i=>by unfold Win;rw [if_neg (by omega),if_neg (by omega)]
   have fin:ET (fun N=>types_checker_own N p.funcs Γ.reverse mp flt e) (Wo p Γ flt t (WTy p Γ e t))→ET (fun N=>((AF.at N).types_checker_own p.funcs Γ.reverse mp flt e).bind fun x2165=>CM e t x2165.1 x2165.2.1 x2165.2.2.1 x2165.2.2.2.why x2165.2.2.2.at_) (Wn p Γ flt (WTy p Γ e t)):=fun h=>
    ET.bind h fun r hr=> .of (Yo.mono fun w hw=>⟨hw.1.trans hr.1,hw.2.1.trans hr.2.1,hw.2.2.trans hr.2.2⟩)
   refine fin (ET.down ?_)
   show ET (fun N=>GT (AF.at N) N p.funcs Γ.reverse mp flt e) _
   have leaf: ∀(o:Int),e.args=[]→((o=t)↔OwT p Γ e t)→Wo p Γ flt t (WTy p Γ e t) (o,p.funcs,Γ.reverse,flt):=fun o ha ho=>⟨rfl,rfl,by
    rw [Ld (e:=e),ha]
    exact ⟨fun h=>⟨h.1,ho.1 h.2,fun i a h=>by simp at h⟩,fun h=>⟨h.1,ho.2 h.2.1⟩⟩⟩
   have nil_of:(1≤e.op∧e.op≤6)→e.args=[]:=fun h=>List.length_eq_zero_iff.1 (by unfold Ar at har;omega)
   unfold GT
   have j1t:(e.op=2∨e.op=3)→ET (fun N=>Ej (AF.at N) N p.funcs Γ.reverse mp flt e true) (Wo p Γ flt t (WTy p Γ e t)):=by
    intro ho
    unfold Ej
    refine ET.cond (fun _=> .some (leaf 2 (nil_of (by omega)) ⟨fun h=>⟨fun h=>by omega,fun _=>h.symm,fun h=>by omega,fun h=>by omega,fun h=>by omega,fun h=>by omega⟩,fun h=>(h.b (by omega)).symm⟩)) fun h=>by cases h
   refine ET.cond (fun h=>by rw [h];exact j1t (.inl (B7 h))) fun h2=>?_
   have h2:=Bh h2
   cases h3:(e.op==3)
   rotate_left
   ·exact j1t (.inr (B7 h3))
   have h3:=Bh h3
   unfold Ej
   refine ET.cond (fun h=>by cases h) fun _=>ET.cond (fun h=> .some ?_) fun h4=>ET.cond (fun h=> .some ?_) fun h5=>ET.cond (fun h=>?_) fun h6=>ET.cond (fun h=>?_) fun h7=>ET.cond (fun h=>?_) fun h14=>ET.cond (fun h=>?_) fun h18=>?_
   ·have ho:=B7 h
    exact leaf 3 (nil_of (by omega)) ⟨fun h=>⟨fun h=>by omega,fun h=>by omega,fun _=>h.symm,fun h=>by omega,fun h=>by omega,fun h=>by omega⟩,fun h=>(h.l (by omega)).symm⟩
   ·have ho:=B7 h
    exact leaf e.type_ (nil_of (by omega)) ⟨fun h=>⟨fun h=>by omega,fun h=>by omega,fun h=>by omega,fun _=>h.symm,fun h=>by omega,fun h=>by omega⟩,fun h=>(h.f ho).symm⟩
   ·have ho:=B7 h
    refine Qb (Γ.length+2) ⟨((QN Γ e.name).getD 0,p.funcs,Γ.reverse,flt),leaf _ (nil_of (by omega)) ⟨fun h=>⟨fun h=>by omega,fun h=>by omega,fun h=>by omega,fun h=>by omega,fun _=>?_,fun h=>by omega⟩,fun h=>?_⟩,fun N hN=>?_⟩
    ·cases hlk:QN Γ e.name with
     |none=>rw [hlk] at h;simp at h;omega
     |some u=>rw [hlk] at h;simp at h;rw [h]
    ·rw [h.v ho];rfl
    ·have:=ABh (e:=e) (fs:=p.funcs) (flt:=flt) (Γ:=Γ) (by omega) Γ [] rfl N (by omega)
     rw [wr (by simp;omega) (by simp;omega),List.length_reverse]
     exact this
   ·
    have ho:=B7 h
    have hwan: ∀f,hd p e.name=some f→∀i x,f.params[i]?=some x→Wan p e i t=x.type_:=fun f hf i x hx=>by
     unfold Wan
     rw [if_neg (by omega),if_neg (by omega),if_pos ho,hf]
     show (match f.params[i]? with |some x=>x.type_|none=>1)=_
     rw [hx]
    refine ET.bind (P:=Wo p Γ flt t (WTy p Γ e t)) ?_ fun r hr=> .some hr
    refine ET.down ?_
    show ET (fun N=>F2 (AF.at N) N p.funcs Γ.reverse mp flt e) _
    have bad: ¬WTy p Γ e t→Wo p Γ flt t (WTy p Γ e t) (0,p.funcs,Γ.reverse,flt):=fun h=>⟨rfl,rfl,fun h'=>by have:(0:Int)=t:=h'.2;omega,fun h'=>absurd h'.2 h⟩
    unfold F2
    rcases hmp e.name with ⟨hn0,h0⟩| ⟨i,f,hi,hf,hm⟩
    ·rw [h0]
     refine ET.cond (fun _=>?_) fun h=>by cases h
     unfold FV
     refine ET.cond (fun _=> .some (bad fun h=>?_)) fun h=>by cases h
     obtain ⟨g,hg,_⟩:=h.own.c ho
     rw [hn0] at hg;cases hg
    ·have hil:=(List.getElem?_eq_some_iff.1 hi).1
     have hfn:=hp.fns f (List.mem_of_find?_eq_some hf)
     have hfp:=hfn.pars
     rw [hm]
     refine ET.cond (fun h=>by have:=B7 h;omega) fun _=>?_
     rw [wr (x:=(i:Int)+1 - 1) (by omega) (by omega),show (i:Int)+1 - 1=(i:Int) by omega]
     refine ET.eq (CD hi) ?_
     unfold FV
     refine ET.cond (fun h=> .some (bad fun h'=>?_)) fun h=>?_
     ·obtain ⟨g,hg,hgl,_⟩:=h'.own.c ho
      rw [hf] at hg;cases hg
      exact absurd (congrArg Int.ofNat hgl) (Ko h)
     have hfl:f.params.length=e.args.length:=by have:=JK h;omega
     rw [hm,wr (x:=(i:Int)+1 - 1) (by omega) (by omega),show (i:Int)+1 - 1=(i:Int) by omega]
     refine ET.eq (CD hi) ?_
     have loop: ∀(j q:Nat),q+j=f.params.length→∀(fs:List AK) (env:List AH) (f2:AD),fs=p.funcs→env=Γ.reverse→EL (fun N k=>Dp (AF.at N) mp e f k (q:Int) fs env f2.why f2.at_) fun r=>r.1=f.type_∧r.2.1=p.funcs∧r.2.2.1=Γ.reverse∧(r.2.2.2.why=0↔f2.why=0∧∀i' a,q≤i'→e.args[i']?=some a→WTy p Γ a (Wan p e i' t)):=by
      intro j
      induction j with
      |zero=>
       intro q hq fs env f2 hfs henv
       subst hfs;subst henv
       refine EL.down ?_
       show EL (fun N k=>D7 (AF.at N) mp e f (Dp (AF.at N) mp e f k) q p.funcs Γ.reverse f2.why f2.at_) _
       unfold D7
       refine EL.cond (fun h=>by have:=CN h;omega) fun _=>?_
       rw [hm,wr (x:=(i:Int)+1 - 1) (by omega) (by omega),show (i:Int)+1 - 1=(i:Int) by omega]
       exact EL.eq (CD hi) (.some ⟨rfl,rfl,rfl,fun h=>⟨h,fun i' a hi' ha=>by have:=(List.getElem?_eq_some_iff.1 ha).1;omega⟩,fun h=>h.1⟩)
      |succ j ihj=>
       intro q hq fs env f2 hfs henv
       subst hfs;subst henv
       obtain ⟨x,hx⟩: ∃x,f.params[q]?=some x:=⟨_,List.getElem?_eq_getElem (by omega)⟩
       obtain ⟨a,ha⟩: ∃a,e.args[q]?=some a:=⟨_,List.getElem?_eq_getElem (by omega)⟩
       have hxt:=hfn.ptyp x (List.mem_of_getElem? hx)
       refine EL.down ?_
       show EL (fun N k=>D7 (AF.at N) mp e f (Dp (AF.at N) mp e f k) q p.funcs Γ.reverse f2.why f2.at_) _
       unfold D7
       refine EL.cond (fun _=>?_) fun h=>by have:=Dn h;omega
       refine EL.eq (CD hx) (EL.eq (CD ha) (EL.bind (one ha Γ x.type_ ⟨f2.why,f2.at_⟩ hΓ (by omega) hxt) fun w hw=>?_))
       rw [wr (by omega) (by omega),show (q:Int)+1=((q+1:Nat):Int) by omega]
       refine (ihj (q+1) (by omega) w.1 w.2.1 w.2.2 hw.1 hw.2.1).mono fun r hr=>⟨hr.1,hr.2.1,hr.2.2.1,hr.2.2.2.trans ?_⟩
       rw [hw.2.2]
       constructor
       ·rintro ⟨⟨h1,h2⟩,h3⟩
        refine ⟨h1,fun i' b hi' hb=>?_⟩
        rcases Nat.eq_or_lt_of_le hi' with rfl|hlt
        ·rw [ha] at hb;cases hb;rw [hwan f hf q x hx];exact h2
        ·exact h3 i' b hlt hb
       ·rintro ⟨h1,h2⟩
        exact ⟨⟨h1,by have:=h2 q a (Nat.le_refl _) ha;rwa [hwan f hf q x hx] at this⟩,fun i' b hi' hb=>h2 i' b (by omega) hb⟩
     refine (loop f.params.length 0 (by omega) p.funcs Γ.reverse flt rfl rfl).diag.mono fun r hr=>⟨hr.2.1,hr.2.2.1,?_⟩
     rw [hr.1,hr.2.2.2,Ld (e:=e)]
     simp only [e1]
     constructor
     ·rintro ⟨⟨h1,h2⟩,h3⟩
      exact ⟨h1,⟨fun h=>by omega,fun h=>by omega,fun h=>by omega,fun h=>by omega,fun h=>by omega,fun _=>⟨f,hf,hfl,h3⟩⟩,fun i a ha=>h2 i a (Nat.zero_le _) ha⟩
     ·rintro ⟨h1,h2,h3⟩
      obtain ⟨g,hg,_,hgt⟩:=h2.c ho
      rw [hf] at hg;cases hg
      exact ⟨⟨h1,fun i a _ ha=>h3 i a ha⟩,hgt⟩
   ·
    have ho:=B7 h
    refine ET.bind (alls e.args (fun a h=>h) (Nat.le_refl _) 2 flt (by omega)) fun r hr=> .some ⟨hr.1,hr.2.1,?_⟩
    have e2: ∀i,Wan p e i t=2:=fun i=>by unfold Wan;rw [if_pos ho]
    show (r.2.2.why=0∧(2:Int)=t)↔_
    rw [hr.2.2,Ld (e:=e)]
    simp only [e1,e2]
    constructor
    ·rintro ⟨⟨h1,h2⟩,h3⟩
     exact ⟨h1,⟨fun h=>by omega,fun _=>h3.symm,fun h=>by omega,fun h=>by omega,fun h=>by omega,fun h=>by omega⟩,fun i a ha=>h2 a (List.mem_of_getElem? ha)⟩
    ·rintro ⟨h1,h2,h3⟩
     refine ⟨⟨h1,fun a ha=>?_⟩,(h2.b (by omega)).symm⟩
     obtain ⟨i,hi⟩:=List.mem_iff_getElem?.1 ha
     exact h3 i a hi
   ·
    have ho:=B7 h
    obtain ⟨a,b,ha⟩:=QO (l:=e.args) (by unfold Ar at har;omega)
    have ea:e.args[0]?=some a:=by rw [ha];rfl
    have eb:e.args[1]?=some b:=by rw [ha];rfl
    have e2:Wan p e 0 t=1:=by unfold Wan;rw [if_neg (by omega),if_neg (by omega),if_neg (by omega),if_neg (by omega),if_neg (by omega),if_neg (by omega)]
    have e3:Wan p e 1 t=3:=by unfold Wan;rw [if_neg (by omega),if_pos ⟨ho,rfl⟩]
    refine ET.eq (CD (i:=0) ea) (ET.bind (one ea Γ 1 flt hΓ (by omega) (by omega)) fun r hr=>ET.eq (CD (i:=1) eb) ?_)
    rw [hr.1,hr.2.1]
    refine ET.bind (one eb Γ 3 r.2.2 hΓ (by omega) (by omega)) fun r2 hr2=> .some ⟨hr2.1,hr2.2.1,?_⟩
    show (r2.2.2.why=0∧(3:Int)=t)↔_
    rw [hr2.2.2,hr.2.2,Ld (e:=e),ha,ABg,e1,e1,e2,e3]
    constructor
    ·rintro ⟨⟨⟨h1,h2⟩,h3⟩,h4⟩
     exact ⟨h1,⟨fun h=>by omega,fun h=>by omega,fun _=>h4.symm,fun h=>by omega,fun h=>by omega,fun h=>by omega⟩,h2,h3⟩
    ·rintro ⟨h1,h2,h3,h4⟩
     exact ⟨⟨⟨h1,h3⟩,h4⟩,(h2.l (by omega)).symm⟩
   ·
    have h4:=Bh h4;have h5:=Bh h5;have h6:=Bh h6;have h7:=Bh h7;have h14:=Bh h14;have h18:=Bh h18
    have e2: ∀i,Wan p e i t=1:=fun i=>by unfold Wan;rw [if_neg (by omega),if_neg (by omega),if_neg (by omega),if_neg (by omega),if_neg (by omega),if_neg (by omega)]
    refine ET.bind (alls e.args (fun a h=>h) (Nat.le_refl _) 1 flt (by omega)) fun r hr=>?_
    have out: ∀o:Int,(o=t↔OwT p Γ e t)→Wo p Γ flt t (WTy p Γ e t) (o,r.1,r.2.1,r.2.2):=fun o ho=>⟨hr.1,hr.2.1,by
     show (r.2.2.why=0∧o=t)↔_
     rw [hr.2.2,Ld (e:=e),ho]
     simp only [e1,e2]
     constructor
     ·rintro ⟨⟨h1,h2⟩,h3⟩
      exact ⟨h1,h3,fun i a ha=>h2 a (List.mem_of_getElem? ha)⟩
     ·rintro ⟨h1,h2,h3⟩
      refine ⟨⟨h1,fun a ha=>?_⟩,h2⟩
      obtain ⟨i,hi⟩:=List.mem_iff_getElem?.1 ha
      exact h3 i a hi⟩
    have two':(e.op=12∨e.op=13)→ET (fun _N=>HL r true) (Wo p Γ flt t (WTy p Γ e t)):=fun ho=>
     .some (out 2 ⟨fun h=>⟨fun h=>by omega,fun _=>h.symm,fun h=>by omega,fun h=>by omega,fun h=>by omega,fun h=>by omega⟩,fun h=>(h.b (by omega)).symm⟩)
    refine ET.cond (fun h=>two' (.inl (B7 h))) fun h12=>?_
    have h12:=Bh h12
    cases h13:(e.op==13)
    ·have h13:=Bh h13
     exact .some (out 1 ⟨fun h=>⟨fun _=>h.symm,fun h=>by omega,fun h=>by omega,fun h=>by omega,fun h=>by omega,fun h=>by omega⟩,fun h=>(h.n (by omega)).symm⟩)
    ·exact two' (.inr (B7 h13))
end
theorem AAB{p:AM}(hp:WP p):ET (fun N=>GX N p) fun r=>r.why=0↔Su p:=by
 have hb: ∀f∈p.funcs,EY f.body≤1000000∧f.params.length≤1000000:=fun f hf=>⟨(hp.fns f hf).size,(hp.fns f hf).pars⟩
 have hlen:=hp.len
 unfold GX
 refine ET.bind (Z5 hlen hb) fun r hr=>ET.cond (fun h=> .some ⟨fun h'=>absurd h' (Ko h),fun h'=>hr.2 h'.1⟩) fun h=>?_
 have h:=JK h
 have hsc:=hr.1 h
 refine ET.bind (AAA hlen r) fun o ho=>?_
 have fns: ∀(j i:Nat),i+j=p.funcs.length→∀(f0:AD) (fs:List AK) (env:List AH),fs=p.funcs→EL (fun N k=>HM N p o k (i:Int) f0.why f0.at_ fs env) fun r=>r.why=0↔f0.why=0∧∀i' f,i≤i'→p.funcs[i']?=some f→WTy p f.params.reverse f.body f.type_:=by
  intro j
  induction j with
  |zero=>
   intro i hi f0 fs env hfs
   refine EL.down ?_
   show EL (fun N k=>Hb N p o (HM N p o k) i f0.why f0.at_ fs env) _
   unfold Hb
   exact EL.cond (fun h=>by have:=CN h;omega) fun _=> .some ⟨fun h=>⟨h,fun i' f hi' hf=>by have:=(List.getElem?_eq_some_iff.1 hf).1;omega⟩,fun h=>h.1⟩
  |succ j ihj=>
   intro i hi f0 fs env hfs
   subst hfs
   obtain ⟨f,hf⟩: ∃f,p.funcs[i]?=some f:=⟨_,List.getElem?_eq_getElem (by omega)⟩
   have hfn:=hp.fns f (List.mem_of_getElem? hf)
   have hfs:=hfn.size
   have hfp:=hfn.pars
   refine EL.down ?_
   show EL (fun N k=>Hb N p o (HM N p o k) i f0.why f0.at_ p.funcs env) _
   unfold Hb
   refine EL.cond (fun _=>?_) fun h=>by have:=Dn h;omega
   refine EL.eq (CD hf) (EL.tb (GS (by decide) (by simp;omega)) fun _ _=>?_)
   rw [PH,List.nil_append]
   have hΓ:TyE f.params.reverse:=fun x hx=>hfn.ptyp x (List.mem_reverse.1 hx)
   have hw:=Yp hp ho.2 (EY f.body) f.body (Nat.le_refl _) (by omega) hfn.body f.params.reverse f.type_ ⟨f0.why,f0.at_⟩ hΓ (by rw [List.length_reverse];omega) hfn.typ
   rw [List.reverse_reverse] at hw
   refine EL.bind hw fun w hw=>?_
   rw [wr (by omega) (by omega),show (i:Int)+1=((i+1:Nat):Int) by omega]
   refine (ihj (i+1) (by omega) w.2.2 w.1 w.2.1 hw.1).mono fun r hr=>hr.trans ?_
   rw [hw.2.2]
   constructor
   ·rintro ⟨⟨h1,h2⟩,h3⟩
    refine ⟨h1,fun i' g hi' hg=>?_⟩
    rcases Nat.eq_or_lt_of_le hi' with rfl|hlt
    ·rw [hf] at hg;cases hg;exact h2
    ·exact h3 i' g hlt hg
   ·rintro ⟨h1,h2⟩
    exact ⟨⟨h1,h2 i f (Nat.le_refl _) hf⟩,fun i' g hi' hg=>h2 i' g (by omega) hg⟩
 refine (fns p.funcs.length 0 (by omega) r o.2.1 o.2.2.1 ho.1).diag.mono fun q hq=>hq.trans ⟨fun h'=>⟨hsc,fun f hf=>?_⟩,fun h'=>⟨h,fun i' f _ hf=>h'.2 f (List.mem_of_getElem? hf)⟩⟩
 obtain ⟨i,hi⟩:=List.mem_iff_getElem?.1 hf
 exact h'.2 i f (Nat.zero_le _) hi
end Fth
namespace Fth
open Go
def gv(v:AI):Th:=if v.type_=3 then v.list.foldr (fun z t=> .done v0 (.done ⟨1,z,false,[]⟩ .nil .nil) t) (.done ⟨3,(0,0),false,[]⟩ .nil .nil) else .done v .nil .nil
theorem VO{v:AI}{N:Nat}(hl:v.list.length≤1000000000)(hN:v.list.length+2≤N):ID N v=some (gv v)∧N7 N v=some (gv v):=by
 have loop: ∀(l2 l1:List (Nat×Nat)),v.list=l1++l2→∀k,l1.length<k→
   Il v k (l2.foldr (fun z t=> .done v0 (.done ⟨1,z,false,[]⟩ .nil .nil) t) (.done ⟨3,(0,0),false,[]⟩ .nil .nil)) ((l1.length:Int) - 1)=some (v.list.foldr (fun z t=> .done v0 (.done ⟨1,z,false,[]⟩ .nil .nil) t) (.done ⟨3,(0,0),false,[]⟩ .nil .nil))∧
   K8 v k (l2.foldr (fun z t=> .done v0 (.done ⟨1,z,false,[]⟩ .nil .nil) t) (.done ⟨3,(0,0),false,[]⟩ .nil .nil)) ((l1.length:Int) - 1)=some (v.list.foldr (fun z t=> .done v0 (.done ⟨1,z,false,[]⟩ .nil .nil) t) (.done ⟨3,(0,0),false,[]⟩ .nil .nil)):=by
  intro l2 l1
  induction hn:l1.length generalizing l1 l2 with
  |zero=>
   intro h k hk
   obtain ⟨k,rfl⟩: ∃j,k=j+1:=⟨k - 1,by omega⟩
   have:l1=[]:=List.length_eq_zero_iff.1 hn
   subst this
   rw [h]
   exact ⟨rfl,rfl⟩
  |succ n ih=>
   intro h k hk
   obtain ⟨k,rfl⟩: ∃j,k=j+1:=⟨k - 1,by omega⟩
   have hne:l1≠[]:=fun e=>by subst e;cases hn
   obtain ⟨l0,z,rfl⟩: ∃l0 z,l1=l0++[z]:=⟨l1.dropLast,l1.getLast hne,(List.dropLast_concat_getLast hne).symm⟩
   have hl0:l0.length=n:=by simp at hn;exact hn
   have hz:v.list[n]?=some z:=by rw [h,List.append_assoc,List.getElem?_append_right (by omega),hl0];simp
   have hnl:n<v.list.length:=(List.getElem?_eq_some_iff.1 hz).1
   have ihh:=ih (z::l2) l0 hl0 (by rw [h];simp) k (by omega)
   have e1:((n+1:Nat):Int) - 1=(n:Int):=by omega
   rw [e1]
   constructor
   ·show Jz v (Il v k) _ (n:Int)=_
    unfold Jz
    rw [show decide ((n:Int)≥0)=true from decide_eq_true (by omega),cond_true,CD hz,Option.bind_some,wr (by omega) (by omega)]
    exact ihh.1
   ·show Lo v (K8 v k) _ (n:Int)=_
    unfold Lo
    rw [show decide ((n:Int)≥0)=true from decide_eq_true (by omega),cond_true,CD hz,Option.bind_some,wr (by omega) (by omega)]
    exact ihh.2
 unfold ID N7 gv
 cases h:(v.type_ != 3)
 ·have h:=JK h
  rw [if_pos h,wr (by omega) (by omega)]
  have:=loop [] v.list (by simp) N (by omega)
  exact this
 ·have h:=Ko h
  rw [if_neg h]
  exact ⟨rfl,rfl⟩
theorem ABi{p:AM}{L:Nat}{v:AI}(h:VV v.type_ v)(hl:v.list.length+1<L):TOK p L v.type_ (gv v):=by
 unfold gv
 rcases Decidable.em (v.type_=3) with h3|h3
 ·rw [if_pos h3]
  have hg: ∀z∈v.list,Gn z:=by
   rcases h with ⟨e,_⟩| ⟨e,_⟩| ⟨_,_,_,_,h⟩
   ·omega
   ·omega
   ·exact h
  rw [h3]
  have key: ∀l:List (Nat×Nat),(∀z∈l,Gn z)→l.length+1<L→TOK p L 3 (l.foldr (fun z t=> .done v0 (.done ⟨1,z,false,[]⟩ .nil .nil) t) (.done ⟨3,(0,0),false,[]⟩ .nil .nil))∧ch (l.foldr (fun z t=> .done v0 (.done ⟨1,z,false,[]⟩ .nil .nil) t) (.done ⟨3,(0,0),false,[]⟩ .nil .nil))=l.length+1:=by
   intro l
   induction l with
   |nil=>intro _ _;exact ⟨.val 3 _ (.inr (.inr ⟨rfl,rfl,rfl,rfl,by simp⟩)) fun _=>rfl,rfl⟩
   |cons z l ih=>
    intro hz hl
    have:=ih (fun w hw=>hz w (List.mem_cons_of_mem _ hw)) (by simp at hl;omega)
    refine ⟨.pair _ _ (.val 1 _ (.inl ⟨rfl,rfl,hz z (List.mem_cons_self ..),rfl,rfl⟩) fun h=>by cases h) this.1 (by rw [this.2];simp at hl;omega),?_⟩
    simp only [List.foldr_cons,ch,this.2,List.length_cons];omega
  exact (key v.list hg hl).1
 ·rw [if_neg h3]
  exact .val _ v h fun e=>absurd e h3
def RH:List AH→List AI→Nm→Nm
 |x::ps,v::vs,acc=>RH ps vs (.bind x.name (gv v) acc)
 |_,_,acc=>acc
theorem AAC{p:AM}{L:Nat}: ∀(ps:List AH) (vs:List AI) (Δ:List AH) (acc:Nm),ps.length=vs.length→EOK p L Δ acc→(∀(i:Nat) (x:AH) (v:AI),ps[i]?=some x→vs[i]?=some v→v.type_=x.type_∧VV v.type_ v∧v.list.length+1<L)→EOK p L (ps.reverse++Δ) (RH ps vs acc):=by
 intro ps
 induction ps with
 |nil=>intro vs Δ acc h he _;cases vs with
  |nil=>exact he
  |cons=>cases h
 |cons x ps ih=>
  intro vs Δ acc h he ha
  cases vs with
  |nil=>cases h
  |cons v vs=>
   have h0:=ha 0 x v rfl rfl
   have:=ih vs (x::Δ) (.bind x.name (gv v) acc) (by simpa using h) (.bind x Δ _ acc (h0.1▸ABi h0.2.1 h0.2.2) he) fun i y w h1 h2=>ha (i+1) y w h1 h2
   rw [List.reverse_cons,List.append_assoc]
   exact this
def TW(most:Int):Nat:=(if (16384:Int)< (if most<0 then 0 else most) then 16384 else (if most<0 then 0 else most)).toNat
theorem RR(most:Int):(if (16384:Int)< (if most<0 then 0 else most) then 16384 else (if most<0 then 0 else most))=(TW most:Int):=by
 unfold TW;split<;>split<;>omega
theorem Wy(most:Int):TW most≤16384:=by unfold TW;split<;>split<;>omega
def Wz(f:AK)(args:List AI):Prop:=args.length=f.params.length∧∀(i:Nat) (v:AI) (x:AH),args[i]?=some v→f.params[i]?=some x→v.type_=x.type_∧chk v=true
def QQ(y:Int):BM:=⟨y,v0,0,0,0,0⟩
def AB3(r:Except Int AI)(c:Nat):BM:=match r with
 | .ok v=>⟨0,v,c,0,0,0⟩
 | .error y=>⟨y,v0,c,0,0,0⟩
inductive Tp(p:AM)(nm:List UInt8)(args:List AI)(m:Nat):BM→Prop
 |shape (h: ¬Su p):Tp p nm args m (QQ 3)
 |func (h:Su p) (hf:hd p nm=none):Tp p nm args m (QQ 32)
 |args {f:AK} (h:Su p) (hf:hd p nm=some f) (ha: ¬Wz f args):Tp p nm args m (QQ 40)
 |run {f:AK} {r:Except Int AI} {c:Nat} (h:Su p) (hf:hd p nm=some f) (ha:Wz f args) (hr:Rn p m f.body (RH f.params args .nil) r c) (hc:c≤m) (hv:Rv m f.type_ r c):Tp p nm args m (AB3 r c)
def AV(args:List AI):Prop:=(∀v∈args,GV v∧v.list.length≤1048577)∧args.length≤1000000000
theorem LV.av{l:List AI}(h:LV l):AV l:=⟨fun v hv=>⟨(h.1 v hv).1.gv (by have:=(h.1 v hv).2;omega),(h.1 v hv).2⟩,by have:=h.2;omega⟩
section
variable{p:AM}{nm:List UInt8}{args:List AI}
theorem ABj(hlen:p.funcs.length≤50000)(hS:FN p): ∀(j i:Nat),i+j=p.funcs.length→∀(m:Ak),(∀s,Nf m s=decide (s∈(p.funcs.take i).map (·.name))∧∀k f,k<i→p.funcs[k]?=some f→f.name=s→CR m s=(k:Int))→
  ∃mp,Mpp p mp∧(∀s,Nf mp s=(hd p s).isSome)∧∃n0,∀N k most,n0≤k→Ig N p nm args most k (i:Int) m=(bif !(Nf mp nm) then some (QQ 32) else ((idx p.funcs (CR mp nm)).bind fun x239=>bif ((args.length:Int) != (x239.params.length:Int)) then some (QQ 40) else EV N p args most mp x239 N Nm.nil 0)):=by
 intro j
 induction j with
 |zero=>
  intro i hi m hm
  have htk:p.funcs.take i=p.funcs:=List.take_of_length_le (by omega)
  refine ⟨m,fun s f hf=>?_,fun s=>?_,1,fun N k most hk=>?_⟩
  ·have hfm:=List.mem_of_find?_eq_some hf
   obtain ⟨k,hk⟩:=List.mem_iff_getElem?.1 hfm
   have hfn:f.name=s:=by have:=List.find?_some hf;simpa using this
   have:=(hm s).2 k f (by have:=(List.getElem?_eq_some_iff.1 hk).1;omega) hk hfn
   rw [this]
   exact CD hk
  ·rw [(hm s).1,htk]
   cases hh:hd p s with
   |none=>
    rw [decide_eq_false];rfl
    intro h
    obtain ⟨f,hf,hfn⟩:=List.mem_map.1 h
    unfold hd at hh
    rw [List.find?_eq_none] at hh
    exact hh f hf (by simpa using hfn)
   |some f=>
    rw [decide_eq_true];rfl
    have hfn:f.name=s:=by have:=List.find?_some hh;simpa using this
    exact List.mem_map.2 ⟨f,List.mem_of_find?_eq_some hh,hfn⟩
  ·obtain ⟨k,rfl⟩: ∃j,k=j+1:=⟨k - 1,by omega⟩
   show Ip N p nm args most (Ig N p nm args most k) i m=_
   unfold Ip
   rw [show decide ((i:Int)< (p.funcs.length:Int))=false from decide_eq_false (by omega),cond_false]
   rfl
 |succ j ihj=>
  intro i hi m hm
  obtain ⟨f,hf⟩: ∃f,p.funcs[i]?=some f:=⟨_,List.getElem?_eq_getElem (by omega)⟩
  have htk:(p.funcs.take (i+1)).map (·.name)=(p.funcs.take i).map (·.name)++[f.name]:=by rw [List.take_add_one,hf];simp
  obtain ⟨mp,h1,h2,n0,h3⟩:=ihj (i+1) (by omega) (LF f.name i m) fun s=>by
   rw [XN,L1,htk]
   cases hn:(s==f.name)
   ·have hne:s≠f.name:=by simpa using hn
    rw [cond_false,cond_false]
    refine ⟨?_,fun k g hk hg hgn=>?_⟩
    ·rw [(hm s).1];congr 1;simp [hne]
    ·rcases Nat.eq_or_lt_of_le (Nat.le_of_lt_succ hk) with rfl|hlt
     ·rw [hf] at hg;cases hg;exact absurd hgn.symm hne
     ·exact (hm s).2 k g hlt hg hgn
   ·have hne:s=f.name:=by simpa using hn
    rw [cond_true,cond_true]
    refine ⟨?_,fun k g hk hg hgn=>?_⟩
    ·rw [decide_eq_true];rw [hne];simp
    ·rcases Nat.eq_or_lt_of_le (Nat.le_of_lt_succ hk) with rfl|hlt
     ·rfl
     ·refine absurd (List.mem_map.2 ⟨g,?_,hgn.trans hne⟩) (hS i f hf)
      rw [List.mem_take_iff_getElem]
      obtain ⟨a1,a2⟩:=List.getElem?_eq_some_iff.1 hg
      exact ⟨k,by omega,a2⟩
  refine ⟨mp,h1,h2,n0+1,fun N k most hk=>?_⟩
  obtain ⟨k,rfl⟩: ∃j,k=j+1:=⟨k - 1,by omega⟩
  show Ip N p nm args most (Ig N p nm args most k) i m=_
  unfold Ip
  rw [show decide ((i:Int)< (p.funcs.length:Int))=true from decide_eq_true (by omega),cond_true,CD hf,Option.bind_some,wr (by omega) (by omega),show (i:Int)+1=((i+1:Nat):Int) by omega]
  exact h3 N k most (by omega)
theorem W0(hA:AV args){f:AK}(hf:f.params.length≤1000000):ET (fun N=>En N f args) fun b=>b=true↔Wz f args:=by
 unfold En
 refine ET.cond (fun h=> .some ⟨fun h=>(by cases h),fun h'=>absurd (congrArg Int.ofNat h'.1) (Ko h)⟩) fun h=>?_
 have h:=JK h
 have hlen:args.length=f.params.length:=by omega
 have loop: ∀(j i:Nat),i+j=args.length→EL (fun N k=>H0 N f args k (i:Int)) fun b=>b=true↔∀(i':Nat) (v:AI) (x:AH),i≤i'→args[i']?=some v→f.params[i']?=some x→v.type_=x.type_∧chk v=true:=by
  intro j
  induction j with
  |zero=>
   intro i hi
   refine EL.down ?_
   show EL (fun N k=>IL N f args (H0 N f args k) i) _
   unfold IL
   exact EL.cond (fun h=>by have:=CN h;omega) fun _=> .some ⟨fun _ i' v x hi' hv _=>by have:=(List.getElem?_eq_some_iff.1 hv).1;omega,fun _=>rfl⟩
  |succ j ihj=>
   intro i hi
   obtain ⟨v,hv⟩: ∃v,args[i]?=some v:=⟨_,List.getElem?_eq_getElem (by omega)⟩
   obtain ⟨x,hx⟩: ∃x,f.params[i]?=some x:=⟨_,List.getElem?_eq_getElem (by omega)⟩
   have hg:=hA.1 v (List.mem_of_getElem? hv)
   refine EL.down ?_
   show EL (fun N k=>IL N f args (H0 N f args k) i) _
   unfold IL KX
   rw [wr (by omega) (by omega),show (i:Int)+1=((i+1:Nat):Int) by omega]
   refine EL.cond (fun _=>?_) fun h=>by have:=Dn h;omega
   refine EL.eq (CD hv) (EL.eq (CD hx) (EL.cond (fun h=>?_) fun h=>?_))
   ·exact EL.cond (fun _=> .some ⟨fun h=>(by cases h),fun h'=>absurd (h' i v x (Nat.le_refl _) hv hx).1 (Ko h)⟩) fun h=>by cases h
   ·refine EL.bind (P:=fun b=>b=chk v) (Qb (v.list.length+2) ⟨_,rfl,fun N hN=>Ll hg.1 hN⟩) fun b hb=>?_
    subst hb
    refine EL.cond (fun hc=> .some ⟨fun h=>(by cases h),fun h'=>?_⟩) fun hc=>(ihj (i+1) (by omega)).mono fun b hb=>hb.trans ?_
    ·have:=(h' i v x (Nat.le_refl _) hv hx).2;rw [this] at hc;cases hc
    ·constructor
     ·intro h' i' w y hi' hw hy
      rcases Nat.eq_or_lt_of_le hi' with rfl|hlt
      ·rw [hv] at hw;cases hw;rw [hx] at hy;cases hy;exact ⟨JK h,by simpa using hc⟩
      ·exact h' i' w y hlt hw hy
     ·intro h' i' w y hi' hw hy;exact h' i' w y (by omega) hw hy
 refine (loop args.length 0 (by omega)).diag.mono fun b hb=>hb.trans ⟨fun h=>⟨hlen,fun i v x hv hx=>h i v x (Nat.zero_le _) hv hx⟩,fun h i v x _ hv hx=>h.2 i v x hv hx⟩
theorem AAD(hp:WP p)(hA:AV args)(most:Int): ∃r,Tp p nm args (TW most) r∧Ev fun N=>F4 N p nm args most=some r∧LO N p nm args most=some r:=by
 have hlen:=hp.len
 obtain ⟨ft,hft,et⟩:=AAB hp
 obtain ⟨fr,hfr,er⟩:=VN hp
 replace et:Ev fun N=>GX N p=some ft:=et
 replace er:Ev fun N=>Em N p=some fr:=er
 rcases Classical.em (Su p) with hS|hS
 rotate_left
 ·refine ⟨_,.shape hS,(et.and er).mono fun N hN=>⟨?_,?_⟩⟩
  ·unfold F4
   rw [hN.1,Option.bind_some,show (ft.why != 0)=true by simp;exact fun h=>hS (hft.1 h)];rfl
  ·unfold LO
   rw [hN.2,Option.bind_some,show (fr.why != 0)=true by simp;exact fun h=>hS (hfr.1 h)];rfl
 have zt:(ft.why != 0)=false:=by simp;exact hft.2 hS
 have zr:(fr.why != 0)=false:=by simp;exact hfr.2 hS
 obtain ⟨mp,hmpp,hmh,n0,hmap⟩:=ABj (nm:=nm) (args:=args) hlen hS.1.1 p.funcs.length 0 (by omega) [] fun s=>⟨by simp;rfl,fun k f hk=>by omega⟩
 have mean0:Ev fun N=>F4 N p nm args most=(bif !(Nf mp nm) then some (QQ 32) else ((idx p.funcs (CR mp nm)).bind fun x239=>bif ((args.length:Int) != (x239.params.length:Int)) then some (QQ 40) else EV N p args most mp x239 N Nm.nil 0)):=
  (et.and (Ls n0)).mono fun N hN=>by
   unfold F4
   rw [hN.1,Option.bind_some,zt,cond_false]
   exact hmap N N most hN.2
 have ref0:Ev fun N=>LO N p nm args most=(bif (!(hdR (hd p nm)).2) then some (QQ 32) else ((En N (hdR (hd p nm)).1 args).bind fun x80=>bif (!x80) then some (QQ 40) else (Is N p args most (hdR (hd p nm)) N Nm.nil 0))):=
  (er.and (Ls (p.funcs.length+2))).mono fun N hN=>by
   unfold LO
   rw [hN.1,Option.bind_some,zr,cond_false,Pj (by omega) hN.2,Option.bind_some];rfl
 cases hh:hd p nm with
 |none=>
  refine ⟨_,.func hS hh,(mean0.and ref0).mono fun N hN=>⟨?_,?_⟩⟩
  ·rw [hN.1,hmh,hh];rfl
  ·rw [hN.2,hh];rfl
 |some f=>
  have hfm:=List.mem_of_find?_eq_some hh
  have hfn:=hp.fns f hfm
  have hfp:=hfn.pars
  obtain ⟨b,hb,eb⟩:=W0 (f:=f) hA hfp
  replace eb:Ev fun N=>En N f args=some b:=eb
  have mean1:Ev fun N=>F4 N p nm args most=(bif ((args.length:Int) != (f.params.length:Int)) then some (QQ 40) else EV N p args most mp f N Nm.nil 0):=mean0.mono fun N hN=>by
   rw [hN,hmh,hh,hmpp nm f hh];rfl
  have ref1:Ev fun N=>LO N p nm args most=(bif (!b) then some (QQ 40) else (Is N p args most (f,true) N Nm.nil 0)):=(ref0.and eb).mono fun N hN=>by
   rw [hN.1,hh]
   show (bif (!true) then _ else ((En N f args).bind fun x80=>_))=_
   rw [hN.2];rfl
  have loopM: ∀(Z:Option BM),args.length=f.params.length→∀(j i:Nat),i+j=args.length→∀(acc:Nm),
    ((∀(i':Nat) (v:AI) (x:AH),i≤i'→args[i']?=some v→f.params[i']?=some x→v.type_=x.type_∧chk v=true)→
     ∃n1,∀N k,n1≤N→n1≤k→EV N p args most mp f k acc (i:Int)=Fe N p args most mp f (fun _ _=>Z) (RH (f.params.drop i) (args.drop i) acc) (args.length:Int))∧
    ((¬∀(i':Nat) (v:AI) (x:AH),i≤i'→args[i']?=some v→f.params[i']?=some x→v.type_=x.type_∧chk v=true)→
     ∃n1,∀N k,n1≤N→n1≤k→EV N p args most mp f k acc (i:Int)=some (QQ 40)):=by
   intro Z hlen2 j
   induction j with
   |zero=>
    intro i hi acc
    refine ⟨fun _=>⟨1,fun N k _ hk=>?_⟩,fun h=>absurd (fun i' v x hi' hv _=>by have:=(List.getElem?_eq_some_iff.1 hv).1;omega) h⟩
    obtain ⟨k,rfl⟩: ∃j,k=j+1:=⟨k - 1,by omega⟩
    show Fe N p args most mp f (EV N p args most mp f k) acc i=_
    have e1:f.params.drop i=[]:=List.drop_eq_nil_of_le (by omega)
    have e2:args.drop i=[]:=List.drop_eq_nil_of_le (by omega)
    rw [e1,e2]
    unfold Fe
    rw [show decide ((i:Int)< (args.length:Int))=false from decide_eq_false (by omega),show decide ((args.length:Int)< (args.length:Int))=false from decide_eq_false (by omega)]
    rfl
   |succ j ihj=>
    intro i hi acc
    obtain ⟨v,hv⟩: ∃v,args[i]?=some v:=⟨_,List.getElem?_eq_getElem (by omega)⟩
    obtain ⟨x,hx⟩: ∃x,f.params[i]?=some x:=⟨_,List.getElem?_eq_getElem (by omega)⟩
    have hg:=hA.1 v (List.mem_of_getElem? hv)
    have step: ∀N k,v.list.length+2≤N→EV N p args most mp f (k+1) acc (i:Int)=(bif (v.type_==x.type_&&chk v) then EV N p args most mp f k (.bind x.name (gv v) acc) ((i+1:Nat):Int) else some (QQ 40)):=by
     intro N k hN
     show Fe N p args most mp f (EV N p args most mp f k) acc i=_
     unfold Fe K5
     rw [show decide ((i:Int)< (args.length:Int))=true from decide_eq_true (by omega),cond_true,CD hv,Option.bind_some,CD hx,Option.bind_some,M7 hg.1 hN,Option.bind_some,(VO (v:=v) (N:=N) (by have:=hg.2;omega) hN).1,wr (by omega) (by omega),show (i:Int)+1=((i+1:Nat):Int) by omega,Option.bind_some,Option.bind_some]
     cases h1:(v.type_==x.type_)
     ·rw [show (v.type_ != x.type_)=true by simp only [bne,h1];rfl];rfl
     ·rw [show (v.type_ != x.type_)=false by simp only [bne,h1];rfl]
      cases chk v<;>rfl
    have ihh:=ihj (i+1) (by omega) (.bind x.name (gv v) acc)
    have heq:v.type_=x.type_∧chk v=true↔(v.type_==x.type_&&chk v)=true:=by simp
    have henv:RH (f.params.drop i) (args.drop i) acc=RH (f.params.drop (i+1)) (args.drop (i+1)) (.bind x.name (gv v) acc):=by rw [Kp hx,Kp hv];rfl
    constructor
    ·intro h
     have h0:=h i v x (Nat.le_refl _) hv hx
     obtain ⟨n1,hn1⟩:=ihh.1 fun i' w y hi' hw hy=>h i' w y (by omega) hw hy
     refine ⟨n1+v.list.length+3,fun N k hN hk=>?_⟩
     obtain ⟨k,rfl⟩: ∃j,k=j+1:=⟨k - 1,by omega⟩
     rw [step N k (by omega),heq.1 h0,cond_true,hn1 N k (by omega) (by omega),henv]
    ·intro h
     cases hc:(v.type_==x.type_&&chk v)
     ·refine ⟨v.list.length+3,fun N k hN hk=>?_⟩
      obtain ⟨k,rfl⟩: ∃j,k=j+1:=⟨k - 1,by omega⟩
      rw [step N k (by omega),hc];rfl
     ·obtain ⟨n1,hn1⟩:=ihh.2 fun h'=>h fun i' w y hi' hw hy=>by
       rcases Nat.eq_or_lt_of_le hi' with rfl|hlt
       ·rw [hv] at hw;cases hw;rw [hx] at hy;cases hy;exact heq.2 hc
       ·exact h' i' w y hlt hw hy
      refine ⟨n1+v.list.length+3,fun N k hN hk=>?_⟩
      obtain ⟨k,rfl⟩: ∃j,k=j+1:=⟨k - 1,by omega⟩
      rw [step N k (by omega),hc]
      exact hn1 N k (by omega) (by omega)
  rcases Classical.em (Wz f args) with hF|hF
  ·
   have hEnv:EOK p 1100000 f.params.reverse (RH f.params args .nil):=by
    have:=AAC (p:=p) (L:=1100000) f.params args [] .nil hF.1.symm .nil fun i x v hx hv=>by
     have h1:=hF.2 i v x hv hx
     have h2:=hA.1 v (List.mem_of_getElem? hv)
     exact ⟨h1.1,(YT h2.1).1 h1.2,by omega⟩
    rwa [List.append_nil] at this
   obtain ⟨r,c,hr,hc,hv⟩:=ABe hp hS.2 (by omega) (Nat.le_refl 1100000) (Wy most) hEnv (hS.2 f hfm) hfn.body hfn.typ
   refine ⟨_,.run hS hh hF hr hc hv,?_⟩
   obtain ⟨n1,hn1⟩:=(loopM none hF.1 args.length 0 (by omega) .nil).1 fun i v x _ hv hx=>hF.2 i v x hv hx
   have mean2:Ev fun N=>F4 N p nm args most=Fe N p args most mp f (fun _ _=>none) (RH f.params args .nil) (args.length:Int):=(mean1.and (Ls n1)).mono fun N hN=>by
    rw [hN.1,show ((args.length:Int) != (f.params.length:Int))=false by simp;have:=hF.1;omega,cond_false]
    exact hn1 N N hN.2 hN.2
   have hbt:b=true:=hb.2 hF
   have loopR: ∀(j i:Nat),i+j=args.length→∀(acc:Nm),∃n1,∀N k,n1≤N→n1≤k→Is N p args most (f,true) k acc (i:Int)=GP N p args most (f,true) (fun _ _=>none) (RH (f.params.drop i) (args.drop i) acc) (args.length:Int):=by
    intro j
    induction j with
    |zero=>
     intro i hi acc
     refine ⟨1,fun N k _ hk=>?_⟩
     obtain ⟨k,rfl⟩: ∃j,k=j+1:=⟨k - 1,by omega⟩
     show GP N p args most (f,true) (Is N p args most (f,true) k) acc i=_
     have e1:f.params.drop i=[]:=List.drop_eq_nil_of_le (by have:=hF.1;omega)
     have e2:args.drop i=[]:=List.drop_eq_nil_of_le (by omega)
     rw [e1,e2]
     unfold GP
     rw [show decide ((i:Int)< (args.length:Int))=false from decide_eq_false (by omega),show decide ((args.length:Int)< (args.length:Int))=false from decide_eq_false (by omega)]
     rfl
    |succ j ihj=>
     intro i hi acc
     obtain ⟨v,hv⟩: ∃v,args[i]?=some v:=⟨_,List.getElem?_eq_getElem (by omega)⟩
     obtain ⟨x,hx⟩: ∃x,f.params[i]?=some x:=⟨_,List.getElem?_eq_getElem (by have:=hF.1;omega)⟩
     have hg:=hA.1 v (List.mem_of_getElem? hv)
     obtain ⟨n1,hn1⟩:=ihj (i+1) (by omega) (.bind x.name (gv v) acc)
     refine ⟨n1+v.list.length+3,fun N k hN hk=>?_⟩
     obtain ⟨k,rfl⟩: ∃j,k=j+1:=⟨k - 1,by omega⟩
     show GP N p args most (f,true) (Is N p args most (f,true) k) acc i=_
     have henv:RH (f.params.drop i) (args.drop i) acc=RH (f.params.drop (i+1)) (args.drop (i+1)) (.bind x.name (gv v) acc):=by rw [Kp hx,Kp hv];rfl
     rw [henv,←hn1 N k (by omega) (by omega)]
     conv=>lhs;unfold GP
     have hx':idx (f,true).1.params (i:Int)=some x:=CD hx
     have hai:(i:Int)< (args.length:Int):=by omega
     have hfl:=hF.1
     rw [show decide ((i:Int)< (args.length:Int))=true from decide_eq_true hai,cond_true,hx',Option.bind_some,CD hv,Option.bind_some,(VO (v:=v) (N:=N) (by have:=hg.2;omega) (by omega)).2,Option.bind_some,wr (by omega) (by omega),show (i:Int)+1=((i+1:Nat):Int) by omega]
   obtain ⟨n2,hn2⟩:=loopR args.length 0 (by omega) .nil
   have ref2:Ev fun N=>LO N p nm args most=GP N p args most (f,true) (fun _ _=>none) (RH f.params args .nil) (args.length:Int):=(ref1.and (Ls n2)).mono fun N hN=>by
    rw [hN.1,hbt]
    exact hn2 N N hN.2 hN.2
   have hm:=Wy most
   have dl:decide ((args.length:Int)< (args.length:Int))=false:=decide_eq_false (by omega)
   cases hr with
   |err h=>
    rename_i y
    have hy:=Oa h y rfl
    refine (((mean2.and ref2).and (Uh hp hmpp hm h)).and ((V8 hp hm h).and (Ls 1))).mono fun N hN=>⟨?_,?_⟩
    ·rw [hN.1.1.1]
     unfold Fe
     rw [dl,cond_false,PH,RR]
     have:=hN.1.2
     rw [show ((0:Nat):Int)=0 from rfl] at this
     rw [this];rfl
    ·rw [hN.1.1.2]
     unfold GP
     rw [dl,cond_false,PH,RR]
     have:=hN.2.1
     rw [show ((0:Nat):Int)=0 from rfl] at this
     rw [this]
     obtain ⟨M,hM⟩: ∃M,N=M+1:=⟨N - 1,by have:=hN.2.2;omega⟩
     subst hM
     show ((Hk (M+1) ⟨p,TW most,c,y⟩ th0).bind fun x312=>_)=_
     unfold Hk GO
     rw [show ((Al.mk p (TW most) c y).why==0)=false by simpa using hy,cond_false,cond_false]
     show ((D2 (M+1) (CA (M+1) M) th0 p.funcs (TW most) c y []).bind fun x312=>_)=_
     unfold D2
     rw [show (y==0)=false by simpa using hy]
     show (bif (y != 0) then _ else _)=_
     rw [show (y != 0)=true by simpa using hy];rfl
   |val h h2=>
    rename_i x c1
    refine (((mean2.and ref2).and ((Uh hp hmpp hm h).and (Z1 hp hmpp hm h2))).and ((V8 hp hm h).and (ABc hp hm h2))).mono fun N hN=>⟨?_,?_⟩
    ·rw [hN.1.1.1]
     unfold Fe
     rw [dl,cond_false,PH,RR]
     have:=hN.1.2.1
     rw [show ((0:Nat):Int)=0 from rfl] at this
     rw [this]
     show ((D1 N p.funcs c1 (TW most) mp x).bind fun x757=>_)=_
     rw [hN.1.2.2]
     cases r<;>rfl
    ·rw [hN.1.1.2]
     unfold GP
     rw [dl,cond_false,PH,RR]
     have:=hN.2.1
     rw [show ((0:Nat):Int)=0 from rfl] at this
     rw [this]
     obtain ⟨v,hv1,hv2⟩:=hN.2.2
     show ((Hk N ⟨p,TW most,c1,0⟩ (.done x.plain x.head x.tail)).bind fun x312=>_)=_
     rw [hv1,Option.bind_some]
     cases r with
     |ok u=>rw [hv2 u rfl];rfl
     |error y=>
      have hy:y≠0:=by rcases hv with ⟨h,_⟩| ⟨h,_⟩<;>omega
      show (bif (y != 0) then _ else _)=_
      rw [show (y != 0)=true by simpa using hy];rfl
  ·
   have hbf:b=false:=by cases hbb:b;rfl;exact absurd (hb.1 hbb) hF
   refine ⟨_,.args hS hh hF,?_⟩
   rcases Decidable.em (args.length=f.params.length) with hl2|hl2
   ·obtain ⟨n1,hn1⟩:=(loopM none hl2 args.length 0 (by omega) .nil).2 fun h=>hF ⟨hl2,fun i v x hv hx=>h i v x (Nat.zero_le _) hv hx⟩
    refine ((mean1.and ref1).and (Ls n1)).mono fun N hN=>⟨?_,?_⟩
    ·rw [hN.1.1,show ((args.length:Int) != (f.params.length:Int))=false by simp;omega,cond_false]
     exact hn1 N N hN.2 hN.2
    ·rw [hN.1.2,hbf];rfl
   ·refine (mean1.and ref1).mono fun N hN=>⟨?_,?_⟩
    ·rw [hN.1,show ((args.length:Int) != (f.params.length:Int))=true by simp;omega];rfl
    ·rw [hN.2,hbf];rfl
end
end Fth
namespace Fth
open Go
section
variable{p:AM}{nm:List UInt8}{args:List AI}{m:Nat}
end
end Fth
namespace Fth
open Go
class OL{α:Type}(x y:Option α):Prop where
 le: ∀a,x=some a→y=some a
class Up(N M:Nat):Prop where
 le:N≤M
instance OL.refl {α:Type} {x:Option α}:OL x x:=⟨fun _ h=>h⟩
theorem OL.none{α:Type}{x:Option α}:OL none x:=⟨fun _ h=>by cases h⟩
instance OL.bind {α β:Type} {x y:Option α} {f g:α→Option β} [h:OL x y] [k: ∀a,OL (f a) (g a)]:OL (x.bind f) (y.bind g):=⟨fun b hb=>by
 cases x with
 |none=>cases hb
 |some a=>rw [h.le a rfl];exact (k a).le b hb⟩
instance OL.cond {α:Type} {c:Bool} {x y x' y':Option α} [h1:OL x x'] [h2:OL y y']:OL (bif c then x else y) (bif c then x' else y'):=by
 cases c
 ·exact h2
 ·exact h1
theorem Up.go{P:Nat→Nat→Prop}(h0: ∀M,P 0 M)(hs: ∀n m [Up n m],P n m→P (n+1) (m+1)){N M:Nat}[h:Up N M]:P N M:=by
 have: ∀N M,N≤M→P N M:=by
  intro N
  induction N with
  |zero=>intro M _;exact h0 M
  |succ n ih=>
   intro M hM
   cases M with
   |zero=>exact absurd hM (Nat.not_succ_le_zero n)
   |succ m=>exact @hs n m ⟨Nat.le_of_succ_le_succ hM⟩ (ih m (Nat.le_of_succ_le_succ hM))
 exact this N M h.le
set_option linter.unusedVariables false
set_option synthInstance.maxHeartbeats 400000
set_option synthInstance.maxSize 4000
theorem Yq{α0 β:Type}{f f':Nat→α0→Option β}(hs: ∀n m [Up n m] [∀y0,OL (f n y0) (f' m y0)] y0,OL (f (n+1) y0) (f' (m+1) y0))(h0: ∀y0,f 0 y0=none:=by intros;rfl){N M}[Up N M]{y0}:OL (f N y0) (f' M y0):=Up.go (P:=fun N M=>∀y0,OL (f N y0) (f' M y0)) (fun _ _=>by rw [h0];exact .none) (fun n m _ h=>@hs n m _ h) y0
theorem Tq{α0 α1 β:Type}{f f':Nat→α0→α1→Option β}(hs: ∀n m [Up n m] [∀y0 y1,OL (f n y0 y1) (f' m y0 y1)] y0 y1,OL (f (n+1) y0 y1) (f' (m+1) y0 y1))(h0: ∀y0 y1,f 0 y0 y1=none:=by intros;rfl){N M}[Up N M]{y0 y1}:OL (f N y0 y1) (f' M y0 y1):=Up.go (P:=fun N M=>∀y0 y1,OL (f N y0 y1) (f' M y0 y1)) (fun _ _ _=>by rw [h0];exact .none) (fun n m _ h=>@hs n m _ h) y0 y1
theorem ABw{α0 α1 α2 β:Type}{f f':Nat→α0→α1→α2→Option β}(hs: ∀n m [Up n m] [∀y0 y1 y2,OL (f n y0 y1 y2) (f' m y0 y1 y2)] y0 y1 y2,OL (f (n+1) y0 y1 y2) (f' (m+1) y0 y1 y2))(h0: ∀y0 y1 y2,f 0 y0 y1 y2=none:=by intros;rfl){N M}[Up N M]{y0 y1 y2}:OL (f N y0 y1 y2) (f' M y0 y1 y2):=Up.go (P:=fun N M=>∀y0 y1 y2,OL (f N y0 y1 y2) (f' M y0 y1 y2)) (fun _ _ _ _=>by rw [h0];exact .none) (fun n m _ h=>@hs n m _ h) y0 y1 y2
theorem ABx{α0 α1 α2 α3 β:Type}{f f':Nat→α0→α1→α2→α3→Option β}(hs: ∀n m [Up n m] [∀y0 y1 y2 y3,OL (f n y0 y1 y2 y3) (f' m y0 y1 y2 y3)] y0 y1 y2 y3,OL (f (n+1) y0 y1 y2 y3) (f' (m+1) y0 y1 y2 y3))(h0: ∀y0 y1 y2 y3,f 0 y0 y1 y2 y3=none:=by intros;rfl){N M}[Up N M]{y0 y1 y2 y3}:OL (f N y0 y1 y2 y3) (f' M y0 y1 y2 y3):=Up.go (P:=fun N M=>∀y0 y1 y2 y3,OL (f N y0 y1 y2 y3) (f' M y0 y1 y2 y3)) (fun _ _ _ _ _=>by rw [h0];exact .none) (fun n m _ h=>@hs n m _ h) y0 y1 y2 y3
instance {p0 p2} {s1 s1'} [∀x0,OL (s1 x0) (s1' x0)]:OL (GD p0 s1 p2) (GD p0 s1' p2):=by unfold GD;infer_instance
instance {p0 p1 p3} {s2 s2'} [∀x0,OL (s2 x0) (s2' x0)]:OL (F8 p0 p1 s2 p3) (F8 p0 p1 s2' p3):=by unfold F8;infer_instance
instance {p0 p1} {k j} [Up k j] {y0}:OL (ES p0 p1 k y0) (ES p0 p1 j y0):=Yq fun n m _ _ y0=>inferInstanceAs (OL (F8 p0 p1 (ES p0 p1 n) y0) (F8 p0 p1 (ES p0 p1 m) y0))
instance {p1 p2} {N M} [Up N M]:OL (H1 N p1 p2) (H1 M p1 p2):=by unfold H1;infer_instance
instance {p0 p1 p2 p3 p5} {s4 s4'} [∀x0 x1,OL (s4 x0 x1) (s4' x0 x1)]:OL (Ea p0 p1 p2 p3 s4 p5) (Ea p0 p1 p2 p3 s4' p5):=by unfold Ea;infer_instance
instance {p0 p1 p3 p4} {s2 s2'} [∀x0 x1,OL (s2 x0 x1) (s2' x0 x1)]:OL (Ey p0 p1 s2 p3 p4) (Ey p0 p1 s2' p3 p4):=by unfold Ey;infer_instance
instance {p0 p1} {k j} [Up k j] {y0 y1}:OL (EE p0 p1 k y0 y1) (EE p0 p1 j y0 y1):=Tq fun n m _ _ y0 y1=>inferInstanceAs (OL (Ey p0 p1 (EE p0 p1 n) y0 y1) (Ey p0 p1 (EE p0 p1 m) y0 y1))
instance {p1 p2} {N M} [Up N M]:OL (H5 N p1 p2) (H5 M p1 p2):=by unfold H5;infer_instance
instance {p1 p2} {N M} [Up N M]:OL (HA N p1 p2) (HA M p1 p2):=by unfold HA;infer_instance
instance {p1} {N M} [Up N M]:OL (Eb N p1) (Eb M p1):=by unfold Eb;infer_instance
class A9.Le(φ ψ:A9):Prop where
 ref01_digits: ∀x0,OL (φ.ref01_digits x0) (ψ.ref01_digits x0)
attribute [instance] A9.Le.ref01_digits
instance {p2} {φ ψ} [A9.Le φ ψ] {N M} [Up N M]:OL (DF φ N p2) (DF ψ M p2):=by unfold DF;infer_instance
instance {N M} [Up N M]:A9.Le (A9.at N) (A9.at M):=Up.go (P:=fun N M=>A9.Le (A9.at N) (A9.at M)) (fun _=>⟨fun _=> .none⟩) fun n m _ _=>⟨fun x0=>inferInstanceAs (OL (DF (A9.at n) n x0) (DF (A9.at m) m x0))⟩
instance {N M} [Up N M] {y0}:OL (ref01_digits N y0) (ref01_digits M y0):=A9.Le.ref01_digits _
instance {p1} {N M} [Up N M]:OL (Fn N p1) (Fn M p1):=by unfold Fn;infer_instance
instance {p1 p2 p3} {N M} [Up N M]:OL (FX N p1 p2 p3) (FX M p1 p2 p3):=by unfold FX;infer_instance
instance {p1 p2 p3} {N M} [Up N M]:OL (HC N p1 p2 p3) (HC M p1 p2 p3):=by unfold HC;infer_instance
instance {p1} {N M} [Up N M]:OL (EO N p1) (EO M p1):=by unfold EO;infer_instance
instance {p0 p1 p3} {s2 s2'} [∀x0,OL (s2 x0) (s2' x0)]:OL (Dk p0 p1 s2 p3) (Dk p0 p1 s2' p3):=by unfold Dk;infer_instance
instance {p0 p1} {k j} [Up k j] {y0}:OL (DW p0 p1 k y0) (DW p0 p1 j y0):=Yq fun n m _ _ y0=>inferInstanceAs (OL (Dk p0 p1 (DW p0 p1 n) y0) (Dk p0 p1 (DW p0 p1 m) y0))
instance {p1} {N M} [Up N M]:OL (DX N p1) (DX M p1):=by unfold DX;infer_instance
instance {p1 p2 p3 p4 p5} {N M} [Up N M]:OL (Hn N p1 p2 p3 p4 p5) (Hn M p1 p2 p3 p4 p5):=by unfold Hn;infer_instance
instance {p1 p2 p3 p4 p5} {N M} [Up N M]:OL (Hp N p1 p2 p3 p4 p5) (Hp M p1 p2 p3 p4 p5):=by unfold Hp;infer_instance
instance {p1 p2} {N M} [Up N M]:OL (HW N p1 p2) (HW M p1 p2):=by unfold HW;infer_instance
instance {p0 p2 p4} {s1 s1'} [∀x0 x1,OL (s1 x0 x1) (s1' x0 x1)] {s3 s3'} [∀x0,OL (s3 x0) (s3' x0)]:OL (HD p0 s1 p2 s3 p4) (HD p0 s1' p2 s3' p4):=by unfold HD;infer_instance
instance {p0 p1 p4} {s2 s2'} [∀x0 x1,OL (s2 x0 x1) (s2' x0 x1)] {s3 s3'} [∀x0,OL (s3 x0) (s3' x0)]:OL (Ez p0 p1 s2 s3 p4) (Ez p0 p1 s2' s3' p4):=by unfold Ez;infer_instance
instance {p0 p1} {s2 s2'} [∀x0 x1,OL (s2 x0 x1) (s2' x0 x1)] {k j} [Up k j] {y0}:OL (Ec p0 p1 s2 k y0) (Ec p0 p1 s2' j y0):=Yq fun n m _ _ y0=>inferInstanceAs (OL (Ez p0 p1 s2 (Ec p0 p1 s2 n) y0) (Ez p0 p1 s2' (Ec p0 p1 s2' m) y0))
instance {p1 p3 p4} {N M} [Up N M] {s2 s2'} [∀x0 x1,OL (s2 x0 x1) (s2' x0 x1)]:OL (E0 N p1 s2 p3 p4) (E0 M p1 s2' p3 p4):=by unfold E0;infer_instance
instance {p1} {N M} [Up N M] {k j} [Up k j] {y0 y1}:OL (DY N p1 k y0 y1) (DY M p1 j y0 y1):=Tq fun n m _ _ y0 y1=>inferInstanceAs (OL (E0 N p1 (DY N p1 n) y0 y1) (E0 M p1 (DY M p1 m) y0 y1))
instance {p1} {N M} [Up N M]:OL (Fr N p1) (Fr M p1):=by unfold Fr;infer_instance
instance {p1 p2 p3 p4 p5 p6 p7 p8 p9 p10} {s0 s0'} [∀x0 x1 x2 x3 x4 x5 x6 x7 x8 x9,OL (s0 x0 x1 x2 x3 x4 x5 x6 x7 x8 x9) (s0' x0 x1 x2 x3 x4 x5 x6 x7 x8 x9)]:OL (Cz s0 p1 p2 p3 p4 p5 p6 p7 p8 p9 p10) (Cz s0' p1 p2 p3 p4 p5 p6 p7 p8 p9 p10):=by unfold Cz;infer_instance
instance {k j} [Up k j] {y0 y1 y2 y3 y4 y5 y6 y7 y8 y9}:OL (CB k y0 y1 y2 y3 y4 y5 y6 y7 y8 y9) (CB j y0 y1 y2 y3 y4 y5 y6 y7 y8 y9):=Up.go (P:=fun k j=>∀y0 y1 y2 y3 y4 y5 y6 y7 y8 y9,OL (CB k y0 y1 y2 y3 y4 y5 y6 y7 y8 y9) (CB j y0 y1 y2 y3 y4 y5 y6 y7 y8 y9)) (fun _ _ _ _ _ _ _ _ _ _ _=> .none) (fun n m _ _ y0 y1 y2 y3 y4 y5 y6 y7 y8 y9=>inferInstanceAs (OL (Cz (CB n) y0 y1 y2 y3 y4 y5 y6 y7 y8 y9) (Cz (CB m) y0 y1 y2 y3 y4 y5 y6 y7 y8 y9))) y0 y1 y2 y3 y4 y5 y6 y7 y8 y9
instance {p1} {N M} [Up N M]:OL (CC N p1) (CC M p1):=by unfold CC;infer_instance
class AC.Le(φ ψ:AC):Prop where
 ref04_reader_expr: ∀x0,OL (φ.ref04_reader_expr x0) (ψ.ref04_reader_expr x0)
 ref04_reader_cons: ∀x0,OL (φ.ref04_reader_cons x0) (ψ.ref04_reader_cons x0)
 ref04_reader_parts: ∀x0 x1,OL (φ.ref04_reader_parts x0 x1) (ψ.ref04_reader_parts x0 x1)
 ref04_reader_branches: ∀x0 x1,OL (φ.ref04_reader_branches x0 x1) (ψ.ref04_reader_branches x0 x1)
 ref04_reader_comp: ∀x0,OL (φ.ref04_reader_comp x0) (ψ.ref04_reader_comp x0)
 ref04_reader_sum: ∀x0,OL (φ.ref04_reader_sum x0) (ψ.ref04_reader_sum x0)
 ref04_reader_term: ∀x0,OL (φ.ref04_reader_term x0) (ψ.ref04_reader_term x0)
 ref04_reader_unit: ∀x0,OL (φ.ref04_reader_unit x0) (ψ.ref04_reader_unit x0)
 ref04_reader_named: ∀x0 x1,OL (φ.ref04_reader_named x0 x1) (ψ.ref04_reader_named x0 x1)
attribute [instance] AC.Le.ref04_reader_expr AC.Le.ref04_reader_cons AC.Le.ref04_reader_parts AC.Le.ref04_reader_branches AC.Le.ref04_reader_comp AC.Le.ref04_reader_sum AC.Le.ref04_reader_term AC.Le.ref04_reader_unit AC.Le.ref04_reader_named
instance {p2 p3 p4 p5 p6 p7 p8 p9 p10 p11 p12 p13} {φ ψ} [AC.Le φ ψ] {N M} [Up N M]:OL (DZ φ N p2 p3 p4 p5 p6 p7 p8 p9 p10 p11 p12 p13) (DZ ψ M p2 p3 p4 p5 p6 p7 p8 p9 p10 p11 p12 p13):=by unfold DZ;infer_instance
instance {p2 p3 p4 p5 p6 p7 p8 p9 p10 p11 p12} {φ ψ} [AC.Le φ ψ] {N M} [Up N M]:OL (Da φ N p2 p3 p4 p5 p6 p7 p8 p9 p10 p11 p12) (Da ψ M p2 p3 p4 p5 p6 p7 p8 p9 p10 p11 p12):=by unfold Da;infer_instance
instance {p2 p3 p4 p5 p6 p7 p8 p9 p10 p11 p12 p13} {φ ψ} [AC.Le φ ψ] {N M} [Up N M]:OL (Db φ N p2 p3 p4 p5 p6 p7 p8 p9 p10 p11 p12 p13) (Db ψ M p2 p3 p4 p5 p6 p7 p8 p9 p10 p11 p12 p13):=by unfold Db;infer_instance
instance {p2 p3 p4 p5 p6 p7 p8 p9 p10 p11 p12} {φ ψ} [AC.Le φ ψ] {N M} [Up N M]:OL (Dc φ N p2 p3 p4 p5 p6 p7 p8 p9 p10 p11 p12) (Dc ψ M p2 p3 p4 p5 p6 p7 p8 p9 p10 p11 p12):=by unfold Dc;infer_instance
instance {p2 p3 p4 p5} {φ ψ} [AC.Le φ ψ] {N M} [Up N M]:OL (Dd φ N p2 p3 p4 p5) (Dd ψ M p2 p3 p4 p5):=by unfold Dd;infer_instance
instance {p2 p3 p4} {φ ψ} [AC.Le φ ψ] {N M} [Up N M]:OL (C7 φ N p2 p3 p4) (C7 ψ M p2 p3 p4):=by unfold C7;infer_instance
instance {p2} {φ ψ} [AC.Le φ ψ] {N M} [Up N M]:OL (Cm φ N p2) (Cm ψ M p2):=by unfold Cm;infer_instance
instance {p2} {φ ψ} [AC.Le φ ψ] {N M} [Up N M]:OL (Co φ N p2) (Co ψ M p2):=by unfold Co;infer_instance
instance {p1 p2 p4 p5 p6 p7 p8 p9 p10 p11 p12} {φ ψ} [AC.Le φ ψ] {s3 s3'} [∀x0 x1 x2 x3 x4 x5 x6 x7 x8 x9 x10,OL (s3 x0 x1 x2 x3 x4 x5 x6 x7 x8 x9 x10) (s3' x0 x1 x2 x3 x4 x5 x6 x7 x8 x9 x10)]:OL (DI φ p1 p2 s3 p4 p5 p6 p7 p8 p9 p10 p11 p12) (DI ψ p1 p2 s3' p4 p5 p6 p7 p8 p9 p10 p11 p12):=by unfold DI;infer_instance
instance {p1 p3 p4 p5 p6 p7 p8 p9 p10 p11 p12 p13} {φ ψ} [AC.Le φ ψ] {s2 s2'} [∀x0 x1 x2 x3 x4 x5 x6 x7 x8 x9 x10,OL (s2 x0 x1 x2 x3 x4 x5 x6 x7 x8 x9 x10) (s2' x0 x1 x2 x3 x4 x5 x6 x7 x8 x9 x10)]:OL (CV φ p1 s2 p3 p4 p5 p6 p7 p8 p9 p10 p11 p12 p13) (CV ψ p1 s2' p3 p4 p5 p6 p7 p8 p9 p10 p11 p12 p13):=by unfold CV;infer_instance
instance {p1} {φ ψ} [AC.Le φ ψ] {k j} [Up k j] {y0 y1 y2 y3 y4 y5 y6 y7 y8 y9 y10}:OL (Bg φ p1 k y0 y1 y2 y3 y4 y5 y6 y7 y8 y9 y10) (Bg ψ p1 j y0 y1 y2 y3 y4 y5 y6 y7 y8 y9 y10):=Up.go (P:=fun k j=>∀y0 y1 y2 y3 y4 y5 y6 y7 y8 y9 y10,OL (Bg φ p1 k y0 y1 y2 y3 y4 y5 y6 y7 y8 y9 y10) (Bg ψ p1 j y0 y1 y2 y3 y4 y5 y6 y7 y8 y9 y10)) (fun _ _ _ _ _ _ _ _ _ _ _ _=> .none) (fun n m _ _ y0 y1 y2 y3 y4 y5 y6 y7 y8 y9 y10=>inferInstanceAs (OL (CV φ p1 (Bg φ p1 n) y0 y1 y2 y3 y4 y5 y6 y7 y8 y9 y10) (CV ψ p1 (Bg ψ p1 m) y0 y1 y2 y3 y4 y5 y6 y7 y8 y9 y10))) y0 y1 y2 y3 y4 y5 y6 y7 y8 y9 y10
instance {p2 p3} {φ ψ} [AC.Le φ ψ] {N M} [Up N M]:OL (CY φ N p2 p3) (CY ψ M p2 p3):=by unfold CY;infer_instance
instance {p2 p3} {φ ψ} [AC.Le φ ψ] {N M} [Up N M]:OL (Bz φ N p2 p3) (Bz ψ M p2 p3):=by unfold Bz;infer_instance
instance {p1 p2 p3 p4 p5 p6 p7 p8 p9 p10 p11 p12 p13} {φ ψ} [AC.Le φ ψ]:OL (D4 φ p1 p2 p3 p4 p5 p6 p7 p8 p9 p10 p11 p12 p13) (D4 ψ p1 p2 p3 p4 p5 p6 p7 p8 p9 p10 p11 p12 p13):=by unfold D4;infer_instance
instance {p1 p2 p3} {φ ψ} [AC.Le φ ψ]:OL (De φ p1 p2 p3) (De ψ p1 p2 p3):=by unfold De;infer_instance
instance {p2} {φ ψ} [AC.Le φ ψ] {N M} [Up N M]:OL (Cp φ N p2) (Cp ψ M p2):=by unfold Cp;infer_instance
instance {p0 p1 p2 p3 p4 p5 p6 p8 p9 p10} {s7 s7'} [∀x0 x1 x2 x3 x4 x5 x6 x7 x8 x9 x10 x11 x12 x13 x14 x15,OL (s7 x0 x1 x2 x3 x4 x5 x6 x7 x8 x9 x10 x11 x12 x13 x14 x15) (s7' x0 x1 x2 x3 x4 x5 x6 x7 x8 x9 x10 x11 x12 x13 x14 x15)]:OL (Dr p0 p1 p2 p3 p4 p5 p6 s7 p8 p9 p10) (Dr p0 p1 p2 p3 p4 p5 p6 s7' p8 p9 p10):=by unfold Dr;infer_instance
instance {p1 p2 p3 p4 p5 p6 p7 p8 p9 p10 p11 p12 p13 p14 p15 p16 p18} {φ ψ} [AC.Le φ ψ] {s17 s17'} [∀x0 x1 x2 x3 x4 x5 x6 x7 x8 x9 x10 x11 x12 x13 x14 x15,OL (s17 x0 x1 x2 x3 x4 x5 x6 x7 x8 x9 x10 x11 x12 x13 x14 x15) (s17' x0 x1 x2 x3 x4 x5 x6 x7 x8 x9 x10 x11 x12 x13 x14 x15)]:OL (Ds φ p1 p2 p3 p4 p5 p6 p7 p8 p9 p10 p11 p12 p13 p14 p15 p16 s17 p18) (Ds ψ p1 p2 p3 p4 p5 p6 p7 p8 p9 p10 p11 p12 p13 p14 p15 p16 s17' p18):=by unfold Ds;infer_instance
instance {p2 p3 p4 p5 p6 p7 p8 p9 p10 p11 p12 p13 p14 p15 p16 p17} {φ ψ} [AC.Le φ ψ] {s1 s1'} [∀x0 x1 x2 x3 x4 x5 x6 x7 x8 x9 x10 x11 x12 x13 x14 x15,OL (s1 x0 x1 x2 x3 x4 x5 x6 x7 x8 x9 x10 x11 x12 x13 x14 x15) (s1' x0 x1 x2 x3 x4 x5 x6 x7 x8 x9 x10 x11 x12 x13 x14 x15)]:OL (C8 φ s1 p2 p3 p4 p5 p6 p7 p8 p9 p10 p11 p12 p13 p14 p15 p16 p17) (C8 ψ s1' p2 p3 p4 p5 p6 p7 p8 p9 p10 p11 p12 p13 p14 p15 p16 p17):=by unfold C8;infer_instance
instance {φ ψ} [AC.Le φ ψ] {k j} [Up k j] {y0 y1 y2 y3 y4 y5 y6 y7 y8 y9 y10 y11 y12 y13 y14 y15}:OL (Bj φ k y0 y1 y2 y3 y4 y5 y6 y7 y8 y9 y10 y11 y12 y13 y14 y15) (Bj ψ j y0 y1 y2 y3 y4 y5 y6 y7 y8 y9 y10 y11 y12 y13 y14 y15):=Up.go (P:=fun k j=>∀y0 y1 y2 y3 y4 y5 y6 y7 y8 y9 y10 y11 y12 y13 y14 y15,OL (Bj φ k y0 y1 y2 y3 y4 y5 y6 y7 y8 y9 y10 y11 y12 y13 y14 y15) (Bj ψ j y0 y1 y2 y3 y4 y5 y6 y7 y8 y9 y10 y11 y12 y13 y14 y15)) (fun _ _ _ _ _ _ _ _ _ _ _ _ _ _ _ _ _=> .none) (fun n m _ _ y0 y1 y2 y3 y4 y5 y6 y7 y8 y9 y10 y11 y12 y13 y14 y15=>inferInstanceAs (OL (C8 φ (Bj φ n) y0 y1 y2 y3 y4 y5 y6 y7 y8 y9 y10 y11 y12 y13 y14 y15) (C8 ψ (Bj ψ m) y0 y1 y2 y3 y4 y5 y6 y7 y8 y9 y10 y11 y12 y13 y14 y15))) y0 y1 y2 y3 y4 y5 y6 y7 y8 y9 y10 y11 y12 y13 y14 y15
instance {p2} {φ ψ} [AC.Le φ ψ] {N M} [Up N M]:OL (DG φ N p2) (DG ψ M p2):=by unfold DG;infer_instance
instance {p0 p1 p2 p3 p4 p5 p6 p8 p9 p10} {s7 s7'} [∀x0 x1 x2 x3 x4 x5 x6 x7 x8 x9 x10 x11 x12 x13 x14 x15,OL (s7 x0 x1 x2 x3 x4 x5 x6 x7 x8 x9 x10 x11 x12 x13 x14 x15) (s7' x0 x1 x2 x3 x4 x5 x6 x7 x8 x9 x10 x11 x12 x13 x14 x15)]:OL (Df p0 p1 p2 p3 p4 p5 p6 s7 p8 p9 p10) (Df p0 p1 p2 p3 p4 p5 p6 s7' p8 p9 p10):=by unfold Df;infer_instance
instance {p1 p2 p3 p4 p5 p6 p7 p8 p9 p10 p11 p12 p13 p14 p15 p16 p18} {φ ψ} [AC.Le φ ψ] {s17 s17'} [∀x0 x1 x2 x3 x4 x5 x6 x7 x8 x9 x10 x11 x12 x13 x14 x15,OL (s17 x0 x1 x2 x3 x4 x5 x6 x7 x8 x9 x10 x11 x12 x13 x14 x15) (s17' x0 x1 x2 x3 x4 x5 x6 x7 x8 x9 x10 x11 x12 x13 x14 x15)]:OL (Dg φ p1 p2 p3 p4 p5 p6 p7 p8 p9 p10 p11 p12 p13 p14 p15 p16 s17 p18) (Dg ψ p1 p2 p3 p4 p5 p6 p7 p8 p9 p10 p11 p12 p13 p14 p15 p16 s17' p18):=by unfold Dg;infer_instance
instance {p2 p3 p4 p5 p6 p7 p8 p9 p10 p11 p12 p13 p14 p15 p16 p17} {φ ψ} [AC.Le φ ψ] {s1 s1'} [∀x0 x1 x2 x3 x4 x5 x6 x7 x8 x9 x10 x11 x12 x13 x14 x15,OL (s1 x0 x1 x2 x3 x4 x5 x6 x7 x8 x9 x10 x11 x12 x13 x14 x15) (s1' x0 x1 x2 x3 x4 x5 x6 x7 x8 x9 x10 x11 x12 x13 x14 x15)]:OL (Cg φ s1 p2 p3 p4 p5 p6 p7 p8 p9 p10 p11 p12 p13 p14 p15 p16 p17) (Cg ψ s1' p2 p3 p4 p5 p6 p7 p8 p9 p10 p11 p12 p13 p14 p15 p16 p17):=by unfold Cg;infer_instance
instance {φ ψ} [AC.Le φ ψ] {k j} [Up k j] {y0 y1 y2 y3 y4 y5 y6 y7 y8 y9 y10 y11 y12 y13 y14 y15}:OL (Bd φ k y0 y1 y2 y3 y4 y5 y6 y7 y8 y9 y10 y11 y12 y13 y14 y15) (Bd ψ j y0 y1 y2 y3 y4 y5 y6 y7 y8 y9 y10 y11 y12 y13 y14 y15):=Up.go (P:=fun k j=>∀y0 y1 y2 y3 y4 y5 y6 y7 y8 y9 y10 y11 y12 y13 y14 y15,OL (Bd φ k y0 y1 y2 y3 y4 y5 y6 y7 y8 y9 y10 y11 y12 y13 y14 y15) (Bd ψ j y0 y1 y2 y3 y4 y5 y6 y7 y8 y9 y10 y11 y12 y13 y14 y15)) (fun _ _ _ _ _ _ _ _ _ _ _ _ _ _ _ _ _=> .none) (fun n m _ _ y0 y1 y2 y3 y4 y5 y6 y7 y8 y9 y10 y11 y12 y13 y14 y15=>inferInstanceAs (OL (Cg φ (Bd φ n) y0 y1 y2 y3 y4 y5 y6 y7 y8 y9 y10 y11 y12 y13 y14 y15) (Cg ψ (Bd ψ m) y0 y1 y2 y3 y4 y5 y6 y7 y8 y9 y10 y11 y12 y13 y14 y15))) y0 y1 y2 y3 y4 y5 y6 y7 y8 y9 y10 y11 y12 y13 y14 y15
instance {p2} {φ ψ} [AC.Le φ ψ] {N M} [Up N M]:OL (Cq φ N p2) (Cq ψ M p2):=by unfold Cq;infer_instance
instance {p1 p2 p3 p4 p5 p6 p7 p8} {φ ψ} [AC.Le φ ψ]:OL (CF φ p1 p2 p3 p4 p5 p6 p7 p8) (CF ψ p1 p2 p3 p4 p5 p6 p7 p8):=by unfold CF;infer_instance
instance {p2 p3 p4 p5 p6 p7 p8} {φ ψ} [AC.Le φ ψ] {N M} [Up N M]:OL (Ee φ N p2 p3 p4 p5 p6 p7 p8) (Ee ψ M p2 p3 p4 p5 p6 p7 p8):=by unfold Ee;infer_instance
instance {p2 p3 p4} {φ ψ} [AC.Le φ ψ] {N M} [Up N M]:OL (C9 φ N p2 p3 p4) (C9 ψ M p2 p3 p4):=by unfold C9;infer_instance
instance {p2} {φ ψ} [AC.Le φ ψ] {N M} [Up N M]:OL (Cr φ N p2) (Cr ψ M p2):=by unfold Cr;infer_instance
instance {p1 p3 p4 p5 p6 p7 p8 p9 p10 p11} {φ ψ} [AC.Le φ ψ] {s2 s2'} [∀x0 x1 x2 x3 x4 x5 x6 x7 x8 x9,OL (s2 x0 x1 x2 x3 x4 x5 x6 x7 x8 x9) (s2' x0 x1 x2 x3 x4 x5 x6 x7 x8 x9)]:OL (DJ φ p1 s2 p3 p4 p5 p6 p7 p8 p9 p10 p11) (DJ ψ p1 s2' p3 p4 p5 p6 p7 p8 p9 p10 p11):=by unfold DJ;infer_instance
instance {p1 p2 p3 p4 p5 p6 p7 p8 p9 p10 p11 p13} {φ ψ} [AC.Le φ ψ] {s12 s12'} [∀x0 x1 x2 x3 x4 x5 x6 x7 x8 x9,OL (s12 x0 x1 x2 x3 x4 x5 x6 x7 x8 x9) (s12' x0 x1 x2 x3 x4 x5 x6 x7 x8 x9)]:OL (DK φ p1 p2 p3 p4 p5 p6 p7 p8 p9 p10 p11 s12 p13) (DK ψ p1 p2 p3 p4 p5 p6 p7 p8 p9 p10 p11 s12' p13):=by unfold DK;infer_instance
instance {p1 p3 p4 p5 p6 p7 p8 p9 p10 p11 p12} {φ ψ} [AC.Le φ ψ] {s2 s2'} [∀x0 x1 x2 x3 x4 x5 x6 x7 x8 x9,OL (s2 x0 x1 x2 x3 x4 x5 x6 x7 x8 x9) (s2' x0 x1 x2 x3 x4 x5 x6 x7 x8 x9)]:OL (CW φ p1 s2 p3 p4 p5 p6 p7 p8 p9 p10 p11 p12) (CW ψ p1 s2' p3 p4 p5 p6 p7 p8 p9 p10 p11 p12):=by unfold CW;infer_instance
instance {p1} {φ ψ} [AC.Le φ ψ] {k j} [Up k j] {y0 y1 y2 y3 y4 y5 y6 y7 y8 y9}:OL (BZ φ p1 k y0 y1 y2 y3 y4 y5 y6 y7 y8 y9) (BZ ψ p1 j y0 y1 y2 y3 y4 y5 y6 y7 y8 y9):=Up.go (P:=fun k j=>∀y0 y1 y2 y3 y4 y5 y6 y7 y8 y9,OL (BZ φ p1 k y0 y1 y2 y3 y4 y5 y6 y7 y8 y9) (BZ ψ p1 j y0 y1 y2 y3 y4 y5 y6 y7 y8 y9)) (fun _ _ _ _ _ _ _ _ _ _ _=> .none) (fun n m _ _ y0 y1 y2 y3 y4 y5 y6 y7 y8 y9=>inferInstanceAs (OL (CW φ p1 (BZ φ p1 n) y0 y1 y2 y3 y4 y5 y6 y7 y8 y9) (CW ψ p1 (BZ ψ p1 m) y0 y1 y2 y3 y4 y5 y6 y7 y8 y9))) y0 y1 y2 y3 y4 y5 y6 y7 y8 y9
instance {p2 p3} {φ ψ} [AC.Le φ ψ] {N M} [Up N M]:OL (CZ φ N p2 p3) (CZ ψ M p2 p3):=by unfold CZ;infer_instance
instance {N M} [Up N M]:AC.Le (AC.at N) (AC.at M):=Up.go (P:=fun N M=>AC.Le (AC.at N) (AC.at M)) (fun _=>⟨fun _=> .none,fun _=> .none,fun _ _=> .none,fun _ _=> .none,fun _=> .none,fun _=> .none,fun _=> .none,fun _=> .none,fun _ _=> .none⟩) fun n m _ _=>⟨fun x0=>inferInstanceAs (OL (Cm (AC.at n) n x0) (Cm (AC.at m) m x0)),fun x0=>inferInstanceAs (OL (Co (AC.at n) n x0) (Co (AC.at m) m x0)),fun x0 x1=>inferInstanceAs (OL (CY (AC.at n) n x0 x1) (CY (AC.at m) m x0 x1)),fun x0 x1=>inferInstanceAs (OL (Bz (AC.at n) n x0 x1) (Bz (AC.at m) m x0 x1)),fun x0=>inferInstanceAs (OL (Cp (AC.at n) n x0) (Cp (AC.at m) m x0)),fun x0=>inferInstanceAs (OL (DG (AC.at n) n x0) (DG (AC.at m) m x0)),fun x0=>inferInstanceAs (OL (Cq (AC.at n) n x0) (Cq (AC.at m) m x0)),fun x0=>inferInstanceAs (OL (Cr (AC.at n) n x0) (Cr (AC.at m) m x0)),fun x0 x1=>inferInstanceAs (OL (CZ (AC.at n) n x0 x1) (CZ (AC.at m) m x0 x1))⟩
instance {N M} [Up N M] {y0}:OL (ref04_reader_expr N y0) (ref04_reader_expr M y0):=AC.Le.ref04_reader_expr _
instance {N M} [Up N M] {y0}:OL (ref04_reader_cons N y0) (ref04_reader_cons M y0):=AC.Le.ref04_reader_cons _
instance {N M} [Up N M] {y0 y1}:OL (ref04_reader_parts N y0 y1) (ref04_reader_parts M y0 y1):=AC.Le.ref04_reader_parts _ _
instance {N M} [Up N M] {y0 y1}:OL (ref04_reader_branches N y0 y1) (ref04_reader_branches M y0 y1):=AC.Le.ref04_reader_branches _ _
instance {N M} [Up N M] {y0}:OL (ref04_reader_comp N y0) (ref04_reader_comp M y0):=AC.Le.ref04_reader_comp _
instance {N M} [Up N M] {y0}:OL (ref04_reader_sum N y0) (ref04_reader_sum M y0):=AC.Le.ref04_reader_sum _
instance {N M} [Up N M] {y0}:OL (ref04_reader_term N y0) (ref04_reader_term M y0):=AC.Le.ref04_reader_term _
instance {N M} [Up N M] {y0}:OL (ref04_reader_unit N y0) (ref04_reader_unit M y0):=AC.Le.ref04_reader_unit _
instance {N M} [Up N M] {y0 y1}:OL (ref04_reader_named N y0 y1) (ref04_reader_named M y0 y1):=AC.Le.ref04_reader_named _ _
instance {p1 p3 p4 p5 p6 p7 p8 p9 p10 p11} {N M} [Up N M] {s2 s2'} [∀x0 x1 x2 x3 x4 x5 x6 x7 x8 x9,OL (s2 x0 x1 x2 x3 x4 x5 x6 x7 x8 x9) (s2' x0 x1 x2 x3 x4 x5 x6 x7 x8 x9)]:OL (Dt N p1 s2 p3 p4 p5 p6 p7 p8 p9 p10 p11) (Dt M p1 s2' p3 p4 p5 p6 p7 p8 p9 p10 p11):=by unfold Dt;infer_instance
instance {p1 p3 p4 p5 p6 p7 p8 p9 p10 p11 p12} {N M} [Up N M] {s2 s2'} [∀x0 x1 x2 x3 x4 x5 x6 x7 x8 x9,OL (s2 x0 x1 x2 x3 x4 x5 x6 x7 x8 x9) (s2' x0 x1 x2 x3 x4 x5 x6 x7 x8 x9)]:OL (DO N p1 s2 p3 p4 p5 p6 p7 p8 p9 p10 p11 p12) (DO M p1 s2' p3 p4 p5 p6 p7 p8 p9 p10 p11 p12):=by unfold DO;infer_instance
instance {p1 p3 p4 p5 p6 p7 p8 p9 p10 p11} {N M} [Up N M] {s2 s2'} [∀x0 x1 x2 x3 x4 x5 x6 x7 x8 x9,OL (s2 x0 x1 x2 x3 x4 x5 x6 x7 x8 x9) (s2' x0 x1 x2 x3 x4 x5 x6 x7 x8 x9)]:OL (Du N p1 s2 p3 p4 p5 p6 p7 p8 p9 p10 p11) (Du M p1 s2' p3 p4 p5 p6 p7 p8 p9 p10 p11):=by unfold Du;infer_instance
instance {p1 p2 p3 p4 p5 p6 p7 p8 p9 p10 p11 p13} {N M} [Up N M] {s12 s12'} [∀x0 x1 x2 x3 x4 x5 x6 x7 x8 x9,OL (s12 x0 x1 x2 x3 x4 x5 x6 x7 x8 x9) (s12' x0 x1 x2 x3 x4 x5 x6 x7 x8 x9)]:OL (DP N p1 p2 p3 p4 p5 p6 p7 p8 p9 p10 p11 s12 p13) (DP M p1 p2 p3 p4 p5 p6 p7 p8 p9 p10 p11 s12' p13):=by unfold DP;infer_instance
instance {p1 p3 p4 p5 p6 p7 p8 p9 p10 p11 p12} {N M} [Up N M] {s2 s2'} [∀x0 x1 x2 x3 x4 x5 x6 x7 x8 x9,OL (s2 x0 x1 x2 x3 x4 x5 x6 x7 x8 x9) (s2' x0 x1 x2 x3 x4 x5 x6 x7 x8 x9)]:OL (DA N p1 s2 p3 p4 p5 p6 p7 p8 p9 p10 p11 p12) (DA M p1 s2' p3 p4 p5 p6 p7 p8 p9 p10 p11 p12):=by unfold DA;infer_instance
instance {p1} {N M} [Up N M] {k j} [Up k j] {y0 y1 y2 y3 y4 y5 y6 y7 y8 y9}:OL (BY N p1 k y0 y1 y2 y3 y4 y5 y6 y7 y8 y9) (BY M p1 j y0 y1 y2 y3 y4 y5 y6 y7 y8 y9):=Up.go (P:=fun k j=>∀y0 y1 y2 y3 y4 y5 y6 y7 y8 y9,OL (BY N p1 k y0 y1 y2 y3 y4 y5 y6 y7 y8 y9) (BY M p1 j y0 y1 y2 y3 y4 y5 y6 y7 y8 y9)) (fun _ _ _ _ _ _ _ _ _ _ _=> .none) (fun n m _ _ y0 y1 y2 y3 y4 y5 y6 y7 y8 y9=>inferInstanceAs (OL (DA N p1 (BY N p1 n) y0 y1 y2 y3 y4 y5 y6 y7 y8 y9) (DA M p1 (BY M p1 m) y0 y1 y2 y3 y4 y5 y6 y7 y8 y9))) y0 y1 y2 y3 y4 y5 y6 y7 y8 y9
instance {p1 p2 p3 p4 p5 p6 p7 p8 p9} {N M} [Up N M]:OL (Dv N p1 p2 p3 p4 p5 p6 p7 p8 p9) (Dv M p1 p2 p3 p4 p5 p6 p7 p8 p9):=by unfold Dv;infer_instance
instance {p1 p2} {N M} [Up N M]:OL (Dw N p1 p2) (Dw M p1 p2):=by unfold Dw;infer_instance
instance {p1 p2} {N M} [Up N M]:OL (Cf N p1 p2) (Cf M p1 p2):=by unfold Cf;infer_instance
instance {p1 p2 p3 p4 p5 p6 p7 p8 p9 p10 p12} {N M} [Up N M] {s11 s11'} [∀x0 x1 x2 x3 x4 x5 x6 x7 x8 x9,OL (s11 x0 x1 x2 x3 x4 x5 x6 x7 x8 x9) (s11' x0 x1 x2 x3 x4 x5 x6 x7 x8 x9)]:OL (B0 N p1 p2 p3 p4 p5 p6 p7 p8 p9 p10 s11 p12) (B0 M p1 p2 p3 p4 p5 p6 p7 p8 p9 p10 s11' p12):=by unfold B0;infer_instance
instance {p2 p3 p4 p5 p6 p7 p8 p9 p10 p11} {N M} [Up N M] {s1 s1'} [∀x0 x1 x2 x3 x4 x5 x6 x7 x8 x9,OL (s1 x0 x1 x2 x3 x4 x5 x6 x7 x8 x9) (s1' x0 x1 x2 x3 x4 x5 x6 x7 x8 x9)]:OL (B8 N s1 p2 p3 p4 p5 p6 p7 p8 p9 p10 p11) (B8 M s1' p2 p3 p4 p5 p6 p7 p8 p9 p10 p11):=by unfold B8;infer_instance
instance {N M} [Up N M] {k j} [Up k j] {y0 y1 y2 y3 y4 y5 y6 y7 y8 y9}:OL (BT N k y0 y1 y2 y3 y4 y5 y6 y7 y8 y9) (BT M j y0 y1 y2 y3 y4 y5 y6 y7 y8 y9):=Up.go (P:=fun k j=>∀y0 y1 y2 y3 y4 y5 y6 y7 y8 y9,OL (BT N k y0 y1 y2 y3 y4 y5 y6 y7 y8 y9) (BT M j y0 y1 y2 y3 y4 y5 y6 y7 y8 y9)) (fun _ _ _ _ _ _ _ _ _ _ _=> .none) (fun n m _ _ y0 y1 y2 y3 y4 y5 y6 y7 y8 y9=>inferInstanceAs (OL (B8 N (BT N n) y0 y1 y2 y3 y4 y5 y6 y7 y8 y9) (B8 M (BT M m) y0 y1 y2 y3 y4 y5 y6 y7 y8 y9))) y0 y1 y2 y3 y4 y5 y6 y7 y8 y9
instance {p1} {N M} [Up N M]:OL (Bn N p1) (Bn M p1):=by unfold Bn;infer_instance
instance {p1 p2} {N M} [Up N M]:OL (FS N p1 p2) (FS M p1 p2):=by unfold FS;infer_instance
instance {p0 p2 p3} {s1 s1'} [∀x0 x1 x2,OL (s1 x0 x1 x2) (s1' x0 x1 x2)]:OL (HF p0 s1 p2 p3) (HF p0 s1' p2 p3):=by unfold HF;infer_instance
instance {p0 p2} {s1 s1'} [∀x0 x1 x2,OL (s1 x0 x1 x2) (s1' x0 x1 x2)]:OL (HG p0 s1 p2) (HG p0 s1' p2):=by unfold HG;infer_instance
instance {p0 p1 p2 p3 p5} {s4 s4'} [∀x0 x1 x2,OL (s4 x0 x1 x2) (s4' x0 x1 x2)]:OL (GE p0 p1 p2 p3 s4 p5) (GE p0 p1 p2 p3 s4' p5):=by unfold GE;infer_instance
instance {p0 p2 p3 p4} {s1 s1'} [∀x0 x1 x2,OL (s1 x0 x1 x2) (s1' x0 x1 x2)]:OL (E1 p0 s1 p2 p3 p4) (E1 p0 s1' p2 p3 p4):=by unfold E1;infer_instance
instance {p0} {k j} [Up k j] {y0 y1 y2}:OL (EF p0 k y0 y1 y2) (EF p0 j y0 y1 y2):=ABw fun n m _ _ y0 y1 y2=>inferInstanceAs (OL (E1 p0 (EF p0 n) y0 y1 y2) (E1 p0 (EF p0 m) y0 y1 y2))
instance {p1} {N M} [Up N M]:OL (Fv N p1) (Fv M p1):=by unfold Fv;infer_instance
instance {p0 p2} {s1 s1'} [∀x0 x1,OL (s1 x0 x1) (s1' x0 x1)]:OL (HH p0 s1 p2) (HH p0 s1' p2):=by unfold HH;infer_instance
instance {p0 p2 p3} {s1 s1'} [∀x0 x1,OL (s1 x0 x1) (s1' x0 x1)]:OL (E3 p0 s1 p2 p3) (E3 p0 s1' p2 p3):=by unfold E3;infer_instance
instance {p0} {k j} [Up k j] {y0 y1}:OL (Eg p0 k y0 y1) (Eg p0 j y0 y1):=Tq fun n m _ _ y0 y1=>inferInstanceAs (OL (E3 p0 (Eg p0 n) y0 y1) (E3 p0 (Eg p0 m) y0 y1))
instance {p1} {N M} [Up N M]:OL (B1 N p1) (B1 M p1):=by unfold B1;infer_instance
instance {p1} {N M} [Up N M]:OL (D6 N p1) (D6 M p1):=by unfold D6;infer_instance
instance {p1 p2 p4} {N M} [Up N M] {s3 s3'} [∀x0 x1,OL (s3 x0 x1) (s3' x0 x1)]:OL (G3 N p1 p2 s3 p4) (G3 M p1 p2 s3' p4):=by unfold G3;infer_instance
instance {p1 p3 p4} {N M} [Up N M] {s2 s2'} [∀x0 x1,OL (s2 x0 x1) (s2' x0 x1)]:OL (FZ N p1 s2 p3 p4) (FZ M p1 s2' p3 p4):=by unfold FZ;infer_instance
instance {p1} {N M} [Up N M] {k j} [Up k j] {y0 y1}:OL (E4 N p1 k y0 y1) (E4 M p1 j y0 y1):=Tq fun n m _ _ y0 y1=>inferInstanceAs (OL (FZ N p1 (E4 N p1 n) y0 y1) (FZ M p1 (E4 M p1 m) y0 y1))
instance {p1} {N M} [Up N M]:OL (GG N p1) (GG M p1):=by unfold GG;infer_instance
instance {p1 p2 p4 p5 p6 p7} {N M} [Up N M] {s3 s3'} [∀x0 x1 x2 x3,OL (s3 x0 x1 x2 x3) (s3' x0 x1 x2 x3)]:OL (E5 N p1 p2 s3 p4 p5 p6 p7) (E5 M p1 p2 s3' p4 p5 p6 p7):=by unfold E5;infer_instance
instance {p1 p2} {N M} [Up N M] {k j} [Up k j] {y0 y1 y2 y3}:OL (Eh N p1 p2 k y0 y1 y2 y3) (Eh M p1 p2 j y0 y1 y2 y3):=ABx fun n m _ _ y0 y1 y2 y3=>inferInstanceAs (OL (E5 N p1 p2 (Eh N p1 p2 n) y0 y1 y2 y3) (E5 M p1 p2 (Eh M p1 p2 m) y0 y1 y2 y3))
instance {p1 p2 p3} {N M} [Up N M]:OL (Fa N p1 p2 p3) (Fa M p1 p2 p3):=by unfold Fa;infer_instance
instance {p1 p2} {N M} [Up N M]:OL (GH N p1 p2) (GH M p1 p2):=by unfold GH;infer_instance
instance {p1} {N M} [Up N M]:OL (FT N p1) (FT M p1):=by unfold FT;infer_instance
instance {p0 p2} {s1 s1'} [∀x0 x1,OL (s1 x0 x1) (s1' x0 x1)]:OL (HI p0 s1 p2) (HI p0 s1' p2):=by unfold HI;infer_instance
instance {p1 p2 p3 p5 p6 p8} {N M} [Up N M] {s4 s4'} [∀x0 x1,OL (s4 x0 x1) (s4' x0 x1)] {s7 s7'} [∀x0 x1,OL (s7 x0 x1) (s7' x0 x1)]:OL (EG N p1 p2 p3 s4 p5 p6 s7 p8) (EG M p1 p2 p3 s4' p5 p6 s7' p8):=by unfold EG;infer_instance
instance {p1 p2 p3 p6 p7} {N M} [Up N M] {s4 s4'} [∀x0 x1,OL (s4 x0 x1) (s4' x0 x1)] {s5 s5'} [∀x0 x1,OL (s5 x0 x1) (s5' x0 x1)]:OL (E6 N p1 p2 p3 s4 s5 p6 p7) (E6 M p1 p2 p3 s4' s5' p6 p7):=by unfold E6;infer_instance
instance {p1 p2 p3} {N M} [Up N M] {s4 s4'} [∀x0 x1,OL (s4 x0 x1) (s4' x0 x1)] {k j} [Up k j] {y0 y1}:OL (Dz N p1 p2 p3 s4 k y0 y1) (Dz M p1 p2 p3 s4' j y0 y1):=Tq fun n m _ _ y0 y1=>inferInstanceAs (OL (E6 N p1 p2 p3 s4 (Dz N p1 p2 p3 s4 n) y0 y1) (E6 M p1 p2 p3 s4' (Dz M p1 p2 p3 s4' m) y0 y1))
instance {p1 p3 p4} {N M} [Up N M] {s2 s2'} [∀x0 x1,OL (s2 x0 x1) (s2' x0 x1)]:OL (E7 N p1 s2 p3 p4) (E7 M p1 s2' p3 p4):=by unfold E7;infer_instance
instance {p1} {N M} [Up N M] {k j} [Up k j] {y0 y1}:OL (CL N p1 k y0 y1) (CL M p1 j y0 y1):=Tq fun n m _ _ y0 y1=>inferInstanceAs (OL (E7 N p1 (CL N p1 n) y0 y1) (E7 M p1 (CL M p1 m) y0 y1))
instance {p1} {N M} [Up N M]:OL (Fw N p1) (Fw M p1):=by unfold Fw;infer_instance
instance {p1 p2 p3} {N M} [Up N M]:OL (GI N p1 p2 p3) (GI M p1 p2 p3):=by unfold GI;infer_instance
instance {p1} {N M} [Up N M]:OL (B3 N p1) (B3 M p1):=by unfold B3;infer_instance
theorem Pr{N M}(h:N≤M){a}: ∀x,B3 N a=some x→B3 M a=some x:=haveI:Up N M:=⟨h⟩;(inferInstance:OL (B3 N a) (B3 M a)).le
end Fth
