/-
  Walks and laws of the layers below, gathered from several texts.
-/
import Derived.Lib.Hide
import Derived.WalkKit
import Derived.WalkSpells
import Derived.IntWalk
import Derived.BigQuiet
import Derived.Deep.QuietTactic
import Derived.Deep.Cut
import Derived.Deep.RegionHeld3
import Derived.Test.YtajmjkliblippaaGreatDoorShelfQ
import Derived.LoopTactic
import Derived.Laws.Bits64b
import Derived.Laws.Bits64
import Derived.Lib.QuietBelow
import Derived.Deep.LoopGhost
import Derived.Lib.Mul64
import Derived.Test.YtajmjkliblippaaGreatDoorQ3
import Derived.Test.YtajmjkliblippaaGreatDoorQ9
import Derived.Test.YtajmjkliblippaaGreatDoorQ14
import Derived.Test.YtajmjkliblippaaGreatDoorQ15
import Derived.Test.YtajmjkliblippaaGreatDoorQ16
import Derived.Test.YtajmjkliblippaaGreatDoorQ17
set_option linter.unusedVariables false
namespace Go.Proofs.YtajmjkliblippaaGreatDoor
open Go.RowKit
theorem not_u64 {n:Int} (h0:0≤n) (h1:n < 18446744073709551616):bits .xor .u64 IntKind.u64.max n = 18446744073709551615 - n:=by
 rw [show IntKind.u64.max = 18446744073709551615 by rfl]
 obtain ⟨n,rfl⟩:=Int.eq_ofNat_of_zero_le h0
 have h2:(BitVec.ofInt 64 (n:Int)).toNat = n:=by
  rw [BitVec.ofInt_natCast,BitVec.toNat_ofNat]; exact Nat.mod_eq_of_lt (by omega)
 have e:BitVec.ofInt 64 18446744073709551615 = BitVec.allOnes 64:=by decide
 show IntKind.u64.wrap ((BitVec.ofInt 64 18446744073709551615 ^^^ BitVec.ofInt 64 (n:Int)).toNat:Int) = _
 rw [e,BitVec.allOnes_xor,BitVec.toNat_not,h2,IntKind.wrap_u64]
 omega
set_option maxHeartbeats 4000000
set_option maxRecDepth 100000
theorem rsize_any (x:Int) (w:World) (h:FitW x) :
 Calls Tryz.prog 247 #[wv x] w fun e w'=>e = .returned (.tuple #[.int .u64 (hiW (absW x)),.int .u64 (loW (absW x))])∧Below w.heap.size w w':=by
 obtain ⟨b0,b1⟩:=lo_rng x
 obtain ⟨a0,a1⟩:=hi_rng h
 unfold wv
 by_cases q:x < 0
 ·have g':decide (hiW x < 0) = true:=by have:=(hi_neg x).2 q; simp; omega
  have C:IntKind.u64.wrap (hiW x) = hiW x + 18446744073709551616:=by have:=(hi_neg x).2 q; rw [IntKind.wrap_u64]; omega
  have N1:bits .xor .u64 IntKind.u64.max (hiW x + 18446744073709551616) = -1 - hiW x:=by rw [not_u64 (by omega) (by have:=(hi_neg x).2 q; omega)]; omega
  have N2:=not_u64 b0 b1
  have W2:IntKind.u64.wrap (18446744073709551615 - loW x + 1) = loW (absW x):=by rw [IntKind.wrap_u64]; unfold absW loW; rw [if_pos q]; omega
  by_cases z:loW (absW x) = 0
  ·have gz:(loW (absW x) == 0) = true:=by simpa using z
   have G0:(IntKind.u64.wrap (bits .xor .u64 (if IntKind.u64.signed = true then -1 else IntKind.u64.max) (loW x) + 1) == 0) = true:=by rw [show (if IntKind.u64.signed = true then -1 else IntKind.u64.max) = IntKind.u64.max from rfl,N2,W2]; exact gz
   have W1:IntKind.u64.wrap (-1 - hiW x + 1) = hiW (absW x):=by
    obtain ⟨f0,f1⟩:=h
    rw [IntKind.wrap_u64]; unfold absW hiW loW at *; rw [if_pos q] at *; omega
   clear h q z a0 a1 b0 b1
   generalize hiW (absW x) = r1 at *
   generalize loW (absW x) = r2 at *
   go_enter Tryz.func247,Tryz.ntmps247
   go_wp2
   go_quiet (fail)
   go_wp2
   go_ret2
   exact ⟨rfl,below_drewN ((Below.refl _ _).alloc (Nat.le_refl _) _) _⟩
  ·have gz:(loW (absW x) == 0) = false:=by simpa using z
   have G0:(IntKind.u64.wrap (bits .xor .u64 (if IntKind.u64.signed = true then -1 else IntKind.u64.max) (loW x) + 1) == 0) = false:=by rw [show (if IntKind.u64.signed = true then -1 else IntKind.u64.max) = IntKind.u64.max from rfl,N2,W2]; exact gz
   have W1:-1 - hiW x = hiW (absW x):=by
    obtain ⟨f0,f1⟩:=h
    unfold absW hiW loW at *; rw [if_pos q] at *; omega
   rw [W1] at N1
   clear h q z a0 a1 b0 b1 W1
   generalize hiW (absW x) = r1 at *
   generalize loW (absW x) = r2 at *
   go_enter Tryz.func247,Tryz.ntmps247
   go_wp2
   go_quiet (fail)
   go_wp2
   go_ret2
   exact ⟨rfl,below_drewN ((Below.refl _ _).alloc (Nat.le_refl _) _) _⟩
 ·have g':decide (hiW x < 0) = false:=by have:=hi_neg x; simp; omega
  have EA:absW x = x:=by unfold absW; rw [if_neg q]
  have E1:IntKind.u64.wrap (hiW x) = hiW x:=by have:=hi_neg x; rw [IntKind.wrap_u64]; omega
  rw [EA]
  clear EA h q
  go_enter Tryz.func247,Tryz.ntmps247
  go_wp2
  go_quiet (fail)
  go_wp2
  go_ret2
  exact ⟨rfl,below_drewN ((Below.refl _ _).alloc (Nat.le_refl _) _) _⟩
theorem rsigned_any (n:Int) (neg:Bool) (w:World) (h0:0≤n) (h1:n < 170141183460469231731687303715884105728) :
 Calls Tryz.prog 198 #[.bool neg,.int .u64 (hiW n),.int .u64 (loW n)] w fun e w'=>e = .returned (.tuple #[wv (sgn neg n),.bool true])∧Below w.heap.size w w':=by
 have a0:0≤hiW n:=by unfold hiW; omega
 have a1:hiW n < 9223372036854775808:=by unfold hiW; omega
 obtain ⟨b0,b1⟩:=lo_rng n
 have g1:decide (9223372036854775808 < hiW n) = false:=by simp; omega
 have g2:(hiW n == 9223372036854775808) = false:=by simp; omega
 cases neg
 ·have e1:IntKind.i64.wrap (hiW n) = hiW n:=IntWalk.i64_in _ (by omega)
  have es:sgn false n = n:=rfl
  rw [es]
  unfold wv
  go_enter Tryz.func198,Tryz.ntmps198
  go_wp2
  refine bodyPost_ret (v:=.tuple #[.agg #[.int .i64 (hiW n),.int .u64 (loW n)],.bool true]) (by simp [results,Tryz.results198,go_sem]) rfl ⟨rfl,?_⟩
  exact (Below.refl _ _).alloc (Nat.le_refl _) _
 ·have es:sgn true n = -n:=rfl
  rw [es]
  have N1:=not_u64 a0 (show hiW n < 18446744073709551616 by omega)
  have N2:=not_u64 b0 b1
  have W2:IntKind.u64.wrap (18446744073709551615 - loW n + 1) = loW (-n):=by rw [IntKind.wrap_u64]; unfold loW; omega
  by_cases z:loW (-n) = 0
  ·have gz:(loW (-n) == 0) = true:=by simpa using z
   have G0:(IntKind.u64.wrap (bits .xor .u64 (if IntKind.u64.signed = true then -1 else IntKind.u64.max) (loW n) + 1) == 0) = true:=by rw [show (if IntKind.u64.signed = true then -1 else IntKind.u64.max) = IntKind.u64.max from rfl,N2,W2]; exact gz
   have W1:IntKind.i64.wrap (IntKind.u64.wrap (18446744073709551615 - hiW n + 1)) = hiW (-n):=by
    rw [IntKind.wrap_u64]
    unfold hiW loW at *
    simp only [IntKind.wrap,IntKind.bits,IntKind.signed]
    simp
    omega
   have W3:wrap64 (IntKind.u64.wrap (18446744073709551615 - hiW n + 1)) = hiW (-n):=by
    rw [IntKind.wrap_u64]
    unfold wrap64 hiW loW at *
    omega
   obtain ⟨m,hm⟩:∃ m,IntKind.u64.wrap (18446744073709551615 - hiW n + 1) = m:=⟨_,rfl⟩
   rw [hm] at W1 W3
   clear z
   unfold wv
   generalize hiW (-n) = r1 at *
   generalize loW (-n) = r2 at *
   go_enter Tryz.func198,Tryz.ntmps198
   go_wp2
   refine bodyPost_ret (v:=.tuple #[.agg #[.int .i64 r1,.int .u64 r2],.bool true]) (by simp [results,Tryz.results198,go_sem]) rfl ⟨rfl,?_⟩
   exact (Below.refl _ _).alloc (Nat.le_refl _) _
  ·have gz:(loW (-n) == 0) = false:=by simpa using z
   have G0:(IntKind.u64.wrap (bits .xor .u64 (if IntKind.u64.signed = true then -1 else IntKind.u64.max) (loW n) + 1) == 0) = false:=by rw [show (if IntKind.u64.signed = true then -1 else IntKind.u64.max) = IntKind.u64.max from rfl,N2,W2]; exact gz
   have W1:IntKind.i64.wrap (18446744073709551615 - hiW n) = hiW (-n):=by
    unfold hiW loW at *
    simp only [IntKind.wrap,IntKind.bits,IntKind.signed]
    simp
    omega
   have W3:wrap64 (18446744073709551615 - hiW n) = hiW (-n):=by
    unfold wrap64 hiW loW at *
    omega
   clear z
   unfold wv
   generalize hiW (-n) = r1 at *
   generalize loW (-n) = r2 at *
   go_enter Tryz.func198,Tryz.ntmps198
   go_wp2
   refine bodyPost_ret (v:=.tuple #[.agg #[.int .i64 r1,.int .u64 r2],.bool true]) (by simp [results,Tryz.results198,go_sem]) rfl ⟨rfl,?_⟩
   exact (Below.refl _ _).alloc (Nat.le_refl _) _
set_option maxRecDepth 512
theorem rof_any (a:Int) (w:World) (h0:-9223372036854775808≤a) (h1:a≤9223372036854775807) :
 Calls Tryz.prog 195 #[.int .i64 a] w fun e w'=>e = .returned (wv a)∧Below w.heap.size w w':=by
 have E2:IntKind.u64.wrap a = loW a:=by rw [IntKind.wrap_u64]; rfl
 by_cases q:a < 0
 ·have g:decide (a < 0) = true:=by simpa using q
  have E1:hiW a = -1:=by unfold hiW; omega
  unfold wv
  rw [E1]
  clear q
  go_enter Tryz.func195,Tryz.ntmps195
  go_wp2
  refine bodyPost_ret (v:=.agg #[.int .i64 (-1),.int .u64 (loW a)]) (by simp [results,Tryz.results195,go_sem]) rfl ⟨rfl,?_⟩
  exact (Below.refl _ _).alloc (Nat.le_refl _) _
 ·have g:decide (a < 0) = false:=by simpa using q
  have E1:hiW a = 0:=by unfold hiW; omega
  unfold wv
  rw [E1]
  clear q
  go_enter Tryz.func195,Tryz.ntmps195
  go_wp2
  refine bodyPost_ret (v:=.agg #[.int .i64 0,.int .u64 (loW a)]) (by simp [results,Tryz.results195,go_sem]) rfl ⟨rfl,?_⟩
  exact (Below.refl _ _).alloc (Nat.le_refl _) _
end Go.Proofs.YtajmjkliblippaaGreatDoor
namespace Go.Proofs.YtajmjkliblippaaGreatDoor
open Go.RowKit
theorem two_i {k:IntKind} {a b c d:Int} (h:a = b) (h':c = d):Ending.returned (.tuple #[.int k a,.int k c]) = .returned (.tuple #[.int k b,.int k d]):=by rw [h,h']
theorem maskN (a:Nat) (ha:a < 18446744073709551616):bits .and .u64 (a:Int) 4294967295 = ((a % 4294967296:Nat):Int):=by
 have h:=bits_and_u64_nat a 4294967295 ha (by omega)
 have e:a &&& 4294967295 = a % 4294967296:=Nat.and_two_pow_sub_one_eq_mod a 32
 rw [e] at h
 exact h
theorem divN (a:Nat):(a:Int) / 4294967296 = ((a / 4294967296:Nat):Int):=by omega
theorem mulN (a b:Nat):(a:Int) * (b:Int) = ((a * b:Nat):Int):=(Int.natCast_mul a b).symm
theorem addN (a b:Nat):(a:Int) + (b:Int) = ((a + b:Nat):Int):=(Int.natCast_add a b).symm
theorem wrapN (a:Nat) (ha:a < 18446744073709551616):IntKind.u64.wrap (a:Int) = (a:Int):=by rw [IntKind.wrap_u64]; omega
theorem orHalf (a b:Nat) (hb:b < 4294967296):bits .or .u64 (IntKind.u64.wrap ((a:Int) * 4294967296)) (b:Int) = ((4294967296 * (a % 4294967296) + b:Nat):Int):=by
 rw [show IntKind.u64.wrap ((a:Int) * 4294967296) = ((4294967296 * (a % 4294967296):Nat):Int) by rw [IntKind.wrap_u64]; omega,bits_or_u64_nat _ _ (by omega) (by omega),or_half _ _ hb]
theorem mul_parts (x y:Nat):x * y = x / 4294967296 * (y / 4294967296) * 18446744073709551616 + (x / 4294967296 * (y % 4294967296) + x % 4294967296 * (y / 4294967296)) * 4294967296 + x % 4294967296 * (y % 4294967296):=by
 have hx:x = 4294967296 * (x / 4294967296) + x % 4294967296:=by omega
 have hy:y = 4294967296 * (y / 4294967296) + y % 4294967296:=by omega
 generalize x / 4294967296 = a at *
 generalize x % 4294967296 = b at *
 generalize y / 4294967296 = c at *
 generalize y % 4294967296 = d at *
 subst hx hy
 grind
set_option maxHeartbeats 1000000
theorem product_full (x y:Nat) (w:World) (hx:x < 18446744073709551616) (hy:y < 18446744073709551616) :
 Calls Tryz.prog 148 #[.int .u64 (x:Int),.int .u64 (y:Int)] w fun e w'=>e = .returned (.tuple #[.int .u64 ((x * y / 18446744073709551616:Nat):Int),.int .u64 ((x * y % 18446744073709551616:Nat):Int)])∧w = w':=by
 obtain ⟨bd,bt,bw,hhi⟩:=Lib.mul64_hi x y hx hy
 have hp:=mul_parts x y
 have ba:=Lib.half_mul_le (a:=x / 4294967296) (b:=y / 4294967296) (by omega) (by omega)
 have bb:=Lib.half_mul_le (a:=x / 4294967296) (b:=y % 4294967296) (by omega) (by omega)
 have bc:=Lib.half_mul_le (a:=x % 4294967296) (b:=y / 4294967296) (by omega) (by omega)
 have ba':x / 4294967296 * (y / 4294967296) < 18446744073709551616:=by omega
 have bb':x / 4294967296 * (y % 4294967296) < 18446744073709551616:=by omega
 have bc':x % 4294967296 * (y / 4294967296) < 18446744073709551616:=by omega
 have bw':x % 4294967296 * (y / 4294967296) + (x / 4294967296 * (y % 4294967296) + x % 4294967296 * (y % 4294967296) / 4294967296) % 4294967296 < 18446744073709551616:=by omega
 have bh1:x / 4294967296 * (y / 4294967296) + (x / 4294967296 * (y % 4294967296) + x % 4294967296 * (y % 4294967296) / 4294967296) / 4294967296 < 18446744073709551616:=by omega
 have bh:x / 4294967296 * (y / 4294967296) + (x / 4294967296 * (y % 4294967296) + x % 4294967296 * (y % 4294967296) / 4294967296) / 4294967296 + (x % 4294967296 * (y / 4294967296) + (x / 4294967296 * (y % 4294967296) + x % 4294967296 * (y % 4294967296) / 4294967296) % 4294967296) / 4294967296 < 18446744073709551616:=by omega
 have HP:=Lib.hid hp
 have HH:=Lib.hid hhi
 clear hp hhi
 go_enter Tryz.func148,Tryz.ntmps148
 go_wp2
 simp only [maskN x hx,maskN y hy,divN,mulN,addN,wrapN _ bd,wrapN _ bb',wrapN _ bt,maskN _ bt,wrapN _ bc',wrapN _ bw',wrapN _ ba',wrapN _ bh1,wrapN _ bh,maskN _ bd,orHalf _ _ (Nat.mod_lt _ (by decide:0 < 4294967296))]
 go_ret2
 refine ⟨two_i ?_ ?_,rfl⟩
 ·have h1:=HH.out
  have h2:x % 4294967296 * (y / 4294967296) + (x / 4294967296 * (y % 4294967296) + x % 4294967296 * (y % 4294967296) / 4294967296) % 4294967296 = (x / 4294967296 * (y % 4294967296) + x % 4294967296 * (y % 4294967296) / 4294967296) % 4294967296 + x % 4294967296 * (y / 4294967296):=Nat.add_comm _ _
  rw [← h1,h2]
 ·have:=HP.out
  omega
end Go.Proofs.YtajmjkliblippaaGreatDoor
namespace Go.Proofs.YtajmjkliblippaaGreatDoor
open Go.RowKit
set_option maxHeartbeats 4000000
theorem rsz_any (a:Int) (w:World) (h0:-9223372036854775808≤a) (h1:a≤9223372036854775807) :
 Calls Tryz.prog 149 #[.int .i64 a] w fun e w'=>e = .returned (.int .u64 (absW a))∧Below w.heap.size w w':=by
 by_cases q:a < 0
 ·have g:decide (a < 0) = true:=by simpa using q
  have E1:IntKind.i64.wrap (a + 1) = a + 1:=IntWalk.i64_in _ (by omega)
  have E2:IntKind.i64.wrap (-(a + 1)) = -(a + 1):=IntWalk.i64_in _ (by omega)
  have E3:IntKind.u64.wrap (-(a + 1)) = -(a + 1):=by rw [IntKind.wrap_u64]; omega
  have E4:IntKind.u64.wrap (-(a + 1) + 1) = absW a:=by rw [IntKind.wrap_u64]; unfold absW; rw [if_pos q]; omega
  have E5:absW a = -a:=by unfold absW; rw [if_pos q]
  go_enter Tryz.func149,Tryz.ntmps149
  go_wp2
  go_ret
  exact ⟨by first | rfl | exact ret_iw E4 | exact ret_iw E5.symm | (rw [E5]),Below.refl _ _⟩
 ·have g:decide (a < 0) = false:=by simpa using q
  have E:IntKind.u64.wrap a = a:=by rw [IntKind.wrap_u64]; omega
  have E5:absW a = a:=by unfold absW; rw [if_neg q]
  go_enter Tryz.func149,Tryz.ntmps149
  go_wp2
  go_ret
  exact ⟨by first | rfl | exact ret_iw E5.symm | (rw [E5]),Below.refl _ _⟩
set_option maxHeartbeats 200000
theorem prod_int (x y:Int) (hx0:0≤x) (hx:x < 18446744073709551616) (hy0:0≤y) (hy:y < 18446744073709551616) (w:World) :
 Calls Tryz.prog 148 #[.int .u64 x,.int .u64 y] w fun e w'=>e = .returned (.tuple #[.int .u64 (hiW (x * y)),.int .u64 (loW (x * y))])∧Below w.heap.size w w':=by
 obtain ⟨x,rfl⟩:=Int.eq_ofNat_of_zero_le hx0
 obtain ⟨y,rfl⟩:=Int.eq_ofNat_of_zero_le hy0
 refine (product_full x y w (by omega) (by omega)).mono fun e w' ⟨he,hw⟩=>⟨?_,by rw [← hw]; exact Below.refl _ _⟩
 rw [he]
 unfold hiW loW
 rw [← Int.natCast_mul]
 rfl
set_option maxHeartbeats 4000000
set_option maxRecDepth 100000
theorem rmul_any (a b:Int) (w:World) (ha0:-9223372036854775808≤a) (ha1:a≤9223372036854775807) (hb0:-9223372036854775808≤b) (hb1:b≤9223372036854775807) :
 Calls Tryz.prog 158 #[.int .i64 a,.int .i64 b] w fun e w'=>e = .returned (wv (a * b))∧Below w.heap.size w w':=by
 have A1:absW a≤9223372036854775808:=by unfold absW; split <;> omega
 have B1:absW b≤9223372036854775808:=by unfold absW; split <;> omega
 obtain ⟨m0,m1⟩:=mul_u (absW_nonneg a) A1 (absW_nonneg b) B1
 have SA:=Lib.hid fun w=>rsz_any a w ha0 ha1
 have SB:=Lib.hid fun w=>rsz_any b w hb0 hb1
 have PR:=Lib.hid fun w=>prod_int (absW a) (absW b) (absW_nonneg a) (by omega) (absW_nonneg b) (by omega) w
 obtain ⟨sg,gs⟩:∃ sg,(decide (a < 0) == decide (b < 0)) = sg:=⟨_,rfl⟩
 have SG:=Lib.hid fun w=>rsigned_any (absW a * absW b) (!sg) w m0 (by omega)
 have E:a * b = sgn (!sg) (absW a * absW b):=by rw [absW_mul,← gs]; rfl
 rw [E]
 clear E ha0 ha1 hb0 hb1 m0 m1 A1 B1
 unfold wv at SG ⊢
 generalize sgn (!sg) (absW a * absW b) = r at *
 generalize absW a * absW b = p at *
 generalize absW a = a' at *
 generalize absW b = b' at *
 obtain ⟨KZ,HB⟩:=ent1 w #[.int .i64 0,.int .u64 0] 112
 go_enter Tryz.func158,Tryz.ntmps158
 go_wp2_with fail
 generalize w.alloc _ = w0 at *
 refine (SA.out _).mono ?_
 rintro e1 w1 ⟨rfl,hb1⟩
 replace HB:=hT HB hb1
 replace KZ:=hK KZ hb1
 clear hb1
 go_wp2_with fail
 refine (SB.out _).mono ?_
 rintro e2 w2 ⟨rfl,hb2⟩
 replace HB:=hT HB hb2
 replace KZ:=hK KZ hb2
 clear hb2
 go_wp2_with fail
 refine (PR.out _).mono ?_
 rintro e3 w3 ⟨rfl,hb3⟩
 replace HB:=hT HB hb3
 replace KZ:=hK KZ hb3
 clear hb3
 go_wp2_with fail
 refine (SG.out _).mono ?_
 rintro e4 w4 ⟨rfl,hb4⟩
 replace HB:=hT HB hb4
 replace KZ:=hK KZ hb4
 clear hb4
 obtain ⟨yZ0,yZ1,yZz,yZf0,yZf1⟩:=blf2 KZ
 go_wp2
 have hs:=st2 w4 w.heap.size 0 (.int .i64 (hiW r)) 1 (.int .u64 (loW r))
 replace KZ:=kst (kst KZ 0 (.int .i64 (hiW r))) 1 (.int .u64 (loW r))
 replace HB:=oH hs HB (by omega)
 clear hs
 clear yZ0 yZ1 yZz yZf0 yZf1
 generalize (w4.setCell _ _).setCell _ _ = w5 at *
 simp only [List.set] at KZ
 obtain ⟨KV,hb6⟩:=alB w5 #[.int .i64 (hiW r),.int .u64 (loW r)] 112
 have hnV:=HB.out.size
 have nzV_Z:=KZ.out.lt
 replace HB:=hT HB hb6
 replace KZ:=hK KZ hb6
 clear hb6
 generalize w5.alloc _ = w6 at *
 generalize w5.heap.size = bV at *
 have neV_Z:bV≠w.heap.size:=by omega
 clear nzV_Z
 obtain ⟨yZ0,yZ1,yZz⟩:=blk2 KZ
 refine bodyPost_ret (v:=.agg #[.int .i64 (hiW r),.int .u64 (loW r)]) (by simp [results,Tryz.results158,go_sem,yZ0,yZ1]) rfl ⟨rfl,HB.out⟩
theorem rsub_any (x y:Int) (w:World) (hx:FitW x) (hy:FitW y) (hs:FitW (x - y)) :
 Calls Tryz.prog 161 #[wv x,wv y] w fun e w'=>e = .returned (.tuple #[wv (x - y),.bool true])∧Below w.heap.size w w':=by
 obtain ⟨p0,p1⟩:=lo_rng x
 obtain ⟨q0,q1⟩:=lo_rng y
 have E1:IntKind.u64.wrap (loW x - loW y) = loW (x - y):=by rw [IntKind.wrap_u64]; unfold loW; omega
 have C1:(decide (hiW x < 0) == decide (hiW y < 0)) = true∨((decide (hiW x < 0) == decide (hiW y < 0)) = false∧(decide (hiW (x - y) < 0) == decide (hiW x < 0)) = true):=by
  obtain ⟨a,b⟩:=hs
  by_cases h1:x < 0 <;> by_cases h2:y < 0 <;> simp [hi_neg,h1,h2] <;> omega
 by_cases lt:loW x < loW y
 ·have g0:decide (loW x < loW y) = true:=by simpa using lt
  have E2:IntKind.i64.wrap (IntKind.u64.wrap (IntKind.u64.wrap (IntKind.u64.wrap (hiW x) - IntKind.u64.wrap (hiW y)) - 1)) = hiW (x - y):=by
   have e:=sub_hi hs
   have eb:bor (loW x) (loW y) 0 = 1:=by unfold bor; rw [if_pos (by omega)]
   rw [eb] at e
   rw [← e]
   congr 1
   rw [IntKind.wrap_u64,IntKind.wrap_u64]
   omega
  clear hx hy hs lt p0 p1 q0 q1
  obtain ⟨h1,k1⟩:∃ m,IntKind.u64.wrap (IntKind.u64.wrap (hiW x) - IntKind.u64.wrap (hiW y)) = m:=⟨_,rfl⟩
  rw [k1] at E2
  obtain ⟨h2,k2⟩:∃ m,IntKind.u64.wrap (h1 - 1) = m:=⟨_,rfl⟩
  rw [k2] at E2
  unfold wv
  generalize hiW (x - y) = r1 at *
  generalize loW (x - y) = r2 at *
  rcases C1 with g | ⟨g,g'⟩
  all_goals
   obtain ⟨KX,KY,KZ,HB⟩:=ent3 w #[.int .i64 (hiW x),.int .u64 (loW x)] 112 #[.int .i64 (hiW y),.int .u64 (loW y)] 112 #[.int .i64 0,.int .u64 0] 112
   go_enter Tryz.func161,Tryz.ntmps161
   go_wp2
   refine bodyPost_ret (v:=.tuple #[.agg #[.int .i64 r1,.int .u64 r2],.bool true]) (by simp [results,Tryz.results161,go_sem]) rfl ⟨rfl,?_⟩
   exact ((((Below.refl _ _).alloc (Nat.le_refl _) _).alloc (by simp) _).alloc (by simp; try omega) _).alloc (by simp; try omega) _
 ·have g0:decide (loW x < loW y) = false:=by simpa using lt
  have E2:IntKind.i64.wrap (IntKind.u64.wrap (IntKind.u64.wrap (hiW x) - IntKind.u64.wrap (hiW y))) = hiW (x - y):=by
   have e:=sub_hi hs
   have eb:bor (loW x) (loW y) 0 = 0:=by unfold bor; rw [if_neg (by omega)]
   rw [eb] at e
   rw [← e]
   congr 1
   rw [IntKind.wrap_u64]
   omega
  clear hx hy hs lt p0 p1 q0 q1
  obtain ⟨h1,k1⟩:∃ m,IntKind.u64.wrap (IntKind.u64.wrap (hiW x) - IntKind.u64.wrap (hiW y)) = m:=⟨_,rfl⟩
  rw [k1] at E2
  unfold wv
  generalize hiW (x - y) = r1 at *
  generalize loW (x - y) = r2 at *
  rcases C1 with g | ⟨g,g'⟩
  all_goals
   obtain ⟨KX,KY,KZ,HB⟩:=ent3 w #[.int .i64 (hiW x),.int .u64 (loW x)] 112 #[.int .i64 (hiW y),.int .u64 (loW y)] 112 #[.int .i64 0,.int .u64 0] 112
   go_enter Tryz.func161,Tryz.ntmps161
   go_wp2
   refine bodyPost_ret (v:=.tuple #[.agg #[.int .i64 r1,.int .u64 r2],.bool true]) (by simp [results,Tryz.results161,go_sem]) rfl ⟨rfl,?_⟩
   exact ((((Below.refl _ _).alloc (Nat.le_refl _) _).alloc (by simp) _).alloc (by simp; try omega) _).alloc (by simp; try omega) _
end Go.Proofs.YtajmjkliblippaaGreatDoor
namespace Go.Proofs.YtajmjkliblippaaGreatDoor
open Go.RowKit
set_option maxHeartbeats 8000000
set_option maxRecDepth 100000
theorem rneg_any (x:Int) (w:World) (hx:FitW x) (hn:FitW (-x)) :
 Calls Tryz.prog 197 #[wv x] w fun e w'=>e = .returned (wv1 (-x))∧Below w.heap.size w w':=by
 have SB:=Lib.hid fun w=>rsub_any 0 x w ⟨by omega,by omega⟩ hx (by rw [Int.zero_sub]; exact hn)
 unfold wv at SB
 simp only [show hiW 0 = 0 from rfl,show loW 0 = 0 from rfl,Int.zero_sub] at SB
 unfold wv1 wv
 generalize -x = r at *
 clear hx hn
 obtain ⟨KX,KZ,HB⟩:=ent2 w #[.int .i64 (hiW x),.int .u64 (loW x)] 112 #[.int .i64 0,.int .u64 0] 112
 go_enter Tryz.func197,Tryz.ntmps197
 go_wp2_with fail
 generalize (w.alloc _).alloc _ = w0 at *
 refine (SB.out _).mono ?_
 rintro e1 w1 ⟨rfl,hb1⟩
 refine up2 hb1 HB KX KZ ?_
 clear hb1 HB KX KZ
 intro HB KX KZ
 obtain ⟨yZ0,yZ1,yZz,yZf0,yZf1⟩:=blf2 KZ
 go_wp2
 replace KZ:=kst (kst KZ 0 (.int .i64 (hiW r))) 1 (.int .u64 (loW r))
 refine ot1 (st2 w1 (w.heap.size + 1) 0 (.int .i64 (hiW r)) 1 (.int .u64 (loW r))) HB KX (by omega) (by omega) ?_
 clear HB KX
 intro HB KX
 clear yZ0 yZ1 yZz yZf0 yZf1
 generalize (w1.setCell _ _).setCell _ _ = w2 at *
 simp only [List.set] at KZ
 obtain ⟨yZ0,yZ1,yZz⟩:=blk2 KZ
 refine bodyPost_ret (v:=.tuple #[.agg #[.int .i64 (hiW r),.int .u64 (loW r)],.bool true]) (by simp [results,Tryz.results197,go_sem,yZ0,yZ1]) rfl ⟨rfl,HB.out⟩
theorem rabs_any (x:Int) (w:World) (hx:FitW x) (hn:FitW (-x)) :
 Calls Tryz.prog 157 #[wv x] w fun e w'=>e = .returned (wv1 (absZ x))∧Below w.heap.size w w':=by
 by_cases h:x < 0
 ·have NG:=Lib.hid fun w=>rneg_any x w hx hn
  have g:decide (hiW x < 0) = true:=by have:=(hi_neg x).2 h; simpa using this
  rw [show absZ x = -x by unfold absZ; rw [if_pos h]]
  unfold wv1 wv at *
  generalize -x = r at *
  clear hx hn h
  obtain ⟨KX,KZ,HB⟩:=ent2 w #[.int .i64 (hiW x),.int .u64 (loW x)] 112 #[.int .i64 0,.int .u64 0] 112
  go_enter Tryz.func157,Tryz.ntmps157
  go_wp2_with fail
  generalize (w.alloc _).alloc _ = w0 at *
  refine (NG.out _).mono ?_
  rintro e1 w1 ⟨rfl,hb1⟩
  refine up2 hb1 HB KX KZ ?_
  clear hb1 HB KX KZ
  intro HB KX KZ
  obtain ⟨yZ0,yZ1,yZz,yZf0,yZf1⟩:=blf2 KZ
  go_wp2
  replace KZ:=kst (kst KZ 0 (.int .i64 (hiW r))) 1 (.int .u64 (loW r))
  refine ot1 (st2 w1 (w.heap.size + 1) 0 (.int .i64 (hiW r)) 1 (.int .u64 (loW r))) HB KX (by omega) (by omega) ?_
  clear HB KX
  intro HB KX
  clear yZ0 yZ1 yZz yZf0 yZf1
  generalize (w1.setCell _ _).setCell _ _ = w2 at *
  simp only [List.set] at KZ
  obtain ⟨yZ0,yZ1,yZz⟩:=blk2 KZ
  refine bodyPost_ret (v:=.tuple #[.agg #[.int .i64 (hiW r),.int .u64 (loW r)],.bool true]) (by simp [results,Tryz.results157,go_sem,yZ0,yZ1]) rfl ⟨rfl,HB.out⟩
 ·have g:decide (hiW x < 0) = false:=by have:=hi_neg x; simp; omega
  rw [show absZ x = x by unfold absZ; rw [if_neg h]]
  unfold wv1 wv
  clear hx hn h
  obtain ⟨KX,KZ,HB⟩:=ent2 w #[.int .i64 (hiW x),.int .u64 (loW x)] 112 #[.int .i64 0,.int .u64 0] 112
  go_enter Tryz.func157,Tryz.ntmps157
  go_wp2
  refine bodyPost_ret (v:=.tuple #[.agg #[.int .i64 (hiW x),.int .u64 (loW x)],.bool true]) (by simp [results,Tryz.results157,go_sem]) rfl ⟨rfl,?_⟩
  exact ((Below.refl _ _).alloc (Nat.le_refl _) _).alloc (by simp) _
end Go.Proofs.YtajmjkliblippaaGreatDoor
namespace Go.Proofs.YtajmjkliblippaaGreatDoor
open Go.RowKit
set_option maxHeartbeats 4000000
set_option maxRecDepth 100000
theorem radd_any (x y:Int) (w:World) (hx:FitW x) (hy:FitW y) (hs:FitW (x + y)) :
 Calls Tryz.prog 160 #[wv x,wv y] w fun e w'=>e = .returned (.tuple #[wv (x + y),.bool true])∧Below w.heap.size w w':=by
 obtain ⟨p0,p1⟩:=lo_rng x
 obtain ⟨q0,q1⟩:=lo_rng y
 have E1:IntKind.u64.wrap (loW x + loW y) = loW (x + y):=by rw [IntKind.wrap_u64]; unfold loW; omega
 have C1:(decide (hiW x < 0) == decide (hiW y < 0)) = false∨((decide (hiW x < 0) == decide (hiW y < 0)) = true∧(decide (hiW (x + y) < 0) == decide (hiW x < 0)) = true):=by
  obtain ⟨a,b⟩:=hs
  by_cases h1:x < 0 <;> by_cases h2:y < 0 <;> simp [hi_neg,h1,h2] <;> omega
 by_cases lt:loW (x + y) < loW x
 ·have g0:decide (loW (x + y) < loW x) = true:=by simpa using lt
  have E2:IntKind.i64.wrap (IntKind.u64.wrap (IntKind.u64.wrap (IntKind.u64.wrap (hiW x) + IntKind.u64.wrap (hiW y)) + 1)) = hiW (x + y):=by
   have e:=add_hi hs
   rw [← e]
   congr 1
   have ek:(loW x + loW y + 0) / 18446744073709551616 = 1:=by unfold loW at *; omega
   rw [ek]
   rw [IntKind.wrap_u64,IntKind.wrap_u64]
   omega
  clear hx hy hs lt p0 p1 q0 q1
  obtain ⟨h1,k1⟩:∃ m,IntKind.u64.wrap (IntKind.u64.wrap (hiW x) + IntKind.u64.wrap (hiW y)) = m:=⟨_,rfl⟩
  rw [k1] at E2
  obtain ⟨h2,k2⟩:∃ m,IntKind.u64.wrap (h1 + 1) = m:=⟨_,rfl⟩
  rw [k2] at E2
  unfold wv
  generalize hiW (x + y) = r1 at *
  generalize loW (x + y) = r2 at *
  rcases C1 with g | ⟨g,g'⟩
  all_goals
   go_enter Tryz.func160,Tryz.ntmps160
   go_wp2
   refine bodyPost_ret (v:=.tuple #[.agg #[.int .i64 r1,.int .u64 r2],.bool true]) (by simp [results,Tryz.results160,go_sem]) rfl ⟨rfl,?_⟩
   exact ((((Below.refl _ _).alloc (Nat.le_refl _) _).alloc (by simp) _).alloc (by simp; try omega) _).alloc (by simp; try omega) _
 ·have g0:decide (loW (x + y) < loW x) = false:=by simpa using lt
  have E2:IntKind.i64.wrap (IntKind.u64.wrap (IntKind.u64.wrap (hiW x) + IntKind.u64.wrap (hiW y))) = hiW (x + y):=by
   have e:=add_hi hs
   rw [← e]
   congr 1
   have ek:(loW x + loW y + 0) / 18446744073709551616 = 0:=by unfold loW at *; omega
   rw [ek]
   rw [IntKind.wrap_u64]
   omega
  clear hx hy hs lt p0 p1 q0 q1
  obtain ⟨h1,k1⟩:∃ m,IntKind.u64.wrap (IntKind.u64.wrap (hiW x) + IntKind.u64.wrap (hiW y)) = m:=⟨_,rfl⟩
  rw [k1] at E2
  unfold wv
  generalize hiW (x + y) = r1 at *
  generalize loW (x + y) = r2 at *
  rcases C1 with g | ⟨g,g'⟩
  all_goals
   go_enter Tryz.func160,Tryz.ntmps160
   go_wp2
   refine bodyPost_ret (v:=.tuple #[.agg #[.int .i64 r1,.int .u64 r2],.bool true]) (by simp [results,Tryz.results160,go_sem]) rfl ⟨rfl,?_⟩
   exact ((((Below.refl _ _).alloc (Nat.le_refl _) _).alloc (by simp) _).alloc (by simp; try omega) _).alloc (by simp; try omega) _
end Go.Proofs.YtajmjkliblippaaGreatDoor
namespace Go.Proofs.YtajmjkliblippaaGreatDoor
open Go.RowKit
set_option maxHeartbeats 8000000
set_option maxRecDepth 100000
theorem rplus_any (x y:Int) (w:World) (hx:FitW x) (hy:FitW y) (hf:FitW (x + y)) :
 Calls Tryz.prog 115 #[wv x,wv y] w fun e w'=>e = .returned (wv (x + y))∧Below w.heap.size w w':=by
 have AD:=Lib.hid fun w=>radd_any x y w hx hy hf
 unfold wv at *
 generalize x + y = r at *
 clear hx hy hf
 have KX:=Lib.hid (((Blk.of (vs:=#[.int .i64 (hiW x),.int .u64 (loW x)]) (t:=112) (w:=w) (b:=w.heap.size) (by simp)).alloc (.cells #[.int .i64 (hiW y),.int .u64 (loW y)] 112)).alloc (.cells #[.int .i64 0,.int .u64 0] 112))
 have KY:=Lib.hid ((Blk.of (vs:=#[.int .i64 (hiW y),.int .u64 (loW y)]) (t:=112) (w:=(w.alloc (.cells #[.int .i64 (hiW x),.int .u64 (loW x)] 112))) (b:=w.heap.size + 1) (by simp)).alloc (.cells #[.int .i64 0,.int .u64 0] 112))
 have KZ:=Lib.hid (Blk.of (vs:=#[.int .i64 0,.int .u64 0]) (t:=112) (w:=((w.alloc (.cells #[.int .i64 (hiW x),.int .u64 (loW x)] 112)).alloc (.cells #[.int .i64 (hiW y),.int .u64 (loW y)] 112))) (b:=w.heap.size + 1 + 1) (by simp))
 have HB:=Lib.hid ((((Below.refl w.heap.size w).alloc (by simp; try omega) (.cells #[.int .i64 (hiW x),.int .u64 (loW x)] 112)).alloc (by simp; try omega) (.cells #[.int .i64 (hiW y),.int .u64 (loW y)] 112)).alloc (by simp; try omega) (.cells #[.int .i64 0,.int .u64 0] 112))
 go_enter Tryz.func115,Tryz.ntmps115
 go_wp2_with fail
 generalize ((w.alloc _).alloc _).alloc _ = w0 at *
 refine (AD.out _).mono ?_
 rintro e1 w1 ⟨rfl,hb1⟩
 replace HB:=hT HB hb1
 replace KX:=Lib.hid (KX.out.below hb1)
 replace KY:=Lib.hid (KY.out.below hb1)
 replace KZ:=Lib.hid (KZ.out.below hb1)
 clear hb1
 have yZ:=KZ.out
 have yZ0:=yZ.c 0 _ rfl
 have yZ1:=yZ.c 1 _ rfl
 have yZz:=yZ.lt
 have yZf0:=yZ.f 0 _ rfl
 have yZf1:=yZ.f 1 _ rfl
 clear yZ
 go_wp2
 replace KX:=Lib.hid (blk_other (b:=w.heap.size) (n:=(w.heap.size + 1 + 1)) (j:=1) (blk_other (b:=w.heap.size) (n:=(w.heap.size + 1 + 1)) (j:=0) KX.out (by omega) (.int .i64 (hiW r))) (by omega) (.int .u64 (loW r)))
 replace KY:=Lib.hid (blk_other (b:=(w.heap.size + 1)) (n:=(w.heap.size + 1 + 1)) (j:=1) (blk_other (b:=(w.heap.size + 1)) (n:=(w.heap.size + 1 + 1)) (j:=0) KY.out (by omega) (.int .i64 (hiW r))) (by omega) (.int .u64 (loW r)))
 replace KZ:=kst (kst KZ 0 (.int .i64 (hiW r))) 1 (.int .u64 (loW r))
 replace HB:=Lib.hid ((HB.out.setCell (p:=⟨(w.heap.size + 1 + 1),0,none⟩) (show w.heap.size≤(w.heap.size + 1 + 1) by omega) (.int .i64 (hiW r))).setCell (p:=⟨(w.heap.size + 1 + 1),1,none⟩) (show w.heap.size≤(w.heap.size + 1 + 1) by omega) (.int .u64 (loW r)))
 clear yZ0 yZ1 yZz yZf0 yZf1
 generalize (w1.setCell _ _).setCell _ _ = w2 at *
 simp only [List.set] at KZ
 have KV:=Lib.hid (Blk.of (vs:=#[.int .i64 (hiW r),.int .u64 (loW r)]) (t:=112) (w:=w2) (b:=w2.heap.size) rfl)
 have hb3:Below w2.heap.size w2 (w2.alloc (.cells #[.int .i64 (hiW r),.int .u64 (loW r)] 112)):=(Below.refl _ _).alloc (Nat.le_refl _) _
 have hnV:=HB.out.size
 have nzV_X:=KX.out.lt
 have nzV_Y:=KY.out.lt
 have nzV_Z:=KZ.out.lt
 replace HB:=hT HB hb3
 replace KX:=Lib.hid (KX.out.below hb3)
 replace KY:=Lib.hid (KY.out.below hb3)
 replace KZ:=Lib.hid (KZ.out.below hb3)
 clear hb3
 generalize w2.alloc _ = w3 at *
 generalize w2.heap.size = bV at *
 have neV_X:bV≠w.heap.size:=by omega
 have neV_Y:bV≠(w.heap.size + 1):=by omega
 have neV_Z:bV≠(w.heap.size + 1 + 1):=by omega
 clear nzV_X nzV_Y nzV_Z
 have yZ:=KZ.out
 have yZ0:=yZ.c 0 _ rfl
 have yZ1:=yZ.c 1 _ rfl
 have yZz:=yZ.lt
 clear yZ
 refine bodyPost_ret (v:=.agg #[.int .i64 (hiW r),.int .u64 (loW r)]) (by simp [results,Tryz.results115,go_sem,yZ0,yZ1]) rfl ⟨rfl,HB.out⟩
end Go.Proofs.YtajmjkliblippaaGreatDoor
namespace Go.Proofs.YtajmjkliblippaaGreatDoor
open Go.RowKit
def shM (N k:Nat):Nat:=N % 2 ^ k * 2 ^ (128 - k)
theorem sh_start {N:Nat} (h:N < 340282366920938463463374607431768211456):shM N 128 = N:=by
 unfold shM
 rw [Nat.mod_eq_of_lt (by omega),show 128 - 128 = 0 by rfl]
 omega
theorem sh_parts (N k:Nat) (h:k < 128):∃ p e:Nat,0 < p∧0 < e∧p * e = 170141183460469231731687303715884105728∧shM N (k + 1) = (N % p + p * (N / p % 2)) * e∧shM N k = N % p * (2 * e)∧bD N k = N / p % 2:=by
 refine ⟨2 ^ k,2 ^ (127 - k),Nat.pow_pos (by decide),Nat.pow_pos (by decide),?_,?_,?_,rfl⟩
 ·rw [← Nat.pow_add,show k + (127 - k) = 127 by omega]
 ·unfold shM
  rw [Nat.pow_succ,Nat.mod_mul,show 128 - (k + 1) = 127 - k by omega]
 ·unfold shM
  rw [show 128 - k = (127 - k) + 1 by omega,Nat.pow_succ,Nat.mul_comm 2]
theorem sh_top {N k:Nat} (h:k < 128):shM N (k + 1) / 170141183460469231731687303715884105728 = bD N k∧2 * shM N (k + 1) % 340282366920938463463374607431768211456 = shM N k∧shM N (k + 1) < 340282366920938463463374607431768211456:=by
 obtain ⟨p,e,hp,he,hpe,h1,h2,h3⟩:=sh_parts N k h
 have hr:=Nat.mod_lt N hp
 have hb:N / p % 2 < 2:=Nat.mod_lt _ (by decide)
 rw [h1,h2,h3,show (340282366920938463463374607431768211456:Nat) = 2 * (p * e) by rw [hpe],← hpe]
 generalize N % p = r at *
 generalize N / p % 2 = b at *
 refine ⟨?_,?_,?_⟩
 ·rw [Nat.mul_div_mul_right _ _ he,Nat.add_mul_div_left _ _ hp,Nat.div_eq_of_lt hr,Nat.zero_add]
 ·rw [Nat.mul_mod_mul_left,Nat.mul_mod_mul_right,Nat.add_mul_mod_self_left,Nat.mod_eq_of_lt hr,← Nat.mul_assoc,Nat.mul_comm 2 r,Nat.mul_assoc]
 ·have:r + p * b < 2 * p:=by
   have:p * b≤p * 1:=Nat.mul_le_mul_left _ (by omega)
   omega
  calc (r + p * b) * e < 2 * p * e:=Nat.mul_lt_mul_of_pos_right this he
   _ = 2 * (p * e):=Nat.mul_assoc _ _ _
theorem tw_top {M:Int} (h0:0≤M) (h1:M < 340282366920938463463374607431768211456):bits .or .u64 (IntKind.u64.wrap (hiW M * 2)) (loW M / 9223372036854775808) = hiW ((2 * M) % 340282366920938463463374607431768211456):=by
 have a0:0≤hiW M:=by unfold hiW; omega
 have a1:hiW M < 18446744073709551616:=by unfold hiW; omega
 obtain ⟨c0,c1⟩:=lo_rng M
 rw [or_word a0 a1 (by omega) (by omega)]
 unfold hiW loW at *
 omega
theorem tw_toplo {M:Int} (h0:0≤M):IntKind.u64.wrap (loW M * 2) = loW ((2 * M) % 340282366920938463463374607431768211456):=by
 rw [IntKind.wrap_u64]
 unfold loW
 omega
structure RdStep (M M' R Q b R' Q' D:Int):Prop where
 m0:bits .or .u64 (IntKind.u64.wrap (hiW M * 2)) (loW M / 9223372036854775808) = hiW M'
 m1:IntKind.u64.wrap (loW M * 2) = loW M'
 r0:bits .or .u64 (IntKind.u64.wrap (hiW R * 2)) (loW R / 9223372036854775808) = hiW (2 * R + b)
 r1:bits .or .u64 (IntKind.u64.wrap (loW R * 2)) (hiW M / 9223372036854775808) = loW (2 * R + b)
 q0:bits .or .u64 (IntKind.u64.wrap (hiW Q * 2)) (loW Q / 9223372036854775808) = hiW (2 * Q)
 q1:IntKind.u64.wrap (loW Q * 2) = loW (2 * Q)
 q2:bits .or .u64 (loW (2 * Q)) 1 = loW (2 * Q + 1)
 q3:hiW (2 * Q) = hiW (2 * Q + 1)
 go:(D≤2 * R + b∧Q' = 2 * Q + 1∧R' = 2 * R + b - D)∨(2 * R + b < D∧Q' = 2 * Q∧R' = 2 * R + b)
 rr:0≤2 * R + b
 ru:2 * R + b < 340282366920938463463374607431768211456
theorem rd_step {N D k:Nat} (hN:N < 340282366920938463463374607431768211456) (hD:0 < D) (hD1:D≤170141183460469231731687303715884105728) (hk:k < 128) :
 RdStep (shM N (k + 1):Nat) (shM N k:Nat) (rD N D (k + 1):Nat) (qD N D (k + 1):Nat) (bD N k:Nat) (rD N D k:Nat) (qD N D k:Nat) D:=by
 obtain ⟨R,Q,b,R',Q',rfl,rfl,rfl,rfl,rfl,r0,r1,q0,q1,b0,b1,d0,d1,fin⟩:=ov_step (i:=k) hN hD hD1
 obtain ⟨s1,s2,s3⟩:=sh_top (N:=N) hk
 have e1:((shM N k:Nat):Int) = (2 * ((shM N (k + 1):Nat):Int)) % 340282366920938463463374607431768211456:=by omega
 have e2:hiW ((shM N (k + 1):Nat):Int) / 9223372036854775808 = (bD N k:Nat):=by unfold hiW; omega
 refine ⟨by rw [e1]; exact tw_top (by omega) (by omega),by rw [e1]; exact tw_toplo (by omega),tw_hi r0 r1 b0 b1,by rw [e2]; exact tw_lo r0 b0 b1,?_,?_,or1_u64 q0,hi_odd q0,fin,by omega,by omega⟩
 ·have:=tw_hi (b:=0) q0 q1 (by omega) (by omega)
  rwa [Int.add_zero] at this
 ·rw [IntKind.wrap_u64]; unfold loW; omega
def RdR (N D:Nat) (w:World) (u0 u1 u8 u9 u10 u11 u12:Value) (wr:World):Prop:=∃ k:Nat,k≤128∧u0 = .int .u64 (hiW (shM N k:Nat))∧u1 = .int .u64 (loW (shM N k:Nat))∧u8 = .int .u64 (hiW (qD N D k:Nat))∧u9 = .int .u64 (loW (qD N D k:Nat)) ∧
 u10 = .int .u64 (hiW (rD N D k:Nat))∧u11 = .int .u64 (loW (rD N D k:Nat))∧(∃ z:Int,u12 = .int .i64 z∧Hid (z = 128 - (k:Int)))∧w = wr
set_option maxHeartbeats 8000000
set_option maxRecDepth 100000
theorem rdivide_any (N D:Nat) (w:World) (hN:N < 340282366920938463463374607431768211456) (hD:0 < D) (hD1:D≤170141183460469231731687303715884105728) :
 Calls Tryz.prog 248 #[.int .u64 (hiW (N:Int)),.int .u64 (loW (N:Int)),.int .u64 (hiW (D:Int)),.int .u64 (loW (D:Int))] w fun e w'=>e = .returned (.tuple #[.int .u64 (hiW (N / D:Nat)),.int .u64 (loW (N / D:Nat)),.int .u64 (hiW (N % D:Nat)),.int .u64 (loW (N % D:Nat))])∧w = w':=by
 obtain ⟨t0,t1⟩:=qr_top (D:=D) hN
 obtain ⟨n0,n1⟩:=qr_end N D
 have HS:=Lib.hid (sh_start hN)
 have ST:=Lib.hid fun k hk=>rd_step (k:=k) hN hD hD1 hk
 have HE0:=Lib.hid n0
 have HE1:=Lib.hid n1
 clear n0 n1 hN hD hD1
 go_enter Tryz.func248,Tryz.ntmps248
 go_wp2
 go_loopw [0,1,8,9,10,11,12] (RdR N D w) (fun _ _ _ _ _ _ v _=>(128 - intOf v).toNat)
 case atStart=>exact ⟨128,Nat.le_refl _,by rw [HS.out],by rw [HS.out],by rw [t0]; rfl,by rw [t0]; rfl,by rw [t1]; rfl,by rw [t1]; rfl,⟨0,rfl,Lib.hid (by rfl)⟩,rfl⟩
 case round =>
  clear t0 t1
  obtain ⟨k,hk,rfl,rfl,rfl,rfl,rfl,rfl,⟨z,rfl,HZ⟩,rfl⟩:=hrel
  cases k with
  | zero =>
   have g:decide (z < 128) = false:=by have:=HZ.out; simp; omega
   rw [HE0.out,HE1.out]
   go_wp2
   refine bodyPost_ret (v:=.tuple #[.int .u64 (hiW (N / D:Nat)),.int .u64 (loW (N / D:Nat)),.int .u64 (hiW (N % D:Nat)),.int .u64 (loW (N % D:Nat))]) (by simp [results,Tryz.results248,go_sem]) rfl ⟨rfl,rfl⟩
  | succ k =>
   have hz:z = 127 - (k:Int):=by have:=HZ.out; omega
   have g:decide (z < 128) = true:=by simp; omega
   have z0:0≤z:=by omega
   have S:=ST.out k (by omega)
   clear HZ ST HE0 HE1 HS
   generalize ((shM N (k + 1):Nat):Int) = M at *
   generalize ((rD N D (k + 1):Nat):Int) = R at *
   generalize ((qD N D (k + 1):Nat):Int) = Q at *
   generalize ((bD N k:Nat):Int) = b at *
   obtain ⟨s0,s1,s2,s3,s4,s5,s6,s7,fin,s9,s10⟩:=S
   obtain ⟨M',hM⟩:∃ e,((shM N k:Nat):Int) = e:=⟨_,rfl⟩
   obtain ⟨R',hR⟩:∃ e,((rD N D k:Nat):Int) = e:=⟨_,rfl⟩
   obtain ⟨Q',hQ⟩:∃ e,((qD N D k:Nat):Int) = e:=⟨_,rfl⟩
   rw [hM] at s0 s1
   rw [hR,hQ] at fin
   have HM:=Lib.hid hM
   have HR:=Lib.hid hR
   have HQ:=Lib.hid hQ
   clear hM hR hQ
   have dn:(0:Int)≤(D:Int):=by omega
   generalize (D:Int) = d at *
   have S7:=Lib.hid s7
   clear s7
   have l0:=lo_rng (2 * R + b)
   have l1:=lo_rng d
   have hr0:0≤hiW (2 * R + b):=by unfold hiW; omega
   have hd0:0≤hiW d:=by unfold hiW; omega
   rcases fin with ⟨f0,f1,f2⟩ | ⟨f0,f1,f2⟩
   ·have R9:=Lib.hid f2
    have Q9:=Lib.hid f1
    have L:IntKind.u64.wrap (loW (2 * R + b) - loW d) = loW R':=by rw [f2,IntKind.wrap_u64]; unfold loW; omega
    rcases Int.lt_trichotomy (hiW (2 * R + b)) (hiW d) with c | c | c
    ·exfalso; unfold hiW at c; omega
    ·have g1:decide (hiW d < hiW (2 * R + b)) = false:=by simp; omega
     have g2:(hiW (2 * R + b) == hiW d) = true:=by simpa using c
     have g3:decide (loW d≤loW (2 * R + b)) = true:=by simp; unfold hiW loW at *; omega
     have g4:decide (loW (2 * R + b) < loW d) = false:=by simp; unfold hiW loW at *; omega
     have H:IntKind.u64.wrap (hiW (2 * R + b) - hiW d) = hiW R':=by rw [f2,IntKind.wrap_u64]; unfold hiW loW at *; omega
     clear f0 f1 f2 c l0 l1 s9 s10 hr0 hd0 dn
     generalize hiW (2 * R + b) = rh at *
     generalize loW (2 * R + b) = rl at *
     go_wp2
     exact ⟨⟨k,by omega,by rw [HM.out],by rw [HM.out],by rw [HQ.out,Q9.out,S7.out],by rw [HQ.out,Q9.out],by rw [HR.out],by rw [HR.out],⟨_,rfl,Lib.hid (by omega)⟩,rfl⟩,by simp [intOf]; omega⟩
    ·have g1:decide (hiW d < hiW (2 * R + b)) = true:=by simpa using c
     by_cases bo:loW (2 * R + b) < loW d
     ·have g4:decide (loW (2 * R + b) < loW d) = true:=by simpa using bo
      have H:IntKind.u64.wrap (IntKind.u64.wrap (hiW (2 * R + b) - hiW d) - 1) = hiW R':=by rw [f2,IntKind.wrap_u64,IntKind.wrap_u64]; unfold hiW loW at *; omega
      clear f0 f1 f2 c bo l0 l1 s9 s10 hr0 hd0 dn
      generalize hiW (2 * R + b) = rh at *
      generalize loW (2 * R + b) = rl at *
      obtain ⟨x,hx⟩:∃ e,IntKind.u64.wrap (rh - hiW d) = e:=⟨_,rfl⟩
      rw [hx] at H
      go_wp2
      exact ⟨⟨k,by omega,by rw [HM.out],by rw [HM.out],by rw [HQ.out,Q9.out,S7.out],by rw [HQ.out,Q9.out],by rw [HR.out],by rw [HR.out],⟨_,rfl,Lib.hid (by omega)⟩,rfl⟩,by simp [intOf]; omega⟩
     ·have g4:decide (loW (2 * R + b) < loW d) = false:=by simpa using bo
      have H:IntKind.u64.wrap (hiW (2 * R + b) - hiW d) = hiW R':=by rw [f2,IntKind.wrap_u64]; unfold hiW loW at *; omega
      clear f0 f1 f2 c bo l0 l1 s9 s10 hr0 hd0 dn
      generalize hiW (2 * R + b) = rh at *
      generalize loW (2 * R + b) = rl at *
      go_wp2
      exact ⟨⟨k,by omega,by rw [HM.out],by rw [HM.out],by rw [HQ.out,Q9.out,S7.out],by rw [HQ.out,Q9.out],by rw [HR.out],by rw [HR.out],⟨_,rfl,Lib.hid (by omega)⟩,rfl⟩,by simp [intOf]; omega⟩
   ·have R9:=Lib.hid f2
    have Q9:=Lib.hid f1
    rcases Int.lt_trichotomy (hiW (2 * R + b)) (hiW d) with c | c | c
    ·have g1:decide (hiW d < hiW (2 * R + b)) = false:=by simp; omega
     have g2:(hiW (2 * R + b) == hiW d) = false:=by simp; omega
     clear f0 f1 f2 c l0 l1 s9 s10 hr0 hd0 dn
     go_wp2
     exact ⟨⟨k,by omega,by rw [HM.out],by rw [HM.out],by rw [HQ.out,Q9.out],by rw [HQ.out,Q9.out],by rw [HR.out,R9.out],by rw [HR.out,R9.out],⟨_,rfl,Lib.hid (by omega)⟩,rfl⟩,by simp [intOf]; omega⟩
    ·have g1:decide (hiW d < hiW (2 * R + b)) = false:=by simp; omega
     have g2:(hiW (2 * R + b) == hiW d) = true:=by simpa using c
     have g3:decide (loW d≤loW (2 * R + b)) = false:=by simp; unfold hiW loW at *; omega
     clear f0 f1 f2 c l0 l1 s9 s10 hr0 hd0 dn
     go_wp2
     exact ⟨⟨k,by omega,by rw [HM.out],by rw [HM.out],by rw [HQ.out,Q9.out],by rw [HQ.out,Q9.out],by rw [HR.out,R9.out],by rw [HR.out,R9.out],⟨_,rfl,Lib.hid (by omega)⟩,rfl⟩,by simp [intOf]; omega⟩
    ·exfalso; unfold hiW at c; omega
end Go.Proofs.YtajmjkliblippaaGreatDoor
namespace Go.Proofs.YtajmjkliblippaaGreatDoor
open Go.RowKit
set_option maxHeartbeats 4000000
set_option maxRecDepth 100000
theorem rcmp_pos (d:Int) (w:World) (h0:0 < d) (h1:d < 9223372036854775808) :
 Calls Tryz.prog 252 #[.agg #[.int .i64 0,.int .u64 d],.agg #[.int .i64 0,.int .u64 0]] w fun e w'=>e = .returned (.int .i64 1)∧Below w.heap.size w w':=by
 have g1:decide (d < 0) = false:=by simp; omega
 have g2:(d == 0) = false:=by simp; omega
 have g3:¬ d = 0:=by omega
 go_enter Tryz.func252,Tryz.ntmps252
 go_wp2
 go_ret
 exact ⟨rfl,((Below.refl _ _).alloc (Nat.le_refl _) _).alloc (by simp) _⟩
theorem rsign_pos (d:Int) (w:World) (h0:0 < d) (h1:d < 9223372036854775808) :
 Calls Tryz.prog 246 #[.agg #[.int .i64 0,.int .u64 d]] w fun e w'=>e = .returned (.int .i64 1)∧Below w.heap.size w w':=by
 have CM:=Lib.hid fun w=>rcmp_pos d w h0 h1
 clear h0 h1
 obtain ⟨KX,HB⟩:=ent1 w #[.int .i64 0,.int .u64 d] 112
 go_enter Tryz.func246,Tryz.ntmps246
 go_wp2_with fail
 generalize w.alloc _ = w0 at *
 refine (CM.out _).mono ?_
 rintro e1 w1 ⟨rfl,hb1⟩
 replace HB:=hT HB hb1
 replace KX:=hK KX hb1
 clear hb1
 go_wp2
 go_ret
 exact ⟨rfl,HB.out⟩
set_option maxHeartbeats 200000
set_option maxRecDepth 512
structure QuoW (x d q r:Int):Prop where
 sg:∀ w,Calls Tryz.prog 246 #[.agg #[.int .i64 0,.int .u64 d]] w fun e w'=>e = .returned (.int .i64 1)∧Below w.heap.size w w'
 sx:∀ w,Calls Tryz.prog 247 #[.agg #[.int .i64 (hiW x),.int .u64 (loW x)]] w fun e w'=>e = .returned (.tuple #[.int .u64 (hiW (absW x)),.int .u64 (loW (absW x))])∧Below w.heap.size w w'
 sy:∀ w,Calls Tryz.prog 247 #[.agg #[.int .i64 0,.int .u64 d]] w fun e w'=>e = .returned (.tuple #[.int .u64 0,.int .u64 d])∧Below w.heap.size w w'
 dv:∀ w,Calls Tryz.prog 248 #[.int .u64 (hiW (absW x)),.int .u64 (loW (absW x)),.int .u64 0,.int .u64 d] w fun e w'=>e = .returned (.tuple #[.int .u64 (hiW q),.int .u64 (loW q),.int .u64 0,.int .u64 r])∧Below w.heap.size w w'
theorem small_words {d:Int} (h0:0≤d) (h1:d < 9223372036854775808):hiW d = 0∧loW d = d:=by unfold hiW loW; omega
theorem quo_world {x d q r:Int} (hx0:-85070591730234615865843651857942052864 < x) (hx:x < 85070591730234615865843651857942052864) (hd:0 < d) (hd1:d < 9223372036854775808) (hq:q = absW x / d) (hr:r = absW x % d):QuoW x d q r:=by
 have ax0:=absW_nonneg x
 have ax1:absW x < 85070591730234615865843651857942052864:=by unfold absW; split <;> omega
 have ad:absW d = d:=by unfold absW; rw [if_neg (by omega)]
 obtain ⟨w0,w1⟩:=small_words (d:=d) (by omega) hd1
 have hr0:0≤r:=by rw [hr]; exact Int.emod_nonneg _ (by omega)
 have hr1:r < d:=by rw [hr]; exact Int.emod_lt_of_pos _ hd
 obtain ⟨v0,v1⟩:=small_words (d:=r) hr0 (by omega)
 refine ⟨fun w=>rsign_pos d w hd hd1,fun w=>rsize_any x w ⟨by omega,by omega⟩,fun w=>?_,fun w=>?_⟩
 ·have:=rsize_any d w ⟨by omega,by omega⟩
  unfold wv at this
  rw [ad,w0,w1] at this
  exact this
 ·obtain ⟨N,hN⟩:=Int.eq_ofNat_of_zero_le ax0
  obtain ⟨D,rfl⟩:=Int.eq_ofNat_of_zero_le (show 0≤d by omega)
  have:=rdivide_any N D w (by omega) (by omega) (by omega)
  rw [Int.natCast_ediv,Int.natCast_emod,← hN,← hq,← hr,v0,v1,w0,w1] at this
  exact this.mono fun e w' ⟨a,b⟩=>⟨a,by rw [← b]; exact Below.refl _ _⟩
end Go.Proofs.YtajmjkliblippaaGreatDoor
namespace Go.Proofs.YtajmjkliblippaaGreatDoor
open Go.RowKit
set_option maxHeartbeats 16000000
set_option maxRecDepth 100000
theorem quo_upP0lt (x d q r v:Int) (w:World) (h:QuoW x d q r) (hx:0≤x) (h0:0≤q) (h1:q < 85070591730234615865843651857942052864) (hr:r = 0) (hr0:0≤r) (hr1:r < d) (hd1:d < 9223372036854775808) (hv:v = sgn false q) :
 Calls Tryz.prog 229 #[wv x,.agg #[.int .i64 0,.int .u64 d],.int .i64 1] w fun e w'=>e = .returned (.tuple #[wv v,.bool true])∧Below w.heap.size w w':=by
 have gx:decide (hiW x < 0) = false:=by have:=hi_neg x; simp; omega
 have gr:(r == 0) = true:=by simpa using hr
 have gr':(r != 0) = false:=by simpa using hr
 have J:=Lib.hid fun w=>rsigned_any q false w (by omega) (by omega)
 rw [← hv] at J
 unfold wv at J ⊢
 clear hv
 clear h0 h1 hr0 hr1 hd1 hx hr
 have SG:=Lib.hid h.sg
 have SX:=Lib.hid h.sx
 have SY:=Lib.hid h.sy
 have DV:=Lib.hid h.dv
 clear h
 obtain ⟨KX,KY,KZ,HB⟩:=ent3 w #[.int .i64 (hiW x),.int .u64 (loW x)] 112 #[.int .i64 0,.int .u64 d] 112 #[.int .i64 0,.int .u64 0] 112
 go_enter Tryz.func229,Tryz.ntmps229
 go_wp2_with fail
 generalize ((w.alloc _).alloc _).alloc _ = w0 at *
 refine (SG.out _).mono ?_
 rintro e1 w1 ⟨rfl,hb1⟩
 refine up3 hb1 HB KX KY KZ ?_
 clear hb1 HB KX KY KZ
 intro HB KX KY KZ
 obtain ⟨yX0,yX1,yXz⟩:=blk2 KX
 obtain ⟨yY0,yY1,yYz⟩:=blk2 KY
 go_wp2_with fail
 refine (SX.out _).mono ?_
 rintro e2 w2 ⟨rfl,hb2⟩
 refine up3 hb2 HB KX KY KZ ?_
 clear hb2 yX0 yX1 yXz yY0 yY1 yYz HB KX KY KZ
 intro HB KX KY KZ
 obtain ⟨yY0,yY1,yYz⟩:=blk2 KY
 go_wp2_with fail
 refine (SY.out _).mono ?_
 rintro e3 w3 ⟨rfl,hb3⟩
 refine up3 hb3 HB KX KY KZ ?_
 clear hb3 yY0 yY1 yYz HB KX KY KZ
 intro HB KX KY KZ
 go_wp2_with fail
 refine (DV.out _).mono ?_
 rintro e4 w4 ⟨rfl,hb4⟩
 refine up3 hb4 HB KX KY KZ ?_
 clear hb4 HB KX KY KZ
 intro HB KX KY KZ
 go_wp2_with fail
 refine (J.out _).mono ?_
 rintro e5 w5 ⟨rfl,hb5⟩
 refine up3 hb5 HB KX KY KZ ?_
 clear hb5 HB KX KY KZ
 intro HB KX KY KZ
 obtain ⟨yZ0,yZ1,yZz,yZf0,yZf1⟩:=blf2 KZ
 go_wp2
 replace KZ:=kst (kst KZ 0 (.int .i64 (hiW v))) 1 (.int .u64 (loW v))
 refine ot2 (st2 w5 (w.heap.size + 1 + 1) 0 (.int .i64 (hiW v)) 1 (.int .u64 (loW v))) HB KX KY (by omega) (by omega) (by omega) ?_
 clear HB KX KY
 intro HB KX KY
 clear yZ0 yZ1 yZz yZf0 yZf1
 generalize (w5.setCell _ _).setCell _ _ = w6 at *
 simp only [List.set] at KZ
 obtain ⟨yZ0,yZ1,yZz⟩:=blk2 KZ
 refine bodyPost_ret (v:=.tuple #[.agg #[.int .i64 (hiW v),.int .u64 (loW v)],.bool true]) (by simp [results,Tryz.results229,go_sem,yZ0,yZ1]) rfl ⟨rfl,HB.out⟩
theorem quo_upP1lt (x d q r v:Int) (w:World) (h:QuoW x d q r) (hx:0≤x) (h0:0≤q) (h1:q < 85070591730234615865843651857942052864) (hr:¬ r = 0) (hr0:0≤r) (hr1:r < d) (hd1:d < 9223372036854775808) (hv:v = sgn false (q + 1)) :
 Calls Tryz.prog 229 #[wv x,.agg #[.int .i64 0,.int .u64 d],.int .i64 1] w fun e w'=>e = .returned (.tuple #[wv v,.bool true])∧Below w.heap.size w w':=by
 by_cases hcy:loW (q + 1) = 0
 ·have gx:decide (hiW x < 0) = false:=by have:=hi_neg x; simp; omega
  have gr:(r == 0) = false:=by simpa using hr
  have gr':(r != 0) = true:=by simpa using hr
  have qs:IntKind.u64.wrap (loW q + 1) = loW (q + 1):=by rw [IntKind.wrap_u64]; unfold loW; omega
  have qc:(loW (q + 1) == 0) = true:=by simpa using hcy
  have qh:IntKind.u64.wrap (hiW q + 1) = hiW (q + 1):=by rw [IntKind.wrap_u64]; unfold hiW loW at *; omega
  have J:=Lib.hid fun w=>rsigned_any (q + 1) false w (by omega) (by omega)
  rw [← hv] at J
  unfold wv at J ⊢
  clear hv
  generalize loW (q + 1) = ql at *
  clear h0 h1 hr0 hr1 hd1 hx hr hcy
  have SG:=Lib.hid h.sg
  have SX:=Lib.hid h.sx
  have SY:=Lib.hid h.sy
  have DV:=Lib.hid h.dv
  clear h
  obtain ⟨KX,KY,KZ,HB⟩:=ent3 w #[.int .i64 (hiW x),.int .u64 (loW x)] 112 #[.int .i64 0,.int .u64 d] 112 #[.int .i64 0,.int .u64 0] 112
  go_enter Tryz.func229,Tryz.ntmps229
  go_wp2_with fail
  generalize ((w.alloc _).alloc _).alloc _ = w0 at *
  refine (SG.out _).mono ?_
  rintro e1 w1 ⟨rfl,hb1⟩
  refine up3 hb1 HB KX KY KZ ?_
  clear hb1 HB KX KY KZ
  intro HB KX KY KZ
  obtain ⟨yX0,yX1,yXz⟩:=blk2 KX
  obtain ⟨yY0,yY1,yYz⟩:=blk2 KY
  go_wp2_with fail
  refine (SX.out _).mono ?_
  rintro e2 w2 ⟨rfl,hb2⟩
  refine up3 hb2 HB KX KY KZ ?_
  clear hb2 yX0 yX1 yXz yY0 yY1 yYz HB KX KY KZ
  intro HB KX KY KZ
  obtain ⟨yY0,yY1,yYz⟩:=blk2 KY
  go_wp2_with fail
  refine (SY.out _).mono ?_
  rintro e3 w3 ⟨rfl,hb3⟩
  refine up3 hb3 HB KX KY KZ ?_
  clear hb3 yY0 yY1 yYz HB KX KY KZ
  intro HB KX KY KZ
  go_wp2_with fail
  refine (DV.out _).mono ?_
  rintro e4 w4 ⟨rfl,hb4⟩
  refine up3 hb4 HB KX KY KZ ?_
  clear hb4 HB KX KY KZ
  intro HB KX KY KZ
  go_wp2_with fail
  refine (J.out _).mono ?_
  rintro e5 w5 ⟨rfl,hb5⟩
  refine up3 hb5 HB KX KY KZ ?_
  clear hb5 HB KX KY KZ
  intro HB KX KY KZ
  obtain ⟨yZ0,yZ1,yZz,yZf0,yZf1⟩:=blf2 KZ
  go_wp2
  replace KZ:=kst (kst KZ 0 (.int .i64 (hiW v))) 1 (.int .u64 (loW v))
  refine ot2 (st2 w5 (w.heap.size + 1 + 1) 0 (.int .i64 (hiW v)) 1 (.int .u64 (loW v))) HB KX KY (by omega) (by omega) (by omega) ?_
  clear HB KX KY
  intro HB KX KY
  clear yZ0 yZ1 yZz yZf0 yZf1
  generalize (w5.setCell _ _).setCell _ _ = w6 at *
  simp only [List.set] at KZ
  obtain ⟨yZ0,yZ1,yZz⟩:=blk2 KZ
  refine bodyPost_ret (v:=.tuple #[.agg #[.int .i64 (hiW v),.int .u64 (loW v)],.bool true]) (by simp [results,Tryz.results229,go_sem,yZ0,yZ1]) rfl ⟨rfl,HB.out⟩
 ·have gx:decide (hiW x < 0) = false:=by have:=hi_neg x; simp; omega
  have gr:(r == 0) = false:=by simpa using hr
  have gr':(r != 0) = true:=by simpa using hr
  have qs:IntKind.u64.wrap (loW q + 1) = loW (q + 1):=by rw [IntKind.wrap_u64]; unfold loW; omega
  have qc:(loW (q + 1) == 0) = false:=by simpa using hcy
  have qh:hiW q = hiW (q + 1):=by unfold hiW loW at *; omega
  have J:=Lib.hid fun w=>rsigned_any (q + 1) false w (by omega) (by omega)
  rw [← hv] at J
  unfold wv at J ⊢
  clear hv
  rw [← qh] at J
  clear qh
  generalize loW (q + 1) = ql at *
  clear h0 h1 hr0 hr1 hd1 hx hr hcy
  have SG:=Lib.hid h.sg
  have SX:=Lib.hid h.sx
  have SY:=Lib.hid h.sy
  have DV:=Lib.hid h.dv
  clear h
  obtain ⟨KX,KY,KZ,HB⟩:=ent3 w #[.int .i64 (hiW x),.int .u64 (loW x)] 112 #[.int .i64 0,.int .u64 d] 112 #[.int .i64 0,.int .u64 0] 112
  go_enter Tryz.func229,Tryz.ntmps229
  go_wp2_with fail
  generalize ((w.alloc _).alloc _).alloc _ = w0 at *
  refine (SG.out _).mono ?_
  rintro e1 w1 ⟨rfl,hb1⟩
  refine up3 hb1 HB KX KY KZ ?_
  clear hb1 HB KX KY KZ
  intro HB KX KY KZ
  obtain ⟨yX0,yX1,yXz⟩:=blk2 KX
  obtain ⟨yY0,yY1,yYz⟩:=blk2 KY
  go_wp2_with fail
  refine (SX.out _).mono ?_
  rintro e2 w2 ⟨rfl,hb2⟩
  refine up3 hb2 HB KX KY KZ ?_
  clear hb2 yX0 yX1 yXz yY0 yY1 yYz HB KX KY KZ
  intro HB KX KY KZ
  obtain ⟨yY0,yY1,yYz⟩:=blk2 KY
  go_wp2_with fail
  refine (SY.out _).mono ?_
  rintro e3 w3 ⟨rfl,hb3⟩
  refine up3 hb3 HB KX KY KZ ?_
  clear hb3 yY0 yY1 yYz HB KX KY KZ
  intro HB KX KY KZ
  go_wp2_with fail
  refine (DV.out _).mono ?_
  rintro e4 w4 ⟨rfl,hb4⟩
  refine up3 hb4 HB KX KY KZ ?_
  clear hb4 HB KX KY KZ
  intro HB KX KY KZ
  go_wp2_with fail
  refine (J.out _).mono ?_
  rintro e5 w5 ⟨rfl,hb5⟩
  refine up3 hb5 HB KX KY KZ ?_
  clear hb5 HB KX KY KZ
  intro HB KX KY KZ
  obtain ⟨yZ0,yZ1,yZz,yZf0,yZf1⟩:=blf2 KZ
  go_wp2
  replace KZ:=kst (kst KZ 0 (.int .i64 (hiW v))) 1 (.int .u64 (loW v))
  refine ot2 (st2 w5 (w.heap.size + 1 + 1) 0 (.int .i64 (hiW v)) 1 (.int .u64 (loW v))) HB KX KY (by omega) (by omega) (by omega) ?_
  clear HB KX KY
  intro HB KX KY
  clear yZ0 yZ1 yZz yZf0 yZf1
  generalize (w5.setCell _ _).setCell _ _ = w6 at *
  simp only [List.set] at KZ
  obtain ⟨yZ0,yZ1,yZz⟩:=blk2 KZ
  refine bodyPost_ret (v:=.tuple #[.agg #[.int .i64 (hiW v),.int .u64 (loW v)],.bool true]) (by simp [results,Tryz.results229,go_sem,yZ0,yZ1]) rfl ⟨rfl,HB.out⟩
theorem quo_nearP0lt (x d q r v:Int) (w:World) (h:QuoW x d q r) (hx:0≤x) (h0:0≤q) (h1:q < 85070591730234615865843651857942052864) (hr:r = 0) (hr0:0≤r) (hr1:r < d) (hd1:d < 9223372036854775808) (hc:r < d - r) (hv:v = sgn false q) :
 Calls Tryz.prog 229 #[wv x,.agg #[.int .i64 0,.int .u64 d],.int .i64 2] w fun e w'=>e = .returned (.tuple #[wv v,.bool true])∧Below w.heap.size w w':=by
 have gx:decide (hiW x < 0) = false:=by have:=hi_neg x; simp; omega
 have gr:(r == 0) = true:=by simpa using hr
 have gr':(r != 0) = false:=by simpa using hr
 have gd:decide (d < r) = false:=by simp; omega
 have gs:IntKind.u64.wrap (d - r) = d - r:=by rw [IntKind.wrap_u64]; omega
 have gc:decide (d - r < r) = false:=by simp; omega
 have ge:(r == d - r) = false:=by simp; omega
 have ge':(d - r == r) = false:=by simp; omega
 have J:=Lib.hid fun w=>rsigned_any q false w (by omega) (by omega)
 rw [← hv] at J
 unfold wv at J ⊢
 clear hv
 clear h0 h1 hr0 hr1 hd1 hx hr hc
 have SG:=Lib.hid h.sg
 have SX:=Lib.hid h.sx
 have SY:=Lib.hid h.sy
 have DV:=Lib.hid h.dv
 clear h
 obtain ⟨KX,KY,KZ,HB⟩:=ent3 w #[.int .i64 (hiW x),.int .u64 (loW x)] 112 #[.int .i64 0,.int .u64 d] 112 #[.int .i64 0,.int .u64 0] 112
 go_enter Tryz.func229,Tryz.ntmps229
 go_wp2_with fail
 generalize ((w.alloc _).alloc _).alloc _ = w0 at *
 refine (SG.out _).mono ?_
 rintro e1 w1 ⟨rfl,hb1⟩
 refine up3 hb1 HB KX KY KZ ?_
 clear hb1 HB KX KY KZ
 intro HB KX KY KZ
 obtain ⟨yX0,yX1,yXz⟩:=blk2 KX
 obtain ⟨yY0,yY1,yYz⟩:=blk2 KY
 go_wp2_with fail
 refine (SX.out _).mono ?_
 rintro e2 w2 ⟨rfl,hb2⟩
 refine up3 hb2 HB KX KY KZ ?_
 clear hb2 yX0 yX1 yXz yY0 yY1 yYz HB KX KY KZ
 intro HB KX KY KZ
 obtain ⟨yY0,yY1,yYz⟩:=blk2 KY
 go_wp2_with fail
 refine (SY.out _).mono ?_
 rintro e3 w3 ⟨rfl,hb3⟩
 refine up3 hb3 HB KX KY KZ ?_
 clear hb3 yY0 yY1 yYz HB KX KY KZ
 intro HB KX KY KZ
 go_wp2_with fail
 refine (DV.out _).mono ?_
 rintro e4 w4 ⟨rfl,hb4⟩
 refine up3 hb4 HB KX KY KZ ?_
 clear hb4 HB KX KY KZ
 intro HB KX KY KZ
 go_wp2_with fail
 refine (J.out _).mono ?_
 rintro e5 w5 ⟨rfl,hb5⟩
 refine up3 hb5 HB KX KY KZ ?_
 clear hb5 HB KX KY KZ
 intro HB KX KY KZ
 obtain ⟨yZ0,yZ1,yZz,yZf0,yZf1⟩:=blf2 KZ
 go_wp2
 replace KZ:=kst (kst KZ 0 (.int .i64 (hiW v))) 1 (.int .u64 (loW v))
 refine ot2 (st2 w5 (w.heap.size + 1 + 1) 0 (.int .i64 (hiW v)) 1 (.int .u64 (loW v))) HB KX KY (by omega) (by omega) (by omega) ?_
 clear HB KX KY
 intro HB KX KY
 clear yZ0 yZ1 yZz yZf0 yZf1
 generalize (w5.setCell _ _).setCell _ _ = w6 at *
 simp only [List.set] at KZ
 obtain ⟨yZ0,yZ1,yZz⟩:=blk2 KZ
 refine bodyPost_ret (v:=.tuple #[.agg #[.int .i64 (hiW v),.int .u64 (loW v)],.bool true]) (by simp [results,Tryz.results229,go_sem,yZ0,yZ1]) rfl ⟨rfl,HB.out⟩
theorem quo_nearP1lt (x d q r v:Int) (w:World) (h:QuoW x d q r) (hx:0≤x) (h0:0≤q) (h1:q < 85070591730234615865843651857942052864) (hr:¬ r = 0) (hr0:0≤r) (hr1:r < d) (hd1:d < 9223372036854775808) (hc:r < d - r) (hv:v = sgn false q) :
 Calls Tryz.prog 229 #[wv x,.agg #[.int .i64 0,.int .u64 d],.int .i64 2] w fun e w'=>e = .returned (.tuple #[wv v,.bool true])∧Below w.heap.size w w':=by
 have gx:decide (hiW x < 0) = false:=by have:=hi_neg x; simp; omega
 have gr:(r == 0) = false:=by simpa using hr
 have gr':(r != 0) = true:=by simpa using hr
 have gd:decide (d < r) = false:=by simp; omega
 have gs:IntKind.u64.wrap (d - r) = d - r:=by rw [IntKind.wrap_u64]; omega
 have gc:decide (d - r < r) = false:=by simp; omega
 have ge:(r == d - r) = false:=by simp; omega
 have ge':(d - r == r) = false:=by simp; omega
 have J:=Lib.hid fun w=>rsigned_any q false w (by omega) (by omega)
 rw [← hv] at J
 unfold wv at J ⊢
 clear hv
 clear h0 h1 hr0 hr1 hd1 hx hr hc
 have SG:=Lib.hid h.sg
 have SX:=Lib.hid h.sx
 have SY:=Lib.hid h.sy
 have DV:=Lib.hid h.dv
 clear h
 obtain ⟨KX,KY,KZ,HB⟩:=ent3 w #[.int .i64 (hiW x),.int .u64 (loW x)] 112 #[.int .i64 0,.int .u64 d] 112 #[.int .i64 0,.int .u64 0] 112
 go_enter Tryz.func229,Tryz.ntmps229
 go_wp2_with fail
 generalize ((w.alloc _).alloc _).alloc _ = w0 at *
 refine (SG.out _).mono ?_
 rintro e1 w1 ⟨rfl,hb1⟩
 refine up3 hb1 HB KX KY KZ ?_
 clear hb1 HB KX KY KZ
 intro HB KX KY KZ
 obtain ⟨yX0,yX1,yXz⟩:=blk2 KX
 obtain ⟨yY0,yY1,yYz⟩:=blk2 KY
 go_wp2_with fail
 refine (SX.out _).mono ?_
 rintro e2 w2 ⟨rfl,hb2⟩
 refine up3 hb2 HB KX KY KZ ?_
 clear hb2 yX0 yX1 yXz yY0 yY1 yYz HB KX KY KZ
 intro HB KX KY KZ
 obtain ⟨yY0,yY1,yYz⟩:=blk2 KY
 go_wp2_with fail
 refine (SY.out _).mono ?_
 rintro e3 w3 ⟨rfl,hb3⟩
 refine up3 hb3 HB KX KY KZ ?_
 clear hb3 yY0 yY1 yYz HB KX KY KZ
 intro HB KX KY KZ
 go_wp2_with fail
 refine (DV.out _).mono ?_
 rintro e4 w4 ⟨rfl,hb4⟩
 refine up3 hb4 HB KX KY KZ ?_
 clear hb4 HB KX KY KZ
 intro HB KX KY KZ
 go_wp2_with fail
 refine (J.out _).mono ?_
 rintro e5 w5 ⟨rfl,hb5⟩
 refine up3 hb5 HB KX KY KZ ?_
 clear hb5 HB KX KY KZ
 intro HB KX KY KZ
 obtain ⟨yZ0,yZ1,yZz,yZf0,yZf1⟩:=blf2 KZ
 go_wp2
 replace KZ:=kst (kst KZ 0 (.int .i64 (hiW v))) 1 (.int .u64 (loW v))
 refine ot2 (st2 w5 (w.heap.size + 1 + 1) 0 (.int .i64 (hiW v)) 1 (.int .u64 (loW v))) HB KX KY (by omega) (by omega) (by omega) ?_
 clear HB KX KY
 intro HB KX KY
 clear yZ0 yZ1 yZz yZf0 yZf1
 generalize (w5.setCell _ _).setCell _ _ = w6 at *
 simp only [List.set] at KZ
 obtain ⟨yZ0,yZ1,yZz⟩:=blk2 KZ
 refine bodyPost_ret (v:=.tuple #[.agg #[.int .i64 (hiW v),.int .u64 (loW v)],.bool true]) (by simp [results,Tryz.results229,go_sem,yZ0,yZ1]) rfl ⟨rfl,HB.out⟩
theorem quo_nearP1eq (x d q r v:Int) (w:World) (h:QuoW x d q r) (hx:0≤x) (h0:0≤q) (h1:q < 85070591730234615865843651857942052864) (hr:¬ r = 0) (hr0:0≤r) (hr1:r < d) (hd1:d < 9223372036854775808) (hc:r = d - r) (hv:v = sgn false (q + 1)) :
 Calls Tryz.prog 229 #[wv x,.agg #[.int .i64 0,.int .u64 d],.int .i64 2] w fun e w'=>e = .returned (.tuple #[wv v,.bool true])∧Below w.heap.size w w':=by
 by_cases hcy:loW (q + 1) = 0
 ·have gx:decide (hiW x < 0) = false:=by have:=hi_neg x; simp; omega
  have gr:(r == 0) = false:=by simpa using hr
  have gr':(r != 0) = true:=by simpa using hr
  have gd:decide (d < r) = false:=by simp; omega
  have gs:IntKind.u64.wrap (d - r) = d - r:=by rw [IntKind.wrap_u64]; omega
  have gc:decide (d - r < r) = false:=by simp; omega
  have ge:(r == d - r) = true:=by simp; omega
  have ge':(d - r == r) = true:=by simp; omega
  have qs:IntKind.u64.wrap (loW q + 1) = loW (q + 1):=by rw [IntKind.wrap_u64]; unfold loW; omega
  have qc:(loW (q + 1) == 0) = true:=by simpa using hcy
  have qh:IntKind.u64.wrap (hiW q + 1) = hiW (q + 1):=by rw [IntKind.wrap_u64]; unfold hiW loW at *; omega
  have J:=Lib.hid fun w=>rsigned_any (q + 1) false w (by omega) (by omega)
  rw [← hv] at J
  unfold wv at J ⊢
  clear hv
  generalize loW (q + 1) = ql at *
  clear h0 h1 hr0 hr1 hd1 hx hr hcy hc
  have SG:=Lib.hid h.sg
  have SX:=Lib.hid h.sx
  have SY:=Lib.hid h.sy
  have DV:=Lib.hid h.dv
  clear h
  obtain ⟨KX,KY,KZ,HB⟩:=ent3 w #[.int .i64 (hiW x),.int .u64 (loW x)] 112 #[.int .i64 0,.int .u64 d] 112 #[.int .i64 0,.int .u64 0] 112
  go_enter Tryz.func229,Tryz.ntmps229
  go_wp2_with fail
  generalize ((w.alloc _).alloc _).alloc _ = w0 at *
  refine (SG.out _).mono ?_
  rintro e1 w1 ⟨rfl,hb1⟩
  refine up3 hb1 HB KX KY KZ ?_
  clear hb1 HB KX KY KZ
  intro HB KX KY KZ
  obtain ⟨yX0,yX1,yXz⟩:=blk2 KX
  obtain ⟨yY0,yY1,yYz⟩:=blk2 KY
  go_wp2_with fail
  refine (SX.out _).mono ?_
  rintro e2 w2 ⟨rfl,hb2⟩
  refine up3 hb2 HB KX KY KZ ?_
  clear hb2 yX0 yX1 yXz yY0 yY1 yYz HB KX KY KZ
  intro HB KX KY KZ
  obtain ⟨yY0,yY1,yYz⟩:=blk2 KY
  go_wp2_with fail
  refine (SY.out _).mono ?_
  rintro e3 w3 ⟨rfl,hb3⟩
  refine up3 hb3 HB KX KY KZ ?_
  clear hb3 yY0 yY1 yYz HB KX KY KZ
  intro HB KX KY KZ
  go_wp2_with fail
  refine (DV.out _).mono ?_
  rintro e4 w4 ⟨rfl,hb4⟩
  refine up3 hb4 HB KX KY KZ ?_
  clear hb4 HB KX KY KZ
  intro HB KX KY KZ
  go_wp2_with fail
  refine (J.out _).mono ?_
  rintro e5 w5 ⟨rfl,hb5⟩
  refine up3 hb5 HB KX KY KZ ?_
  clear hb5 HB KX KY KZ
  intro HB KX KY KZ
  obtain ⟨yZ0,yZ1,yZz,yZf0,yZf1⟩:=blf2 KZ
  go_wp2
  replace KZ:=kst (kst KZ 0 (.int .i64 (hiW v))) 1 (.int .u64 (loW v))
  refine ot2 (st2 w5 (w.heap.size + 1 + 1) 0 (.int .i64 (hiW v)) 1 (.int .u64 (loW v))) HB KX KY (by omega) (by omega) (by omega) ?_
  clear HB KX KY
  intro HB KX KY
  clear yZ0 yZ1 yZz yZf0 yZf1
  generalize (w5.setCell _ _).setCell _ _ = w6 at *
  simp only [List.set] at KZ
  obtain ⟨yZ0,yZ1,yZz⟩:=blk2 KZ
  refine bodyPost_ret (v:=.tuple #[.agg #[.int .i64 (hiW v),.int .u64 (loW v)],.bool true]) (by simp [results,Tryz.results229,go_sem,yZ0,yZ1]) rfl ⟨rfl,HB.out⟩
 ·have gx:decide (hiW x < 0) = false:=by have:=hi_neg x; simp; omega
  have gr:(r == 0) = false:=by simpa using hr
  have gr':(r != 0) = true:=by simpa using hr
  have gd:decide (d < r) = false:=by simp; omega
  have gs:IntKind.u64.wrap (d - r) = d - r:=by rw [IntKind.wrap_u64]; omega
  have gc:decide (d - r < r) = false:=by simp; omega
  have ge:(r == d - r) = true:=by simp; omega
  have ge':(d - r == r) = true:=by simp; omega
  have qs:IntKind.u64.wrap (loW q + 1) = loW (q + 1):=by rw [IntKind.wrap_u64]; unfold loW; omega
  have qc:(loW (q + 1) == 0) = false:=by simpa using hcy
  have qh:hiW q = hiW (q + 1):=by unfold hiW loW at *; omega
  have J:=Lib.hid fun w=>rsigned_any (q + 1) false w (by omega) (by omega)
  rw [← hv] at J
  unfold wv at J ⊢
  clear hv
  rw [← qh] at J
  clear qh
  generalize loW (q + 1) = ql at *
  clear h0 h1 hr0 hr1 hd1 hx hr hcy hc
  have SG:=Lib.hid h.sg
  have SX:=Lib.hid h.sx
  have SY:=Lib.hid h.sy
  have DV:=Lib.hid h.dv
  clear h
  obtain ⟨KX,KY,KZ,HB⟩:=ent3 w #[.int .i64 (hiW x),.int .u64 (loW x)] 112 #[.int .i64 0,.int .u64 d] 112 #[.int .i64 0,.int .u64 0] 112
  go_enter Tryz.func229,Tryz.ntmps229
  go_wp2_with fail
  generalize ((w.alloc _).alloc _).alloc _ = w0 at *
  refine (SG.out _).mono ?_
  rintro e1 w1 ⟨rfl,hb1⟩
  refine up3 hb1 HB KX KY KZ ?_
  clear hb1 HB KX KY KZ
  intro HB KX KY KZ
  obtain ⟨yX0,yX1,yXz⟩:=blk2 KX
  obtain ⟨yY0,yY1,yYz⟩:=blk2 KY
  go_wp2_with fail
  refine (SX.out _).mono ?_
  rintro e2 w2 ⟨rfl,hb2⟩
  refine up3 hb2 HB KX KY KZ ?_
  clear hb2 yX0 yX1 yXz yY0 yY1 yYz HB KX KY KZ
  intro HB KX KY KZ
  obtain ⟨yY0,yY1,yYz⟩:=blk2 KY
  go_wp2_with fail
  refine (SY.out _).mono ?_
  rintro e3 w3 ⟨rfl,hb3⟩
  refine up3 hb3 HB KX KY KZ ?_
  clear hb3 yY0 yY1 yYz HB KX KY KZ
  intro HB KX KY KZ
  go_wp2_with fail
  refine (DV.out _).mono ?_
  rintro e4 w4 ⟨rfl,hb4⟩
  refine up3 hb4 HB KX KY KZ ?_
  clear hb4 HB KX KY KZ
  intro HB KX KY KZ
  go_wp2_with fail
  refine (J.out _).mono ?_
  rintro e5 w5 ⟨rfl,hb5⟩
  refine up3 hb5 HB KX KY KZ ?_
  clear hb5 HB KX KY KZ
  intro HB KX KY KZ
  obtain ⟨yZ0,yZ1,yZz,yZf0,yZf1⟩:=blf2 KZ
  go_wp2
  replace KZ:=kst (kst KZ 0 (.int .i64 (hiW v))) 1 (.int .u64 (loW v))
  refine ot2 (st2 w5 (w.heap.size + 1 + 1) 0 (.int .i64 (hiW v)) 1 (.int .u64 (loW v))) HB KX KY (by omega) (by omega) (by omega) ?_
  clear HB KX KY
  intro HB KX KY
  clear yZ0 yZ1 yZz yZf0 yZf1
  generalize (w5.setCell _ _).setCell _ _ = w6 at *
  simp only [List.set] at KZ
  obtain ⟨yZ0,yZ1,yZz⟩:=blk2 KZ
  refine bodyPost_ret (v:=.tuple #[.agg #[.int .i64 (hiW v),.int .u64 (loW v)],.bool true]) (by simp [results,Tryz.results229,go_sem,yZ0,yZ1]) rfl ⟨rfl,HB.out⟩
end Go.Proofs.YtajmjkliblippaaGreatDoor
