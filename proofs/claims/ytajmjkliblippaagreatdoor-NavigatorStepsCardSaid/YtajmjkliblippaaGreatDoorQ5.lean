/-
  Walks and laws of the layers below, gathered from several texts.
-/
import Derived.Test.YtajmjkliblippaaGreatDoorProg
import Derived.WalkKit
import Derived.WalkSpells
import Derived.Lib.Hide
import Derived.BigQuiet
import Derived.Deep.QuietTactic
import Derived.Deep.LoopGhost
import Derived.Test.YtajmjkliblippaaGreatDoorShelfQ
import Derived.Lib.ItoaNum
import Derived.Test.YtajmjkliblippaaGreatDoorQ1
import Derived.Test.YtajmjkliblippaaGreatDoorQ2
set_option linter.unusedVariables false
namespace Go.Proofs.YtajmjkliblippaaGreatDoor.S41
open Go.RowKit Tr Sq
theorem ret_int {k:IntKind} {a b:Int} (h:a = b):Ending.returned (.int k a) = .returned (.int k b):=by rw [h]
set_option maxHeartbeats 400000
theorem norm_any (a:Int) (w:World) (_h0:-9223372036854775808≤a) (_h1:a≤9223372036854775807) :
 Calls Tryz.prog 84 #[.int .i64 a] w fun e w'=>e = .returned (.int .i64 (normI a))∧w = w':=by
 have hb:-129600000 < a.tmod 129600000∧a.tmod 129600000 < 129600000∧(a.tmod 129600000 = a % 129600000∨a.tmod 129600000 = a % 129600000 - 129600000):=by
  rcases Int.le_total 0 a with h | h
  ·rw [Int.tmod_eq_emod_of_nonneg h]; omega
  ·obtain ⟨n,rfl⟩:∃ n,a = -n:=⟨-a,by omega⟩
   rw [Int.neg_tmod,Int.tmod_eq_emod_of_nonneg (by omega)]; omega
 obtain ⟨b0,b1,b2⟩:=hb
 have B2:Hid _:=b2
 clear b2
 go_enter Tryz.func84,Tryz.ntmps84
 go_wp2
 all_goals go_ret
 all_goals exact ⟨ret_int (by have:=B2.out; unfold normI; omega),rfl⟩
set_option maxHeartbeats 200000
theorem turn_any (a b:Int) (w:World) (_h0:-9223372036854775808≤a) (_h1:a≤9223372036854775807) (_h2:-9223372036854775808≤b) (_h3:b≤9223372036854775807) :
 Calls Tryz.prog 83 #[.int .i64 a,.int .i64 b] w fun e w'=>e = .returned (.int .i64 (turnI a b))∧w = w':=by
 have r1:=normI_range a
 have r2:=normI_range b
 obtain ⟨r1a,r1b⟩:=r1
 obtain ⟨r2a,r2b⟩:=r2
 go_enter Tryz.func83,Tryz.ntmps83
 go_wp2_with (go_at_call 84; refine (norm_any _ _ (by omega) (by omega)).mono ?_; rintro e w' ⟨rfl,rfl⟩)
 go_ret
 exact ⟨rfl,rfl⟩
theorem mulI_bd {x y:Int} (hx:0≤x) (hy:0≤y) (hx':x≤2147483648) (hy':y≤2147483648):0≤x * y∧x * y≤4611686018427387904:=
 ⟨Int.mul_nonneg hx hy,by have:=Int.mul_le_mul hx' hy' hy (by decide); omega⟩
theorem mul_any (x y:Int) (w:World) (hx:0≤x) (hy:0≤y) (hx':x≤2147483648) (hy':y≤2147483648) :
 Calls Tryz.prog 164 #[.int .i64 x,.int .i64 y] w fun e w'=>e = .returned (.int .i64 (mulI x y))∧w = w':=by
 obtain ⟨b0,b1⟩:=mulI_bd hx hy hx' hy'
 go_enter Tryz.func164,Tryz.ntmps164
 go_wp2
 go_ret
 exact ⟨rfl,rfl⟩
theorem div_any (x n:Int) (w:World) (_hx:0≤x) (_hn:2≤n) (_hx':x≤2147483648) (_hn':n≤1000) :
 Calls Tryz.prog 165 #[.int .i64 x,.int .i64 n] w fun e w'=>e = .returned (.int .i64 ((x + n / 2) / n))∧w = w':=by
 go_enter Tryz.func165,Tryz.ntmps165
 go_wp2
 go_ret
 exact ⟨rfl,rfl⟩
def SerS (u:Int) (r i:Value):Prop:=(i = .int .i64 0∧r = .int .i64 (serS u 0))∨(i = .int .i64 1∧r = .int .i64 (serS u 1))∨(i = .int .i64 2∧r = .int .i64 (serS u 2))∨(i = .int .i64 3∧r = .int .i64 (serS u 3))∨(i = .int .i64 4∧r = .int .i64 (serS u 4))∨(i = .int .i64 5∧r = .int .i64 (serS u 5))
set_option maxHeartbeats 2000000
theorem sine_any (a:Int) (w:World) (h0:0≤a) (h1:a≤16200000) :
 Calls Tryz.prog 123 #[.int .i64 a] w fun e w'=>e = .returned (.int .i64 (sineI a))∧w = w':=by
 obtain ⟨t0,t1⟩:=argT_range h0 h1
 obtain ⟨u0,u1⟩:=mulI_self t0 t1
 have B0:=Lib.hid (serS_bd _ u0 u1)
 have B1:=Lib.hid (fun r=>mulTR_bd (r:=r) t0 t1)
 unfold argT TM UM at *
 have i0:∀ w,(Instr.index 177 (.agg #[.int .i64 110,.int .i64 72,.int .i64 42,.int .i64 20,.int .i64 6]) (.int .i64 0)).run Tryz.prog w = .ok (.int .i64 110) w:=fun _=>by kernel_rfl
 have i1:∀ w,(Instr.index 177 (.agg #[.int .i64 110,.int .i64 72,.int .i64 42,.int .i64 20,.int .i64 6]) (.int .i64 1)).run Tryz.prog w = .ok (.int .i64 72) w:=fun _=>by kernel_rfl
 have i2:∀ w,(Instr.index 177 (.agg #[.int .i64 110,.int .i64 72,.int .i64 42,.int .i64 20,.int .i64 6]) (.int .i64 2)).run Tryz.prog w = .ok (.int .i64 42) w:=fun _=>by kernel_rfl
 have i3:∀ w,(Instr.index 177 (.agg #[.int .i64 110,.int .i64 72,.int .i64 42,.int .i64 20,.int .i64 6]) (.int .i64 3)).run Tryz.prog w = .ok (.int .i64 20) w:=fun _=>by kernel_rfl
 have i4:∀ w,(Instr.index 177 (.agg #[.int .i64 110,.int .i64 72,.int .i64 42,.int .i64 20,.int .i64 6]) (.int .i64 4)).run Tryz.prog w = .ok (.int .i64 6) w:=fun _=>by kernel_rfl
 go_enter Tryz.func123,Tryz.ntmps123
 go_wp2_with (go_at_call 164; refine (mul_any _ _ _ (by omega) (by omega) (by omega) (by omega)).mono ?_; rintro e w' ⟨rfl,rfl⟩)
 go_loop [5,17] (SerS (mulI ((a * 6746518852 + 32400000) / 64800000) ((a * 6746518852 + 32400000) / 64800000))) (fun _ i=>5 - (intOf i).toNat)
 case atStart=>exact .inl ⟨rfl,rfl⟩
 case round =>
  rcases hrel with ⟨rfl,rfl⟩ | ⟨rfl,rfl⟩ | ⟨rfl,rfl⟩ | ⟨rfl,rfl⟩ | ⟨rfl,rfl⟩ | ⟨rfl,rfl⟩
  ·go_wp2_with (go_at_call 165; refine (div_any _ _ _ (by omega) (by omega) (by omega) (by omega)).mono ?_; rintro e w' ⟨rfl,rfl⟩)
   go_round
   case rel=>exact .inr (.inl ⟨rfl,rfl⟩)
   case measure=>simp [intOf]
  ·obtain ⟨b1,b2,b3,b4⟩:=B0.out 1 (by decide)
   unfold UM at *
   go_wp2_with (first
    | (go_at_call 164; refine (mul_any _ _ _ (by omega) (by omega) (by omega) (by omega)).mono ?_; rintro e w' ⟨rfl,rfl⟩)
    | (go_at_call 165; refine (div_any _ _ _ (by omega) (by omega) (by omega) (by omega)).mono ?_; rintro e w' ⟨rfl,rfl⟩))
   go_round
   case rel=>exact .inr (.inr (.inl ⟨rfl,rfl⟩))
   case measure=>simp [intOf]
  ·obtain ⟨b1,b2,b3,b4⟩:=B0.out 2 (by decide)
   unfold UM at *
   go_wp2_with (first
    | (go_at_call 164; refine (mul_any _ _ _ (by omega) (by omega) (by omega) (by omega)).mono ?_; rintro e w' ⟨rfl,rfl⟩)
    | (go_at_call 165; refine (div_any _ _ _ (by omega) (by omega) (by omega) (by omega)).mono ?_; rintro e w' ⟨rfl,rfl⟩))
   go_round
   case rel=>exact .inr (.inr (.inr (.inl ⟨rfl,rfl⟩)))
   case measure=>simp [intOf]
  ·obtain ⟨b1,b2,b3,b4⟩:=B0.out 3 (by decide)
   unfold UM at *
   go_wp2_with (first
    | (go_at_call 164; refine (mul_any _ _ _ (by omega) (by omega) (by omega) (by omega)).mono ?_; rintro e w' ⟨rfl,rfl⟩)
    | (go_at_call 165; refine (div_any _ _ _ (by omega) (by omega) (by omega) (by omega)).mono ?_; rintro e w' ⟨rfl,rfl⟩))
   go_round
   case rel=>exact .inr (.inr (.inr (.inr (.inl ⟨rfl,rfl⟩))))
   case measure=>simp [intOf]
  ·obtain ⟨b1,b2,b3,b4⟩:=B0.out 4 (by decide)
   unfold UM at *
   go_wp2_with (first
    | (go_at_call 164; refine (mul_any _ _ _ (by omega) (by omega) (by omega) (by omega)).mono ?_; rintro e w' ⟨rfl,rfl⟩)
    | (go_at_call 165; refine (div_any _ _ _ (by omega) (by omega) (by omega) (by omega)).mono ?_; rintro e w' ⟨rfl,rfl⟩))
   go_round
   case rel=>exact .inr (.inr (.inr (.inr (.inr (⟨rfl,rfl⟩)))))
   case measure=>simp [intOf]
  ·obtain ⟨b1,b2,b3,b4⟩:=B0.out 5 (by decide)
   obtain ⟨b5,b6⟩:=B1.out _ b1 b2
   unfold TM at *
   go_wp2_with (go_at_call 164; refine (mul_any _ _ _ (by omega) (by omega) (by omega) (by omega)).mono ?_; rintro e w' ⟨rfl,rfl⟩)
   go_ret
   exact ⟨rfl,rfl⟩
set_option maxHeartbeats 200000
def SerC (u:Int) (r i:Value):Prop:=(i = .int .i64 0∧r = .int .i64 (serC u 0))∨(i = .int .i64 1∧r = .int .i64 (serC u 1))∨(i = .int .i64 2∧r = .int .i64 (serC u 2))∨(i = .int .i64 3∧r = .int .i64 (serC u 3))∨(i = .int .i64 4∧r = .int .i64 (serC u 4))∨(i = .int .i64 5∧r = .int .i64 (serC u 5))
set_option maxHeartbeats 2000000
theorem cosine_any (a:Int) (w:World) (h0:0≤a) (h1:a≤16200000) :
 Calls Tryz.prog 124 #[.int .i64 a] w fun e w'=>e = .returned (.int .i64 (cosineI a))∧w = w':=by
 obtain ⟨t0,t1⟩:=argT_range h0 h1
 obtain ⟨u0,u1⟩:=mulI_self t0 t1
 have B0:=Lib.hid (serC_bd _ u0 u1)
 have B1:=Lib.hid (fun r=>mulTR_bd (r:=r) t0 t1)
 unfold argT TM UM at *
 have i0:∀ w,(Instr.index 177 (.agg #[.int .i64 90,.int .i64 56,.int .i64 30,.int .i64 12,.int .i64 2]) (.int .i64 0)).run Tryz.prog w = .ok (.int .i64 90) w:=fun _=>by kernel_rfl
 have i1:∀ w,(Instr.index 177 (.agg #[.int .i64 90,.int .i64 56,.int .i64 30,.int .i64 12,.int .i64 2]) (.int .i64 1)).run Tryz.prog w = .ok (.int .i64 56) w:=fun _=>by kernel_rfl
 have i2:∀ w,(Instr.index 177 (.agg #[.int .i64 90,.int .i64 56,.int .i64 30,.int .i64 12,.int .i64 2]) (.int .i64 2)).run Tryz.prog w = .ok (.int .i64 30) w:=fun _=>by kernel_rfl
 have i3:∀ w,(Instr.index 177 (.agg #[.int .i64 90,.int .i64 56,.int .i64 30,.int .i64 12,.int .i64 2]) (.int .i64 3)).run Tryz.prog w = .ok (.int .i64 12) w:=fun _=>by kernel_rfl
 have i4:∀ w,(Instr.index 177 (.agg #[.int .i64 90,.int .i64 56,.int .i64 30,.int .i64 12,.int .i64 2]) (.int .i64 4)).run Tryz.prog w = .ok (.int .i64 2) w:=fun _=>by kernel_rfl
 go_enter Tryz.func124,Tryz.ntmps124
 go_wp2_with (go_at_call 164; refine (mul_any _ _ _ (by omega) (by omega) (by omega) (by omega)).mono ?_; rintro e w' ⟨rfl,rfl⟩)
 go_loop [5,17] (SerC (mulI ((a * 6746518852 + 32400000) / 64800000) ((a * 6746518852 + 32400000) / 64800000))) (fun _ i=>5 - (intOf i).toNat)
 case atStart=>exact .inl ⟨rfl,rfl⟩
 case round =>
  rcases hrel with ⟨rfl,rfl⟩ | ⟨rfl,rfl⟩ | ⟨rfl,rfl⟩ | ⟨rfl,rfl⟩ | ⟨rfl,rfl⟩ | ⟨rfl,rfl⟩
  ·go_wp2_with (go_at_call 165; refine (div_any _ _ _ (by omega) (by omega) (by omega) (by omega)).mono ?_; rintro e w' ⟨rfl,rfl⟩)
   go_round
   case rel=>exact .inr (.inl ⟨rfl,rfl⟩)
   case measure=>simp [intOf]
  ·obtain ⟨b1,b2,b3,b4⟩:=B0.out 1 (by decide)
   unfold UM at *
   go_wp2_with (first
    | (go_at_call 164; refine (mul_any _ _ _ (by omega) (by omega) (by omega) (by omega)).mono ?_; rintro e w' ⟨rfl,rfl⟩)
    | (go_at_call 165; refine (div_any _ _ _ (by omega) (by omega) (by omega) (by omega)).mono ?_; rintro e w' ⟨rfl,rfl⟩))
   go_round
   case rel=>exact .inr (.inr (.inl ⟨rfl,rfl⟩))
   case measure=>simp [intOf]
  ·obtain ⟨b1,b2,b3,b4⟩:=B0.out 2 (by decide)
   unfold UM at *
   go_wp2_with (first
    | (go_at_call 164; refine (mul_any _ _ _ (by omega) (by omega) (by omega) (by omega)).mono ?_; rintro e w' ⟨rfl,rfl⟩)
    | (go_at_call 165; refine (div_any _ _ _ (by omega) (by omega) (by omega) (by omega)).mono ?_; rintro e w' ⟨rfl,rfl⟩))
   go_round
   case rel=>exact .inr (.inr (.inr (.inl ⟨rfl,rfl⟩)))
   case measure=>simp [intOf]
  ·obtain ⟨b1,b2,b3,b4⟩:=B0.out 3 (by decide)
   unfold UM at *
   go_wp2_with (first
    | (go_at_call 164; refine (mul_any _ _ _ (by omega) (by omega) (by omega) (by omega)).mono ?_; rintro e w' ⟨rfl,rfl⟩)
    | (go_at_call 165; refine (div_any _ _ _ (by omega) (by omega) (by omega) (by omega)).mono ?_; rintro e w' ⟨rfl,rfl⟩))
   go_round
   case rel=>exact .inr (.inr (.inr (.inr (.inl ⟨rfl,rfl⟩))))
   case measure=>simp [intOf]
  ·obtain ⟨b1,b2,b3,b4⟩:=B0.out 4 (by decide)
   unfold UM at *
   go_wp2_with (first
    | (go_at_call 164; refine (mul_any _ _ _ (by omega) (by omega) (by omega) (by omega)).mono ?_; rintro e w' ⟨rfl,rfl⟩)
    | (go_at_call 165; refine (div_any _ _ _ (by omega) (by omega) (by omega) (by omega)).mono ?_; rintro e w' ⟨rfl,rfl⟩))
   go_round
   case rel=>exact .inr (.inr (.inr (.inr (.inr (⟨rfl,rfl⟩)))))
   case measure=>simp [intOf]
  ·obtain ⟨b1,b2,b3,b4⟩:=B0.out 5 (by decide)
   go_wp2
   go_ret
   exact ⟨rfl,rfl⟩
set_option maxHeartbeats 400000
theorem quarter_any (a:Int) (w:World) (h0:0≤a) (h1:a≤32400000) :
 Calls Tryz.prog 85 #[.int .i64 a] w fun e w'=>e = .returned (.int .i64 (quarterI a))∧w = w':=by
 go_enter Tryz.func85,Tryz.ntmps85
 go_wp2_with (first
  | (go_at_call 123; refine (sine_any _ _ (by omega) (by omega)).mono ?_; rintro e w' ⟨rfl,rfl⟩)
  | (go_at_call 124; refine (cosine_any _ _ (by omega) (by omega)).mono ?_; rintro e w' ⟨rfl,rfl⟩))
 all_goals go_ret
 ·exact ⟨ret_int (by unfold quarterI; rw [if_pos (by assumption)]),rfl⟩
 ·exact ⟨ret_int (by unfold quarterI; rw [if_neg (by omega)]),rfl⟩
set_option maxHeartbeats 1000000
theorem sin_any (a:Int) (w:World) (h0:-9223372036854775808≤a) (h1:a≤9223372036854775807) :
 Calls Tryz.prog 47 #[.int .i64 a] w fun e w'=>e = .returned (.int .i64 (sinI a))∧w = w':=by
 obtain ⟨n0,n1⟩:=normI_range a
 have Q:=Lib.hid (fun b:Int=>quarterI_range (a:=b))
 unfold sinI
 generalize hb:normI a = b at *
 have HB:=Lib.hid hb
 clear hb
 by_cases c1:b≤32400000
 ·obtain ⟨q0,q1⟩:=Q.out b (by omega) (by omega)
  go_enter Tryz.func47,Tryz.ntmps47
  go_wp2_with (first
   | (go_at_call 84; refine (norm_any _ _ h0 h1).mono ?_; rintro e w' ⟨rfl,rfl⟩; rw [HB.out])
   | (go_at_call 85; refine (quarter_any _ _ (by omega) (by omega)).mono ?_; rintro e w' ⟨rfl,rfl⟩))
  go_ret
  exact ⟨ret_int (by unfold sinB; rw [if_pos c1]),rfl⟩
 by_cases c2:b≤64800000
 ·obtain ⟨q0,q1⟩:=Q.out (64800000 - b) (by omega) (by omega)
  go_enter Tryz.func47,Tryz.ntmps47
  go_wp2_with (first
   | (go_at_call 84; refine (norm_any _ _ h0 h1).mono ?_; rintro e w' ⟨rfl,rfl⟩; rw [HB.out])
   | (go_at_call 85; refine (quarter_any _ _ (by omega) (by omega)).mono ?_; rintro e w' ⟨rfl,rfl⟩))
  go_ret
  exact ⟨ret_int (by unfold sinB; rw [if_neg (by omega),if_pos c2]),rfl⟩
 by_cases c3:b≤97200000
 ·obtain ⟨q0,q1⟩:=Q.out (b - 64800000) (by omega) (by omega)
  go_enter Tryz.func47,Tryz.ntmps47
  go_wp2_with (first
   | (go_at_call 84; refine (norm_any _ _ h0 h1).mono ?_; rintro e w' ⟨rfl,rfl⟩; rw [HB.out])
   | (go_at_call 85; refine (quarter_any _ _ (by omega) (by omega)).mono ?_; rintro e w' ⟨rfl,rfl⟩))
  go_ret
  exact ⟨ret_int (by unfold sinB; rw [if_neg (by omega),if_neg (by omega),if_pos c3]),rfl⟩
 ·obtain ⟨q0,q1⟩:=Q.out (129600000 - b) (by omega) (by omega)
  go_enter Tryz.func47,Tryz.ntmps47
  go_wp2_with (first
   | (go_at_call 84; refine (norm_any _ _ h0 h1).mono ?_; rintro e w' ⟨rfl,rfl⟩; rw [HB.out])
   | (go_at_call 85; refine (quarter_any _ _ (by omega) (by omega)).mono ?_; rintro e w' ⟨rfl,rfl⟩))
  go_ret
  exact ⟨ret_int (by unfold sinB; rw [if_neg (by omega),if_neg (by omega),if_neg (by omega)]),rfl⟩
set_option maxHeartbeats 200000
theorem cos_any (a:Int) (w:World) (h0:-9223372036854775808≤a) (h1:a≤9223372036854775807) :
 Calls Tryz.prog 46 #[.int .i64 a] w fun e w'=>e = .returned (.int .i64 (cosI a))∧w = w':=by
 have r:=normI_range (normI a + normI 32400000)
 have R:=Lib.hid r
 have T:Hid (turnI a 32400000 = normI (normI a + normI 32400000)):=rfl
 clear r
 go_enter Tryz.func46,Tryz.ntmps46
 go_wp2_with (first
  | (go_at_call 83; refine (turn_any _ _ _ h0 h1 (by omega) (by omega)).mono ?_; rintro e w' ⟨rfl,rfl⟩)
  | (go_at_call 47; refine (sin_any _ _ (by have:=R.out; have:=T.out; omega) (by have:=R.out; have:=T.out; omega)).mono ?_; rintro e w' ⟨rfl,rfl⟩))
 go_ret
 exact ⟨rfl,rfl⟩
end Go.Proofs.YtajmjkliblippaaGreatDoor.S41
namespace Go.Proofs.YtajmjkliblippaaGreatDoor.S41
open Go.RowKit Tr Sq
theorem below_drewN {B:Nat} {a w:World} (h:Below B a w) (n:Nat):Below B a (w.drewN n):=⟨h.os,h.tape,h.output,h.size,h.block⟩
end Go.Proofs.YtajmjkliblippaaGreatDoor.S41
namespace Go.Proofs.YtajmjkliblippaaGreatDoor.S41
open Go.RowKit Tr Sq
theorem len64_any (x:Int) (w:World) (h0:0≤x) (h1:x≤18446744073709551615) :
 Calls Tryz.prog 118 #[.int .u64 x] w fun e w'=>e = .returned (.int .i64 (Lib.bitLen x.toNat))∧w = w':=
 (Tryz.bits_Len64 x w h0 h1).mono fun e w' ⟨he,hw⟩=>⟨he,hw.symm⟩
def RootRel (n:Int) (v:Value):Prop:=∃ x:Int,v = .int .i64 x∧1≤x∧x≤4294967296∧Hid (n < (x + 1) * (x + 1))
theorem root_start (n:Int) (b:Nat) (hb:b≤63) (hn:n.toNat < 2 ^ b) (h0:0≤n):RootRel n (.int .i64 (wrap64 (2 ^ ((b + 1) / 2)))):=by
 have k32:(b + 1) / 2≤32:=by omega
 have h1:(1:Int)≤2 ^ ((b + 1) / 2):=by have:=Int.pow_pos (m:=(b + 1) / 2) (show (0:Int) < 2 by decide); omega
 have h2:(2:Int) ^ ((b + 1) / 2)≤2 ^ 32:=by
  have:=Nat.pow_le_pow_right (n:=2) (by decide) k32
  have e:((2 ^ ((b + 1) / 2):Nat):Int)≤((2 ^ 32:Nat):Int):=by omega
  rw [Int.natCast_pow,Int.natCast_pow] at e
  exact e
 have h3:n < 2 ^ ((b + 1) / 2) * 2 ^ ((b + 1) / 2):=by
  rw [← Int.pow_add]
  have:=Nat.pow_le_pow_right (n:=2) (by decide) (show b≤(b + 1) / 2 + (b + 1) / 2 by omega)
  have e:((2 ^ ((b + 1) / 2 + (b + 1) / 2):Nat):Int) = (2:Int) ^ ((b + 1) / 2 + (b + 1) / 2):=by rw [Int.natCast_pow]; rfl
  omega
 generalize (2:Int) ^ ((b + 1) / 2) = x at *
 have h2':x≤4294967296:=by
  have:(2:Int) ^ 32 = 4294967296:=by decide
  omega
 refine ⟨x,by rw [IntWalk.wrap64_in x ⟨by omega,by omega⟩],h1,h2',?_⟩
 show n < (x + 1) * (x + 1)
 have:=sq_le (a:=x) (b:=x + 1) (by omega) (by omega)
 omega
set_option maxHeartbeats 1000000
theorem sqrt_pos (n:Int) (w:World) (h0:1≤n) (h1:n≤9223372036854775807) :
 Calls Tryz.prog 80 #[.int .i64 n] w fun e w'=>e = .returned (.int .i64 (isq n))∧w = w':=by
 have hb0:Lib.bitLen n.toNat≤63:=Lib.bitLen_le _ _ (by decide) (by omega)
 have hb1:n.toNat < 2 ^ Lib.bitLen n.toNat:=(Lib.bitLenAux_bounds 64 n.toNat (by omega) (by omega)).2.2
 generalize hb:Lib.bitLen n.toNat = b at hb0 hb1
 have HB:=Lib.hid hb
 have R0:=Lib.hid (root_start n b hb0 hb1 (by omega))
 clear hb hb1
 go_enter Tryz.func80,Tryz.ntmps80
 go_wp2_with (go_at_call 118; refine (len64_any _ _ (by omega) (by omega)).mono ?_; rintro e w' ⟨rfl,rfl⟩; rw [HB.out])
 go_loop [3] (RootRel n) (fun v=>(intOf v).toNat)
 case atStart=>exact R0.out
 case round =>
  obtain ⟨x,rfl,x1,x2,hx⟩:=hrel
  have q0:0≤n / x:=Int.ediv_nonneg (by omega) (by omega)
  have q1:n / x < x + 3:=by
   apply Int.ediv_lt_of_lt_mul (by omega)
   have:=hx.out
   have e:(x + 3) * x = (x + 1) * (x + 1) + x - 1:=by grind
   omega
  have hnw:=Lib.hid (newton (n:=n) (x:=x) (by omega) (by omega))
  have hend:=Lib.hid (newton_end (n:=n) (x:=x) (by omega))
  have hpos:1≤(x + n / x) / 2:=by
   have h:=hnw.out
   rcases Int.lt_or_le ((x + n / x) / 2) 1 with h' | h'
   ·exfalso
    have:(x + n / x) / 2 = 0:=by omega
    rw [this] at h; omega
   ·exact h'
  by_cases hgo:x≤(x + n / x) / 2
  ·go_wp2
   go_ret
   exact ⟨ret_int (isq_of ⟨by omega,hend.out hgo,hx.out⟩ (by omega)).symm,rfl⟩
  ·go_wp2
   go_round
   case rel=>exact ⟨(x + n / x) / 2,rfl,hpos,by omega,hnw.out⟩
   case measure=>simp [intOf]; omega
set_option maxHeartbeats 200000
theorem sqrt_any (n:Int) (w:World) (h0:-9223372036854775808≤n) (h1:n≤9223372036854775807) :
 Calls Tryz.prog 80 #[.int .i64 n] w fun e w'=>e = .returned (.int .i64 (isq n))∧w = w':=by
 rcases Int.lt_or_le 0 n with h | h
 ·exact sqrt_pos n w (by omega) h1
 ·go_enter Tryz.func80,Tryz.ntmps80
  go_wp2
  go_ret
  exact ⟨ret_int (isq_le0 h).symm,rfl⟩
end Go.Proofs.YtajmjkliblippaaGreatDoor.S41
namespace Go.Proofs.YtajmjkliblippaaGreatDoor.S41
open Go.RowKit Tr Sq
set_option maxHeartbeats 400000
theorem norm_ref (a:Int) (w:World) (_h0:-9223372036854775808≤a) (_h1:a≤9223372036854775807) :
 Calls Tryz.prog 107 #[.int .i64 a] w fun e w'=>e = .returned (.int .i64 (normI a))∧w = w':=by
 have hb:-129600000 < a.tmod 129600000∧a.tmod 129600000 < 129600000∧(a.tmod 129600000 = a % 129600000∨a.tmod 129600000 = a % 129600000 - 129600000):=by
  rcases Int.le_total 0 a with h | h
  ·rw [Int.tmod_eq_emod_of_nonneg h]; omega
  ·obtain ⟨n,rfl⟩:∃ n,a = -n:=⟨-a,by omega⟩
   rw [Int.neg_tmod,Int.tmod_eq_emod_of_nonneg (by omega)]; omega
 obtain ⟨b0,b1,b2⟩:=hb
 have B2:Hid _:=b2
 clear b2
 go_enter Tryz.func107,Tryz.ntmps107
 go_wp2
 all_goals go_ret
 all_goals exact ⟨ret_int (by have:=B2.out; unfold normI; omega),rfl⟩
set_option maxHeartbeats 200000
theorem turn_ref (a b:Int) (w:World) (_h0:-9223372036854775808≤a) (_h1:a≤9223372036854775807) (_h2:-9223372036854775808≤b) (_h3:b≤9223372036854775807) :
 Calls Tryz.prog 106 #[.int .i64 a,.int .i64 b] w fun e w'=>e = .returned (.int .i64 (turnI a b))∧w = w':=by
 have r1:=normI_range a
 have r2:=normI_range b
 obtain ⟨r1a,r1b⟩:=r1
 obtain ⟨r2a,r2b⟩:=r2
 go_enter Tryz.func106,Tryz.ntmps106
 go_wp2_with (go_at_call 107; refine (norm_ref _ _ (by omega) (by omega)).mono ?_; rintro e w' ⟨rfl,rfl⟩)
 go_ret
 exact ⟨rfl,rfl⟩
theorem mul_ref (x y:Int) (w:World) (hx:0≤x) (hy:0≤y) (hx':x≤2147483648) (hy':y≤2147483648) :
 Calls Tryz.prog 191 #[.int .i64 x,.int .i64 y] w fun e w'=>e = .returned (.int .i64 (mulI x y))∧w = w':=by
 obtain ⟨b0,b1⟩:=mulI_bd hx hy hx' hy'
 go_enter Tryz.func191,Tryz.ntmps191
 go_wp2
 go_ret
 exact ⟨rfl,rfl⟩
theorem div_ref (x n:Int) (w:World) (_hx:0≤x) (_hn:2≤n) (_hx':x≤2147483648) (_hn':n≤1000) :
 Calls Tryz.prog 190 #[.int .i64 x,.int .i64 n] w fun e w'=>e = .returned (.int .i64 ((x + n / 2) / n))∧w = w':=by
 go_enter Tryz.func190,Tryz.ntmps190
 go_wp2
 go_ret
 exact ⟨rfl,rfl⟩
theorem argument_ref (a:Int) (w:World) (h0:0≤a) (h1:a≤16200000) :
 Calls Tryz.prog 189 #[.int .i64 a] w fun e w'=>e = .returned (.tuple #[.int .i64 (argT a),.int .i64 (mulI (argT a) (argT a))])∧w = w':=by
 obtain ⟨t0,t1⟩:=argT_range h0 h1
 unfold argT TM at *
 go_enter Tryz.func189,Tryz.ntmps189
 go_wp2_with (go_at_call 191; refine (mul_ref _ _ _ (by omega) (by omega) (by omega) (by omega)).mono ?_; rintro e w' ⟨rfl,rfl⟩)
 go_ret2
 exact ⟨rfl,rfl⟩
set_option maxHeartbeats 2000000
theorem sine_ref (a:Int) (w:World) (h0:0≤a) (h1:a≤16200000) :
 Calls Tryz.prog 151 #[.int .i64 a] w fun e w'=>e = .returned (.int .i64 (sineI a))∧w = w':=by
 obtain ⟨t0,t1⟩:=argT_range h0 h1
 obtain ⟨u0,u1⟩:=mulI_self t0 t1
 obtain ⟨b1a,b1b,b1c,b1d⟩:=serS_bd _ u0 u1 1 (by decide)
 obtain ⟨b2a,b2b,b2c,b2d⟩:=serS_bd _ u0 u1 2 (by decide)
 obtain ⟨b3a,b3b,b3c,b3d⟩:=serS_bd _ u0 u1 3 (by decide)
 obtain ⟨b4a,b4b,b4c,b4d⟩:=serS_bd _ u0 u1 4 (by decide)
 obtain ⟨b5a,b5b,b5c,b5d⟩:=serS_bd _ u0 u1 5 (by decide)
 obtain ⟨m0,m1⟩:=mulTR_bd t0 t1 b5a b5b
 unfold UM TM at *
 simp only [serS,sinR,fst1,nst,Int.reduceDiv] at *
 go_enter Tryz.func151,Tryz.ntmps151
 go_wp2_with (first
  | (go_at_call 189; refine (argument_ref _ _ h0 h1).mono ?_; rintro e w' ⟨rfl,rfl⟩)
  | (go_at_call 191; refine (mul_ref _ _ _ (by omega) (by omega) (by omega) (by omega)).mono ?_; rintro e w' ⟨rfl,rfl⟩)
  | (go_at_call 190; refine (div_ref _ _ _ (by omega) (by omega) (by omega) (by omega)).mono ?_; rintro e w' ⟨rfl,rfl⟩))
 go_ret
 exact ⟨rfl,rfl⟩
theorem cosine_ref (a:Int) (w:World) (h0:0≤a) (h1:a≤16200000) :
 Calls Tryz.prog 152 #[.int .i64 a] w fun e w'=>e = .returned (.int .i64 (cosineI a))∧w = w':=by
 obtain ⟨t0,t1⟩:=argT_range h0 h1
 obtain ⟨u0,u1⟩:=mulI_self t0 t1
 obtain ⟨b1a,b1b,b1c,b1d⟩:=serC_bd _ u0 u1 1 (by decide)
 obtain ⟨b2a,b2b,b2c,b2d⟩:=serC_bd _ u0 u1 2 (by decide)
 obtain ⟨b3a,b3b,b3c,b3d⟩:=serC_bd _ u0 u1 3 (by decide)
 obtain ⟨b4a,b4b,b4c,b4d⟩:=serC_bd _ u0 u1 4 (by decide)
 obtain ⟨b5a,b5b,b5c,b5d⟩:=serC_bd _ u0 u1 5 (by decide)
 obtain ⟨m0,m1⟩:=mulTR_bd t0 t1 b5a b5b
 unfold UM TM at *
 simp only [serC,cosR,fst1,nst,Int.reduceDiv] at *
 go_enter Tryz.func152,Tryz.ntmps152
 go_wp2_with (first
  | (go_at_call 189; refine (argument_ref _ _ h0 h1).mono ?_; rintro e w' ⟨rfl,rfl⟩)
  | (go_at_call 191; refine (mul_ref _ _ _ (by omega) (by omega) (by omega) (by omega)).mono ?_; rintro e w' ⟨rfl,rfl⟩)
  | (go_at_call 190; refine (div_ref _ _ _ (by omega) (by omega) (by omega) (by omega)).mono ?_; rintro e w' ⟨rfl,rfl⟩))
 go_ret
 exact ⟨rfl,rfl⟩
set_option maxHeartbeats 400000
theorem quarter_ref (a:Int) (w:World) (h0:0≤a) (h1:a≤32400000) :
 Calls Tryz.prog 108 #[.int .i64 a] w fun e w'=>e = .returned (.int .i64 (quarterI a))∧w = w':=by
 go_enter Tryz.func108,Tryz.ntmps108
 go_wp2_with (first
  | (go_at_call 151; refine (sine_ref _ _ (by omega) (by omega)).mono ?_; rintro e w' ⟨rfl,rfl⟩)
  | (go_at_call 152; refine (cosine_ref _ _ (by omega) (by omega)).mono ?_; rintro e w' ⟨rfl,rfl⟩))
 all_goals go_ret
 ·exact ⟨ret_int (by unfold quarterI; rw [if_pos (by assumption)]),rfl⟩
 ·exact ⟨ret_int (by unfold quarterI; rw [if_neg (by omega)]),rfl⟩
set_option maxHeartbeats 1000000
theorem sin_ref (a:Int) (w:World) (h0:-9223372036854775808≤a) (h1:a≤9223372036854775807) :
 Calls Tryz.prog 71 #[.int .i64 a] w fun e w'=>e = .returned (.int .i64 (sinI a))∧w = w':=by
 obtain ⟨n0,n1⟩:=normI_range a
 have Q:=Lib.hid (fun b:Int=>quarterI_range (a:=b))
 unfold sinI
 generalize hb:normI a = b at *
 have HB:=Lib.hid hb
 clear hb
 by_cases c1:b≤32400000
 ·obtain ⟨q0,q1⟩:=Q.out b (by omega) (by omega)
  go_enter Tryz.func71,Tryz.ntmps71
  go_wp2_with (first
   | (go_at_call 107; refine (norm_ref _ _ h0 h1).mono ?_; rintro e w' ⟨rfl,rfl⟩; rw [HB.out])
   | (go_at_call 108; refine (quarter_ref _ _ (by omega) (by omega)).mono ?_; rintro e w' ⟨rfl,rfl⟩))
  go_ret
  exact ⟨ret_int (by unfold sinB; rw [if_pos c1]),rfl⟩
 by_cases c2:b≤64800000
 ·obtain ⟨q0,q1⟩:=Q.out (64800000 - b) (by omega) (by omega)
  go_enter Tryz.func71,Tryz.ntmps71
  go_wp2_with (first
   | (go_at_call 107; refine (norm_ref _ _ h0 h1).mono ?_; rintro e w' ⟨rfl,rfl⟩; rw [HB.out])
   | (go_at_call 108; refine (quarter_ref _ _ (by omega) (by omega)).mono ?_; rintro e w' ⟨rfl,rfl⟩))
  go_ret
  exact ⟨ret_int (by unfold sinB; rw [if_neg (by omega),if_pos c2]),rfl⟩
 by_cases c3:b≤97200000
 ·obtain ⟨q0,q1⟩:=Q.out (b - 64800000) (by omega) (by omega)
  go_enter Tryz.func71,Tryz.ntmps71
  go_wp2_with (first
   | (go_at_call 107; refine (norm_ref _ _ h0 h1).mono ?_; rintro e w' ⟨rfl,rfl⟩; rw [HB.out])
   | (go_at_call 108; refine (quarter_ref _ _ (by omega) (by omega)).mono ?_; rintro e w' ⟨rfl,rfl⟩))
  go_ret
  exact ⟨ret_int (by unfold sinB; rw [if_neg (by omega),if_neg (by omega),if_pos c3]),rfl⟩
 ·obtain ⟨q0,q1⟩:=Q.out (129600000 - b) (by omega) (by omega)
  go_enter Tryz.func71,Tryz.ntmps71
  go_wp2_with (first
   | (go_at_call 107; refine (norm_ref _ _ h0 h1).mono ?_; rintro e w' ⟨rfl,rfl⟩; rw [HB.out])
   | (go_at_call 108; refine (quarter_ref _ _ (by omega) (by omega)).mono ?_; rintro e w' ⟨rfl,rfl⟩))
  go_ret
  exact ⟨ret_int (by unfold sinB; rw [if_neg (by omega),if_neg (by omega),if_neg (by omega)]),rfl⟩
set_option maxHeartbeats 200000
theorem cos_ref (a:Int) (w:World) (h0:-9223372036854775808≤a) (h1:a≤9223372036854775807) :
 Calls Tryz.prog 70 #[.int .i64 a] w fun e w'=>e = .returned (.int .i64 (cosI a))∧w = w':=by
 have r:=normI_range (normI a + normI 32400000)
 have R:=Lib.hid r
 have T:Hid (turnI a 32400000 = normI (normI a + normI 32400000)):=rfl
 clear r
 go_enter Tryz.func70,Tryz.ntmps70
 go_wp2_with (first
  | (go_at_call 106; refine (turn_ref _ _ _ h0 h1 (by omega) (by omega)).mono ?_; rintro e w' ⟨rfl,rfl⟩)
  | (go_at_call 71; refine (sin_ref _ _ (by have:=R.out; have:=T.out; omega) (by have:=R.out; have:=T.out; omega)).mono ?_; rintro e w' ⟨rfl,rfl⟩))
 go_ret
 exact ⟨rfl,rfl⟩
end Go.Proofs.YtajmjkliblippaaGreatDoor.S41
namespace Go.Proofs.YtajmjkliblippaaGreatDoor.S41
open Go.RowKit Tr Sq
def BitRel (n:Int) (s3 s4:Value):Prop:=∃ (j:Nat) (r b:Int),s3 = .int .u64 r∧s4 = .int .u64 b∧0≤r∧0≤b∧r + 2 * b≤4294967296∧r≤4294967295∧Hid (b = 2 ^ j / 2)∧Hid (r * r≤n)∧Hid (n < (r + 2 ^ j) * (r + 2 ^ j))
theorem bit_step (j:Nat) (b:Int) (hb:b = 2 ^ j / 2) (h:0 < b):∃ i,j = i + 1∧b = 2 ^ i∧b / 2 = 2 ^ i / 2:=by
 cases j with
 | zero=>simp at hb; omega
 | succ i =>
  have e:(2:Int) ^ (i + 1) = 2 ^ i * 2:=Int.pow_succ ..
  rw [e] at hb
  have:b = 2 ^ i:=by omega
  exact ⟨i,rfl,this,by rw [this]⟩
theorem bit_end (j:Nat) (b:Int) (hb:b = 2 ^ j / 2) (h:¬ 0 < b):j = 0:=by
 cases j with
 | zero=>rfl
 | succ i =>
  have e:(2:Int) ^ (i + 1) = 2 ^ i * 2:=Int.pow_succ ..
  have p:(0:Int) < 2 ^ i:=Int.pow_pos (by decide)
  rw [e] at hb
  omega
set_option maxHeartbeats 1000000
theorem sqrt_ref (n:Int) (w:World) (h0:-9223372036854775808≤n) (h1:n≤9223372036854775807) :
 Calls Tryz.prog 103 #[.int .i64 n] w fun e w'=>e = .returned (.int .i64 (isq n))∧w = w':=by
 by_cases hn:n < 0
 ·go_enter Tryz.func103,Tryz.ntmps103
  go_wp2
  go_ret
  exact ⟨ret_int (isq_le0 (by omega)).symm,rfl⟩
 ·have hst:Hid (n < (0 + 2 ^ 32) * (0 + 2 ^ 32)):=by
   show n < (0 + 2 ^ 32) * (0 + 2 ^ 32)
   have:((0:Int) + 2 ^ 32) * (0 + 2 ^ 32) = 18446744073709551616:=by decide
   omega
  go_enter Tryz.func103,Tryz.ntmps103
  go_wp2
  go_loop [3,4] (BitRel n) (fun _ b=>(intOf b).toNat)
  case atStart=>exact ⟨32,0,2147483648,rfl,rfl,by decide,by decide,by decide,by decide,(by decide:(2147483648:Int) = 2 ^ 32 / 2),(by omega:(0:Int) * 0≤n),hst⟩
  case round =>
   obtain ⟨j,r,b,rfl,rfl,r0,b0,hrb,r1,hb,hlo,hhi⟩:=hrel
   by_cases hgo:0 < b
   ·obtain ⟨i,rfl,hbi,hb2⟩:=bit_step j b hb.out hgo
    have p0:0≤(r + b) * (r + b):=sq_nonneg _
    have p1:(r + b) * (r + b)≤18446744065119617025:=by
     have:=sq_le (a:=r + b) (b:=4294967295) (by omega) (by omega)
     omega
    have HBI:=Lib.hid hbi
    have HB2:=Lib.hid hb2
    clear hbi hb2 hb
    by_cases hok:(r + b) * (r + b)≤n
    ·go_wp2
     go_round
     case rel =>
      refine ⟨i,r + b,b / 2,rfl,rfl,by omega,by omega,by omega,by omega,HB2,hok,?_⟩
      show n < (r + b + 2 ^ i) * (r + b + 2 ^ i)
      have:=hhi.out
      rw [Int.pow_succ] at this
      rw [← HBI.out] at this ⊢
      rwa [show r + b + b = r + b * 2 by omega]
     case measure=>simp [intOf]; omega
    ·go_wp2
     go_round
     case rel =>
      refine ⟨i,r,b / 2,rfl,rfl,by omega,by omega,by omega,by omega,HB2,hlo,?_⟩
      show n < (r + 2 ^ i) * (r + 2 ^ i)
      rw [← HBI.out]
      omega
     case measure=>simp [intOf]; omega
   ·obtain rfl:=bit_end j b hb.out hgo
    have hz:=hhi.out
    have hres:=Lib.hid (isq_of (n:=n) (r:=r) ⟨r0,hlo.out,by simpa using hz⟩ (by omega))
    clear hz
    go_wp2
    go_ret
    exact ⟨ret_int hres.out.symm,rfl⟩
end Go.Proofs.YtajmjkliblippaaGreatDoor.S41
