/-
  Walks and laws of the layers below, gathered from several texts.
-/
import Derived.Test.YtajmjkliblippaaGreatDoorShelfQ
import Derived.WalkKit
import Derived.WalkSpells
import Derived.IntWalk
import Derived.Lib.Hide
import Derived.BigQuiet
import Derived.Deep.QuietTactic
import Derived.LoopTactic
import Derived.Deep.Cut
import Derived.Test.YtajmjkliblippaaGreatDoorQ3
import Derived.Test.YtajmjkliblippaaGreatDoorQ14
set_option linter.unusedVariables false
namespace Go.Proofs.YtajmjkliblippaaGreatDoor
open Go.RowKit
theorem bset2 {B n:Nat} {w w1:World} (h:Below B w w1) (hB:B≤n) (u v:Value):Below B w ((w1.setCell ⟨n,0,none⟩ u).setCell ⟨n,1,none⟩ v):=
 (h.setCell (p:=⟨n,0,none⟩) hB u).setCell (p:=⟨n,1,none⟩) hB v
theorem ret_iw {k:IntKind} {a b:Int} (h:a = b):Ending.returned (.int k a) = .returned (.int k b):=by rw [h]
def wv (x:Int):Value:=.agg #[.int .i64 (hiW x),.int .u64 (loW x)]
theorem add64 (x y c:Int) (hx:0≤x) (hy:0≤y) (hc0:0≤c) (hc:c≤1) (w:World):(callFunc 223 #[.int .u64 x,.int .u64 y,.int .u64 c]).run Tryz.prog w =
 .ok (.value (.tuple #[.int .u64 ((x + y + c) % 18446744073709551616),.int .u64 ((x + y + c) / 18446744073709551616)])) w:=by
 obtain ⟨x,rfl⟩:=Int.eq_ofNat_of_zero_le hx
 obtain ⟨y,rfl⟩:=Int.eq_ofNat_of_zero_le hy
 obtain ⟨c,rfl⟩:=Int.eq_ofNat_of_zero_le hc0
 refine (Tryz.bits_Add64 x y c (by omega) w).trans ?_
 congr 5 <;> omega
def bor (x y b:Int):Int:=if x < y + b then 1 else 0
theorem bor_rng (x y b:Int):0≤bor x y b∧bor x y b≤1:=by unfold bor; split <;> omega
theorem sub64 (x y b:Int) (hx:0≤x) (hy:0≤y) (hy':y < 18446744073709551616) (hb0:0≤b) (hb:b≤1) (w:World):(callFunc 221 #[.int .u64 x,.int .u64 y,.int .u64 b]).run Tryz.prog w =
 .ok (.value (.tuple #[.int .u64 ((x - y - b) % 18446744073709551616),.int .u64 (bor x y b)])) w:=by
 unfold bor
 obtain ⟨x,rfl⟩:=Int.eq_ofNat_of_zero_le hx
 obtain ⟨y,rfl⟩:=Int.eq_ofNat_of_zero_le hy
 obtain ⟨b,rfl⟩:=Int.eq_ofNat_of_zero_le hb0
 have e1:(((x + 18446744073709551616 - y - b) % 18446744073709551616:Nat):Int) = ((x:Int) - y - b) % 18446744073709551616:=by omega
 have e2:((if x < y + b then 1 else 0:Nat):Int) = if (x:Int) < y + b then 1 else 0:=by split <;> split <;> omega
 rw [← e1,← e2]
 exact Tryz.bits_Sub64 x y b (by omega) w
theorem wabs_any (a:Int) (w:World) (h0:-9223372036854775808≤a) (h1:a≤9223372036854775807) :
 Calls Tryz.prog 185 #[.int .i64 a] w fun e w'=>e = .returned (.int .u64 (absW a))∧w = w':=by
 by_cases h:a < 0
 ·have g:decide (a < 0) = true:=by simpa using h
  go_enter Tryz.func185,Tryz.ntmps185
  go_wp2
  go_ret
  refine ⟨ret_iw ?_,rfl⟩
  unfold absW
  rw [if_pos (by omega)]
  simp only [IntKind.wrap_u64]
  omega
 ·have g:decide (a < 0) = false:=by simpa using h
  go_enter Tryz.func185,Tryz.ntmps185
  go_wp2
  go_ret
  refine ⟨ret_iw ?_,rfl⟩
  unfold absW
  rw [if_neg (by omega)]
theorem mul64_int (x y:Int) (hx0:0≤x) (hx:x < 18446744073709551616) (hy0:0≤y) (hy:y < 18446744073709551616) (w:World) :
 Calls Tryz.prog 120 #[.int .u64 x,.int .u64 y] w fun e w'=>e = .returned (.tuple #[.int .u64 (hiW (x * y)),.int .u64 (loW (x * y))])∧w = w':=by
 obtain ⟨x,rfl⟩:=Int.eq_ofNat_of_zero_le hx0
 obtain ⟨y,rfl⟩:=Int.eq_ofNat_of_zero_le hy0
 refine (Tryz.bits_Mul64 x y (by omega) (by omega) w).mono fun e w' ⟨he,hw⟩=>⟨?_,hw.symm⟩
 rw [he]
 unfold hiW loW
 rw [← Int.natCast_mul]
 rfl
def sgn (neg:Bool) (n:Int):Int:=if neg = true then -n else n
set_option maxHeartbeats 4000000
theorem join_any (n:Int) (neg:Bool) (w:World) (h0:0≤n) (h1:n < 170141183460469231731687303715884105728) :
 Calls Tryz.prog 186 #[.agg #[.int .u64 (hiW n),.int .u64 (loW n)],.bool neg] w fun e w'=>e = .returned (.tuple #[wv (sgn neg n),.bool true])∧Below w.heap.size w w':=by
 have a0:0≤hiW n:=by unfold hiW; omega
 have a1:hiW n < 9223372036854775808:=by unfold hiW; omega
 obtain ⟨b0,b1⟩:=lo_rng n
 cases neg
 ·have g:decide ((9223372036854775808:Int)≤hiW n) = false:=by simp; omega
  have e1:IntKind.i64.wrap (hiW n) = hiW n:=IntWalk.i64_in _ (by omega)
  go_enter Tryz.func186,Tryz.ntmps186
  go_wp2
  refine bodyPost_ret (v:=.tuple #[.agg #[.int .i64 (hiW n),.int .u64 (loW n)],.bool true]) (by simp [results,Tryz.results186,go_sem]) rfl ⟨rfl,?_⟩
  exact ((Below.refl _ _).alloc (Nat.le_refl _) _).alloc (by simp) _
 ·have g1:decide ((9223372036854775808:Int) < hiW n) = false:=by simp; omega
  have g2:(hiW n == 9223372036854775808) = false:=by simp; omega
  have S1:=fun w=>sub64 0 (loW n) 0 (by omega) b0 b1 (by omega) (by omega) w
  have S2:=fun w=>sub64 0 (hiW n) (bor 0 (loW n) 0) (by omega) a0 (by omega) (bor_rng _ _ _).1 (bor_rng _ _ _).2 w
  have E1:(0 - loW n - 0) % 18446744073709551616 = loW (-n):=by unfold loW; omega
  have E2:IntKind.i64.wrap ((0 - hiW n - bor 0 (loW n) 0) % 18446744073709551616) = hiW (-n):=by
   unfold bor hiW loW
   simp only [IntKind.wrap,IntKind.bits,IntKind.signed]
   split <;> simp <;> omega
  rw [E1] at S1
  generalize bor 0 (loW n) 0 = bo at *
  generalize (0 - hiW n - bo) % 18446744073709551616 = hh at *
  go_enter Tryz.func186,Tryz.ntmps186
  go_wp2_with (first | simp only [S1] | simp only [S2])
  refine bodyPost_ret (v:=.tuple #[.agg #[.int .i64 (hiW (-n)),.int .u64 (loW (-n))],.bool true]) (by simp [results,Tryz.results186,go_sem]) rfl ⟨rfl,?_⟩
  exact ((Below.refl _ _).alloc (Nat.le_refl _) _).alloc (by simp) _
set_option maxRecDepth 100000
theorem wmul_any (a b:Int) (w:World) (ha0:-9223372036854775808≤a) (ha1:a≤9223372036854775807) (hb0:-9223372036854775808≤b) (hb1:b≤9223372036854775807) :
 Calls Tryz.prog 145 #[.int .i64 a,.int .i64 b] w fun e w'=>e = .returned (wv (a * b))∧Below w.heap.size w w':=by
 have A1:absW a≤9223372036854775808:=by unfold absW; split <;> omega
 have B1:absW b≤9223372036854775808:=by unfold absW; split <;> omega
 obtain ⟨m0,m1⟩:=mul_u (absW_nonneg a) A1 (absW_nonneg b) B1
 have M:=Lib.hid fun w=>mul64_int (absW a) (absW b) (absW_nonneg a) (by omega) (absW_nonneg b) (by omega) w
 have AA:=Lib.hid fun w=>wabs_any a w ha0 ha1
 have AB:=Lib.hid fun w=>wabs_any b w hb0 hb1
 have E:=Lib.hid (absW_mul a b)
 have J:=Lib.hid fun w=>join_any (absW a * absW b) (decide (a < 0) != decide (b < 0)) w m0 (by omega)
 generalize absW a * absW b = p at *
 have K0:=Lib.hid (Blk.new #[.int .i64 0,.int .u64 0] w 112)
 have HB0:=Lib.hid ((Below.refl w.heap.size w).alloc (Nat.le_refl _) (.cells #[.int .i64 0,.int .u64 0] 112))
 obtain ⟨sg,gs⟩:∃ sg,(decide (a < 0) == decide (b < 0)) = sg:=⟨_,rfl⟩
 have E2:a * b = sgn (!sg) p:=by rw [E.out,← gs]; rfl
 have J2:Hid (∀ w,Calls Tryz.prog 186 #[.agg #[.int .u64 (hiW p),.int .u64 (loW p)],.bool (!sg)] w fun e w'=>e = .returned (.tuple #[wv (sgn (!sg) p),.bool true])∧Below w.heap.size w w'):=by rw [← gs]; exact J
 rw [E2]
 clear E E2 J
 obtain ⟨r,hr⟩:∃ r,sgn (!sg) p = r:=⟨_,rfl⟩
 rw [hr] at J2 ⊢
 go_enter Tryz.func145,Tryz.ntmps145
 go_wp2_with fail
 generalize w.alloc _ = w0 at *
 refine (AA.out _).mono ?_
 rintro e w1 ⟨rfl,rfl⟩
 go_wp2_with fail
 refine (AB.out _).mono ?_
 rintro e w1 ⟨rfl,rfl⟩
 go_wp2_with fail
 refine (M.out _).mono ?_
 rintro e w1 ⟨rfl,rfl⟩
 go_wp2_with fail
 refine (J2.out _).mono ?_
 rintro e w1 ⟨rfl,hb1⟩
 have K1:=K0.out.below hb1
 have HB1:=Lib.hid (HB0.out.trans (hb1.mono HB0.out.size))
 unfold wv
 have c0:=K1.c 0 _ rfl
 have c1:=K1.c 1 _ rfl
 have f0:=K1.f 0 _ rfl
 have f1:=K1.f 1 _ rfl
 have z0:=K1.lt
 have HK1:=Lib.hid K1
 clear hb1 K1 gs hr
 go_wp2
 have K2:=(blk_set (blk_set HK1.out (j:=0) (by simp) (.int .i64 (hiW r))) (j:=1) (by simp) (.int .u64 (loW r))).alloc (.cells #[.int .i64 (hiW r),.int .u64 (loW r)] 112)
 have d0:=K2.c 0 _ rfl
 have d1:=K2.c 1 _ rfl
 refine bodyPost_ret (v:=.agg #[.int .i64 (hiW r),.int .u64 (loW r)]) (by simp [results,Tryz.results145,go_sem,d0,d1]) rfl ⟨rfl,?_⟩
 exact (bset2 HB1.out (Nat.le_refl _) _ _).alloc (by have:=HB1.out.size; simp [World.setCell]; omega) _
set_option maxHeartbeats 200000
set_option maxRecDepth 512
theorem add_hi {x y:Int} (h:FitW (x + y)) :
 IntKind.i64.wrap ((IntKind.u64.wrap (hiW x) + IntKind.u64.wrap (hiW y) + (loW x + loW y + 0) / 18446744073709551616) % 18446744073709551616) = hiW (x + y):=by
 obtain ⟨a,b⟩:=h
 unfold hiW loW
 simp only [IntKind.wrap,IntKind.bits,IntKind.signed]
 simp
 omega
theorem add_lo (x y:Int):(loW x + loW y + 0) % 18446744073709551616 = loW (x + y):=by unfold loW; omega
set_option maxHeartbeats 4000000
set_option maxRecDepth 100000
theorem wadd_any (x y:Int) (w:World) (hx:FitW x) (hy:FitW y) (hs:FitW (x + y)) :
 Calls Tryz.prog 184 #[wv x,wv y] w fun e w'=>e = .returned (.tuple #[wv (x + y),.bool true])∧Below w.heap.size w w':=by
 obtain ⟨p0,p1⟩:=lo_rng x
 obtain ⟨q0,q1⟩:=lo_rng y
 have S1:=fun w=>add64 (loW x) (loW y) 0 p0 q0 (by omega) (by omega) w
 have S2:=fun w=>add64 (IntKind.u64.wrap (hiW x)) (IntKind.u64.wrap (hiW y)) ((loW x + loW y + 0) / 18446744073709551616) (by rw [IntKind.wrap_u64]; omega) (by rw [IntKind.wrap_u64]; omega) (by omega) (by omega) w
 have E1:=add_hi hs
 rw [add_lo x y] at S1
 have C1:(decide (hiW x < 0) == decide (hiW y < 0)) = false∨((decide (hiW x < 0) == decide (hiW y < 0)) = true∧(decide (hiW (x + y) < 0) == decide (hiW x < 0)) = true):=by
  obtain ⟨a,b⟩:=hs
  by_cases h1:x < 0 <;> by_cases h2:y < 0 <;> simp [hi_neg,h1,h2] <;> omega
 generalize (loW x + loW y + 0) / 18446744073709551616 = c at *
 generalize (IntKind.u64.wrap (hiW x) + IntKind.u64.wrap (hiW y) + c) % 18446744073709551616 = hh at *
 have HS:=Lib.hid hs
 clear hx hy hs
 unfold wv
 rcases C1 with g | ⟨g,g'⟩
 all_goals
  go_enter Tryz.func184,Tryz.ntmps184
  go_wp2_with (first | simp only [S1] | simp only [S2])
  refine bodyPost_ret (v:=.tuple #[.agg #[.int .i64 (hiW (x + y)),.int .u64 (loW (x + y))],.bool true]) (by simp [results,Tryz.results184,go_sem]) rfl ⟨rfl,?_⟩
  exact (((Below.refl _ _).alloc (Nat.le_refl _) _).alloc (by simp) _).alloc (by simp; try omega) _
set_option maxRecDepth 512
theorem wint_any (x:Int) (w:World) (h0:-9223372036854775808≤x) (h1:x < 9223372036854775808) :
 Calls Tryz.prog 183 #[wv x] w fun e w'=>e = .returned (.tuple #[.int .i64 x,.bool true])∧Below w.heap.size w w':=by
 have E1:IntKind.i64.wrap (loW x) = x:=by unfold loW; simp [IntKind.wrap,IntKind.bits,IntKind.signed]; omega
 have g:(hiW x == x / 9223372036854775808) = true:=by unfold hiW; simp; omega
 unfold wv
 go_enter Tryz.func183,Tryz.ntmps183
 go_wp2
 go_ret2
 exact ⟨rfl,(Below.refl _ _).alloc (Nat.le_refl _) _⟩
set_option maxHeartbeats 200000
theorem wint_out (x:Int) (w:World) (hx:FitW x) (h:x < -9223372036854775808∨9223372036854775808≤x) :
 Calls Tryz.prog 183 #[wv x] w fun e w'=>e = .returned (.tuple #[.int .i64 0,.bool false])∧Below w.heap.size w w':=by
 obtain ⟨t,ht⟩:∃ t,IntKind.i64.wrap (loW x) = t:=⟨_,rfl⟩
 have g:(hiW x == t / 9223372036854775808) = false:=by
  obtain ⟨a,b⟩:=hx
  rw [← ht]
  unfold hiW loW; simp [IntKind.wrap,IntKind.bits,IntKind.signed]; omega
 unfold wv
 go_enter Tryz.func183,Tryz.ntmps183
 go_wp2
 go_ret2
 exact ⟨rfl,(Below.refl _ _).alloc (Nat.le_refl _) _⟩
end Go.Proofs.YtajmjkliblippaaGreatDoor
namespace Go.Proofs.YtajmjkliblippaaGreatDoor
open Go.RowKit
set_option maxHeartbeats 4000000
theorem wof_any (a:Int) (w:World) (h0:-9223372036854775808≤a) (h1:a≤9223372036854775807) :
 Calls Tryz.prog 182 #[.int .i64 a] w fun e w'=>e = .returned (wv a)∧Below w.heap.size w w':=by
 have E1:a / 9223372036854775808 = hiW a:=by unfold hiW; omega
 have E2:IntKind.u64.wrap a = loW a:=by rw [IntKind.wrap_u64]; rfl
 go_enter Tryz.func182,Tryz.ntmps182
 go_wp2
 refine bodyPost_ret (v:=.agg #[.int .i64 (hiW a),.int .u64 (loW a)]) (by simp [results,Tryz.results182,go_sem]) rfl ⟨rfl,?_⟩
 exact (Below.refl _ _).alloc (Nat.le_refl _) _
set_option maxHeartbeats 200000
theorem sub_hi {x y:Int} (h:FitW (x - y)) :
 IntKind.i64.wrap ((IntKind.u64.wrap (hiW x) - IntKind.u64.wrap (hiW y) - bor (loW x) (loW y) 0) % 18446744073709551616) = hiW (x - y):=by
 obtain ⟨a,b⟩:=h
 rw [IntKind.wrap_u64,IntKind.wrap_u64]
 have e:∀ z:Int,IntKind.i64.wrap (z % 18446744073709551616) = if 9223372036854775808≤z % 18446744073709551616 then z % 18446744073709551616 - 18446744073709551616 else z % 18446744073709551616:=by
  intro z
  simp [IntKind.wrap,IntKind.bits,IntKind.signed]
 rw [e]
 unfold bor hiW loW
 by_cases c:x % 18446744073709551616 < y % 18446744073709551616 + 0
 ·rw [if_pos c]
  split <;> omega
 ·rw [if_neg c]
  split <;> omega
theorem sub_lo (x y:Int):(loW x - loW y - 0) % 18446744073709551616 = loW (x - y):=by unfold loW; omega
set_option maxHeartbeats 4000000
set_option maxRecDepth 100000
theorem wsub_any (x y:Int) (w:World) (hx:FitW x) (hy:FitW y) (hs:FitW (x - y)) :
 Calls Tryz.prog 180 #[wv x,wv y] w fun e w'=>e = .returned (.tuple #[wv (x - y),.bool true])∧Below w.heap.size w w':=by
 obtain ⟨p0,p1⟩:=lo_rng x
 obtain ⟨q0,q1⟩:=lo_rng y
 have S1:=fun w=>sub64 (loW x) (loW y) 0 p0 q0 q1 (by omega) (by omega) w
 have S2:=fun w=>sub64 (IntKind.u64.wrap (hiW x)) (IntKind.u64.wrap (hiW y)) (bor (loW x) (loW y) 0) (by rw [IntKind.wrap_u64]; omega) (by rw [IntKind.wrap_u64]; omega) (by rw [IntKind.wrap_u64]; omega) (bor_rng _ _ _).1 (bor_rng _ _ _).2 w
 have E1:=sub_hi hs
 rw [sub_lo x y] at S1
 have C1:(decide (hiW x < 0) == decide (hiW y < 0)) = true∨((decide (hiW x < 0) == decide (hiW y < 0)) = false∧(decide (hiW (x - y) < 0) == decide (hiW x < 0)) = true):=by
  obtain ⟨a,b⟩:=hs
  by_cases h1:x < 0 <;> by_cases h2:y < 0 <;> simp [hi_neg,h1,h2] <;> omega
 generalize bor (loW x) (loW y) 0 = c at *
 generalize (IntKind.u64.wrap (hiW x) - IntKind.u64.wrap (hiW y) - c) % 18446744073709551616 = hh at *
 clear hx hy hs
 unfold wv
 rcases C1 with g | ⟨g,g'⟩
 all_goals
  go_enter Tryz.func180,Tryz.ntmps180
  go_wp2_with (first | simp only [S1] | simp only [S2])
  refine bodyPost_ret (v:=.tuple #[.agg #[.int .i64 (hiW (x - y)),.int .u64 (loW (x - y))],.bool true]) (by simp [results,Tryz.results180,go_sem]) rfl ⟨rfl,?_⟩
  exact (((Below.refl _ _).alloc (Nat.le_refl _) _).alloc (by simp) _).alloc (by simp; try omega) _
end Go.Proofs.YtajmjkliblippaaGreatDoor
namespace Go.Proofs.YtajmjkliblippaaGreatDoor
open Go.RowKit
def usz (n:Int):Value:=.agg #[.int .u64 (hiW n),.int .u64 (loW n)]
theorem retb {a b:Bool} (h:a = b):Ending.returned (.bool a) = .returned (.bool b):=by rw [h]
set_option maxHeartbeats 4000000
theorem wsplit_any (x:Int) (w:World) (h:FitW x) :
 Calls Tryz.prog 240 #[wv x] w fun e w'=>e = .returned (.tuple #[usz (absW x),.bool (decide (x < 0))])∧Below w.heap.size w w':=by
 obtain ⟨b0,b1⟩:=lo_rng x
 obtain ⟨a0,a1⟩:=hi_rng h
 unfold wv usz
 by_cases q:x < 0
 ·have g:decide (0≤hiW x) = false:=by have:=(hi_neg x).2 q; simp; omega
  have g':decide (hiW x < 0) = true:=by have:=(hi_neg x).2 q; simp; omega
  have EX:decide (x < 0) = true:=by simpa using q
  have S1:=fun w=>sub64 0 (loW x) 0 (by omega) b0 b1 (by omega) (by omega) w
  have S2:=fun w=>sub64 0 (IntKind.u64.wrap (hiW x)) (bor 0 (loW x) 0) (by omega) (by rw [IntKind.wrap_u64]; omega) (by rw [IntKind.wrap_u64]; omega) (bor_rng _ _ _).1 (bor_rng _ _ _).2 w
  have E1:(0 - loW x - 0) % 18446744073709551616 = loW (absW x):=by unfold absW loW; split <;> omega
  have E2:(0 - IntKind.u64.wrap (hiW x) - bor 0 (loW x) 0) % 18446744073709551616 = hiW (absW x):=by
   obtain ⟨f0,f1⟩:=h
   rw [IntKind.wrap_u64]
   unfold bor hiW loW absW
   split <;> (try split) <;> omega
  rw [E1] at S1
  rw [E2] at S2
  rw [EX]
  generalize bor 0 (loW x) 0 = bo at *
  clear E1 E2 EX h q
  generalize absW x = r at *
  go_enter Tryz.func240,Tryz.ntmps240
  go_wp2_with (first | simp only [S1] | simp only [S2])
  refine bodyPost_ret (v:=.tuple #[.agg #[.int .u64 (hiW r),.int .u64 (loW r)],.bool true]) (by simp [results,Tryz.results240,go_sem]) rfl ⟨rfl,?_⟩
  exact ((Below.refl _ _).alloc (Nat.le_refl _) _).alloc (by simp) _
 ·have g:decide (0≤hiW x) = true:=by have:=hi_neg x; simp; omega
  have g':decide (hiW x < 0) = false:=by have:=hi_neg x; simp; omega
  have EX:decide (x < 0) = false:=by simpa using q
  have EA:absW x = x:=by unfold absW; rw [if_neg q]
  have E1:IntKind.u64.wrap (hiW x) = hiW x:=by have:=hi_neg x; rw [IntKind.wrap_u64]; omega
  rw [EX,EA]
  clear EX EA h q
  go_enter Tryz.func240,Tryz.ntmps240
  go_wp2
  refine bodyPost_ret (v:=.tuple #[.agg #[.int .u64 (hiW x),.int .u64 (loW x)],.bool false]) (by simp [results,Tryz.results240,go_sem]) rfl ⟨rfl,?_⟩
  exact ((Below.refl _ _).alloc (Nat.le_refl _) _).alloc (by simp) _
theorem wzero_any (n:Int) (w:World) :
 Calls Tryz.prog 241 #[usz n] w fun e w'=>e = .returned (.bool (decide (n = 0)))∧Below w.heap.size w w':=by
 unfold usz
 by_cases h:hiW n = 0
 ·have g:(hiW n == 0) = true:=by simpa using h
  by_cases k:loW n = 0
  ·have g':(loW n == 0) = true:=by simpa using k
   have E:=Lib.hid (show decide (n = 0) = true by unfold hiW loW at *; simp; omega)
   clear h k
   go_enter Tryz.func241,Tryz.ntmps241
   go_wp2
   go_ret
   exact ⟨retb E.out.symm,(Below.refl _ _).alloc (Nat.le_refl _) _⟩
  ·have g':(loW n == 0) = false:=by simpa using k
   have E:=Lib.hid (show decide (n = 0) = false by unfold hiW loW at *; simp; omega)
   clear h k
   go_enter Tryz.func241,Tryz.ntmps241
   go_wp2
   go_ret
   exact ⟨retb E.out.symm,(Below.refl _ _).alloc (Nat.le_refl _) _⟩
 ·have g:(hiW n == 0) = false:=by simpa using h
  have E:=Lib.hid (show decide (n = 0) = false by unfold hiW at *; simp; omega)
  clear h
  go_enter Tryz.func241,Tryz.ntmps241
  go_wp2
  go_ret
  exact ⟨retb E.out.symm,(Below.refl _ _).alloc (Nat.le_refl _) _⟩
set_option maxHeartbeats 200000
theorem isnan_u (x:Int) (w:World):Calls Tryz.prog 253 #[.int .u64 x] w fun e w'=>e = .returned (.bool false)∧w = w':=by
 have g:(x == x) = true:=by simp
 go_enter Tryz.func253,Tryz.ntmps253
 go_wp2
 go_ret
 exact ⟨rfl,rfl⟩
set_option maxHeartbeats 4000000
theorem compare_u (x y:Int) (w:World):Calls Tryz.prog 251 #[.int .u64 x,.int .u64 y] w fun e w'=>e = .returned (.int .i64 (cmpI x y))∧w = w':=by
 rcases Int.lt_trichotomy x y with h | h | h
 ·have g:decide (x < y) = true:=by simpa using h
  have E:=Lib.hid (show cmpI x y = -1 by unfold cmpI; rw [if_pos h])
  clear h
  go_enter Tryz.func251,Tryz.ntmps251
  go_wp2_with (go_at_call 253; refine (isnan_u _ _).mono ?_; rintro e w2 ⟨rfl,rfl⟩)
  go_ret
  exact ⟨ret_iw E.out.symm,rfl⟩
 ·subst h
  have g:decide (x < x) = false:=by simp
  have E:=Lib.hid (show cmpI x x = 0 by unfold cmpI; rw [if_neg (by omega),if_neg (by omega)])
  go_enter Tryz.func251,Tryz.ntmps251
  go_wp2_with (go_at_call 253; refine (isnan_u _ _).mono ?_; rintro e w2 ⟨rfl,rfl⟩)
  go_ret
  exact ⟨ret_iw E.out.symm,rfl⟩
 ·have g:decide (x < y) = false:=by simp; omega
  have g':decide (y < x) = true:=by simpa using h
  have E:=Lib.hid (show cmpI x y = 1 by unfold cmpI; rw [if_neg (by omega),if_pos (by omega)])
  clear h
  go_enter Tryz.func251,Tryz.ntmps251
  go_wp2_with (go_at_call 253; refine (isnan_u _ _).mono ?_; rintro e w2 ⟨rfl,rfl⟩)
  go_ret
  exact ⟨ret_iw E.out.symm,rfl⟩
theorem wcmp_any (x y:Int) (w:World) :
 Calls Tryz.prog 243 #[usz x,usz y] w fun e w'=>e = .returned (.int .i64 (cmpI x y))∧Below w.heap.size w w':=by
 unfold usz
 by_cases h:hiW x = hiW y
 ·have g:(hiW x == hiW y) = true:=by simpa using h
  have g':(hiW x != hiW y) = false:=by simpa using h
  have E:=Lib.hid (show cmpI x y = cmpI (loW x) (loW y) by rw [cmp_words,if_pos h])
  have C:=Lib.hid fun w=>compare_u (loW x) (loW y) w
  generalize cmpI (loW x) (loW y) = c at *
  generalize hiW x = a at *
  generalize hiW y = b at *
  clear h
  go_enter Tryz.func243,Tryz.ntmps243
  go_wp2_with (go_at_call 251; refine (C.out _).mono ?_; rintro e w2 ⟨rfl,rfl⟩)
  go_ret
  exact ⟨ret_iw E.out.symm,((Below.refl _ _).alloc (Nat.le_refl _) _).alloc (by simp) _⟩
 ·have g:(hiW x == hiW y) = false:=by simpa using h
  have g':(hiW x != hiW y) = true:=by simpa using h
  have E:=Lib.hid (show cmpI x y = cmpI (hiW x) (hiW y) by rw [cmp_words,if_neg h])
  have C:=Lib.hid fun w=>compare_u (hiW x) (hiW y) w
  generalize cmpI (hiW x) (hiW y) = c at *
  generalize hiW x = a at *
  generalize hiW y = b at *
  clear h
  go_enter Tryz.func243,Tryz.ntmps243
  go_wp2_with (go_at_call 251; refine (C.out _).mono ?_; rintro e w2 ⟨rfl,rfl⟩)
  go_ret
  exact ⟨ret_iw E.out.symm,((Below.refl _ _).alloc (Nat.le_refl _) _).alloc (by simp) _⟩
theorem wtwice_any (r b:Int) (w:World) (h0:0≤r) (h1:r < 170141183460469231731687303715884105728) (hb0:0≤b) (hb:b < 2) :
 Calls Tryz.prog 250 #[usz r,.int .u64 b] w fun e w'=>e = .returned (usz (2 * r + b))∧Below w.heap.size w w':=by
 have T1:=tw_hi h0 h1 hb0 hb
 have T2:=tw_lo (r:=r) h0 hb0 hb
 unfold usz
 generalize hiW (2 * r + b) = c at *
 generalize loW (2 * r + b) = d at *
 go_enter Tryz.func250,Tryz.ntmps250
 go_wp2
 refine bodyPost_ret (v:=.agg #[.int .u64 c,.int .u64 d]) (by simp [results,Tryz.results250,go_sem]) rfl ⟨rfl,?_⟩
 exact ((Below.refl _ _).alloc (Nat.le_refl _) _).alloc (by simp) _
theorem wless_any (s t:Int) (w:World) (h0:0≤t) (h1:t≤s) (h2:s < 340282366920938463463374607431768211456) :
 Calls Tryz.prog 244 #[usz s,usz t] w fun e w'=>e = .returned (usz (s - t))∧Below w.heap.size w w':=by
 obtain ⟨p0,p1⟩:=lo_rng s
 obtain ⟨q0,q1⟩:=lo_rng t
 have S1:=fun w=>sub64 (loW s) (loW t) 0 p0 q0 q1 (by omega) (by omega) w
 have S2:=fun w=>sub64 (hiW s) (hiW t) (bor (loW s) (loW t) 0) (by unfold hiW; omega) (by unfold hiW; omega) (by unfold hiW; omega) (bor_rng _ _ _).1 (bor_rng _ _ _).2 w
 have E1:=sub_lo s t
 have E2:(hiW s - hiW t - bor (loW s) (loW t) 0) % 18446744073709551616 = hiW (s - t):=by
  unfold bor hiW loW
  split <;> omega
 rw [E1] at S1
 rw [E2] at S2
 clear E1 E2
 unfold usz
 generalize bor (loW s) (loW t) 0 = bo at *
 generalize hiW (s - t) = c at *
 generalize loW (s - t) = d at *
 go_enter Tryz.func244,Tryz.ntmps244
 go_wp2_with (first | simp only [S1] | simp only [S2])
 refine bodyPost_ret (v:=.agg #[.int .u64 c,.int .u64 d]) (by simp [results,Tryz.results244,go_sem]) rfl ⟨rfl,?_⟩
 exact (((Below.refl _ _).alloc (Nat.le_refl _) _).alloc (by simp) _).alloc (by simp; try omega) _
end Go.Proofs.YtajmjkliblippaaGreatDoor
namespace Go.Proofs.YtajmjkliblippaaGreatDoor
open Go.RowKit
theorem and_i64 (a:Nat) (h:a < 9223372036854775808):bits .and .i64 (a:Int) 63 = ((a % 64:Nat):Int):=by
 have h1:(BitVec.ofInt 64 (a:Int)).toNat = a:=by
  rw [BitVec.ofInt_natCast,BitVec.toNat_ofNat]; exact Nat.mod_eq_of_lt (by omega)
 have h2:(BitVec.ofInt 64 (63:Int)).toNat = 63:=rfl
 show IntKind.i64.wrap ((BitVec.ofInt 64 (a:Int) &&& BitVec.ofInt 64 (63:Int)).toNat:Int) = _
 rw [BitVec.toNat_and,h1,h2,show (63:Nat) = 2 ^ 6 - 1 from rfl,Nat.and_two_pow_sub_one_eq_mod]
 exact IntWalk.i64_in _ (by omega)
theorem and1_u64 {x:Int} (h0:0≤x) (h1:x < 18446744073709551616):bits .and .u64 x 1 = x % 2:=by
 obtain ⟨x,rfl⟩:=Int.eq_ofNat_of_zero_le h0
 have:=bits_and_u64_nat x 1 (by omega) (by omega)
 rw [show ((1:Nat):Int) = 1 from rfl] at this
 rw [this,Nat.and_one_is_mod]
 rfl
theorem or1_u64 {q:Int} (h0:0≤q):bits .or .u64 (loW (2 * q)) 1 = loW (2 * q + 1):=by
 obtain ⟨c0,c1⟩:=lo_rng q
 have:=or_word (x:=loW q) (b:=1) c0 c1 (by omega) (by omega)
 rw [show loW (2 * q) = IntKind.u64.wrap (loW q * 2) by rw [IntKind.wrap_u64]; unfold loW; omega,this]
 unfold loW; omega
theorem hi_odd {q:Int} (h0:0≤q):hiW (2 * q) = hiW (2 * q + 1):=by unfold hiW; omega
theorem div_pow {x:Int} {j:Nat} (h0:0≤x) (h1:x < 18446744073709551616):0≤x / 2 ^ j∧x / 2 ^ j < 18446744073709551616:=by
 have hp:(0:Int) < 2 ^ j:=Int.pow_pos (by decide)
 refine ⟨Int.ediv_nonneg h0 (by omega),?_⟩
 exact Int.lt_of_le_of_lt (Int.ediv_le_self _ h0) h1
theorem bit_low {N j:Nat} (h:j < 64):bits .and .u64 (loW (N:Int) / 2 ^ j) 1 = (bD N j:Int):=by
 obtain ⟨b0,b1⟩:=lo_rng (N:Int)
 obtain ⟨c0,c1⟩:=div_pow (j:=j) b0 b1
 rw [and1_u64 c0 c1,← bit_lo' h,Int.natCast_pow]
 rfl
theorem bit_high {N j:Nat} (hN:N < 340282366920938463463374607431768211456):bits .and .u64 (hiW (N:Int) / 2 ^ j) 1 = (bD N (j + 64):Int):=by
 obtain ⟨c0,c1⟩:=div_pow (x:=hiW (N:Int)) (j:=j) (by unfold hiW; omega) (by unfold hiW; omega)
 rw [and1_u64 c0 c1,← bit_hi' (i:=j + 64) (by omega),Int.natCast_pow,show j + 64 - 64 = j by omega]
 rfl
def OvR (N D:Nat) (w:World) (v:Value) (wr:World):Prop:=∃ (k:Nat) (z:Int),v = .int .i64 z∧Hid (z = (k:Int) - 1)∧k≤128∧Hid (Below w.heap.size w wr) ∧
 Hid (Blk [.int .u64 (hiW N),.int .u64 (loW N)] w.heap.size wr)∧Hid (Blk [.int .u64 (hiW D),.int .u64 (loW D)] (w.heap.size + 1) wr) ∧
 Hid (Blk [.int .u64 (hiW (qD N D k:Nat)),.int .u64 (loW (qD N D k:Nat))] (w.heap.size + 1 + 1) wr)∧Hid (Blk [.int .u64 (hiW (rD N D k:Nat)),.int .u64 (loW (rD N D k:Nat))] (w.heap.size + 1 + 1 + 1) wr)
theorem below_drew1 {B:Nat} {a w:World} (h:Below B a w):Below B a w.drew:=⟨h.os,h.tape,h.output,h.size,h.block⟩
theorem ov_step {N D i:Nat} (hN:N < 340282366920938463463374607431768211456) (hD:0 < D) (hD1:D≤170141183460469231731687303715884105728) :
 ∃ R Q b R' Q':Int,R = (rD N D (i + 1):Nat)∧Q = (qD N D (i + 1):Nat)∧b = (bD N i:Nat)∧R' = (rD N D i:Nat)∧Q' = (qD N D i:Nat) ∧
  0≤R∧R < 170141183460469231731687303715884105728∧0≤Q∧Q < 170141183460469231731687303715884105728∧0≤b∧b < 2∧(0:Int) < D∧(D:Int)≤170141183460469231731687303715884105728 ∧
  (((D:Int)≤2 * R + b∧Q' = 2 * Q + 1∧R' = 2 * R + b - D)∨(2 * R + b < (D:Int)∧Q' = 2 * Q∧R' = 2 * R + b)):=by
 have BB:=bD_lt N i
 have RL:=rD_lt N (D:=D) (k:=i + 1) hD
 have QL:=qD_lt (D:=D) (k:=i) hN
 refine ⟨_,_,_,_,_,rfl,rfl,rfl,rfl,rfl,by omega,by omega,by omega,by omega,by omega,by omega,by omega,by omega,?_⟩
 by_cases h:D≤2 * rD N D (i + 1) + bD N i
 ·have:=qr_one hD h
  exact .inl ⟨by omega,by omega,by omega⟩
 ·have:=qr_zero hD h
  exact .inr ⟨by omega,by omega,by omega⟩
theorem blk_drew1 {vs:List Value} {b:Nat} {W:World} (h:Blk vs b W):Blk vs b W.drew:=h.same rfl (Nat.le_refl _)
set_option maxHeartbeats 8000000
set_option maxRecDepth 100000
theorem wover_any (N D:Nat) (w:World) (hN:N < 340282366920938463463374607431768211456) (hD:0 < D) (hD1:D≤170141183460469231731687303715884105728) :
 Calls Tryz.prog 242 #[usz N,usz D] w fun e w'=>e = .returned (.tuple #[usz (N / D:Nat),usz (N % D:Nat)])∧Below w.heap.size w w':=by
 obtain ⟨t0,t1⟩:=qr_top (D:=D) hN
 obtain ⟨n0,n1⟩:=qr_end N D
 have HE0:=Lib.hid n0
 have HE1:=Lib.hid n1
 have ST:=Lib.hid fun i=>ov_step (i:=i) hN hD hD1
 have BL:=Lib.hid fun i (h:i < 64)=>bit_low (N:=N) h
 have BH:=Lib.hid fun j=>bit_high (j:=j) hN
 clear n0 n1 hN hD hD1
 unfold usz
 obtain ⟨KS,KD,KQ,KR,HB⟩:=ent4 w #[.int .u64 (hiW (N:Int)),.int .u64 (loW (N:Int))] 196 #[.int .u64 (hiW (D:Int)),.int .u64 (loW (D:Int))] 196 #[.int .u64 0,.int .u64 0] 196 #[.int .u64 0,.int .u64 0] 196
 go_enter Tryz.func242,Tryz.ntmps242
 go_wp2
 generalize (((w.alloc _).alloc _).alloc _).alloc _ = w0 at *
 go_loopw [6] (OvR N D w) (fun v _=>(intOf v + 1).toNat)
 case atStart=>exact ⟨128,127,rfl,Lib.hid (by rfl),Nat.le_refl _,HB,KS,KD,by rw [t0]; exact KQ,by rw [t1]; exact KR⟩
 case round =>
  clear t0 t1
  obtain ⟨k,z,rfl,HZ,hk,HB,KS,KD,KQ,KR⟩:=hrel
  cases k with
  | zero =>
   have g:decide (0≤z) = false:=by have:=HZ.out; simp; omega
   clear HZ
   have VQ:(qD N D 0:Int) = ((N / D:Nat):Int):=by rw [HE0.out]
   have VR:(rD N D 0:Int) = ((N % D:Nat):Int):=by rw [HE1.out]
   rw [VQ] at KQ
   rw [VR] at KR
   clear VQ VR
   obtain ⟨Q,hQ⟩:∃ Q,((N / D:Nat):Int) = Q:=⟨_,rfl⟩
   obtain ⟨R,hR⟩:∃ R,((N % D:Nat):Int) = R:=⟨_,rfl⟩
   rw [hQ] at KQ
   rw [hR] at KR
   have HQ:=Lib.hid hQ
   have HR:=Lib.hid hR
   clear hQ hR
   obtain ⟨yQ0,yQ1,yQz,yQf0,yQf1⟩:=blf2 KQ
   obtain ⟨yR0,yR1,yRz,yRf0,yRf1⟩:=blf2 KR
   go_wp2_with fail
   go_region
   replace KQ:=kst (kst KQ 0 (.int .u64 (hiW Q))) 1 (.int .u64 (loW Q))
   refine ot3 (st2 wr (w.heap.size + 1 + 1) 0 (.int .u64 (hiW Q)) 1 (.int .u64 (loW Q))) HB KS KD KR (by omega) (by omega) (by omega) (by omega) ?_
   clear HB KS KD KR
   intro HB KS KD KR
   clear yQ0 yQ1 yQz yQf0 yQf1 yR0 yR1 yRz yRf0 yRf1
   simp only [List.set] at KQ
   replace KR:=kst (kst KR 0 (.int .u64 (hiW R))) 1 (.int .u64 (loW R))
   refine ot3 (st2 ((wr.setCell ⟨(w.heap.size + 1 + 1),0,none⟩ (.int .u64 (hiW Q))).setCell ⟨(w.heap.size + 1 + 1),1,none⟩ (.int .u64 (loW Q))) (w.heap.size + 1 + 1 + 1) 0 (.int .u64 (hiW R)) 1 (.int .u64 (loW R))) HB KS KD KQ (by omega) (by omega) (by omega) (by omega) ?_
   clear HB KS KD KQ
   intro HB KS KD KQ
   simp only [List.set] at KR
   replace KS:=Lib.hid (blk_drew1 KS.out)
   replace KD:=Lib.hid (blk_drew1 KD.out)
   replace KQ:=Lib.hid (blk_drew1 KQ.out)
   replace KR:=Lib.hid (blk_drew1 KR.out)
   replace HB:=Lib.hid (below_drew1 HB.out)
   generalize (((((wr.setCell ⟨(w.heap.size + 1 + 1),0,none⟩ (.int .u64 (hiW Q))).setCell ⟨(w.heap.size + 1 + 1),1,none⟩ (.int .u64 (loW Q))).setCell ⟨(w.heap.size + 1 + 1 + 1),0,none⟩ (.int .u64 (hiW R))).setCell ⟨(w.heap.size + 1 + 1 + 1),1,none⟩ (.int .u64 (loW R)))).drew = w3 at *
   obtain ⟨yQ0,yQ1,yQz⟩:=blk2 KQ
   obtain ⟨yR0,yR1,yRz⟩:=blk2 KR
   go_wp2
   refine bodyPost_ret (v:=.tuple #[.agg #[.int .u64 (hiW Q),.int .u64 (loW Q)],.agg #[.int .u64 (hiW R),.int .u64 (loW R)]]) (by simp [results,Tryz.results242,go_sem,yQ0,yQ1,yR0,yR1]) rfl ⟨by rw [HQ.out,HR.out],HB.out⟩
  | succ i =>
   have hz:z = (i:Int):=by have:=HZ.out; omega
   subst hz
   clear HZ
   obtain ⟨R,Q,b,R',Q',eR,eQ,eb,eR',eQ',r0,r1,q0,q1,b0,b1,dp,dm,fin⟩:=ST.out i
   rw [← eR] at KR
   rw [← eQ] at KQ
   have eb0:=Lib.hid eb
   have HR':=Lib.hid eR'
   have HQ':=Lib.hid eQ'
   have TW:=Lib.hid fun w=>wtwice_any R b w r0 r1 b0 b1
   have TQ:=Lib.hid fun w=>wtwice_any Q 0 w q0 q1 (by omega) (by omega)
   have CM:=Lib.hid fun w=>wcmp_any (2 * R + b) (D:Int) w
   have LS:=Lib.hid fun (h:(D:Int)≤2 * R + b) w=>wless_any (2 * R + b) (D:Int) w (by omega) h (by omega)
   have O1:=or1_u64 (q:=Q) q0
   have O2:=Lib.hid (hi_odd (q:=Q) q0)
   have g0:decide (0≤(i:Int)) = true:=by simp
   have A63:=and_i64 i (by omega)
   have BL1:=BL.out i
   have BH1:=BH.out (i - 64)
   rw [← eb] at BL1
   have hk2:i < 128:=by omega
   unfold usz at TW TQ CM LS
   simp only [Int.add_zero] at TQ
   clear hk eR eQ eb eR' eQ' ST BL BH HE0 HE1 r0 r1 q0 q1 b0 b1 dp dm
   generalize hd:(D:Int) = dd at *
   by_cases h64:i < 64
   ·rw [Nat.mod_eq_of_lt h64] at A63
    have BT:=BL1 h64
    have g64:decide (64≤(i:Int)) = false:=by simp; omega
    clear BL1 BH1
    rcases fin with ⟨f0,f1,f2⟩ | ⟨f0,f1,f2⟩
    ·have LS2:=Lib.hid (LS.out f0)
     have gc:decide (0≤cmpI (2 * R + b) dd) = true:=by unfold cmpI; rw [if_neg (by omega)]; split <;> decide
     clear LS f0
     generalize cmpI (2 * R + b) dd = c at *
     obtain ⟨yS0,yS1,ySz⟩:=blk2 KS
     obtain ⟨yR0,yR1,yRz,yRf0,yRf1⟩:=blf2 KR
     go_wp2_with fail
     refine (TW.out _).mono ?_
     rintro e1 w1 ⟨rfl,hb1⟩
     refine up4 hb1 HB KS KD KQ KR ?_
     clear hb1 yS0 yS1 ySz yR0 yR1 yRz yRf0 yRf1 HB KS KD KQ KR
     intro HB KS KD KQ KR
     obtain ⟨yQ0,yQ1,yQz,yQf0,yQf1⟩:=blf2 KQ
     obtain ⟨yR0,yR1,yRz,yRf0,yRf1⟩:=blf2 KR
     go_wp2_with fail
     replace KR:=kst (kst KR 0 (.int .u64 (hiW (2 * R + b)))) 1 (.int .u64 (loW (2 * R + b)))
     refine ot3 (st2 w1 (w.heap.size + 1 + 1 + 1) 0 (.int .u64 (hiW (2 * R + b))) 1 (.int .u64 (loW (2 * R + b)))) HB KS KD KQ (by omega) (by omega) (by omega) (by omega) ?_
     clear HB KS KD KQ
     intro HB KS KD KQ
     clear yQ0 yQ1 yQz yQf0 yQf1 yR0 yR1 yRz yRf0 yRf1
     generalize (w1.setCell _ _).setCell _ _ = w2 at *
     simp only [List.set] at KR
     refine (TQ.out _).mono ?_
     rintro e3 w3 ⟨rfl,hb3⟩
     refine up4 hb3 HB KS KD KQ KR ?_
     clear hb3 HB KS KD KQ KR
     intro HB KS KD KQ KR
     obtain ⟨yD0,yD1,yDz⟩:=blk2 KD
     obtain ⟨yQ0,yQ1,yQz,yQf0,yQf1⟩:=blf2 KQ
     obtain ⟨yR0,yR1,yRz,yRf0,yRf1⟩:=blf2 KR
     go_wp2_with fail
     replace KQ:=kst (kst KQ 0 (.int .u64 (hiW (2 * Q)))) 1 (.int .u64 (loW (2 * Q)))
     refine ot3 (st2 w3 (w.heap.size + 1 + 1) 0 (.int .u64 (hiW (2 * Q))) 1 (.int .u64 (loW (2 * Q)))) HB KS KD KR (by omega) (by omega) (by omega) (by omega) ?_
     clear HB KS KD KR
     intro HB KS KD KR
     clear yD0 yD1 yDz yQ0 yQ1 yQz yQf0 yQf1 yR0 yR1 yRz yRf0 yRf1
     generalize (w3.setCell _ _).setCell _ _ = w4 at *
     simp only [List.set] at KQ
     refine (CM.out _).mono ?_
     rintro e5 w5 ⟨rfl,hb5⟩
     refine up4 hb5 HB KS KD KQ KR ?_
     clear hb5 HB KS KD KQ KR
     intro HB KS KD KQ KR
     obtain ⟨yD0,yD1,yDz⟩:=blk2 KD
     obtain ⟨yQ0,yQ1,yQz,yQf0,yQf1⟩:=blf2 KQ
     obtain ⟨yR0,yR1,yRz,yRf0,yRf1⟩:=blf2 KR
     go_wp2_with fail
     refine (LS2.out _).mono ?_
     rintro e6 w6 ⟨rfl,hb6⟩
     refine up4 hb6 HB KS KD KQ KR ?_
     clear hb6 yD0 yD1 yDz yQ0 yQ1 yQz yQf0 yQf1 yR0 yR1 yRz yRf0 yRf1 HB KS KD KQ KR
     intro HB KS KD KQ KR
     obtain ⟨yQ0,yQ1,yQz,yQf0,yQf1⟩:=blf2 KQ
     obtain ⟨yR0,yR1,yRz,yRf0,yRf1⟩:=blf2 KR
     go_wp2
     replace KR:=kst (kst KR 0 (.int .u64 (hiW (2 * R + b - dd)))) 1 (.int .u64 (loW (2 * R + b - dd)))
     refine ot3 (st2 w6 (w.heap.size + 1 + 1 + 1) 0 (.int .u64 (hiW (2 * R + b - dd))) 1 (.int .u64 (loW (2 * R + b - dd)))) HB KS KD KQ (by omega) (by omega) (by omega) (by omega) ?_
     clear HB KS KD KQ
     intro HB KS KD KQ
     clear yQ0 yQ1 yQz yQf0 yQf1 yR0 yR1 yRz yRf0 yRf1
     generalize (w6.setCell _ _).setCell _ _ = w7 at *
     simp only [List.set] at KR
     replace KQ:=kst KQ 1 (.int .u64 (loW (2 * Q + 1)))
     refine ot3 (st1 w7 (w.heap.size + 1 + 1) 1 (.int .u64 (loW (2 * Q + 1)))) HB KS KD KR (by omega) (by omega) (by omega) (by omega) ?_
     clear HB KS KD KR
     intro HB KS KD KR
     generalize w7.setCell _ _ = w8 at *
     simp only [List.set] at KQ
     subst hd
     rw [O2.out] at KQ
     rw [← f1,HQ'.out] at KQ
     rw [← f2,HR'.out] at KR
     exact ⟨⟨_,_,rfl,Lib.hid (by omega),by omega,HB,KS,KD,KQ,KR⟩,by simp [intOf]; try omega⟩
    ·have gc:decide (0≤cmpI (2 * R + b) dd) = false:=by unfold cmpI; rw [if_pos (by omega)]; decide
     clear LS f0
     generalize cmpI (2 * R + b) dd = c at *
     obtain ⟨yS0,yS1,ySz⟩:=blk2 KS
     obtain ⟨yR0,yR1,yRz,yRf0,yRf1⟩:=blf2 KR
     go_wp2_with fail
     refine (TW.out _).mono ?_
     rintro e1 w1 ⟨rfl,hb1⟩
     refine up4 hb1 HB KS KD KQ KR ?_
     clear hb1 yS0 yS1 ySz yR0 yR1 yRz yRf0 yRf1 HB KS KD KQ KR
     intro HB KS KD KQ KR
     obtain ⟨yQ0,yQ1,yQz,yQf0,yQf1⟩:=blf2 KQ
     obtain ⟨yR0,yR1,yRz,yRf0,yRf1⟩:=blf2 KR
     go_wp2_with fail
     replace KR:=kst (kst KR 0 (.int .u64 (hiW (2 * R + b)))) 1 (.int .u64 (loW (2 * R + b)))
     refine ot3 (st2 w1 (w.heap.size + 1 + 1 + 1) 0 (.int .u64 (hiW (2 * R + b))) 1 (.int .u64 (loW (2 * R + b)))) HB KS KD KQ (by omega) (by omega) (by omega) (by omega) ?_
     clear HB KS KD KQ
     intro HB KS KD KQ
     clear yQ0 yQ1 yQz yQf0 yQf1 yR0 yR1 yRz yRf0 yRf1
     generalize (w1.setCell _ _).setCell _ _ = w2 at *
     simp only [List.set] at KR
     refine (TQ.out _).mono ?_
     rintro e3 w3 ⟨rfl,hb3⟩
     refine up4 hb3 HB KS KD KQ KR ?_
     clear hb3 HB KS KD KQ KR
     intro HB KS KD KQ KR
     obtain ⟨yD0,yD1,yDz⟩:=blk2 KD
     obtain ⟨yQ0,yQ1,yQz,yQf0,yQf1⟩:=blf2 KQ
     obtain ⟨yR0,yR1,yRz,yRf0,yRf1⟩:=blf2 KR
     go_wp2_with fail
     replace KQ:=kst (kst KQ 0 (.int .u64 (hiW (2 * Q)))) 1 (.int .u64 (loW (2 * Q)))
     refine ot3 (st2 w3 (w.heap.size + 1 + 1) 0 (.int .u64 (hiW (2 * Q))) 1 (.int .u64 (loW (2 * Q)))) HB KS KD KR (by omega) (by omega) (by omega) (by omega) ?_
     clear HB KS KD KR
     intro HB KS KD KR
     clear yD0 yD1 yDz yQ0 yQ1 yQz yQf0 yQf1 yR0 yR1 yRz yRf0 yRf1
     generalize (w3.setCell _ _).setCell _ _ = w4 at *
     simp only [List.set] at KQ
     refine (CM.out _).mono ?_
     rintro e5 w5 ⟨rfl,hb5⟩
     refine up4 hb5 HB KS KD KQ KR ?_
     clear hb5 HB KS KD KQ KR
     intro HB KS KD KQ KR
     obtain ⟨yD0,yD1,yDz⟩:=blk2 KD
     obtain ⟨yQ0,yQ1,yQz,yQf0,yQf1⟩:=blf2 KQ
     obtain ⟨yR0,yR1,yRz,yRf0,yRf1⟩:=blf2 KR
     go_wp2
     clear yD0 yD1 yDz yQ0 yQ1 yQz yQf0 yQf1 yR0 yR1 yRz yRf0 yRf1
     subst hd
     skip
     rw [← f1,HQ'.out] at KQ
     rw [← f2,HR'.out] at KR
     exact ⟨⟨_,_,rfl,Lib.hid (by omega),by omega,HB,KS,KD,KQ,KR⟩,by simp [intOf]; try omega⟩
   ·obtain ⟨j,rfl⟩:∃ j,i = j + 64:=⟨i - 64,by omega⟩
    have A:bits .and .i64 ((j:Int) + 64) 63 = (j:Int):=by rw [show ((j:Int) + 64) = ((j + 64:Nat):Int) by omega,A63]; omega
    have BT:bits .and .u64 (hiW (N:Int) / 2 ^ j) 1 = b:=by rw [eb0.out]; have:=BH1; rwa [show j + 64 - 64 = j by omega] at this
    simp only [Int.natCast_add,Int.cast_ofNat_Int] at g0
    have g64:decide (64≤(j:Int) + 64) = true:=decide_eq_true (by omega)
    clear BL1 BH1 A63 h64
    rcases fin with ⟨f0,f1,f2⟩ | ⟨f0,f1,f2⟩
    ·have LS2:=Lib.hid (LS.out f0)
     have gc:decide (0≤cmpI (2 * R + b) dd) = true:=by unfold cmpI; rw [if_neg (by omega)]; split <;> decide
     clear LS f0
     generalize cmpI (2 * R + b) dd = c at *
     obtain ⟨yS0,yS1,ySz⟩:=blk2 KS
     obtain ⟨yR0,yR1,yRz,yRf0,yRf1⟩:=blf2 KR
     go_wp2_with fail
     refine (TW.out _).mono ?_
     rintro e1 w1 ⟨rfl,hb1⟩
     refine up4 hb1 HB KS KD KQ KR ?_
     clear hb1 yS0 yS1 ySz yR0 yR1 yRz yRf0 yRf1 HB KS KD KQ KR
     intro HB KS KD KQ KR
     obtain ⟨yQ0,yQ1,yQz,yQf0,yQf1⟩:=blf2 KQ
     obtain ⟨yR0,yR1,yRz,yRf0,yRf1⟩:=blf2 KR
     go_wp2_with fail
     replace KR:=kst (kst KR 0 (.int .u64 (hiW (2 * R + b)))) 1 (.int .u64 (loW (2 * R + b)))
     refine ot3 (st2 w1 (w.heap.size + 1 + 1 + 1) 0 (.int .u64 (hiW (2 * R + b))) 1 (.int .u64 (loW (2 * R + b)))) HB KS KD KQ (by omega) (by omega) (by omega) (by omega) ?_
     clear HB KS KD KQ
     intro HB KS KD KQ
     clear yQ0 yQ1 yQz yQf0 yQf1 yR0 yR1 yRz yRf0 yRf1
     generalize (w1.setCell _ _).setCell _ _ = w2 at *
     simp only [List.set] at KR
     refine (TQ.out _).mono ?_
     rintro e3 w3 ⟨rfl,hb3⟩
     refine up4 hb3 HB KS KD KQ KR ?_
     clear hb3 HB KS KD KQ KR
     intro HB KS KD KQ KR
     obtain ⟨yD0,yD1,yDz⟩:=blk2 KD
     obtain ⟨yQ0,yQ1,yQz,yQf0,yQf1⟩:=blf2 KQ
     obtain ⟨yR0,yR1,yRz,yRf0,yRf1⟩:=blf2 KR
     go_wp2_with fail
     replace KQ:=kst (kst KQ 0 (.int .u64 (hiW (2 * Q)))) 1 (.int .u64 (loW (2 * Q)))
     refine ot3 (st2 w3 (w.heap.size + 1 + 1) 0 (.int .u64 (hiW (2 * Q))) 1 (.int .u64 (loW (2 * Q)))) HB KS KD KR (by omega) (by omega) (by omega) (by omega) ?_
     clear HB KS KD KR
     intro HB KS KD KR
     clear yD0 yD1 yDz yQ0 yQ1 yQz yQf0 yQf1 yR0 yR1 yRz yRf0 yRf1
     generalize (w3.setCell _ _).setCell _ _ = w4 at *
     simp only [List.set] at KQ
     refine (CM.out _).mono ?_
     rintro e5 w5 ⟨rfl,hb5⟩
     refine up4 hb5 HB KS KD KQ KR ?_
     clear hb5 HB KS KD KQ KR
     intro HB KS KD KQ KR
     obtain ⟨yD0,yD1,yDz⟩:=blk2 KD
     obtain ⟨yQ0,yQ1,yQz,yQf0,yQf1⟩:=blf2 KQ
     obtain ⟨yR0,yR1,yRz,yRf0,yRf1⟩:=blf2 KR
     go_wp2_with fail
     refine (LS2.out _).mono ?_
     rintro e6 w6 ⟨rfl,hb6⟩
     refine up4 hb6 HB KS KD KQ KR ?_
     clear hb6 yD0 yD1 yDz yQ0 yQ1 yQz yQf0 yQf1 yR0 yR1 yRz yRf0 yRf1 HB KS KD KQ KR
     intro HB KS KD KQ KR
     obtain ⟨yQ0,yQ1,yQz,yQf0,yQf1⟩:=blf2 KQ
     obtain ⟨yR0,yR1,yRz,yRf0,yRf1⟩:=blf2 KR
     go_wp2
     replace KR:=kst (kst KR 0 (.int .u64 (hiW (2 * R + b - dd)))) 1 (.int .u64 (loW (2 * R + b - dd)))
     refine ot3 (st2 w6 (w.heap.size + 1 + 1 + 1) 0 (.int .u64 (hiW (2 * R + b - dd))) 1 (.int .u64 (loW (2 * R + b - dd)))) HB KS KD KQ (by omega) (by omega) (by omega) (by omega) ?_
     clear HB KS KD KQ
     intro HB KS KD KQ
     clear yQ0 yQ1 yQz yQf0 yQf1 yR0 yR1 yRz yRf0 yRf1
     generalize (w6.setCell _ _).setCell _ _ = w7 at *
     simp only [List.set] at KR
     replace KQ:=kst KQ 1 (.int .u64 (loW (2 * Q + 1)))
     refine ot3 (st1 w7 (w.heap.size + 1 + 1) 1 (.int .u64 (loW (2 * Q + 1)))) HB KS KD KR (by omega) (by omega) (by omega) (by omega) ?_
     clear HB KS KD KR
     intro HB KS KD KR
     generalize w7.setCell _ _ = w8 at *
     simp only [List.set] at KQ
     subst hd
     rw [O2.out] at KQ
     rw [← f1,HQ'.out] at KQ
     rw [← f2,HR'.out] at KR
     exact ⟨⟨_,_,rfl,Lib.hid (by omega),by omega,HB,KS,KD,KQ,KR⟩,by simp [intOf]; try omega⟩
    ·have gc:decide (0≤cmpI (2 * R + b) dd) = false:=by unfold cmpI; rw [if_pos (by omega)]; decide
     clear LS f0
     generalize cmpI (2 * R + b) dd = c at *
     obtain ⟨yS0,yS1,ySz⟩:=blk2 KS
     obtain ⟨yR0,yR1,yRz,yRf0,yRf1⟩:=blf2 KR
     go_wp2_with fail
     refine (TW.out _).mono ?_
     rintro e1 w1 ⟨rfl,hb1⟩
     refine up4 hb1 HB KS KD KQ KR ?_
     clear hb1 yS0 yS1 ySz yR0 yR1 yRz yRf0 yRf1 HB KS KD KQ KR
     intro HB KS KD KQ KR
     obtain ⟨yQ0,yQ1,yQz,yQf0,yQf1⟩:=blf2 KQ
     obtain ⟨yR0,yR1,yRz,yRf0,yRf1⟩:=blf2 KR
     go_wp2_with fail
     replace KR:=kst (kst KR 0 (.int .u64 (hiW (2 * R + b)))) 1 (.int .u64 (loW (2 * R + b)))
     refine ot3 (st2 w1 (w.heap.size + 1 + 1 + 1) 0 (.int .u64 (hiW (2 * R + b))) 1 (.int .u64 (loW (2 * R + b)))) HB KS KD KQ (by omega) (by omega) (by omega) (by omega) ?_
     clear HB KS KD KQ
     intro HB KS KD KQ
     clear yQ0 yQ1 yQz yQf0 yQf1 yR0 yR1 yRz yRf0 yRf1
     generalize (w1.setCell _ _).setCell _ _ = w2 at *
     simp only [List.set] at KR
     refine (TQ.out _).mono ?_
     rintro e3 w3 ⟨rfl,hb3⟩
     refine up4 hb3 HB KS KD KQ KR ?_
     clear hb3 HB KS KD KQ KR
     intro HB KS KD KQ KR
     obtain ⟨yD0,yD1,yDz⟩:=blk2 KD
     obtain ⟨yQ0,yQ1,yQz,yQf0,yQf1⟩:=blf2 KQ
     obtain ⟨yR0,yR1,yRz,yRf0,yRf1⟩:=blf2 KR
     go_wp2_with fail
     replace KQ:=kst (kst KQ 0 (.int .u64 (hiW (2 * Q)))) 1 (.int .u64 (loW (2 * Q)))
     refine ot3 (st2 w3 (w.heap.size + 1 + 1) 0 (.int .u64 (hiW (2 * Q))) 1 (.int .u64 (loW (2 * Q)))) HB KS KD KR (by omega) (by omega) (by omega) (by omega) ?_
     clear HB KS KD KR
     intro HB KS KD KR
     clear yD0 yD1 yDz yQ0 yQ1 yQz yQf0 yQf1 yR0 yR1 yRz yRf0 yRf1
     generalize (w3.setCell _ _).setCell _ _ = w4 at *
     simp only [List.set] at KQ
     refine (CM.out _).mono ?_
     rintro e5 w5 ⟨rfl,hb5⟩
     refine up4 hb5 HB KS KD KQ KR ?_
     clear hb5 HB KS KD KQ KR
     intro HB KS KD KQ KR
     obtain ⟨yD0,yD1,yDz⟩:=blk2 KD
     obtain ⟨yQ0,yQ1,yQz,yQf0,yQf1⟩:=blf2 KQ
     obtain ⟨yR0,yR1,yRz,yRf0,yRf1⟩:=blf2 KR
     go_wp2
     clear yD0 yD1 yDz yQ0 yQ1 yQz yQf0 yQf1 yR0 yR1 yRz yRf0 yRf1
     subst hd
     skip
     rw [← f1,HQ'.out] at KQ
     rw [← f2,HR'.out] at KR
     exact ⟨⟨_,_,rfl,Lib.hid (by omega),by omega,HB,KS,KD,KQ,KR⟩,by simp [intOf]; try omega⟩
end Go.Proofs.YtajmjkliblippaaGreatDoor
