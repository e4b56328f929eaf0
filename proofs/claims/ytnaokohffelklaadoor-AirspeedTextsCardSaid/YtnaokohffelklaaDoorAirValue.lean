/-
  The walk of layer 29's value: a table in memory, read at an altitude.
-/
import Derived.Test.YtnaokohffelklaaDoorAirWalks
import Derived.Test.YtnaokohffelklaaDoorFixWraps30
import Derived.Deep.RegionWith
import Derived.Deep.RegionHeld
import Derived.BigRegion
namespace Go.Proofs.YtnaokohffelklaaDoor
set_option linter.unusedVariables false
open Go.RowKit Sq

/-- a table lies in block b -/
structure TabAt (T : List (Int × Int)) (b : Nat) (w : World) : Prop where
  lt : b < w.heap.size
  ft : ∀ i, i < T.length → w.cell? ⟨b, i * 2, none⟩ = some (.int .i64 (ftA T i))
  vl : ∀ i, i < T.length → w.cell? ⟨b, i * 2 + 1, none⟩ = some (.int .i64 (vlA T i))
/-- the table's numbers are small -/
structure TabOk (T : List (Int × Int)) : Prop where
  len2 : 2 ≤ T.length
  len : T.length ≤ 1000
  up : FtUp T
  f0 : ∀ i, -2000 ≤ ftA T i
  f1 : ∀ i, ftA T i ≤ 60000
  v0 : ∀ i, 0 ≤ vlA T i
  v1 : ∀ i, vlA T i ≤ 4000000
def ValR (T : List (Int × Int)) (alt : Int) (s : Value) : Prop := ∃ k : Nat, s = .int .i64 k ∧ 1 ≤ k ∧ k < T.length ∧ Hid (∀ i, 1 ≤ i → i < k → ftA T i * 100 < alt)
theorem prod_bd {s m : Int} (h1 : -4000000 ≤ s) (h2 : s ≤ 4000000) (h3 : 0 ≤ m) (h4 : m ≤ 100000000) : -400000000000000 ≤ s * m ∧ s * m ≤ 400000000000000 := by
  have a := Int.mul_le_mul_of_nonneg_right h1 h3
  have b := Int.mul_le_mul_of_nonneg_right h2 h3
  omega
theorem floor_bd {p c : Int} (hc : 0 < c) (h0 : -400000000000000 ≤ p) (h1 : p ≤ 400000000000000) : -400000000000000 ≤ floorI p c ∧ floorI p c ≤ 400000000000000 := by
  unfold floorI
  constructor
  · rw [Int.le_ediv_iff_mul_le hc]
    have := Int.mul_le_mul_of_nonneg_left (show 1 ≤ c by omega) (show (0 : Int) ≤ 400000000000000 by decide)
    omega
  · have : p / c < 400000000000001 := by
      apply Int.ediv_lt_of_lt_mul hc
      have := Int.mul_le_mul_of_nonneg_left (show 1 ≤ c by omega) (show (0 : Int) ≤ 400000000000001 by decide)
      omega
    omega
set_option maxHeartbeats 4000000 in
theorem value_any (T : List (Int × Int)) (b : Nat) (alt : Int) (w : World) (hT : TabOk T) (hb : TabAt T b w) (ha : AltOk alt) (hl : ftA T 0 * 100 ≤ alt) (hh : alt ≤ ftA T (T.length - 1) * 100) :
    Calls Tryd.prog 48 #[.slice (some ⟨b, 0, none⟩) T.length T.length, .int .i64 alt] w fun e w' => e = .returned (.int .i64 (valI T alt)) ∧ Below w.heap.size w w' := by
  have HT := Lib.hid hT
  have HB := Lib.hid hb
  have h2 := hT.len2
  have h3 := hT.len
  have a0 := ha.lo
  have a1 := ha.hi
  clear hT hb
  go_enter Tryd.func48, Tryd.ntmps48
  go_wp2
  go_loop [5] (ValR T alt) (fun s => T.length - (intOf s).toNat)
  case atStart => exact ⟨1, rfl, Nat.le_refl _, by omega, Lib.hid fun i h g => absurd h (by omega)⟩
  case round =>
    obtain ⟨k, rfl, k1, k2, hk⟩ := hrel
    have f0 := HT.out.f0 k
    have f1 := HT.out.f1 k
    have c0 := HB.out.ft k k2
    by_cases gq : k < T.length - 1 ∧ ftA T k * 100 < alt
    · obtain ⟨g, q⟩ := gq
      have q' : decide (ftA T k * 100 < alt) = true := by simpa using q
      have g' : decide ((k : Int) < (T.length : Int) - 1) = true := by simp; omega
      go_wp2
      refine ⟨⟨k + 1, by go_num, by omega, by omega, Lib.hid fun i h1 h2 => ?_⟩, by simp [intOf]; omega⟩
      by_cases e : i = k
      · rw [e]; exact q
      · exact hk.out i h1 (by omega)
    · have hab : alt ≤ ftA T k * 100 := by
        by_cases g : k < T.length - 1
        · exact Int.not_lt.1 fun q => gq ⟨g, q⟩
        · rw [show k = T.length - 1 by omega]; exact hh
      have S0 : IsSeg T alt k := ⟨k1, k2, hk.out, hab⟩
      have hlow := seg_low S0 hl
      have hV : valI T alt = valS T alt k := by
        unfold valI
        rw [IsSeg.uniq (seg_is h2 hh) S0]
      obtain ⟨j, rfl⟩ : ∃ j, k = j + 1 := ⟨k - 1, by omega⟩
      rw [show j + 1 - 1 = j by omega] at hlow
      have hup := HT.out.up j k2
      have f2 := HT.out.f0 j
      have f3 := HT.out.f1 j
      have v0 := HT.out.v0 j
      have v1 := HT.out.v1 j
      have v2 := HT.out.v0 (j + 1)
      have v3 := HT.out.v1 (j + 1)
      have hP := prod_bd (s := vlA T (j + 1) - vlA T j) (m := alt - ftA T j * 100) (by omega) (by omega) (by omega) (by omega)
      have V := Lib.hid (show valI T alt = vlA T j + floorI ((vlA T (j + 1) - vlA T j) * (alt - ftA T j * 100)) ((ftA T (j + 1) - ftA T j) * 100) from hV)
      have hr := floor_bd (p := (vlA T (j + 1) - vlA T j) * (alt - ftA T j * 100)) (c := (ftA T (j + 1) - ftA T j) * 100) (by omega) hP.1 hP.2
      have FL := Lib.hid fun w => floor_any ((vlA T (j + 1) - vlA T j) * (alt - ftA T j * 100)) ((ftA T (j + 1) - ftA T j) * 100) w (by omega) (by omega) (by omega) (by omega)
      have c1 := HB.out.vl (j + 1) k2
      have c2 := HB.out.ft j (by omega)
      have c3 := HB.out.vl j (by omega)
      obtain ⟨p0, p1⟩ := hP
      obtain ⟨r0, r1⟩ := hr
      generalize floorI ((vlA T (j + 1) - vlA T j) * (alt - ftA T j * 100)) ((ftA T (j + 1) - ftA T j) * 100) = r at *
      have e1 : IntKind.i64.wrap (((j + 1 : Nat) : Int) - 1) = j := by simp [IntKind.wrap, IntKind.bits, IntKind.signed]; omega
      have e2 : (((j + 1 : Nat) : Int) - 1) = j := by omega
      have wj : IntKind.i64.wrap (j : Int) = j := by simp [IntKind.wrap, IntKind.bits, IntKind.signed]; omega
      have al : ∀ (o1 o2 : Obj) (m : Nat) (v : Value), w.cell? ⟨b, m, none⟩ = some v → ((w.alloc o1).alloc o2).drew.cell? ⟨b, m, none⟩ = some v := fun o1 o2 m v h => by
        rw [World.cell?_drew, World.cell?_alloc_some _ _ _ (by rw [World.cell?_alloc_some _ _ _ (by rw [h]; rfl), h]; rfl), World.cell?_alloc_some _ _ _ (by rw [h]; rfl), h]
      have hbl := HB.out.lt
      have a0' := fun o1 o2 => al o1 o2 _ _ c0
      have a1' := fun o1 o2 => al o1 o2 _ _ c1
      have a2' := fun o1 o2 => al o1 o2 _ _ c2
      have a3' := fun o1 o2 => al o1 o2 _ _ c3
      by_cases g : j + 1 < T.length - 1
      · have g' : decide (((j + 1 : Nat) : Int) < (T.length : Int) - 1) = true := by simp; omega
        have q' : decide (ftA T (j + 1) * 100 < alt) = false := by simpa using hab
        clear gq
        go_wp2
        go_region
        all_goals
          clear a0' a1' a2' a3' al
          go_wp2_with (go_at_call 64; refine (FL.out _).mono ?_; rintro e w' ⟨rfl, kd, rfl⟩)
          go_ret
          exact ⟨ret_int V.out.symm, below_drewN ((((Below.refl _ _).alloc (Nat.le_refl _) _).alloc (by simp) _)) _⟩
      · have g' : decide (((j + 1 : Nat) : Int) < (T.length : Int) - 1) = false := by simp; omega
        clear gq
        go_wp2
        go_region
        all_goals
          clear a0' a1' a2' a3' al
          go_wp2_with (go_at_call 64; refine (FL.out _).mono ?_; rintro e w' ⟨rfl, kd, rfl⟩)
          go_ret
          exact ⟨ret_int V.out.symm, below_drewN ((((Below.refl _ _).alloc (Nat.le_refl _) _).alloc (by simp) _)) _⟩
end Go.Proofs.YtnaokohffelklaaDoor
