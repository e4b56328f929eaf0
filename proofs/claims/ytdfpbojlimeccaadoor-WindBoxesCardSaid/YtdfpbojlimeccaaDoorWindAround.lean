/-
  The walk of wind's Around: the set of the winds that differ by at most an error.
-/
import Derived.Test.YtdfpbojlimeccaaDoorWindSets
import Derived.Deep.RegionWith
namespace Go.Proofs.YtdfpbojlimeccaaDoor
set_option linter.unusedVariables false
open Go.RowKit Tr Sq

theorem winds_cut (n err : Int) (a : Addr) (w : World) (n0 : -400 ≤ n) (n1 : n ≤ 400) (h0 : 0 ≤ err) (h1 : err ≤ 400) (hc : w.cell? a = some (.int .i64 err)) :
    Calls Tryd.prog 63 #[.int .i64 n, .pointer (some a)] w fun e w' => e = .returned (.agg #[.int .i64 (max (n - err) (-400)), .int .i64 (min (n + err) 400)]) ∧ Below w.heap.size w w' := by
  have hlt := World.block_lt_of_cell? _ _ hc
  have hc2 : ∀ o, (w.alloc o).cell? a = some (.int .i64 err) := fun o => (World.cell?_alloc_lt w o a hlt).trans hc
  go_enter Tryd.func63, Tryd.ntmps63
  go_wp2
  exact bodyPost_ret (v := .agg #[.int .i64 (max (n - err) (-400)), .int .i64 (min (n + err) 400)]) (by simp [results, Tryd.results63, go_sem]) rfl ⟨rfl, (Below.refl _ _).alloc (Nat.le_refl _) _⟩

def RetBx (r : Int × Int × Int × Int × Int) (w : World) (e : Ending) (w' : World) : Prop := e = .returned (.tuple #[.agg #[.int .i64 r.1, .int .i64 r.2.1, .int .i64 r.2.2.1, .int .i64 r.2.2.2.1], .int .i64 r.2.2.2.2]) ∧ Below w.heap.size w w'
def aroundF (x n err : Int) : Int × Int × Int × Int × Int := if vldW x n = true ∧ 0 ≤ err ∧ err ≤ 400 then (max (x - err) (-400), min (x + err) 400, max (n - err) (-400), min (n + err) 400, 0) else (0, 0, 0, 0, 1)
set_option maxHeartbeats 2000000 in
theorem around_any (x n err : Int) (w : World) : Calls Tryd.prog 31 #[.agg #[.int .i64 x, .int .i64 n], .int .i64 err] w (RetBx (aroundF x n err) w) := by
  have V1 := Lib.hid (fun w => valid_any x n w)
  cases hv : vldW x n with
  | false =>
    rw [hv] at V1
    have E1 := Lib.hid (show aroundF x n err = (0, 0, 0, 0, 1) by unfold aroundF; rw [if_neg (by rw [hv]; simp)])
    clear hv
    go_enter Tryd.func31, Tryd.ntmps31
    go_wp2_with fail
    refine (V1.out _).mono ?_
    rintro e w1 ⟨rfl, hb⟩
    obtain ⟨hc, hf⟩ := bcell hb
    have hA : Below w.heap.size w w1 := ((((Below.refl _ _).alloc (Nat.le_refl _) _).alloc (by simp) _).alloc (by simp; omega) _).trans (hb.mono (by simp; omega))
    have hz : w.heap.size + 1 + 1 < w1.heap.size := by have := hb.size; simp at this; omega
    have c0 : w1.cell? ⟨w.heap.size, 0, none⟩ = some (.int .i64 x) := (hc _ _ (by simp; omega)).trans (by go_simp)
    have c1 : w1.cell? ⟨w.heap.size, 1, none⟩ = some (.int .i64 n) := (hc _ _ (by simp; omega)).trans (by go_simp)
    have c2 : w1.cell? ⟨w.heap.size + 1, 0, none⟩ = some (.int .i64 err) := (hc _ _ (by simp)).trans (by go_simp)
    have z0 : w1.cell? ⟨w.heap.size + 1 + 1, 0, none⟩ = some (.int .i64 0) := (hc _ _ (by simp)).trans (by go_simp)
    have f0 : w1.frozen? ⟨w.heap.size + 1 + 1, 0, none⟩ = false := (hf _ _ (by simp)).trans (by go_simp)
    have z1 : w1.cell? ⟨w.heap.size + 1 + 1, 1, none⟩ = some (.int .i64 0) := (hc _ _ (by simp)).trans (by go_simp)
    have f1 : w1.frozen? ⟨w.heap.size + 1 + 1, 1, none⟩ = false := (hf _ _ (by simp)).trans (by go_simp)
    have z2 : w1.cell? ⟨w.heap.size + 1 + 1, 2, none⟩ = some (.int .i64 0) := (hc _ _ (by simp)).trans (by go_simp)
    have f2 : w1.frozen? ⟨w.heap.size + 1 + 1, 2, none⟩ = false := (hf _ _ (by simp)).trans (by go_simp)
    have z3 : w1.cell? ⟨w.heap.size + 1 + 1, 3, none⟩ = some (.int .i64 0) := (hc _ _ (by simp)).trans (by go_simp)
    have f3 : w1.frozen? ⟨w.heap.size + 1 + 1, 3, none⟩ = false := (hf _ _ (by simp)).trans (by go_simp)
    clear hc hf
    go_wp2
    exact bodyPost_ret (v := .tuple #[.agg #[.int .i64 0, .int .i64 0, .int .i64 0, .int .i64 0], .int .i64 1]) (by simp [results, Tryd.results31, go_sem, z0, z1, z2, z3]) rfl ⟨by rw [E1.out], (((hA.setCell (by simp; omega) _).setCell (by simp; omega) _).setCell (by simp; omega) _).setCell (by simp; omega) _⟩
  | true =>
    rw [hv] at V1
    by_cases h1 : err < 0
    · have E1 := Lib.hid (show aroundF x n err = (0, 0, 0, 0, 1) by unfold aroundF; rw [if_neg (by omega)])
      have k1 : decide (err < 0) = true := by simpa using h1
      clear hv
      go_enter Tryd.func31, Tryd.ntmps31
      go_wp2_with fail
      refine (V1.out _).mono ?_
      rintro e w1 ⟨rfl, hb⟩
      obtain ⟨hc, hf⟩ := bcell hb
      have hA : Below w.heap.size w w1 := ((((Below.refl _ _).alloc (Nat.le_refl _) _).alloc (by simp) _).alloc (by simp; omega) _).trans (hb.mono (by simp; omega))
      have hz : w.heap.size + 1 + 1 < w1.heap.size := by have := hb.size; simp at this; omega
      have c0 : w1.cell? ⟨w.heap.size, 0, none⟩ = some (.int .i64 x) := (hc _ _ (by simp; omega)).trans (by go_simp)
      have c1 : w1.cell? ⟨w.heap.size, 1, none⟩ = some (.int .i64 n) := (hc _ _ (by simp; omega)).trans (by go_simp)
      have c2 : w1.cell? ⟨w.heap.size + 1, 0, none⟩ = some (.int .i64 err) := (hc _ _ (by simp)).trans (by go_simp)
      have z0 : w1.cell? ⟨w.heap.size + 1 + 1, 0, none⟩ = some (.int .i64 0) := (hc _ _ (by simp)).trans (by go_simp)
      have f0 : w1.frozen? ⟨w.heap.size + 1 + 1, 0, none⟩ = false := (hf _ _ (by simp)).trans (by go_simp)
      have z1 : w1.cell? ⟨w.heap.size + 1 + 1, 1, none⟩ = some (.int .i64 0) := (hc _ _ (by simp)).trans (by go_simp)
      have f1 : w1.frozen? ⟨w.heap.size + 1 + 1, 1, none⟩ = false := (hf _ _ (by simp)).trans (by go_simp)
      have z2 : w1.cell? ⟨w.heap.size + 1 + 1, 2, none⟩ = some (.int .i64 0) := (hc _ _ (by simp)).trans (by go_simp)
      have f2 : w1.frozen? ⟨w.heap.size + 1 + 1, 2, none⟩ = false := (hf _ _ (by simp)).trans (by go_simp)
      have z3 : w1.cell? ⟨w.heap.size + 1 + 1, 3, none⟩ = some (.int .i64 0) := (hc _ _ (by simp)).trans (by go_simp)
      have f3 : w1.frozen? ⟨w.heap.size + 1 + 1, 3, none⟩ = false := (hf _ _ (by simp)).trans (by go_simp)
      clear hc hf
      go_wp2
      exact bodyPost_ret (v := .tuple #[.agg #[.int .i64 0, .int .i64 0, .int .i64 0, .int .i64 0], .int .i64 1]) (by simp [results, Tryd.results31, go_sem, z0, z1, z2, z3]) rfl ⟨by rw [E1.out], (((hA.setCell (by simp; omega) _).setCell (by simp; omega) _).setCell (by simp; omega) _).setCell (by simp; omega) _⟩
    by_cases h2 : 400 < err
    · have E1 := Lib.hid (show aroundF x n err = (0, 0, 0, 0, 1) by unfold aroundF; rw [if_neg (by omega)])
      have k1 : decide (err < 0) = false := by simpa using h1
      have k2 : decide (400 < err) = true := by simpa using h2
      clear hv
      go_enter Tryd.func31, Tryd.ntmps31
      go_wp2_with fail
      refine (V1.out _).mono ?_
      rintro e w1 ⟨rfl, hb⟩
      obtain ⟨hc, hf⟩ := bcell hb
      have hA : Below w.heap.size w w1 := ((((Below.refl _ _).alloc (Nat.le_refl _) _).alloc (by simp) _).alloc (by simp; omega) _).trans (hb.mono (by simp; omega))
      have hz : w.heap.size + 1 + 1 < w1.heap.size := by have := hb.size; simp at this; omega
      have c0 : w1.cell? ⟨w.heap.size, 0, none⟩ = some (.int .i64 x) := (hc _ _ (by simp; omega)).trans (by go_simp)
      have c1 : w1.cell? ⟨w.heap.size, 1, none⟩ = some (.int .i64 n) := (hc _ _ (by simp; omega)).trans (by go_simp)
      have c2 : w1.cell? ⟨w.heap.size + 1, 0, none⟩ = some (.int .i64 err) := (hc _ _ (by simp)).trans (by go_simp)
      have z0 : w1.cell? ⟨w.heap.size + 1 + 1, 0, none⟩ = some (.int .i64 0) := (hc _ _ (by simp)).trans (by go_simp)
      have f0 : w1.frozen? ⟨w.heap.size + 1 + 1, 0, none⟩ = false := (hf _ _ (by simp)).trans (by go_simp)
      have z1 : w1.cell? ⟨w.heap.size + 1 + 1, 1, none⟩ = some (.int .i64 0) := (hc _ _ (by simp)).trans (by go_simp)
      have f1 : w1.frozen? ⟨w.heap.size + 1 + 1, 1, none⟩ = false := (hf _ _ (by simp)).trans (by go_simp)
      have z2 : w1.cell? ⟨w.heap.size + 1 + 1, 2, none⟩ = some (.int .i64 0) := (hc _ _ (by simp)).trans (by go_simp)
      have f2 : w1.frozen? ⟨w.heap.size + 1 + 1, 2, none⟩ = false := (hf _ _ (by simp)).trans (by go_simp)
      have z3 : w1.cell? ⟨w.heap.size + 1 + 1, 3, none⟩ = some (.int .i64 0) := (hc _ _ (by simp)).trans (by go_simp)
      have f3 : w1.frozen? ⟨w.heap.size + 1 + 1, 3, none⟩ = false := (hf _ _ (by simp)).trans (by go_simp)
      clear hc hf
      go_wp2
      exact bodyPost_ret (v := .tuple #[.agg #[.int .i64 0, .int .i64 0, .int .i64 0, .int .i64 0], .int .i64 1]) (by simp [results, Tryd.results31, go_sem, z0, z1, z2, z3]) rfl ⟨by rw [E1.out], (((hA.setCell (by simp; omega) _).setCell (by simp; omega) _).setCell (by simp; omega) _).setCell (by simp; omega) _⟩
    have k1 : decide (err < 0) = false := by simpa using h1
    have k2 : decide (400 < err) = false := by simpa using h2
    have E1 := Lib.hid (show aroundF x n err = (max (x - err) (-400), min (x + err) 400, max (n - err) (-400), min (n + err) 400, 0) by unfold aroundF; rw [if_pos ⟨hv, by omega, by omega⟩])
    obtain ⟨v1, v2, v3, v4⟩ := vldW_iff.1 hv
    clear hv
    go_enter Tryd.func31, Tryd.ntmps31
    go_wp2_with fail
    refine (V1.out _).mono ?_
    rintro e w1 ⟨rfl, hb⟩
    obtain ⟨hc, hf⟩ := bcell hb
    have hA : Below w.heap.size w w1 := ((((Below.refl _ _).alloc (Nat.le_refl _) _).alloc (by simp) _).alloc (by simp; omega) _).trans (hb.mono (by simp; omega))
    have hz : w.heap.size + 1 + 1 < w1.heap.size := by have := hb.size; simp at this; omega
    have c0 : w1.cell? ⟨w.heap.size, 0, none⟩ = some (.int .i64 x) := (hc _ _ (by simp; omega)).trans (by go_simp)
    have c1 : w1.cell? ⟨w.heap.size, 1, none⟩ = some (.int .i64 n) := (hc _ _ (by simp; omega)).trans (by go_simp)
    have c2 : w1.cell? ⟨w.heap.size + 1, 0, none⟩ = some (.int .i64 err) := (hc _ _ (by simp)).trans (by go_simp)
    have z0 : w1.cell? ⟨w.heap.size + 1 + 1, 0, none⟩ = some (.int .i64 0) := (hc _ _ (by simp)).trans (by go_simp)
    have f0 : w1.frozen? ⟨w.heap.size + 1 + 1, 0, none⟩ = false := (hf _ _ (by simp)).trans (by go_simp)
    have z1 : w1.cell? ⟨w.heap.size + 1 + 1, 1, none⟩ = some (.int .i64 0) := (hc _ _ (by simp)).trans (by go_simp)
    have f1 : w1.frozen? ⟨w.heap.size + 1 + 1, 1, none⟩ = false := (hf _ _ (by simp)).trans (by go_simp)
    have z2 : w1.cell? ⟨w.heap.size + 1 + 1, 2, none⟩ = some (.int .i64 0) := (hc _ _ (by simp)).trans (by go_simp)
    have f2 : w1.frozen? ⟨w.heap.size + 1 + 1, 2, none⟩ = false := (hf _ _ (by simp)).trans (by go_simp)
    have z3 : w1.cell? ⟨w.heap.size + 1 + 1, 3, none⟩ = some (.int .i64 0) := (hc _ _ (by simp)).trans (by go_simp)
    have f3 : w1.frozen? ⟨w.heap.size + 1 + 1, 3, none⟩ = false := (hf _ _ (by simp)).trans (by go_simp)
    go_wp2_with fail
    clear hc hf
    go_region_with (first
      | (go_simp; go_at_call 63; (with_reducible refine (winds_cut x err _ _ (by omega) (by omega) (by omega) (by omega) (by go_simp)).mono ?_); rintro e w2 ⟨rfl, hb2⟩; have d0 := (hb2.cell (p := ⟨w.heap.size, 1, none⟩) (by simp; omega)).trans (show _ = some (Value.int .i64 n) by go_simp); have d1 := (hb2.cell (p := ⟨w.heap.size + 1, 0, none⟩) (by simp; omega)).trans (show _ = some (Value.int .i64 err) by go_simp); have hz2 : w.heap.size + 1 + 1 < w2.heap.size := (by have := hb2.size; simp at this; omega); have x0 := (hb2.cell (p := ⟨w.heap.size + 1 + 1, 0, none⟩) (by simp; omega)).trans (show _ = some (Value.int .i64 0) by go_simp); have g0 := (hb2.frozen (p := ⟨w.heap.size + 1 + 1, 0, none⟩) (by simp; omega)).trans (show _ = false by go_simp); have x1 := (hb2.cell (p := ⟨w.heap.size + 1 + 1, 1, none⟩) (by simp; omega)).trans (show _ = some (Value.int .i64 0) by go_simp); have g1 := (hb2.frozen (p := ⟨w.heap.size + 1 + 1, 1, none⟩) (by simp; omega)).trans (show _ = false by go_simp); have x2 := (hb2.cell (p := ⟨w.heap.size + 1 + 1, 2, none⟩) (by simp; omega)).trans (show _ = some (Value.int .i64 0) by go_simp); have g2 := (hb2.frozen (p := ⟨w.heap.size + 1 + 1, 2, none⟩) (by simp; omega)).trans (show _ = false by go_simp); have x3 := (hb2.cell (p := ⟨w.heap.size + 1 + 1, 3, none⟩) (by simp; omega)).trans (show _ = some (Value.int .i64 0) by go_simp); have g3 := (hb2.frozen (p := ⟨w.heap.size + 1 + 1, 3, none⟩) (by simp; omega)).trans (show _ = false by go_simp))
      | (go_simp; go_at_call 63; (with_reducible refine (winds_cut n err _ _ (by omega) (by omega) (by omega) (by omega) (by first | assumption | go_simp)).mono ?_); rintro e w3 ⟨rfl, hb3⟩; have hz3 : w.heap.size + 1 + 1 < w3.heap.size := Nat.lt_of_lt_of_le hz2 hb3.size; have y0 := (hb3.cell (p := ⟨w.heap.size + 1 + 1, 0, none⟩) hz2).trans x0; have j0 := (hb3.frozen (p := ⟨w.heap.size + 1 + 1, 0, none⟩) hz2).trans g0; have y1 := (hb3.cell (p := ⟨w.heap.size + 1 + 1, 1, none⟩) hz2).trans x1; have j1 := (hb3.frozen (p := ⟨w.heap.size + 1 + 1, 1, none⟩) hz2).trans g1; have y2 := (hb3.cell (p := ⟨w.heap.size + 1 + 1, 2, none⟩) hz2).trans x2; have j2 := (hb3.frozen (p := ⟨w.heap.size + 1 + 1, 2, none⟩) hz2).trans g2; have y3 := (hb3.cell (p := ⟨w.heap.size + 1 + 1, 3, none⟩) hz2).trans x3; have j3 := (hb3.frozen (p := ⟨w.heap.size + 1 + 1, 3, none⟩) hz2).trans g3))
    all_goals go_wp2
    all_goals exact bodyPost_ret (v := .tuple #[.agg #[.int .i64 (max (x - err) (-400)), .int .i64 (min (x + err) 400), .int .i64 (max (n - err) (-400)), .int .i64 (min (n + err) 400)], .int .i64 0]) (by simp [results, Tryd.results31, go_sem, y0, y1, y2, y3]) rfl ⟨by rw [E1.out], (((((hA.trans ((Below.refl w1.heap.size w1).drew.mono hA.size)).trans (hb2.mono (by have := hA.size; simp; omega))).trans (hb3.mono (by omega))).setCell (by simp; omega) _).setCell (by simp; omega) _).setCell (by simp; omega) _ |>.setCell (by simp; omega) _⟩
end Go.Proofs.YtdfpbojlimeccaaDoor
