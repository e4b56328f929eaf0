/-
  The walks of the reference's layer 29: the tables' rows and their values.
-/
import Derived.Test.YtnaokohffelklaaDoorAirRatio
import Derived.Test.YtnaokohffelklaaDoorSqrtRef30
namespace Go.Proofs.YtnaokohffelklaaDoor
set_option linter.unusedVariables false
open Go.RowKit Sq

def ftC (T : List (Int × Int)) : Array Value := (T.map fun r => Value.int .i64 r.1).toArray
def vlC (T : List (Int × Int)) : Array Value := (T.map fun r => Value.int .i64 r.2).toArray
def RowsPost (T : List (Int × Int)) (w : World) (e : Ending) (w' : World) : Prop :=
  e = .returned (.tuple #[.slice (some ⟨w.heap.size, 0, none⟩) T.length T.length, .slice (some ⟨w.heap.size + 1, 0, none⟩) T.length T.length]) ∧ ∃ t u, w' = (w.alloc (.cells (ftC T) t)).alloc (.cells (vlC T) u)
theorem rrows_tmp (w : World) : Calls Tryd.prog 65 #[.int .i64 3] w (RowsPost tmpT w) := by
  go_enter Tryd.func65, Tryd.ntmps65
  go_wp2
  go_ret2
  exact ⟨rfl, _, _, rfl⟩
theorem rrows_rat (w : World) : Calls Tryd.prog 65 #[.int .i64 2] w (RowsPost ratT w) := by
  go_enter Tryd.func65, Tryd.ntmps65
  go_wp2
  go_ret2
  exact ⟨rfl, _, _, rfl⟩
structure RTab (T : List (Int × Int)) (b c : Nat) (w : World) : Prop where
  ft : ∀ i, i < T.length → w.cell? ⟨b, i, none⟩ = some (.int .i64 (ftA T i))
  vl : ∀ i, i < T.length → w.cell? ⟨c, i, none⟩ = some (.int .i64 (vlA T i))
theorem ftC_get (T : List (Int × Int)) (i : Nat) (h : i < T.length) : (ftC T)[i]? = some (.int .i64 (ftA T i)) ∧ (vlC T)[i]? = some (.int .i64 (vlA T i)) := by
  unfold ftC vlC ftA vlA
  rw [List.getElem?_toArray, List.getElem?_toArray, List.getElem?_map, List.getElem?_map, List.getD_eq_getElem?_getD, List.getElem?_eq_getElem h]
  exact ⟨rfl, rfl⟩
theorem rtab_new (T : List (Int × Int)) (w : World) (t u : TypeId) : RTab T w.heap.size (w.heap.size + 1) ((w.alloc (.cells (ftC T) t)).alloc (.cells (vlC T) u)) := by
  refine ⟨fun i h => ?_, fun i h => ?_⟩
  · have e : (w.alloc (.cells (ftC T) t)).cell? ⟨w.heap.size, i, none⟩ = some (.int .i64 (ftA T i)) := by rw [World.cell?_alloc_at _ _ _ _ rfl]; exact (ftC_get T i h).1
    rw [World.cell?_alloc_some _ _ _ (by rw [e]; rfl)]
    exact e
  · rw [World.cell?_alloc_at _ _ _ _ (by simp)]
    exact (ftC_get T i h).2
def RValR (T : List (Int × Int)) (alt : Int) (s : Value) : Prop := ∃ k : Nat, s = .int .i64 k ∧ k + 1 < T.length ∧ Hid (∀ i, 1 ≤ i → i < k + 1 → ftA T i * 100 < alt)
set_option maxHeartbeats 4000000 in
theorem rvalue_any (T : List (Int × Int)) (tn : Int) (alt : Int) (w : World) (hR : ∀ w, Calls Tryd.prog 65 #[.int .i64 tn] w (RowsPost T w)) (hT : TabOk T) (ha : AltOk alt) (hl : ftA T 0 * 100 ≤ alt) (hh : alt ≤ ftA T (T.length - 1) * 100) :
    Calls Tryd.prog 51 #[.int .i64 tn, .int .i64 alt] w fun e w' => e = .returned (.int .i64 (valI T alt)) ∧ Below w.heap.size w w' := by
  have HT := Lib.hid hT
  have HR := Lib.hid hR
  have h2 := hT.len2
  have h3 := hT.len
  have a0 := ha.lo
  have a1 := ha.hi
  clear hT hR
  go_enter Tryd.func51, Tryd.ntmps51
  go_wp2_with fail
  refine (HR.out _).mono ?_
  rintro e w1 ⟨rfl, t, u, hw1⟩
  have HB0 := rtab_new T w t u
  have hbw : Below w.heap.size w w1 := by rw [hw1]; exact (((Below.refl _ _).alloc (Nat.le_refl _) _).alloc (by simp) _)
  rw [← hw1] at HB0
  have HB := Lib.hid HB0
  have HW := Lib.hid hbw
  clear hw1 HB0 hbw
  generalize hwb : w.heap.size = b at *
  have HWB := Lib.hid hwb
  clear hwb
  generalize b + 1 = c at *
  go_wp2_with fail
  go_loop [7] (RValR T alt) (fun s => T.length - (intOf s).toNat)
  case atStart => exact ⟨0, rfl, by omega, Lib.hid fun i h g => absurd h (by omega)⟩
  case round =>
    obtain ⟨k, rfl, k2, hk⟩ := hrel
    have f0 := HT.out.f0 (k + 1)
    have f1 := HT.out.f1 (k + 1)
    have c1 := HB.out.ft (k + 1) k2
    by_cases q : ftA T (k + 1) * 100 < alt
    · have q' : decide (ftA T (k + 1) * 100 < alt) = true := by simpa using q
      have hlt : k + 1 + 1 < T.length := by
        by_cases g : k + 1 = T.length - 1
        · rw [g] at q; omega
        · omega
      go_wp2
      go_round
      case rel =>
        refine ⟨k + 1, by go_num, hlt, Lib.hid fun i h1 h2 => ?_⟩
        by_cases e : i = k + 1
        · rw [e]; exact q
        · exact hk.out i h1 (by omega)
      case measure => simp [intOf]; omega
    · have S0 : IsSeg T alt (k + 1) := ⟨by omega, k2, hk.out, by omega⟩
      have hlow := seg_low S0 hl
      have hV : valI T alt = valS T alt (k + 1) := by
        unfold valI
        rw [IsSeg.uniq (seg_is h2 hh) S0]
      rw [show k + 1 - 1 = k by omega] at hlow
      have hup := HT.out.up k k2
      have f2 := HT.out.f0 k
      have f3 := HT.out.f1 k
      have v0 := HT.out.v0 k
      have v1 := HT.out.v1 k
      have v2 := HT.out.v0 (k + 1)
      have v3 := HT.out.v1 (k + 1)
      have q' : decide (ftA T (k + 1) * 100 < alt) = false := by simpa using q
      have c0 := HB.out.ft k (by omega)
      have c2 := HB.out.vl k (by omega)
      have c3 := HB.out.vl (k + 1) k2
      have V := Lib.hid (show valI T alt = vlA T k + floorI ((vlA T (k + 1) - vlA T k) * (alt - ftA T k * 100)) (ftA T (k + 1) * 100 - ftA T k * 100) by rw [show ftA T (k + 1) * 100 - ftA T k * 100 = (ftA T (k + 1) - ftA T k) * 100 by omega]; exact hV)
      clear q hV S0 hk
      generalize ftA T (k + 1) = p1 at *
      generalize ftA T k = p0 at *
      generalize vlA T (k + 1) = x1 at *
      generalize vlA T k = x0 at *
      obtain ⟨m0, m1⟩ := prod_bd (s := x1 - x0) (m := alt - p0 * 100) (by omega) (by omega) (by omega) (by omega)
      obtain ⟨r0, r1⟩ := floor_bd (p := (x1 - x0) * (alt - p0 * 100)) (c := p1 * 100 - p0 * 100) (by omega) m0 m1
      have FL := Lib.hid fun w => rfloor_any ((x1 - x0) * (alt - p0 * 100)) (p1 * 100 - p0 * 100) w (by omega) (by omega) (by omega) (by omega)
      generalize floorI ((x1 - x0) * (alt - p0 * 100)) (p1 * 100 - p0 * 100) = r at *
      have i0 : (0 : Int) ≤ (k : Int) + 1 := by omega
      have s1 : IntKind.i64.wrap (p1 * 100) = p1 * 100 := IntWalk.i64_in _ (by omega)
      have s2 : IntKind.i64.wrap (p0 * 100) = p0 * 100 := IntWalk.i64_in _ (by omega)
      have s3 : IntKind.i64.wrap (x1 - x0) = x1 - x0 := IntWalk.i64_in _ (by omega)
      have s4 : IntKind.i64.wrap (alt - p0 * 100) = alt - p0 * 100 := IntWalk.i64_in _ (by omega)
      have s5 : IntKind.i64.wrap ((x1 - x0) * (alt - p0 * 100)) = (x1 - x0) * (alt - p0 * 100) := IntWalk.i64_in _ (by omega)
      have s6 : IntKind.i64.wrap (p1 * 100 - p0 * 100) = p1 * 100 - p0 * 100 := IntWalk.i64_in _ (by omega)
      have i1 : IntKind.i64.wrap ((k : Int) + 1) = (k : Int) + 1 := IntWalk.i64_in _ (by omega)
      have i2 : ((k : Int) + 1).toNat = k + 1 := by omega
      go_wp2_with fail
      go_quiet (fail)
      go_wp2_with fail
      go_quiet ((go_at_call 66; first | exact quiet_left (FL.out _) | exact quiet_add_left (FL.out _)))
      clear i1 i2 s1 s2 s3 s4 s5 s6
      go_wp2
      go_ret
      exact ⟨ret_int V.out.symm, by rw [HWB.out]; exact below_drewN HW.out _⟩
theorem rvalue_rat (alt : Int) (w : World) (ha : AltOk alt) : Calls Tryd.prog 51 #[.int .i64 2, .int .i64 alt] w fun e w' => e = .returned (.int .i64 (valI ratT alt)) ∧ Below w.heap.size w w' :=
  rvalue_any ratT 2 alt w rrows_rat rat_ok ha (by have := ha.lo; show -2000 * 100 ≤ alt; omega) (by have := ha.hi; show alt ≤ 60000 * 100; omega)
theorem rvalue_tmp (alt : Int) (w : World) (ha : AltOk alt) : Calls Tryd.prog 51 #[.int .i64 3, .int .i64 alt] w fun e w' => e = .returned (.int .i64 (valI tmpT alt)) ∧ Below w.heap.size w w' :=
  rvalue_any tmpT 3 alt w rrows_tmp tmp_ok ha (by have := ha.lo; show -2000 * 100 ≤ alt; omega) (by have := ha.hi; show alt ≤ 60000 * 100; omega)
theorem ready_any (alt dev : Int) (w : World) :
    Calls Tryd.prog 50 #[.int .i64 alt, .int .i64 dev] w fun e w' => e = .returned (.int .i64 (chkI alt dev)) ∧ w = w' := by
  by_cases h1 : alt < -200000
  · have E := Lib.hid (show chkI alt dev = 2 by unfold chkI outB; simp [h1])
    have g1 : decide (alt < -200000) = true := by simpa using h1
    clear h1
    go_enter Tryd.func50, Tryd.ntmps50
    go_wp2
    go_ret
    exact ⟨ret_n E.out.symm, rfl⟩
  · have g1 : decide (alt < -200000) = false := by simpa using h1
    by_cases h2 : 6000000 < alt
    · have E := Lib.hid (show chkI alt dev = 2 by unfold chkI outB; simp [h2])
      have g2 : decide (6000000 < alt) = true := by simpa using h2
      clear h1 h2
      go_enter Tryd.func50, Tryd.ntmps50
      go_wp2
      go_ret
      exact ⟨ret_n E.out.symm, rfl⟩
    · have g2 : decide (6000000 < alt) = false := by simpa using h2
      by_cases h3 : dev < -4000
      · have E := Lib.hid (show chkI alt dev = 1 by unfold chkI outB; simp [h1, h2, h3])
        have g3 : decide (dev < -4000) = true := by simpa using h3
        clear h1 h2 h3
        go_enter Tryd.func50, Tryd.ntmps50
        go_wp2
        go_ret
        exact ⟨ret_n E.out.symm, rfl⟩
      · have g3 : decide (dev < -4000) = false := by simpa using h3
        by_cases h4 : 4000 < dev
        · have E := Lib.hid (show chkI alt dev = 1 by unfold chkI outB; simp [h1, h2, h4])
          have g4 : decide (4000 < dev) = true := by simpa using h4
          clear h1 h2 h3 h4
          go_enter Tryd.func50, Tryd.ntmps50
          go_wp2
          go_ret
          exact ⟨ret_n E.out.symm, rfl⟩
        · have E := Lib.hid (show chkI alt dev = 0 by unfold chkI outB; simp [h1, h2, h3, h4])
          have g4 : decide (4000 < dev) = false := by simpa using h4
          clear h1 h2 h3 h4
          go_enter Tryd.func50, Tryd.ntmps50
          go_wp2
          go_ret
          exact ⟨ret_n E.out.symm, rfl⟩
end Go.Proofs.YtnaokohffelklaaDoor
