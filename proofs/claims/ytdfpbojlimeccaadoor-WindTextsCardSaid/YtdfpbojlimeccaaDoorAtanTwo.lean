/-
  The walks of trig.greatest, Atan2 and Hypot, and of the integer root of layer 1.
-/
import Derived.Test.YtdfpbojlimeccaaDoorAtanWalks
namespace Go.Proofs.YtdfpbojlimeccaaDoor
set_option linter.unusedVariables false
open Go.RowKit Tr Sq

set_option maxHeartbeats 1000000 in
theorem greatest_closure (i m n : Int) (a1 a2 a3 : Addr) (w : World) (hc0 : 0 ≤ i) (hc1 : i < 16200000) (hm0 : 0 ≤ m) (hm1 : m ≤ 4294967296) (hn0 : 0 ≤ n) (hn1 : n ≤ 4294967296)
    (h1 : w.cell? a1 = some (.int .i64 m)) (h2 : w.cell? a2 = some (.int .i64 n)) (h3 : w.cell? a3 = some (.func (.func 69) #[] #[.pointer (some a1), .pointer (some a2)])) :
    Calls Tryd.prog 81 #[.int .i64 i, .pointer (some a3)] w fun e w' => e = .returned (.bool (!okB m n (i + 1))) ∧ Below w.heap.size w w' := by
  go_enter Tryd.func81, Tryd.ntmps81
  go_wp2_with (go_at_call 69; refine (atan_closure _ m n _ _ _ (by omega) (by omega) hm0 hm1 hn0 hn1 h1 h2).mono ?_; rintro e w' ⟨rfl, hb⟩)
  go_ret
  exact ⟨rfl, hb⟩

theorem top_of_cutoff {m n k : Int} (hm : 0 ≤ m) (hn : 0 ≤ n) (h : Cutoff (fun i => !okB m n (i + 1)) 16200000 k) : k = topI m n := by
  refine IsTop.uniq (ok := okI m n) (most := 16200000) ⟨h.lo, h.hi, ?_, ?_⟩ (topI_top hm hn)
  · by_cases hk : k = 0
    · subst hk; exact okI_0 hn
    · have := h.no (k - 1) (by have := h.lo; omega) (by omega)
      have e : k - 1 + 1 = k := by omega
      rw [e] at this
      unfold okB at this
      unfold okI
      simpa using this
  · intro d h1 h2 hd
    have := h.yes (d - 1) (by omega) (by omega)
    have e : d - 1 + 1 = d := by omega
    rw [e] at this
    unfold okB at this
    unfold okI at hd
    simp at this
    omega

theorem okB_mono {m n : Int} (hm : 0 ≤ m) (hn : 0 ≤ n) (a b : Int) (h0 : 0 ≤ a) (hab : a ≤ b) (hb : b < 16200000) (h : (!okB m n (a + 1)) = true) : (!okB m n (b + 1)) = true := by
  cases hB : okB m n (b + 1) with
  | false => rfl
  | true =>
    exfalso
    have := okI_down hm hn (c := a + 1) (d := b + 1) (by omega) (by omega) (by omega) (by unfold okB at hB; unfold okI; simpa using hB)
    unfold okI at this
    unfold okB at h
    simp at h
    omega

set_option maxHeartbeats 1000000 in
theorem greatest_any (m n : Int) (a1 a2 : Addr) (w : World) (hm0 : 0 ≤ m) (hm1 : m ≤ 4294967296) (hn0 : 0 ≤ n) (hn1 : n ≤ 4294967296)
    (h1 : w.cell? a1 = some (.int .i64 m)) (h2 : w.cell? a2 = some (.int .i64 n)) :
    Calls Tryd.prog 68 #[.int .i64 16200000, .func (.func 69) #[] #[.pointer (some a1), .pointer (some a2)]] w fun e w' => e = .returned (.int .i64 (topI m n)) ∧ Below w.heap.size w w' := by
  have hb1 := World.block_lt_of_cell? _ _ h1
  have hb2 := World.block_lt_of_cell? _ _ h2
  have M := Lib.hid (okB_mono hm0 hn0)
  have T := Lib.hid (fun k => top_of_cutoff (k := k) hm0 hn0)
  go_enter Tryd.func68, Tryd.ntmps68
  go_wp2_with fail
  refine (search_octant (fun i => !okB m n (i + 1)) ⟨w.heap.size, 0, none⟩ _ (fun W hW i g0 g1 => ?hf) M.out).mono ?_
  case hf =>
    have hW' : Below (w.heap.size + 1) _ W := hW.mono (by simp)
    exact greatest_closure i m n a1 a2 ⟨w.heap.size, 0, none⟩ W g0 g1 hm0 hm1 hn0 hn1
      ((hW'.cell (p := a1) (by omega)).trans ((World.cell?_alloc_lt w _ a1 hb1).trans h1))
      ((hW'.cell (p := a2) (by omega)).trans ((World.cell?_alloc_lt w _ a2 hb2).trans h2))
      ((hW'.cell (p := ⟨w.heap.size, 0, none⟩) (by simp)).trans (by rw [World.cell?_alloc_at _ _ _ _ (by simp)]; rfl))
  rintro e w' ⟨k, rfl, hk, hb⟩
  obtain rfl := T.out k hk
  go_wp2
  go_ret
  exact ⟨rfl, ((Below.refl _ _).alloc (Nat.le_refl _) _).trans (hb.mono (by simp))⟩
end Go.Proofs.YtdfpbojlimeccaaDoor
