/-
  The walk of layer 44's pairs at each of the two closures.
-/
import Derived.Test.YtmlopbolekddnaaExcTwo
namespace Go.Proofs.Ytmlopbolekddnaa
set_option linter.unusedVariables false
open Go.RowKit

def pairsUpto (l : List Ms) (i : Nat) : List (Ms × Ms) := (List.range i).flatMap fun k => (l.take k).map fun n => (nth l k, n)
def pairsAt (l : List Ms) (i j : Nat) : List (Ms × Ms) := pairsUpto l i ++ (l.take j).map fun n => (nth l i, n)
def pairsL (l : List Ms) : List (Ms × Ms) := pairsUpto l l.length
theorem pairsAt_zero (l : List Ms) (i : Nat) : pairsAt l i 0 = pairsUpto l i := by unfold pairsAt; simp
theorem pairsAt_full (l : List Ms) (i : Nat) : pairsAt l i i = pairsUpto l (i + 1) := by
  unfold pairsAt pairsUpto
  rw [List.range_succ, List.flatMap_append]
  simp
theorem pairsAt_succ {l : List Ms} {i j : Nat} (h : j < l.length) : pairsAt l i (j + 1) = pairsAt l i j ++ [(nth l i, nth l j)] := by
  unfold pairsAt
  rw [take_nth h, List.map_append, ← List.append_assoc]
  rfl
theorem pairsUpto_len (l : List Ms) (i : Nat) : (pairsUpto l i).length ≤ i * l.length := by
  induction i with
  | zero => simp [pairsUpto]
  | succ i ih =>
    rw [← pairsAt_full]
    unfold pairsAt
    rw [List.length_append, List.length_map, List.length_take, Nat.succ_mul]
    omega
theorem pairsAt_len {l : List Ms} {i j : Nat} (hl : l.length ≤ 17) (hi : i < l.length) : (pairsAt l i j).length ≤ 306 := by
  unfold pairsAt
  rw [List.length_append, List.length_map, List.length_take]
  have := pairsUpto_len l i
  have h2 : i * l.length ≤ 17 * 17 := Nat.mul_le_mul (by omega) hl
  omega
/-- two measurements are a pair of the list exactly if the second stands before the first -/
theorem mem_pairs {l : List Ms} {p : Ms × Ms} : p ∈ pairsL l ↔ ∃ i j, j < i ∧ i < l.length ∧ p = (nth l i, nth l j) := by
  unfold pairsL pairsUpto
  rw [List.mem_flatMap]
  constructor
  · rintro ⟨k, hk, hp⟩
    rw [List.mem_range] at hk
    rw [List.mem_map] at hp
    obtain ⟨n, hn, rfl⟩ := hp
    obtain ⟨j, hj, rfl⟩ := List.getElem_of_mem hn
    rw [List.length_take] at hj
    refine ⟨k, j, by omega, hk, ?_⟩
    rw [List.getElem_take, nth_eq (show j < l.length by omega)]
  · rintro ⟨i, j, hj, hi, rfl⟩
    refine ⟨i, List.mem_range.2 hi, List.mem_map.2 ⟨nth l j, ?_, rfl⟩⟩
    rw [nth_eq (show j < l.length by omega)]
    rw [List.mem_take_iff_getElem]
    exact ⟨j, by omega, rfl⟩
/-- what was there and is not owned is as it was -/
structure KeepX (Own : World → Nat → Prop) (W w' : World) : Prop where
  size : W.heap.size ≤ w'.heap.size
  keep : ∀ k, k < W.heap.size → ¬ Own W k → w'.heap[k]? = W.heap[k]? ∧ ¬ Own w' k
/-- what a closure is called with: an invariant of pairs and world -/
structure InvX (l : List Ms) (b o : Nat) (Inv : List (Ms × Ms) → World → Prop) (Own : World → Nat → Prop) : Prop where
  at' : ∀ acc W, Inv acc W → MsAt l b o W
  alloc : ∀ acc W ob, Inv acc W → Inv acc (W.alloc ob) ∧ ¬ Own (W.alloc ob) W.heap.size ∧ ∀ k, k < W.heap.size → ¬ Own W k → ¬ Own (W.alloc ob) k
/-- a measurement's copy in a block of its own -/
structure CopyAt (m : Ms) (bm : Nat) (W : World) : Prop where
  lt : bm < W.heap.size
  c0 : W.cell? ⟨bm, 0, none⟩ = some (.int .i64 m.s)
  c1 : W.cell? ⟨bm, 1, none⟩ = some (.int .i64 m.a)
  c2 : W.cell? ⟨bm, 2, none⟩ = some (.int .i64 m.b)
  c3 : W.cell? ⟨bm, 3, none⟩ = some (.int .i64 m.z)
  c4 : W.cell? ⟨bm, 4, none⟩ = some (.int .i64 m.d)
  c5 : W.cell? ⟨bm, 5, none⟩ = some (.int .i64 m.w)
theorem copy_new (m : Ms) (w : World) (t : TypeId) : CopyAt m w.heap.size (w.alloc (.cells #[.int .i64 m.s, .int .i64 m.a, .int .i64 m.b, .int .i64 m.z, .int .i64 m.d, .int .i64 m.w] t)) :=
  ⟨by simp, by rw [World.cell?_alloc_at _ _ _ _ rfl]; rfl, by rw [World.cell?_alloc_at _ _ _ _ rfl]; rfl, by rw [World.cell?_alloc_at _ _ _ _ rfl]; rfl, by rw [World.cell?_alloc_at _ _ _ _ rfl]; rfl, by rw [World.cell?_alloc_at _ _ _ _ rfl]; rfl, by rw [World.cell?_alloc_at _ _ _ _ rfl]; rfl⟩
theorem CopyAt.same {m : Ms} {bm : Nat} {W w' : World} (h : CopyAt m bm W) (hk : w'.heap[bm]? = W.heap[bm]?) (hs : W.heap.size ≤ w'.heap.size) : CopyAt m bm w' :=
  ⟨Nat.lt_of_lt_of_le h.lt hs, (World.cell?_of_block (w := W) (a := ⟨bm, 0, none⟩) hk).trans h.c0, (World.cell?_of_block (w := W) (a := ⟨bm, 1, none⟩) hk).trans h.c1, (World.cell?_of_block (w := W) (a := ⟨bm, 2, none⟩) hk).trans h.c2, (World.cell?_of_block (w := W) (a := ⟨bm, 3, none⟩) hk).trans h.c3, (World.cell?_of_block (w := W) (a := ⟨bm, 4, none⟩) hk).trans h.c4, (World.cell?_of_block (w := W) (a := ⟨bm, 5, none⟩) hk).trans h.c5⟩
theorem CopyAt.below {m : Ms} {bm : Nat} {W w' : World} (h : CopyAt m bm W) (hb : Below W.heap.size W w') : CopyAt m bm w' := h.same (hb.block bm h.lt) hb.size
def R1full (l : List Ms) (Inv : List (Ms × Ms) → World → Prop) (v : Value) (W : World) : Prop := ∃ i : Nat, v = .int .i64 i ∧ i ≤ l.length ∧ Hid (Inv (pairsUpto l i) W)
def R2full (l : List Ms) (Inv : List (Ms × Ms) → World → Prop) (Own : World → Nat → Prop) (i bm : Nat) (v : Value) (W : World) : Prop := ∃ j : Nat, v = .int .i64 j ∧ j ≤ i ∧ Hid (Inv (pairsAt l i j) W) ∧ Hid (CopyAt (nth l i) bm W) ∧ Hid (¬ Own W bm)
set_option maxHeartbeats 4000000 in
theorem pairs_full (l : List Ms) (b o cap : Nat) (w0 : World) (a0 : Addr) (Inv : List (Ms × Ms) → World → Prop) (Own : World → Nat → Prop) (hl : l.length ≤ 17) (hc : l.length ≤ cap) (hm : cap ≤ 9223372036854775807)
    (hX : InvX l b o Inv Own) (h0 : Inv [] w0)
    (hstep : ∀ acc m n W, m ∈ l → n ∈ l → acc.length ≤ 306 → Inv acc W → Calls Try.prog 52 #[.agg #[.int .i64 m.s, .int .i64 m.a, .int .i64 m.b, .int .i64 m.z, .int .i64 m.d, .int .i64 m.w], .agg #[.int .i64 n.s, .int .i64 n.a, .int .i64 n.b, .int .i64 n.z, .int .i64 n.d, .int .i64 n.w], .pointer (some a0)] W
      fun e w' => e = .returned (.tuple #[]) ∧ Inv (acc ++ [(m, n)]) w' ∧ KeepX Own W w') :
    Calls Try.prog 51 #[.slice (some ⟨b, o, none⟩) l.length cap, .func (.func 52) #[] #[.pointer (some a0)]] w0 fun e w' => e = .returned (.tuple #[]) ∧ Inv (pairsL l) w' := by
  have HX := Lib.hid hX
  have HS := Lib.hid hstep
  have H0 := Lib.hid h0
  clear hX hstep h0
  go_enter Try.func51, Try.ntmps51
  go_wp2
  go_loopw [10] (R1full l Inv) (fun i _ => l.length - (intOf i).toNat)
  case atStart => exact ⟨0, rfl, Nat.zero_le _, H0⟩
  case round =>
    obtain ⟨i, rfl, hi, HI⟩ := hrel
    by_cases q : i < l.length
    · have q' : decide (i < l.length) = true := by simpa using q
      have M := HX.out.at' _ _ HI.out
      have c0 := M.c0 i q
      have c1 := M.c1 i q
      have c2 := M.c2 i q
      have c3 := M.c3 i q
      have c4 := M.c4 i q
      have c5 := M.c5 i q
      have AL := Lib.hid (HX.out.alloc _ _ (.cells #[.int .i64 (nth l i).s, .int .i64 (nth l i).a, .int .i64 (nth l i).b, .int .i64 (nth l i).z, .int .i64 (nth l i).d, .int .i64 (nth l i).w] 50) HI.out)
      have CO := Lib.hid (copy_new (nth l i) wr 50)
      have MI := Lib.hid (nth_mem q)
      have LE := Lib.hid fun j => pairsAt_len (l := l) (i := i) (j := j) hl q
      have hic : i ≤ cap := by omega
      clear M HI
      go_wp2_with fail
      generalize hbm : wr.heap.size = bm at *
      generalize hwo : wr.alloc (.cells #[.int .i64 (nth l i).s, .int .i64 (nth l i).a, .int .i64 (nth l i).b, .int .i64 (nth l i).z, .int .i64 (nth l i).d, .int .i64 (nth l i).w] 50) = wo at *
      have HBM := Lib.hid hbm
      clear hbm hwo c0 c1 c2 c3 c4 c5
      go_loopw [19] (R2full l Inv Own i bm) (fun j _ => i - (intOf j).toNat)
      case atStart => exact ⟨0, rfl, Nat.zero_le _, by rw [pairsAt_zero]; exact AL.out.1, CO, AL.out.2.1⟩
      case round =>
        obtain ⟨j, rfl, hj, HI, HC, HN⟩ := hrel
        by_cases r : j < i
        · have r' : decide (j < i) = true := by simpa using r
          have hjl : j < l.length := by omega
          have M := HX.out.at' _ _ HI.out
          have c0 := M.c0 j hjl
          have c1 := M.c1 j hjl
          have c2 := M.c2 j hjl
          have c3 := M.c3 j hjl
          have c4 := M.c4 j hjl
          have c5 := M.c5 j hjl
          have hc := HC.out
          have x0 := hc.c0
          have x1 := hc.c1
          have x2 := hc.c2
          have x3 := hc.c3
          have x4 := hc.c4
          have x5 := hc.c5
          have hbl := hc.lt
          have AL2 := Lib.hid (HX.out.alloc _ _ (.cells #[.int .i64 (nth l j).s, .int .i64 (nth l j).a, .int .i64 (nth l j).b, .int .i64 (nth l j).z, .int .i64 (nth l j).d, .int .i64 (nth l j).w] 50) HI.out)
          have ST := Lib.hid (HS.out (pairsAt l i j) (nth l i) (nth l j) _ MI.out (nth_mem hjl) (LE.out j) AL2.out.1)
          have PS := Lib.hid (pairsAt_succ (l := l) (i := i) hjl)
          clear M HI hc
          go_wp2_with (go_at_call 52; refine ST.out.mono ?_; rintro e w2 ⟨rfl, hi2, hk2⟩)
          go_roundw
          case rel =>
            have hn2 := AL2.out.2.2 bm hbl HN.out
            have hlt2 : bm < (wr.alloc (.cells #[.int .i64 (nth l j).s, .int .i64 (nth l j).a, .int .i64 (nth l j).b, .int .i64 (nth l j).z, .int .i64 (nth l j).d, .int .i64 (nth l j).w] 50)).heap.size := by simp; omega
            have hk := hk2.keep bm hlt2 hn2
            exact ⟨j + 1, by go_num, by omega, by rw [PS.out]; exact hi2, (HC.out.below ((Below.refl _ _).alloc (Nat.le_refl _) _)).same hk.1 hk2.size, hk.2⟩
          case measure => simp [intOf]; omega
        · obtain rfl : j = i := by omega
          have PF := Lib.hid (pairsAt_full l j)
          go_wp2
          go_roundw
          case rel => exact ⟨j + 1, by go_num, by omega, by rw [← PF.out]; exact HI⟩
          case measure => simp [intOf]; omega
    · obtain rfl : i = l.length := by omega
      go_wp2
      go_end0
      exact ⟨rfl, HI.out⟩
def R1cor (l : List Ms) (Inv : List (Ms × Ms) → World → Prop) (v : Value) (W : World) : Prop := ∃ i : Nat, v = .int .i64 i ∧ i ≤ l.length ∧ Hid (Inv (pairsUpto l i) W)
def R2cor (l : List Ms) (Inv : List (Ms × Ms) → World → Prop) (Own : World → Nat → Prop) (i bm : Nat) (v : Value) (W : World) : Prop := ∃ j : Nat, v = .int .i64 j ∧ j ≤ i ∧ Hid (Inv (pairsAt l i j) W) ∧ Hid (CopyAt (nth l i) bm W) ∧ Hid (¬ Own W bm)
set_option maxHeartbeats 4000000 in
theorem pairs_cor (l : List Ms) (b o cap : Nat) (w0 : World) (a0 a1 : Addr) (Inv : List (Ms × Ms) → World → Prop) (Own : World → Nat → Prop) (hl : l.length ≤ 17) (hc : l.length ≤ cap) (hm : cap ≤ 9223372036854775807)
    (hX : InvX l b o Inv Own) (h0 : Inv [] w0)
    (hstep : ∀ acc m n W, m ∈ l → n ∈ l → acc.length ≤ 306 → Inv acc W → Calls Try.prog 53 #[.agg #[.int .i64 m.s, .int .i64 m.a, .int .i64 m.b, .int .i64 m.z, .int .i64 m.d, .int .i64 m.w], .agg #[.int .i64 n.s, .int .i64 n.a, .int .i64 n.b, .int .i64 n.z, .int .i64 n.d, .int .i64 n.w], .pointer (some a0), .pointer (some a1)] W
      fun e w' => e = .returned (.tuple #[]) ∧ Inv (acc ++ [(m, n)]) w' ∧ KeepX Own W w') :
    Calls Try.prog 51 #[.slice (some ⟨b, o, none⟩) l.length cap, .func (.func 53) #[] #[.pointer (some a0), .pointer (some a1)]] w0 fun e w' => e = .returned (.tuple #[]) ∧ Inv (pairsL l) w' := by
  have HX := Lib.hid hX
  have HS := Lib.hid hstep
  have H0 := Lib.hid h0
  clear hX hstep h0
  go_enter Try.func51, Try.ntmps51
  go_wp2
  go_loopw [10] (R1cor l Inv) (fun i _ => l.length - (intOf i).toNat)
  case atStart => exact ⟨0, rfl, Nat.zero_le _, H0⟩
  case round =>
    obtain ⟨i, rfl, hi, HI⟩ := hrel
    by_cases q : i < l.length
    · have q' : decide (i < l.length) = true := by simpa using q
      have M := HX.out.at' _ _ HI.out
      have c0 := M.c0 i q
      have c1 := M.c1 i q
      have c2 := M.c2 i q
      have c3 := M.c3 i q
      have c4 := M.c4 i q
      have c5 := M.c5 i q
      have AL := Lib.hid (HX.out.alloc _ _ (.cells #[.int .i64 (nth l i).s, .int .i64 (nth l i).a, .int .i64 (nth l i).b, .int .i64 (nth l i).z, .int .i64 (nth l i).d, .int .i64 (nth l i).w] 50) HI.out)
      have CO := Lib.hid (copy_new (nth l i) wr 50)
      have MI := Lib.hid (nth_mem q)
      have LE := Lib.hid fun j => pairsAt_len (l := l) (i := i) (j := j) hl q
      have hic : i ≤ cap := by omega
      clear M HI
      go_wp2_with fail
      generalize hbm : wr.heap.size = bm at *
      generalize hwo : wr.alloc (.cells #[.int .i64 (nth l i).s, .int .i64 (nth l i).a, .int .i64 (nth l i).b, .int .i64 (nth l i).z, .int .i64 (nth l i).d, .int .i64 (nth l i).w] 50) = wo at *
      have HBM := Lib.hid hbm
      clear hbm hwo c0 c1 c2 c3 c4 c5
      go_loopw [19] (R2cor l Inv Own i bm) (fun j _ => i - (intOf j).toNat)
      case atStart => exact ⟨0, rfl, Nat.zero_le _, by rw [pairsAt_zero]; exact AL.out.1, CO, AL.out.2.1⟩
      case round =>
        obtain ⟨j, rfl, hj, HI, HC, HN⟩ := hrel
        by_cases r : j < i
        · have r' : decide (j < i) = true := by simpa using r
          have hjl : j < l.length := by omega
          have M := HX.out.at' _ _ HI.out
          have c0 := M.c0 j hjl
          have c1 := M.c1 j hjl
          have c2 := M.c2 j hjl
          have c3 := M.c3 j hjl
          have c4 := M.c4 j hjl
          have c5 := M.c5 j hjl
          have hc := HC.out
          have x0 := hc.c0
          have x1 := hc.c1
          have x2 := hc.c2
          have x3 := hc.c3
          have x4 := hc.c4
          have x5 := hc.c5
          have hbl := hc.lt
          have AL2 := Lib.hid (HX.out.alloc _ _ (.cells #[.int .i64 (nth l j).s, .int .i64 (nth l j).a, .int .i64 (nth l j).b, .int .i64 (nth l j).z, .int .i64 (nth l j).d, .int .i64 (nth l j).w] 50) HI.out)
          have ST := Lib.hid (HS.out (pairsAt l i j) (nth l i) (nth l j) _ MI.out (nth_mem hjl) (LE.out j) AL2.out.1)
          have PS := Lib.hid (pairsAt_succ (l := l) (i := i) hjl)
          clear M HI hc
          go_wp2_with (go_at_call 53; refine ST.out.mono ?_; rintro e w2 ⟨rfl, hi2, hk2⟩)
          go_roundw
          case rel =>
            have hn2 := AL2.out.2.2 bm hbl HN.out
            have hlt2 : bm < (wr.alloc (.cells #[.int .i64 (nth l j).s, .int .i64 (nth l j).a, .int .i64 (nth l j).b, .int .i64 (nth l j).z, .int .i64 (nth l j).d, .int .i64 (nth l j).w] 50)).heap.size := by simp; omega
            have hk := hk2.keep bm hlt2 hn2
            exact ⟨j + 1, by go_num, by omega, by rw [PS.out]; exact hi2, (HC.out.below ((Below.refl _ _).alloc (Nat.le_refl _) _)).same hk.1 hk2.size, hk.2⟩
          case measure => simp [intOf]; omega
        · obtain rfl : j = i := by omega
          have PF := Lib.hid (pairsAt_full l j)
          go_wp2
          go_roundw
          case rel => exact ⟨j + 1, by go_num, by omega, by rw [← PF.out]; exact HI⟩
          case measure => simp [intOf]; omega
    · obtain rfl : i = l.length := by omega
      go_wp2
      go_end0
      exact ⟨rfl, HI.out⟩
end Go.Proofs.Ytmlopbolekddnaa
