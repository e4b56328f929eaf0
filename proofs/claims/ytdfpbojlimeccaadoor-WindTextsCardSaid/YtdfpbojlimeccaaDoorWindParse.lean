/-
  The walks of wind's texts: Parse, Text.
-/
import Derived.Test.YtdfpbojlimeccaaDoorCutOne
import Derived.Test.YtdfpbojlimeccaaDoorWindText
import Derived.Lib.QuietBelow
import Derived.Lib.ItoaLen
namespace Go.Proofs.YtdfpbojlimeccaaDoor
set_option linter.unusedVariables false
open Go.RowKit Tr Sq

/-- what the library's variables hold -/
structure Env (w : World) : Prop where
  len : ∃ m : Int, w.cell? ⟨1, 0, none⟩ = some (.int .i64 m)
  tab : Lib.TabIs Tryd.prog w "internal/strconv.uint64pow10" .u64 Lib.pow10Tab
theorem Env.below {w w' : World} (h : Env w) (hb : Below w.heap.size w w') : Env w' := by
  obtain ⟨m, hm⟩ := h.len
  exact ⟨⟨m, (hb.cell (World.block_lt_of_cell? _ _ hm)).trans hm⟩, Lib.tabBelow_of_tabIs h.tab w' hb⟩

def parseF (s : List UInt8) : Int × Int × Int :=
  if (Lib.cut s [44]).2.2 = true ∧ (compS (Lib.cut s [44]).1).2 = true ∧ (compS (Lib.cut s [44]).2.1).2 = true then
    if vldW (compS (Lib.cut s [44]).1).1 (compS (Lib.cut s [44]).2.1).1 = true then ((compS (Lib.cut s [44]).1).1, (compS (Lib.cut s [44]).2.1).1, 0) else (0, 0, 2)
  else (0, 0, 4)
def RetW (r : Int × Int × Int) (w : World) (e : Ending) (w' : World) : Prop := e = .returned (.tuple #[.agg #[.int .i64 r.1, .int .i64 r.2.1], .int .i64 r.2.2]) ∧ Below w.heap.size w w'

theorem cut_len (s : List UInt8) : (Lib.cut s [44]).1.length ≤ s.length ∧ (Lib.cut s [44]).2.1.length ≤ s.length := by
  unfold Lib.cut
  split
  · simp; omega
  · simp
theorem cut_any (s a b : ByteArray) (f : Bool) (w : World) (hE : Env w) (hs : s.size < 9223372036854775808) (ha : (Lib.cut s.data.toList [44]).1 = a.data.toList) (hb : (Lib.cut s.data.toList [44]).2.1 = b.data.toList) (hf : (Lib.cut s.data.toList [44]).2.2 = f) :
    Calls Tryd.prog 58 #[.string s, .string ⟨#[44]⟩] w fun e w' => e = .returned (.tuple #[.string a, .string b, .bool f]) ∧ Below w.heap.size w w' := by
  refine (cut_one s 44 w (by omega)).mono fun e w' ⟨he, n, hw⟩ => ⟨?_, by rw [hw]; exact below_drewN (Below.refl _ _) _⟩
  rw [he]
  show Ending.returned (.tuple #[.string ⟨(Lib.cut s.data.toList [44]).1.toArray⟩, .string ⟨(Lib.cut s.data.toList [44]).2.1.toArray⟩, .bool (Lib.cut s.data.toList [44]).2.2]) = _
  rw [ha, hb, hf, ba_eta, ba_eta]

theorem below_res1 {w w1 : World} (h : Below w.heap.size w w1) {u v : Value} : Below w.heap.size w ((w1.setCell ⟨w.heap.size, 0, none⟩ u).setCell ⟨w.heap.size, 1, none⟩ v) := by
  refine (h.setCell (p := ⟨w.heap.size, 0, none⟩) ?_ _).setCell (p := ⟨w.heap.size, 1, none⟩) ?_ _ <;> exact Nat.le_refl _
set_option maxHeartbeats 4000000 in
theorem parse_any (s : ByteArray) (w : World) (hE : Env w) (hs : s.size < 9223372036854775808) :
    Calls Tryd.prog 25 #[.string s] w (RetW (parseF s.data.toList) w) := by
  obtain ⟨a, ha⟩ : ∃ a : ByteArray, (Lib.cut s.data.toList [44]).1 = a.data.toList := ⟨⟨(Lib.cut s.data.toList [44]).1.toArray⟩, rfl⟩
  obtain ⟨b, hb⟩ : ∃ b : ByteArray, (Lib.cut s.data.toList [44]).2.1 = b.data.toList := ⟨⟨(Lib.cut s.data.toList [44]).2.1.toArray⟩, rfl⟩
  have la : a.size ≤ 9223372036854775807 := by have := (cut_len s.data.toList).1; rw [ha, len_data, len_data] at this; omega
  have lb : b.size ≤ 9223372036854775807 := by have := (cut_len s.data.toList).2; rw [hb, len_data, len_data] at this; omega
  generalize hf : (Lib.cut s.data.toList [44]).2.2 = f
  have CUT := Lib.hid (fun w hE => cut_any s a b f w hE hs ha hb hf)
  have CA := Lib.hid (fun w => component_any a w la)
  have CB := Lib.hid (fun w => component_any b w lb)
  have P0 : parseF s.data.toList = (if f = true ∧ (compS a.data.toList).2 = true ∧ (compS b.data.toList).2 = true then
    if vldW (compS a.data.toList).1 (compS b.data.toList).1 = true then ((compS a.data.toList).1, (compS b.data.toList).1, 0) else (0, 0, 2) else (0, 0, 4)) := by unfold parseF; rw [ha, hb, hf]
  have PF := Lib.hid P0
  have HE := Lib.hid hE
  clear ha hb hf P0 hE
  generalize hA : compS a.data.toList = ca at *
  generalize hB : compS b.data.toList = cb at *
  obtain ⟨xa, ya⟩ := ca
  obtain ⟨xb, yb⟩ := cb
  clear hA hB
  by_cases hg : f = true ∧ ya = true ∧ yb = true
  · obtain ⟨rfl, rfl, rfl⟩ := hg
    cases hv : vldW xa xb with
    | false =>
      have HV := Lib.hid hv
      clear hv
      go_enter Tryd.func25, Tryd.ntmps25
      go_wp2_with fail
      refine (CUT.out _ (HE.out.below ((Below.refl _ _).alloc (Nat.le_refl _) _))).mono ?_
      rintro e w1 ⟨rfl, hb1⟩
      obtain ⟨hc, hf⟩ := bcell hb1
      have q0 : w1.cell? ⟨w.heap.size, 0, none⟩ = some (.int .i64 0) := (hc _ _ (by simp)).trans (by rw [World.cell?_alloc_at _ _ _ _ (by simp)]; rfl)
      have q1 : w1.cell? ⟨w.heap.size, 1, none⟩ = some (.int .i64 0) := (hc _ _ (by simp)).trans (by rw [World.cell?_alloc_at _ _ _ _ (by simp)]; rfl)
      have hw := Lib.hid (below_box hb1)
      go_wp2_with fail
      refine (CA.out _).mono ?_
      rintro e w2 ⟨rfl, rfl⟩
      go_wp2_with fail
      refine (CB.out _).mono ?_
      rintro e w2 ⟨rfl, rfl⟩
      go_wp2_with fail
      refine (valid_any _ _ _).mono ?_
      rw [HV.out]
      rintro e w2 ⟨rfl, hb2⟩
      obtain ⟨hc2, hf2⟩ := bcell hb2
      have hz : w.heap.size < w1.heap.size := by have := hb1.size; simp at this; omega
      have p0 : w2.cell? ⟨w.heap.size, 0, none⟩ = some (.int .i64 0) := (hc2 _ _ (by simp; omega)).trans ((World.cell?_alloc_lt _ _ _ hz).trans q0)
      have p1 : w2.cell? ⟨w.heap.size, 1, none⟩ = some (.int .i64 0) := (hc2 _ _ (by simp; omega)).trans ((World.cell?_alloc_lt _ _ _ hz).trans q1)
      have hw2 := Lib.hid (hw.out.trans ((below_box hb2).mono hw.out.size))
      go_wp2
      exact bodyPost_ret (v := .tuple #[.agg #[.int .i64 0, .int .i64 0], .int .i64 2]) (by simp [results, Tryd.results25, go_sem, p0, p1]) rfl ⟨by rw [PF.out, if_pos (by simp), HV.out]; rfl, below_res1 hw2.out⟩
    | true =>
      have HV := Lib.hid hv
      clear hv
      go_enter Tryd.func25, Tryd.ntmps25
      go_wp2_with fail
      refine (CUT.out _ (HE.out.below ((Below.refl _ _).alloc (Nat.le_refl _) _))).mono ?_
      rintro e w1 ⟨rfl, hb1⟩
      obtain ⟨hc, hf⟩ := bcell hb1
      have q0 : w1.cell? ⟨w.heap.size, 0, none⟩ = some (.int .i64 0) := (hc _ _ (by simp)).trans (by rw [World.cell?_alloc_at _ _ _ _ (by simp)]; rfl)
      have q1 : w1.cell? ⟨w.heap.size, 1, none⟩ = some (.int .i64 0) := (hc _ _ (by simp)).trans (by rw [World.cell?_alloc_at _ _ _ _ (by simp)]; rfl)
      have hw := Lib.hid (below_box hb1)
      go_wp2_with fail
      refine (CA.out _).mono ?_
      rintro e w2 ⟨rfl, rfl⟩
      go_wp2_with fail
      refine (CB.out _).mono ?_
      rintro e w2 ⟨rfl, rfl⟩
      go_wp2_with fail
      refine (valid_any _ _ _).mono ?_
      rw [HV.out]
      rintro e w2 ⟨rfl, hb2⟩
      obtain ⟨hc2, hf2⟩ := bcell hb2
      have hz : w.heap.size < w1.heap.size := by have := hb1.size; simp at this; omega
      have p0 : w2.cell? ⟨w.heap.size, 0, none⟩ = some (.int .i64 0) := (hc2 _ _ (by simp; omega)).trans ((World.cell?_alloc_lt _ _ _ hz).trans q0)
      have p1 : w2.cell? ⟨w.heap.size, 1, none⟩ = some (.int .i64 0) := (hc2 _ _ (by simp; omega)).trans ((World.cell?_alloc_lt _ _ _ hz).trans q1)
      have hw2 := Lib.hid (hw.out.trans ((below_box hb2).mono hw.out.size))
      go_wp2
      exact bodyPost_ret (v := .tuple #[.agg #[.int .i64 xa, .int .i64 xb], .int .i64 0]) (by simp [results, Tryd.results25, go_sem, p0, p1]) rfl ⟨by rw [PF.out, if_pos (by simp), HV.out]; rfl, below_res1 hw2.out⟩
  · cases f <;> cases ya <;> cases yb
    rotate_right
    · exact absurd ⟨rfl, rfl, rfl⟩ hg
    all_goals
      go_enter Tryd.func25, Tryd.ntmps25
      go_wp2_with fail
      refine (CUT.out _ (HE.out.below ((Below.refl _ _).alloc (Nat.le_refl _) _))).mono ?_
      rintro e w1 ⟨rfl, hb1⟩
      obtain ⟨hc, hf⟩ := bcell hb1
      have q0 : w1.cell? ⟨w.heap.size, 0, none⟩ = some (.int .i64 0) := (hc _ _ (by simp)).trans (by rw [World.cell?_alloc_at _ _ _ _ (by simp)]; rfl)
      have q1 : w1.cell? ⟨w.heap.size, 1, none⟩ = some (.int .i64 0) := (hc _ _ (by simp)).trans (by rw [World.cell?_alloc_at _ _ _ _ (by simp)]; rfl)
      have hw := Lib.hid (below_box hb1)
      go_wp2_with fail
      refine (CA.out _).mono ?_
      rintro e w2 ⟨rfl, rfl⟩
      go_wp2_with fail
      refine (CB.out _).mono ?_
      rintro e w2 ⟨rfl, rfl⟩
      go_wp2_with fail
      exact bodyPost_ret (v := .tuple #[.agg #[.int .i64 0, .int .i64 0], .int .i64 4]) (by simp [results, Tryd.results25, go_sem, q0, q1]) rfl ⟨by rw [PF.out]; rfl, below_res1 hw.out⟩
/-- a text and an error -/
def textF (x n : Int) : List UInt8 × Int := if vldW x n = true then (Lib.itoa x ++ [44] ++ Lib.itoa n, 0) else ([], 1)
def RetS (r : List UInt8 × Int) (w : World) (e : Ending) (w' : World) : Prop := e = .returned (.tuple #[.string ⟨r.1.toArray⟩, .int .i64 r.2]) ∧ Below w.heap.size w w'
theorem fmt_any (n : Int) (w : World) (hE : Env w) (h0 : -9223372036854775808 ≤ n) (h1 : n ≤ 9223372036854775807) :
    Calls Tryd.prog 56 #[.int .i64 n, .int .i64 10] w fun e w' => e = .returned (.string ⟨(Lib.itoa n).toArray⟩) ∧ Below w.heap.size w w' :=
  (Tryd.strconv_FormatInt_10 n h0 h1 w hE.tab).mono fun e w' ⟨he, k, os, hw⟩ => ⟨he, by rw [hw]; exact Lib.below_grow _ w (Nat.le_refl _) k os⟩
theorem fmt_quiet (n : Int) (a : ByteArray) (w : World) (hE : Env w) (h0 : -9223372036854775808 ≤ n) (h1 : n ≤ 9223372036854775807) (ha : (⟨(Lib.itoa n).toArray⟩ : ByteArray) = a) (d : Nat) (os : Array Obj) :
    Calls Tryd.prog 56 #[.int .i64 n, .int .i64 10] (Go.Sort.grow (redrawn w d) os) fun e w'' => e = .returned (.string a) ∧ ∃ p : Regrown, w'' = Go.Sort.grow (redrawn w p.d) p.os :=
  Calls.regrown_of (by rw [← ha]; exact fmt_any n _ (hE.below (below_regrown w d os)) h0 h1)
theorem itoa_size {n : Int} {a : ByteArray} (h0 : -9223372036854775808 ≤ n) (h1 : n ≤ 9223372036854775807) (ha : (⟨(Lib.itoa n).toArray⟩ : ByteArray) = a) : a.size ≤ 21 := by
  rw [← ha]; have := Lib.itoa_length_le n h0 h1
  show (Lib.itoa n).toArray.size ≤ 21
  simpa using this

theorem cat_eq (a b : ByteArray) : a ++ ⟨#[44]⟩ ++ b = ⟨(a.data.toList ++ [44] ++ b.data.toList).toArray⟩ := by
  apply ByteArray.ext
  rw [ByteArray.data_append, ByteArray.data_append]
  apply Array.ext'
  simp

set_option maxHeartbeats 2000000 in
theorem text_any (x n : Int) (w : World) (hE : Env w) :
    Calls Tryd.prog 23 #[.agg #[.int .i64 x, .int .i64 n]] w (RetS (textF x n) w) := by
  cases hv : vldW x n with
  | false =>
    have e1 := Lib.hid (show textF x n = ([], 1) by unfold textF; rw [if_neg (by simp [hv])])
    have HV := Lib.hid hv
    clear hv
    go_enter Tryd.func23, Tryd.ntmps23
    go_wp2_with (go_at_call 33; refine (valid_any _ _ _).mono ?_; rw [HV.out]; rintro e w1 ⟨rfl, hb⟩)
    go_ret2
    exact ⟨by rw [e1.out]; rfl, below_box hb⟩
  | true =>
    obtain ⟨b0, b1, b2, b3⟩ := vldW_iff.1 hv
    obtain ⟨a, ha⟩ : ∃ a : ByteArray, (⟨(Lib.itoa x).toArray⟩ : ByteArray) = a := ⟨_, rfl⟩
    obtain ⟨b, hb'⟩ : ∃ b : ByteArray, (⟨(Lib.itoa n).toArray⟩ : ByteArray) = b := ⟨_, rfl⟩
    have la := itoa_size (by omega) (by omega) ha
    have lb := itoa_size (by omega) (by omega) hb'
    have e1 := Lib.hid (show textF x n = (a.data.toList ++ [44] ++ b.data.toList, 0) by unfold textF; rw [if_pos hv, ← ha, ← hb'])
    have HV := Lib.hid hv
    have HE := Lib.hid hE
    have HA := Lib.hid ha
    have HB := Lib.hid hb'
    clear hv hE ha hb'
    have n1 : ¬ 9223372036854775807 < a.size + 1 := by omega
    have n2 : ¬ 9223372036854775807 < a.size + 1 + b.size := by omega
    go_enter Tryd.func23, Tryd.ntmps23
    go_wp2_with (go_at_call 33; refine (valid_any _ _ _).mono ?_; rw [HV.out]; rintro e w1 ⟨rfl, hb⟩)
    have hw := below_box hb
    obtain ⟨hc, hf⟩ := bcell hb
    have g0 := fun d os => cell_regrown (w := w1) (a := ⟨w.heap.size, 0, none⟩) (v := .int .i64 x) ((hc _ _ (by simp)).trans (by rw [World.cell?_alloc_at _ _ _ _ (by simp)]; rfl)) d os
    have g1 := fun d os => cell_regrown (w := w1) (a := ⟨w.heap.size, 1, none⟩) (v := .int .i64 n) ((hc _ _ (by simp)).trans (by rw [World.cell?_alloc_at _ _ _ _ (by simp)]; rfl)) d os
    have c1 := Lib.hid (fmt_quiet x a w1 (HE.out.below hw) (by omega) (by omega) HA.out)
    have c2 := Lib.hid (fmt_quiet n b w1 (HE.out.below hw) (by omega) (by omega) HB.out)
    have HW := Lib.hid hw
    clear hc hf hb hw
    refine wp_region_quiet_below (by kernel_rfl) (by kernel_rfl) ?_
    repeat (quiet_step (first | with_reducible exact c1.out _ _ | with_reducible exact c2.out _ _))
    refine wpQuiet_nil ?_
    intro _ hw'
    obtain ⟨⟨dq, osq⟩, hw''⟩ := hw'
    subst hw''
    go_wp2
    go_ret2
    refine ⟨?_, HW.out.trans ((below_regrown w1 dq osq).mono HW.out.size)⟩
    rw [e1.out]
    show Ending.returned (.tuple #[.string (a ++ ⟨#[44]⟩ ++ b), .int .i64 0]) = _
    rw [cat_eq]
end Go.Proofs.YtdfpbojlimeccaaDoor
