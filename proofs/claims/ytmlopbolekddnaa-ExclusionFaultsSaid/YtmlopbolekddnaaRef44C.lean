/-
  The walks of the reference's region and Consistent of layer 44.
-/
import Derived.Test.YtmlopbolekddnaaRef44B
import Derived.Test.YtmlopbolekddnaaRef42
import Derived.Test.YtmlopbolekddnaaExcCon
namespace Go.Proofs.Ytmlopbolekddnaa
set_option linter.unusedVariables false
open Go.RowKit

theorem ov_cases {B : Nat} {w : World} {v : Value} {l : List Cr} (h : OV B w v l) : (v = .slice none 0 0 ∧ l = []) ∨ ∃ g cap, v = .slice (some ⟨g, 0, none⟩) l.length cap ∧ l.length ≤ cap ∧ cap ≤ 9223372036854775807 ∧ CrsAt l g w := by
  obtain ⟨h1, h2⟩ := h
  rcases h2 with ⟨rfl, hn⟩ | ⟨g, cap, cur, rfl, hb, hg, hc, hm, hs, ht⟩
  · exact .inl ⟨rfl, List.eq_nil_of_length_eq_zero hn⟩
  · have hlt : g < w.heap.size := (Array.getElem?_eq_some_iff.1 hg).1
    have hget : ∀ j, j < l.length * 3 → w.cell? ⟨g, j, none⟩ = (crC l)[j]? := fun j hj => by
      rw [← ht, List.getElem?_take, if_pos hj]
      unfold World.cell?
      rw [hg]
      simp
    unfold maxLen at hm
    refine .inr ⟨g, cap, rfl, hc, hm, hlt, fun i hi => ?_, fun i hi => ?_, fun i hi => ?_⟩
    · rw [hget _ (by omega), nthC_eq hi]; exact (crC_get l i hi).1
    · rw [hget _ (by omega), nthC_eq hi]; exact (crC_get l i hi).2.1
    · rw [hget _ (by omega), nthC_eq hi]; exact (crC_get l i hi).2.2
theorem vertices_nil (w : World) :
    Calls Try.prog 42 #[.slice none 0 0] w fun e w' => (∃ u, e = .returned (.tuple #[u, .bool false]) ∧ OV w.heap.size w' u (verL [])) ∧ Below w.heap.size w w' := by
  go_enter Try.func42, Try.ntmps42
  go_wp2
  go_loop [4, 5, 20] (fun u x v => u = .slice (some ⟨w.heap.size, 0, none⟩) 0 0 ∧ x = .bool false ∧ v = .int .i64 0) (fun _ _ _ => 0)
  case atStart => exact ⟨rfl, rfl, rfl⟩
  case round =>
    obtain ⟨rfl, rfl, rfl⟩ := hrel
    go_wp2
    go_ret2
    exact ⟨⟨_, rfl, World.ownsRow_lit w #[] 0 (Nat.le_refl _) (by decide) rfl⟩, (Below.refl _ _).alloc (Nat.le_refl _) _⟩
theorem vertices_any (l : List Ms) (v : Value) (w : World) (h : LstAt l v w) (he : ∀ m ∈ l, EdM m) (hl : l.length ≤ 17) :
    Calls Try.prog 42 #[v] w fun e w' => (∃ u, e = .returned (.tuple #[u, .bool (fullB l)]) ∧ OV w.heap.size w' u (verL l)) ∧ Below w.heap.size w w' := by
  rcases h with ⟨rfl, rfl⟩ | ⟨b, o, cap, rfl, h2, h3, h4⟩
  · exact vertices_nil w
  · exact vertices_some l b o cap w h4 h2 h3 he hl
theorem ov_len {B : Nat} {w : World} {v : Value} {l : List Cr} (h : OV B w v l) : ∃ p cap, v = .slice p l.length cap := by
  rcases ov_cases h with ⟨rfl, rfl⟩ | ⟨g, cap, rfl, _⟩
  · exact ⟨_, _, rfl⟩
  · exact ⟨_, _, rfl⟩
def regE (l : List Ms) : Int := if chkL l = 0 then 14 else chkL l
def RegP (l : List Ms) (w : World) (e : Ending) (w' : World) : Prop :=
  ((chkL l = 0 ∧ fullB l = true ∧ ∃ u, e = .returned (.tuple #[u, .int .i64 0]) ∧ OV w.heap.size w' u (verL l)) ∨ (¬ (chkL l = 0 ∧ fullB l = true) ∧ e = .returned (.tuple #[.slice none 0 0, .int .i64 (regE l)]))) ∧ Below w.heap.size w w'
set_option maxHeartbeats 2000000 in
theorem region_any (l : List Ms) (v : Value) (w : World) (h : LstAt l v w) :
    Calls Try.prog 35 #[v] w (RegP l w) := by
  have CH := fun w hv => chkref_any l v w hv
  have H := Lib.hid h
  clear h
  by_cases hc : chkL l = 0
  · obtain ⟨he, hl⟩ := ed_of hc
    rw [hc] at CH
    have HCH := Lib.hid CH
    have VE := fun w hv => vertices_any l v w hv he hl
    have HC := Lib.hid hc
    have E0 := Lib.hid (show regE l = 14 by unfold regE; rw [if_pos hc])
    clear CH hc he
    cases hf : fullB l with
    | false =>
      rw [hf] at VE
      have HVE := Lib.hid VE
      have HF := Lib.hid hf
      clear VE hf
      go_enter Try.func35, Try.ntmps35
      go_wp2_with fail
      refine (HCH.out _ H.out).mono ?_
      rintro e w1 ⟨rfl, hb1⟩
      have HB1 := Lib.hid hb1
      clear hb1
      go_wp2_with fail
      refine (HVE.out _ (H.out.below HB1.out)).mono ?_
      rintro e w2 ⟨⟨u, rfl, ho⟩, hb2⟩
      have HB2 := Lib.hid (HB1.out.trans (hb2.mono HB1.out.size))
      clear hb2 ho
      go_wp2
      go_ret2
      exact ⟨.inr ⟨fun q => (by rw [HF.out] at q; cases q.2), by rw [E0.out]; rfl⟩, HB2.out⟩
    | true =>
      rw [hf] at VE
      have HVE := Lib.hid VE
      have HF := Lib.hid hf
      clear VE hf
      go_enter Try.func35, Try.ntmps35
      go_wp2_with fail
      refine (HCH.out _ H.out).mono ?_
      rintro e w1 ⟨rfl, hb1⟩
      have HB1 := Lib.hid hb1
      clear hb1
      go_wp2_with fail
      refine (HVE.out _ (H.out.below HB1.out)).mono ?_
      rintro e w2 ⟨⟨u, rfl, ho⟩, hb2⟩
      have HB2 := Lib.hid (HB1.out.trans (hb2.mono HB1.out.size))
      have HO := Lib.hid (World.ownsRow.mono ho HB1.out.size)
      obtain ⟨p, cap, rfl⟩ := ov_len ho
      clear hb2 ho
      go_wp2
      go_ret2
      exact ⟨.inl ⟨HC.out, HF.out, _, rfl, HO.out⟩, HB2.out⟩
  · have g : (chkL l != 0) = true := by simpa using hc
    have HCH := Lib.hid CH
    have HC := Lib.hid hc
    have E := Lib.hid (show regE l = chkL l by unfold regE; rw [if_neg hc])
    clear CH hc
    obtain ⟨c, hcc⟩ : ∃ c, chkL l = c := ⟨_, rfl⟩
    rw [hcc] at g HCH E
    clear hcc
    go_enter Try.func35, Try.ntmps35
    go_wp2_with (go_at_call 37; refine (HCH.out _ H.out).mono ?_; rintro e w1 ⟨rfl, hb1⟩)
    go_ret2
    exact ⟨.inr ⟨fun q => HC.out q.1, by rw [E.out]; rfl⟩, hb1⟩
theorem ver_pos {l : List Ms} : (0 < (verL l).length) ↔ 0 < (corL l).length := by
  constructor
  · intro h
    obtain ⟨p, hp⟩ := List.exists_mem_of_length_pos h
    exact List.length_pos_of_mem (mem_verL.1 hp)
  · intro h
    obtain ⟨p, hp⟩ := List.exists_mem_of_length_pos h
    exact List.length_pos_of_mem (mem_verL.2 hp)
set_option maxHeartbeats 1000000 in
theorem conref_any (l : List Ms) (v : Value) (w : World) (h : LstAt l v w) :
    Calls Try.prog 16 #[v] w fun e w' => e = .returned (.tuple #[.bool (conF l).1, .int .i64 (conF l).2]) ∧ Below w.heap.size w w' := by
  have RG := Lib.hid (region_any l v w h)
  clear h
  go_enter Try.func16, Try.ntmps16
  go_wp2_with fail
  refine RG.out.mono ?_
  rintro e w1 ⟨⟨h1, h2, u, rfl, ho⟩ | ⟨h1, rfl⟩, hb1⟩
  · have E := Lib.hid (show conF l = (decide (0 < (verL l).length), 0) by unfold conF; rw [if_pos h1, if_pos h2]; simp only [ver_pos])
    have HB := Lib.hid hb1
    obtain ⟨p, cap, rfl⟩ := ov_len ho
    clear h1 h2 ho hb1
    go_wp2
    go_ret2
    exact ⟨by rw [E.out]; simp, HB.out⟩
  · have E := Lib.hid (show conF l = (false, regE l) by
      unfold conF regE
      by_cases hc : chkL l = 0
      · rw [if_pos hc, if_pos hc, if_neg (fun q => h1 ⟨hc, q⟩)]
      · rw [if_neg hc, if_neg hc])
    have HB := Lib.hid hb1
    clear h1 hb1
    go_wp2
    go_ret2
    exact ⟨by rw [E.out]; rfl, HB.out⟩
end Go.Proofs.Ytmlopbolekddnaa
