/-
  The walk of slices.Clone of measurements; one number of one measurement written anew.
-/
import Derived.Test.YtplgdlooglnpmaaPos43
import Derived.Test.YtplgdlooglnpmaaAbs43
namespace Go.Proofs.Ytplgdlooglnpmaa
set_option linter.unusedVariables false
open Go.RowKit

/-- one slice of measurements appended to another -/
theorem wpList_omo {ops : Array Oper} {rest : List Oper} {o : Oper} {a : Act} {Q : Exit → Act → World → Prop} (hgd : o.guard = none) (s x : Operand)
    (ho : o.op = .call { callee := .builtin .append, args := #[s, x], argTypes := #[22, 22] })
    (B : Nat) (v : Value) (l k : List Ms) (hs : a.eval s = v) (w0 : World) (h : OM B w0 v l) (g oo c : Nat)
    (hx : a.eval x = .slice (some ⟨g, oo, none⟩) k.length c) (hk : MsAt k g oo w0) (hl : l.length ≤ 1000) (hlk : k.length ≤ 1000) (hB : B ≤ w0.heap.size)
    (H : ∀ v' w', OM B w' v' (l ++ k) → w0.grownBy w' v.ownBlock → wpList Try.prog ops Q rest (a.put o.dst v') w') :
    wpList Try.prog ops Q (o :: rest) a w0 := by
  obtain ⟨i0, hi, hz0, hz1, hz2⟩ := info_parts infoMeas
  refine wpList_append_own_at _ hgd s x 22 ho B 36 i0 (.agg #[.int .i64 0, .int .i64 0, .int .i64 0, .int .i64 0, .int .i64 0, .int .i64 0]) 6 48 Try.underlying22 hi hz0 hz1 hz2 rfl (by decide) v l.length (msC l) hs h ⟨g, oo, none⟩ k.length c (msC k) hx (msC_len k) ?_ ?_ (by unfold maxLen; omega) (by omega) hB ?_
  · intro j u hu
    have hj : j < k.length * 6 := by
      rw [← msC_len]
      exact (List.getElem?_eq_some_iff.1 hu).1
    have hadd : (⟨g, oo, none⟩ : Addr).add j = ⟨g, oo + j, none⟩ := by unfold Addr.add; split <;> simp_all
    rw [hadd]
    obtain ⟨i, hi6, hj'⟩ : ∃ i, i < k.length ∧ (j = i * 6 ∨ j = i * 6 + 1 ∨ j = i * 6 + 2 ∨ j = i * 6 + 3 ∨ j = i * 6 + 4 ∨ j = i * 6 + 5) := ⟨j / 6, by omega, by omega⟩
    obtain ⟨m0, m1, m2, m3, m4, m5⟩ := msC_get k i hi6
    have n := nth_eq hi6
    clear hj hadd
    rcases hj' with rfl | rfl | rfl | rfl | rfl | rfl
    · have := hk.c0 i hi6; rw [n] at this; rw [this, ← hu]; exact m0.symm
    · have := hk.c1 i hi6; rw [n] at this; rw [← Nat.add_assoc, this, ← hu]; exact m1.symm
    · have := hk.c2 i hi6; rw [n] at this; rw [← Nat.add_assoc, this, ← hu]; exact m2.symm
    · have := hk.c3 i hi6; rw [n] at this; rw [← Nat.add_assoc, this, ← hu]; exact m3.symm
    · have := hk.c4 i hi6; rw [n] at this; rw [← Nat.add_assoc, this, ← hu]; exact m4.symm
    · have := hk.c5 i hi6; rw [n] at this; rw [← Nat.add_assoc, this, ← hu]; exact m5.symm
  · intro u hu
    unfold msC at hu
    rw [List.mem_flatMap] at hu
    obtain ⟨m, _, hu⟩ := hu
    simp only [List.mem_cons, List.not_mem_nil, or_false] at hu
    rcases hu with rfl | rfl | rfl | rfl | rfl | rfl <;> rfl
  · intro v' w' ho' hg _ hat
    exact H v' w' (by unfold OM; rw [List.length_append, msC_append]; exact ho') hg

theorem ms_setz {l : List Ms} {g k : Nat} {w : World} (h : MsAt l g 0 w) (hk : k < l.length) (z : Int) : MsAt (l.set k { nth l k with z := z }) g 0 (w.setCell ⟨g, k * 6 + 3, none⟩ (.int .i64 z)) := by
  have hn : ∀ i, i < l.length → nth (l.set k { nth l k with z := z }) i = if i = k then { nth l k with z := z } else nth l i := fun i hi => by
    unfold nth
    rw [List.getD_eq_getElem?_getD, List.getElem?_set]
    by_cases q : k = i
    · subst q; simp [hk]
    · rw [if_neg q, if_neg (fun e => q e.symm), List.getD_eq_getElem?_getD]
  have oth : ∀ i r, ¬ (i = k ∧ r = 3) → r < 6 → (w.setCell ⟨g, k * 6 + 3, none⟩ (.int .i64 z)).cell? ⟨g, 0 + i * 6 + r, none⟩ = w.cell? ⟨g, 0 + i * 6 + r, none⟩ := fun i r hne hr => by
    refine World.cell?_setCell_other _ _ _ _ ?_
    intro e
    injection e with _ e _
    omega
  refine ⟨by have := h.lt; simpa [World.setCell] using this, fun i hi => ?_, fun i hi => ?_, fun i hi => ?_, fun i hi => ?_, fun i hi => ?_, fun i hi => ?_⟩ <;> rw [List.length_set] at hi <;> rw [hn i hi]
  · have e := (oth i 0 (fun q => absurd q.2 (by decide)) (by decide)).trans (h.c0 i hi)
    split
    · rename_i q; subst q; exact e
    · exact e
  · have e := (oth i 1 (fun q => absurd q.2 (by decide)) (by decide)).trans (h.c1 i hi)
    split
    · rename_i q; subst q; exact e
    · exact e
  · have e := (oth i 2 (fun q => absurd q.2 (by decide)) (by decide)).trans (h.c2 i hi)
    split
    · rename_i q; subst q; exact e
    · exact e
  · split
    · rename_i q; subst q
      rw [Nat.zero_add]
      exact World.cell?_setCell_same' w _ _ (by have := h.c3 i hi; rw [Nat.zero_add] at this; rw [this]; rfl)
    · rename_i q
      exact (oth i 3 (fun e => q e.1) (by decide)).trans (h.c3 i hi)
  · have e := (oth i 4 (fun q => absurd q.2 (by decide)) (by decide)).trans (h.c4 i hi)
    split
    · rename_i q; subst q; exact e
    · exact e
  · have e := (oth i 5 (fun q => absurd q.2 (by decide)) (by decide)).trans (h.c5 i hi)
    split
    · rename_i q; subst q; exact e
    · exact e
theorem ms_setd {l : List Ms} {g k : Nat} {w : World} (h : MsAt l g 0 w) (hk : k < l.length) (z : Int) : MsAt (l.set k { nth l k with d := z }) g 0 (w.setCell ⟨g, k * 6 + 4, none⟩ (.int .i64 z)) := by
  have hn : ∀ i, i < l.length → nth (l.set k { nth l k with d := z }) i = if i = k then { nth l k with d := z } else nth l i := fun i hi => by
    unfold nth
    rw [List.getD_eq_getElem?_getD, List.getElem?_set]
    by_cases q : k = i
    · subst q; simp [hk]
    · rw [if_neg q, if_neg (fun e => q e.symm), List.getD_eq_getElem?_getD]
  have oth : ∀ i r, ¬ (i = k ∧ r = 4) → r < 6 → (w.setCell ⟨g, k * 6 + 4, none⟩ (.int .i64 z)).cell? ⟨g, 0 + i * 6 + r, none⟩ = w.cell? ⟨g, 0 + i * 6 + r, none⟩ := fun i r hne hr => by
    refine World.cell?_setCell_other _ _ _ _ ?_
    intro e
    injection e with _ e _
    omega
  refine ⟨by have := h.lt; simpa [World.setCell] using this, fun i hi => ?_, fun i hi => ?_, fun i hi => ?_, fun i hi => ?_, fun i hi => ?_, fun i hi => ?_⟩ <;> rw [List.length_set] at hi <;> rw [hn i hi]
  · have e := (oth i 0 (fun q => absurd q.2 (by decide)) (by decide)).trans (h.c0 i hi)
    split
    · rename_i q; subst q; exact e
    · exact e
  · have e := (oth i 1 (fun q => absurd q.2 (by decide)) (by decide)).trans (h.c1 i hi)
    split
    · rename_i q; subst q; exact e
    · exact e
  · have e := (oth i 2 (fun q => absurd q.2 (by decide)) (by decide)).trans (h.c2 i hi)
    split
    · rename_i q; subst q; exact e
    · exact e
  · have e := (oth i 3 (fun q => absurd q.2 (by decide)) (by decide)).trans (h.c3 i hi)
    split
    · rename_i q; subst q; exact e
    · exact e
  · split
    · rename_i q; subst q
      rw [Nat.zero_add]
      exact World.cell?_setCell_same' w _ _ (by have := h.c4 i hi; rw [Nat.zero_add] at this; rw [this]; rfl)
    · rename_i q
      exact (oth i 4 (fun e => q e.1) (by decide)).trans (h.c4 i hi)
  · have e := (oth i 5 (fun q => absurd q.2 (by decide)) (by decide)).trans (h.c5 i hi)
    split
    · rename_i q; subst q; exact e
    · exact e
set_option maxHeartbeats 4000000 in
set_option maxRecDepth 100000 in
theorem clone_any (l : List Ms) (v : Value) (w : World) (h : LstAt l v w) (hl : l.length ≤ 18) :
    Calls Try.prog 17 #[v] w fun e w' => (∃ u, e = .returned u ∧ OM w.heap.size w' u l) ∧ Below w.heap.size w w' := by
  have RN := fun (a : Option Addr) (n c : Nat) (w : World) => Lib.run_eql_slice_nil (P := Try.prog) w 22 36 a n c 0 0 Try.underlying22
  rcases h with ⟨rfl, rfl⟩ | ⟨b, o, cap, rfl, h2, h3, h4⟩
  · go_enter Try.func17, Try.ntmps17
    go_wp2
    go_ret
    exact ⟨⟨_, rfl, World.ownsRow_nil _ _ _ _⟩, Below.refl _ _⟩
  · have N := Lib.hid (om_new w.heap.size w [] (Nat.le_refl _) (by simp))
    have HA := Lib.hid ((Below.refl w.heap.size w).alloc (Nat.le_refl _) (.cells #[] 36))
    have HM := Lib.hid (h4.below HA.out)
    have g : ((some (⟨b, o, none⟩ : Addr)) == none) = false := rfl
    clear h4
    go_enter Try.func17, Try.ntmps17
    go_wp2_with (at_builtin; refine Halt.mk ?_)
    unfold Halt
    refine wpList_omo rfl (.tmp 5) (.tmp 6) rfl w.heap.size _ [] l rfl (w.alloc (.cells #[] 36)) N.out b o cap rfl HM.out (by simp) (by omega) HA.out.size ?_
    intro u2 w5 ho5 hg5
    have HO := Lib.hid (show OM w.heap.size w5 u2 l from ho5)
    have HB := Lib.hid (below_grown HA.out hg5 HA.out.size (fun k hk => (World.ownsRow.lt N.out k hk).1))
    obtain ⟨pu, cu, hu⟩ := lst_form (OM.lst ho5)
    rw [List.nil_append] at hu
    subst hu
    clear ho5 hg5
    go_wp2
    go_ret
    exact ⟨⟨_, rfl, HO.out⟩, HB.out⟩
end Go.Proofs.Ytplgdlooglnpmaa
