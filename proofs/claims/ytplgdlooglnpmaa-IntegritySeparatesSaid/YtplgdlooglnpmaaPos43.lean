/-
  The walks of position and cut; one slice of measurements appended to another.
-/
import Derived.Test.YtplgdlooglnpmaaOwn43
import Derived.Test.YtplgdlooglnpmaaMeasOwn43
import Derived.Test.YtplgdlooglnpmaaLevEx
namespace Go.Proofs.Ytplgdlooglnpmaa
set_option linter.unusedVariables false
open Go.RowKit

theorem om_new (B : Nat) (w : World) (l : List Ms) (hB : B ≤ w.heap.size) (hl : l.length ≤ 1000) : OM B (w.alloc (.cells (msC l).toArray 36)) (.slice (some ⟨w.heap.size, 0, none⟩) l.length l.length) l := by
  refine ⟨msC_len l, .inr ⟨w.heap.size, l.length, (msC l).toArray, rfl, hB, by show (w.heap.push _)[w.heap.size]? = _; simp, Nat.le_refl _, by unfold maxLen; omega, by rw [List.size_toArray, msC_len], ?_⟩⟩
  rw [← msC_len l]
  simp

set_option maxHeartbeats 4000000 in
set_option maxRecDepth 100000 in
theorem pos_any (s x y : Int) (w : World) (hx : 0 ≤ x ∧ x ≤ 1000) (hy : 0 ≤ y ∧ y ≤ 1000) :
    Calls Try.prog 24 #[.int .i64 s, .int .i64 x, .int .i64 y] w fun e w' => (∃ u, e = .returned u ∧ OM w.heap.size w' u (posL s x y)) ∧ Below w.heap.size w w' := by
  have O := Lib.hid (om_new w.heap.size w (posL s x y) (Nat.le_refl _) (by unfold posL; simp))
  obtain ⟨x0, x1⟩ := hx
  obtain ⟨y0, y1⟩ := hy
  go_enter Try.func24, Try.ntmps24
  go_wp2
  go_ret
  exact ⟨⟨_, rfl, O.out⟩, (Below.refl _ _).alloc (Nat.le_refl _) _⟩

/-- one slice of measurements appended to another -/
theorem wpList_oms {ops : Array Oper} {rest : List Oper} {o : Oper} {a : Act} {Q : Exit → Act → World → Prop} (hgd : o.guard = none) (s x : Operand)
    (ho : o.op = .call { callee := .builtin .append, args := #[s, x], argTypes := #[22, 22] })
    (B : Nat) (v : Value) (l k : List Ms) (hs : a.eval s = v) (w0 : World) (h : OM B w0 v l) (g c : Nat)
    (hx : a.eval x = .slice (some ⟨g, 0, none⟩) k.length c) (hk : MsAt k g 0 w0) (hl : l.length ≤ 1000) (hlk : k.length ≤ 1000) (hB : B ≤ w0.heap.size)
    (H : ∀ v' w', OM B w' v' (l ++ k) → w0.grownBy w' v.ownBlock → wpList Try.prog ops Q rest (a.put o.dst v') w') :
    wpList Try.prog ops Q (o :: rest) a w0 := by
  obtain ⟨i0, hi, hz0, hz1, hz2⟩ := info_parts infoMeas
  refine wpList_append_own_at _ hgd s x 22 ho B 36 i0 (.agg #[.int .i64 0, .int .i64 0, .int .i64 0, .int .i64 0, .int .i64 0, .int .i64 0]) 6 48 Try.underlying22 hi hz0 hz1 hz2 rfl (by decide) v l.length (msC l) hs h ⟨g, 0, none⟩ k.length c (msC k) hx (msC_len k) ?_ ?_ (by unfold maxLen; omega) (by omega) hB ?_
  · intro j u hu
    have hj : j < k.length * 6 := by
      rw [← msC_len]
      exact (List.getElem?_eq_some_iff.1 hu).1
    have hadd : (⟨g, 0, none⟩ : Addr).add j = ⟨g, j, none⟩ := by unfold Addr.add; split <;> simp_all
    rw [hadd]
    obtain ⟨i, hi6, hj'⟩ : ∃ i, i < k.length ∧ (j = i * 6 ∨ j = i * 6 + 1 ∨ j = i * 6 + 2 ∨ j = i * 6 + 3 ∨ j = i * 6 + 4 ∨ j = i * 6 + 5) := ⟨j / 6, by omega, by omega⟩
    obtain ⟨m0, m1, m2, m3, m4, m5⟩ := msC_get k i hi6
    have n := nth_eq hi6
    clear hj hadd
    rcases hj' with rfl | rfl | rfl | rfl | rfl | rfl
    · have := hk.c0 i hi6; rw [Nat.zero_add, n] at this; rw [this, ← hu]; exact m0.symm
    · have := hk.c1 i hi6; rw [Nat.zero_add, n] at this; rw [this, ← hu]; exact m1.symm
    · have := hk.c2 i hi6; rw [Nat.zero_add, n] at this; rw [this, ← hu]; exact m2.symm
    · have := hk.c3 i hi6; rw [Nat.zero_add, n] at this; rw [this, ← hu]; exact m3.symm
    · have := hk.c4 i hi6; rw [Nat.zero_add, n] at this; rw [this, ← hu]; exact m4.symm
    · have := hk.c5 i hi6; rw [Nat.zero_add, n] at this; rw [this, ← hu]; exact m5.symm
  · intro u hu
    unfold msC at hu
    rw [List.mem_flatMap] at hu
    obtain ⟨m, _, hu⟩ := hu
    simp only [List.mem_cons, List.not_mem_nil, or_false] at hu
    rcases hu with rfl | rfl | rfl | rfl | rfl | rfl <;> rfl
  · intro v' w' ho' hg _ hat
    exact H v' w' (by unfold OM; rw [List.length_append, msC_append]; exact ho') hg

theorem om_some {B : Nat} {w : World} {v : Value} {l : List Ms} (h : OM B w v l) (hn : 0 < l.length) : ∃ g cap, v = .slice (some ⟨g, 0, none⟩) l.length cap ∧ l.length ≤ cap ∧ cap ≤ 9223372036854775807 ∧ B ≤ g ∧ MsAt l g 0 w := by
  rcases om_cases h with ⟨_, rfl⟩ | ⟨g, cap, h1, h2, h3, h4, h5, _⟩
  · exact absurd hn (by simp)
  · exact ⟨g, cap, h1, h2, h3, h4, h5⟩

def cutL (l : List Ms) : List Ms := l.take 18
theorem cut_len (l : List Ms) : (cutL l).length ≤ 18 := by unfold cutL; rw [List.length_take]; omega
set_option maxHeartbeats 1000000 in
theorem cut_any (l : List Ms) (v : Value) (w : World) (h : LstAt l v w) :
    Calls Try.prog 10 #[v] w fun e w' => (∃ p cap, e = .returned (.slice p (cutL l).length cap) ∧ LstAt (cutL l) (.slice p (cutL l).length cap) w) ∧ w = w' := by
  rcases h with ⟨rfl, rfl⟩ | ⟨b, o, cap, rfl, h2, h3, h4⟩
  · go_enter Try.func10, Try.ntmps10
    go_wp2
    go_ret
    exact ⟨⟨none, 0, rfl, .inl ⟨rfl, rfl⟩⟩, rfl⟩
  · have H := Lib.hid h4
    clear h4
    by_cases q : l.length ≤ 18
    · have m : min (l.length : Int) 18 = l.length := by omega
      have e : cutL l = l := by unfold cutL; rw [List.take_of_length_le q]
      have E := Lib.hid e
      clear e
      go_enter Try.func10, Try.ntmps10
      go_wp2
      go_ret
      rw [E.out]
      exact ⟨⟨_, _, rfl, .inr ⟨b, o, cap, rfl, h2, h3, H.out⟩⟩, rfl⟩
    · have m : min (l.length : Int) 18 = 18 := by omega
      have e : (cutL l).length = 18 := by unfold cutL; rw [List.length_take]; omega
      have E := Lib.hid e
      have q' : 18 ≤ cap := by omega
      clear e
      go_enter Try.func10, Try.ntmps10
      go_wp2
      go_ret
      rw [E.out]
      exact ⟨⟨_, _, rfl, .inr ⟨b, o, cap, by rw [E.out], by rw [E.out]; exact q', h3, H.out.take 18⟩⟩, rfl⟩

end Go.Proofs.Ytplgdlooglnpmaa
