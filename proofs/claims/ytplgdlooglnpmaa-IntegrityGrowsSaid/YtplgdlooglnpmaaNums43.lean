/-
  A parameter that is a slice of numbers of 64 bits.
-/
import Derived.Test.YtplgdlooglnpmaaStructs43
import Derived.Test.YtplgdlooglnpmaaLsqOne
namespace Go.Proofs.Ytplgdlooglnpmaa
set_option linter.unusedVariables false
open Go.ChangeShapes Go.WideShapes Go.ChangeAt Go.RowKit Go.Joins

/-- a slice that holds these numbers -/
def NumsAt (l : List Int) (v : Value) (w : World) : Prop := (v = .slice none 0 0 ∧ l = []) ∨ ∃ b o cap, v = .slice (some ⟨b, o, none⟩) l.length cap ∧ l.length ≤ cap ∧ cap ≤ 9223372036854775807 ∧ b < w.heap.size ∧ (∀ i, i < l.length → w.cell? ⟨b, o + i, none⟩ = some (.int .i64 (l.getD i 0))) ∧ ∀ i, i < l.length → I64 (l.getD i 0)
theorem NumsAt.below {l : List Int} {v : Value} {w w' : World} (h : NumsAt l v w) (hb : Below w.heap.size w w') : NumsAt l v w' := by
  rcases h with h | ⟨b, o, cap, h1, h2, h3, h4, h5, h6⟩
  · exact .inl h
  · exact .inr ⟨b, o, cap, h1, h2, h3, Nat.lt_of_lt_of_le h4 hb.size, fun i hi => (hb.cell (p := ⟨b, o + i, none⟩) h4).trans (h5 i hi), h6⟩
theorem nums_form {l : List Int} {v : Value} {w : World} (h : NumsAt l v w) : ∃ p cap, v = .slice p l.length cap := by
  rcases h with ⟨rfl, rfl⟩ | ⟨b, o, cap, rfl, _⟩
  · exact ⟨none, 0, rfl⟩
  · exact ⟨_, _, rfl⟩
theorem nums_at {l : List Int} {p : Option Addr} {cap : Nat} {w : World} (h : NumsAt l (.slice p l.length cap) w) {k : Nat} (q : k < l.length) : ∃ b o, p = some ⟨b, o, none⟩ ∧ l.length ≤ cap ∧ cap ≤ 9223372036854775807 ∧ b < w.heap.size ∧ w.cell? ⟨b, o + k, none⟩ = some (.int .i64 (l.getD k 0)) ∧ I64 (l.getD k 0) := by
  rcases h with ⟨_, rfl⟩ | ⟨b, o, cap', e, h2, h3, h4, h5, h6⟩
  · exact absurd q (by simp)
  · injection e with e1 e2 e3
    subst e3
    exact ⟨b, o, e1, h2, h3, h4, h5 k q, h6 k q⟩
section
variable {H : Type} {enc : TypeId × Value → H} {W : World} {base : Nat} {spare : Nat → Bool} {held : Bool} {b0 : Nat}
set_option maxRecDepth 100000 in
/-- a parameter that is a slice of numbers -/
theorem open_nums {v : Value} {d : DataW H} {p : List MemPlace} (hv : Value.okWide Try.prog W .any b0 41 v) (h : DataW.Trod enc Try.prog W 0 (fun _ => true) true 41 v d p) :
    ∃ l : List Int, NumsAt l v W := by
  have hok := hv
  simp only [Value.okWide, Try.underlying41, Cell.okWide] at hok
  obtain ⟨fuel, hf⟩ := h
  obtain ⟨ao, len, cap, rfl⟩ := okWide_slice Try.underlying41 hv
  rcases Go.Deep.open_slice Try.underlying41 hf with ⟨hc, _⟩ | ⟨a, len', cap', m, n, D, Pl, hc, _, hlc, _, hm, _, hi⟩
  · have hc' : [Value.slice ao len cap] = [Value.slice none 0 0] := hc
    exact ⟨[], .inl ⟨List.cons.inj hc' |>.1, rfl⟩⟩
  · have hc0 : [Value.slice ao len cap] = [Value.slice (some a) len' cap'] := hc
    have hc' := (List.cons.inj hc0).1
    clear hc0
    cases hc'
    simp only [if_true] at hm
    subst hm
    have hhas : len ≤ m ∧ (m : Int) ≤ IntKind.i64.max ∧ W.has Try.prog .any b0 a 2 m := by simpa [Cell.ok, Try.underlying41] using hok
    obtain ⟨_, hmax, _, hsp, row, cells, hsh, _⟩ := hhas
    have hlt : a.block < W.heap.size := by
      unfold World.shape? at hsh
      split at hsh
      · rename_i q
        exact (Array.getElem?_eq_some_iff.1 q).1
      · cases hsh
    have key : ∀ i, i < len → ∃ x : Int, W.cell? ⟨a.block, a.off + i, none⟩ = some (.int .i64 x) ∧ I64 x := by
      intro i hil
      obtain ⟨cs, hcs, ht⟩ := hi i (by omega)
      rw [cells_of_int64] at hcs
      obtain ⟨_, hl, hat⟩ := World.cells?_some hcs
      match cs, hl with
      | [c0], _ =>
        obtain ⟨a0, e0, r0, w0⟩ := DataW.trod_int Try.underlying2 ht
        obtain rfl : c0 = .int .i64 a0 := by simpa using e0
        have ad : (a.add (i * 1)).add 0 = ⟨a.block, a.off + i, none⟩ := by
          rw [Go.Deep.add_add]
          unfold Addr.add
          obtain ⟨ab, af, asp⟩ := a
          simp only at hsp
          subst hsp
          split
          · rename_i e
            simp only [Addr.mk.injEq, and_true, true_and]
            omega
          · simp only [Addr.mk.injEq, and_true, true_and]
            omega
        refine ⟨a0, by have := hat 0 (by omega); rw [ad] at this; exact this, ?_⟩
        simp [Lit.wf, IntKind.min, IntKind.max, IntKind.signed, IntKind.bits] at w0
        exact ⟨by omega, by omega⟩
    obtain ⟨f, hf⟩ := Go.Deep.choose_lt key
    have hlen : ((List.range len).map f).length = len := by simp
    have hn : ∀ i, i < len → ((List.range len).map f).getD i 0 = f i := fun i hil => by
      rw [List.getD_eq_getElem?_getD, List.getElem?_map, List.getElem?_range hil]
      rfl
    obtain ⟨ab, af, asp⟩ := a
    simp only at hsp
    subst hsp
    refine ⟨(List.range len).map f, .inr ⟨ab, af, m, by rw [hlen], by rw [hlen]; exact hlc, by simp [IntKind.max, IntKind.signed, IntKind.bits] at hmax; omega, hlt, fun i hil => ?_, fun i hil => ?_⟩⟩
    · rw [hlen] at hil
      rw [hn i hil]
      exact (hf i hil).1
    · rw [hlen] at hil
      rw [hn i hil]
      exact (hf i hil).2
end
end Go.Proofs.Ytplgdlooglnpmaa
